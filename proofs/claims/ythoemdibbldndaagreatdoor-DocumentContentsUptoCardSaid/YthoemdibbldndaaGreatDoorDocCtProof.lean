/- Content returns what the reference returns, for any documents and parts. -/
import Derived.Test.YthoemdibbldndaaGreatDoorDocCt
import Derived.Test.YthoemdibbldndaaGreatDoorOpenDoc
import Derived.WalkKit
import Derived.ProofKit
import Derived.OpenShut
import Derived.ShutString
import Derived.ChangeOld
import Derived.Below
import Derived.Lib.SmallJoins
import Derived.Test.YthoemdibbldndaaGreatDoorCards
import Derived.Test.YthoemdibbldndaaGreatDoorTie
import Derived.LaidMore
import Derived.Lay
import Derived.Stop.LaidErr
import Derived.Stop.Joined
import Derived.Lib.LaidTab
import Derived.Deep.DeepHandedRow
set_option linter.unusedVariables false
set_option linter.unusedSimpArgs false
set_option maxHeartbeats 12800000
namespace Go.Proofs.YthoemdibbldndaaGreatDoor.documentContents
open Go.ChangeShapes Go.WideShapes Go.ChangeAt Go.RowKit Go.Joins
open Go.ChangeMaps (open_string shut_string)
theorem own:ownKnob Tryz.prog.godebug=none:=by kernel_rfl
theorem laidOut:laidOutB Tryz.prog=true:=by kernel_rfl
theorem hasLib{W:World}(hsh:W.ShapedOpen Tryz.prog)(h:laidMetH Tryz.prog Rows.documentContentsUptoRow.laid W):Mk.LibAt W:=by
 rw[MakeChecks.laidMetH_plain _ _ _ (by kernel_rfl)] at h;obtain⟨m,hm⟩:=maxlen_some hsh;exact⟨Lib.tabIs_of_head (g:=3) (by kernel_rfl) (by kernel_rfl) Tryz.underlying289 Tryz.underlying270 (by kernel_rfl) (by kernel_rfl) ((laidMet.tail (laidMet.tail h))),m,zbL _ _ hm,hm⟩
theorem reads(os:Os){H:Type}(enc:TypeId × Value->H):∃ places,DataW.whole enc Tryz.prog ((World.laidAll Tryz.prog os Rows.documentContentsUptoRow.laid).forCall (fun _ _=>0) ⟨#[],#[.agg #[.int .i64 0,.slice none 0 0],.int .i64 0,.slice none 0 0],[]⟩).memory Tryz.f6.params.toList Rows.documentContentsSpec.vars false (#[.agg #[.int .i64 0,.slice none 0 0],.int .i64 0,.slice none 0 0]:Array Value).toList 8=some ([.agg [.lit (.int .i64 0),.nil],.lit (.int .i64 0),.nil],[],places):=
 ⟨[],by kernel_rfl⟩
set_option maxRecDepth 100000 in
theorem lifted(os:Os)(started:os.Started)(H:Type)(enc:TypeId × Value->H)(F:Stop.Interp) :
  ReturnsInHanded {} Tryz.checked os 6 .any ((Rows.OpenSpec.upto Rows.documentContentsSpec).preRow enc Tryz.prog Tryz.f6 Rows.documentContentsUptoRow.domain false Rows.documentContentsUptoRow.laid) (((Rows.OpenSpec.upto Rows.documentContentsSpec).at F).post enc Tryz.prog Tryz.f6 false true false false):=by
 obtain⟨places,hx⟩:=reads os enc
 refine returnsInHanded_of_row (C:=Tryz.checked) (s:=Rows.OpenSpec.upto Rows.documentContentsSpec) own started (by kernel_rfl) Tryz.func6
  ⟨World.laidAll Tryz.prog os Rows.documentContentsUptoRow.laid,fun _ _=>0,⟨#[],#[.agg #[.int .i64 0,.slice none 0 0],.int .i64 0,.slice none 0 0],[]⟩,World.laidAll_os _ _ _,World.shaped_of_ZipB (by kernel_rfl) (by kernel_rfl),rfl,(Input.okWide_of_okWideB (by kernel_rfl)).2,
   OpenSpec.preRow_of_cond 8 hx (by kernel_rfl) (fun k hk=>by cases hk;kernel_rfl) (by kernel_rfl) (by rw[MakeChecks.laidMetH_plain _ _ _ (by kernel_rfl)];exact laidMet_laidAll _ (by kernel_rfl) (by kernel_rfl)),
   by simp only[Assume.holds];exact⟨by simp,by simp,fun _=>Modest.zero,by simp,by simp⟩⟩ ?_
 intro W base args ds gs before hval0 hW _ hcond _ hL hsh _
 show Calls _ _ _ _ fun e W'=>∃ v,e=.returned v/\Rows.documentContentsSpec.post enc Tryz.prog Tryz.f6 false true false false W args v W'
 have hbk:Rows.uptoBulkAll (ds++gs)<=1048576:=of_decide_eq_true (hcond _ rfl);have hval:∀ (j:Nat) t v,Tryz.f6.params[j]?=some t->args[j]?=some v->Value.okWide Tryz.prog W .any base t v:=hval0;have hW':=hW;obtain⟨p,q,hA0,hV,rfl,_,_⟩:=hW;have hA:DataW.TrodAll enc Tryz.prog W 0 (fun _=>true) true Tryz.f6.params.toList args.toList ds p:=hA0;rw[Tryz.params6] at hA hval;obtain⟨v0,vs0,d0,ds0,p0,q0,hargs,rfl,rfl,h0,r0⟩:=trodAll_cons hA;obtain⟨v1,vs1,d1,ds1,p1,q1,rfl,rfl,rfl,h1,r1⟩:=trodAll_cons r0;obtain⟨v2,vs2,d2,ds2,p2,q2,rfl,rfl,rfl,h2,r2⟩:=trodAll_cons r1;obtain⟨rfl,rfl,rfl⟩:=trodAll_nil r2;obtain rfl:args=#[v0,v1,v2]:=by cases args;simp_all
 obtain⟨rfl,rfl⟩:=trodVars_none hV;have k0:=h0;have lt0:∀ x ∈ p0,x.block<W.heap.size:=by obtain⟨m,hm⟩:=k0;exact DataW.trod_lt m _ _ _ hm
 obtain⟨x00,x01,y00,y01,m0,rfl,rfl,rfl,hy00,hy01⟩:=open_agg2 Tryz.underlying25 (by kernel_rfl) (by kernel_rfl) (hval 0 25 v0 rfl rfl) h0;obtain⟨x_f,e00,rfl,w_x⟩:=DataW.trod_int Tryz.underlying3 hy00;obtain⟨x_a,x_n,x_c,x_p,e01,e_x,q_x,c_x,m_x,b_x⟩:=open_parts hy01;simp at e00 e01;subst e00 e01;have k1:=h1;have lt1:∀ x ∈ p1,x.block<W.heap.size:=by obtain⟨m,hm⟩:=k1;exact DataW.trod_lt m _ _ _ hm
 obtain⟨k,rfl,rfl,rfl,w_k⟩:=open_int Tryz.underlying3 (hval 1 3 v1 rfl rfl) h1;have k2:=h2;have lt2:∀ x ∈ p2,x.block<W.heap.size:=by obtain⟨m,hm⟩:=k2;exact DataW.trod_lt m _ _ _ hm
 obtain⟨l_a,l_len,l_cap,rfl⟩:=okWide_slice Tryz.underlying42 (hval 2 42 v2 rfl rfl)
 obtain⟨l_z,e_l,w_l,m_l⟩:∃ zs,zs.length=l_len/\IntsAt W l_a zs/\l_len<=9223372036854775807:=by
  obtain⟨fuel,hf⟩:=h2;obtain⟨D,zs,c,e,g1,g2⟩:=open_docs (by simpa [Value.cells] using hf);simp at e;obtain⟨rfl,rfl,rfl⟩:=e;unfold maxLen at g2;exact⟨zs,rfl,g1,g2⟩
 clear hA0 hval0;simp only[List.append_nil,Rows.uptoBulkAll,Rows.uptoBulk] at hbk;refine(contents_any x_f x_a l_a x_n x_c l_len l_cap x_p l_z k W (hasLib hsh hL) e_x q_x (by omega) e_l m_l w_l).mono fun e W' ⟨he,hu⟩=>?_
 subst he;have bel:=hu.below;exact⟨_,rfl,_,_,_,[],_,[],hW',trodAll_mk1 (shut_bool Tryz.underlying4 _),(trodAll_cons_mk (Below.trod laidOut (by kernel_rfl) (of_decide_eq_true (by kernel_rfl)) k0 bel lt0) (trodAll_cons_mk (Below.trod laidOut (by kernel_rfl) (of_decide_eq_true (by kernel_rfl)) k1 bel lt1) (trodAll_cons_mk (Below.trod laidOut (by kernel_rfl) (of_decide_eq_true (by kernel_rfl)) k2 bel lt2) trodAll_mk0))),rfl,bel.frame _,fun h=>by cases h⟩
theorem closed0:(Rows.documentContentsUptoRow.inPlace==Tryz.pinned.checked.prog.inPlace 6)=true:=by kernel_rfl
theorem closed1:(Rows.documentContentsUptoRow.unfollowed==Tryz.pinned.checked.prog.unfollowed 6)=true:=by kernel_rfl
theorem closed2:(Rows.documentContentsUptoRow.recurses==Tryz.pinned.checked.prog.recurses 6)=true:=by kernel_rfl
theorem closed3:(Rows.documentContentsUptoRow.named==Tryz.pinned.checked.prog.varsNamed 6)=true:=by kernel_rfl
theorem closed:joinedFacts Tryz.pinned.checked.prog 6 Tryz.f6 (Rows.OpenSpec.upto Rows.documentContentsSpec).bare Rows.documentContentsUptoRow=true:=by
 unfold joinedFacts;rw[closed0,closed1,closed2,closed3]
 kernel_rfl
theorem named:Tryz.pinned.checked.prog.funcNamed Rows.documentContentsUptoRow.func=some 6:=by kernel_rfl
theorem said:Rows.DocumentContentsUptoSaid:=
 OpenClaim.holds_of_cond 6 Tryz.f6 rfl rfl rfl rfl rfl rfl rfl ⟨rfl,rfl,rfl,rfl,rfl⟩ rfl rfl rfl rfl rfl named Tryz.func6 closed
  (of_decide_eq_true (by kernel_rfl)) (by unfold Func.isWrapper;first|(rw[if_pos (by decide +kernel)];kernel_rfl)|(rw[if_neg (by decide +kernel)];exact⟨rfl,rfl⟩))
  (fun os started H enc _ F=>by rw[OpenClaim.pre_eq_preRow];exact lifted os started H enc F)
theorem plain(f:FuncId)(fn:Func)(hf:Tryz.pinned.checked.prog.funcNamed Rows.documentContentsUptoRow.func=some f)(hfn:Tryz.pinned.checked.prog.funcs[f]?=some fn) :
  Rows.documentContentsUptoCard.stood.looks=Tryz.pinned.checked.prog.looks []/\∀ (j:Nat) t,fn.params[j]?=some t->Tryz.pinned.checked.prog.wantsStandIn t=false:=by
 obtain rfl:f=6:=Option.some.inj ((show Tryz.prog.funcNamed Rows.documentContentsUptoRow.func=some 6 by kernel_rfl).symm.trans hf) |>.symm
 obtain rfl:fn=Tryz.f6:=(Option.some.inj (Tryz.func6.symm.trans hfn)).symm;refine⟨by kernel_rfl,fun j t ht=>?_⟩;rw[Tryz.params6] at ht;have hm:=Array.mem_of_getElem? ht;have hall:(#[25,3,42].all fun u=>!Tryz.prog.wantsStandIn u)=true:=by kernel_rfl
 exact(show Tryz.prog.wantsStandIn t=false by simpa using (Array.all_eq_true_iff_forall_mem.1 hall t hm))
theorem proved:Rows.DocumentContentsUptoCardSaid:=
 Claim7.holds_tied_plain_at .later [] _ _ _ _ said (fun _ h=>by cases h) (by kernel_rfl) (fun _ h=>by cases h) documentContentsUpto_row_tie rfl ⟨rfl,rfl⟩ (by kernel_rfl) rfl plain (by kernel_rfl)
#print axioms proved
end Go.Proofs.YthoemdibbldndaaGreatDoor.documentContents
