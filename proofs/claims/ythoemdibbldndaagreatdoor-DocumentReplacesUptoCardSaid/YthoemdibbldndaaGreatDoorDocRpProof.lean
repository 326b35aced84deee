/- Replace writes what the reference writes, for any documents, parts, ranges and items. -/
import Derived.Test.YthoemdibbldndaaGreatDoorDocRp
import Derived.Test.YthoemdibbldndaaGreatDoorOpn
import Derived.WalkKit
import Derived.ProofKit
import Derived.OpenShut
import Derived.ShutString
import Derived.ChangeOld
import Derived.Below
import Derived.Lib.SmallJoins
import Derived.Test.YthoemdibbldndaaGreatDoorCards
import Derived.Test.YthoemdibbldndaaGreatDoorTie
import Derived.LaidMore
import Derived.Lay
import Derived.Stop.LaidErr
import Derived.Stop.Joined
import Derived.Lib.LaidTab
import Derived.Deep.DeepHandedRow
set_option linter.unusedVariables false
set_option linter.unusedSimpArgs false
set_option maxHeartbeats 12800000
namespace Go.Proofs.YthoemdibbldndaaGreatDoor.documentReplaces
open Go.ChangeShapes Go.WideShapes Go.ChangeAt Go.RowKit Go.Joins
open Go.ChangeMaps (open_string shut_string)
theorem own:ownKnob Tryz.prog.godebug=none:=by kernel_rfl
theorem laidOut:laidOutB Tryz.prog=true:=by kernel_rfl
theorem hasLib{W:World}(hsh:W.ShapedOpen Tryz.prog)(h:laidMetH Tryz.prog Rows.documentReplacesUptoRow.laid W):Mk.ko W:=by
 rw[MakeChecks.laidMetH_plain _ _ _ (by kernel_rfl)]at h;obtain⟨m,hm⟩:=Cp hsh;exact⟨Lib.tabIs_of_head (g:=3) (by kernel_rfl) (by kernel_rfl) Tryz.underlying289 Tryz.underlying270 (by kernel_rfl) (by kernel_rfl) ((laidMet.tail (laidMet.tail h))),m,cd _ _ hm,hm⟩
theorem reads(os:Os){H:Type}(enc:TypeId × Value->H):∃places,DataW.whole enc Tryz.prog ((World.laidAll Tryz.prog os Rows.documentReplacesUptoRow.laid).forCall (λ_ _=>0) ⟨#[],#[.slice none 0 0,.slice none 0 0,.int .i64 0,.slice none 0 0,.slice none 0 0],[]⟩).memory Tryz.f7.params.toList Rows.documentReplacesSpec.vars false (#[.slice none 0 0,.slice none 0 0,.int .i64 0,.slice none 0 0,.slice none 0 0]:Array Value).toList 8=some ([.nil,.nil,.lit (.int .i64 0),.nil,.nil],[],places):=
 ⟨[],by kernel_rfl⟩
set_option maxRecDepth 100000 in
theorem lifted(os:Os)(started:os.Started)(H:Type)(enc:TypeId × Value->H)(F:Stop.Interp) :
  ReturnsInHanded {} Tryz.checked os 7 .any ((Rows.OpenSpec.upto Rows.documentReplacesSpec).preRow enc Tryz.prog Tryz.f7 Rows.documentReplacesUptoRow.domain false Rows.documentReplacesUptoRow.laid) (((Rows.OpenSpec.upto Rows.documentReplacesSpec).at F).post enc Tryz.prog Tryz.f7 false true false false):=by
 obtain⟨places,hx⟩:=reads os enc
 refine returnsInHanded_of_row (C:=Tryz.checked) (s:=Rows.OpenSpec.upto Rows.documentReplacesSpec) own started (by kernel_rfl) Tryz.func7
  ⟨World.laidAll Tryz.prog os Rows.documentReplacesUptoRow.laid,λ_ _=>0,⟨#[],#[.slice none 0 0,.slice none 0 0,.int .i64 0,.slice none 0 0,.slice none 0 0],[]⟩,World.laidAll_os _ _ _,World.shaped_of_ZipB (by kernel_rfl) (by kernel_rfl),rfl,(Input.okWide_of_okWideB (by kernel_rfl)).2,
   OpenSpec.preRow_of_cond 8 hx (by kernel_rfl) (λk hk=>by cases hk;kernel_rfl) (by kernel_rfl) (by rw[MakeChecks.laidMetH_plain _ _ _ (by kernel_rfl)];exact laidMet_laidAll _ (by kernel_rfl) (by kernel_rfl)),
   by simp only[Assume.holds];exact⟨by simp,by simp,λ_=>Modest.zero,by simp,by simp⟩⟩ ?_
 intro W base args ds gs before hval0 hW _ hcond _ hL hsh _
 show Calls _ _ _ _ λe W'=>∃v,e=.returned v/\Rows.documentReplacesSpec.post enc Tryz.prog Tryz.f7 false true false false W args v W'
 have hbk:Rows.uptoBulkAll (ds++gs)<=1048576:=of_decide_eq_true (hcond _ rfl);have hval:∀(j:Nat) t v,Tryz.f7.params[j]?=some t->args[j]?=some v->Value.okWide Tryz.prog W .any base t v:=hval0;have hW':=hW;obtain⟨p,q,hA0,hV,rfl,_,_⟩:=hW;have hA:DataW.TrodAll enc Tryz.prog W 0 (λ_=>true) true Tryz.f7.params.toList args.toList ds p:=hA0;rw[Tryz.params7]at hA hval;obtain⟨v0,vs0,d0,ds0,p0,q0,hargs,rfl,rfl,h0,r0⟩:=trodAll_cons hA;obtain⟨v1,vs1,d1,ds1,p1,q1,rfl,rfl,rfl,h1,r1⟩:=trodAll_cons r0;obtain⟨v2,vs2,d2,ds2,p2,q2,rfl,rfl,rfl,h2,r2⟩:=trodAll_cons r1;obtain⟨v3,vs3,d3,ds3,p3,q3,rfl,rfl,rfl,h3,r3⟩:=trodAll_cons r2;obtain⟨v4,vs4,d4,ds4,p4,q4,rfl,rfl,rfl,h4,r4⟩:=trodAll_cons r3;obtain⟨rfl,rfl,rfl⟩:=trodAll_nil r4;obtain rfl:args=#[v0,v1,v2,v3,v4]:=by cases args;simp_all
 obtain⟨rfl,rfl⟩:=trodVars_none hV;have k0:=h0;have TU:∀x∈p0,x.block<W.1.size:=by obtain⟨m,hm⟩:=k0;exact DataW.trod_lt m _ _ _ hm
 obtain⟨Q9,l_len,l_cap,rfl⟩:=okWide_slice Tryz.underlying42 (hval 0 42 v0 rfl rfl)
 obtain⟨TT,e_l,w_l,m_l⟩:∃zs,zs.length=l_len/\fh W Q9 zs/\l_len<=9223372036854775807:=by
  obtain⟨fuel,hf⟩:=h0;obtain⟨D,zs,c,e,g1,g2⟩:=yB (by simpa[Value.cells]using hf);simp at e;obtain⟨rfl,rfl,rfl⟩:=e;unfold maxLen at g2;exact⟨zs,rfl,g1,g2⟩
 have k1:=h1;have TW:∀x∈p1,x.block<W.1.size:=by obtain⟨m,hm⟩:=k1;exact DataW.trod_lt m _ _ _ hm
 obtain⟨Re,m_len,m_cap,rfl⟩:=okWide_slice Tryz.underlying42 (hval 1 42 v1 rfl rfl)
 obtain⟨T0,e_m,w_m,m_m⟩:∃zs,zs.length=m_len/\fh W Re zs/\m_len<=9223372036854775807:=by
  obtain⟨fuel,hf⟩:=h1;obtain⟨D,zs,c,e,g1,g2⟩:=yB (by simpa[Value.cells]using hf);simp at e;obtain⟨rfl,rfl,rfl⟩:=e;unfold maxLen at g2;exact⟨zs,rfl,g1,g2⟩
 have k2:=h2;have TX:∀x∈p2,x.block<W.1.size:=by obtain⟨m,hm⟩:=k2;exact DataW.trod_lt m _ _ _ hm
 obtain⟨k,rfl,rfl,rfl,w_k⟩:=open_int Tryz.underlying3 (hval 2 3 v2 rfl rfl) h2;have k3:=h3;have TY:∀x∈p3,x.block<W.1.size:=by obtain⟨m,hm⟩:=k3;exact DataW.trod_lt m _ _ _ hm
 obtain⟨Rh,r_len,r_cap,rfl⟩:=okWide_slice Tryz.underlying34 (hval 3 34 v3 rfl rfl)
 obtain⟨T5,e_r,w_r,m_r⟩:∃f:List (Int × Int),f.length=r_len/\dL W Rh f/\r_len<=9223372036854775807:=by
  obtain⟨fuel,hf⟩:=h3;obtain⟨A,n,c,f,e,g1,g2,g3,g4⟩:=Ct (by simpa[Value.cells]using hf);simp at e;obtain⟨rfl,rfl,rfl⟩:=e;unfold maxLen at g4;exact⟨f,g1,g2,by omega⟩
 have k4:=h4;have TZ:∀x∈p4,x.block<W.1.size:=by obtain⟨m,hm⟩:=k4;exact DataW.trod_lt m _ _ _ hm
 obtain⟨OQ,t_len,t_cap,rfl⟩:=okWide_slice Tryz.underlying37 (hval 4 37 v4 rfl rfl)
 obtain⟨Ub,e_t,w_t,q_t,m_t,t_t,b_t⟩:∃f:List St.It,f.length=t_len/\aE W OQ f/\t_len<=t_cap/\t_cap<=9223372036854775807/\(OQ=none->t_cap=0)/\aP f<=Rows.uptoBulk d4:=by
  obtain⟨fuel,hf⟩:=h4;obtain⟨A,n,c,f,e,g1,g2,g3,g4,g5,g6⟩:=Cs (by simpa[Value.cells]using hf);simp at e;obtain⟨rfl,rfl,rfl⟩:=e;unfold maxLen at g4;exact⟨f,g1,g2,g3,g4,g5,g6⟩
 clear hA0 hval0;simp only[List.append_nil,Rows.uptoBulkAll,Rows.uptoBulk]at hbk;refine(BJ Q9 Re Rh OQ l_len l_cap m_len m_cap r_len r_cap t_len t_cap TT T0 k T5 Ub W (hasLib hsh hL) e_l m_l w_l e_m m_m w_m e_r m_r w_r e_t q_t m_t t_t w_t (by omega)).mono λe W' ⟨he,hu⟩=>?_
 subst he;have CT:=hu.below;exact⟨_,rfl,_,_,_,[],_,[],hW',trodAll_mk1 (shut_bool Tryz.underlying4 _),(trodAll_cons_mk (Below.trod laidOut (by kernel_rfl) (of_decide_eq_true (by kernel_rfl)) k0 CT TU) (trodAll_cons_mk (Below.trod laidOut (by kernel_rfl) (of_decide_eq_true (by kernel_rfl)) k1 CT TW) (trodAll_cons_mk (Below.trod laidOut (by kernel_rfl) (of_decide_eq_true (by kernel_rfl)) k2 CT TX) (trodAll_cons_mk (Below.trod laidOut (by kernel_rfl) (of_decide_eq_true (by kernel_rfl)) k3 CT TY) (trodAll_cons_mk (Below.trod laidOut (by kernel_rfl) (of_decide_eq_true (by kernel_rfl)) k4 CT TZ) trodAll_mk0))))),rfl,CT.frame _,λh=>by cases h⟩
theorem Lp:(Rows.documentReplacesUptoRow.inPlace==Tryz.pinned.checked.prog.inPlace 7)=true:=by kernel_rfl
theorem Lq:(Rows.documentReplacesUptoRow.unfollowed==Tryz.pinned.checked.prog.unfollowed 7)=true:=by kernel_rfl
theorem Lr:(Rows.documentReplacesUptoRow.recurses==Tryz.pinned.checked.prog.recurses 7)=true:=by kernel_rfl
theorem Ls:(Rows.documentReplacesUptoRow.named==Tryz.pinned.checked.prog.varsNamed 7)=true:=by kernel_rfl
theorem closed:joinedFacts Tryz.pinned.checked.prog 7 Tryz.f7 (Rows.OpenSpec.upto Rows.documentReplacesSpec).bare Rows.documentReplacesUptoRow=true:=by
 unfold joinedFacts;rw[Lp,Lq,Lr,Ls]
 kernel_rfl
theorem named:Tryz.pinned.checked.prog.funcNamed Rows.documentReplacesUptoRow.func=some 7:=by kernel_rfl
theorem said:Rows.DocumentReplacesUptoSaid:=
 OpenClaim.holds_of_cond 7 Tryz.f7 rfl rfl rfl rfl rfl rfl rfl ⟨rfl,rfl,rfl,rfl,rfl⟩ rfl rfl rfl rfl rfl named Tryz.func7 closed
  (of_decide_eq_true (by kernel_rfl)) (by unfold Func.isWrapper;first|(rw[if_pos (by decide +kernel)];kernel_rfl)|(rw[if_neg (by decide +kernel)];exact⟨rfl,rfl⟩))
  (λos started H enc _ F=>by rw[OpenClaim.pre_eq_preRow];exact lifted os started H enc F)
theorem plain(f:FuncId)(fn:Func)(hf:Tryz.pinned.checked.prog.funcNamed Rows.documentReplacesUptoRow.func=some f)(hfn:Tryz.pinned.checked.prog.funcs[f]?=some fn) :
  Rows.documentReplacesUptoCard.stood.looks=Tryz.pinned.checked.prog.looks []/\∀(j:Nat) t,fn.params[j]?=some t->Tryz.pinned.checked.prog.wantsStandIn t=false:=by
 obtain rfl:f=7:=Option.some.inj ((show Tryz.prog.funcNamed Rows.documentReplacesUptoRow.func=some 7 by kernel_rfl).symm.trans hf) |>.symm
 obtain rfl:fn=Tryz.f7:=(Option.some.inj (Tryz.func7.symm.trans hfn)).symm;refine⟨by kernel_rfl,λj t ht=>?_⟩;rw[Tryz.params7]at ht;have hm:=Array.mem_of_getElem? ht;have hall:(#[42,42,3,34,37].all λu=>!Tryz.prog.wantsStandIn u)=true:=by kernel_rfl
 exact(show Tryz.prog.wantsStandIn t=false by simpa using(Array.all_eq_true_iff_forall_mem.1 hall t hm))
theorem proved:Rows.DocumentReplacesUptoCardSaid:=
 Claim7.holds_tied_plain_at .later [] _ _ _ _ said (λ_ h=>by cases h) (by kernel_rfl) (λ_ h=>by cases h) documentReplacesUpto_row_tie rfl ⟨rfl,rfl⟩ (by kernel_rfl) rfl plain (by kernel_rfl)
#print axioms proved
end Go.Proofs.YthoemdibbldndaaGreatDoor.documentReplaces
