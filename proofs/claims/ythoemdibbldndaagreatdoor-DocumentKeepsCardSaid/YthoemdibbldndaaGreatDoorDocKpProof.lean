/- Replacing ranges by compatible targets succeeds, gives a valid document with the same. -/
import Derived.Test.YthoemdibbldndaaGreatDoorDocKp
import Derived.Test.YthoemdibbldndaaGreatDoorOpn
import Derived.WalkKit
import Derived.ProofKit
import Derived.OpenShut
import Derived.ShutString
import Derived.ChangeOld
import Derived.Below
import Derived.Lib.SmallJoins
import Derived.Test.YthoemdibbldndaaGreatDoorCards
import Derived.Test.YthoemdibbldndaaGreatDoorTie
import Derived.LaidMore
import Derived.Lay
import Derived.Stop.LaidErr
import Derived.Stop.Joined
import Derived.Lib.LaidTab
set_option linter.unusedVariables false
set_option linter.unusedSimpArgs false
set_option maxHeartbeats 12800000
namespace Go.Proofs.YthoemdibbldndaaGreatDoor.documentKeeps
open Go.ChangeShapes Go.WideShapes Go.ChangeAt Go.RowKit Go.Joins
open Go.ChangeMaps (open_string shut_string)
theorem own:ownKnob Tryz.prog.godebug=none:=by kernel_rfl
theorem laidOut:laidOutB Tryz.prog=true:=by kernel_rfl
theorem hasLib{W:World}(hsh:W.ShapedOpen Tryz.prog)(h:laidMetH Tryz.prog Rows.documentKeepsRow.laid W):Mk.jQ W:=by
 rw[MakeChecks.laidMetH_plain _ _ _ (by kernel_rfl)]at h;obtain⟨m,hm⟩:=Ew hsh;exact⟨Lib.tabIs_of_head (g:=3) (by kernel_rfl) (by kernel_rfl) Tryz.underlying289 Tryz.underlying270 (by kernel_rfl) (by kernel_rfl) ((laidMet.tail (laidMet.tail h))),m,cx _ _ hm,hm⟩
set_option maxRecDepth 100000 in
theorem lifted(os:Os)(started:os.Started)(H:Type)(enc:TypeId × Value->H) :
  ReturnsInHanded {} Tryz.checked os 8 .any (λw args=>(Rows.documentKeepsSpec.pre enc Tryz.prog Tryz.f8 [] false w args/\laidMetH Tryz.prog Rows.documentKeepsRow.laid w)/\sizedMet enc Tryz.prog Tryz.f8 (OpenSpec.ofChange Rows.documentKeepsSpec) false w args)
   (Rows.documentKeepsSpec.post enc Tryz.prog Tryz.f8 false true false false):=by
 refine Bt (C:=Tryz.checked) (X:=λw=>laidMetH Tryz.prog Rows.documentKeepsRow.laid w) (λ_ _ hh h=>h.of_heap hh) own started (by kernel_rfl) Tryz.func8
  (ChangeSpec.witness_shaped (enc:=enc) (C:=Tryz.checked) (os:=os) (X:=λw _=>laidMetH Tryz.prog Rows.documentKeepsRow.laid w) false (World.laidAll Tryz.prog os Rows.documentKeepsRow.laid) #[.slice none 0 0,.slice none 0 0,.int .i64 0] 8 (World.laidAll_os _ _ _) (World.shaped_of_ZipB (by kernel_rfl) (by kernel_rfl)) (by kernel_rfl) (by kernel_rfl) (by kernel_rfl)
   (by rw[MakeChecks.laidMetH_plain _ _ _ (by kernel_rfl)];exact laidMet_laidAll _ (by kernel_rfl) (by kernel_rfl))) ?_
 intro W base args ds gs before hsh Oa hW _ hL;have hval:∀(j:Nat) t v,Tryz.f8.params[j]?=some t->args[j]?=some v->Value.okWide Tryz.prog W .any base t v:=Oa;have hW':=hW;obtain⟨p,q,hA0,hV,rfl,_,_⟩:=hW;have hA:DataW.TrodAll enc Tryz.prog W 0 (λ_=>true) true Tryz.f8.params.toList args.toList ds p:=hA0;rw[Tryz.params8]at hA hval;obtain⟨v0,vs0,d0,ds0,p0,q0,hargs,rfl,rfl,h0,r0⟩:=trodAll_cons hA;obtain⟨v1,vs1,d1,ds1,p1,q1,rfl,rfl,rfl,h1,r1⟩:=trodAll_cons r0;obtain⟨v2,vs2,d2,ds2,p2,q2,rfl,rfl,rfl,h2,r2⟩:=trodAll_cons r1;obtain⟨rfl,rfl,rfl⟩:=trodAll_nil r2;obtain rfl:args=#[v0,v1,v2]:=by cases args;simp_all
 obtain⟨rfl,rfl⟩:=trodVars_none hV;have k0:=h0;have WC:∀x∈p0,x.block<W.1.size:=by obtain⟨m,hm⟩:=k0;exact DataW.trod_lt m _ _ _ hm
 obtain⟨Uf,l_len,l_cap,rfl⟩:=okWide_slice Tryz.underlying42 (hval 0 42 v0 rfl rfl)
 obtain⟨WB,e_l,w_l,m_l⟩:∃zs,zs.length=l_len/\fq W Uf zs/\l_len<=9223372036854775807:=by
  obtain⟨fuel,hf⟩:=h0;obtain⟨D,zs,c,e,g1,g2⟩:=AL (by simpa[Value.cells]using hf);simp at e;obtain⟨rfl,rfl,rfl⟩:=e;unfold maxLen at g2;exact⟨zs,rfl,g1,g2⟩
 have k1:=h1;have WD:∀x∈p1,x.block<W.1.size:=by obtain⟨m,hm⟩:=k1;exact DataW.trod_lt m _ _ _ hm
 obtain⟨Ui,m_len,m_cap,rfl⟩:=okWide_slice Tryz.underlying42 (hval 1 42 v1 rfl rfl)
 obtain⟨WG,e_m,w_m,m_m⟩:∃zs,zs.length=m_len/\fq W Ui zs/\m_len<=9223372036854775807:=by
  obtain⟨fuel,hf⟩:=h1;obtain⟨D,zs,c,e,g1,g2⟩:=AL (by simpa[Value.cells]using hf);simp at e;obtain⟨rfl,rfl,rfl⟩:=e;unfold maxLen at g2;exact⟨zs,rfl,g1,g2⟩
 have k2:=h2;have WE:∀x∈p2,x.block<W.1.size:=by obtain⟨m,hm⟩:=k2;exact DataW.trod_lt m _ _ _ hm
 obtain⟨part,rfl,rfl,rfl,w_part⟩:=open_int Tryz.underlying3 (hval 2 3 v2 rfl rfl) h2;clear hA0 Oa;refine(Kb Uf Ui l_len l_cap m_len m_cap WB WG part W (hasLib hsh hL) e_l m_l w_l e_m m_m w_m).mono λe W' ⟨he,hu⟩=>?_
 subst he;have NM:=hu.below;exact⟨_,rfl,_,_,_,[],_,[],hW',trodAll_mk1 (shut_bool Tryz.underlying4 _),(trodAll_cons_mk (Below.trod laidOut (by kernel_rfl) (of_decide_eq_true (by kernel_rfl)) k0 NM WC) (trodAll_cons_mk (Below.trod laidOut (by kernel_rfl) (of_decide_eq_true (by kernel_rfl)) k1 NM WD) (trodAll_cons_mk (Below.trod laidOut (by kernel_rfl) (of_decide_eq_true (by kernel_rfl)) k2 NM WE) trodAll_mk0))),rfl,NM.frame _,λh=>by cases h⟩
theorem Om:(Rows.documentKeepsRow.inPlace==Tryz.pinned.checked.prog.inPlace 8)=true:=by kernel_rfl
theorem On:(Rows.documentKeepsRow.unfollowed==Tryz.pinned.checked.prog.unfollowed 8)=true:=by kernel_rfl
theorem Oo:(Rows.documentKeepsRow.recurses==Tryz.pinned.checked.prog.recurses 8)=true:=by kernel_rfl
theorem Oq:(Rows.documentKeepsRow.named==Tryz.pinned.checked.prog.varsNamed 8)=true:=by kernel_rfl
theorem closed:joinedFacts Tryz.pinned.checked.prog 8 Tryz.f8 Rows.documentKeepsSpec Rows.documentKeepsRow=true:=by
 unfold joinedFacts;rw[Om,On,Oo,Oq]
 kernel_rfl
theorem named:Tryz.pinned.checked.prog.funcNamed Rows.documentKeepsRow.func=some 8:=by kernel_rfl
theorem said:Rows.DocumentKeepsSaid:=
 OpenClaim.holds_of_wide 8 Tryz.f8 rfl rfl rfl rfl rfl rfl rfl ⟨rfl,rfl,rfl,rfl,rfl⟩ rfl rfl rfl rfl rfl named Tryz.func8 closed
  (of_decide_eq_true (by kernel_rfl)) (by unfold Func.isWrapper;first|(rw[if_pos (by decide +kernel)];kernel_rfl)|(rw[if_neg (by decide +kernel)];exact⟨rfl,rfl⟩))
  (λos started H enc _=>lifted os started H enc)
theorem plain(f:FuncId)(fn:Func)(hf:Tryz.pinned.checked.prog.funcNamed Rows.documentKeepsRow.func=some f)(hfn:Tryz.pinned.checked.prog.funcs[f]?=some fn) :
  Rows.documentKeepsCard.stood.looks=Tryz.pinned.checked.prog.looks []/\∀(j:Nat) t,fn.params[j]?=some t->Tryz.pinned.checked.prog.wantsStandIn t=false:=by
 obtain rfl:f=8:=Option.some.inj ((show Tryz.prog.funcNamed Rows.documentKeepsRow.func=some 8 by kernel_rfl).symm.trans hf) |>.symm
 obtain rfl:fn=Tryz.f8:=(Option.some.inj (Tryz.func8.symm.trans hfn)).symm;refine⟨by kernel_rfl,λj t ht=>?_⟩;rw[Tryz.params8]at ht;have hm:=Array.mem_of_getElem? ht;have hall:(#[42,42,3].all λu=>!Tryz.prog.wantsStandIn u)=true:=by kernel_rfl
 exact(show Tryz.prog.wantsStandIn t=false by simpa using(Array.all_eq_true_iff_forall_mem.1 hall t hm))
theorem proved:Rows.DocumentKeepsCardSaid:=
 Claim7.holds_tied_plain_at .later [] _ _ _ _ said (λ_ h=>by cases h) (by kernel_rfl) (λ_ h=>by cases h) documentKeeps_row_tie rfl ⟨rfl,rfl⟩ (by kernel_rfl) rfl plain (by kernel_rfl)
#print axioms proved
end Go.Proofs.YthoemdibbldndaaGreatDoor.documentKeeps
