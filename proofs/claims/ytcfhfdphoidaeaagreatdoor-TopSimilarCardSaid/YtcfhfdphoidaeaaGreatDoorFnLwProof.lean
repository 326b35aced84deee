/- The similarity that the repetition analysis shows is the score that a finder shows for. -/
import Derived.Test.YtcfhfdphoidaeaaGreatDoorFnLw
import Derived.Test.YtcfhfdphoidaeaaGreatDoorOpn
import Derived.WalkKit
import Derived.ProofKit
import Derived.OpenShut
import Derived.ShutString
import Derived.ChangeOld
import Derived.Below
import Derived.Lib.SmallJoins
import Derived.Test.YtcfhfdphoidaeaaGreatDoorCards
import Derived.Test.YtcfhfdphoidaeaaGreatDoorTie
import Derived.LaidMore
import Derived.Lay
import Derived.Stop.LaidErr
import Derived.Stop.Joined
import Derived.Lib.LaidTab
set_option linter.unusedVariables false
set_option linter.unusedSimpArgs false
set_option maxHeartbeats 12800000
namespace Go.Proofs.YtcfhfdphoidaeaaGreatDoor.topSimilar
open Go.ChangeShapes Go.WideShapes Go.ChangeAt Go.RowKit Go.Joins
open Go.ChangeMaps (open_string shut_string)
theorem own:ownKnob Tryz.prog.godebug=none:=by kernel_rfl
theorem laidOut:laidOutB Tryz.prog=true:=by kernel_rfl
theorem hasLib{W:World}(hsh:W.ShapedOpen Tryz.prog)(h:laidMetH Tryz.prog Rows.topSimilarRow.laid W):Mk.LibAt W:=by
 rw[MakeChecks.laidMetH_plain _ _ _ (by kernel_rfl)] at h;obtain⟨m,hm⟩:=maxlen_some hsh;exact⟨Lib.tabIs_of_head (g:=1) (by kernel_rfl) (by kernel_rfl) Tryz.underlying389 Tryz.underlying232 (by kernel_rfl) (by kernel_rfl) ((laidMet.tail (laidMet.tail h))),m,zbL _ _ hm,hm⟩
set_option maxRecDepth 100000 in
theorem lifted(os:Os)(started:os.Started)(H:Type)(enc:TypeId × Value->H) :
  ReturnsInHanded {} Tryz.checked os 3 .any (fun w args=>(Rows.topSimilarSpec.pre enc Tryz.prog Tryz.f3 [] false w args/\laidMetH Tryz.prog Rows.topSimilarRow.laid w)/\sizedMet enc Tryz.prog Tryz.f3 (OpenSpec.ofChange Rows.topSimilarSpec) false w args)
   (Rows.topSimilarSpec.post enc Tryz.prog Tryz.f3 false true false false):=by
 refine handed_shaped (C:=Tryz.checked) (X:=fun w=>laidMetH Tryz.prog Rows.topSimilarRow.laid w) (fun _ _ hh h=>h.of_heap hh) own started (by kernel_rfl) Tryz.func3
  (ChangeSpec.witness_shaped (enc:=enc) (C:=Tryz.checked) (os:=os) (X:=fun w _=>laidMetH Tryz.prog Rows.topSimilarRow.laid w) false (World.laidAll Tryz.prog os Rows.topSimilarRow.laid) #[.slice none 0 0,.slice none 0 0] 8 (World.laidAll_os _ _ _) (World.shaped_of_ZipB (by kernel_rfl) (by kernel_rfl)) (by kernel_rfl) (by kernel_rfl) (by kernel_rfl)
   (by rw[MakeChecks.laidMetH_plain _ _ _ (by kernel_rfl)];exact laidMet_laidAll _ (by kernel_rfl) (by kernel_rfl))) ?_
 intro W base args ds gs before hsh hval0 hW _ hL;have hval:∀ (j:Nat) t v,Tryz.f3.params[j]?=some t->args[j]?=some v->Value.okWide Tryz.prog W .any base t v:=hval0;have hW':=hW;obtain⟨p,q,hA0,hV,rfl,_,_⟩:=hW;have hA:DataW.TrodAll enc Tryz.prog W 0 (fun _=>true) true Tryz.f3.params.toList args.toList ds p:=hA0;rw[Tryz.params3] at hA hval;obtain⟨v0,vs0,d0,ds0,p0,q0,hargs,rfl,rfl,h0,r0⟩:=trodAll_cons hA;obtain⟨v1,vs1,d1,ds1,p1,q1,rfl,rfl,rfl,h1,r1⟩:=trodAll_cons r0;obtain⟨rfl,rfl,rfl⟩:=trodAll_nil r1;obtain rfl:args=#[v0,v1]:=by cases args;simp_all
 obtain⟨rfl,rfl⟩:=trodVars_none hV;have k0:=h0;have lt0:∀ x ∈ p0,x.block<W.heap.size:=by obtain⟨m,hm⟩:=k0;exact DataW.trod_lt m _ _ _ hm
 obtain⟨l_a,l_len,l_cap,rfl⟩:=okWide_slice Tryz.underlying22 (hval 0 22 v0 rfl rfl)
 obtain⟨l_z,e_l,w_l,m_l⟩:∃ zs,zs.length=l_len/\IntsAt W l_a zs/\l_len<=9223372036854775807:=by
  obtain⟨fuel,hf⟩:=h0;obtain⟨D,zs,c,e,g1,g2⟩:=open_docs (by simpa [Value.cells] using hf);simp at e;obtain⟨rfl,rfl,rfl⟩:=e;unfold maxLen at g2;exact⟨zs,rfl,g1,g2⟩
 have k1:=h1;have lt1:∀ x ∈ p1,x.block<W.heap.size:=by obtain⟨m,hm⟩:=k1;exact DataW.trod_lt m _ _ _ hm
 obtain⟨m_a,m_len,m_cap,rfl⟩:=okWide_slice Tryz.underlying22 (hval 1 22 v1 rfl rfl)
 obtain⟨m_z,e_m,w_m,m_m⟩:∃ zs,zs.length=m_len/\IntsAt W m_a zs/\m_len<=9223372036854775807:=by
  obtain⟨fuel,hf⟩:=h1;obtain⟨D,zs,c,e,g1,g2⟩:=open_docs (by simpa [Value.cells] using hf);simp at e;obtain⟨rfl,rfl,rfl⟩:=e;unfold maxLen at g2;exact⟨zs,rfl,g1,g2⟩
 clear hA0 hval0;refine(topsim_any l_a m_a l_len l_cap m_len m_cap l_z m_z W (hasLib hsh hL) e_l m_l w_l e_m m_m w_m).mono fun e W' ⟨he,hu⟩=>?_
 subst he;have bel:=hu.below;exact⟨_,rfl,_,_,_,[],_,[],hW',trodAll_mk1 (shut_bool Tryz.underlying4 _),(trodAll_cons_mk (Below.trod laidOut (by kernel_rfl) (of_decide_eq_true (by kernel_rfl)) k0 bel lt0) (trodAll_cons_mk (Below.trod laidOut (by kernel_rfl) (of_decide_eq_true (by kernel_rfl)) k1 bel lt1) trodAll_mk0)),rfl,bel.frame _,fun h=>by cases h⟩
theorem closed0:(Rows.topSimilarRow.inPlace==Tryz.pinned.checked.prog.inPlace 3)=true:=by kernel_rfl
theorem closed1:(Rows.topSimilarRow.unfollowed==Tryz.pinned.checked.prog.unfollowed 3)=true:=by kernel_rfl
theorem closed2:(Rows.topSimilarRow.recurses==Tryz.pinned.checked.prog.recurses 3)=true:=by kernel_rfl
theorem closed3:(Rows.topSimilarRow.named==Tryz.pinned.checked.prog.varsNamed 3)=true:=by kernel_rfl
theorem closed:joinedFacts Tryz.pinned.checked.prog 3 Tryz.f3 Rows.topSimilarSpec Rows.topSimilarRow=true:=by
 unfold joinedFacts;rw[closed0,closed1,closed2,closed3]
 kernel_rfl
theorem named:Tryz.pinned.checked.prog.funcNamed Rows.topSimilarRow.func=some 3:=by kernel_rfl
theorem said:Rows.TopSimilarSaid:=
 OpenClaim.holds_of_wide 3 Tryz.f3 rfl rfl rfl rfl rfl rfl rfl ⟨rfl,rfl,rfl,rfl,rfl⟩ rfl rfl rfl rfl rfl named Tryz.func3 closed
  (of_decide_eq_true (by kernel_rfl)) (by unfold Func.isWrapper;first|(rw[if_pos (by decide +kernel)];kernel_rfl)|(rw[if_neg (by decide +kernel)];exact⟨rfl,rfl⟩))
  (fun os started H enc _=>lifted os started H enc)
theorem plain(f:FuncId)(fn:Func)(hf:Tryz.pinned.checked.prog.funcNamed Rows.topSimilarRow.func=some f)(hfn:Tryz.pinned.checked.prog.funcs[f]?=some fn) :
  Rows.topSimilarCard.stood.looks=Tryz.pinned.checked.prog.looks []/\∀ (j:Nat) t,fn.params[j]?=some t->Tryz.pinned.checked.prog.wantsStandIn t=false:=by
 obtain rfl:f=3:=Option.some.inj ((show Tryz.prog.funcNamed Rows.topSimilarRow.func=some 3 by kernel_rfl).symm.trans hf) |>.symm
 obtain rfl:fn=Tryz.f3:=(Option.some.inj (Tryz.func3.symm.trans hfn)).symm;refine⟨by kernel_rfl,fun j t ht=>?_⟩;rw[Tryz.params3] at ht;have hm:=Array.mem_of_getElem? ht;have hall:(#[22,22].all fun u=>!Tryz.prog.wantsStandIn u)=true:=by kernel_rfl
 exact(show Tryz.prog.wantsStandIn t=false by simpa using (Array.all_eq_true_iff_forall_mem.1 hall t hm))
theorem proved:Rows.TopSimilarCardSaid:=
 Claim7.holds_tied_plain_at .later [] _ _ _ _ said (fun _ h=>by cases h) (by kernel_rfl) (fun _ h=>by cases h) topSimilar_row_tie rfl ⟨rfl,rfl⟩ (by kernel_rfl) rfl plain (by kernel_rfl)
#print axioms proved
end Go.Proofs.YtcfhfdphoidaeaaGreatDoor.topSimilar
