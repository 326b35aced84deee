/- A markup unit refuses a target that opens a tag and does not close it, and the other. -/
import Derived.Test.YthoemdibbldndaaGreatDoorDocTg
import Derived.Test.YthoemdibbldndaaGreatDoorOpn
import Derived.WalkKit
import Derived.ProofKit
import Derived.OpenShut
import Derived.ShutString
import Derived.ChangeOld
import Derived.Below
import Derived.Lib.SmallJoins
import Derived.Test.YthoemdibbldndaaGreatDoorCards
import Derived.Test.YthoemdibbldndaaGreatDoorTie
import Derived.LaidMore
import Derived.Lay
import Derived.Stop.LaidErr
import Derived.Stop.Joined
import Derived.Lib.LaidTab
set_option linter.unusedVariables false
set_option linter.unusedSimpArgs false
set_option maxHeartbeats 12800000
namespace Go.Proofs.YthoemdibbldndaaGreatDoor.documentTags
open Go.ChangeShapes Go.WideShapes Go.ChangeAt Go.RowKit Go.Joins
open Go.ChangeMaps (open_string shut_string)
theorem own:ownKnob Tryz.prog.godebug=none:=by kernel_rfl
theorem laidOut:laidOutB Tryz.prog=true:=by kernel_rfl
theorem hasLib{W:World}(hsh:W.ShapedOpen Tryz.prog)(h:laidMetH Tryz.prog Rows.documentTagsRow.laid W):Mk.kD W:=by
 rw[MakeChecks.laidMetH_plain _ _ _ (by kernel_rfl)]at h;obtain⟨m,hm⟩:=CG hsh;exact⟨Lib.tabIs_of_head (g:=3) (by kernel_rfl) (by kernel_rfl) Tryz.underlying289 Tryz.underlying270 (by kernel_rfl) (by kernel_rfl) ((laidMet.tail (laidMet.tail h))),m,cM _ _ hm,hm⟩
set_option maxRecDepth 100000 in
theorem lifted(os:Os)(started:os.Started)(H:Type)(enc:TypeId × Value->H) :
  ReturnsInHanded {} Tryz.checked os 11 .any (λw args=>(Rows.documentTagsSpec.pre enc Tryz.prog Tryz.f11 [] false w args/\laidMetH Tryz.prog Rows.documentTagsRow.laid w)/\sizedMet enc Tryz.prog Tryz.f11 (OpenSpec.ofChange Rows.documentTagsSpec) false w args)
   (Rows.documentTagsSpec.post enc Tryz.prog Tryz.f11 false true false false):=by
 refine zw (C:=Tryz.checked) (X:=λw=>laidMetH Tryz.prog Rows.documentTagsRow.laid w) (λ_ _ hh h=>h.of_heap hh) own started (by kernel_rfl) Tryz.func11
  (ChangeSpec.witness_shaped (enc:=enc) (C:=Tryz.checked) (os:=os) (X:=λw _=>laidMetH Tryz.prog Rows.documentTagsRow.laid w) false (World.laidAll Tryz.prog os Rows.documentTagsRow.laid) #[.slice none 0 0,.int .i64 0,.bool false] 8 (World.laidAll_os _ _ _) (World.shaped_of_ZipB (by kernel_rfl) (by kernel_rfl)) (by kernel_rfl) (by kernel_rfl) (by kernel_rfl)
   (by rw[MakeChecks.laidMetH_plain _ _ _ (by kernel_rfl)];exact laidMet_laidAll _ (by kernel_rfl) (by kernel_rfl))) ?_
 intro W base args ds gs before hsh LN hW _ hL;have hval:∀(j:Nat) t v,Tryz.f11.params[j]?=some t->args[j]?=some v->Value.okWide Tryz.prog W .any base t v:=LN;have hW':=hW;obtain⟨p,q,hA0,hV,rfl,_,_⟩:=hW;have hA:DataW.TrodAll enc Tryz.prog W 0 (λ_=>true) true Tryz.f11.params.toList args.toList ds p:=hA0;rw[Tryz.params11]at hA hval;obtain⟨v0,vs0,d0,ds0,p0,q0,hargs,rfl,rfl,h0,r0⟩:=trodAll_cons hA;obtain⟨v1,vs1,d1,ds1,p1,q1,rfl,rfl,rfl,h1,r1⟩:=trodAll_cons r0;obtain⟨v2,vs2,d2,ds2,p2,q2,rfl,rfl,rfl,h2,r2⟩:=trodAll_cons r1;obtain⟨rfl,rfl,rfl⟩:=trodAll_nil r2;obtain rfl:args=#[v0,v1,v2]:=by cases args;simp_all
 obtain⟨rfl,rfl⟩:=trodVars_none hV;have k0:=h0;have Tr:∀x∈p0,x.block<W.1.size:=by obtain⟨m,hm⟩:=k0;exact DataW.trod_lt m _ _ _ hm
 obtain⟨Q4,l_len,l_cap,rfl⟩:=okWide_slice Tryz.underlying42 (hval 0 42 v0 rfl rfl)
 obtain⟨Tq,e_l,w_l,m_l⟩:∃zs,zs.length=l_len/\iv W Q4 zs/\l_len<=9223372036854775807:=by
  obtain⟨fuel,hf⟩:=h0;obtain⟨D,zs,c,e,g1,g2⟩:=Ip (by simpa[Value.cells]using hf);simp at e;obtain⟨rfl,rfl,rfl⟩:=e;unfold maxLen at g2;exact⟨zs,rfl,g1,g2⟩
 have k1:=h1;have Ts:∀x∈p1,x.block<W.1.size:=by obtain⟨m,hm⟩:=k1;exact DataW.trod_lt m _ _ _ hm
 obtain⟨part,rfl,rfl,rfl,w_part⟩:=open_int Tryz.underlying3 (hval 1 3 v1 rfl rfl) h1;have k2:=h2;have Tt:∀x∈p2,x.block<W.1.size:=by obtain⟨m,hm⟩:=k2;exact DataW.trod_lt m _ _ _ hm
 obtain⟨closed,rfl,rfl,rfl⟩:=open_bool Tryz.underlying4 (hval 2 4 v2 rfl rfl) h2;clear hA0 LN;refine(KO Q4 l_len l_cap Tq part closed W (hasLib hsh hL) e_l m_l w_l).mono λe W' ⟨he,hu⟩=>?_
 subst he;have Lu:=hu.below;exact⟨_,rfl,_,_,_,[],_,[],hW',trodAll_mk1 (shut_bool Tryz.underlying4 _),(trodAll_cons_mk (Below.trod laidOut (by kernel_rfl) (of_decide_eq_true (by kernel_rfl)) k0 Lu Tr) (trodAll_cons_mk (Below.trod laidOut (by kernel_rfl) (of_decide_eq_true (by kernel_rfl)) k1 Lu Ts) (trodAll_cons_mk (Below.trod laidOut (by kernel_rfl) (of_decide_eq_true (by kernel_rfl)) k2 Lu Tt) trodAll_mk0))),rfl,Lu.frame _,λh=>by cases h⟩
theorem L2:(Rows.documentTagsRow.inPlace==Tryz.pinned.checked.prog.inPlace 11)=true:=by kernel_rfl
theorem L3:(Rows.documentTagsRow.unfollowed==Tryz.pinned.checked.prog.unfollowed 11)=true:=by kernel_rfl
theorem L4:(Rows.documentTagsRow.recurses==Tryz.pinned.checked.prog.recurses 11)=true:=by kernel_rfl
theorem L5:(Rows.documentTagsRow.named==Tryz.pinned.checked.prog.varsNamed 11)=true:=by kernel_rfl
theorem closed:joinedFacts Tryz.pinned.checked.prog 11 Tryz.f11 Rows.documentTagsSpec Rows.documentTagsRow=true:=by
 unfold joinedFacts;rw[L2,L3,L4,L5]
 kernel_rfl
theorem named:Tryz.pinned.checked.prog.funcNamed Rows.documentTagsRow.func=some 11:=by kernel_rfl
theorem said:Rows.DocumentTagsSaid:=
 OpenClaim.holds_of_wide 11 Tryz.f11 rfl rfl rfl rfl rfl rfl rfl ⟨rfl,rfl,rfl,rfl,rfl⟩ rfl rfl rfl rfl rfl named Tryz.func11 closed
  (of_decide_eq_true (by kernel_rfl)) (by unfold Func.isWrapper;first|(rw[if_pos (by decide +kernel)];kernel_rfl)|(rw[if_neg (by decide +kernel)];exact⟨rfl,rfl⟩))
  (λos started H enc _=>lifted os started H enc)
theorem plain(f:FuncId)(fn:Func)(hf:Tryz.pinned.checked.prog.funcNamed Rows.documentTagsRow.func=some f)(hfn:Tryz.pinned.checked.prog.funcs[f]?=some fn) :
  Rows.documentTagsCard.stood.looks=Tryz.pinned.checked.prog.looks []/\∀(j:Nat) t,fn.params[j]?=some t->Tryz.pinned.checked.prog.wantsStandIn t=false:=by
 obtain rfl:f=11:=Option.some.inj ((show Tryz.prog.funcNamed Rows.documentTagsRow.func=some 11 by kernel_rfl).symm.trans hf) |>.symm
 obtain rfl:fn=Tryz.f11:=(Option.some.inj (Tryz.func11.symm.trans hfn)).symm;refine⟨by kernel_rfl,λj t ht=>?_⟩;rw[Tryz.params11]at ht;have hm:=Array.mem_of_getElem? ht;have hall:(#[42,3,4].all λu=>!Tryz.prog.wantsStandIn u)=true:=by kernel_rfl
 exact(show Tryz.prog.wantsStandIn t=false by simpa using(Array.all_eq_true_iff_forall_mem.1 hall t hm))
theorem proved:Rows.DocumentTagsCardSaid:=
 Claim7.holds_tied_plain_at .later [] _ _ _ _ said (λ_ h=>by cases h) (by kernel_rfl) (λ_ h=>by cases h) documentTags_row_tie rfl ⟨rfl,rfl⟩ (by kernel_rfl) rfl plain (by kernel_rfl)
#print axioms proved
end Go.Proofs.YthoemdibbldndaaGreatDoor.documentTags
