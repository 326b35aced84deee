/- The rule of Facts where what holds of the world by what has come up may speak of the operations' values. No program in sight. -/
import Derived.Test.YthoemdibbldndaaGreatDoorFacts
set_option linter.unusedVariables false
set_option linter.unusedSimpArgs false
namespace Go.Proofs.YthoemdibbldndaaGreatDoor
open Go.RowKit

/-- One operation: in any world in which the facts hold on those that it waits for. I: what holds of the world by what has come up. -/
def ObG (a : Act) (P : Program) (Q : Exit → Act → World → Prop) (R : World → World → Prop) (I : (Nat → Value) → (Nat → Bool) → World → Prop) (w : World) (l : List Oper) (Fs : List Fact) (fr : (Nat → Value) → Act) (o : Oper) (F : Fact) (i : Nat) : Prop :=
  ∀ (ρ : Nat → Value) (L : Nat → Bool) (W : World), R w W → I ρ L W → L i = false → Down l L → Orig a l L ρ → AllF Fs ρ W (waits o) → ∀ K : Act → World → Prop, (∀ v W', R W W' → I (upd ρ i v) (updB L i) W' → (∀ W'', R W' W'' → F v W'') → K ((fr ρ).put o.dst v) W') →
    if Region.wanted o (yielded l.toArray (fr ρ).tmps) = true then Oper.wp P o (fr ρ) W K Q else K ((fr ρ).put o.dst undef) W
def ObsG (a : Act) (P : Program) (Q : Exit → Act → World → Prop) (R : World → World → Prop) (I : (Nat → Value) → (Nat → Bool) → World → Prop) (w : World) (l : List Oper) (Fs : List Fact) (fr : (Nat → Value) → Act) : List Oper → List Fact → Nat → Prop
  | o :: os, F :: gs, k => ObG a P Q R I w l Fs fr o F k ∧ ObsG a P Q R I w l Fs fr os gs (k + 1)
  | _, _, _ => True
theorem ObsG.cons {P : Program} {Q : Exit → Act → World → Prop} {R : World → World → Prop} {I : (Nat → Value) → (Nat → Bool) → World → Prop} {w : World} {l : List Oper} {Fs : List Fact} {fr : (Nat → Value) → Act} {o : Oper} {os : List Oper} {F : Fact} {gs : List Fact} {k : Nat} {a : Act} (h1 : ObG a P Q R I w l Fs fr o F k) (h2 : ObsG a P Q R I w l Fs fr os gs (k + 1)) : ObsG a P Q R I w l Fs fr (o :: os) (F :: gs) k := ⟨h1, h2⟩
theorem ObsG.nil {P : Program} {Q : Exit → Act → World → Prop} {R : World → World → Prop} {I : (Nat → Value) → (Nat → Bool) → World → Prop} {w : World} {l : List Oper} {Fs : List Fact} {fr : (Nat → Value) → Act} {k : Nat} {a : Act} : ObsG a P Q R I w l Fs fr [] [] k := trivial
theorem obsG_at {a : Act} {P : Program} {Q : Exit → Act → World → Prop} {R : World → World → Prop} {I : (Nat → Value) → (Nat → Bool) → World → Prop} {w : World} {l : List Oper} {Fs : List Fact} {fr : (Nat → Value) → Act} : ∀ {os : List Oper} {gs : List Fact} {k : Nat}, ObsG a P Q R I w l Fs fr os gs k → ∀ (i : Nat) (o : Oper) (F : Fact), os[i]? = some o → gs[i]? = some F → ObG a P Q R I w l Fs fr o F (k + i)
  | [], _, _, _, i, o, F, h, _ => by simp at h
  | o :: os, [], _, _, i, o', F, _, h => by simp at h
  | o :: os, F :: gs, k, h, 0, o', F', h1, h2 => by simp at h1 h2; subst h1 h2; exact h.1
  | o :: os, F :: gs, k, h, i + 1, o', F', h1, h2 => by
    have := obsG_at h.2 i o' F' (by simpa using h1) (by simpa using h2)
    rw [show k + 1 + i = k + (i + 1) by omega] at this
    exact this

theorem wpAny_factsR {P : Program} {Q : Exit → Act → World → Prop} {R : World → World → Prop} {I : (Nat → Value) → (Nat → Bool) → World → Prop} (hrr : ∀ a, R a a) (hrt : ∀ a b c, R a b → R b c → R a c) {w : World} {a : Act} {l : List Oper} {Fs : List Fact} (hlen : Fs.length = l.length) (hnd : (dstOf l).Nodup) (htp : topoB l = true)
    {fr : (Nat → Value) → Act} (hfr : ∀ ρ, putAll a l ρ 0 = fr ρ) (hob : ObsG a P Q R I w l Fs fr l Fs 0)
    (hend : ∀ ρ L W, R w W → I ρ L W → (∀ i, i < l.length → L i = true) → (∀ i, i < l.length → (Fs.getD i noFact) (ρ i) W) → Q .normal (fr ρ) W) :
    ∀ (fuel : Nat) (listed : Array Bool) (ρ : Nat → Value) (L : Nat → Bool) (W : World), listed.size = l.length → (∀ i, listed.getD i false = L i) → Down l L → Orig a l L ρ → R w W → I ρ L W → (∀ i, listed.getD i false = true → ∀ W', R W W' → (Fs.getD i noFact) (ρ i) W') →
      fuel + listed.toList.count true = l.length → wpAny P .any l.toArray Q fuel listed (putAll a l ρ 0) W := by
  have done : ∀ (listed : Array Bool) (ρ : Nat → Value) (L : Nat → Bool) (W : World), listed.size = l.length → (∀ i, listed.getD i false = L i) → R w W → I ρ L W → (∀ i, listed.getD i false = true → ∀ W', R W W' → (Fs.getD i noFact) (ρ i) W') → Region.ready .any l.toArray listed = [] → Q .normal (putAll a l ρ 0) W := by
    intro listed ρ L W hs hL hW hI hF hr
    rw [hfr]
    exact hend ρ L W hW hI (fun i hi => by rw [← hL]; exact all_listed htp hr hs (i + 1) i (by omega) hi) (fun i hi => hF i (all_listed htp hr hs (i + 1) i (by omega) hi) W (hrr W))
  intro fuel
  induction fuel with
  | zero =>
    intro listed ρ L W hs hL hD hO hW hI hF hc
    have hr : Region.ready .any l.toArray listed = [] := by
      cases hrd : Region.ready .any l.toArray listed with
      | nil => rfl
      | cons j js =>
        have hj : j ∈ Region.ready .any l.toArray listed := by rw [hrd]; simp
        obtain ⟨h0, o, ho, _⟩ := mem_ready.1 hj
        have hjl : j < l.length := by
          have := (Array.getElem?_eq_some_iff.1 ho).1
          simpa using this
        have := count_all (l := listed.toList) (by simp only [Array.length_toList]; omega) j (by simp; omega)
        have : listed.getD j true = true := by simp [show j < listed.size by omega] at this ⊢; exact this
        rw [h0] at this; cases this
    exact ⟨hr, done listed ρ L W hs hL hW hI hF hr⟩
  | succ fuel ih =>
    intro listed ρ L W hs hL hD hO hW hI hF hc
    refine ⟨fun hr => done listed ρ L W hs hL hW hI hF hr, fun i hi => ?_⟩
    obtain ⟨h0, o, ho, hall⟩ := mem_ready.1 hi
    have hol : l[i]? = some o := by simpa using ho
    have hil : i < l.length := (List.getElem?_eq_some_iff.1 hol).1
    have hFi : Fs[i]? = some (Fs[i]'(by omega)) := by simp [show i < Fs.length by omega]
    have hob1 := obsG_at hob i o _ hol hFi
    rw [Nat.zero_add] at hob1
    have hLi : L i = false := by
      rw [← hL]
      have hlt : i < listed.size := by omega
      simp [hlt] at h0 ⊢; exact h0
    refine wpOp_step ho fun K hK => ?_
    rw [hfr]
    refine hob1 ρ L W hW hI hLi hD hO (allF_of fun j hj => ?_) K (fun v W' hW' hI' hF' => ?_)
    · unfold waits at hj
      obtain ⟨e, he, rfl⟩ := List.mem_map.1 hj
      obtain ⟨he1, he2⟩ := List.mem_filter.1 he
      exact hF e.on (hall e (by simpa using he1) he2) W (hrr W)
    · refine hK _ _ ?_
      have hu := putAll_upd l a ρ 0 i o v hnd hol
      rw [Nat.zero_add, hfr ρ] at hu
      rw [← hu]
      refine ih _ _ (updB L i) _ (by simpa using hs) (fun j => ?_) ?_ ?_ (hrt _ _ _ hW hW') hI' (fun j hj W'' hW'' => ?_) ?_
      · unfold updB
        by_cases hji : j = i
        · subst hji; simp [show j < listed.size by omega]
        · rw [if_neg hji, getD_set_ne false (Ne.symm hji)]; exact hL j
      · intro p o' q hp hq hLp
        unfold updB at hLp ⊢
        split
        · rfl
        · by_cases hpi : p = i
          · subst hpi
            rw [hol] at hp
            simp at hp
            subst hp
            unfold waits at hq
            obtain ⟨e, he, rfl⟩ := List.mem_map.1 hq
            obtain ⟨he1, he2⟩ := List.mem_filter.1 he
            rw [← hL]
            exact hall e (by simpa using he1) he2
          · rw [if_neg hpi] at hLp
            exact hD p o' q hp hq hLp
      · intro j o' t' ho' ht' hLj
        unfold updB at hLj
        by_cases hji : j = i
        · rw [if_pos hji] at hLj; cases hLj
        · rw [if_neg hji] at hLj
          rw [show upd ρ i v j = ρ j by unfold upd; rw [if_neg hji]]
          exact hO j o' t' ho' ht' hLj
      · by_cases hji : j = i
        · subst hji
          rw [show upd ρ j v j = v by unfold upd; rw [if_pos rfl], List.getD_eq_getElem?_getD, hFi]
          exact hF' W'' hW''
        · rw [show upd ρ i v j = ρ j by unfold upd; rw [if_neg hji]]
          refine hF j ?_ W'' (hrt _ _ _ hW' hW'')
          rw [getD_set_ne false (Ne.symm hji)] at hj
          exact hj
      · have : listed.toList[i]? = some false := by
          have hlt : i < listed.size := by omega
          simp [hlt] at h0 ⊢; exact h0
        rw [Array.toList_setIfInBounds, count_set this]; omega

/-- The rule. -/
theorem wp_region_factsR {P : Program} {Q : Exit → Act → World → Prop} {id : Nat} {a : Act} {w : World} {l : List Oper} (R : World → World → Prop) (I : (Nat → Value) → (Nat → Bool) → World → Prop) (Fs : List Fact) (hrr : ∀ a, R a a) (hrt : ∀ a b c, R a b → R b c → R a c)
    (hm : P.follows .mixedOrders = true) (hlen : Fs.length = l.length) (hnd : decide (dstOf l).Nodup = true) (htp : topoB l = true)
    (fr : (Nat → Value) → Act) (hfr : ∀ ρ, putAll a l ρ 0 = fr ρ) (hI : ∀ ρ, I ρ (fun _ => false) w.drew) (hob : ObsG a P Q R I w.drew l Fs fr l Fs 0)
    (hend : ∀ ρ L W, R w.drew W → I ρ L W → (∀ i, i < l.length → L i = true) → FactsAt ρ W Fs 0 → Q .normal (fr ρ) W) : (Code.region id l.toArray true).wp P Q a w := by
  refine wp_region_any hm ?_
  have hnd' : (dstOf l).Nodup := by simpa using hnd
  obtain ⟨ρ, hρ, hO⟩ : ∃ ρ : Nat → Value, putAll a l ρ 0 = a ∧ Orig a l (fun _ => false) ρ := by
    refine ⟨fun i => match l[i]? with
      | some o => match o.dst with
        | some t => a.tmps.getD t undef
        | none => undef
      | none => undef, putAll_same l a 0 _ (fun i o t h1 h2 => ?_) hnd', fun i o t h1 h2 _ => ?_⟩
    · simp only [Nat.zero_add, h1, h2]
    · simp only [h1, h2]
  have hf : ∀ i, (Array.replicate l.length false).getD i false = false := by
    intro i
    rw [Array.getD_eq_getD_getElem?]
    by_cases hlt : i < l.length
    · simp [hlt]
    · simp [hlt]
  have h := wpAny_factsR hrr hrt hlen hnd' htp hfr hob (fun ρ L W h1 hI1 hL1 h2 => hend ρ L W h1 hI1 hL1 (factsAt_of fun i hi => by rw [Nat.zero_add]; exact h2 i (by omega))) l.length (Array.replicate l.length false) ρ (fun _ => false) w.drew (by simp) hf
    (fun p o q _ _ h => by cases h) hO (hrr _) (hI ρ) (fun i hi => by rw [hf i] at hi; cases hi) (by simp [List.count_replicate])
  rw [hρ] at h
  simpa using h
end Go.Proofs.YthoemdibbldndaaGreatDoor
