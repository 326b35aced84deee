/- Plain: a joined list of texts and slots is valid, and so is each slice; their encodings. No program in sight. -/
import Derived.Test.YthoemdibbldndaaGreatDoorRawsPl
set_option linter.unusedVariables false
set_option linter.unusedSimpArgs false
namespace Go.Proofs.YthoemdibbldndaaGreatDoor.St

theorem validFrom_snoc (x : It) : ∀ (r b : List It), validFrom b (r ++ [x]) = if validFrom b r ≠ 0 then validFrom b r else checkL (b ++ r) x
  | [], b => by
    rw [List.nil_append, validFrom, validFrom, validFrom, List.append_nil]
    by_cases h : checkL b x = 0
    · simp [h]
    · simp [h]
  | y :: r, b => by
    have e1 : ∀ g, validFrom b (y :: g) = if checkL b y ≠ 0 then checkL b y else validFrom (b ++ [y]) g := fun g => by rw [validFrom]
    rw [List.cons_append, e1, e1]
    by_cases h : checkL b y = 0
    · have e2 : ∀ u v : Int, (if checkL b y ≠ 0 then u else v) = v := fun u v => if_neg (by simp [h])
      rw [e2, e2, validFrom_snoc x r (b ++ [y]), List.append_assoc]; rfl
    · have e2 : ∀ u v : Int, (if checkL b y ≠ 0 then u else v) = u := fun u v => if_pos h
      rw [e2, e2, if_pos h]
/-- No text is empty, and none stands behind another. -/
def NAf : Bool → List It → Prop
  | _, [] => True
  | p, x :: r => (x.1 = 1 → x.2.1 ≠ [] ∧ x.2.2 = 0 ∧ p = false) ∧ NAf (decide (x.1 = 1)) r
theorem naf_mono {p : Bool} {f : List It} (h : NAf p f) : NAf false f := by
  cases f with
  | nil => trivial
  | cons x r => exact ⟨fun h1 => ⟨(h.1 h1).1, (h.1 h1).2.1, rfl⟩, h.2⟩
def lastT (p : Bool) (f : List It) : Bool := match f.getLast? with | none => p | some y => decide (y.1 = 1)
theorem lastT_cons (p : Bool) (x : It) (f : List It) : lastT p (x :: f) = lastT (decide (x.1 = 1)) f := by
  unfold lastT
  cases f with
  | nil => rfl
  | cons y r =>
    rw [List.getLast?_cons_cons]
    cases h : (y :: r).getLast? with
    | none => simp at h
    | some z => rfl
theorem naf_snoc {x : It} : ∀ (f : List It) (p : Bool), NAf p f → (x.1 = 1 → x.2.1 ≠ [] ∧ x.2.2 = 0 ∧ lastT p f = false) → NAf p (f ++ [x])
  | [], p, _, h => ⟨h, trivial⟩
  | y :: f, p, hf, h => ⟨hf.1, naf_snoc f _ hf.2 (by rw [lastT_cons] at h; exact h)⟩
theorem nm_naf_n : ∀ (n : Nat) (f : List It), f.length = n → Nm f → NAf false f
  | 0, f, hn, _ => by rw [List.eq_nil_of_length_eq_zero hn]; trivial
  | n + 1, f, hn, h => by
    rcases snoc_cases f with rfl | ⟨a, b, rfl⟩
    · trivial
    · obtain ⟨h1, h2⟩ := nm_left h
      refine naf_snoc a false (nm_naf_n n a (by simpa using hn) h1) fun hb => ⟨(h2 hb).1, (h2 hb).2.1, ?_⟩
      unfold lastT
      cases hg : a.getLast? with
      | none => rfl
      | some z => exact decide_eq_false ((h2 hb).2.2 z hg)
theorem nm_naf {f : List It} (h : Nm f) : NAf false f := nm_naf_n _ f rfl h
def lastB (b : List It) : Bool := lastT false b
theorem naf_valid : ∀ (f b : List It), NAf (lastB b) f → (∀ x ∈ f, x.1 = 1 ∨ (x.1 = 5 ∧ isNameL x.2.1 = true ∧ x.2.2 = 0)) → validFrom b f = 0
  | [], _, _, _ => rfl
  | x :: f, b, h, hg => by
    have hc : checkL b x = 0 := by
      rcases hg x (by simp) with h1 | ⟨h1, h2, h3⟩
      · obtain ⟨q1, q2, q3⟩ := h.1 h1
        unfold checkL
        rw [if_pos h1, if_neg]
        rintro (e | e | ⟨y, hy, hy1⟩)
        · exact q1 e
        · exact e q2
        · unfold lastB lastT at q3
          rw [hy] at q3
          simp [hy1] at q3
      · unfold checkL
        rw [if_neg (by rw [h1]; decide), if_pos h1, if_pos ⟨h2, h3⟩]
    rw [validFrom, if_neg (by simp [hc])]
    refine naf_valid f (b ++ [x]) ?_ fun y hy => hg y (by simp [hy])
    have : lastB (b ++ [x]) = decide (x.1 = 1) := by unfold lastB lastT; simp
    rw [this]; exact h.2
def Txt5 (x : It) : Prop := x.2.2 = 0 ∧ (x.1 = 1 ∨ (x.1 = 5 ∧ isNameL x.2.1 = true))
theorem valid_of {f : List It} (h : NAf false f) (hg : ∀ x ∈ f, Txt5 x) (h1 : f.length ≤ 512) (h2 : lenL f ≤ 1024) : validL f = 0 := by
  unfold validL
  rw [if_neg (by omega)]
  refine naf_valid f [] h fun x hx => ?_
  obtain ⟨a, b | ⟨b, c⟩⟩ := hg x hx
  · exact .inl b
  · exact .inr ⟨b, c, a⟩
theorem enc_of {f : List It} (fmt : Int) (h : NAf false f) (hg : ∀ x ∈ f, Txt5 x) (h1 : f.length ≤ 512) (h2 : lenL f ≤ 1024) : encS fmt f = (f.flatMap (encI fmt), 0) := by
  unfold encS
  rw [if_neg (by rw [valid_of h hg h1 h2]; simp), if_neg]
  intro e
  obtain ⟨x, hx, hb⟩ := List.any_eq_true.1 e
  obtain ⟨_, b | ⟨b, _⟩⟩ := hg x hx
  · simp [badTag, isTagK, b] at hb
  · simp [badTag, isTagK, b] at hb
theorem pos_cons (x : It) (f : List It) : posI (x :: f) = (if x.1 = 1 then x.2.1.map (fun c => ((1 : Int), [c], (0 : Int))) else [x]) ++ posI f := by simp [posI]
theorem enc_pos (fmt : Int) (f : List It) : f.flatMap (encI fmt) = (posI f).flatMap (encI fmt) := by
  induction f with
  | nil => rfl
  | cons x f ih =>
    rw [pos_cons, List.flatMap_cons, List.flatMap_append, ih]
    congr 1
    split
    · rename_i h1
      have e : encI fmt x = x.2.1.flatMap (encB fmt) := by unfold encI; rw [if_pos h1]
      rw [e, List.flatMap_map]
      congr 1
      funext c
      simp [encI]
    · simp
theorem pos_slice (a b : Nat) : ∀ (f : List It) (at' : Nat), posI (sliceL a b at' f) = ((posI f).take (b - at')).drop (a - at')
  | [], at' => by simp [posI, sliceL]
  | x :: f, at' => by
    have hw : (if x.1 = 1 then x.2.1.map (fun c => ((1 : Int), [c], (0 : Int))) else [x]).length = widthI x := by unfold widthI; split <;> simp
    have ap : ∀ u v : List It, posI (u ++ v) = posI u ++ posI v := fun u v => by simp [posI]
    rw [sliceL, ap, pos_slice a b f, pos_cons]
    have e2 : ((posI f).take (b - (at' + widthI x))).drop (a - (at' + widthI x)) = ((posI f).take (b - at' - widthI x)).drop (a - at' - widthI x) := by
      rw [Nat.sub_add_eq, Nat.sub_add_eq]
    rw [e2]
    generalize hW : (if x.1 = 1 then x.2.1.map (fun c => ((1 : Int), [c], (0 : Int))) else [x]) = W at hw
    rw [List.take_append, List.drop_append, hw]
    have e3 : ((posI f).take (b - at' - widthI x)).drop (a - at' - (W.take (b - at')).length) = ((posI f).take (b - at' - widthI x)).drop (a - at' - widthI x) := by
      rw [List.length_take, hw]
      by_cases h : widthI x ≤ b - at'
      · rw [Nat.min_eq_right h]
      · rw [show b - at' - widthI x = 0 by omega]; simp
    rw [e3]
    congr 1
    split
    · rename_i h1
      rw [if_pos h1] at hW
      have hl : W = x.2.1.map (fun c => ((1 : Int), [c], (0 : Int))) := hW.symm
      rw [hl, ← List.map_take, ← List.map_drop]
      have et : x.2.1.take (min b (at' + x.2.1.length) - at') = x.2.1.take (b - at') := by
        by_cases h : b ≤ at' + x.2.1.length
        · rw [Nat.min_eq_left h]
        · rw [Nat.min_eq_right (by omega), List.take_of_length_le (by omega), List.take_of_length_le (by omega)]
      have ed : max a at' - at' = a - at' := by omega
      rw [et, ed]
      split
      · simp [posI]
      · rename_i h2
        have : (x.2.1.take (b - at')).drop (a - at') = [] := by
          apply List.drop_of_length_le
          rw [List.length_take]; omega
        rw [this]; rfl
    · rename_i h1
      rw [if_neg h1] at hW
      subst hW
      split
      · rename_i h2
        rw [show a - at' = 0 by omega, List.take_of_length_le (by simp; omega)]
        simp [posI, h1]
      · rename_i h2
        by_cases h3 : a ≤ at'
        · rw [show b - at' = 0 by omega]; simp [posI]
        · rw [List.drop_of_length_le (by simp; omega)]; rfl
theorem slice_past (a b : Nat) : ∀ (f : List It) (at' : Nat), b ≤ at' → sliceL a b at' f = []
  | [], _, _ => rfl
  | x :: f, at', h => by
    rw [sliceL, slice_past a b f _ (by omega), List.append_nil]
    split
    · rw [if_neg (by omega)]
    · rw [if_neg (by omega)]
theorem naf_slice1 (a b : Nat) : ∀ (f : List It) (at' : Nat) (p : Bool), a ≤ at' → NAf p f → NAf p (sliceL a b at' f)
  | [], _, _, _, _ => trivial
  | x :: f, at', p, ha, h => by
    by_cases hb : b ≤ at'
    · rw [slice_past a b _ _ hb]; trivial
    · rw [sliceL]
      have ih := naf_slice1 a b f (at' + widthI x) _ (by omega) h.2
      split
      · rename_i h1
        obtain ⟨q1, q2, q3⟩ := h.1 h1
        have q4 : 0 < x.2.1.length := List.length_pos_iff.2 q1
        rw [if_pos (by omega)]
        rw [h1] at ih
        refine ⟨fun _ => ⟨?_, q2, q3⟩, ih⟩
        intro e
        have := congrArg List.length e
        simp at this
        omega
      · rename_i h1
        rw [if_pos (by omega)]
        exact ⟨fun e => absurd e h1, ih⟩
theorem naf_slice (a b : Nat) : ∀ (f : List It) (at' : Nat) (p : Bool), NAf p f → NAf false (sliceL a b at' f)
  | [], _, _, _ => trivial
  | x :: f, at', p, h => by
    by_cases ha : a ≤ at'
    · exact naf_mono (naf_slice1 a b (x :: f) at' p ha h)
    · rw [sliceL]
      have ih := naf_slice a b f (at' + widthI x) _ h.2
      split
      · rename_i h1
        obtain ⟨q1, q2, q3⟩ := h.1 h1
        split
        · rename_i h2
          have ew : widthI x = x.2.1.length := by unfold widthI; rw [if_pos h1]
          have i2 := naf_slice1 a b f (at' + widthI x) _ (by omega) h.2
          rw [h1] at i2
          refine ⟨fun _ => ⟨?_, q2, rfl⟩, i2⟩
          intro e
          have := congrArg List.length e
          simp at this
          omega
        · exact ih
      · rename_i h1
        rw [if_neg (by omega)]
        exact ih
theorem slice_good (a b : Nat) : ∀ (f : List It) (at' : Nat), (∀ x ∈ f, Txt5 x) → ∀ x ∈ sliceL a b at' f, Txt5 x
  | [], _, _ => fun x hx => by cases hx
  | y :: f, at', h => by
    intro x hx
    rw [sliceL] at hx
    rcases List.mem_append.1 hx with hx | hx
    · have hy := h y (by simp)
      split at hx
      · rename_i h1
        split at hx
        · simp at hx; subst hx; exact ⟨hy.1, .inl rfl⟩
        · cases hx
      · split at hx
        · simp at hx; subst hx; exact hy
        · cases hx
    · exact slice_good a b f _ (fun z hz => h z (by simp [hz])) x hx
theorem slice_lenL (a b : Nat) (f : List It) : lenL (sliceL a b 0 f) = min b (lenL f) - a := by
  rw [← pos_len, pos_slice, List.length_drop, List.length_take, pos_len]; simp
theorem slice_lth (a b : Nat) : ∀ (f : List It) (at' : Nat), (sliceL a b at' f).length ≤ f.length
  | [], _ => by simp [sliceL]
  | x :: f, at' => by
    rw [sliceL, List.length_append, List.length_cons]
    have := slice_lth a b f (at' + widthI x)
    repeat' split
    all_goals simp <;> omega
/-- The encoding of a slice. -/
theorem enc_slice (fmt : Int) {f : List It} (a b : Nat) (h : NAf false f) (hg : ∀ x ∈ f, Txt5 x) (h1 : f.length ≤ 512) (h2 : lenL f ≤ 1024) :
    encS fmt (sliceL a b 0 f) = ((((posI f).take b).drop a).flatMap (encI fmt), 0) := by
  rw [enc_of fmt (naf_slice a b f 0 false h) (slice_good a b f 0 hg) (Nat.le_trans (slice_lth a b f 0) h1) (by rw [slice_lenL]; omega), enc_pos, pos_slice]
  simp
end Go.Proofs.YthoemdibbldndaaGreatDoor.St
namespace Go.Proofs.YthoemdibbldndaaGreatDoor
theorem good_txt {f : List St.It} (h : GoodF f) : ∀ x ∈ f, St.Txt5 x := h.2
theorem good_naf {f : List St.It} (h : GoodF f) : St.NAf false f := St.nm_naf h.1
theorem good_enc {f : List St.It} (fmt : Int) (h : GoodF f) (h1 : f.length ≤ 512) (h2 : St.lenL f ≤ 1024) : St.encS fmt f = (f.flatMap (St.encI fmt), 0) := St.enc_of fmt (good_naf h) (good_txt h) h1 h2
end Go.Proofs.YthoemdibbldndaaGreatDoor
