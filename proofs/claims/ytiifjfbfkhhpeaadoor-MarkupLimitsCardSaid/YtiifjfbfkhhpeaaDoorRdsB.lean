/- Plain: a joined list of texts and slots is valid, and so is each slice; their encodings. No program in sight. Plain: raw pieces and encoded slices, in any mixture, are a raw content of the same items. No program in sight. Plain: fragments of a markup, their slices and encodings. No program in sight. The contract of the maker Raws at a markup: pieces, each in a form of its position's item. Conditions: as MakeGen's; tags are short. The contract of the maker Fragment with tags that need not be nested: joined items, made step by step. Conditions: as MakeGen's. The contract of the maker Fragment with nested tags. Conditions: as MakeGen's. -/
import Derived.Test.YtiifjfbfkhhpeaaDoorRawsPl
import Derived.Test.YtiifjfbfkhhpeaaDoorMakeRaws
import Derived.Test.YtiifjfbfkhhpeaaDoorRdsA
import Derived.Test.YtiifjfbfkhhpeaaDoorMakeFrag
import Derived.Test.YtiifjfbfkhhpeaaDoorRefItem
import Derived.Test.YtiifjfbfkhhpeaaDoorFacts
import Derived.Test.YtiifjfbfkhhpeaaDoorBoxI
import Derived.BigQuiet
import Derived.Test.YtiifjfbfkhhpeaaDoorRefCheck
import Derived.IntWalk
import Derived.Deep.RegionHeld3
import Derived.OrdersHeld
import Derived.Test.YtiifjfbfkhhpeaaDoorApp2
import Derived.Test.YtiifjfbfkhhpeaaDoorPart
set_option linter.unusedVariables false
set_option linter.unusedSimpArgs false

namespace Go.Proofs.YtiifjfbfkhhpeaaDoor.St

theorem validFrom_snoc (x : It) : ∀ (r b : List It), validFrom b (r ++ [x]) = if validFrom b r ≠ 0 then validFrom b r else checkL (b ++ r) x
  | [], b => by
    rw [List.nil_append, validFrom, validFrom, validFrom, List.append_nil]
    by_cases h : checkL b x = 0
    · simp [h]
    · simp [h]
  | y :: r, b => by
    have e1 : ∀ g, validFrom b (y :: g) = if checkL b y ≠ 0 then checkL b y else validFrom (b ++ [y]) g := fun g => by rw [validFrom]
    rw [List.cons_append, e1, e1]
    by_cases h : checkL b y = 0
    · have e2 : ∀ u v : Int, (if checkL b y ≠ 0 then u else v) = v := fun u v => if_neg (by simp [h])
      rw [e2, e2, validFrom_snoc x r (b ++ [y]), List.append_assoc]; rfl
    · have e2 : ∀ u v : Int, (if checkL b y ≠ 0 then u else v) = u := fun u v => if_pos h
      rw [e2, e2, if_pos h]
/-- No text is empty, and none stands behind another. -/
def NAf : Bool → List It → Prop
  | _, [] => True
  | p, x :: r => (x.1 = 1 → x.2.1 ≠ [] ∧ x.2.2 = 0 ∧ p = false) ∧ NAf (decide (x.1 = 1)) r
theorem naf_mono {p : Bool} {f : List It} (h : NAf p f) : NAf false f := by
  cases f with
  | nil => trivial
  | cons x r => exact ⟨fun h1 => ⟨(h.1 h1).1, (h.1 h1).2.1, rfl⟩, h.2⟩
def lastT (p : Bool) (f : List It) : Bool := match f.getLast? with | none => p | some y => decide (y.1 = 1)
theorem lastT_cons (p : Bool) (x : It) (f : List It) : lastT p (x :: f) = lastT (decide (x.1 = 1)) f := by
  unfold lastT
  cases f with
  | nil => rfl
  | cons y r =>
    rw [List.getLast?_cons_cons]
    cases h : (y :: r).getLast? with
    | none => simp at h
    | some z => rfl
theorem naf_snoc {x : It} : ∀ (f : List It) (p : Bool), NAf p f → (x.1 = 1 → x.2.1 ≠ [] ∧ x.2.2 = 0 ∧ lastT p f = false) → NAf p (f ++ [x])
  | [], p, _, h => ⟨h, trivial⟩
  | y :: f, p, hf, h => ⟨hf.1, naf_snoc f _ hf.2 (by rw [lastT_cons] at h; exact h)⟩
theorem nm_naf_n : ∀ (n : Nat) (f : List It), f.length = n → Nm f → NAf false f
  | 0, f, hn, _ => by rw [List.eq_nil_of_length_eq_zero hn]; trivial
  | n + 1, f, hn, h => by
    rcases snoc_cases f with rfl | ⟨a, b, rfl⟩
    · trivial
    · obtain ⟨h1, h2⟩ := nm_left h
      refine naf_snoc a false (nm_naf_n n a (by simpa using hn) h1) fun hb => ⟨(h2 hb).1, (h2 hb).2.1, ?_⟩
      unfold lastT
      cases hg : a.getLast? with
      | none => rfl
      | some z => exact decide_eq_false ((h2 hb).2.2 z hg)
theorem nm_naf {f : List It} (h : Nm f) : NAf false f := nm_naf_n _ f rfl h
def lastB (b : List It) : Bool := lastT false b
theorem naf_valid : ∀ (f b : List It), NAf (lastB b) f → (∀ x ∈ f, x.1 = 1 ∨ (x.1 = 5 ∧ isNameL x.2.1 = true ∧ x.2.2 = 0)) → validFrom b f = 0
  | [], _, _, _ => rfl
  | x :: f, b, h, hg => by
    have hc : checkL b x = 0 := by
      rcases hg x (by simp) with h1 | ⟨h1, h2, h3⟩
      · obtain ⟨q1, q2, q3⟩ := h.1 h1
        unfold checkL
        rw [if_pos h1, if_neg]
        rintro (e | e | ⟨y, hy, hy1⟩)
        · exact q1 e
        · exact e q2
        · unfold lastB lastT at q3
          rw [hy] at q3
          simp [hy1] at q3
      · unfold checkL
        rw [if_neg (by rw [h1]; decide), if_pos h1, if_pos ⟨h2, h3⟩]
    rw [validFrom, if_neg (by simp [hc])]
    refine naf_valid f (b ++ [x]) ?_ fun y hy => hg y (by simp [hy])
    have : lastB (b ++ [x]) = decide (x.1 = 1) := by unfold lastB lastT; simp
    rw [this]; exact h.2
def Txt5 (x : It) : Prop := x.2.2 = 0 ∧ (x.1 = 1 ∨ (x.1 = 5 ∧ isNameL x.2.1 = true))
theorem valid_of {f : List It} (h : NAf false f) (hg : ∀ x ∈ f, Txt5 x) (h1 : f.length ≤ 512) (h2 : lenL f ≤ 1024) : validL f = 0 := by
  unfold validL
  rw [if_neg (by omega)]
  refine naf_valid f [] h fun x hx => ?_
  obtain ⟨a, b | ⟨b, c⟩⟩ := hg x hx
  · exact .inl b
  · exact .inr ⟨b, c, a⟩
theorem enc_of {f : List It} (fmt : Int) (h : NAf false f) (hg : ∀ x ∈ f, Txt5 x) (h1 : f.length ≤ 512) (h2 : lenL f ≤ 1024) : encS fmt f = (f.flatMap (encI fmt), 0) := by
  unfold encS
  rw [if_neg (by rw [valid_of h hg h1 h2]; simp), if_neg]
  intro e
  obtain ⟨x, hx, hb⟩ := List.any_eq_true.1 e
  obtain ⟨_, b | ⟨b, _⟩⟩ := hg x hx
  · simp [badTag, isTagK, b] at hb
  · simp [badTag, isTagK, b] at hb
theorem pos_cons (x : It) (f : List It) : posI (x :: f) = (if x.1 = 1 then x.2.1.map (fun c => ((1 : Int), [c], (0 : Int))) else [x]) ++ posI f := by simp [posI]
theorem enc_pos (fmt : Int) (f : List It) : f.flatMap (encI fmt) = (posI f).flatMap (encI fmt) := by
  induction f with
  | nil => rfl
  | cons x f ih =>
    rw [pos_cons, List.flatMap_cons, List.flatMap_append, ih]
    congr 1
    split
    · rename_i h1
      have e : encI fmt x = x.2.1.flatMap (encB fmt) := by unfold encI; rw [if_pos h1]
      rw [e, List.flatMap_map]
      congr 1
      funext c
      simp [encI]
    · simp
theorem pos_slice (a b : Nat) : ∀ (f : List It) (at' : Nat), posI (sliceL a b at' f) = ((posI f).take (b - at')).drop (a - at')
  | [], at' => by simp [posI, sliceL]
  | x :: f, at' => by
    have hw : (if x.1 = 1 then x.2.1.map (fun c => ((1 : Int), [c], (0 : Int))) else [x]).length = widthI x := by unfold widthI; split <;> simp
    have ap : ∀ u v : List It, posI (u ++ v) = posI u ++ posI v := fun u v => by simp [posI]
    rw [sliceL, ap, pos_slice a b f, pos_cons]
    have e2 : ((posI f).take (b - (at' + widthI x))).drop (a - (at' + widthI x)) = ((posI f).take (b - at' - widthI x)).drop (a - at' - widthI x) := by
      rw [Nat.sub_add_eq, Nat.sub_add_eq]
    rw [e2]
    generalize hW : (if x.1 = 1 then x.2.1.map (fun c => ((1 : Int), [c], (0 : Int))) else [x]) = W at hw
    rw [List.take_append, List.drop_append, hw]
    have e3 : ((posI f).take (b - at' - widthI x)).drop (a - at' - (W.take (b - at')).length) = ((posI f).take (b - at' - widthI x)).drop (a - at' - widthI x) := by
      rw [List.length_take, hw]
      by_cases h : widthI x ≤ b - at'
      · rw [Nat.min_eq_right h]
      · rw [show b - at' - widthI x = 0 by omega]; simp
    rw [e3]
    congr 1
    split
    · rename_i h1
      rw [if_pos h1] at hW
      have hl : W = x.2.1.map (fun c => ((1 : Int), [c], (0 : Int))) := hW.symm
      rw [hl, ← List.map_take, ← List.map_drop]
      have et : x.2.1.take (min b (at' + x.2.1.length) - at') = x.2.1.take (b - at') := by
        by_cases h : b ≤ at' + x.2.1.length
        · rw [Nat.min_eq_left h]
        · rw [Nat.min_eq_right (by omega), List.take_of_length_le (by omega), List.take_of_length_le (by omega)]
      have ed : max a at' - at' = a - at' := by omega
      rw [et, ed]
      split
      · simp [posI]
      · rename_i h2
        have : (x.2.1.take (b - at')).drop (a - at') = [] := by
          apply List.drop_of_length_le
          rw [List.length_take]; omega
        rw [this]; rfl
    · rename_i h1
      rw [if_neg h1] at hW
      subst hW
      split
      · rename_i h2
        rw [show a - at' = 0 by omega, List.take_of_length_le (by simp; omega)]
        simp [posI, h1]
      · rename_i h2
        by_cases h3 : a ≤ at'
        · rw [show b - at' = 0 by omega]; simp [posI]
        · rw [List.drop_of_length_le (by simp; omega)]; rfl
theorem slice_past (a b : Nat) : ∀ (f : List It) (at' : Nat), b ≤ at' → sliceL a b at' f = []
  | [], _, _ => rfl
  | x :: f, at', h => by
    rw [sliceL, slice_past a b f _ (by omega), List.append_nil]
    split
    · rw [if_neg (by omega)]
    · rw [if_neg (by omega)]
theorem naf_slice1 (a b : Nat) : ∀ (f : List It) (at' : Nat) (p : Bool), a ≤ at' → NAf p f → NAf p (sliceL a b at' f)
  | [], _, _, _, _ => trivial
  | x :: f, at', p, ha, h => by
    by_cases hb : b ≤ at'
    · rw [slice_past a b _ _ hb]; trivial
    · rw [sliceL]
      have ih := naf_slice1 a b f (at' + widthI x) _ (by omega) h.2
      split
      · rename_i h1
        obtain ⟨q1, q2, q3⟩ := h.1 h1
        have q4 : 0 < x.2.1.length := List.length_pos_iff.2 q1
        rw [if_pos (by omega)]
        rw [h1] at ih
        refine ⟨fun _ => ⟨?_, q2, q3⟩, ih⟩
        intro e
        have := congrArg List.length e
        simp at this
        omega
      · rename_i h1
        rw [if_pos (by omega)]
        exact ⟨fun e => absurd e h1, ih⟩
theorem naf_slice (a b : Nat) : ∀ (f : List It) (at' : Nat) (p : Bool), NAf p f → NAf false (sliceL a b at' f)
  | [], _, _, _ => trivial
  | x :: f, at', p, h => by
    by_cases ha : a ≤ at'
    · exact naf_mono (naf_slice1 a b (x :: f) at' p ha h)
    · rw [sliceL]
      have ih := naf_slice a b f (at' + widthI x) _ h.2
      split
      · rename_i h1
        obtain ⟨q1, q2, q3⟩ := h.1 h1
        split
        · rename_i h2
          have ew : widthI x = x.2.1.length := by unfold widthI; rw [if_pos h1]
          have i2 := naf_slice1 a b f (at' + widthI x) _ (by omega) h.2
          rw [h1] at i2
          refine ⟨fun _ => ⟨?_, q2, rfl⟩, i2⟩
          intro e
          have := congrArg List.length e
          simp at this
          omega
        · exact ih
      · rename_i h1
        rw [if_neg (by omega)]
        exact ih
theorem slice_good (a b : Nat) : ∀ (f : List It) (at' : Nat), (∀ x ∈ f, Txt5 x) → ∀ x ∈ sliceL a b at' f, Txt5 x
  | [], _, _ => fun x hx => by cases hx
  | y :: f, at', h => by
    intro x hx
    rw [sliceL] at hx
    rcases List.mem_append.1 hx with hx | hx
    · have hy := h y (by simp)
      split at hx
      · rename_i h1
        split at hx
        · simp at hx; subst hx; exact ⟨hy.1, .inl rfl⟩
        · cases hx
      · split at hx
        · simp at hx; subst hx; exact hy
        · cases hx
    · exact slice_good a b f _ (fun z hz => h z (by simp [hz])) x hx
theorem slice_lenL (a b : Nat) (f : List It) : lenL (sliceL a b 0 f) = min b (lenL f) - a := by
  rw [← pos_len, pos_slice, List.length_drop, List.length_take, pos_len]; simp
theorem slice_lth (a b : Nat) : ∀ (f : List It) (at' : Nat), (sliceL a b at' f).length ≤ f.length
  | [], _ => by simp [sliceL]
  | x :: f, at' => by
    rw [sliceL, List.length_append, List.length_cons]
    have := slice_lth a b f (at' + widthI x)
    repeat' split
    all_goals simp <;> omega
/-- The encoding of a slice. -/
theorem enc_slice (fmt : Int) {f : List It} (a b : Nat) (h : NAf false f) (hg : ∀ x ∈ f, Txt5 x) (h1 : f.length ≤ 512) (h2 : lenL f ≤ 1024) :
    encS fmt (sliceL a b 0 f) = ((((posI f).take b).drop a).flatMap (encI fmt), 0) := by
  rw [enc_of fmt (naf_slice a b f 0 false h) (slice_good a b f 0 hg) (Nat.le_trans (slice_lth a b f 0) h1) (by rw [slice_lenL]; omega), enc_pos, pos_slice]
  simp
end Go.Proofs.YtiifjfbfkhhpeaaDoor.St
namespace Go.Proofs.YtiifjfbfkhhpeaaDoor
theorem good_txt {f : List St.It} (h : GoodF f) : ∀ x ∈ f, St.Txt5 x := h.2
theorem good_naf {f : List St.It} (h : GoodF f) : St.NAf false f := St.nm_naf h.1
theorem good_enc {f : List St.It} (fmt : Int) (h : GoodF f) (h1 : f.length ≤ 512) (h2 : St.lenL f ≤ 1024) : St.encS fmt f = (f.flatMap (St.encI fmt), 0) := St.enc_of fmt (good_naf h) (good_txt h) h1 h2
end Go.Proofs.YtiifjfbfkhhpeaaDoor

namespace Go.Proofs.YtiifjfbfkhhpeaaDoor.St

theorem flatP_append (a b : List (List UInt8 × It)) : flatP (a ++ b) = flatP a ++ flatP b := by simp [flatP]
/-- The offset of a piece. -/
def cz (ps : List (List UInt8 × It)) (j : Nat) : Nat := (flatP (ps.take j)).length
theorem cz_zero (ps : List (List UInt8 × It)) : cz ps 0 = 0 := by simp [cz, flatP]
theorem cz_all (ps : List (List UInt8 × It)) : cz ps ps.length = (flatP ps).length := by unfold cz; rw [List.take_length]
theorem take_cut (ps : List (List UInt8 × It)) {a b : Nat} (h : a ≤ b) : ps.take b = ps.take a ++ (ps.take b).drop a := by
  conv => lhs; rw [← List.take_append_drop a (ps.take b)]
  rw [List.take_take, Nat.min_eq_left h]
theorem cz_add (ps : List (List UInt8 × It)) {a b : Nat} (h : a ≤ b) : cz ps b = cz ps a + (flatP ((ps.take b).drop a)).length := by
  unfold cz
  conv => lhs; rw [take_cut ps h]
  rw [flatP_append, List.length_append]
theorem cz_mono (ps : List (List UInt8 × It)) {a b : Nat} (h : a ≤ b) : cz ps a ≤ cz ps b := by rw [cz_add ps h]; omega
theorem cz_le (ps : List (List UInt8 × It)) {a : Nat} (h : a ≤ ps.length) : cz ps a ≤ (flatP ps).length := by rw [← cz_all]; exact cz_mono ps h
theorem flat_cut (ps : List (List UInt8 × It)) {a b : Nat} (h : a ≤ b) : ((flatP ps).take (cz ps b)).drop (cz ps a) = flatP ((ps.take b).drop a) := by
  have e : flatP ps = flatP (ps.take a) ++ (flatP ((ps.take b).drop a) ++ flatP (ps.drop b)) := by
    conv => lhs; rw [← List.take_append_drop b ps, flatP_append, take_cut ps h, flatP_append]
    rw [List.append_assoc]
  have h2 := cz_add ps h
  have h3 : cz ps a = (flatP (ps.take a)).length := rfl
  rw [e, List.take_append, List.drop_append]
  rw [List.drop_of_length_le (by rw [List.length_take]; omega), List.nil_append]
  rw [List.take_of_length_le (i := cz ps b) (by omega), show cz ps a - (flatP (ps.take a)).length = 0 by omega, List.drop_zero]
  rw [List.take_append, List.take_of_length_le (by omega)]
  rw [show cz ps b - (flatP (ps.take a)).length - (flatP ((ps.take b).drop a)).length = 0 by omega]
  simp
theorem offs_cz : ∀ (ps : List (List UInt8 × It)) (a : Nat), offs a a ps ++ [a + (flatP ps).length] = (List.range (ps.length + 1)).map (fun i => a + cz ps i)
  | [], a => by simp [offs, cz, flatP]
  | p :: ps, a => by
    rw [List.length_cons, List.range_succ_eq_map, List.map_cons, List.map_map, cz_zero]
    have ih := offs_cz ps (a + p.1.length)
    have e : flatP (p :: ps) = p.1 ++ flatP ps := by simp [flatP]
    rw [offs, List.cons_append, e, List.length_append, ← Nat.add_assoc, ih]
    congr 1
    refine List.map_congr_left fun i _ => ?_
    simp only [Function.comp]
    have e2 : cz (p :: ps) (i + 1) = p.1.length + cz ps i := by unfold cz; rw [List.take_succ_cons]; simp [flatP]
    rw [e2]; omega
end Go.Proofs.YtiifjfbfkhhpeaaDoor.St
namespace Go.Proofs.YtiifjfbfkhhpeaaDoor
theorem slice_tot' (a b : Nat) : ∀ (f : List St.It) (at' : Nat), tot (St.sliceL a b at' f) ≤ tot f
  | [], _ => by simp [St.sliceL]
  | x :: f, at' => by
    have ih := slice_tot' a b f (at' + St.widthI x)
    have e : tot (x :: f) = x.2.1.length + tot f := by simp [tot]
    have e2 : ∀ u v : List St.It, tot (u ++ v) = tot u + tot v := by intro u v; simp [tot]
    rw [St.sliceL, e2, e]
    have h1 : tot (if x.1 = 1 then (if max a at' - at' < min b (at' + x.2.1.length) - at' then [((1 : Int), (x.2.1.take (min b (at' + x.2.1.length) - at')).drop (max a at' - at'), x.2.2)] else []) else (if a ≤ at' ∧ at' < b then [x] else [])) ≤ x.2.1.length := by
      repeat' split
      all_goals simp [tot]
      all_goals omega
    omega
theorem slice_tot (a b : Nat) (f : List St.It) : tot (St.sliceL a b 0 f) ≤ tot f := slice_tot' a b f 0
/-- What stands in the pieces of the positions up to one. -/
def MixOf (fmt : Int) (f : List St.It) (a : Nat) (u : ByteArray) : Prop := ∃ qs : List (List UInt8 × St.It), u.data.toList = St.flatP qs ∧ St.itsP qs = (St.posI f).take a ∧ ∀ q ∈ qs, St.formB fmt q.2 q.1
theorem mix_zero (fmt : Int) (f : List St.It) {u : ByteArray} (h : u.data.toList = []) : MixOf fmt f 0 u := ⟨[], by rw [h]; rfl, by simp [St.itsP], fun q hq => by cases hq⟩
theorem mix_add {fmt : Int} {f : List St.It} {a b : Nat} {u t : ByteArray} (h : MixOf fmt f a u) (hab : a ≤ b) (rs : List (List UInt8 × St.It)) (h1 : t.data.toList = St.flatP rs) (h2 : St.itsP rs = ((St.posI f).take b).drop a) (h3 : ∀ q ∈ rs, St.formB fmt q.2 q.1) : MixOf fmt f b (u ++ t) := by
  obtain ⟨qs, g1, g2, g3⟩ := h
  refine ⟨qs ++ rs, ?_, ?_, ?_⟩
  · rw [St.flatP_append, ← g1, ← h1]; simp
  · have e : St.itsP (qs ++ rs) = St.itsP qs ++ St.itsP rs := by simp [St.itsP]
    rw [e, g2, h2]
    conv => rhs; rw [← List.take_append_drop a ((St.posI f).take b)]
    rw [List.take_take, Nat.min_eq_left hab]
  · intro q hq
    rcases List.mem_append.1 hq with hq | hq
    · exact g3 q hq
    · exact h3 q hq
theorem mix_enc {fmt : Int} {f : List St.It} {a b : Nat} {u t : ByteArray} (h : MixOf fmt f a u) (hab : a ≤ b) (ht : t.data.toList = (((St.posI f).take b).drop a).flatMap (St.encI fmt)) : MixOf fmt f b (u ++ t) := by
  refine mix_add h hab ((((St.posI f).take b).drop a).map (fun p => (St.encI fmt p, p))) ?_ ?_ ?_
  · rw [ht]; unfold St.flatP; rw [List.flatMap_map]
  · unfold St.itsP
    rw [List.map_map]
    show List.map (fun p => p) _ = _
    simp
  · intro q hq
    obtain ⟨p, _, rfl⟩ := List.mem_map.1 hq
    exact .inl rfl
theorem mix_raw {fmt : Int} {f : List St.It} {a b : Nat} {u t : ByteArray} {ps : List (List UInt8 × St.It)} (h : MixOf fmt f a u) (hab : a ≤ b) (h2 : St.itsP ps = St.posI f) (h3 : ∀ q ∈ ps, St.formB fmt q.2 q.1) (ht : t.data.toList = St.flatP ((ps.take b).drop a)) : MixOf fmt f b (u ++ t) := by
  refine mix_add h hab _ ht ?_ fun q hq => h3 q (List.mem_of_mem_take (List.mem_of_mem_drop hq))
  rw [← h2]; unfold St.itsP; rw [List.map_drop, List.map_take]
theorem mix_size {fmt : Int} {f : List St.It} {a : Nat} {u : ByteArray} (hg : GoodF f) (h : MixOf fmt f a u) : u.size ≤ 40 * a := by
  obtain ⟨qs, g1, g2, g3⟩ := h
  have hlen : qs.length ≤ a := by
    have := congrArg List.length g2
    rw [List.length_take] at this
    have e : (St.itsP qs).length = qs.length := by simp [St.itsP]
    omega
  have hpos : ∀ q ∈ qs, q.1.length ≤ 40 := by
    intro q hq
    have hm : q.2 ∈ (St.posI f).take a := by rw [← g2]; unfold St.itsP; exact List.mem_map.2 ⟨q, hq, rfl⟩
    exact St.form_len (good_pos hg q.2 (List.mem_of_mem_take hm)) (g3 q hq)
  have hfl : ∀ l : List (List UInt8 × St.It), (∀ q ∈ l, q.1.length ≤ 40) → (St.flatP l).length ≤ 40 * l.length := by
    intro l
    induction l with
    | nil => intro _; simp [St.flatP]
    | cons p l ih =>
      intro hl
      have h1 := ih fun q hq => hl q (by simp [hq])
      have h2 := hl p (by simp)
      have e : St.flatP (p :: l) = p.1 ++ St.flatP l := by simp [St.flatP]
      rw [e, List.length_append, List.length_cons]; omega
  have := hfl qs hpos
  have e : u.size = (St.flatP qs).length := by rw [← g1, St.len_list]
  omega
theorem mix_all {fmt : Int} {f : List St.It} {a : Nat} {u : ByteArray} (h : MixOf fmt f a u) (ha : (St.posI f).length ≤ a) : RawsOf fmt f u := by
  obtain ⟨qs, g1, g2, g3⟩ := h
  exact ⟨qs, g1, by rw [g2, List.take_of_length_le ha], g3⟩
/-- The offsets of a raw content of pieces. -/
theorem cuts_pieces {E : List UInt8 → St.El} {fmt : Int} {f : List St.It} {raw : ByteArray} (hg : GoodF f) (hl : f.length ≤ 100) (ht : tot f ≤ 900) (hr : RawsOf fmt f raw) (hp : ∀ p b, St.Pos1 p → St.formB fmt p b → St.Piece E b p) :
    ∃ ps : List (List UInt8 × St.It), raw.data.toList = St.flatP ps ∧ St.itsP ps = St.posI f ∧ (∀ p ∈ ps, St.formB fmt p.2 p.1) ∧ ps.length = St.lenL f ∧ St.decF E raw.data.toList 0 0 [] [] = (f, (List.range (St.lenL f + 1)).map (St.cz ps), 0, 0) := by
  obtain ⟨ps, h1, h2, h3⟩ := hr
  have hpos : ∀ p ∈ ps, St.Piece E p.1 p.2 := by
    intro p hpm
    have : p.2 ∈ St.posI f := by rw [← h2]; unfold St.itsP; exact List.mem_map.2 ⟨p, hpm, rfl⟩
    exact hp p.2 p.1 (good_pos hg _ this) (h3 p hpm)
  have hf : (St.itsP ps).foldl St.addI [] = f := by rw [h2]; exact St.pos_norm hg.1 (fun x hx => (hg.2 x hx).1)
  have hlen : ps.length = St.lenL f := by rw [← its_len, h2, St.pos_len]
  have hll := lenL_tot f
  have hd := St.decF_pieces ps [] 0 0 [] [] hpos (by rw [hf]; omega) (by simp; omega)
  rw [List.append_nil, ← h1, St.decF_nil, hf] at hd
  have e : (if ps = [] then 0 else 0 + (raw.data.toList).length) = 0 + (St.flatP ps).length := by
    split
    · rename_i h; subst h; simp [St.flatP]
    · rw [h1]
  rw [e, List.nil_append, St.offs_cz ps 0, hlen] at hd
  refine ⟨ps, h1, h2, h3, hlen, hd.trans ?_⟩
  congr 2
  refine List.map_congr_left fun i _ => ?_
  omega
end Go.Proofs.YtiifjfbfkhhpeaaDoor

namespace Go.Proofs.YtiifjfbfkhhpeaaDoor.St

theorem check_good {b : List It} {x : It} (hg : GItem x) (h1 : x.1 = 1 → x.2.1 ≠ [] ∧ lastB b = false) (hc : isTagK x.1 = true → ∀ y ∈ b, clash x y = false) : checkL b x = 0 := by
  have hany : isTagK x.1 = true → b.any (clash x) = false := fun ht => by
    rw [Bool.eq_false_iff]
    intro e
    obtain ⟨y, hy, hy2⟩ := List.any_eq_true.1 e
    rw [hc ht y hy] at hy2; cases hy2
  unfold checkL
  rcases hg with ⟨g, g0⟩ | ⟨g, g1, g2⟩ | ⟨g, g1, g2, g3, g4⟩ | ⟨g, g1, g2, g3, g4⟩
  · obtain ⟨q1, q3⟩ := h1 g
    rw [if_pos g, if_neg]
    rintro (e | e | ⟨y, hy, hy1⟩)
    · exact q1 e
    · exact e g0
    · unfold lastB lastT at q3
      rw [hy] at q3
      simp [hy1] at q3
  · rw [if_neg (by omega), if_pos g, if_pos ⟨g1, g2⟩]
  · rw [if_neg (by omega), if_neg (by omega), if_pos g, if_pos ⟨g1, g3, g4⟩, hany (by rw [isTagK_iff]; omega)]; rfl
  · rw [if_neg (by omega), if_neg (by omega), if_neg (by omega), if_pos g, if_pos ⟨g1, g3, g4⟩, hany (by rw [isTagK_iff]; omega)]; rfl
theorem naf_validT : ∀ (f b : List It), NAf (lastB b) f → (∀ x ∈ f, GItem x) → NoClash f → (∀ y ∈ b, ∀ x ∈ f, isTagK x.1 = true → clash x y = false) → validFrom b f = 0
  | [], _, _, _, _, _ => rfl
  | x :: f, b, h, hg, hc, hb => by
    have hcp := List.pairwise_cons.1 hc
    have hck : checkL b x = 0 := check_good (hg x (by simp)) (fun h1 => ⟨(h.1 h1).1, (h.1 h1).2.2⟩) fun ht y hy => hb y hy x (by simp) ht
    rw [validFrom, if_neg (by simp [hck])]
    refine naf_validT f (b ++ [x]) ?_ (fun y hy => hg y (by simp [hy])) hcp.2 ?_
    · have : lastB (b ++ [x]) = decide (x.1 = 1) := by unfold lastB lastT; simp
      rw [this]; exact h.2
    · intro y hy z hz ht
      rcases List.mem_append.1 hy with hy | hy
      · exact hb y hy z (by simp [hz]) ht
      · simp at hy; subst hy; exact hcp.1 z hz ht
theorem valid_ofT {f : List It} (h : NAf false f) (hg : ∀ x ∈ f, GItem x) (hc : NoClash f) (h1 : f.length ≤ 512) (h2 : lenL f ≤ 1024) : validL f = 0 := by
  unfold validL
  rw [if_neg (by omega)]
  exact naf_validT f [] h hg hc fun y hy => by cases hy
theorem bad_ofT {f : List It} (hg : ∀ x ∈ f, GItem x) : f.any (badTag 1) = false := by
  rw [Bool.eq_false_iff]
  intro e
  obtain ⟨x, hx, hb⟩ := List.any_eq_true.1 e
  unfold badTag at hb
  simp only [Bool.and_eq_true, isTagK_iff, Bool.or_eq_true, decide_eq_true_eq] at hb
  obtain ⟨ht, hb | hb⟩ := hb
  · exact absurd rfl hb
  · rcases hg x hx with ⟨g, _⟩ | ⟨g, _⟩ | ⟨g, g1, g2, _⟩ | ⟨g, g1, g2, _⟩
    · omega
    · omega
    · rw [g2] at hb; cases hb
    · rw [nameOf_name g1, g2] at hb; cases hb
theorem enc_ofT {f : List It} (h : NAf false f) (hg : ∀ x ∈ f, GItem x) (hc : NoClash f) (h1 : f.length ≤ 512) (h2 : lenL f ≤ 1024) : encS 1 f = (f.flatMap (encI 1), 0) := by
  unfold encS
  rw [if_neg (by rw [valid_ofT h hg hc h1 h2]; simp), bad_ofT hg]; rfl
theorem slice_mem (a b : Nat) : ∀ (f : List It) (at' : Nat), ∀ x ∈ sliceL a b at' f, x ∈ f ∨ (x.1 = 1 ∧ ∃ y ∈ f, y.1 = 1 ∧ y.2.2 = x.2.2)
  | [], _, x, hx => by cases hx
  | y :: f, at', x, hx => by
    rw [sliceL] at hx
    rcases List.mem_append.1 hx with hx | hx
    · split at hx
      · rename_i h1
        split at hx
        · simp at hx; subst hx; exact .inr ⟨rfl, y, by simp, h1, rfl⟩
        · cases hx
      · split at hx
        · simp at hx; subst hx; exact .inl (by simp)
        · cases hx
    · rcases slice_mem a b f _ x hx with h | ⟨h1, z, hz, h2⟩
      · exact .inl (by simp [h])
      · exact .inr ⟨h1, z, by simp [hz], h2⟩
theorem slice_goodT (a b : Nat) (f : List It) (h : ∀ x ∈ f, GItem x) : ∀ x ∈ sliceL a b 0 f, GItem x := by
  intro x hx
  rcases slice_mem a b f 0 x hx with hx | ⟨h1, y, hy, h2, h3⟩
  · exact h x hx
  · exact .inl ⟨h1, by rw [← h3]; exact gitem_zero (h y hy) h2⟩
theorem slice_clash (a b : Nat) : ∀ (f : List It) (at' : Nat), NoClash f → NoClash (sliceL a b at' f)
  | [], _, _ => List.Pairwise.nil
  | y :: f, at', h => by
    have hp := List.pairwise_cons.1 h
    rw [sliceL]
    unfold NoClash
    rw [List.pairwise_append]
    refine ⟨?_, slice_clash a b f _ hp.2, ?_⟩
    · repeat' split
      all_goals simp
    · intro z hz x hx ht
      rcases slice_mem a b f _ x hx with hq | ⟨h1, _⟩
      · split at hz
        · rename_i h1
          split at hz
          · simp at hz; subst hz; exact clash_no (by simp [isTagK])
          · cases hz
        · split at hz
          · simp at hz; subst hz; exact hp.1 x hq ht
          · cases hz
      · rw [h1] at ht; simp [isTagK] at ht
/-- The encoding of a slice. -/
theorem enc_sliceT {f : List It} (a b : Nat) (h : GoodT f) (h1 : f.length ≤ 512) (h2 : lenL f ≤ 1024) : encS 1 (sliceL a b 0 f) = ((((posI f).take b).drop a).flatMap (encI 1), 0) := by
  rw [enc_ofT (naf_slice a b f 0 false (nm_naf h.nm)) (slice_goodT a b f h.items) (slice_clash a b f 0 h.clash) (Nat.le_trans (slice_lth a b f 0) h1) (by rw [slice_lenL]; omega), enc_pos, pos_slice]
  simp
theorem good_encT {f : List It} (h : GoodT f) (h1 : f.length ≤ 512) (h2 : lenL f ≤ 1024) : encS 1 f = (f.flatMap (encI 1), 0) := enc_ofT (nm_naf h.nm) h.items h.clash h1 h2
theorem posT_enc {p : It} (h : GItem p) (hp : p.1 = 1 → p.2.1 ≠ [] ∧ p.2.1.length ≤ 1024) : encS 1 [p] = (encI 1 p, 0) := by
  have hn : NAf false [p] := ⟨fun h1 => ⟨(hp h1).1, gitem_zero h h1, rfl⟩, trivial⟩
  rw [enc_ofT hn (fun x hx => by simp at hx; subst hx; exact h) (by simp [NoClash]) (by simp) ?_]
  · simp
  · simp only [lenL, List.map_cons, List.map_nil, List.sum_cons, List.sum_nil, widthI]
    split
    · rename_i h1
      have := (hp h1).2
      omega
    · omega
/-- Items without empty texts joined to themselves. -/
theorem pos_joinT (l f : List It) (h : ∀ x ∈ l, x.1 = 1 → x.2.2 = 0) : (posI l).foldl addI f = l.foldl addI f := by
  induction l generalizing f with
  | nil => rfl
  | cons x l ih =>
    have hx := h x (by simp)
    have hl : ∀ y ∈ l, y.1 = 1 → y.2.2 = 0 := fun y hy => h y (by simp [hy])
    rw [pos_cons, List.foldl_append, List.foldl_cons, ← ih (addI f x) hl]
    congr 1
    split
    · rename_i h1
      rw [addI_text]
      obtain ⟨k, t, i⟩ := x
      simp only at h1 hx ⊢
      rw [h1, hx h1]
    · rfl
theorem pos_normT {f : List It} (h : Nm f) (h0 : ∀ x ∈ f, x.1 = 1 → x.2.2 = 0) : (posI f).foldl addI [] = f := by rw [pos_joinT f [] h0]; exact h
theorem pos_item {f : List It} {c : Nat} (h : ∀ x ∈ f, GItem x) : ∀ p ∈ posI f, GItem p ∧ (p.1 = 1 → p.2.1 ≠ [] ∧ p.2.1.length ≤ 1024) := by
  intro p hp
  unfold posI at hp
  obtain ⟨x, hx, hp⟩ := List.mem_flatMap.1 hp
  split at hp
  · obtain ⟨c, _, rfl⟩ := List.mem_map.1 hp
    exact ⟨.inl ⟨rfl, rfl⟩, fun _ => ⟨by simp, by simp⟩⟩
  · rename_i h1
    simp at hp; subst hp
    exact ⟨h p hx, fun e => absurd e h1⟩
theorem encI_lenT {p : It} (h : PosT p) (hs : p.2.1.length ≤ 64) : (encI 1 p).length ≤ 67 ∧ encI 1 p ≠ [] := by
  refine ⟨?_, (mark_piece h).1⟩
  rcases h with ⟨c, rfl⟩ | ⟨t, rfl, ht⟩ | ⟨t, i, rfl | rfl, ht, hb⟩ | ⟨t, i, rfl, ht, hb⟩
  · have e : encI 1 (1, [c], 0) = encB 1 c := by simp [encI]
    rw [e]; have := encB_len 1 c; omega
  · simp [encI] at hs ⊢; omega
  · simp [encI] at hs ⊢; omega
  · simp [encI] at hs ⊢; omega
  · simp [encI] at hs ⊢; omega
end Go.Proofs.YtiifjfbfkhhpeaaDoor.St

namespace Go.Proofs.YtiifjfbfkhhpeaaDoor
open Go.RowKit

/-- What stands at a position of a markup's fragment. -/
def PosG (p : St.It) : Prop := St.GItem p ∧ St.PosT p ∧ p.2.1.length ≤ 24 ∧ (p.1 = 1 → p.2.1 ≠ [] ∧ p.2.1.length ≤ 1024)
theorem posG_of {f : List St.It} (h : ∀ x ∈ f, St.GItem x) (hs : ∀ x ∈ f, x.1 ≠ 1 → x.2.1.length ≤ 24) : ∀ p ∈ St.posI f, PosG p := by
  intro p hp
  obtain ⟨h1, h2⟩ := St.pos_item (c := 0) h p hp
  refine ⟨h1, St.pos_posT h p hp, ?_, h2⟩
  unfold St.posI at hp
  obtain ⟨x, hx, hp⟩ := List.mem_flatMap.1 hp
  split at hp
  · obtain ⟨c, _, rfl⟩ := List.mem_map.1 hp
    simp
  · rename_i hk
    simp at hp; subst hp
    exact hs p hx hk
theorem form1_len {p : St.It} {b : List UInt8} (h : PosG p) (hf : St.Form1 p b) : b.length ≤ 40 := by
  rcases hf with rfl | ⟨_, rfl⟩ | ⟨_, rfl⟩
  · rcases h.2.1 with ⟨c, rfl⟩ | ⟨t, rfl, ht⟩ | ⟨t, i, rfl | rfl, ht, hb⟩ | ⟨t, i, rfl, ht, hb⟩
    · have e : St.encI 1 (1, [c], 0) = St.encB 1 c := by simp [St.encI]
      rw [e]; have := St.encB_len 1 c; omega
    all_goals
      have := h.2.2.1
      simp [St.encI] at this ⊢; omega
  · simp
  · simp
set_option maxHeartbeats 1600000 in
theorem long_markup (B g P : Nat) (p : St.It) (w : World) (hG : GenP w B g P) (hp : PosG p) :
    Calls Tryd.prog 44 #[.pointer (some ⟨g, 0, none⟩), .int .i64 1, .agg #[.int .i64 p.1, .string ⟨p.2.1.toArray⟩, .int .i64 p.2.2], .string ⟨(St.encI 1 p).toArray⟩] w fun e w' => ∃ b : List UInt8, e = .returned (.string ⟨b.toArray⟩) ∧ St.Form1 p b ∧ GenP w' B g (P + 1) ∧ w.grownBy w' (some g) := by
  have HG := hid hG
  obtain ⟨hgB, hB⟩ := hG.lt
  by_cases h1 : p.1 = 1 ∧ p.2.1 = [62]
  · obtain ⟨k, t, i⟩ := p
    obtain ⟨rfl, rfl⟩ := h1
    obtain rfl : i = 0 := by
      rcases hp.1 with ⟨_, h⟩ | ⟨h, _⟩ | ⟨h, _⟩ | ⟨h, _⟩
      · exact h
      · cases h
      · rcases h with h | h <;> cases h
      · cases h
    clear hG hp
    go_enter Tryd.func44, Tryd.ntmps44
    go_wp2
    go_ret
    exact ⟨[38, 103, 116, 59], rfl, .inr (.inl ⟨rfl, rfl⟩), (HG.out.und ((Und.refl _).alloc _)).le (by omega), ((Und.refl w).alloc _).gb _⟩
  by_cases h2 : p.1 = 1 ∧ p.2.1 = [125]
  · obtain ⟨k, t, i⟩ := p
    obtain ⟨rfl, rfl⟩ := h2
    obtain rfl : i = 0 := by
      rcases hp.1 with ⟨_, h⟩ | ⟨h, _⟩ | ⟨h, _⟩ | ⟨h, _⟩
      · exact h
      · cases h
      · rcases h with h | h <;> cases h
      · cases h
    clear hG hp h1
    go_enter Tryd.func44, Tryd.ntmps44
    go_wp2
    go_ret
    exact ⟨[38, 114, 98, 59], rfl, .inr (.inr ⟨rfl, rfl⟩), (HG.out.und ((Und.refl _).alloc _)).le (by omega), ((Und.refl w).alloc _).gb _⟩
  obtain ⟨k, t, i⟩ := p
  simp only at h1 h2
  generalize hu : (⟨(St.encI 1 (k, t, i)).toArray⟩ : ByteArray) = u
  have HU := hid hu
  have b62 := bl_eq ⟨t.toArray⟩ [62]
  have b125 := bl_eq ⟨t.toArray⟩ [125]
  have hxl : ((⟨t.toArray⟩ : ByteArray).data.toList) = t := by simp
  rw [hxl] at b62 b125
  have fin : ∀ W : World, Und w W → ∃ b : List UInt8, Ending.returned (.string u) = .returned (.string ⟨b.toArray⟩) ∧ St.Form1 (k, t, i) b ∧ GenP W B g (P + 1) ∧ w.grownBy W (some g) := fun W hW => ⟨St.encI 1 (k, t, i), by rw [HU.out], .inl rfl, (HG.out.und hW).le (by omega), hW.gb _⟩
  have FIN := hid fin
  clear hxl hu fin hG hp
  by_cases h3 : t = [62]
  · have q2 : (k == 1) = false := by rw [beq_eq_false_iff_ne]; exact fun e => h1 ⟨e, h3⟩
    subst h3
    clear b62 b125 h1 h2 HU
    simp only
    go_enter Tryd.func44, Tryd.ntmps44
    go_wp2
    go_ret
    exact FIN.out _ ((by repeat (first | exact Und.refl _ | assumption | refine Und.under ?_ _ | refine Und.alloc ?_ _ | refine Und.drew ?_ | refine Und.drewN ?_ _)))
  by_cases h4 : t = [125]
  · have q2 : (k == 1) = false := by rw [beq_eq_false_iff_ne]; exact fun e => h2 ⟨e, h4⟩
    subst h4
    clear b62 b125 h1 h2 HU h3
    simp only
    go_enter Tryd.func44, Tryd.ntmps44
    go_wp2
    go_ret
    exact FIN.out _ ((by repeat (first | exact Und.refl _ | assumption | refine Und.under ?_ _ | refine Und.alloc ?_ _ | refine Und.drew ?_ | refine Und.drewN ?_ _)))
  rw [decide_eq_false h3] at b62
  rw [decide_eq_false h4] at b125
  simp only
  generalize (⟨t.toArray⟩ : ByteArray) = s at b62 b125 ⊢
  clear h1 h2 h3 h4 HU
  go_enter Tryd.func44, Tryd.ntmps44
  go_wp2
  go_ret
  exact FIN.out _ ((by repeat (first | exact Und.refl _ | assumption | refine Und.under ?_ _ | refine Und.alloc ?_ _ | refine Und.drew ?_ | refine Und.drewN ?_ _)))
def RwRelT (w : World) (B g P : Nat) (f : List St.It) (s7 s8 : Value) (wr : World) : Prop :=
  ∃ (i : Nat) (raw : ByteArray) (ps : List (List UInt8 × St.It)), i ≤ St.lenL f ∧ s8 = .int .i64 i ∧ s7 = .string raw ∧ raw.data.toList = St.flatP ps ∧ St.itsP ps = (St.posI f).take i ∧ (∀ p ∈ ps, St.Form1 p.2 p.1) ∧ raw.size ≤ 40 * i ∧ GenP wr B g (P + 2 * i) ∧ w.grownBy wr (some g)
/-- What Raws gives: pieces of f's positions. -/
def RawsT (f : List St.It) (raw : ByteArray) : Prop := ∃ ps : List (List UInt8 × St.It), raw.data.toList = St.flatP ps ∧ St.itsP ps = St.posI f ∧ ∀ p ∈ ps, St.Form1 p.2 p.1
set_option maxRecDepth 20000 in
set_option maxHeartbeats 12800000 in
theorem raws_genT (B g P : Nat) (A : Option Addr) (n c : Nat) (f : List St.It) (w : World) (hG : GenP w B g P) (hP : P ≤ 100000) (hn : f.length = n) (hnc : n ≤ c) (hc63 : c ≤ 9223372036854775807) (h : ItemsAt w A f) (hne : ∀ b off, A = some ⟨b, off, none⟩ → b ≠ g)
    (hl : n ≤ 1000) (ht : tot f ≤ 10000) (hgood : St.GoodT f) (hsmall : ∀ x ∈ f, x.1 ≠ 1 → x.2.1.length ≤ 24) :
    Calls Tryd.prog 22 #[.pointer (some ⟨g, 0, none⟩), .int .i64 1, .slice A n c] w fun e w' => ∃ raw : ByteArray, e = .returned (.string raw) ∧ RawsT f raw ∧ raw.size ≤ 40 * (tot f + n) ∧ GenP w' B g (P + 2 * (tot f + n)) ∧ w.grownBy w' (some g) := by
  have HG := hid hG
  have H := hid h
  have HN := hid hn
  have HNE := hid hne
  have HGD := hid hgood
  have HSM := hid hsmall
  obtain ⟨hgB, hB⟩ := hG.lt
  have hll : St.lenL f ≤ tot f + n := by have := lenL_tot f; omega
  clear hG h hn hne hgood hsmall
  go_enter Tryd.func22, Tryd.ntmps22
  go_wp2_with fail
  go_loopw [7, 8] (fun s7 s8 wr => RwRelT w B g P f s7 s8 wr) (fun _ s8 _ => St.lenL f + 1 - (intOf s8).toNat)
  case atStart => exact ⟨0, ⟨#[]⟩, [], by omega, rfl, rfl, rfl, rfl, (fun p hp => by cases hp), by show 0 ≤ _; omega, HG.out, gb_refl _ _⟩
  case round =>
    clear HG
    obtain ⟨i, raw, ps, hi, rfl, rfl, hraw, hits, hform, hrs, hG, hk⟩ := hrel
    have HG := hid hG
    have HK := hid hk
    have HRAW := hid hraw
    have HITS := hid hits
    have HFORM := hid hform
    have hI := items_gb H.out hk HNE.out
    have HI := hid hI
    have hlen := hid (rlength_any A n c f wr HN.out hI (by omega) (by omega))
    have hsz := hk.size
    clear hG hk hraw hits hform hI
    by_cases hlt : i < St.lenL f
    · have z1 : (i : Int) < (St.lenL f : Nat) := by omega
      have hpl : i < (St.posI f).length := by rw [St.pos_len]; exact hlt
      have hone := St.slice_one i f 0 (fun x hx => St.gitem_zero (HGD.out.items x hx)) (by omega) (by simpa using hpl)
      have hp1 := posG_of HGD.out.items HSM.out (St.posI f)[i] (List.getElem_mem hpl)
      have htk : (St.posI f).take (i + 1) = (St.posI f).take i ++ [(St.posI f)[i]] := by rw [List.take_add_one, List.getElem?_eq_getElem hpl]; rfl
      simp only [Nat.sub_zero] at hone
      have hsl := rslice_any A n c f i (i + 1) wr HN.out HI.out (by omega) (by omega) (by omega) (by omega)
      rw [hone] at hsl
      generalize (St.posI f)[i] = p at hone hp1 htk hsl
      have hpt := hp1.2.2.1
      have HSL := hid hsl
      have HP1 := hid hp1
      have stp : ∀ (b : List UInt8), St.Form1 p b → (raw ++ (⟨b.toArray⟩ : ByteArray)).data.toList = St.flatP (ps ++ [(b, p)]) ∧ St.itsP (ps ++ [(b, p)]) = (St.posI f).take (i + 1) ∧ (∀ q ∈ ps ++ [(b, p)], St.Form1 q.2 q.1) ∧ (raw ++ (⟨b.toArray⟩ : ByteArray)).size ≤ 40 * (i + 1) := by
        intro b hb
        refine ⟨?_, ?_, ?_, ?_⟩
        · unfold St.flatP; rw [List.flatMap_append]; simp; rw [HRAW.out]; rfl
        · rw [htk, ← HITS.out]; simp [St.itsP]
        · intro q hq
          rcases List.mem_append.1 hq with hq | hq
          · exact HFORM.out q hq
          · simp at hq; subst hq; exact hb
        · rw [ByteArray.size_append]
          have := form1_len hp1 hb
          have : (⟨b.toArray⟩ : ByteArray).size = b.length := by show b.toArray.size = _; simp
          omega
      have STP := hid stp
      have hel := (St.encI_lenT hp1.2.1 (by have := hp1.2.2.1; omega)).1
      have hez : (⟨(St.encI 1 p).toArray⟩ : ByteArray).size = (St.encI 1 p).length := by show (St.encI 1 p).toArray.size = _; simp
      clear hone hp1 htk hsl stp
      go_wp2_with fail
      refine hlen.out.mono ?_
      rintro e w2 ⟨rfl, rfl⟩
      go_wp2_with fail
      refine HSL.out.mono ?_
      rintro e w2 ⟨v, rfl, ho, hu2⟩
      obtain ⟨A2, c2, rfl, hc2, hc3, hA2⟩ := own_slice' ho
      simp only [List.length_singleton] at ho hc2 ⊢
      obtain ⟨g2, rfl, hg2a, hg2, hg2c⟩ := own_cell ho (by omega)
      have q0 := hg2c 0 _ (show (cellsIt [p])[0]? = some (.int .i64 p.1) from rfl)
      have q1 := hg2c 1 _ (show (cellsIt [p])[1]? = some (.string ⟨p.2.1.toArray⟩) from rfl)
      have q2 := hg2c 2 _ (show (cellsIt [p])[2]? = some (.int .i64 p.2.2) from rfl)
      have hit := items_own ho rfl
      have henc := rencode_any 1 (some ⟨g2, 0, none⟩) 1 c2 [p] w2 rfl hc2 (by unfold maxLen at hc3; omega) (fun e => by cases e) hit (by omega) (by simp [tot]; omega)
      rw [St.posT_enc HP1.out.1 HP1.out.2.2.2] at henc
      have HENC := hid henc
      have HK2 := hid (gb_und HK.out hu2)
      have HG2 := hid (HG.out.und hu2)
      clear henc hit hg2c ho hu2 hlen HSL HK HG
      go_wp2_with fail
      refine HENC.out.mono ?_
      rintro e w3 ⟨rfl, hu3⟩
      have HK3 := hid (gb_und HK2.out hu3)
      have HG3 := hid (HG2.out.und hu3)
      have e0 := (hu3.cell hg2).trans q0
      have e1 := (hu3.cell hg2).trans q1
      have e2 := (hu3.cell hg2).trans q2
      have hg2' : g2 ≠ g := by omega
      clear hu3 HENC HK2 HG2 q0 q1 q2
      go_wp2_with fail
      refine (next_gen B g _ 3 _ HG3.out (by omega) (by omega) (by omega)).mono ?_
      rintro e w4 ⟨r, rfl, hr, hG4, hk4⟩
      have HG4 := hid hG4
      have HK4 := hid (gb_trans HK3.out hk4 (fun _ e => .inl e))
      have hg3 := World.block_lt_of_cell? _ _ e0
      have d0 := (gb_cell hk4 (p := ⟨g2, 0, none⟩) hg3 (by simpa using hg2')).trans e0
      have d1 := (gb_cell hk4 (p := ⟨g2, 1, none⟩) hg3 (by simpa using hg2')).trans e1
      have d2 := (gb_cell hk4 (p := ⟨g2, 2, none⟩) hg3 (by simpa using hg2')).trans e2
      haveI : LtW g2 w4 := LtW.of (World.block_lt_of_cell? _ _ d0)
      clear hG4 hk4 HG3 HK3 e0 e1 e2
      by_cases hr0 : r = 0
      · subst hr0
        go_wp2_with fail
        refine (long_markup B g _ p _ HG4.out HP1.out).mono ?_
        rintro e w5 ⟨b, rfl, hb, hG5, hk5⟩
        obtain ⟨s1, s2, s3, s4⟩ := STP.out b hb
        have hbl := form1_len HP1.out hb
        have hbz : (⟨b.toArray⟩ : ByteArray).size = b.length := by show b.toArray.size = _; simp
        have HE := hid (And.intro s1 (And.intro s2 (And.intro s3 (And.intro hG5 (gb_trans HK4.out hk5 (fun _ e => .inl e))))))
        have y1 : ¬ 9223372036854775807 < raw.size + b.length := by omega
        clear s1 s2 s3 hG5 hk5 hb
        go_wp2
        exact ⟨⟨i + 1, _, _, by omega, congrArg (Value.int .i64) (by omega), rfl, HE.out.1, HE.out.2.1, HE.out.2.2.1, s4, HE.out.2.2.2.1.le (by omega), HE.out.2.2.2.2⟩, by simp [intOf]; omega⟩
      · have z2 : ((r : Int) == 0) = false := by simp; omega
        obtain ⟨s1, s2, s3, s4⟩ := STP.out (St.encI 1 p) (.inl rfl)
        have HE := hid (And.intro s1 (And.intro s2 s3))
        have y1 : ¬ 9223372036854775807 < raw.size + (St.encI 1 p).length := by omega
        clear s1 s2 s3 hr0
        go_wp2
        exact ⟨⟨i + 1, _, _, by omega, congrArg (Value.int .i64) (by omega), rfl, HE.out.1, HE.out.2.1, HE.out.2.2, s4, HG4.out.le (by omega), HK4.out⟩, by simp [intOf]; omega⟩
    · have z1 : ¬ (i : Int) < (St.lenL f : Nat) := by omega
      have hfin : RawsT f raw := ⟨ps, HRAW.out, by rw [HITS.out, List.take_of_length_le (by rw [St.pos_len]; omega)], HFORM.out⟩
      have HFIN := hid hfin
      clear hfin
      go_wp2_with fail
      refine hlen.out.mono ?_
      rintro e w2 ⟨rfl, rfl⟩
      go_wp2
      go_ret
      exact ⟨raw, rfl, HFIN.out, by omega, HG.out.le (by omega), HK.out⟩
end Go.Proofs.YtiifjfbfkhhpeaaDoor

namespace Go.Proofs.YtiifjfbfkhhpeaaDoor
open Go.RowKit

theorem rg_norm2 {P : Program} {md : Region.Mode} {ops : Array Oper} {Q : Exit → Act → World → Prop} {fuel : Nat} {l l' : Array Bool} {a : Act} {w : World} (h : l = l') (hw : wpAny P md ops Q fuel l' a w) : wpAny P md ops Q fuel l a w := by subst h; exact hw
theorem step_append_items {ops : Array Oper} {o : Oper} {a : Act} {w : World} {K : Act → World → Prop} {Q : Exit → Act → World → Prop} {E : Prop} (hgd : o.guard = none) (s x : Operand)
    (ho : o.op = .call { callee := .builtin .append, args := #[s, x], argTypes := #[24, 24] })
    (base : Nat) (v : Value) (n : Nat) (O : List St.It) (hs : a.eval s = v) (hown : w.ownsRow base 57 3 v n (cellsIt O))
    (ad : Addr) (m c : Nat) (f : List St.It) (hx : a.eval x = .slice (some ad) m c) (hI : ItemsAt w (some ad) f) (hm : f.length = m) (h63 : n + m ≤ 200000) (hbase : base ≤ w.heap.size)
    (h : ∀ v' w', w'.ownsRow base 57 3 v' (n + m) (cellsIt (O ++ f)) → w.grownBy w' v.ownBlock → K (a.put o.dst v') w') : if Region.wanted o (yielded ops a.tmps) = true then Oper.wp Tryd.prog o a w K Q else E := by
  obtain ⟨i0, hi, hz0, hz1, hz2⟩ := info_parts info_item
  refine step_append_own hgd s x 24 ho base 57 i0 (.agg #[.int .i64 0, .string ⟨#[]⟩, .int .i64 0]) 3 32 Tryd.underlying24 hi hz0 hz1 hz2 rfl (by decide) v n _ hs hown ad m c (cellsIt f) hx (by rw [cells_len, hm]) hI.cells (cellsIt_one f) (by unfold maxLen; omega) (by omega) hbase ?_
  intro v' w' ho' hg _
  exact h v' w' (by rw [cellsIt_append]; exact ho') hg
theorem items_drop {w : World} {b off : Nat} {f : List St.It} (h : ItemsAt w (some ⟨b, off, none⟩) f) (q : Nat) : ItemsAt w (some ⟨b, off + q * 3, none⟩) (f.drop q) := by
  intro h0
  simp at h0
  obtain ⟨b', off', e, hb, hc⟩ := h (by omega)
  obtain ⟨rfl, rfl⟩ : b = b' ∧ off = off' := by simp at e; exact e
  refine ⟨b, off + q * 3, rfl, hb, fun j hj => ?_⟩
  simp at hj
  have := hc (q + j) (by omega)
  simp only [List.getElem_drop]
  rw [show off + q * 3 + j * 3 = off + (q + j) * 3 by omega]
  exact this
theorem step_callF2 {P : Program} {ops : Array Oper} {o : Oper} {a : Act} {w : World} {K : Act → World → Prop} {Q : Exit → Act → World → Prop} {E : Prop}
    (hg : o.guard = none) (f : FuncId) (args : Array Value) (Po : Ending → World → Prop) (hc : Calls P f args w Po)
    (hrun : (execOp a.eval o).run P w = .ok (.enter f args) w) (hK : ∀ e w', Po e w' → ∃ v, e = .returned v ∧ K (a.put o.dst v) w') :
    if Region.wanted o (yielded ops a.tmps) = true then Oper.wp P o a w K Q else E := by
  have hw : Region.wanted o (yielded ops a.tmps) = true := by simp [Region.wanted, hg]
  rw [if_pos hw]
  unfold Oper.wp
  rw [hrun]
  refine hc.mono ?_
  intro e w' hp
  obtain ⟨v, rfl, hk⟩ := hK e w' hp
  exact hk
theorem dis_of {W' : World} {H e e' n n' b : Nat} {v9 v10 : Value} {xs xs' : List Value} {w2 : World} (h9 : W'.ownsRow H e 3 v9 n xs) (h10 : w2.ownsRow b e' 3 v10 n' xs') (hH : w2.heap.size ≤ H) : v9.ownBlock = none ∨ v9.ownBlock ≠ v10.ownBlock := by
  cases h : v9.ownBlock with
  | none => exact .inl rfl
  | some x =>
    refine .inr fun e => ?_
    have h1 := owns_block h9 x h
    have h2 := (h10.lt x e.symm).2
    omega
def FtRel (w : World) (B g P n : Nat) (ns : Bool) (s9 s10 s11 s12 : Value) (wr : World) : Prop := ∃ (i k c : Nat) (f op : List St.It), s12 = .int .i64 i ∧ s11 = .int .i64 c ∧ k + i ≤ n ∧ wr.ownsRow w.heap.size 57 3 s9 f.length (cellsIt f) ∧ wr.ownsRow w.heap.size 57 3 s10 op.length (cellsIt op) ∧ (s9.ownBlock = none ∨ s9.ownBlock ≠ s10.ownBlock) ∧ St.GenT ns f op c ∧ f.length ≤ k ∧ op.length ≤ k ∧ c ≤ k ∧ tot f ≤ 18 * k ∧ GenP wr B g (P + 1 + 9 * k) ∧ w.grownBy wr (some g)
def FragTEnd (w : World) (B g P n : Nat) (ns : Bool) (e : Ending) (w' : World) : Prop := ∃ (v : Value) (f op : List St.It) (c : Nat), e = .returned v ∧ w'.ownsRow w.heap.size 57 3 v f.length (cellsIt f) ∧ St.GenT ns f op c ∧ f.length ≤ n ∧ tot f ≤ 18 * n ∧ GenP w' B g (P + 1 + 9 * n) ∧ w.grownBy w' (some g)

set_option maxRecDepth 20000 in
set_option maxHeartbeats 12800000 in
theorem fragt_gen (B g P n : Nat) (w : World) (hG : GenP w B g P) (hP : P ≤ 100000) (hn : n ≤ 100) :
    Calls Tryd.prog 26 #[.pointer (some ⟨g, 0, none⟩), .int .i64 n, .bool true, .bool false] w (FragTEnd w B g P n false) := by
  have HG := hid hG
  obtain ⟨hgB, hB⟩ := hG.lt
  obtain ⟨i0, hi, hz0, hz1, hz2⟩ := info_parts info_item
  clear hG
  go_enter Tryd.func26, Tryd.ntmps26
  go_wp2_with fail
  refine (next_gen B g P ((n : Int) + 1) _ HG.out (by omega) (by omega) (by omega)).mono ?_
  rintro e w2 ⟨r, rfl, hr, hG2, hk⟩
  have HG2 := hid hG2
  have HK2 := hid hk
  clear hG2 hk HG
  go_wp2_with fail
  go_loopw [9, 10, 11, 12] (fun s9 s10 s11 s12 wr => FtRel w B g P n false s9 s10 s11 s12 wr) (fun _ _ _ s12 _ => (intOf s12).toNat)
  case atStart => exact ⟨r, 0, 0, [], [], rfl, rfl, by omega, World.ownsRow_nil _ _ _ _, World.ownsRow_nil _ _ _ _, .inl rfl, .nil, by simp, by simp, by omega, by simp [tot], HG2.out, HK2.out⟩
  case round =>
    clear HG2 HK2 hr
    obtain ⟨i, k, c, f, op, rfl, rfl, hki, hown, hownp, hdis, hgen, hfl, hol, hck, hft, hG, hk⟩ := hrel
    have HG := hid hG
    have HK := hid hk
    have HO := hid hown
    have HP := hid hownp
    have HD := hid hdis
    have HGN := hid hgen
    clear hG hk hown hownp hdis hgen
    by_cases hi9 : 0 < i
    · have z : (0 : Int) < (i : Int) := by omega
      obtain ⟨wo, rfl⟩ : ∃ wo : World, wo = wr := ⟨_, rfl⟩
      go_wp2_with fail
      refine (line_gen B g _ 3 _ HG.out (by omega) (by omega)).mono ?_
      rintro e w3 ⟨t, rfl, hts, hG3, hk3⟩
      have HG3 := hid hG3
      have HK3 := hid (gb_trans HK.out hk3 (fun _ e => .inl e))
      have HO3 := hid (own_gb HO.out hk3 (by omega))
      have HP3 := hid (own_gb HP.out hk3 (by omega))
      clear hG3 hk3 HG HK HO HP
      have hsz3 := HK3.out.size
      obtain ⟨A9, c9, rfl, _, _, hA9⟩ := own_slice' HO3.out
      obtain ⟨A10, c10, rfl, h10c, h10m, hA10⟩ := own_slice' HP3.out
      have hlt3 : ∀ x, (Value.slice A9 f.length c9).ownBlock = some x → x < w3.heap.size := fun x hx => (HO3.out.lt x hx).2
      have hlt3p : ∀ x, (Value.slice A10 op.length c10).ownBlock = some x → x < w3.heap.size := fun x hx => (HP3.out.lt x hx).2
      have hcat : ∀ (W : World) (b : Nat) (x : St.It), ItemsAt W A9 f → ItemsAt W (some ⟨b, 0, none⟩) [x] → tot (f ++ [x]) ≤ 4611686018427387904 → Calls Tryd.prog 40 #[.slice A9 f.length c9, .slice (some ⟨b, 0, none⟩) 1 1] W fun e w' => ∃ v, e = .returned v ∧ w'.ownsRow W.heap.size 57 3 v (St.addI f x).length (cellsIt (St.addI f x)) ∧ Und W w' := by
        intro W b x h h' ht
        have := concat_any A9 f.length c9 f (some ⟨b, 0, none⟩) 1 1 [x] W rfl rfl (fun e => by have := hA9 e; omega) (fun e => by cases e) h h' (by omega) ht
        rw [St.normL_snoc, HGN.out.nm] at this
        exact this
      have HCAT := hid hcat
      clear hcat
      have fin : ∀ (x : St.It) (v7 v10 : Value) (w6 w7 : World) (op' : List St.It) (c' : Nat) (s11 : Value), s11 = .int .i64 (c' : Nat) → St.GenT false (St.addI f x) op' c' → x.2.1.length ≤ 18 → op'.length ≤ op.length + 1 → c' ≤ c + 1 → w7.ownsRow w6.heap.size 57 3 v7 (St.addI f x).length (cellsIt (St.addI f x)) → w6.ownsRow w.heap.size 57 3 v10 op'.length (cellsIt op') → Und w6 w7 → w.heap.size ≤ w6.heap.size → GenP w7 B g (P + 1 + 9 * (k + 1)) → w.grownBy w7 (some g) → FtRel w B g P n false v7 v10 s11 (.int .i64 ((i : Int) - 1)) w7 := by
        intro x v7 v10 w6 w7 op' c' s11 hs11 hg hx ho' hc' ho7 ho10 hu7 hwz hG hk
        have h1 := (St.addI_len f x).1
        have h2 := tot_add f x
        exact ⟨i - 1, k + 1, c', St.addI f x, op', congrArg (Value.int .i64) (by omega), hs11, by omega, own_low ho7 hwz, own_und hu7 ho10, dis_of ho7 ho10 (Nat.le_refl _), hg, by omega, by omega, by omega, by omega, hG, hk⟩
      have FIN := hid fin
      clear fin
      have hgs : g < w3.heap.size := by omega
      go_wp2_with fail
      refine (next_gen B g _ 8 _ (HG3.out.und ((Und.refl _).alloc _)) (by omega) (by omega) (by omega)).mono ?_
      rintro e w4 ⟨r, rfl, hr, hG4, hk4⟩
      have HG4 := hid hG4
      have HK4 := hid (gb_trans (gb_und HK3.out ((Und.refl _).alloc (.cells #[.int .i64 1, .string t, .int .i64 0] 57))) hk4 (fun _ e => .inl e))
      have HO4 := hid (own_gb (HO3.out.alloc (.cells #[.int .i64 1, .string t, .int .i64 0] 57)) hk4 (by omega))
      have HP4 := hid (own_gb (HP3.out.alloc (.cells #[.int .i64 1, .string t, .int .i64 0] 57)) hk4 (by omega))
      have hb4 : w4.heap[w3.heap.size]? = some (Obj.cells #[.int .i64 1, .string t, .int .i64 0] 57 (0, 0)) := (hk4.block w3.heap.size (by simp) (by simp; omega)).trans (heap_alloc_new w3 _)
      have hsz4 : w3.heap.size < w4.heap.size := lt_of_heap hb4
      have d0 : w4.cell? ⟨w3.heap.size, 0, none⟩ = some (.int .i64 1) := Lib.cell_of_heap hb4 0
      have d1 : w4.cell? ⟨w3.heap.size, 1, none⟩ = some (.string t) := Lib.cell_of_heap hb4 1
      have d2 : w4.cell? ⟨w3.heap.size, 2, none⟩ = some (.int .i64 0) := Lib.cell_of_heap hb4 2
      haveI : LtW w3.heap.size w4 := LtW.of hsz4
      have hr8 : r < 8 := by omega
      clear hG4 hk4 HG3 HK3 HO3 HP3 hr
      rcases (show r = 0 ∨ r = 1 ∨ r = 2 ∨ r = 3 ∨ r = 4 ∨ r = 5 ∨ r = 6 ∨ r = 7 by omega) with h | h | h | h | h | h | h | h
      · subst h
        clear hr8 d0 d1 d2
        go_wp2_with fail
        refine (next_gen B g _ 3 _ (HG4.out.und ((Und.refl _).alloc (.cells #[.string ⟨#[110]⟩, .string ⟨#[110, 97, 109, 101]⟩, .string ⟨#[120, 49]⟩] 9))) (by omega) (by omega) (by omega)).mono ?_
        rintro e w5 ⟨q, rfl, hq, hG5, hk5⟩
        obtain ⟨u, hu, hus, hun⟩ : ∃ u : ByteArray, (#[.string ⟨#[110]⟩, .string ⟨#[110, 97, 109, 101]⟩, .string ⟨#[120, 49]⟩] : Array Value)[q]? = some (.string u) ∧ u.size ≤ 5 ∧ St.isNameL u.data.toList = true := by
          rcases (show q = 0 ∨ q = 1 ∨ q = 2 by omega) with h | h | h <;> subst h <;> exact ⟨_, rfl, by decide, by decide⟩
        have hcell := lit_cell w4 w5 _ _ B g hk5 hgB (by omega) q _ hu
        have HG5 := hid hG5
        have HK5 := hid (gb_trans (gb_und HK4.out ((Und.refl _).alloc (.cells #[.string ⟨#[110]⟩, .string ⟨#[110, 97, 109, 101]⟩, .string ⟨#[120, 49]⟩] 9))) hk5 (fun _ e => .inl e))
        have HO5 := hid (own_gb (HO4.out.alloc (.cells #[.string ⟨#[110]⟩, .string ⟨#[110, 97, 109, 101]⟩, .string ⟨#[120, 49]⟩] 9)) hk5 (by omega))
        have HP5 := hid (own_gb (HP4.out.alloc (.cells #[.string ⟨#[110]⟩, .string ⟨#[110, 97, 109, 101]⟩, .string ⟨#[120, 49]⟩] 9)) hk5 (by omega))
        have hb5 : w5.heap[w3.heap.size]? = some (Obj.cells #[.int .i64 1, .string t, .int .i64 0] 57 (0, 0)) := (hk5.block w3.heap.size (by simp; omega) (by simp; omega)).trans ((((Und.refl w4).alloc _).below.block w3.heap.size hsz4).trans hb4)
        haveI : LtW w4.heap.size w5 := LtW.of (World.block_lt_of_cell? _ _ hcell)
        have hq3 : q < 3 := by omega
        have f0 : w5.frozen? ⟨w3.heap.size, 0, none⟩ = false := Lib.frozen_of_heap hb5 0
        have f1 : w5.frozen? ⟨w3.heap.size, 1, none⟩ = false := Lib.frozen_of_heap hb5 1
        have f2 : w5.frozen? ⟨w3.heap.size, 2, none⟩ = false := Lib.frozen_of_heap hb5 2
        have g0 : w5.cell? ⟨w3.heap.size, 0, none⟩ = some (.int .i64 1) := Lib.cell_of_heap hb5 0
        have g1 : w5.cell? ⟨w3.heap.size, 1, none⟩ = some (.string t) := Lib.cell_of_heap hb5 1
        have g2 : w5.cell? ⟨w3.heap.size, 2, none⟩ = some (.int .i64 0) := Lib.cell_of_heap hb5 2
        haveI : LtW w3.heap.size w5 := LtW.of (lt_of_heap hb5)
        have hob : (Value.slice A9 f.length c9).ownBlock ≠ some w3.heap.size := fun e => by have := hlt3 _ e; omega
        have hobp : (Value.slice A10 op.length c10).ownBlock ≠ some w3.heap.size := fun e => by have := hlt3p _ e; omega
        have hkey : ∀ W, W = ((w5.setCell ⟨w3.heap.size, 0, none⟩ (.int .i64 5)).setCell ⟨w3.heap.size, 1, none⟩ (.string u)).setCell ⟨w3.heap.size, 2, none⟩ (.int .i64 0) → W.ownsRow w.heap.size 57 3 (.slice A9 f.length c9) f.length (cellsIt f) ∧ W.ownsRow w.heap.size 57 3 (.slice A10 op.length c10) op.length (cellsIt op) ∧ GenP W B g (P + 1 + 9 * (k + 1)) ∧ w.grownBy W (some g) ∧ W.heap.size = w5.heap.size ∧ W.heap[w3.heap.size]? = some (Obj.cells #[.int .i64 5, .string u, .int .i64 0] 57 (0, 0)) := by
          intro W hW
          subst hW
          have hBb : ∀ x, some w3.heap.size = some x → B ≤ x := fun x e => by cases e; omega
          refine ⟨own_set (own_set (own_set HO5.out hob) hob) hob, own_set (own_set (own_set HP5.out hobp) hobp) hobp, ?_, gb_setCell (gb_setCell (gb_setCell HK5.out _ _ (.inr (by show w.heap.size ≤ w3.heap.size; omega))) _ _ (.inr (by show w.heap.size ≤ w3.heap.size; omega))) _ _ (.inr (by show w.heap.size ≤ w3.heap.size; omega)), by simp, heap_setCell_same _ w3.heap.size 2 _ _ _ (heap_setCell_same _ w3.heap.size 1 _ _ _ (heap_setCell_same w5 w3.heap.size 0 _ _ _ hb5))⟩
          exact (((HG5.out.gb (gb_set w5 ⟨w3.heap.size, 0, none⟩ _) hBb).gb (gb_set _ ⟨w3.heap.size, 1, none⟩ _) hBb).gb (gb_set _ ⟨w3.heap.size, 2, none⟩ _) hBb).le (by omega)
        have HKEY := hid (hkey _ rfl)
        have hne5 := HKEY.out.2.2.1.lt.2
        clear hG5 hk5 HG4 HK4 HO4 HP4 hkey hu hq
        go_wp2_with fail
        refine (HCAT.out _ _ (5, u.data.toList, 0) ?_ ?_ ?_).mono ?_
        · exact (items_own HKEY.out.1 rfl).und ((Und.refl _).alloc _)
        · rw [← ba_eta u]; exact items_box _ _ _ _ (by simp) (by rw [World.cell?_alloc_at _ _ _ _ (by simp)]; rfl) (by rw [World.cell?_alloc_at _ _ _ _ (by simp)]; rfl) (by rw [World.cell?_alloc_at _ _ _ _ (by simp)]; rfl)
        · rw [tot_snoc]; simp; omega
        rintro e w7 ⟨v7, rfl, ho7, hu7⟩
        have hrel := FIN.out (5, u.data.toList, 0) v7 _ _ w7 op c _ rfl (HGN.out.slot _ hun) (by simp; omega) (by omega) (by omega) ho7 (HKEY.out.2.1.alloc _) hu7 (by have := HKEY.out.2.2.2.1.size; simp at this ⊢; omega) ((HKEY.out.2.2.1.und ((Und.refl _).alloc _)).und hu7) (gb_und HKEY.out.2.2.2.1 (((Und.refl _).alloc _).trans hu7))
        have HREL := hid hrel
        clear hrel ho7 hu7 hcell
        go_wp2
        exact ⟨HREL.out, by simp [intOf]; omega⟩
      · subst h
        clear hr8 d0 d1 d2
        go_wp2_with fail
        refine (next_gen B g _ 3 _ (HG4.out.und ((Und.refl _).alloc (.cells #[.string ⟨#[110]⟩, .string ⟨#[110, 97, 109, 101]⟩, .string ⟨#[120, 49]⟩] 9))) (by omega) (by omega) (by omega)).mono ?_
        rintro e w5 ⟨q, rfl, hq, hG5, hk5⟩
        obtain ⟨u, hu, hus, hun⟩ : ∃ u : ByteArray, (#[.string ⟨#[110]⟩, .string ⟨#[110, 97, 109, 101]⟩, .string ⟨#[120, 49]⟩] : Array Value)[q]? = some (.string u) ∧ u.size ≤ 5 ∧ St.isNameL u.data.toList = true := by
          rcases (show q = 0 ∨ q = 1 ∨ q = 2 by omega) with h | h | h <;> subst h <;> exact ⟨_, rfl, by decide, by decide⟩
        have hcell := lit_cell w4 w5 _ _ B g hk5 hgB (by omega) q _ hu
        have HG5 := hid hG5
        have HK5 := hid (gb_trans (gb_und HK4.out ((Und.refl _).alloc (.cells #[.string ⟨#[110]⟩, .string ⟨#[110, 97, 109, 101]⟩, .string ⟨#[120, 49]⟩] 9))) hk5 (fun _ e => .inl e))
        have HO5 := hid (own_gb (HO4.out.alloc (.cells #[.string ⟨#[110]⟩, .string ⟨#[110, 97, 109, 101]⟩, .string ⟨#[120, 49]⟩] 9)) hk5 (by omega))
        have HP5 := hid (own_gb (HP4.out.alloc (.cells #[.string ⟨#[110]⟩, .string ⟨#[110, 97, 109, 101]⟩, .string ⟨#[120, 49]⟩] 9)) hk5 (by omega))
        have hb5 : w5.heap[w3.heap.size]? = some (Obj.cells #[.int .i64 1, .string t, .int .i64 0] 57 (0, 0)) := (hk5.block w3.heap.size (by simp; omega) (by simp; omega)).trans ((((Und.refl w4).alloc _).below.block w3.heap.size hsz4).trans hb4)
        haveI : LtW w4.heap.size w5 := LtW.of (World.block_lt_of_cell? _ _ hcell)
        have hq3 : q < 3 := by omega
        have f0 : w5.frozen? ⟨w3.heap.size, 0, none⟩ = false := Lib.frozen_of_heap hb5 0
        have f1 : w5.frozen? ⟨w3.heap.size, 1, none⟩ = false := Lib.frozen_of_heap hb5 1
        have f2 : w5.frozen? ⟨w3.heap.size, 2, none⟩ = false := Lib.frozen_of_heap hb5 2
        have g0 : w5.cell? ⟨w3.heap.size, 0, none⟩ = some (.int .i64 1) := Lib.cell_of_heap hb5 0
        have g1 : w5.cell? ⟨w3.heap.size, 1, none⟩ = some (.string t) := Lib.cell_of_heap hb5 1
        have g2 : w5.cell? ⟨w3.heap.size, 2, none⟩ = some (.int .i64 0) := Lib.cell_of_heap hb5 2
        haveI : LtW w3.heap.size w5 := LtW.of (lt_of_heap hb5)
        have hob : (Value.slice A9 f.length c9).ownBlock ≠ some w3.heap.size := fun e => by have := hlt3 _ e; omega
        have hobp : (Value.slice A10 op.length c10).ownBlock ≠ some w3.heap.size := fun e => by have := hlt3p _ e; omega
        have hkey : ∀ W, W = ((w5.setCell ⟨w3.heap.size, 0, none⟩ (.int .i64 5)).setCell ⟨w3.heap.size, 1, none⟩ (.string u)).setCell ⟨w3.heap.size, 2, none⟩ (.int .i64 0) → W.ownsRow w.heap.size 57 3 (.slice A9 f.length c9) f.length (cellsIt f) ∧ W.ownsRow w.heap.size 57 3 (.slice A10 op.length c10) op.length (cellsIt op) ∧ GenP W B g (P + 1 + 9 * (k + 1)) ∧ w.grownBy W (some g) ∧ W.heap.size = w5.heap.size ∧ W.heap[w3.heap.size]? = some (Obj.cells #[.int .i64 5, .string u, .int .i64 0] 57 (0, 0)) := by
          intro W hW
          subst hW
          have hBb : ∀ x, some w3.heap.size = some x → B ≤ x := fun x e => by cases e; omega
          refine ⟨own_set (own_set (own_set HO5.out hob) hob) hob, own_set (own_set (own_set HP5.out hobp) hobp) hobp, ?_, gb_setCell (gb_setCell (gb_setCell HK5.out _ _ (.inr (by show w.heap.size ≤ w3.heap.size; omega))) _ _ (.inr (by show w.heap.size ≤ w3.heap.size; omega))) _ _ (.inr (by show w.heap.size ≤ w3.heap.size; omega)), by simp, heap_setCell_same _ w3.heap.size 2 _ _ _ (heap_setCell_same _ w3.heap.size 1 _ _ _ (heap_setCell_same w5 w3.heap.size 0 _ _ _ hb5))⟩
          exact (((HG5.out.gb (gb_set w5 ⟨w3.heap.size, 0, none⟩ _) hBb).gb (gb_set _ ⟨w3.heap.size, 1, none⟩ _) hBb).gb (gb_set _ ⟨w3.heap.size, 2, none⟩ _) hBb).le (by omega)
        have HKEY := hid (hkey _ rfl)
        have hne5 := HKEY.out.2.2.1.lt.2
        clear hG5 hk5 HG4 HK4 HO4 HP4 hkey hu hq
        go_wp2_with fail
        refine (HCAT.out _ _ (5, u.data.toList, 0) ?_ ?_ ?_).mono ?_
        · exact (items_own HKEY.out.1 rfl).und ((Und.refl _).alloc _)
        · rw [← ba_eta u]; exact items_box _ _ _ _ (by simp) (by rw [World.cell?_alloc_at _ _ _ _ (by simp)]; rfl) (by rw [World.cell?_alloc_at _ _ _ _ (by simp)]; rfl) (by rw [World.cell?_alloc_at _ _ _ _ (by simp)]; rfl)
        · rw [tot_snoc]; simp; omega
        rintro e w7 ⟨v7, rfl, ho7, hu7⟩
        have hrel := FIN.out (5, u.data.toList, 0) v7 _ _ w7 op c _ rfl (HGN.out.slot _ hun) (by simp; omega) (by omega) (by omega) ho7 (HKEY.out.2.1.alloc _) hu7 (by have := HKEY.out.2.2.2.1.size; simp at this ⊢; omega) ((HKEY.out.2.2.1.und ((Und.refl _).alloc _)).und hu7) (gb_und HKEY.out.2.2.2.1 (((Und.refl _).alloc _).trans hu7))
        have HREL := hid hrel
        clear hrel ho7 hu7 hcell
        go_wp2
        exact ⟨HREL.out, by simp [intOf]; omega⟩
      · subst h
        clear hr8 d0 d1 d2
        go_wp2_with fail
        refine (next_gen B g _ 2 _ (HG4.out.und ((Und.refl _).alloc (.cells #[.string ⟨#[98, 114]⟩, .string ⟨#[105, 109, 103, 32, 97]⟩] 9))) (by omega) (by omega) (by omega)).mono ?_
        rintro e w5 ⟨q, rfl, hq, hG5, hk5⟩
        obtain ⟨u, hu, hus, hun⟩ : ∃ u : ByteArray, (#[.string ⟨#[98, 114]⟩, .string ⟨#[105, 109, 103, 32, 97]⟩] : Array Value)[q]? = some (.string u) ∧ u.size ≤ 5 ∧ u.data.toList ∈ St.tg4 := by
          rcases (show q = 0 ∨ q = 1 by omega) with h | h <;> subst h <;> exact ⟨_, rfl, by decide, by decide⟩
        have hcell := lit_cell w4 w5 _ _ B g hk5 hgB (by omega) q _ hu
        have HG5 := hid hG5
        have HK5 := hid (gb_trans (gb_und HK4.out ((Und.refl _).alloc (.cells #[.string ⟨#[98, 114]⟩, .string ⟨#[105, 109, 103, 32, 97]⟩] 9))) hk5 (fun _ e => .inl e))
        have HO5 := hid (own_gb (HO4.out.alloc (.cells #[.string ⟨#[98, 114]⟩, .string ⟨#[105, 109, 103, 32, 97]⟩] 9)) hk5 (by omega))
        have HP5 := hid (own_gb (HP4.out.alloc (.cells #[.string ⟨#[98, 114]⟩, .string ⟨#[105, 109, 103, 32, 97]⟩] 9)) hk5 (by omega))
        have hb5 : w5.heap[w3.heap.size]? = some (Obj.cells #[.int .i64 1, .string t, .int .i64 0] 57 (0, 0)) := (hk5.block w3.heap.size (by simp; omega) (by simp; omega)).trans ((((Und.refl w4).alloc _).below.block w3.heap.size hsz4).trans hb4)
        haveI : LtW w4.heap.size w5 := LtW.of (World.block_lt_of_cell? _ _ hcell)
        have hq3 : q < 2 := by omega
        have f0 : w5.frozen? ⟨w3.heap.size, 0, none⟩ = false := Lib.frozen_of_heap hb5 0
        have f1 : w5.frozen? ⟨w3.heap.size, 1, none⟩ = false := Lib.frozen_of_heap hb5 1
        have f2 : w5.frozen? ⟨w3.heap.size, 2, none⟩ = false := Lib.frozen_of_heap hb5 2
        have g0 : w5.cell? ⟨w3.heap.size, 0, none⟩ = some (.int .i64 1) := Lib.cell_of_heap hb5 0
        have g1 : w5.cell? ⟨w3.heap.size, 1, none⟩ = some (.string t) := Lib.cell_of_heap hb5 1
        have g2 : w5.cell? ⟨w3.heap.size, 2, none⟩ = some (.int .i64 0) := Lib.cell_of_heap hb5 2
        haveI : LtW w3.heap.size w5 := LtW.of (lt_of_heap hb5)
        have hob : (Value.slice A9 f.length c9).ownBlock ≠ some w3.heap.size := fun e => by have := hlt3 _ e; omega
        have hobp : (Value.slice A10 op.length c10).ownBlock ≠ some w3.heap.size := fun e => by have := hlt3p _ e; omega
        have hkey : ∀ W, W = ((w5.setCell ⟨w3.heap.size, 0, none⟩ (.int .i64 4)).setCell ⟨w3.heap.size, 1, none⟩ (.string u)).setCell ⟨w3.heap.size, 2, none⟩ (.int .i64 ((c : Int) + 1)) → W.ownsRow w.heap.size 57 3 (.slice A9 f.length c9) f.length (cellsIt f) ∧ W.ownsRow w.heap.size 57 3 (.slice A10 op.length c10) op.length (cellsIt op) ∧ GenP W B g (P + 1 + 9 * (k + 1)) ∧ w.grownBy W (some g) ∧ W.heap.size = w5.heap.size ∧ W.heap[w3.heap.size]? = some (Obj.cells #[.int .i64 4, .string u, .int .i64 ((c : Int) + 1)] 57 (0, 0)) := by
          intro W hW
          subst hW
          have hBb : ∀ x, some w3.heap.size = some x → B ≤ x := fun x e => by cases e; omega
          refine ⟨own_set (own_set (own_set HO5.out hob) hob) hob, own_set (own_set (own_set HP5.out hobp) hobp) hobp, ?_, gb_setCell (gb_setCell (gb_setCell HK5.out _ _ (.inr (by show w.heap.size ≤ w3.heap.size; omega))) _ _ (.inr (by show w.heap.size ≤ w3.heap.size; omega))) _ _ (.inr (by show w.heap.size ≤ w3.heap.size; omega)), by simp, heap_setCell_same _ w3.heap.size 2 _ _ _ (heap_setCell_same _ w3.heap.size 1 _ _ _ (heap_setCell_same w5 w3.heap.size 0 _ _ _ hb5))⟩
          exact (((HG5.out.gb (gb_set w5 ⟨w3.heap.size, 0, none⟩ _) hBb).gb (gb_set _ ⟨w3.heap.size, 1, none⟩ _) hBb).gb (gb_set _ ⟨w3.heap.size, 2, none⟩ _) hBb).le (by omega)
        have HKEY := hid (hkey _ rfl)
        have hne5 := HKEY.out.2.2.1.lt.2
        clear hG5 hk5 HG4 HK4 HO4 HP4 hkey hu hq
        go_wp2_with fail
        refine (HCAT.out _ _ (4, u.data.toList, (c : Int) + 1) ?_ ?_ ?_).mono ?_
        · exact (items_own HKEY.out.1 rfl).und ((Und.refl _).alloc _)
        · rw [← ba_eta u]; exact items_boxi _ _ _ _ _ (by simp) (by rw [World.cell?_alloc_at _ _ _ _ (by simp)]; rfl) (by rw [World.cell?_alloc_at _ _ _ _ (by simp)]; rfl) (by rw [World.cell?_alloc_at _ _ _ _ (by simp)]; rfl)
        · rw [tot_snoc]; simp; omega
        rintro e w7 ⟨v7, rfl, ho7, hu7⟩
        have hrel := FIN.out (4, u.data.toList, (c : Int) + 1) v7 _ _ w7 op (c + 1) (.int .i64 ((c : Int) + 1)) rfl (HGN.out.empty _ hun) (by simp; omega) (by omega) (by omega) ho7 (HKEY.out.2.1.alloc _) hu7 (by have := HKEY.out.2.2.2.1.size; simp at this ⊢; omega) ((HKEY.out.2.2.1.und ((Und.refl _).alloc _)).und hu7) (gb_und HKEY.out.2.2.2.1 (((Und.refl _).alloc _).trans hu7))
        have HREL := hid hrel
        clear hrel ho7 hu7 hcell
        go_wp2
        exact ⟨HREL.out, by simp [intOf]; omega⟩
      · subst h
        clear hr8 d0 d1 d2
        go_wp2_with fail
        refine (next_gen B g _ 3 _ (HG4.out.und ((Und.refl _).alloc (.cells #[.string ⟨#[98]⟩, .string ⟨#[105]⟩, .string ⟨#[97, 32, 104, 61, 49]⟩] 9))) (by omega) (by omega) (by omega)).mono ?_
        rintro e w5 ⟨q, rfl, hq, hG5, hk5⟩
        obtain ⟨u, hu, hus, hun⟩ : ∃ u : ByteArray, (#[.string ⟨#[98]⟩, .string ⟨#[105]⟩, .string ⟨#[97, 32, 104, 61, 49]⟩] : Array Value)[q]? = some (.string u) ∧ u.size ≤ 5 ∧ u.data.toList ∈ St.tg2 := by
          rcases (show q = 0 ∨ q = 1 ∨ q = 2 by omega) with h | h | h <;> subst h <;> exact ⟨_, rfl, by decide, by decide⟩
        have hcell := lit_cell w4 w5 _ _ B g hk5 hgB (by omega) q _ hu
        have HG5 := hid hG5
        have HK5 := hid (gb_trans (gb_und HK4.out ((Und.refl _).alloc (.cells #[.string ⟨#[98]⟩, .string ⟨#[105]⟩, .string ⟨#[97, 32, 104, 61, 49]⟩] 9))) hk5 (fun _ e => .inl e))
        have HO5 := hid (own_gb (HO4.out.alloc (.cells #[.string ⟨#[98]⟩, .string ⟨#[105]⟩, .string ⟨#[97, 32, 104, 61, 49]⟩] 9)) hk5 (by omega))
        have HP5 := hid (own_gb (HP4.out.alloc (.cells #[.string ⟨#[98]⟩, .string ⟨#[105]⟩, .string ⟨#[97, 32, 104, 61, 49]⟩] 9)) hk5 (by omega))
        have hb5 : w5.heap[w3.heap.size]? = some (Obj.cells #[.int .i64 1, .string t, .int .i64 0] 57 (0, 0)) := (hk5.block w3.heap.size (by simp; omega) (by simp; omega)).trans ((((Und.refl w4).alloc _).below.block w3.heap.size hsz4).trans hb4)
        haveI : LtW w4.heap.size w5 := LtW.of (World.block_lt_of_cell? _ _ hcell)
        have hq3 : q < 3 := by omega
        have f0 : w5.frozen? ⟨w3.heap.size, 0, none⟩ = false := Lib.frozen_of_heap hb5 0
        have f1 : w5.frozen? ⟨w3.heap.size, 1, none⟩ = false := Lib.frozen_of_heap hb5 1
        have f2 : w5.frozen? ⟨w3.heap.size, 2, none⟩ = false := Lib.frozen_of_heap hb5 2
        have g0 : w5.cell? ⟨w3.heap.size, 0, none⟩ = some (.int .i64 1) := Lib.cell_of_heap hb5 0
        have g1 : w5.cell? ⟨w3.heap.size, 1, none⟩ = some (.string t) := Lib.cell_of_heap hb5 1
        have g2 : w5.cell? ⟨w3.heap.size, 2, none⟩ = some (.int .i64 0) := Lib.cell_of_heap hb5 2
        haveI : LtW w3.heap.size w5 := LtW.of (lt_of_heap hb5)
        have hob : (Value.slice A9 f.length c9).ownBlock ≠ some w3.heap.size := fun e => by have := hlt3 _ e; omega
        have hobp : (Value.slice A10 op.length c10).ownBlock ≠ some w3.heap.size := fun e => by have := hlt3p _ e; omega
        have hkey : ∀ W, W = ((w5.setCell ⟨w3.heap.size, 0, none⟩ (.int .i64 2)).setCell ⟨w3.heap.size, 1, none⟩ (.string u)).setCell ⟨w3.heap.size, 2, none⟩ (.int .i64 ((c : Int) + 1)) → W.ownsRow w.heap.size 57 3 (.slice A9 f.length c9) f.length (cellsIt f) ∧ W.ownsRow w.heap.size 57 3 (.slice A10 op.length c10) op.length (cellsIt op) ∧ GenP W B g (P + 1 + 9 * (k + 1)) ∧ w.grownBy W (some g) ∧ W.heap.size = w5.heap.size ∧ W.heap[w3.heap.size]? = some (Obj.cells #[.int .i64 2, .string u, .int .i64 ((c : Int) + 1)] 57 (0, 0)) := by
          intro W hW
          subst hW
          have hBb : ∀ x, some w3.heap.size = some x → B ≤ x := fun x e => by cases e; omega
          refine ⟨own_set (own_set (own_set HO5.out hob) hob) hob, own_set (own_set (own_set HP5.out hobp) hobp) hobp, ?_, gb_setCell (gb_setCell (gb_setCell HK5.out _ _ (.inr (by show w.heap.size ≤ w3.heap.size; omega))) _ _ (.inr (by show w.heap.size ≤ w3.heap.size; omega))) _ _ (.inr (by show w.heap.size ≤ w3.heap.size; omega)), by simp, heap_setCell_same _ w3.heap.size 2 _ _ _ (heap_setCell_same _ w3.heap.size 1 _ _ _ (heap_setCell_same w5 w3.heap.size 0 _ _ _ hb5))⟩
          exact (((HG5.out.gb (gb_set w5 ⟨w3.heap.size, 0, none⟩ _) hBb).gb (gb_set _ ⟨w3.heap.size, 1, none⟩ _) hBb).gb (gb_set _ ⟨w3.heap.size, 2, none⟩ _) hBb).le (by omega)
        have HKEY := hid (hkey _ rfl)
        have hne5 := HKEY.out.2.2.1.lt.2
        clear hG5 hk5 HG4 HK4 HO4 HP4 hkey hu hq
        go_wp2_with (at_builtin; refine wpList_append_own _ rfl _ _ 24 rfl w.heap.size 57 i0 (.agg #[.int .i64 0, .string ⟨#[]⟩, .int .i64 0]) 3 32 Tryd.underlying24 hi hz0 hz1 hz2 rfl (by decide) (.slice A10 op.length c10) op.length _ rfl (HKEY.out.2.1.alloc _) _ 1 1 [.int .i64 2, .string u, .int .i64 ((c : Int) + 1)] rfl rfl ?_ (item_one _ _ _) (by unfold maxLen; omega) (by omega) ?_ ?_)
        · exact side3b _ _ _ _ _ _ (by simp)
        · have := HKEY.out.2.2.2.1.size; simp at this ⊢; omega
        intro v' w6 hown' hgrow _
        have hwk := HKEY.out.2.2.2.1.size
        have hwk2 := HKEY.out.2.2.2.2.1
        have hsz5 := lt_of_heap hb5
        have hrow : ∀ x, (Value.slice A10 op.length c10).ownBlock = some x → w.heap.size ≤ x := fun x hx => owns_block HKEY.out.2.1 x hx
        have ho9 := (HKEY.out.1.alloc (.cells #[.int .i64 2, .string u, .int .i64 ((c : Int) + 1)] 57)).kept hgrow HD.out
        have hb6 : w6.heap[w3.heap.size]? = some (Obj.cells #[.int .i64 2, .string u, .int .i64 ((c : Int) + 1)] 57 (0, 0)) := (hgrow.block w3.heap.size (by simp; omega) (fun e => hobp e.symm)).trans ((((Und.refl _).alloc _).below.block w3.heap.size (by simp; omega)).trans HKEY.out.2.2.2.2.2)
        have ho10 : w6.ownsRow w.heap.size 57 3 v' (op ++ [((2 : Int), u.data.toList, (c : Int) + 1)]).length (cellsIt (op ++ [((2 : Int), u.data.toList, (c : Int) + 1)])) := by
          rw [cellsIt_snoc]
          simp only [ba_eta, List.length_append, List.length_cons, List.length_nil]
          exact hown'
        have hg6 : GenP w6 B g (P + 1 + 9 * (k + 1)) := (HKEY.out.2.2.1.und ((Und.refl _).alloc _)).gb hgrow (fun x e => Nat.le_trans hB (hrow x e))
        have hk6 : w.grownBy w6 (some g) := gb_trans (gb_und HKEY.out.2.2.2.1 ((Und.refl _).alloc _)) hgrow (fun x e => .inr (hrow x e))
        have c0 : w6.cell? ⟨w3.heap.size, 0, none⟩ = some (.int .i64 2) := Lib.cell_of_heap hb6 0
        have c1 : w6.cell? ⟨w3.heap.size, 1, none⟩ = some (.string u) := Lib.cell_of_heap hb6 1
        have c2 : w6.cell? ⟨w3.heap.size, 2, none⟩ = some (.int .i64 ((c : Int) + 1)) := Lib.cell_of_heap hb6 2
        haveI : LtW w3.heap.size w6 := LtW.of (lt_of_heap hb6)
        obtain ⟨Av, cv, rfl, _, _, _⟩ := own_slice' ho10
        have HO9 := hid ho9
        have HO10 := hid ho10
        have HG6 := hid hg6
        have HK6 := hid hk6
        have hzz := hk6.size
        clear hown' hgrow ho9 ho10 hg6 hk6 hb6 hrow HKEY f0 f1 f2 g0 g1 g2 hcell
        go_wp2_with fail
        refine (HCAT.out _ _ (2, u.data.toList, (c : Int) + 1) ?_ ?_ ?_).mono ?_
        · exact (items_own HO9.out rfl).und ((Und.refl _).alloc _)
        · rw [← ba_eta u]; exact items_boxi _ _ _ _ _ (by simp) (by rw [World.cell?_alloc_at _ _ _ _ (by simp)]; rfl) (by rw [World.cell?_alloc_at _ _ _ _ (by simp)]; rfl) (by rw [World.cell?_alloc_at _ _ _ _ (by simp)]; rfl)
        · rw [tot_snoc]; simp; omega
        rintro e w7 ⟨v7, rfl, ho7, hu7⟩
        have hrel := FIN.out (2, u.data.toList, (c : Int) + 1) v7 _ _ w7 (op ++ [((2 : Int), u.data.toList, (c : Int) + 1)]) (c + 1) (.int .i64 ((c : Int) + 1)) rfl (HGN.out.opened _ hun) (by simp; omega) (by simp) (by omega) ho7 (HO10.out.alloc _) hu7 (by simp; omega) ((HG6.out.und ((Und.refl _).alloc _)).und hu7) (gb_und HK6.out (((Und.refl _).alloc _).trans hu7))
        have HREL := hid hrel
        clear hrel ho7 hu7
        go_wp2
        exact ⟨by have h := HREL.out; simp only [List.length_append, List.length_cons, List.length_nil, Nat.zero_add] at h; exact h, by simp [intOf]; omega⟩
      · subst h
        clear hr8 d0 d1 d2
        go_wp2_with fail
        refine (next_gen B g _ 3 _ (HG4.out.und ((Und.refl _).alloc (.cells #[.string ⟨#[98]⟩, .string ⟨#[105]⟩, .string ⟨#[97, 32, 104, 61, 49]⟩] 9))) (by omega) (by omega) (by omega)).mono ?_
        rintro e w5 ⟨q, rfl, hq, hG5, hk5⟩
        obtain ⟨u, hu, hus, hun⟩ : ∃ u : ByteArray, (#[.string ⟨#[98]⟩, .string ⟨#[105]⟩, .string ⟨#[97, 32, 104, 61, 49]⟩] : Array Value)[q]? = some (.string u) ∧ u.size ≤ 5 ∧ u.data.toList ∈ St.tg2 := by
          rcases (show q = 0 ∨ q = 1 ∨ q = 2 by omega) with h | h | h <;> subst h <;> exact ⟨_, rfl, by decide, by decide⟩
        have hcell := lit_cell w4 w5 _ _ B g hk5 hgB (by omega) q _ hu
        have HG5 := hid hG5
        have HK5 := hid (gb_trans (gb_und HK4.out ((Und.refl _).alloc (.cells #[.string ⟨#[98]⟩, .string ⟨#[105]⟩, .string ⟨#[97, 32, 104, 61, 49]⟩] 9))) hk5 (fun _ e => .inl e))
        have HO5 := hid (own_gb (HO4.out.alloc (.cells #[.string ⟨#[98]⟩, .string ⟨#[105]⟩, .string ⟨#[97, 32, 104, 61, 49]⟩] 9)) hk5 (by omega))
        have HP5 := hid (own_gb (HP4.out.alloc (.cells #[.string ⟨#[98]⟩, .string ⟨#[105]⟩, .string ⟨#[97, 32, 104, 61, 49]⟩] 9)) hk5 (by omega))
        have hb5 : w5.heap[w3.heap.size]? = some (Obj.cells #[.int .i64 1, .string t, .int .i64 0] 57 (0, 0)) := (hk5.block w3.heap.size (by simp; omega) (by simp; omega)).trans ((((Und.refl w4).alloc _).below.block w3.heap.size hsz4).trans hb4)
        haveI : LtW w4.heap.size w5 := LtW.of (World.block_lt_of_cell? _ _ hcell)
        have hq3 : q < 3 := by omega
        have f0 : w5.frozen? ⟨w3.heap.size, 0, none⟩ = false := Lib.frozen_of_heap hb5 0
        have f1 : w5.frozen? ⟨w3.heap.size, 1, none⟩ = false := Lib.frozen_of_heap hb5 1
        have f2 : w5.frozen? ⟨w3.heap.size, 2, none⟩ = false := Lib.frozen_of_heap hb5 2
        have g0 : w5.cell? ⟨w3.heap.size, 0, none⟩ = some (.int .i64 1) := Lib.cell_of_heap hb5 0
        have g1 : w5.cell? ⟨w3.heap.size, 1, none⟩ = some (.string t) := Lib.cell_of_heap hb5 1
        have g2 : w5.cell? ⟨w3.heap.size, 2, none⟩ = some (.int .i64 0) := Lib.cell_of_heap hb5 2
        haveI : LtW w3.heap.size w5 := LtW.of (lt_of_heap hb5)
        have hob : (Value.slice A9 f.length c9).ownBlock ≠ some w3.heap.size := fun e => by have := hlt3 _ e; omega
        have hobp : (Value.slice A10 op.length c10).ownBlock ≠ some w3.heap.size := fun e => by have := hlt3p _ e; omega
        have hkey : ∀ W, W = ((w5.setCell ⟨w3.heap.size, 0, none⟩ (.int .i64 2)).setCell ⟨w3.heap.size, 1, none⟩ (.string u)).setCell ⟨w3.heap.size, 2, none⟩ (.int .i64 ((c : Int) + 1)) → W.ownsRow w.heap.size 57 3 (.slice A9 f.length c9) f.length (cellsIt f) ∧ W.ownsRow w.heap.size 57 3 (.slice A10 op.length c10) op.length (cellsIt op) ∧ GenP W B g (P + 1 + 9 * (k + 1)) ∧ w.grownBy W (some g) ∧ W.heap.size = w5.heap.size ∧ W.heap[w3.heap.size]? = some (Obj.cells #[.int .i64 2, .string u, .int .i64 ((c : Int) + 1)] 57 (0, 0)) := by
          intro W hW
          subst hW
          have hBb : ∀ x, some w3.heap.size = some x → B ≤ x := fun x e => by cases e; omega
          refine ⟨own_set (own_set (own_set HO5.out hob) hob) hob, own_set (own_set (own_set HP5.out hobp) hobp) hobp, ?_, gb_setCell (gb_setCell (gb_setCell HK5.out _ _ (.inr (by show w.heap.size ≤ w3.heap.size; omega))) _ _ (.inr (by show w.heap.size ≤ w3.heap.size; omega))) _ _ (.inr (by show w.heap.size ≤ w3.heap.size; omega)), by simp, heap_setCell_same _ w3.heap.size 2 _ _ _ (heap_setCell_same _ w3.heap.size 1 _ _ _ (heap_setCell_same w5 w3.heap.size 0 _ _ _ hb5))⟩
          exact (((HG5.out.gb (gb_set w5 ⟨w3.heap.size, 0, none⟩ _) hBb).gb (gb_set _ ⟨w3.heap.size, 1, none⟩ _) hBb).gb (gb_set _ ⟨w3.heap.size, 2, none⟩ _) hBb).le (by omega)
        have HKEY := hid (hkey _ rfl)
        have hne5 := HKEY.out.2.2.1.lt.2
        clear hG5 hk5 HG4 HK4 HO4 HP4 hkey hu hq
        go_wp2_with (at_builtin; refine wpList_append_own _ rfl _ _ 24 rfl w.heap.size 57 i0 (.agg #[.int .i64 0, .string ⟨#[]⟩, .int .i64 0]) 3 32 Tryd.underlying24 hi hz0 hz1 hz2 rfl (by decide) (.slice A10 op.length c10) op.length _ rfl (HKEY.out.2.1.alloc _) _ 1 1 [.int .i64 2, .string u, .int .i64 ((c : Int) + 1)] rfl rfl ?_ (item_one _ _ _) (by unfold maxLen; omega) (by omega) ?_ ?_)
        · exact side3b _ _ _ _ _ _ (by simp)
        · have := HKEY.out.2.2.2.1.size; simp at this ⊢; omega
        intro v' w6 hown' hgrow _
        have hwk := HKEY.out.2.2.2.1.size
        have hwk2 := HKEY.out.2.2.2.2.1
        have hsz5 := lt_of_heap hb5
        have hrow : ∀ x, (Value.slice A10 op.length c10).ownBlock = some x → w.heap.size ≤ x := fun x hx => owns_block HKEY.out.2.1 x hx
        have ho9 := (HKEY.out.1.alloc (.cells #[.int .i64 2, .string u, .int .i64 ((c : Int) + 1)] 57)).kept hgrow HD.out
        have hb6 : w6.heap[w3.heap.size]? = some (Obj.cells #[.int .i64 2, .string u, .int .i64 ((c : Int) + 1)] 57 (0, 0)) := (hgrow.block w3.heap.size (by simp; omega) (fun e => hobp e.symm)).trans ((((Und.refl _).alloc _).below.block w3.heap.size (by simp; omega)).trans HKEY.out.2.2.2.2.2)
        have ho10 : w6.ownsRow w.heap.size 57 3 v' (op ++ [((2 : Int), u.data.toList, (c : Int) + 1)]).length (cellsIt (op ++ [((2 : Int), u.data.toList, (c : Int) + 1)])) := by
          rw [cellsIt_snoc]
          simp only [ba_eta, List.length_append, List.length_cons, List.length_nil]
          exact hown'
        have hg6 : GenP w6 B g (P + 1 + 9 * (k + 1)) := (HKEY.out.2.2.1.und ((Und.refl _).alloc _)).gb hgrow (fun x e => Nat.le_trans hB (hrow x e))
        have hk6 : w.grownBy w6 (some g) := gb_trans (gb_und HKEY.out.2.2.2.1 ((Und.refl _).alloc _)) hgrow (fun x e => .inr (hrow x e))
        have c0 : w6.cell? ⟨w3.heap.size, 0, none⟩ = some (.int .i64 2) := Lib.cell_of_heap hb6 0
        have c1 : w6.cell? ⟨w3.heap.size, 1, none⟩ = some (.string u) := Lib.cell_of_heap hb6 1
        have c2 : w6.cell? ⟨w3.heap.size, 2, none⟩ = some (.int .i64 ((c : Int) + 1)) := Lib.cell_of_heap hb6 2
        haveI : LtW w3.heap.size w6 := LtW.of (lt_of_heap hb6)
        obtain ⟨Av, cv, rfl, _, _, _⟩ := own_slice' ho10
        have HO9 := hid ho9
        have HO10 := hid ho10
        have HG6 := hid hg6
        have HK6 := hid hk6
        have hzz := hk6.size
        clear hown' hgrow ho9 ho10 hg6 hk6 hb6 hrow HKEY f0 f1 f2 g0 g1 g2 hcell
        go_wp2_with fail
        refine (HCAT.out _ _ (2, u.data.toList, (c : Int) + 1) ?_ ?_ ?_).mono ?_
        · exact (items_own HO9.out rfl).und ((Und.refl _).alloc _)
        · rw [← ba_eta u]; exact items_boxi _ _ _ _ _ (by simp) (by rw [World.cell?_alloc_at _ _ _ _ (by simp)]; rfl) (by rw [World.cell?_alloc_at _ _ _ _ (by simp)]; rfl) (by rw [World.cell?_alloc_at _ _ _ _ (by simp)]; rfl)
        · rw [tot_snoc]; simp; omega
        rintro e w7 ⟨v7, rfl, ho7, hu7⟩
        have hrel := FIN.out (2, u.data.toList, (c : Int) + 1) v7 _ _ w7 (op ++ [((2 : Int), u.data.toList, (c : Int) + 1)]) (c + 1) (.int .i64 ((c : Int) + 1)) rfl (HGN.out.opened _ hun) (by simp; omega) (by simp) (by omega) ho7 (HO10.out.alloc _) hu7 (by simp; omega) ((HG6.out.und ((Und.refl _).alloc _)).und hu7) (gb_und HK6.out (((Und.refl _).alloc _).trans hu7))
        have HREL := hid hrel
        clear hrel ho7 hu7
        go_wp2
        exact ⟨by have h := HREL.out; simp only [List.length_append, List.length_cons, List.length_nil, Nat.zero_add] at h; exact h, by simp [intOf]; omega⟩
      · subst h
        clear hr8
        by_cases hop : op.length = 0
        · have y1 : ¬ (0 : Int) ≤ (op.length : Int) - 1 := by omega
          have hop2 : op.length ≤ 0 := by omega
          clear hop
          have hb5 := hb4
          clear d0 d1 d2 hb4
          have f0 : w4.frozen? ⟨w3.heap.size, 0, none⟩ = false := Lib.frozen_of_heap hb5 0
          have f1 : w4.frozen? ⟨w3.heap.size, 1, none⟩ = false := Lib.frozen_of_heap hb5 1
          have f2 : w4.frozen? ⟨w3.heap.size, 2, none⟩ = false := Lib.frozen_of_heap hb5 2
          have g0 : w4.cell? ⟨w3.heap.size, 0, none⟩ = some (.int .i64 1) := Lib.cell_of_heap hb5 0
          have g1 : w4.cell? ⟨w3.heap.size, 1, none⟩ = some (.string t) := Lib.cell_of_heap hb5 1
          have g2 : w4.cell? ⟨w3.heap.size, 2, none⟩ = some (.int .i64 0) := Lib.cell_of_heap hb5 2
          haveI : LtW w3.heap.size w4 := LtW.of (lt_of_heap hb5)
          have hob : (Value.slice A9 f.length c9).ownBlock ≠ some w3.heap.size := fun e => by have := hlt3 _ e; omega
          have hobp : (Value.slice A10 op.length c10).ownBlock ≠ some w3.heap.size := fun e => by have := hlt3p _ e; omega
          have hkey : ∀ W, W = ((w4.setCell ⟨w3.heap.size, 0, none⟩ (.int .i64 3)).setCell ⟨w3.heap.size, 1, none⟩ (.string ⟨#[98]⟩)).setCell ⟨w3.heap.size, 2, none⟩ (.int .i64 ((c : Int) + 1)) → W.ownsRow w.heap.size 57 3 (.slice A9 f.length c9) f.length (cellsIt f) ∧ W.ownsRow w.heap.size 57 3 (.slice A10 op.length c10) op.length (cellsIt op) ∧ GenP W B g (P + 1 + 9 * (k + 1)) ∧ w.grownBy W (some g) ∧ W.heap.size = w4.heap.size ∧ W.heap[w3.heap.size]? = some (Obj.cells #[.int .i64 3, .string ⟨#[98]⟩, .int .i64 ((c : Int) + 1)] 57 (0, 0)) := by
            intro W hW
            subst hW
            have hBb : ∀ x, some w3.heap.size = some x → B ≤ x := fun x e => by cases e; omega
            refine ⟨own_set (own_set (own_set HO4.out hob) hob) hob, own_set (own_set (own_set HP4.out hobp) hobp) hobp, ?_, gb_setCell (gb_setCell (gb_setCell HK4.out _ _ (.inr (by show w.heap.size ≤ w3.heap.size; omega))) _ _ (.inr (by show w.heap.size ≤ w3.heap.size; omega))) _ _ (.inr (by show w.heap.size ≤ w3.heap.size; omega)), by simp, heap_setCell_same _ w3.heap.size 2 _ _ _ (heap_setCell_same _ w3.heap.size 1 _ _ _ (heap_setCell_same w4 w3.heap.size 0 _ _ _ hb5))⟩
            exact (((HG4.out.gb (gb_set w4 ⟨w3.heap.size, 0, none⟩ _) hBb).gb (gb_set _ ⟨w3.heap.size, 1, none⟩ _) hBb).gb (gb_set _ ⟨w3.heap.size, 2, none⟩ _) hBb).le (by omega)
          have HKEY := hid (hkey _ rfl)
          have hne5 := HKEY.out.2.2.1.lt.2
          clear hkey
          go_wp2_with fail
          refine (HCAT.out _ _ (3, [98], (c : Int) + 1) ?_ ?_ ?_).mono ?_
          · exact (items_own HKEY.out.1 rfl).und ((Und.refl _).alloc _)
          · exact items_boxi _ _ _ _ _ (by simp) (by rw [World.cell?_alloc_at _ _ _ _ (by simp)]; rfl) (by rw [World.cell?_alloc_at _ _ _ _ (by simp)]; rfl) (by rw [World.cell?_alloc_at _ _ _ _ (by simp)]; rfl)
          · rw [tot_snoc]; simp; omega
          rintro e w7 ⟨v7, rfl, ho7, hu7⟩
          have hrel := FIN.out (3, [98], (c : Int) + 1) v7 _ _ w7 op (c + 1) (.int .i64 ((c : Int) + 1)) rfl (HGN.out.stray rfl) (by simp) (by omega) (by omega) ho7 (HKEY.out.2.1.alloc _) hu7 (by have := HKEY.out.2.2.2.1.size; simp at this ⊢; omega) ((HKEY.out.2.2.1.und ((Und.refl _).alloc _)).und hu7) (gb_und HKEY.out.2.2.2.1 (((Und.refl _).alloc _).trans hu7))
          have HREL := hid hrel
          clear hrel ho7 hu7
          go_wp2
          exact ⟨HREL.out, by simp [intOf]; omega⟩
        · have y1 : (0 : Int) ≤ (op.length : Int) - 1 := by omega
          clear d0 d1 d2
          go_wp2_with fail
          refine (next_gen B g _ _ _ HG4.out (by omega) ?_ ?_).mono ?_
          · omega
          · omega
          rintro e w5 ⟨q, rfl, hq, hG5, hk5⟩
          have hq2 : q < op.length := by omega
          have HG5 := hid hG5
          have HK5 := hid (gb_trans HK4.out hk5 (fun _ e => .inl e))
          have HO5 := hid (own_gb HO4.out hk5 (by omega))
          have HP5 := hid (own_gb HP4.out hk5 (by omega))
          have hb5 : w5.heap[w3.heap.size]? = some (Obj.cells #[.int .i64 1, .string t, .int .i64 0] 57 (0, 0)) := (hk5.block w3.heap.size (by omega) (by simp; omega)).trans hb4
          obtain ⟨b10, off10, e10, hb10, hc10⟩ := (items_own HP5.out rfl) (by omega)
          subst e10
          obtain ⟨p0, p1, p2⟩ := hc10 q hq2
          have hsm := (HGN.out.small op[q] (List.getElem_mem hq2)).1
          have hgen := St.GenT.closed (ns := false) q hq2 (fun e => by cases e) HGN.out
          generalize op[q] = y at p0 p1 p2 hsm hgen
          obtain ⟨yk, yt, yi⟩ := y
          simp only at p0 p1 p2 hsm hgen
          have HGEN := hid hgen
          clear hc10 hgen hG5 hk5 HG4 HK4 HO4 HP4 hb4
          have hnl := St.name_le' yt
          go_wp2_with fail
          refine wp_region_facts (fun a b => a.grownBy b (some w3.heap.size)) (fun L W => if L 12 = true then ∃ W0, Und w5 W0 ∧ W = ((W0.setCell ⟨w3.heap.size, 0, none⟩ (.int .i64 3)).setCell ⟨w3.heap.size, 1, none⟩ (.string ⟨(St.nameOf yt).toArray⟩)).setCell ⟨w3.heap.size, 2, none⟩ (.int .i64 yi) else Und w5 W) [fun v _ => v = .slice (some ⟨b10, off10, none⟩) op.length c10, fun v _ => v = .int .i64 q, fun v _ => v = .pointer (some ⟨b10, off10 + q * 3, none⟩), fun v _ => v = .pointer (some ⟨b10, off10 + q * 3 + 1, none⟩), fun v _ => v = .string ⟨yt.toArray⟩, fun v _ => v = .string ⟨(St.nameOf yt).toArray⟩, fun v _ => v = .slice (some ⟨b10, off10, none⟩) op.length c10, fun v _ => v = .int .i64 q, fun v _ => v = .pointer (some ⟨b10, off10 + q * 3, none⟩), fun v _ => v = .pointer (some ⟨b10, off10 + q * 3 + 2, none⟩), fun v _ => v = .int .i64 yi, fun v _ => v = .agg #[.int .i64 3, .string ⟨(St.nameOf yt).toArray⟩, .int .i64 yi], noFact] (fun a => gb_refl a _) (fun a b c h k => gb_trans h k (fun _ e => .inl e)) (by kernel_rfl) (by rfl) (by kernel_rfl) (by kernel_rfl) ?frT5 ?hfr ?hI ?hob ?hend
          case hfr =>
            intro ρ
            simp only [putAll, Act.put, List.setIfInBounds_toArray, List.set_cons_succ, List.set_cons_zero, Nat.zero_add, Nat.reduceAdd]
            exact rfl
          case hI => exact (by repeat (first | exact Und.refl _ | assumption | refine Und.under ?_ _ | refine Und.alloc ?_ _ | refine Und.drew ?_ | refine Und.drewN ?_ _))
          case hob =>
            refine ObsF.cons (fun ρ L W hR hI hL hD hO hF K hK => ?_) ?_
            · skip
              clear hF hD hO
              simp only [Act.put, List.setIfInBounds_toArray, List.set_cons_succ, List.set_cons_zero] at hK ⊢
              go_simp
              refine hK _ _ (gb_refl _ _) (by simpa [updB] using hI) (fun W2 h2 => ?_)
              rfl
            refine ObsF.cons (fun ρ L W hR hI hL hD hO hF K hK => ?_) ?_
            · skip
              clear hF hD hO
              simp only [Act.put, List.setIfInBounds_toArray, List.set_cons_succ, List.set_cons_zero] at hK ⊢
              go_simp
              refine hK _ _ (gb_refl _ _) (by simpa [updB] using hI) (fun W2 h2 => ?_)
              rfl
            refine ObsF.cons (fun ρ L W hR hI hL hD hO hF K hK => ?_) ?_
            · skip
              have f0 := allF_get hF (j := 0) (by decide)
              have f1 := allF_get hF (j := 1) (by decide)
              clear hF hD hO
              simp only [Act.put, List.setIfInBounds_toArray, List.set_cons_succ, List.set_cons_zero] at hK ⊢
              have e0 : ρ 0 = .slice (some ⟨b10, off10, none⟩) op.length c10 := f0
              have e1 : ρ 1 = .int .i64 q := f1
              rw [e0, e1] at hK ⊢
              have z1 : (q : Int) < (op.length : Int) := by omega
              go_simp
              refine hK _ _ (gb_refl _ _) (by simpa [updB] using hI) (fun W2 h2 => ?_)
              rfl
            refine ObsF.cons (fun ρ L W hR hI hL hD hO hF K hK => ?_) ?_
            · skip
              have f2 := allF_get hF (j := 2) (by decide)
              clear hF hD hO
              simp only [Act.put, List.setIfInBounds_toArray, List.set_cons_succ, List.set_cons_zero] at hK ⊢
              have e2 : ρ 2 = .pointer (some ⟨b10, off10 + q * 3, none⟩) := f2
              rw [e2] at hK ⊢
              go_simp
              refine hK _ _ (gb_refl _ _) (by simpa [updB] using hI) (fun W2 h2 => ?_)
              rfl
            refine ObsF.cons (fun ρ L W hR hI hL hD hO hF K hK => ?_) ?_
            · skip
              have f3 := allF_get hF (j := 3) (by decide)
              have h12 : L 12 = false := hD.not (p := 12) rfl (by decide) hL
              have hI5 : Und w5 W := by simpa [h12] using hI
              clear hF hD hO
              simp only [Act.put, List.setIfInBounds_toArray, List.set_cons_succ, List.set_cons_zero] at hK ⊢
              have e3 : ρ 3 = .pointer (some ⟨b10, off10 + q * 3 + 1, none⟩) := f3
              rw [e3] at hK ⊢
              have hc := (hI5.cell (p := ⟨b10, off10 + q * 3 + 1, none⟩) hb10).trans p1
              haveI : LtW b10 W := LtW.of (Nat.lt_of_lt_of_le hb10 hI5.size)
              go_simp
              refine hK _ _ (gb_refl _ _) (by simpa [updB] using hI) (fun W2 h2 => ?_)
              rfl
            refine ObsF.cons (fun ρ L W hR hI hL hD hO hF K hK => ?_) ?_
            · skip
              have f4 := allF_get hF (j := 4) (by decide)
              have h12 : L 12 = false := hD.not (p := 12) rfl (by decide) hL
              have hI5 : Und w5 W := by simpa [h12] using hI
              clear hF hD hO
              simp only [Act.put, List.setIfInBounds_toArray, List.set_cons_succ, List.set_cons_zero] at hK ⊢
              have e4 : ρ 4 = .string ⟨yt.toArray⟩ := f4
              rw [e4] at hK ⊢
              refine step_callF2 (o := ⟨some 86, _, _, _, _, _⟩) rfl 39 #[.string ⟨yt.toArray⟩] _ (rname_u yt W (by omega)) ?_ ?_
              · go_simp
              rintro e W2 ⟨rfl, hu⟩
              exact ⟨_, rfl, hK _ _ (hu.gb _) (by simpa [updB, h12] using hI5.trans hu) (fun W3 h3 => rfl)⟩
            refine ObsF.cons (fun ρ L W hR hI hL hD hO hF K hK => ?_) ?_
            · skip
              clear hF hD hO
              simp only [Act.put, List.setIfInBounds_toArray, List.set_cons_succ, List.set_cons_zero] at hK ⊢
              go_simp
              refine hK _ _ (gb_refl _ _) (by simpa [updB] using hI) (fun W2 h2 => ?_)
              rfl
            refine ObsF.cons (fun ρ L W hR hI hL hD hO hF K hK => ?_) ?_
            · skip
              clear hF hD hO
              simp only [Act.put, List.setIfInBounds_toArray, List.set_cons_succ, List.set_cons_zero] at hK ⊢
              go_simp
              refine hK _ _ (gb_refl _ _) (by simpa [updB] using hI) (fun W2 h2 => ?_)
              rfl
            refine ObsF.cons (fun ρ L W hR hI hL hD hO hF K hK => ?_) ?_
            · skip
              have f6 := allF_get hF (j := 6) (by decide)
              have f7 := allF_get hF (j := 7) (by decide)
              clear hF hD hO
              simp only [Act.put, List.setIfInBounds_toArray, List.set_cons_succ, List.set_cons_zero] at hK ⊢
              have e6 : ρ 6 = .slice (some ⟨b10, off10, none⟩) op.length c10 := f6
              have e7 : ρ 7 = .int .i64 q := f7
              rw [e6, e7] at hK ⊢
              have z1 : (q : Int) < (op.length : Int) := by omega
              go_simp
              refine hK _ _ (gb_refl _ _) (by simpa [updB] using hI) (fun W2 h2 => ?_)
              rfl
            refine ObsF.cons (fun ρ L W hR hI hL hD hO hF K hK => ?_) ?_
            · skip
              have f8 := allF_get hF (j := 8) (by decide)
              clear hF hD hO
              simp only [Act.put, List.setIfInBounds_toArray, List.set_cons_succ, List.set_cons_zero] at hK ⊢
              have e8 : ρ 8 = .pointer (some ⟨b10, off10 + q * 3, none⟩) := f8
              rw [e8] at hK ⊢
              go_simp
              refine hK _ _ (gb_refl _ _) (by simpa [updB] using hI) (fun W2 h2 => ?_)
              rfl
            refine ObsF.cons (fun ρ L W hR hI hL hD hO hF K hK => ?_) ?_
            · skip
              have f9 := allF_get hF (j := 9) (by decide)
              have h12 : L 12 = false := hD.not (p := 12) rfl (by decide) hL
              have hI5 : Und w5 W := by simpa [h12] using hI
              clear hF hD hO
              simp only [Act.put, List.setIfInBounds_toArray, List.set_cons_succ, List.set_cons_zero] at hK ⊢
              have e9 : ρ 9 = .pointer (some ⟨b10, off10 + q * 3 + 2, none⟩) := f9
              rw [e9] at hK ⊢
              have hc := (hI5.cell (p := ⟨b10, off10 + q * 3 + 2, none⟩) hb10).trans p2
              haveI : LtW b10 W := LtW.of (Nat.lt_of_lt_of_le hb10 hI5.size)
              go_simp
              refine hK _ _ (gb_refl _ _) (by simpa [updB] using hI) (fun W2 h2 => ?_)
              rfl
            refine ObsF.cons (fun ρ L W hR hI hL hD hO hF K hK => ?_) ?_
            · skip
              have f5 := allF_get hF (j := 5) (by decide)
              have f10 := allF_get hF (j := 10) (by decide)
              clear hF hD hO
              simp only [Act.put, List.setIfInBounds_toArray, List.set_cons_succ, List.set_cons_zero] at hK ⊢
              have e5 : ρ 5 = .string ⟨(St.nameOf yt).toArray⟩ := f5
              have e10 : ρ 10 = .int .i64 yi := f10
              rw [e5, e10] at hK ⊢
              go_simp
              refine hK _ _ (gb_refl _ _) (by simpa [updB] using hI) (fun W2 h2 => ?_)
              rfl
            refine ObsF.cons (fun ρ L W hR hI hL hD hO hF K hK => ?_) ?_
            · skip
              have f11 := allF_get hF (j := 11) (by decide)
              have hI5 : Und w5 W := by simpa [hL] using hI
              clear hF hD hO
              simp only [Act.put, List.setIfInBounds_toArray, List.set_cons_succ, List.set_cons_zero] at hK ⊢
              have e11 : ρ 11 = .agg #[.int .i64 3, .string ⟨(St.nameOf yt).toArray⟩, .int .i64 yi] := f11
              rw [e11] at hK ⊢
              have hbW := (hI5.below.block w3.heap.size (lt_of_heap hb5)).trans hb5
              have f0 : W.frozen? ⟨w3.heap.size, 0, none⟩ = false := Lib.frozen_of_heap hbW 0
              have f1 : W.frozen? ⟨w3.heap.size, 1, none⟩ = false := Lib.frozen_of_heap hbW 1
              have f2 : W.frozen? ⟨w3.heap.size, 2, none⟩ = false := Lib.frozen_of_heap hbW 2
              have g0 : W.cell? ⟨w3.heap.size, 0, none⟩ = some (.int .i64 1) := Lib.cell_of_heap hbW 0
              have g1 : W.cell? ⟨w3.heap.size, 1, none⟩ = some (.string t) := Lib.cell_of_heap hbW 1
              have g2 : W.cell? ⟨w3.heap.size, 2, none⟩ = some (.int .i64 0) := Lib.cell_of_heap hbW 2
              haveI : LtW w3.heap.size W := LtW.of (lt_of_heap hbW)
              go_simp
              refine hK undef _ (gb_setCell (gb_setCell (gb_set _ ⟨w3.heap.size, 0, none⟩ _) ⟨w3.heap.size, 1, none⟩ _ (.inl rfl)) ⟨w3.heap.size, 2, none⟩ _ (.inl rfl)) (by simp only [updB, if_true]; exact ⟨W, hI5, rfl⟩) (fun _ _ => trivial)
            exact ObsF.nil
          case hend =>
            intro ρ L W hR hI hL hF
            have h12 : L 12 = true := hL 12 (by decide)
            rw [if_pos h12] at hI
            obtain ⟨w6, hu6, hW⟩ := hI
            have HO6 := hid (own_und hu6 HO5.out)
            have HP6 := hid (own_und hu6 HP5.out)
            have HG6 := hid (HG5.out.und hu6)
            have HK6 := hid (gb_und HK5.out hu6)
            have hb5 := (hu6.below.block w3.heap.size (lt_of_heap hb5)).trans hb5
            have hsz5 := lt_of_heap hb5
            clear hR hL hF h12
            have f0 : w6.frozen? ⟨w3.heap.size, 0, none⟩ = false := Lib.frozen_of_heap hb5 0
            have f1 : w6.frozen? ⟨w3.heap.size, 1, none⟩ = false := Lib.frozen_of_heap hb5 1
            have f2 : w6.frozen? ⟨w3.heap.size, 2, none⟩ = false := Lib.frozen_of_heap hb5 2
            have g0 : w6.cell? ⟨w3.heap.size, 0, none⟩ = some (.int .i64 1) := Lib.cell_of_heap hb5 0
            have g1 : w6.cell? ⟨w3.heap.size, 1, none⟩ = some (.string t) := Lib.cell_of_heap hb5 1
            have g2 : w6.cell? ⟨w3.heap.size, 2, none⟩ = some (.int .i64 0) := Lib.cell_of_heap hb5 2
            haveI : LtW w3.heap.size w6 := LtW.of (lt_of_heap hb5)
            have hob : (Value.slice A9 f.length c9).ownBlock ≠ some w3.heap.size := fun e => by have := hlt3 _ e; omega
            have hobp : (Value.slice (some ⟨b10, off10, none⟩) op.length c10).ownBlock ≠ some w3.heap.size := fun e => by have := hlt3p _ e; omega
            have hkey : ∀ W, W = ((w6.setCell ⟨w3.heap.size, 0, none⟩ (.int .i64 3)).setCell ⟨w3.heap.size, 1, none⟩ (.string ⟨(St.nameOf yt).toArray⟩)).setCell ⟨w3.heap.size, 2, none⟩ (.int .i64 yi) → W.ownsRow w.heap.size 57 3 (.slice A9 f.length c9) f.length (cellsIt f) ∧ W.ownsRow w.heap.size 57 3 (.slice (some ⟨b10, off10, none⟩) op.length c10) op.length (cellsIt op) ∧ GenP W B g (P + 1 + 9 * (k + 1)) ∧ w.grownBy W (some g) ∧ W.heap.size = w6.heap.size ∧ W.heap[w3.heap.size]? = some (Obj.cells #[.int .i64 3, .string ⟨(St.nameOf yt).toArray⟩, .int .i64 yi] 57 (0, 0)) := by
              intro W hW
              subst hW
              have hBb : ∀ x, some w3.heap.size = some x → B ≤ x := fun x e => by cases e; omega
              refine ⟨own_set (own_set (own_set HO6.out hob) hob) hob, own_set (own_set (own_set HP6.out hobp) hobp) hobp, ?_, gb_setCell (gb_setCell (gb_setCell HK6.out _ _ (.inr (by show w.heap.size ≤ w3.heap.size; omega))) _ _ (.inr (by show w.heap.size ≤ w3.heap.size; omega))) _ _ (.inr (by show w.heap.size ≤ w3.heap.size; omega)), by simp, heap_setCell_same _ w3.heap.size 2 _ _ _ (heap_setCell_same _ w3.heap.size 1 _ _ _ (heap_setCell_same w6 w3.heap.size 0 _ _ _ hb5))⟩
              exact (((HG6.out.gb (gb_set w6 ⟨w3.heap.size, 0, none⟩ _) hBb).gb (gb_set _ ⟨w3.heap.size, 1, none⟩ _) hBb).gb (gb_set _ ⟨w3.heap.size, 2, none⟩ _) hBb).le (by omega)
            have HKEY := hid (hkey W hW)
            have hne5 := HKEY.out.2.2.1.lt.2
            have hkz := HKEY.out.2.2.2.2.1
            have hkw := HKEY.out.2.2.2.1.size
            have hit := items_own HKEY.out.2.1 rfl
            have HIT1 := hid (items_take hit q)
            have hgen2 := HGEN.out
            obtain ⟨q1, hq1⟩ : ∃ q1, q1 = q + 1 := ⟨_, rfl⟩
            rw [← hq1] at hgen2
            have HGEN2 := hid hgen2
            clear hgen2
            obtain ⟨ox, hox, hit2⟩ : ∃ ox, (if c10 = q1 then (some ⟨b10, off10, none⟩ : Option Addr) else some ⟨b10, off10 + q1 * 3, none⟩) = some ⟨b10, ox, none⟩ ∧ ItemsAt W (some ⟨b10, ox, none⟩) (op.drop q1) := by
              by_cases hcq : c10 = q1
              · exact ⟨off10, if_pos hcq, fun h0 => by simp at h0; omega⟩
              · exact ⟨off10 + q1 * 3, if_neg hcq, items_drop hit q1⟩
            have HIT2 := hid hit2
            clear hit2
            have hw : IntKind.i64.wrap (q1 : Int) = (q1 : Int) := IntWalk.i64_in _ (by omega)
            have hw1 : (q : Int) + 1 = (q1 : Int) := by omega
            have hw2 : (0 : Int) ≤ (q1 : Int) := by omega
            have hw3 : (q1 : Int) ≤ (op.length : Int) := by omega
            have hw4 : q1 ≤ op.length := by omega
            have hqa : q + 1 ≤ q1 := by omega
            have hqb : q1 ≤ q + 1 := by omega
            clear hq1
            have hbW := HKEY.out.2.2.2.2.2
            have hl1 : (q : Int) ≤ (op.length : Int) := by omega
            have hl4 : (q : Int) ≤ (c10 : Int) := by omega
            have hl5 : (op.length : Int) ≤ (c10 : Int) := by omega
            haveI : LtW b10 W := LtW.of (by have := hu6.size; omega)
            clear hkey hW hb5 f0 f1 f2 g0 g1 g2 p0 p1 p2 hit hu6
            go_wp2_with fail
            refine wp_region_any (by kernel_rfl) ?_
            try (change wpAny _ _ _ _ _ _ _ (World.drew _))
            refine rg_norm2 (l' := #[false, false, false, false, false, false, false, false, false, false]) (by kernel_rfl) ?_
            refine wpAny_take (i := 0) (v := ?_) rfl (by kernel_rfl) (by kernel_rfl) (by kernel_rfl) (fun _ _ _ h => h) (Or.inl ⟨by rfl, ?_⟩) ?_
            rotate_left 1
            · (intro W9; go_simp; try with_reducible rfl)
            try go_simp
            refine rg_norm2 (l' := #[true, false, false, false, false, false, false, false, false, false]) (by kernel_rfl) ?_
            refine wpAny_take (i := 1) (v := ?_) rfl (by kernel_rfl) (by kernel_rfl) (by kernel_rfl) (fun _ _ _ h => h) (Or.inl ⟨by rfl, ?_⟩) ?_
            rotate_left 1
            · (intro W9; go_simp; try with_reducible rfl)
            try go_simp
            refine rg_norm2 (l' := #[true, true, false, false, false, false, false, false, false, false]) (by kernel_rfl) ?_
            refine wpAny_take (i := 2) (v := ?_) rfl (by kernel_rfl) (by kernel_rfl) (by kernel_rfl) (fun _ _ _ h => h) (Or.inl ⟨by rfl, ?_⟩) ?_
            rotate_left 1
            · (intro W9; go_simp; try with_reducible rfl)
            try go_simp
            refine rg_norm2 (l' := #[true, true, true, false, false, false, false, false, false, false]) (by kernel_rfl) ?_
            refine wpAny_take (i := 4) (v := ?_) rfl (by kernel_rfl) (by kernel_rfl) (by kernel_rfl) (fun _ _ _ h => h) (Or.inl ⟨by rfl, ?_⟩) ?_
            rotate_left 1
            · (intro W9; go_simp; try with_reducible rfl)
            try go_simp
            refine rg_norm2 (l' := #[true, true, true, false, true, false, false, false, false, false]) (by kernel_rfl) ?_
            refine wpAny_take (i := 5) (v := ?_) rfl (by kernel_rfl) (by kernel_rfl) (by kernel_rfl) (fun _ _ _ h => h) (Or.inl ⟨by rfl, ?_⟩) ?_
            rotate_left 1
            · (intro W9; go_simp; try with_reducible rfl)
            try go_simp
            refine rg_norm2 (l' := #[true, true, true, false, true, true, false, false, false, false]) (by kernel_rfl) ?_
            refine wpAny_take (i := 6) (v := ?_) rfl (by kernel_rfl) (by kernel_rfl) (by kernel_rfl) (fun _ _ _ h => h) (Or.inl ⟨by rfl, ?_⟩) ?_
            rotate_left 1
            · (intro W9; go_simp; try with_reducible rfl)
            try go_simp
            refine rg_norm2 (l' := #[true, true, true, false, true, true, true, false, false, false]) (by kernel_rfl) ?_
            refine wpAny_take (i := 7) (v := ?_) rfl (by kernel_rfl) (by kernel_rfl) (by kernel_rfl) (fun _ _ _ h => h) (Or.inl ⟨by rfl, ?_⟩) ?_
            rotate_left 1
            · (intro W9; go_simp; try with_reducible rfl)
            try go_simp
            refine rg_norm2 (l' := #[true, true, true, false, true, true, true, true, false, false]) (by kernel_rfl) ?_
            refine wpAny_ready (rs := [3]) (by kernel_rfl) (by simp) ?_
            refine AllReady.cons (o := ⟨some 96, _, _, _, _, _⟩) rfl (fun K hK => ?_) AllReady.nil
            refine step_append_items (o := ⟨some 96, _, _, _, _, _⟩) rfl _ _ rfl W.heap.size (.slice none 0 0) 0 [] rfl (World.ownsRow_nil _ _ _ _) ⟨b10, off10, none⟩ q c10 (op.take q) rfl (HIT1.out.und (Und.refl W).drew) (by simp; omega) (by omega) (by exact Nat.le_refl _) ?_
            intro v96 w8 ho8 hg8
            have hu8 : Und W w8 := ((Und.refl W).drew).grown hg8 (fun g e => by cases e)
            have HO8 := hid (show w8.ownsRow W.heap.size 57 3 v96 q (cellsIt (op.take q)) by simpa using ho8)
            have HU8 := hid hu8
            clear ho8 hg8 hu8
            try go_simp
            refine hK _ _ ?_
            clear hK K
            refine rg_norm2 (l' := #[true, true, true, true, true, true, true, true, false, false]) (by kernel_rfl) ?_
            refine wpAny_ready (rs := [8]) (by kernel_rfl) (by simp) ?_
            refine AllReady.cons (o := ⟨some 101, _, _, _, _, _⟩) rfl (fun K hK => ?_) AllReady.nil
            refine step_append_items (o := ⟨some 101, _, _, _, _, _⟩) rfl _ _ rfl W.heap.size v96 q (op.take q) rfl HO8.out ⟨b10, ox, none⟩ (op.length - q1) (c10 - q1) (op.drop q1) ?_ (HIT2.out.und HU8.out) (by simp) (by omega) HU8.out.size ?_
            · first | rfl | (go_simp; try rfl)
            intro v101 w9 ho9 hg9
            have hu9 : Und W w9 := HU8.out.grown hg9 (fun x e => owns_block HO8.out x e)
            have HO9 := hid ho9
            have HU9 := hid hu9
            clear ho9 hg9 hu9
            try go_simp
            refine hK _ _ ?_
            clear hK K
            refine rg_norm2 (l' := #[true, true, true, true, true, true, true, true, true, false]) (by kernel_rfl) ?_
            refine wpAny_take (i := 9) (v := ?_) rfl (by kernel_rfl) (by kernel_rfl) (by kernel_rfl) (fun _ _ _ h => h) (Or.inl ⟨by rfl, ?_⟩) ?_
            rotate_left 1
            · (intro W9; go_simp; try with_reducible rfl)
            try go_simp
            refine rg_norm2 (l' := #[true, true, true, true, true, true, true, true, true, true]) (by kernel_rfl) ?_
            refine wpAny_done (by kernel_rfl) ?_ _
            have hop2 : (op.take q ++ op.drop q1).length = op.length - 1 := by simp; omega
            have hop3 : q + (op.length - q1) = op.length - 1 := by omega
            have ho10 : w9.ownsRow W.heap.size 57 3 v101 (op.take q ++ op.drop q1).length (cellsIt (op.take q ++ op.drop q1)) := by
              have := HO9.out
              rw [hop3] at this
              rw [hop2]; exact this
            obtain ⟨Av, cv, rfl, _, _, _⟩ := own_slice' ho10
            have hb9 := (HU9.out.below.block w3.heap.size (lt_of_heap hbW)).trans hbW
            have c0 : w9.cell? ⟨w3.heap.size, 0, none⟩ = some (.int .i64 3) := Lib.cell_of_heap hb9 0
            have c1 : w9.cell? ⟨w3.heap.size, 1, none⟩ = some (.string ⟨(St.nameOf yt).toArray⟩) := Lib.cell_of_heap hb9 1
            have c2 : w9.cell? ⟨w3.heap.size, 2, none⟩ = some (.int .i64 yi) := Lib.cell_of_heap hb9 2
            haveI : LtW w3.heap.size w9 := LtW.of (lt_of_heap hb9)
            have h9s := HU9.out.size
            have HO10 := hid ho10
            clear ho10 hb9 HO9
            go_wp2_with fail
            refine (HCAT.out _ _ (3, St.nameOf yt, yi) ?_ ?_ ?_).mono ?_
            · exact ((items_own HKEY.out.1 rfl).und HU9.out).und ((Und.refl _).alloc _)
            · exact items_boxi _ _ _ _ _ (by simp) (by rw [World.cell?_alloc_at _ _ _ _ (by simp)]; rfl) (by rw [World.cell?_alloc_at _ _ _ _ (by simp)]; rfl) (by rw [World.cell?_alloc_at _ _ _ _ (by simp)]; rfl)
            · rw [tot_snoc]; simp; omega
            rintro e w7 ⟨v7, rfl, ho7, hu7⟩
            have hrel := FIN.out (3, St.nameOf yt, yi) v7 _ _ w7 (op.take q ++ op.drop q1) c _ rfl HGEN2.out (by show (St.nameOf yt).length ≤ 18; omega) (by omega) (by omega) ho7 ((own_low HO10.out (by omega)).alloc _) hu7 (by simp; omega) (((HKEY.out.2.2.1.und HU9.out).und ((Und.refl _).alloc _)).und hu7) (gb_und (gb_und HKEY.out.2.2.2.1 HU9.out) (((Und.refl _).alloc _).trans hu7))
            have HREL := hid hrel
            clear hrel ho7 hu7
            go_wp2
            exact ⟨by have h := HREL.out; rw [hop2] at h; exact h, by simp [intOf]; omega⟩
      · subst h
        clear hr8
        by_cases hop : op.length = 0
        · have y1 : ¬ (0 : Int) ≤ (op.length : Int) - 1 := by omega
          have hop2 : op.length ≤ 0 := by omega
          clear hop
          have hb5 := hb4
          clear d0 d1 d2 hb4
          have f0 : w4.frozen? ⟨w3.heap.size, 0, none⟩ = false := Lib.frozen_of_heap hb5 0
          have f1 : w4.frozen? ⟨w3.heap.size, 1, none⟩ = false := Lib.frozen_of_heap hb5 1
          have f2 : w4.frozen? ⟨w3.heap.size, 2, none⟩ = false := Lib.frozen_of_heap hb5 2
          have g0 : w4.cell? ⟨w3.heap.size, 0, none⟩ = some (.int .i64 1) := Lib.cell_of_heap hb5 0
          have g1 : w4.cell? ⟨w3.heap.size, 1, none⟩ = some (.string t) := Lib.cell_of_heap hb5 1
          have g2 : w4.cell? ⟨w3.heap.size, 2, none⟩ = some (.int .i64 0) := Lib.cell_of_heap hb5 2
          haveI : LtW w3.heap.size w4 := LtW.of (lt_of_heap hb5)
          have hob : (Value.slice A9 f.length c9).ownBlock ≠ some w3.heap.size := fun e => by have := hlt3 _ e; omega
          have hobp : (Value.slice A10 op.length c10).ownBlock ≠ some w3.heap.size := fun e => by have := hlt3p _ e; omega
          have hkey : ∀ W, W = ((w4.setCell ⟨w3.heap.size, 0, none⟩ (.int .i64 3)).setCell ⟨w3.heap.size, 1, none⟩ (.string ⟨#[98]⟩)).setCell ⟨w3.heap.size, 2, none⟩ (.int .i64 ((c : Int) + 1)) → W.ownsRow w.heap.size 57 3 (.slice A9 f.length c9) f.length (cellsIt f) ∧ W.ownsRow w.heap.size 57 3 (.slice A10 op.length c10) op.length (cellsIt op) ∧ GenP W B g (P + 1 + 9 * (k + 1)) ∧ w.grownBy W (some g) ∧ W.heap.size = w4.heap.size ∧ W.heap[w3.heap.size]? = some (Obj.cells #[.int .i64 3, .string ⟨#[98]⟩, .int .i64 ((c : Int) + 1)] 57 (0, 0)) := by
            intro W hW
            subst hW
            have hBb : ∀ x, some w3.heap.size = some x → B ≤ x := fun x e => by cases e; omega
            refine ⟨own_set (own_set (own_set HO4.out hob) hob) hob, own_set (own_set (own_set HP4.out hobp) hobp) hobp, ?_, gb_setCell (gb_setCell (gb_setCell HK4.out _ _ (.inr (by show w.heap.size ≤ w3.heap.size; omega))) _ _ (.inr (by show w.heap.size ≤ w3.heap.size; omega))) _ _ (.inr (by show w.heap.size ≤ w3.heap.size; omega)), by simp, heap_setCell_same _ w3.heap.size 2 _ _ _ (heap_setCell_same _ w3.heap.size 1 _ _ _ (heap_setCell_same w4 w3.heap.size 0 _ _ _ hb5))⟩
            exact (((HG4.out.gb (gb_set w4 ⟨w3.heap.size, 0, none⟩ _) hBb).gb (gb_set _ ⟨w3.heap.size, 1, none⟩ _) hBb).gb (gb_set _ ⟨w3.heap.size, 2, none⟩ _) hBb).le (by omega)
          have HKEY := hid (hkey _ rfl)
          have hne5 := HKEY.out.2.2.1.lt.2
          clear hkey
          go_wp2_with fail
          refine (HCAT.out _ _ (3, [98], (c : Int) + 1) ?_ ?_ ?_).mono ?_
          · exact (items_own HKEY.out.1 rfl).und ((Und.refl _).alloc _)
          · exact items_boxi _ _ _ _ _ (by simp) (by rw [World.cell?_alloc_at _ _ _ _ (by simp)]; rfl) (by rw [World.cell?_alloc_at _ _ _ _ (by simp)]; rfl) (by rw [World.cell?_alloc_at _ _ _ _ (by simp)]; rfl)
          · rw [tot_snoc]; simp; omega
          rintro e w7 ⟨v7, rfl, ho7, hu7⟩
          have hrel := FIN.out (3, [98], (c : Int) + 1) v7 _ _ w7 op (c + 1) (.int .i64 ((c : Int) + 1)) rfl (HGN.out.stray rfl) (by simp) (by omega) (by omega) ho7 (HKEY.out.2.1.alloc _) hu7 (by have := HKEY.out.2.2.2.1.size; simp at this ⊢; omega) ((HKEY.out.2.2.1.und ((Und.refl _).alloc _)).und hu7) (gb_und HKEY.out.2.2.2.1 (((Und.refl _).alloc _).trans hu7))
          have HREL := hid hrel
          clear hrel ho7 hu7
          go_wp2
          exact ⟨HREL.out, by simp [intOf]; omega⟩
        · have y1 : (0 : Int) ≤ (op.length : Int) - 1 := by omega
          clear d0 d1 d2
          go_wp2_with fail
          refine (next_gen B g _ _ _ HG4.out (by omega) ?_ ?_).mono ?_
          · omega
          · omega
          rintro e w5 ⟨q, rfl, hq, hG5, hk5⟩
          have hq2 : q < op.length := by omega
          have HG5 := hid hG5
          have HK5 := hid (gb_trans HK4.out hk5 (fun _ e => .inl e))
          have HO5 := hid (own_gb HO4.out hk5 (by omega))
          have HP5 := hid (own_gb HP4.out hk5 (by omega))
          have hb5 : w5.heap[w3.heap.size]? = some (Obj.cells #[.int .i64 1, .string t, .int .i64 0] 57 (0, 0)) := (hk5.block w3.heap.size (by omega) (by simp; omega)).trans hb4
          obtain ⟨b10, off10, e10, hb10, hc10⟩ := (items_own HP5.out rfl) (by omega)
          subst e10
          obtain ⟨p0, p1, p2⟩ := hc10 q hq2
          have hsm := (HGN.out.small op[q] (List.getElem_mem hq2)).1
          have hgen := St.GenT.closed (ns := false) q hq2 (fun e => by cases e) HGN.out
          generalize op[q] = y at p0 p1 p2 hsm hgen
          obtain ⟨yk, yt, yi⟩ := y
          simp only at p0 p1 p2 hsm hgen
          have HGEN := hid hgen
          clear hc10 hgen hG5 hk5 HG4 HK4 HO4 HP4 hb4
          have hnl := St.name_le' yt
          go_wp2_with fail
          refine wp_region_facts (fun a b => a.grownBy b (some w3.heap.size)) (fun L W => if L 12 = true then ∃ W0, Und w5 W0 ∧ W = ((W0.setCell ⟨w3.heap.size, 0, none⟩ (.int .i64 3)).setCell ⟨w3.heap.size, 1, none⟩ (.string ⟨(St.nameOf yt).toArray⟩)).setCell ⟨w3.heap.size, 2, none⟩ (.int .i64 yi) else Und w5 W) [fun v _ => v = .slice (some ⟨b10, off10, none⟩) op.length c10, fun v _ => v = .int .i64 q, fun v _ => v = .pointer (some ⟨b10, off10 + q * 3, none⟩), fun v _ => v = .pointer (some ⟨b10, off10 + q * 3 + 1, none⟩), fun v _ => v = .string ⟨yt.toArray⟩, fun v _ => v = .string ⟨(St.nameOf yt).toArray⟩, fun v _ => v = .slice (some ⟨b10, off10, none⟩) op.length c10, fun v _ => v = .int .i64 q, fun v _ => v = .pointer (some ⟨b10, off10 + q * 3, none⟩), fun v _ => v = .pointer (some ⟨b10, off10 + q * 3 + 2, none⟩), fun v _ => v = .int .i64 yi, fun v _ => v = .agg #[.int .i64 3, .string ⟨(St.nameOf yt).toArray⟩, .int .i64 yi], noFact] (fun a => gb_refl a _) (fun a b c h k => gb_trans h k (fun _ e => .inl e)) (by kernel_rfl) (by rfl) (by kernel_rfl) (by kernel_rfl) ?frT6 ?hfr ?hI ?hob ?hend
          case hfr =>
            intro ρ
            simp only [putAll, Act.put, List.setIfInBounds_toArray, List.set_cons_succ, List.set_cons_zero, Nat.zero_add, Nat.reduceAdd]
            exact rfl
          case hI => exact (by repeat (first | exact Und.refl _ | assumption | refine Und.under ?_ _ | refine Und.alloc ?_ _ | refine Und.drew ?_ | refine Und.drewN ?_ _))
          case hob =>
            refine ObsF.cons (fun ρ L W hR hI hL hD hO hF K hK => ?_) ?_
            · skip
              clear hF hD hO
              simp only [Act.put, List.setIfInBounds_toArray, List.set_cons_succ, List.set_cons_zero] at hK ⊢
              go_simp
              refine hK _ _ (gb_refl _ _) (by simpa [updB] using hI) (fun W2 h2 => ?_)
              rfl
            refine ObsF.cons (fun ρ L W hR hI hL hD hO hF K hK => ?_) ?_
            · skip
              clear hF hD hO
              simp only [Act.put, List.setIfInBounds_toArray, List.set_cons_succ, List.set_cons_zero] at hK ⊢
              go_simp
              refine hK _ _ (gb_refl _ _) (by simpa [updB] using hI) (fun W2 h2 => ?_)
              rfl
            refine ObsF.cons (fun ρ L W hR hI hL hD hO hF K hK => ?_) ?_
            · skip
              have f0 := allF_get hF (j := 0) (by decide)
              have f1 := allF_get hF (j := 1) (by decide)
              clear hF hD hO
              simp only [Act.put, List.setIfInBounds_toArray, List.set_cons_succ, List.set_cons_zero] at hK ⊢
              have e0 : ρ 0 = .slice (some ⟨b10, off10, none⟩) op.length c10 := f0
              have e1 : ρ 1 = .int .i64 q := f1
              rw [e0, e1] at hK ⊢
              have z1 : (q : Int) < (op.length : Int) := by omega
              go_simp
              refine hK _ _ (gb_refl _ _) (by simpa [updB] using hI) (fun W2 h2 => ?_)
              rfl
            refine ObsF.cons (fun ρ L W hR hI hL hD hO hF K hK => ?_) ?_
            · skip
              have f2 := allF_get hF (j := 2) (by decide)
              clear hF hD hO
              simp only [Act.put, List.setIfInBounds_toArray, List.set_cons_succ, List.set_cons_zero] at hK ⊢
              have e2 : ρ 2 = .pointer (some ⟨b10, off10 + q * 3, none⟩) := f2
              rw [e2] at hK ⊢
              go_simp
              refine hK _ _ (gb_refl _ _) (by simpa [updB] using hI) (fun W2 h2 => ?_)
              rfl
            refine ObsF.cons (fun ρ L W hR hI hL hD hO hF K hK => ?_) ?_
            · skip
              have f3 := allF_get hF (j := 3) (by decide)
              have h12 : L 12 = false := hD.not (p := 12) rfl (by decide) hL
              have hI5 : Und w5 W := by simpa [h12] using hI
              clear hF hD hO
              simp only [Act.put, List.setIfInBounds_toArray, List.set_cons_succ, List.set_cons_zero] at hK ⊢
              have e3 : ρ 3 = .pointer (some ⟨b10, off10 + q * 3 + 1, none⟩) := f3
              rw [e3] at hK ⊢
              have hc := (hI5.cell (p := ⟨b10, off10 + q * 3 + 1, none⟩) hb10).trans p1
              haveI : LtW b10 W := LtW.of (Nat.lt_of_lt_of_le hb10 hI5.size)
              go_simp
              refine hK _ _ (gb_refl _ _) (by simpa [updB] using hI) (fun W2 h2 => ?_)
              rfl
            refine ObsF.cons (fun ρ L W hR hI hL hD hO hF K hK => ?_) ?_
            · skip
              have f4 := allF_get hF (j := 4) (by decide)
              have h12 : L 12 = false := hD.not (p := 12) rfl (by decide) hL
              have hI5 : Und w5 W := by simpa [h12] using hI
              clear hF hD hO
              simp only [Act.put, List.setIfInBounds_toArray, List.set_cons_succ, List.set_cons_zero] at hK ⊢
              have e4 : ρ 4 = .string ⟨yt.toArray⟩ := f4
              rw [e4] at hK ⊢
              refine step_callF2 (o := ⟨some 86, _, _, _, _, _⟩) rfl 39 #[.string ⟨yt.toArray⟩] _ (rname_u yt W (by omega)) ?_ ?_
              · go_simp
              rintro e W2 ⟨rfl, hu⟩
              exact ⟨_, rfl, hK _ _ (hu.gb _) (by simpa [updB, h12] using hI5.trans hu) (fun W3 h3 => rfl)⟩
            refine ObsF.cons (fun ρ L W hR hI hL hD hO hF K hK => ?_) ?_
            · skip
              clear hF hD hO
              simp only [Act.put, List.setIfInBounds_toArray, List.set_cons_succ, List.set_cons_zero] at hK ⊢
              go_simp
              refine hK _ _ (gb_refl _ _) (by simpa [updB] using hI) (fun W2 h2 => ?_)
              rfl
            refine ObsF.cons (fun ρ L W hR hI hL hD hO hF K hK => ?_) ?_
            · skip
              clear hF hD hO
              simp only [Act.put, List.setIfInBounds_toArray, List.set_cons_succ, List.set_cons_zero] at hK ⊢
              go_simp
              refine hK _ _ (gb_refl _ _) (by simpa [updB] using hI) (fun W2 h2 => ?_)
              rfl
            refine ObsF.cons (fun ρ L W hR hI hL hD hO hF K hK => ?_) ?_
            · skip
              have f6 := allF_get hF (j := 6) (by decide)
              have f7 := allF_get hF (j := 7) (by decide)
              clear hF hD hO
              simp only [Act.put, List.setIfInBounds_toArray, List.set_cons_succ, List.set_cons_zero] at hK ⊢
              have e6 : ρ 6 = .slice (some ⟨b10, off10, none⟩) op.length c10 := f6
              have e7 : ρ 7 = .int .i64 q := f7
              rw [e6, e7] at hK ⊢
              have z1 : (q : Int) < (op.length : Int) := by omega
              go_simp
              refine hK _ _ (gb_refl _ _) (by simpa [updB] using hI) (fun W2 h2 => ?_)
              rfl
            refine ObsF.cons (fun ρ L W hR hI hL hD hO hF K hK => ?_) ?_
            · skip
              have f8 := allF_get hF (j := 8) (by decide)
              clear hF hD hO
              simp only [Act.put, List.setIfInBounds_toArray, List.set_cons_succ, List.set_cons_zero] at hK ⊢
              have e8 : ρ 8 = .pointer (some ⟨b10, off10 + q * 3, none⟩) := f8
              rw [e8] at hK ⊢
              go_simp
              refine hK _ _ (gb_refl _ _) (by simpa [updB] using hI) (fun W2 h2 => ?_)
              rfl
            refine ObsF.cons (fun ρ L W hR hI hL hD hO hF K hK => ?_) ?_
            · skip
              have f9 := allF_get hF (j := 9) (by decide)
              have h12 : L 12 = false := hD.not (p := 12) rfl (by decide) hL
              have hI5 : Und w5 W := by simpa [h12] using hI
              clear hF hD hO
              simp only [Act.put, List.setIfInBounds_toArray, List.set_cons_succ, List.set_cons_zero] at hK ⊢
              have e9 : ρ 9 = .pointer (some ⟨b10, off10 + q * 3 + 2, none⟩) := f9
              rw [e9] at hK ⊢
              have hc := (hI5.cell (p := ⟨b10, off10 + q * 3 + 2, none⟩) hb10).trans p2
              haveI : LtW b10 W := LtW.of (Nat.lt_of_lt_of_le hb10 hI5.size)
              go_simp
              refine hK _ _ (gb_refl _ _) (by simpa [updB] using hI) (fun W2 h2 => ?_)
              rfl
            refine ObsF.cons (fun ρ L W hR hI hL hD hO hF K hK => ?_) ?_
            · skip
              have f5 := allF_get hF (j := 5) (by decide)
              have f10 := allF_get hF (j := 10) (by decide)
              clear hF hD hO
              simp only [Act.put, List.setIfInBounds_toArray, List.set_cons_succ, List.set_cons_zero] at hK ⊢
              have e5 : ρ 5 = .string ⟨(St.nameOf yt).toArray⟩ := f5
              have e10 : ρ 10 = .int .i64 yi := f10
              rw [e5, e10] at hK ⊢
              go_simp
              refine hK _ _ (gb_refl _ _) (by simpa [updB] using hI) (fun W2 h2 => ?_)
              rfl
            refine ObsF.cons (fun ρ L W hR hI hL hD hO hF K hK => ?_) ?_
            · skip
              have f11 := allF_get hF (j := 11) (by decide)
              have hI5 : Und w5 W := by simpa [hL] using hI
              clear hF hD hO
              simp only [Act.put, List.setIfInBounds_toArray, List.set_cons_succ, List.set_cons_zero] at hK ⊢
              have e11 : ρ 11 = .agg #[.int .i64 3, .string ⟨(St.nameOf yt).toArray⟩, .int .i64 yi] := f11
              rw [e11] at hK ⊢
              have hbW := (hI5.below.block w3.heap.size (lt_of_heap hb5)).trans hb5
              have f0 : W.frozen? ⟨w3.heap.size, 0, none⟩ = false := Lib.frozen_of_heap hbW 0
              have f1 : W.frozen? ⟨w3.heap.size, 1, none⟩ = false := Lib.frozen_of_heap hbW 1
              have f2 : W.frozen? ⟨w3.heap.size, 2, none⟩ = false := Lib.frozen_of_heap hbW 2
              have g0 : W.cell? ⟨w3.heap.size, 0, none⟩ = some (.int .i64 1) := Lib.cell_of_heap hbW 0
              have g1 : W.cell? ⟨w3.heap.size, 1, none⟩ = some (.string t) := Lib.cell_of_heap hbW 1
              have g2 : W.cell? ⟨w3.heap.size, 2, none⟩ = some (.int .i64 0) := Lib.cell_of_heap hbW 2
              haveI : LtW w3.heap.size W := LtW.of (lt_of_heap hbW)
              go_simp
              refine hK undef _ (gb_setCell (gb_setCell (gb_set _ ⟨w3.heap.size, 0, none⟩ _) ⟨w3.heap.size, 1, none⟩ _ (.inl rfl)) ⟨w3.heap.size, 2, none⟩ _ (.inl rfl)) (by simp only [updB, if_true]; exact ⟨W, hI5, rfl⟩) (fun _ _ => trivial)
            exact ObsF.nil
          case hend =>
            intro ρ L W hR hI hL hF
            have h12 : L 12 = true := hL 12 (by decide)
            rw [if_pos h12] at hI
            obtain ⟨w6, hu6, hW⟩ := hI
            have HO6 := hid (own_und hu6 HO5.out)
            have HP6 := hid (own_und hu6 HP5.out)
            have HG6 := hid (HG5.out.und hu6)
            have HK6 := hid (gb_und HK5.out hu6)
            have hb5 := (hu6.below.block w3.heap.size (lt_of_heap hb5)).trans hb5
            have hsz5 := lt_of_heap hb5
            clear hR hL hF h12
            have f0 : w6.frozen? ⟨w3.heap.size, 0, none⟩ = false := Lib.frozen_of_heap hb5 0
            have f1 : w6.frozen? ⟨w3.heap.size, 1, none⟩ = false := Lib.frozen_of_heap hb5 1
            have f2 : w6.frozen? ⟨w3.heap.size, 2, none⟩ = false := Lib.frozen_of_heap hb5 2
            have g0 : w6.cell? ⟨w3.heap.size, 0, none⟩ = some (.int .i64 1) := Lib.cell_of_heap hb5 0
            have g1 : w6.cell? ⟨w3.heap.size, 1, none⟩ = some (.string t) := Lib.cell_of_heap hb5 1
            have g2 : w6.cell? ⟨w3.heap.size, 2, none⟩ = some (.int .i64 0) := Lib.cell_of_heap hb5 2
            haveI : LtW w3.heap.size w6 := LtW.of (lt_of_heap hb5)
            have hob : (Value.slice A9 f.length c9).ownBlock ≠ some w3.heap.size := fun e => by have := hlt3 _ e; omega
            have hobp : (Value.slice (some ⟨b10, off10, none⟩) op.length c10).ownBlock ≠ some w3.heap.size := fun e => by have := hlt3p _ e; omega
            have hkey : ∀ W, W = ((w6.setCell ⟨w3.heap.size, 0, none⟩ (.int .i64 3)).setCell ⟨w3.heap.size, 1, none⟩ (.string ⟨(St.nameOf yt).toArray⟩)).setCell ⟨w3.heap.size, 2, none⟩ (.int .i64 yi) → W.ownsRow w.heap.size 57 3 (.slice A9 f.length c9) f.length (cellsIt f) ∧ W.ownsRow w.heap.size 57 3 (.slice (some ⟨b10, off10, none⟩) op.length c10) op.length (cellsIt op) ∧ GenP W B g (P + 1 + 9 * (k + 1)) ∧ w.grownBy W (some g) ∧ W.heap.size = w6.heap.size ∧ W.heap[w3.heap.size]? = some (Obj.cells #[.int .i64 3, .string ⟨(St.nameOf yt).toArray⟩, .int .i64 yi] 57 (0, 0)) := by
              intro W hW
              subst hW
              have hBb : ∀ x, some w3.heap.size = some x → B ≤ x := fun x e => by cases e; omega
              refine ⟨own_set (own_set (own_set HO6.out hob) hob) hob, own_set (own_set (own_set HP6.out hobp) hobp) hobp, ?_, gb_setCell (gb_setCell (gb_setCell HK6.out _ _ (.inr (by show w.heap.size ≤ w3.heap.size; omega))) _ _ (.inr (by show w.heap.size ≤ w3.heap.size; omega))) _ _ (.inr (by show w.heap.size ≤ w3.heap.size; omega)), by simp, heap_setCell_same _ w3.heap.size 2 _ _ _ (heap_setCell_same _ w3.heap.size 1 _ _ _ (heap_setCell_same w6 w3.heap.size 0 _ _ _ hb5))⟩
              exact (((HG6.out.gb (gb_set w6 ⟨w3.heap.size, 0, none⟩ _) hBb).gb (gb_set _ ⟨w3.heap.size, 1, none⟩ _) hBb).gb (gb_set _ ⟨w3.heap.size, 2, none⟩ _) hBb).le (by omega)
            have HKEY := hid (hkey W hW)
            have hne5 := HKEY.out.2.2.1.lt.2
            have hkz := HKEY.out.2.2.2.2.1
            have hkw := HKEY.out.2.2.2.1.size
            have hit := items_own HKEY.out.2.1 rfl
            have HIT1 := hid (items_take hit q)
            have hgen2 := HGEN.out
            obtain ⟨q1, hq1⟩ : ∃ q1, q1 = q + 1 := ⟨_, rfl⟩
            rw [← hq1] at hgen2
            have HGEN2 := hid hgen2
            clear hgen2
            obtain ⟨ox, hox, hit2⟩ : ∃ ox, (if c10 = q1 then (some ⟨b10, off10, none⟩ : Option Addr) else some ⟨b10, off10 + q1 * 3, none⟩) = some ⟨b10, ox, none⟩ ∧ ItemsAt W (some ⟨b10, ox, none⟩) (op.drop q1) := by
              by_cases hcq : c10 = q1
              · exact ⟨off10, if_pos hcq, fun h0 => by simp at h0; omega⟩
              · exact ⟨off10 + q1 * 3, if_neg hcq, items_drop hit q1⟩
            have HIT2 := hid hit2
            clear hit2
            have hw : IntKind.i64.wrap (q1 : Int) = (q1 : Int) := IntWalk.i64_in _ (by omega)
            have hw1 : (q : Int) + 1 = (q1 : Int) := by omega
            have hw2 : (0 : Int) ≤ (q1 : Int) := by omega
            have hw3 : (q1 : Int) ≤ (op.length : Int) := by omega
            have hw4 : q1 ≤ op.length := by omega
            have hqa : q + 1 ≤ q1 := by omega
            have hqb : q1 ≤ q + 1 := by omega
            clear hq1
            have hbW := HKEY.out.2.2.2.2.2
            have hl1 : (q : Int) ≤ (op.length : Int) := by omega
            have hl4 : (q : Int) ≤ (c10 : Int) := by omega
            have hl5 : (op.length : Int) ≤ (c10 : Int) := by omega
            haveI : LtW b10 W := LtW.of (by have := hu6.size; omega)
            clear hkey hW hb5 f0 f1 f2 g0 g1 g2 p0 p1 p2 hit hu6
            go_wp2_with fail
            refine wp_region_any (by kernel_rfl) ?_
            try (change wpAny _ _ _ _ _ _ _ (World.drew _))
            refine rg_norm2 (l' := #[false, false, false, false, false, false, false, false, false, false]) (by kernel_rfl) ?_
            refine wpAny_take (i := 0) (v := ?_) rfl (by kernel_rfl) (by kernel_rfl) (by kernel_rfl) (fun _ _ _ h => h) (Or.inl ⟨by rfl, ?_⟩) ?_
            rotate_left 1
            · (intro W9; go_simp; try with_reducible rfl)
            try go_simp
            refine rg_norm2 (l' := #[true, false, false, false, false, false, false, false, false, false]) (by kernel_rfl) ?_
            refine wpAny_take (i := 1) (v := ?_) rfl (by kernel_rfl) (by kernel_rfl) (by kernel_rfl) (fun _ _ _ h => h) (Or.inl ⟨by rfl, ?_⟩) ?_
            rotate_left 1
            · (intro W9; go_simp; try with_reducible rfl)
            try go_simp
            refine rg_norm2 (l' := #[true, true, false, false, false, false, false, false, false, false]) (by kernel_rfl) ?_
            refine wpAny_take (i := 2) (v := ?_) rfl (by kernel_rfl) (by kernel_rfl) (by kernel_rfl) (fun _ _ _ h => h) (Or.inl ⟨by rfl, ?_⟩) ?_
            rotate_left 1
            · (intro W9; go_simp; try with_reducible rfl)
            try go_simp
            refine rg_norm2 (l' := #[true, true, true, false, false, false, false, false, false, false]) (by kernel_rfl) ?_
            refine wpAny_take (i := 4) (v := ?_) rfl (by kernel_rfl) (by kernel_rfl) (by kernel_rfl) (fun _ _ _ h => h) (Or.inl ⟨by rfl, ?_⟩) ?_
            rotate_left 1
            · (intro W9; go_simp; try with_reducible rfl)
            try go_simp
            refine rg_norm2 (l' := #[true, true, true, false, true, false, false, false, false, false]) (by kernel_rfl) ?_
            refine wpAny_take (i := 5) (v := ?_) rfl (by kernel_rfl) (by kernel_rfl) (by kernel_rfl) (fun _ _ _ h => h) (Or.inl ⟨by rfl, ?_⟩) ?_
            rotate_left 1
            · (intro W9; go_simp; try with_reducible rfl)
            try go_simp
            refine rg_norm2 (l' := #[true, true, true, false, true, true, false, false, false, false]) (by kernel_rfl) ?_
            refine wpAny_take (i := 6) (v := ?_) rfl (by kernel_rfl) (by kernel_rfl) (by kernel_rfl) (fun _ _ _ h => h) (Or.inl ⟨by rfl, ?_⟩) ?_
            rotate_left 1
            · (intro W9; go_simp; try with_reducible rfl)
            try go_simp
            refine rg_norm2 (l' := #[true, true, true, false, true, true, true, false, false, false]) (by kernel_rfl) ?_
            refine wpAny_take (i := 7) (v := ?_) rfl (by kernel_rfl) (by kernel_rfl) (by kernel_rfl) (fun _ _ _ h => h) (Or.inl ⟨by rfl, ?_⟩) ?_
            rotate_left 1
            · (intro W9; go_simp; try with_reducible rfl)
            try go_simp
            refine rg_norm2 (l' := #[true, true, true, false, true, true, true, true, false, false]) (by kernel_rfl) ?_
            refine wpAny_ready (rs := [3]) (by kernel_rfl) (by simp) ?_
            refine AllReady.cons (o := ⟨some 96, _, _, _, _, _⟩) rfl (fun K hK => ?_) AllReady.nil
            refine step_append_items (o := ⟨some 96, _, _, _, _, _⟩) rfl _ _ rfl W.heap.size (.slice none 0 0) 0 [] rfl (World.ownsRow_nil _ _ _ _) ⟨b10, off10, none⟩ q c10 (op.take q) rfl (HIT1.out.und (Und.refl W).drew) (by simp; omega) (by omega) (by exact Nat.le_refl _) ?_
            intro v96 w8 ho8 hg8
            have hu8 : Und W w8 := ((Und.refl W).drew).grown hg8 (fun g e => by cases e)
            have HO8 := hid (show w8.ownsRow W.heap.size 57 3 v96 q (cellsIt (op.take q)) by simpa using ho8)
            have HU8 := hid hu8
            clear ho8 hg8 hu8
            try go_simp
            refine hK _ _ ?_
            clear hK K
            refine rg_norm2 (l' := #[true, true, true, true, true, true, true, true, false, false]) (by kernel_rfl) ?_
            refine wpAny_ready (rs := [8]) (by kernel_rfl) (by simp) ?_
            refine AllReady.cons (o := ⟨some 101, _, _, _, _, _⟩) rfl (fun K hK => ?_) AllReady.nil
            refine step_append_items (o := ⟨some 101, _, _, _, _, _⟩) rfl _ _ rfl W.heap.size v96 q (op.take q) rfl HO8.out ⟨b10, ox, none⟩ (op.length - q1) (c10 - q1) (op.drop q1) ?_ (HIT2.out.und HU8.out) (by simp) (by omega) HU8.out.size ?_
            · first | rfl | (go_simp; try rfl)
            intro v101 w9 ho9 hg9
            have hu9 : Und W w9 := HU8.out.grown hg9 (fun x e => owns_block HO8.out x e)
            have HO9 := hid ho9
            have HU9 := hid hu9
            clear ho9 hg9 hu9
            try go_simp
            refine hK _ _ ?_
            clear hK K
            refine rg_norm2 (l' := #[true, true, true, true, true, true, true, true, true, false]) (by kernel_rfl) ?_
            refine wpAny_take (i := 9) (v := ?_) rfl (by kernel_rfl) (by kernel_rfl) (by kernel_rfl) (fun _ _ _ h => h) (Or.inl ⟨by rfl, ?_⟩) ?_
            rotate_left 1
            · (intro W9; go_simp; try with_reducible rfl)
            try go_simp
            refine rg_norm2 (l' := #[true, true, true, true, true, true, true, true, true, true]) (by kernel_rfl) ?_
            refine wpAny_done (by kernel_rfl) ?_ _
            have hop2 : (op.take q ++ op.drop q1).length = op.length - 1 := by simp; omega
            have hop3 : q + (op.length - q1) = op.length - 1 := by omega
            have ho10 : w9.ownsRow W.heap.size 57 3 v101 (op.take q ++ op.drop q1).length (cellsIt (op.take q ++ op.drop q1)) := by
              have := HO9.out
              rw [hop3] at this
              rw [hop2]; exact this
            obtain ⟨Av, cv, rfl, _, _, _⟩ := own_slice' ho10
            have hb9 := (HU9.out.below.block w3.heap.size (lt_of_heap hbW)).trans hbW
            have c0 : w9.cell? ⟨w3.heap.size, 0, none⟩ = some (.int .i64 3) := Lib.cell_of_heap hb9 0
            have c1 : w9.cell? ⟨w3.heap.size, 1, none⟩ = some (.string ⟨(St.nameOf yt).toArray⟩) := Lib.cell_of_heap hb9 1
            have c2 : w9.cell? ⟨w3.heap.size, 2, none⟩ = some (.int .i64 yi) := Lib.cell_of_heap hb9 2
            haveI : LtW w3.heap.size w9 := LtW.of (lt_of_heap hb9)
            have h9s := HU9.out.size
            have HO10 := hid ho10
            clear ho10 hb9 HO9
            go_wp2_with fail
            refine (HCAT.out _ _ (3, St.nameOf yt, yi) ?_ ?_ ?_).mono ?_
            · exact ((items_own HKEY.out.1 rfl).und HU9.out).und ((Und.refl _).alloc _)
            · exact items_boxi _ _ _ _ _ (by simp) (by rw [World.cell?_alloc_at _ _ _ _ (by simp)]; rfl) (by rw [World.cell?_alloc_at _ _ _ _ (by simp)]; rfl) (by rw [World.cell?_alloc_at _ _ _ _ (by simp)]; rfl)
            · rw [tot_snoc]; simp; omega
            rintro e w7 ⟨v7, rfl, ho7, hu7⟩
            have hrel := FIN.out (3, St.nameOf yt, yi) v7 _ _ w7 (op.take q ++ op.drop q1) c _ rfl HGEN2.out (by show (St.nameOf yt).length ≤ 18; omega) (by omega) (by omega) ho7 ((own_low HO10.out (by omega)).alloc _) hu7 (by simp; omega) (((HKEY.out.2.2.1.und HU9.out).und ((Und.refl _).alloc _)).und hu7) (gb_und (gb_und HKEY.out.2.2.2.1 HU9.out) (((Und.refl _).alloc _).trans hu7))
            have HREL := hid hrel
            clear hrel ho7 hu7
            go_wp2
            exact ⟨by have h := HREL.out; rw [hop2] at h; exact h, by simp [intOf]; omega⟩
      · subst h
        clear hr8 hb4
        go_wp2_with fail
        refine (HCAT.out _ _ (1, t.data.toList, 0) ?_ ?_ ?_).mono ?_
        · exact (items_own HO4.out rfl).und ((Und.refl _).alloc _)
        · rw [← ba_eta t]; exact items_box _ _ _ _ (by simp) (by simp) (by simp) (by simp)
        · rw [tot_snoc]; simp; omega
        rintro e w7 ⟨v7, rfl, ho7, hu7⟩
        have hrel := FIN.out (1, t.data.toList, 0) v7 _ _ w7 op c _ rfl (HGN.out.text _) (by simp; omega) (by omega) (by omega) ho7 (HP4.out.alloc _) hu7 (by have := HK4.out.size; simp at this ⊢; omega) (((HG4.out.und ((Und.refl _).alloc _)).und hu7).le (by omega)) (gb_und HK4.out (((Und.refl _).alloc _).trans hu7))
        have HREL := hid hrel
        clear hrel ho7 hu7 d0 d1 d2
        go_wp2
        exact ⟨HREL.out, by simp [intOf]; omega⟩
    · have z : ¬ (0 : Int) < (i : Int) := by omega
      have z0 : i = 0 := by omega
      subst z0
      obtain ⟨A9, c9, rfl, _, _, _⟩ := own_slice' HO.out
      obtain ⟨A10, c10, rfl, _, _, _⟩ := own_slice' HP.out
      by_cases hop : op.length = 0
      · have y1 : ¬ (0 : Int) ≤ (op.length : Int) - 1 := by omega
        have hop2 : op.length ≤ 0 := by omega
        clear hop
        go_wp2_with fail
        refine wp_loop_rounds 1 ?_
        rw [rounds_succ]
        go_wp2
        go_ret
        exact ⟨_, f, op, c, rfl, HO.out, HGN.out, by omega, by omega, HG.out.le (by omega), HK.out⟩
      · have y1 : (0 : Int) ≤ (op.length : Int) - 1 := by omega
        go_wp2_with fail
        refine wp_loop_rounds 1 ?_
        rw [rounds_succ]
        go_wp2
        go_ret
        exact ⟨_, f, op, c, rfl, HO.out, HGN.out, by omega, by omega, HG.out.le (by omega), HK.out⟩
end Go.Proofs.YtiifjfbfkhhpeaaDoor

namespace Go.Proofs.YtiifjfbfkhhpeaaDoor
open Go.RowKit

theorem rgH_norm2 {P : Program} {md : Region.Mode} {ops : Array Oper} {Q : Exit → Act → World → Prop} {S : World → Prop} {fuel : Nat} {l l' : Array Bool} {a : Act} {w : World} (h : l = l') (hw : wpAnyH P md ops Q S fuel l' a w) : wpAnyH P md ops Q S fuel l a w := by subst h; exact hw
theorem step_append_items2 {ops : Array Oper} {o : Oper} {a : Act} {w : World} {K : Act → World → Prop} {Q : Exit → Act → World → Prop} {E : Prop} (hgd : o.guard = none) (s x : Operand)
    (ho : o.op = .call { callee := .builtin .append, args := #[s, x], argTypes := #[24, 24] })
    (base : Nat) (v : Value) (n : Nat) (O : List St.It) (hs : a.eval s = v) (hown : w.ownsRow base 57 3 v n (cellsIt O))
    (ad : Addr) (m c : Nat) (f : List St.It) (hx : a.eval x = .slice (some ad) m c) (hI : ItemsAt w (some ad) f) (hm : f.length = m) (h63 : n + m ≤ 200000) (hbase : base ≤ w.heap.size)
    (h : ∀ v' w', w'.ownsRow base 57 3 v' (n + m) (cellsIt (O ++ f)) → w.grownBy w' v.ownBlock → Fresh w v v' → K (a.put o.dst v') w') : if Region.wanted o (yielded ops a.tmps) = true then Oper.wp Tryd.prog o a w K Q else E := by
  obtain ⟨i0, hi, hz0, hz1, hz2⟩ := info_parts info_item
  refine step_append_own2 hgd s x 24 ho base 57 i0 (.agg #[.int .i64 0, .string ⟨#[]⟩, .int .i64 0]) 3 32 Tryd.underlying24 hi hz0 hz1 hz2 rfl (by decide) v n _ hs hown ad m c (cellsIt f) hx (by rw [cells_len, hm]) hI.cells (cellsIt_one f) (by unfold maxLen; omega) (by omega) hbase ?_
  intro v' w' ho' hg hf
  exact h v' w' (by rw [cellsIt_append]; exact ho') hg hf
theorem genT_pop {f op : List St.It} {c q : Nat} (h : St.GenT true f (op.take (q + 1)) c) (hq : q < op.length) : St.GenT true (f ++ [(3, St.nameOf op[q].2.1, op[q].2.2)]) (op.take q) c := by
  have hl : (op.take (q + 1)).length = q + 1 := by simp; omega
  have := St.GenT.closed (ns := true) q (by omega) (fun _ => hl.symm) h
  rw [St.addI_tag (show (3 : Int) ≠ 1 by decide)] at this
  have e1 : (op.take (q + 1))[q]'(by omega) = op[q] := by simp
  have e2 : (op.take (q + 1)).take q ++ (op.take (q + 1)).drop (q + 1) = op.take q := by
    rw [List.drop_of_length_le (by omega), List.append_nil, List.take_take]
    congr 1; omega
  rw [e1, e2] at this
  exact this
def FnRel (w : World) (B g P n : Nat) (op : List St.It) (v10 : Value) (c : Nat) (s9 s15 : Value) (wr : World) : Prop := ∃ (j : Nat) (z : Int) (f : List St.It), s15 = .int .i64 z ∧ z = (j : Int) - 1 ∧ j ≤ op.length ∧ wr.ownsRow w.heap.size 57 3 s9 f.length (cellsIt f) ∧ wr.ownsRow w.heap.size 57 3 v10 op.length (cellsIt op) ∧ (s9.ownBlock = none ∨ s9.ownBlock ≠ v10.ownBlock) ∧ St.GenT true f (op.take j) c ∧ f.length + j ≤ 2 * n ∧ tot f + 5 * j ≤ 23 * n ∧ GenP wr B g (P + 1 + 9 * n) ∧ w.grownBy wr (some g)
def FragNEnd (w : World) (B g P n : Nat) (e : Ending) (w' : World) : Prop := ∃ (v : Value) (f : List St.It) (c : Nat), e = .returned v ∧ w'.ownsRow w.heap.size 57 3 v f.length (cellsIt f) ∧ St.GenT true f [] c ∧ f.length ≤ 2 * n ∧ tot f ≤ 23 * n ∧ c ≤ n ∧ GenP w' B g (P + 1 + 9 * n) ∧ w.grownBy w' (some g)

set_option maxRecDepth 20000 in
set_option maxHeartbeats 12800000 in
theorem fragn_gen (B g P n : Nat) (w : World) (hG : GenP w B g P) (hP : P ≤ 100000) (hn : n ≤ 100) :
    Calls Tryd.prog 26 #[.pointer (some ⟨g, 0, none⟩), .int .i64 n, .bool true, .bool true] w (FragNEnd w B g P n) := by
  have HG := hid hG
  obtain ⟨hgB, hB⟩ := hG.lt
  obtain ⟨i0, hi, hz0, hz1, hz2⟩ := info_parts info_item
  clear hG
  go_enter Tryd.func26, Tryd.ntmps26
  go_wp2_with fail
  refine (next_gen B g P ((n : Int) + 1) _ HG.out (by omega) (by omega) (by omega)).mono ?_
  rintro e w2 ⟨r, rfl, hr, hG2, hk⟩
  have HG2 := hid hG2
  have HK2 := hid hk
  clear hG2 hk HG
  go_wp2_with fail
  go_loopw [9, 10, 11, 12] (fun s9 s10 s11 s12 wr => FtRel w B g P n true s9 s10 s11 s12 wr) (fun _ _ _ s12 _ => (intOf s12).toNat)
  case atStart => exact ⟨r, 0, 0, [], [], rfl, rfl, by omega, World.ownsRow_nil _ _ _ _, World.ownsRow_nil _ _ _ _, .inl rfl, .nil, by simp, by simp, by omega, by simp [tot], HG2.out, HK2.out⟩
  case round =>
    clear HG2 HK2 hr
    obtain ⟨i, k, c, f, op, rfl, rfl, hki, hown, hownp, hdis, hgen, hfl, hol, hck, hft, hG, hk⟩ := hrel
    have HG := hid hG
    have HK := hid hk
    have HO := hid hown
    have HP := hid hownp
    have HD := hid hdis
    have HGN := hid hgen
    clear hG hk hown hownp hdis hgen
    by_cases hi9 : 0 < i
    · have z : (0 : Int) < (i : Int) := by omega
      obtain ⟨wo, rfl⟩ : ∃ wo : World, wo = wr := ⟨_, rfl⟩
      go_wp2_with fail
      refine (line_gen B g _ 3 _ HG.out (by omega) (by omega)).mono ?_
      rintro e w3 ⟨t, rfl, hts, hG3, hk3⟩
      have HG3 := hid hG3
      have HK3 := hid (gb_trans HK.out hk3 (fun _ e => .inl e))
      have HO3 := hid (own_gb HO.out hk3 (by omega))
      have HP3 := hid (own_gb HP.out hk3 (by omega))
      clear hG3 hk3 HG HK HO HP
      have hsz3 := HK3.out.size
      obtain ⟨A9, c9, rfl, _, _, hA9⟩ := own_slice' HO3.out
      obtain ⟨A10, c10, rfl, h10c, h10m, hA10⟩ := own_slice' HP3.out
      have hlt3 : ∀ x, (Value.slice A9 f.length c9).ownBlock = some x → x < w3.heap.size := fun x hx => (HO3.out.lt x hx).2
      have hlt3p : ∀ x, (Value.slice A10 op.length c10).ownBlock = some x → x < w3.heap.size := fun x hx => (HP3.out.lt x hx).2
      have hcat : ∀ (W : World) (b : Nat) (x : St.It), ItemsAt W A9 f → ItemsAt W (some ⟨b, 0, none⟩) [x] → tot (f ++ [x]) ≤ 4611686018427387904 → Calls Tryd.prog 40 #[.slice A9 f.length c9, .slice (some ⟨b, 0, none⟩) 1 1] W fun e w' => ∃ v, e = .returned v ∧ w'.ownsRow W.heap.size 57 3 v (St.addI f x).length (cellsIt (St.addI f x)) ∧ Und W w' := by
        intro W b x h h' ht
        have := concat_any A9 f.length c9 f (some ⟨b, 0, none⟩) 1 1 [x] W rfl rfl (fun e => by have := hA9 e; omega) (fun e => by cases e) h h' (by omega) ht
        rw [St.normL_snoc, HGN.out.nm] at this
        exact this
      have HCAT := hid hcat
      clear hcat
      have fin : ∀ (x : St.It) (v7 v10 : Value) (w6 w7 : World) (op' : List St.It) (c' : Nat) (s11 : Value), s11 = .int .i64 (c' : Nat) → St.GenT true (St.addI f x) op' c' → x.2.1.length ≤ 18 → op'.length ≤ op.length + 1 → c' ≤ c + 1 → w7.ownsRow w6.heap.size 57 3 v7 (St.addI f x).length (cellsIt (St.addI f x)) → w6.ownsRow w.heap.size 57 3 v10 op'.length (cellsIt op') → Und w6 w7 → w.heap.size ≤ w6.heap.size → GenP w7 B g (P + 1 + 9 * (k + 1)) → w.grownBy w7 (some g) → FtRel w B g P n true v7 v10 s11 (.int .i64 ((i : Int) - 1)) w7 := by
        intro x v7 v10 w6 w7 op' c' s11 hs11 hg hx ho' hc' ho7 ho10 hu7 hwz hG hk
        have h1 := (St.addI_len f x).1
        have h2 := tot_add f x
        exact ⟨i - 1, k + 1, c', St.addI f x, op', congrArg (Value.int .i64) (by omega), hs11, by omega, own_low ho7 hwz, own_und hu7 ho10, dis_of ho7 ho10 (Nat.le_refl _), hg, by omega, by omega, by omega, by omega, hG, hk⟩
      have FIN := hid fin
      clear fin
      have hgs : g < w3.heap.size := by omega
      go_wp2_with fail
      refine (next_gen B g _ 8 _ (HG3.out.und ((Und.refl _).alloc _)) (by omega) (by omega) (by omega)).mono ?_
      rintro e w4 ⟨r, rfl, hr, hG4, hk4⟩
      have HG4 := hid hG4
      have HK4 := hid (gb_trans (gb_und HK3.out ((Und.refl _).alloc (.cells #[.int .i64 1, .string t, .int .i64 0] 57))) hk4 (fun _ e => .inl e))
      have HO4 := hid (own_gb (HO3.out.alloc (.cells #[.int .i64 1, .string t, .int .i64 0] 57)) hk4 (by omega))
      have HP4 := hid (own_gb (HP3.out.alloc (.cells #[.int .i64 1, .string t, .int .i64 0] 57)) hk4 (by omega))
      have hb4 : w4.heap[w3.heap.size]? = some (Obj.cells #[.int .i64 1, .string t, .int .i64 0] 57 (0, 0)) := (hk4.block w3.heap.size (by simp) (by simp; omega)).trans (heap_alloc_new w3 _)
      have hsz4 : w3.heap.size < w4.heap.size := lt_of_heap hb4
      have d0 : w4.cell? ⟨w3.heap.size, 0, none⟩ = some (.int .i64 1) := Lib.cell_of_heap hb4 0
      have d1 : w4.cell? ⟨w3.heap.size, 1, none⟩ = some (.string t) := Lib.cell_of_heap hb4 1
      have d2 : w4.cell? ⟨w3.heap.size, 2, none⟩ = some (.int .i64 0) := Lib.cell_of_heap hb4 2
      haveI : LtW w3.heap.size w4 := LtW.of hsz4
      have hr8 : r < 8 := by omega
      clear hG4 hk4 HG3 HK3 HO3 HP3 hr
      rcases (show r = 0 ∨ r = 1 ∨ r = 2 ∨ r = 3 ∨ r = 4 ∨ r = 5 ∨ r = 6 ∨ r = 7 by omega) with h | h | h | h | h | h | h | h
      · subst h
        clear hr8 d0 d1 d2
        go_wp2_with fail
        refine (next_gen B g _ 3 _ (HG4.out.und ((Und.refl _).alloc (.cells #[.string ⟨#[110]⟩, .string ⟨#[110, 97, 109, 101]⟩, .string ⟨#[120, 49]⟩] 9))) (by omega) (by omega) (by omega)).mono ?_
        rintro e w5 ⟨q, rfl, hq, hG5, hk5⟩
        obtain ⟨u, hu, hus, hun⟩ : ∃ u : ByteArray, (#[.string ⟨#[110]⟩, .string ⟨#[110, 97, 109, 101]⟩, .string ⟨#[120, 49]⟩] : Array Value)[q]? = some (.string u) ∧ u.size ≤ 5 ∧ St.isNameL u.data.toList = true := by
          rcases (show q = 0 ∨ q = 1 ∨ q = 2 by omega) with h | h | h <;> subst h <;> exact ⟨_, rfl, by decide, by decide⟩
        have hcell := lit_cell w4 w5 _ _ B g hk5 hgB (by omega) q _ hu
        have HG5 := hid hG5
        have HK5 := hid (gb_trans (gb_und HK4.out ((Und.refl _).alloc (.cells #[.string ⟨#[110]⟩, .string ⟨#[110, 97, 109, 101]⟩, .string ⟨#[120, 49]⟩] 9))) hk5 (fun _ e => .inl e))
        have HO5 := hid (own_gb (HO4.out.alloc (.cells #[.string ⟨#[110]⟩, .string ⟨#[110, 97, 109, 101]⟩, .string ⟨#[120, 49]⟩] 9)) hk5 (by omega))
        have HP5 := hid (own_gb (HP4.out.alloc (.cells #[.string ⟨#[110]⟩, .string ⟨#[110, 97, 109, 101]⟩, .string ⟨#[120, 49]⟩] 9)) hk5 (by omega))
        have hb5 : w5.heap[w3.heap.size]? = some (Obj.cells #[.int .i64 1, .string t, .int .i64 0] 57 (0, 0)) := (hk5.block w3.heap.size (by simp; omega) (by simp; omega)).trans ((((Und.refl w4).alloc _).below.block w3.heap.size hsz4).trans hb4)
        haveI : LtW w4.heap.size w5 := LtW.of (World.block_lt_of_cell? _ _ hcell)
        have hq3 : q < 3 := by omega
        have f0 : w5.frozen? ⟨w3.heap.size, 0, none⟩ = false := Lib.frozen_of_heap hb5 0
        have f1 : w5.frozen? ⟨w3.heap.size, 1, none⟩ = false := Lib.frozen_of_heap hb5 1
        have f2 : w5.frozen? ⟨w3.heap.size, 2, none⟩ = false := Lib.frozen_of_heap hb5 2
        have g0 : w5.cell? ⟨w3.heap.size, 0, none⟩ = some (.int .i64 1) := Lib.cell_of_heap hb5 0
        have g1 : w5.cell? ⟨w3.heap.size, 1, none⟩ = some (.string t) := Lib.cell_of_heap hb5 1
        have g2 : w5.cell? ⟨w3.heap.size, 2, none⟩ = some (.int .i64 0) := Lib.cell_of_heap hb5 2
        haveI : LtW w3.heap.size w5 := LtW.of (lt_of_heap hb5)
        have hob : (Value.slice A9 f.length c9).ownBlock ≠ some w3.heap.size := fun e => by have := hlt3 _ e; omega
        have hobp : (Value.slice A10 op.length c10).ownBlock ≠ some w3.heap.size := fun e => by have := hlt3p _ e; omega
        have hkey : ∀ W, W = ((w5.setCell ⟨w3.heap.size, 0, none⟩ (.int .i64 5)).setCell ⟨w3.heap.size, 1, none⟩ (.string u)).setCell ⟨w3.heap.size, 2, none⟩ (.int .i64 0) → W.ownsRow w.heap.size 57 3 (.slice A9 f.length c9) f.length (cellsIt f) ∧ W.ownsRow w.heap.size 57 3 (.slice A10 op.length c10) op.length (cellsIt op) ∧ GenP W B g (P + 1 + 9 * (k + 1)) ∧ w.grownBy W (some g) ∧ W.heap.size = w5.heap.size ∧ W.heap[w3.heap.size]? = some (Obj.cells #[.int .i64 5, .string u, .int .i64 0] 57 (0, 0)) := by
          intro W hW
          subst hW
          have hBb : ∀ x, some w3.heap.size = some x → B ≤ x := fun x e => by cases e; omega
          refine ⟨own_set (own_set (own_set HO5.out hob) hob) hob, own_set (own_set (own_set HP5.out hobp) hobp) hobp, ?_, gb_setCell (gb_setCell (gb_setCell HK5.out _ _ (.inr (by show w.heap.size ≤ w3.heap.size; omega))) _ _ (.inr (by show w.heap.size ≤ w3.heap.size; omega))) _ _ (.inr (by show w.heap.size ≤ w3.heap.size; omega)), by simp, heap_setCell_same _ w3.heap.size 2 _ _ _ (heap_setCell_same _ w3.heap.size 1 _ _ _ (heap_setCell_same w5 w3.heap.size 0 _ _ _ hb5))⟩
          exact (((HG5.out.gb (gb_set w5 ⟨w3.heap.size, 0, none⟩ _) hBb).gb (gb_set _ ⟨w3.heap.size, 1, none⟩ _) hBb).gb (gb_set _ ⟨w3.heap.size, 2, none⟩ _) hBb).le (by omega)
        have HKEY := hid (hkey _ rfl)
        have hne5 := HKEY.out.2.2.1.lt.2
        clear hG5 hk5 HG4 HK4 HO4 HP4 hkey hu hq
        go_wp2_with fail
        refine (HCAT.out _ _ (5, u.data.toList, 0) ?_ ?_ ?_).mono ?_
        · exact (items_own HKEY.out.1 rfl).und ((Und.refl _).alloc _)
        · rw [← ba_eta u]; exact items_box _ _ _ _ (by simp) (by rw [World.cell?_alloc_at _ _ _ _ (by simp)]; rfl) (by rw [World.cell?_alloc_at _ _ _ _ (by simp)]; rfl) (by rw [World.cell?_alloc_at _ _ _ _ (by simp)]; rfl)
        · rw [tot_snoc]; simp; omega
        rintro e w7 ⟨v7, rfl, ho7, hu7⟩
        have hrel := FIN.out (5, u.data.toList, 0) v7 _ _ w7 op c _ rfl (HGN.out.slot _ hun) (by simp; omega) (by omega) (by omega) ho7 (HKEY.out.2.1.alloc _) hu7 (by have := HKEY.out.2.2.2.1.size; simp at this ⊢; omega) ((HKEY.out.2.2.1.und ((Und.refl _).alloc _)).und hu7) (gb_und HKEY.out.2.2.2.1 (((Und.refl _).alloc _).trans hu7))
        have HREL := hid hrel
        clear hrel ho7 hu7 hcell
        go_wp2
        exact ⟨HREL.out, by simp [intOf]; omega⟩
      · subst h
        clear hr8 d0 d1 d2
        go_wp2_with fail
        refine (next_gen B g _ 3 _ (HG4.out.und ((Und.refl _).alloc (.cells #[.string ⟨#[110]⟩, .string ⟨#[110, 97, 109, 101]⟩, .string ⟨#[120, 49]⟩] 9))) (by omega) (by omega) (by omega)).mono ?_
        rintro e w5 ⟨q, rfl, hq, hG5, hk5⟩
        obtain ⟨u, hu, hus, hun⟩ : ∃ u : ByteArray, (#[.string ⟨#[110]⟩, .string ⟨#[110, 97, 109, 101]⟩, .string ⟨#[120, 49]⟩] : Array Value)[q]? = some (.string u) ∧ u.size ≤ 5 ∧ St.isNameL u.data.toList = true := by
          rcases (show q = 0 ∨ q = 1 ∨ q = 2 by omega) with h | h | h <;> subst h <;> exact ⟨_, rfl, by decide, by decide⟩
        have hcell := lit_cell w4 w5 _ _ B g hk5 hgB (by omega) q _ hu
        have HG5 := hid hG5
        have HK5 := hid (gb_trans (gb_und HK4.out ((Und.refl _).alloc (.cells #[.string ⟨#[110]⟩, .string ⟨#[110, 97, 109, 101]⟩, .string ⟨#[120, 49]⟩] 9))) hk5 (fun _ e => .inl e))
        have HO5 := hid (own_gb (HO4.out.alloc (.cells #[.string ⟨#[110]⟩, .string ⟨#[110, 97, 109, 101]⟩, .string ⟨#[120, 49]⟩] 9)) hk5 (by omega))
        have HP5 := hid (own_gb (HP4.out.alloc (.cells #[.string ⟨#[110]⟩, .string ⟨#[110, 97, 109, 101]⟩, .string ⟨#[120, 49]⟩] 9)) hk5 (by omega))
        have hb5 : w5.heap[w3.heap.size]? = some (Obj.cells #[.int .i64 1, .string t, .int .i64 0] 57 (0, 0)) := (hk5.block w3.heap.size (by simp; omega) (by simp; omega)).trans ((((Und.refl w4).alloc _).below.block w3.heap.size hsz4).trans hb4)
        haveI : LtW w4.heap.size w5 := LtW.of (World.block_lt_of_cell? _ _ hcell)
        have hq3 : q < 3 := by omega
        have f0 : w5.frozen? ⟨w3.heap.size, 0, none⟩ = false := Lib.frozen_of_heap hb5 0
        have f1 : w5.frozen? ⟨w3.heap.size, 1, none⟩ = false := Lib.frozen_of_heap hb5 1
        have f2 : w5.frozen? ⟨w3.heap.size, 2, none⟩ = false := Lib.frozen_of_heap hb5 2
        have g0 : w5.cell? ⟨w3.heap.size, 0, none⟩ = some (.int .i64 1) := Lib.cell_of_heap hb5 0
        have g1 : w5.cell? ⟨w3.heap.size, 1, none⟩ = some (.string t) := Lib.cell_of_heap hb5 1
        have g2 : w5.cell? ⟨w3.heap.size, 2, none⟩ = some (.int .i64 0) := Lib.cell_of_heap hb5 2
        haveI : LtW w3.heap.size w5 := LtW.of (lt_of_heap hb5)
        have hob : (Value.slice A9 f.length c9).ownBlock ≠ some w3.heap.size := fun e => by have := hlt3 _ e; omega
        have hobp : (Value.slice A10 op.length c10).ownBlock ≠ some w3.heap.size := fun e => by have := hlt3p _ e; omega
        have hkey : ∀ W, W = ((w5.setCell ⟨w3.heap.size, 0, none⟩ (.int .i64 5)).setCell ⟨w3.heap.size, 1, none⟩ (.string u)).setCell ⟨w3.heap.size, 2, none⟩ (.int .i64 0) → W.ownsRow w.heap.size 57 3 (.slice A9 f.length c9) f.length (cellsIt f) ∧ W.ownsRow w.heap.size 57 3 (.slice A10 op.length c10) op.length (cellsIt op) ∧ GenP W B g (P + 1 + 9 * (k + 1)) ∧ w.grownBy W (some g) ∧ W.heap.size = w5.heap.size ∧ W.heap[w3.heap.size]? = some (Obj.cells #[.int .i64 5, .string u, .int .i64 0] 57 (0, 0)) := by
          intro W hW
          subst hW
          have hBb : ∀ x, some w3.heap.size = some x → B ≤ x := fun x e => by cases e; omega
          refine ⟨own_set (own_set (own_set HO5.out hob) hob) hob, own_set (own_set (own_set HP5.out hobp) hobp) hobp, ?_, gb_setCell (gb_setCell (gb_setCell HK5.out _ _ (.inr (by show w.heap.size ≤ w3.heap.size; omega))) _ _ (.inr (by show w.heap.size ≤ w3.heap.size; omega))) _ _ (.inr (by show w.heap.size ≤ w3.heap.size; omega)), by simp, heap_setCell_same _ w3.heap.size 2 _ _ _ (heap_setCell_same _ w3.heap.size 1 _ _ _ (heap_setCell_same w5 w3.heap.size 0 _ _ _ hb5))⟩
          exact (((HG5.out.gb (gb_set w5 ⟨w3.heap.size, 0, none⟩ _) hBb).gb (gb_set _ ⟨w3.heap.size, 1, none⟩ _) hBb).gb (gb_set _ ⟨w3.heap.size, 2, none⟩ _) hBb).le (by omega)
        have HKEY := hid (hkey _ rfl)
        have hne5 := HKEY.out.2.2.1.lt.2
        clear hG5 hk5 HG4 HK4 HO4 HP4 hkey hu hq
        go_wp2_with fail
        refine (HCAT.out _ _ (5, u.data.toList, 0) ?_ ?_ ?_).mono ?_
        · exact (items_own HKEY.out.1 rfl).und ((Und.refl _).alloc _)
        · rw [← ba_eta u]; exact items_box _ _ _ _ (by simp) (by rw [World.cell?_alloc_at _ _ _ _ (by simp)]; rfl) (by rw [World.cell?_alloc_at _ _ _ _ (by simp)]; rfl) (by rw [World.cell?_alloc_at _ _ _ _ (by simp)]; rfl)
        · rw [tot_snoc]; simp; omega
        rintro e w7 ⟨v7, rfl, ho7, hu7⟩
        have hrel := FIN.out (5, u.data.toList, 0) v7 _ _ w7 op c _ rfl (HGN.out.slot _ hun) (by simp; omega) (by omega) (by omega) ho7 (HKEY.out.2.1.alloc _) hu7 (by have := HKEY.out.2.2.2.1.size; simp at this ⊢; omega) ((HKEY.out.2.2.1.und ((Und.refl _).alloc _)).und hu7) (gb_und HKEY.out.2.2.2.1 (((Und.refl _).alloc _).trans hu7))
        have HREL := hid hrel
        clear hrel ho7 hu7 hcell
        go_wp2
        exact ⟨HREL.out, by simp [intOf]; omega⟩
      · subst h
        clear hr8 d0 d1 d2
        go_wp2_with fail
        refine (next_gen B g _ 2 _ (HG4.out.und ((Und.refl _).alloc (.cells #[.string ⟨#[98, 114]⟩, .string ⟨#[105, 109, 103, 32, 97]⟩] 9))) (by omega) (by omega) (by omega)).mono ?_
        rintro e w5 ⟨q, rfl, hq, hG5, hk5⟩
        obtain ⟨u, hu, hus, hun⟩ : ∃ u : ByteArray, (#[.string ⟨#[98, 114]⟩, .string ⟨#[105, 109, 103, 32, 97]⟩] : Array Value)[q]? = some (.string u) ∧ u.size ≤ 5 ∧ u.data.toList ∈ St.tg4 := by
          rcases (show q = 0 ∨ q = 1 by omega) with h | h <;> subst h <;> exact ⟨_, rfl, by decide, by decide⟩
        have hcell := lit_cell w4 w5 _ _ B g hk5 hgB (by omega) q _ hu
        have HG5 := hid hG5
        have HK5 := hid (gb_trans (gb_und HK4.out ((Und.refl _).alloc (.cells #[.string ⟨#[98, 114]⟩, .string ⟨#[105, 109, 103, 32, 97]⟩] 9))) hk5 (fun _ e => .inl e))
        have HO5 := hid (own_gb (HO4.out.alloc (.cells #[.string ⟨#[98, 114]⟩, .string ⟨#[105, 109, 103, 32, 97]⟩] 9)) hk5 (by omega))
        have HP5 := hid (own_gb (HP4.out.alloc (.cells #[.string ⟨#[98, 114]⟩, .string ⟨#[105, 109, 103, 32, 97]⟩] 9)) hk5 (by omega))
        have hb5 : w5.heap[w3.heap.size]? = some (Obj.cells #[.int .i64 1, .string t, .int .i64 0] 57 (0, 0)) := (hk5.block w3.heap.size (by simp; omega) (by simp; omega)).trans ((((Und.refl w4).alloc _).below.block w3.heap.size hsz4).trans hb4)
        haveI : LtW w4.heap.size w5 := LtW.of (World.block_lt_of_cell? _ _ hcell)
        have hq3 : q < 2 := by omega
        have f0 : w5.frozen? ⟨w3.heap.size, 0, none⟩ = false := Lib.frozen_of_heap hb5 0
        have f1 : w5.frozen? ⟨w3.heap.size, 1, none⟩ = false := Lib.frozen_of_heap hb5 1
        have f2 : w5.frozen? ⟨w3.heap.size, 2, none⟩ = false := Lib.frozen_of_heap hb5 2
        have g0 : w5.cell? ⟨w3.heap.size, 0, none⟩ = some (.int .i64 1) := Lib.cell_of_heap hb5 0
        have g1 : w5.cell? ⟨w3.heap.size, 1, none⟩ = some (.string t) := Lib.cell_of_heap hb5 1
        have g2 : w5.cell? ⟨w3.heap.size, 2, none⟩ = some (.int .i64 0) := Lib.cell_of_heap hb5 2
        haveI : LtW w3.heap.size w5 := LtW.of (lt_of_heap hb5)
        have hob : (Value.slice A9 f.length c9).ownBlock ≠ some w3.heap.size := fun e => by have := hlt3 _ e; omega
        have hobp : (Value.slice A10 op.length c10).ownBlock ≠ some w3.heap.size := fun e => by have := hlt3p _ e; omega
        have hkey : ∀ W, W = ((w5.setCell ⟨w3.heap.size, 0, none⟩ (.int .i64 4)).setCell ⟨w3.heap.size, 1, none⟩ (.string u)).setCell ⟨w3.heap.size, 2, none⟩ (.int .i64 ((c : Int) + 1)) → W.ownsRow w.heap.size 57 3 (.slice A9 f.length c9) f.length (cellsIt f) ∧ W.ownsRow w.heap.size 57 3 (.slice A10 op.length c10) op.length (cellsIt op) ∧ GenP W B g (P + 1 + 9 * (k + 1)) ∧ w.grownBy W (some g) ∧ W.heap.size = w5.heap.size ∧ W.heap[w3.heap.size]? = some (Obj.cells #[.int .i64 4, .string u, .int .i64 ((c : Int) + 1)] 57 (0, 0)) := by
          intro W hW
          subst hW
          have hBb : ∀ x, some w3.heap.size = some x → B ≤ x := fun x e => by cases e; omega
          refine ⟨own_set (own_set (own_set HO5.out hob) hob) hob, own_set (own_set (own_set HP5.out hobp) hobp) hobp, ?_, gb_setCell (gb_setCell (gb_setCell HK5.out _ _ (.inr (by show w.heap.size ≤ w3.heap.size; omega))) _ _ (.inr (by show w.heap.size ≤ w3.heap.size; omega))) _ _ (.inr (by show w.heap.size ≤ w3.heap.size; omega)), by simp, heap_setCell_same _ w3.heap.size 2 _ _ _ (heap_setCell_same _ w3.heap.size 1 _ _ _ (heap_setCell_same w5 w3.heap.size 0 _ _ _ hb5))⟩
          exact (((HG5.out.gb (gb_set w5 ⟨w3.heap.size, 0, none⟩ _) hBb).gb (gb_set _ ⟨w3.heap.size, 1, none⟩ _) hBb).gb (gb_set _ ⟨w3.heap.size, 2, none⟩ _) hBb).le (by omega)
        have HKEY := hid (hkey _ rfl)
        have hne5 := HKEY.out.2.2.1.lt.2
        clear hG5 hk5 HG4 HK4 HO4 HP4 hkey hu hq
        go_wp2_with fail
        refine (HCAT.out _ _ (4, u.data.toList, (c : Int) + 1) ?_ ?_ ?_).mono ?_
        · exact (items_own HKEY.out.1 rfl).und ((Und.refl _).alloc _)
        · rw [← ba_eta u]; exact items_boxi _ _ _ _ _ (by simp) (by rw [World.cell?_alloc_at _ _ _ _ (by simp)]; rfl) (by rw [World.cell?_alloc_at _ _ _ _ (by simp)]; rfl) (by rw [World.cell?_alloc_at _ _ _ _ (by simp)]; rfl)
        · rw [tot_snoc]; simp; omega
        rintro e w7 ⟨v7, rfl, ho7, hu7⟩
        have hrel := FIN.out (4, u.data.toList, (c : Int) + 1) v7 _ _ w7 op (c + 1) (.int .i64 ((c : Int) + 1)) rfl (HGN.out.empty _ hun) (by simp; omega) (by omega) (by omega) ho7 (HKEY.out.2.1.alloc _) hu7 (by have := HKEY.out.2.2.2.1.size; simp at this ⊢; omega) ((HKEY.out.2.2.1.und ((Und.refl _).alloc _)).und hu7) (gb_und HKEY.out.2.2.2.1 (((Und.refl _).alloc _).trans hu7))
        have HREL := hid hrel
        clear hrel ho7 hu7 hcell
        go_wp2
        exact ⟨HREL.out, by simp [intOf]; omega⟩
      · subst h
        clear hr8 d0 d1 d2
        go_wp2_with fail
        refine (next_gen B g _ 3 _ (HG4.out.und ((Und.refl _).alloc (.cells #[.string ⟨#[98]⟩, .string ⟨#[105]⟩, .string ⟨#[97, 32, 104, 61, 49]⟩] 9))) (by omega) (by omega) (by omega)).mono ?_
        rintro e w5 ⟨q, rfl, hq, hG5, hk5⟩
        obtain ⟨u, hu, hus, hun⟩ : ∃ u : ByteArray, (#[.string ⟨#[98]⟩, .string ⟨#[105]⟩, .string ⟨#[97, 32, 104, 61, 49]⟩] : Array Value)[q]? = some (.string u) ∧ u.size ≤ 5 ∧ u.data.toList ∈ St.tg2 := by
          rcases (show q = 0 ∨ q = 1 ∨ q = 2 by omega) with h | h | h <;> subst h <;> exact ⟨_, rfl, by decide, by decide⟩
        have hcell := lit_cell w4 w5 _ _ B g hk5 hgB (by omega) q _ hu
        have HG5 := hid hG5
        have HK5 := hid (gb_trans (gb_und HK4.out ((Und.refl _).alloc (.cells #[.string ⟨#[98]⟩, .string ⟨#[105]⟩, .string ⟨#[97, 32, 104, 61, 49]⟩] 9))) hk5 (fun _ e => .inl e))
        have HO5 := hid (own_gb (HO4.out.alloc (.cells #[.string ⟨#[98]⟩, .string ⟨#[105]⟩, .string ⟨#[97, 32, 104, 61, 49]⟩] 9)) hk5 (by omega))
        have HP5 := hid (own_gb (HP4.out.alloc (.cells #[.string ⟨#[98]⟩, .string ⟨#[105]⟩, .string ⟨#[97, 32, 104, 61, 49]⟩] 9)) hk5 (by omega))
        have hb5 : w5.heap[w3.heap.size]? = some (Obj.cells #[.int .i64 1, .string t, .int .i64 0] 57 (0, 0)) := (hk5.block w3.heap.size (by simp; omega) (by simp; omega)).trans ((((Und.refl w4).alloc _).below.block w3.heap.size hsz4).trans hb4)
        haveI : LtW w4.heap.size w5 := LtW.of (World.block_lt_of_cell? _ _ hcell)
        have hq3 : q < 3 := by omega
        have f0 : w5.frozen? ⟨w3.heap.size, 0, none⟩ = false := Lib.frozen_of_heap hb5 0
        have f1 : w5.frozen? ⟨w3.heap.size, 1, none⟩ = false := Lib.frozen_of_heap hb5 1
        have f2 : w5.frozen? ⟨w3.heap.size, 2, none⟩ = false := Lib.frozen_of_heap hb5 2
        have g0 : w5.cell? ⟨w3.heap.size, 0, none⟩ = some (.int .i64 1) := Lib.cell_of_heap hb5 0
        have g1 : w5.cell? ⟨w3.heap.size, 1, none⟩ = some (.string t) := Lib.cell_of_heap hb5 1
        have g2 : w5.cell? ⟨w3.heap.size, 2, none⟩ = some (.int .i64 0) := Lib.cell_of_heap hb5 2
        haveI : LtW w3.heap.size w5 := LtW.of (lt_of_heap hb5)
        have hob : (Value.slice A9 f.length c9).ownBlock ≠ some w3.heap.size := fun e => by have := hlt3 _ e; omega
        have hobp : (Value.slice A10 op.length c10).ownBlock ≠ some w3.heap.size := fun e => by have := hlt3p _ e; omega
        have hkey : ∀ W, W = ((w5.setCell ⟨w3.heap.size, 0, none⟩ (.int .i64 2)).setCell ⟨w3.heap.size, 1, none⟩ (.string u)).setCell ⟨w3.heap.size, 2, none⟩ (.int .i64 ((c : Int) + 1)) → W.ownsRow w.heap.size 57 3 (.slice A9 f.length c9) f.length (cellsIt f) ∧ W.ownsRow w.heap.size 57 3 (.slice A10 op.length c10) op.length (cellsIt op) ∧ GenP W B g (P + 1 + 9 * (k + 1)) ∧ w.grownBy W (some g) ∧ W.heap.size = w5.heap.size ∧ W.heap[w3.heap.size]? = some (Obj.cells #[.int .i64 2, .string u, .int .i64 ((c : Int) + 1)] 57 (0, 0)) := by
          intro W hW
          subst hW
          have hBb : ∀ x, some w3.heap.size = some x → B ≤ x := fun x e => by cases e; omega
          refine ⟨own_set (own_set (own_set HO5.out hob) hob) hob, own_set (own_set (own_set HP5.out hobp) hobp) hobp, ?_, gb_setCell (gb_setCell (gb_setCell HK5.out _ _ (.inr (by show w.heap.size ≤ w3.heap.size; omega))) _ _ (.inr (by show w.heap.size ≤ w3.heap.size; omega))) _ _ (.inr (by show w.heap.size ≤ w3.heap.size; omega)), by simp, heap_setCell_same _ w3.heap.size 2 _ _ _ (heap_setCell_same _ w3.heap.size 1 _ _ _ (heap_setCell_same w5 w3.heap.size 0 _ _ _ hb5))⟩
          exact (((HG5.out.gb (gb_set w5 ⟨w3.heap.size, 0, none⟩ _) hBb).gb (gb_set _ ⟨w3.heap.size, 1, none⟩ _) hBb).gb (gb_set _ ⟨w3.heap.size, 2, none⟩ _) hBb).le (by omega)
        have HKEY := hid (hkey _ rfl)
        have hne5 := HKEY.out.2.2.1.lt.2
        clear hG5 hk5 HG4 HK4 HO4 HP4 hkey hu hq
        go_wp2_with (at_builtin; refine wpList_append_own _ rfl _ _ 24 rfl w.heap.size 57 i0 (.agg #[.int .i64 0, .string ⟨#[]⟩, .int .i64 0]) 3 32 Tryd.underlying24 hi hz0 hz1 hz2 rfl (by decide) (.slice A10 op.length c10) op.length _ rfl (HKEY.out.2.1.alloc _) _ 1 1 [.int .i64 2, .string u, .int .i64 ((c : Int) + 1)] rfl rfl ?_ (item_one _ _ _) (by unfold maxLen; omega) (by omega) ?_ ?_)
        · exact side3b _ _ _ _ _ _ (by simp)
        · have := HKEY.out.2.2.2.1.size; simp at this ⊢; omega
        intro v' w6 hown' hgrow _
        have hwk := HKEY.out.2.2.2.1.size
        have hwk2 := HKEY.out.2.2.2.2.1
        have hsz5 := lt_of_heap hb5
        have hrow : ∀ x, (Value.slice A10 op.length c10).ownBlock = some x → w.heap.size ≤ x := fun x hx => owns_block HKEY.out.2.1 x hx
        have ho9 := (HKEY.out.1.alloc (.cells #[.int .i64 2, .string u, .int .i64 ((c : Int) + 1)] 57)).kept hgrow HD.out
        have hb6 : w6.heap[w3.heap.size]? = some (Obj.cells #[.int .i64 2, .string u, .int .i64 ((c : Int) + 1)] 57 (0, 0)) := (hgrow.block w3.heap.size (by simp; omega) (fun e => hobp e.symm)).trans ((((Und.refl _).alloc _).below.block w3.heap.size (by simp; omega)).trans HKEY.out.2.2.2.2.2)
        have ho10 : w6.ownsRow w.heap.size 57 3 v' (op ++ [((2 : Int), u.data.toList, (c : Int) + 1)]).length (cellsIt (op ++ [((2 : Int), u.data.toList, (c : Int) + 1)])) := by
          rw [cellsIt_snoc]
          simp only [ba_eta, List.length_append, List.length_cons, List.length_nil]
          exact hown'
        have hg6 : GenP w6 B g (P + 1 + 9 * (k + 1)) := (HKEY.out.2.2.1.und ((Und.refl _).alloc _)).gb hgrow (fun x e => Nat.le_trans hB (hrow x e))
        have hk6 : w.grownBy w6 (some g) := gb_trans (gb_und HKEY.out.2.2.2.1 ((Und.refl _).alloc _)) hgrow (fun x e => .inr (hrow x e))
        have c0 : w6.cell? ⟨w3.heap.size, 0, none⟩ = some (.int .i64 2) := Lib.cell_of_heap hb6 0
        have c1 : w6.cell? ⟨w3.heap.size, 1, none⟩ = some (.string u) := Lib.cell_of_heap hb6 1
        have c2 : w6.cell? ⟨w3.heap.size, 2, none⟩ = some (.int .i64 ((c : Int) + 1)) := Lib.cell_of_heap hb6 2
        haveI : LtW w3.heap.size w6 := LtW.of (lt_of_heap hb6)
        obtain ⟨Av, cv, rfl, _, _, _⟩ := own_slice' ho10
        have HO9 := hid ho9
        have HO10 := hid ho10
        have HG6 := hid hg6
        have HK6 := hid hk6
        have hzz := hk6.size
        clear hown' hgrow ho9 ho10 hg6 hk6 hb6 hrow HKEY f0 f1 f2 g0 g1 g2 hcell
        go_wp2_with fail
        refine (HCAT.out _ _ (2, u.data.toList, (c : Int) + 1) ?_ ?_ ?_).mono ?_
        · exact (items_own HO9.out rfl).und ((Und.refl _).alloc _)
        · rw [← ba_eta u]; exact items_boxi _ _ _ _ _ (by simp) (by rw [World.cell?_alloc_at _ _ _ _ (by simp)]; rfl) (by rw [World.cell?_alloc_at _ _ _ _ (by simp)]; rfl) (by rw [World.cell?_alloc_at _ _ _ _ (by simp)]; rfl)
        · rw [tot_snoc]; simp; omega
        rintro e w7 ⟨v7, rfl, ho7, hu7⟩
        have hrel := FIN.out (2, u.data.toList, (c : Int) + 1) v7 _ _ w7 (op ++ [((2 : Int), u.data.toList, (c : Int) + 1)]) (c + 1) (.int .i64 ((c : Int) + 1)) rfl (HGN.out.opened _ hun) (by simp; omega) (by simp) (by omega) ho7 (HO10.out.alloc _) hu7 (by simp; omega) ((HG6.out.und ((Und.refl _).alloc _)).und hu7) (gb_und HK6.out (((Und.refl _).alloc _).trans hu7))
        have HREL := hid hrel
        clear hrel ho7 hu7
        go_wp2
        exact ⟨by have h := HREL.out; simp only [List.length_append, List.length_cons, List.length_nil, Nat.zero_add] at h; exact h, by simp [intOf]; omega⟩
      · subst h
        clear hr8 d0 d1 d2
        go_wp2_with fail
        refine (next_gen B g _ 3 _ (HG4.out.und ((Und.refl _).alloc (.cells #[.string ⟨#[98]⟩, .string ⟨#[105]⟩, .string ⟨#[97, 32, 104, 61, 49]⟩] 9))) (by omega) (by omega) (by omega)).mono ?_
        rintro e w5 ⟨q, rfl, hq, hG5, hk5⟩
        obtain ⟨u, hu, hus, hun⟩ : ∃ u : ByteArray, (#[.string ⟨#[98]⟩, .string ⟨#[105]⟩, .string ⟨#[97, 32, 104, 61, 49]⟩] : Array Value)[q]? = some (.string u) ∧ u.size ≤ 5 ∧ u.data.toList ∈ St.tg2 := by
          rcases (show q = 0 ∨ q = 1 ∨ q = 2 by omega) with h | h | h <;> subst h <;> exact ⟨_, rfl, by decide, by decide⟩
        have hcell := lit_cell w4 w5 _ _ B g hk5 hgB (by omega) q _ hu
        have HG5 := hid hG5
        have HK5 := hid (gb_trans (gb_und HK4.out ((Und.refl _).alloc (.cells #[.string ⟨#[98]⟩, .string ⟨#[105]⟩, .string ⟨#[97, 32, 104, 61, 49]⟩] 9))) hk5 (fun _ e => .inl e))
        have HO5 := hid (own_gb (HO4.out.alloc (.cells #[.string ⟨#[98]⟩, .string ⟨#[105]⟩, .string ⟨#[97, 32, 104, 61, 49]⟩] 9)) hk5 (by omega))
        have HP5 := hid (own_gb (HP4.out.alloc (.cells #[.string ⟨#[98]⟩, .string ⟨#[105]⟩, .string ⟨#[97, 32, 104, 61, 49]⟩] 9)) hk5 (by omega))
        have hb5 : w5.heap[w3.heap.size]? = some (Obj.cells #[.int .i64 1, .string t, .int .i64 0] 57 (0, 0)) := (hk5.block w3.heap.size (by simp; omega) (by simp; omega)).trans ((((Und.refl w4).alloc _).below.block w3.heap.size hsz4).trans hb4)
        haveI : LtW w4.heap.size w5 := LtW.of (World.block_lt_of_cell? _ _ hcell)
        have hq3 : q < 3 := by omega
        have f0 : w5.frozen? ⟨w3.heap.size, 0, none⟩ = false := Lib.frozen_of_heap hb5 0
        have f1 : w5.frozen? ⟨w3.heap.size, 1, none⟩ = false := Lib.frozen_of_heap hb5 1
        have f2 : w5.frozen? ⟨w3.heap.size, 2, none⟩ = false := Lib.frozen_of_heap hb5 2
        have g0 : w5.cell? ⟨w3.heap.size, 0, none⟩ = some (.int .i64 1) := Lib.cell_of_heap hb5 0
        have g1 : w5.cell? ⟨w3.heap.size, 1, none⟩ = some (.string t) := Lib.cell_of_heap hb5 1
        have g2 : w5.cell? ⟨w3.heap.size, 2, none⟩ = some (.int .i64 0) := Lib.cell_of_heap hb5 2
        haveI : LtW w3.heap.size w5 := LtW.of (lt_of_heap hb5)
        have hob : (Value.slice A9 f.length c9).ownBlock ≠ some w3.heap.size := fun e => by have := hlt3 _ e; omega
        have hobp : (Value.slice A10 op.length c10).ownBlock ≠ some w3.heap.size := fun e => by have := hlt3p _ e; omega
        have hkey : ∀ W, W = ((w5.setCell ⟨w3.heap.size, 0, none⟩ (.int .i64 2)).setCell ⟨w3.heap.size, 1, none⟩ (.string u)).setCell ⟨w3.heap.size, 2, none⟩ (.int .i64 ((c : Int) + 1)) → W.ownsRow w.heap.size 57 3 (.slice A9 f.length c9) f.length (cellsIt f) ∧ W.ownsRow w.heap.size 57 3 (.slice A10 op.length c10) op.length (cellsIt op) ∧ GenP W B g (P + 1 + 9 * (k + 1)) ∧ w.grownBy W (some g) ∧ W.heap.size = w5.heap.size ∧ W.heap[w3.heap.size]? = some (Obj.cells #[.int .i64 2, .string u, .int .i64 ((c : Int) + 1)] 57 (0, 0)) := by
          intro W hW
          subst hW
          have hBb : ∀ x, some w3.heap.size = some x → B ≤ x := fun x e => by cases e; omega
          refine ⟨own_set (own_set (own_set HO5.out hob) hob) hob, own_set (own_set (own_set HP5.out hobp) hobp) hobp, ?_, gb_setCell (gb_setCell (gb_setCell HK5.out _ _ (.inr (by show w.heap.size ≤ w3.heap.size; omega))) _ _ (.inr (by show w.heap.size ≤ w3.heap.size; omega))) _ _ (.inr (by show w.heap.size ≤ w3.heap.size; omega)), by simp, heap_setCell_same _ w3.heap.size 2 _ _ _ (heap_setCell_same _ w3.heap.size 1 _ _ _ (heap_setCell_same w5 w3.heap.size 0 _ _ _ hb5))⟩
          exact (((HG5.out.gb (gb_set w5 ⟨w3.heap.size, 0, none⟩ _) hBb).gb (gb_set _ ⟨w3.heap.size, 1, none⟩ _) hBb).gb (gb_set _ ⟨w3.heap.size, 2, none⟩ _) hBb).le (by omega)
        have HKEY := hid (hkey _ rfl)
        have hne5 := HKEY.out.2.2.1.lt.2
        clear hG5 hk5 HG4 HK4 HO4 HP4 hkey hu hq
        go_wp2_with (at_builtin; refine wpList_append_own _ rfl _ _ 24 rfl w.heap.size 57 i0 (.agg #[.int .i64 0, .string ⟨#[]⟩, .int .i64 0]) 3 32 Tryd.underlying24 hi hz0 hz1 hz2 rfl (by decide) (.slice A10 op.length c10) op.length _ rfl (HKEY.out.2.1.alloc _) _ 1 1 [.int .i64 2, .string u, .int .i64 ((c : Int) + 1)] rfl rfl ?_ (item_one _ _ _) (by unfold maxLen; omega) (by omega) ?_ ?_)
        · exact side3b _ _ _ _ _ _ (by simp)
        · have := HKEY.out.2.2.2.1.size; simp at this ⊢; omega
        intro v' w6 hown' hgrow _
        have hwk := HKEY.out.2.2.2.1.size
        have hwk2 := HKEY.out.2.2.2.2.1
        have hsz5 := lt_of_heap hb5
        have hrow : ∀ x, (Value.slice A10 op.length c10).ownBlock = some x → w.heap.size ≤ x := fun x hx => owns_block HKEY.out.2.1 x hx
        have ho9 := (HKEY.out.1.alloc (.cells #[.int .i64 2, .string u, .int .i64 ((c : Int) + 1)] 57)).kept hgrow HD.out
        have hb6 : w6.heap[w3.heap.size]? = some (Obj.cells #[.int .i64 2, .string u, .int .i64 ((c : Int) + 1)] 57 (0, 0)) := (hgrow.block w3.heap.size (by simp; omega) (fun e => hobp e.symm)).trans ((((Und.refl _).alloc _).below.block w3.heap.size (by simp; omega)).trans HKEY.out.2.2.2.2.2)
        have ho10 : w6.ownsRow w.heap.size 57 3 v' (op ++ [((2 : Int), u.data.toList, (c : Int) + 1)]).length (cellsIt (op ++ [((2 : Int), u.data.toList, (c : Int) + 1)])) := by
          rw [cellsIt_snoc]
          simp only [ba_eta, List.length_append, List.length_cons, List.length_nil]
          exact hown'
        have hg6 : GenP w6 B g (P + 1 + 9 * (k + 1)) := (HKEY.out.2.2.1.und ((Und.refl _).alloc _)).gb hgrow (fun x e => Nat.le_trans hB (hrow x e))
        have hk6 : w.grownBy w6 (some g) := gb_trans (gb_und HKEY.out.2.2.2.1 ((Und.refl _).alloc _)) hgrow (fun x e => .inr (hrow x e))
        have c0 : w6.cell? ⟨w3.heap.size, 0, none⟩ = some (.int .i64 2) := Lib.cell_of_heap hb6 0
        have c1 : w6.cell? ⟨w3.heap.size, 1, none⟩ = some (.string u) := Lib.cell_of_heap hb6 1
        have c2 : w6.cell? ⟨w3.heap.size, 2, none⟩ = some (.int .i64 ((c : Int) + 1)) := Lib.cell_of_heap hb6 2
        haveI : LtW w3.heap.size w6 := LtW.of (lt_of_heap hb6)
        obtain ⟨Av, cv, rfl, _, _, _⟩ := own_slice' ho10
        have HO9 := hid ho9
        have HO10 := hid ho10
        have HG6 := hid hg6
        have HK6 := hid hk6
        have hzz := hk6.size
        clear hown' hgrow ho9 ho10 hg6 hk6 hb6 hrow HKEY f0 f1 f2 g0 g1 g2 hcell
        go_wp2_with fail
        refine (HCAT.out _ _ (2, u.data.toList, (c : Int) + 1) ?_ ?_ ?_).mono ?_
        · exact (items_own HO9.out rfl).und ((Und.refl _).alloc _)
        · rw [← ba_eta u]; exact items_boxi _ _ _ _ _ (by simp) (by rw [World.cell?_alloc_at _ _ _ _ (by simp)]; rfl) (by rw [World.cell?_alloc_at _ _ _ _ (by simp)]; rfl) (by rw [World.cell?_alloc_at _ _ _ _ (by simp)]; rfl)
        · rw [tot_snoc]; simp; omega
        rintro e w7 ⟨v7, rfl, ho7, hu7⟩
        have hrel := FIN.out (2, u.data.toList, (c : Int) + 1) v7 _ _ w7 (op ++ [((2 : Int), u.data.toList, (c : Int) + 1)]) (c + 1) (.int .i64 ((c : Int) + 1)) rfl (HGN.out.opened _ hun) (by simp; omega) (by simp) (by omega) ho7 (HO10.out.alloc _) hu7 (by simp; omega) ((HG6.out.und ((Und.refl _).alloc _)).und hu7) (gb_und HK6.out (((Und.refl _).alloc _).trans hu7))
        have HREL := hid hrel
        clear hrel ho7 hu7
        go_wp2
        exact ⟨by have h := HREL.out; simp only [List.length_append, List.length_cons, List.length_nil, Nat.zero_add] at h; exact h, by simp [intOf]; omega⟩
      · subst h
        clear hr8
        by_cases hop : op.length = 0
        · have y1 : ¬ (0 : Int) ≤ (op.length : Int) - 1 := by omega
          have hop2 : op.length ≤ 0 := by omega
          clear hop
          clear hb4
          go_wp2_with fail
          refine (HCAT.out _ _ (1, t.data.toList, 0) ?_ ?_ ?_).mono ?_
          · exact (items_own HO4.out rfl).und ((Und.refl _).alloc _)
          · rw [← ba_eta t]; exact items_box _ _ _ _ (by simp) (by simp) (by simp) (by simp)
          · rw [tot_snoc]; simp; omega
          rintro e w7 ⟨v7, rfl, ho7, hu7⟩
          have hrel := FIN.out (1, t.data.toList, 0) v7 _ _ w7 op c _ rfl (HGN.out.text _) (by simp; omega) (by omega) (by omega) ho7 (HP4.out.alloc _) hu7 (by have := HK4.out.size; simp at this ⊢; omega) (((HG4.out.und ((Und.refl _).alloc _)).und hu7).le (by omega)) (gb_und HK4.out (((Und.refl _).alloc _).trans hu7))
          have HREL := hid hrel
          clear hrel ho7 hu7 d0 d1 d2
          go_wp2
          exact ⟨HREL.out, by simp [intOf]; omega⟩
        · have y1 : (0 : Int) ≤ (op.length : Int) - 1 := by omega
          obtain ⟨q, hq⟩ : ∃ q, op.length = q + 1 := ⟨op.length - 1, by omega⟩
          have e14 : (op.length : Int) - 1 = (q : Int) := by omega
          rw [e14] at y1
          have hq2 : q < op.length := by omega
          obtain ⟨w5, rfl⟩ : ∃ w5 : World, w5 = w4 := ⟨_, rfl⟩
          have HG5 := HG4
          have HK5 := HK4
          have HO5 := HO4
          have HP5 := HP4
          have hb5 := hb4
          clear hq d0 d1 d2
          obtain ⟨b10, off10, e10, hb10, hc10⟩ := (items_own HP5.out rfl) (by omega)
          subst e10
          obtain ⟨p0, p1, p2⟩ := hc10 q hq2
          have hsm := (HGN.out.small op[q] (List.getElem_mem hq2)).1
          have hgen := St.GenT.closed (ns := true) q hq2 (fun _ => by omega) HGN.out
          generalize op[q] = y at p0 p1 p2 hsm hgen
          obtain ⟨yk, yt, yi⟩ := y
          simp only at p0 p1 p2 hsm hgen
          have HGEN := hid hgen
          clear hc10 hgen HG4 HK4 HO4 HP4 hb4
          have hnl := St.name_le' yt
          go_wp2_with fail
          refine wp_region_facts (fun a b => a.grownBy b (some w3.heap.size)) (fun L W => if L 12 = true then ∃ W0, Und w5 W0 ∧ W = ((W0.setCell ⟨w3.heap.size, 0, none⟩ (.int .i64 3)).setCell ⟨w3.heap.size, 1, none⟩ (.string ⟨(St.nameOf yt).toArray⟩)).setCell ⟨w3.heap.size, 2, none⟩ (.int .i64 yi) else Und w5 W) [fun v _ => v = .slice (some ⟨b10, off10, none⟩) op.length c10, fun v _ => v = .int .i64 q, fun v _ => v = .pointer (some ⟨b10, off10 + q * 3, none⟩), fun v _ => v = .pointer (some ⟨b10, off10 + q * 3 + 1, none⟩), fun v _ => v = .string ⟨yt.toArray⟩, fun v _ => v = .string ⟨(St.nameOf yt).toArray⟩, fun v _ => v = .slice (some ⟨b10, off10, none⟩) op.length c10, fun v _ => v = .int .i64 q, fun v _ => v = .pointer (some ⟨b10, off10 + q * 3, none⟩), fun v _ => v = .pointer (some ⟨b10, off10 + q * 3 + 2, none⟩), fun v _ => v = .int .i64 yi, fun v _ => v = .agg #[.int .i64 3, .string ⟨(St.nameOf yt).toArray⟩, .int .i64 yi], noFact] (fun a => gb_refl a _) (fun a b c h k => gb_trans h k (fun _ e => .inl e)) (by kernel_rfl) (by rfl) (by kernel_rfl) (by kernel_rfl) ?frT5 ?hfr ?hI ?hob ?hend
          case hfr =>
            intro ρ
            simp only [putAll, Act.put, List.setIfInBounds_toArray, List.set_cons_succ, List.set_cons_zero, Nat.zero_add, Nat.reduceAdd]
            exact rfl
          case hI => exact (by repeat (first | exact Und.refl _ | assumption | refine Und.under ?_ _ | refine Und.alloc ?_ _ | refine Und.drew ?_ | refine Und.drewN ?_ _))
          case hob =>
            refine ObsF.cons (fun ρ L W hR hI hL hD hO hF K hK => ?_) ?_
            · skip
              clear hF hD hO
              simp only [Act.put, List.setIfInBounds_toArray, List.set_cons_succ, List.set_cons_zero] at hK ⊢
              go_simp
              refine hK _ _ (gb_refl _ _) (by simpa [updB] using hI) (fun W2 h2 => ?_)
              rfl
            refine ObsF.cons (fun ρ L W hR hI hL hD hO hF K hK => ?_) ?_
            · skip
              clear hF hD hO
              simp only [Act.put, List.setIfInBounds_toArray, List.set_cons_succ, List.set_cons_zero] at hK ⊢
              go_simp
              refine hK _ _ (gb_refl _ _) (by simpa [updB] using hI) (fun W2 h2 => ?_)
              rfl
            refine ObsF.cons (fun ρ L W hR hI hL hD hO hF K hK => ?_) ?_
            · skip
              have f0 := allF_get hF (j := 0) (by decide)
              have f1 := allF_get hF (j := 1) (by decide)
              clear hF hD hO
              simp only [Act.put, List.setIfInBounds_toArray, List.set_cons_succ, List.set_cons_zero] at hK ⊢
              have e0 : ρ 0 = .slice (some ⟨b10, off10, none⟩) op.length c10 := f0
              have e1 : ρ 1 = .int .i64 q := f1
              rw [e0, e1] at hK ⊢
              have z1 : (q : Int) < (op.length : Int) := by omega
              go_simp
              refine hK _ _ (gb_refl _ _) (by simpa [updB] using hI) (fun W2 h2 => ?_)
              rfl
            refine ObsF.cons (fun ρ L W hR hI hL hD hO hF K hK => ?_) ?_
            · skip
              have f2 := allF_get hF (j := 2) (by decide)
              clear hF hD hO
              simp only [Act.put, List.setIfInBounds_toArray, List.set_cons_succ, List.set_cons_zero] at hK ⊢
              have e2 : ρ 2 = .pointer (some ⟨b10, off10 + q * 3, none⟩) := f2
              rw [e2] at hK ⊢
              go_simp
              refine hK _ _ (gb_refl _ _) (by simpa [updB] using hI) (fun W2 h2 => ?_)
              rfl
            refine ObsF.cons (fun ρ L W hR hI hL hD hO hF K hK => ?_) ?_
            · skip
              have f3 := allF_get hF (j := 3) (by decide)
              have h12 : L 12 = false := hD.not (p := 12) rfl (by decide) hL
              have hI5 : Und w5 W := by simpa [h12] using hI
              clear hF hD hO
              simp only [Act.put, List.setIfInBounds_toArray, List.set_cons_succ, List.set_cons_zero] at hK ⊢
              have e3 : ρ 3 = .pointer (some ⟨b10, off10 + q * 3 + 1, none⟩) := f3
              rw [e3] at hK ⊢
              have hc := (hI5.cell (p := ⟨b10, off10 + q * 3 + 1, none⟩) hb10).trans p1
              haveI : LtW b10 W := LtW.of (Nat.lt_of_lt_of_le hb10 hI5.size)
              go_simp
              refine hK _ _ (gb_refl _ _) (by simpa [updB] using hI) (fun W2 h2 => ?_)
              rfl
            refine ObsF.cons (fun ρ L W hR hI hL hD hO hF K hK => ?_) ?_
            · skip
              have f4 := allF_get hF (j := 4) (by decide)
              have h12 : L 12 = false := hD.not (p := 12) rfl (by decide) hL
              have hI5 : Und w5 W := by simpa [h12] using hI
              clear hF hD hO
              simp only [Act.put, List.setIfInBounds_toArray, List.set_cons_succ, List.set_cons_zero] at hK ⊢
              have e4 : ρ 4 = .string ⟨yt.toArray⟩ := f4
              rw [e4] at hK ⊢
              refine step_callF2 (o := ⟨some 86, _, _, _, _, _⟩) rfl 39 #[.string ⟨yt.toArray⟩] _ (rname_u yt W (by omega)) ?_ ?_
              · go_simp
              rintro e W2 ⟨rfl, hu⟩
              exact ⟨_, rfl, hK _ _ (hu.gb _) (by simpa [updB, h12] using hI5.trans hu) (fun W3 h3 => rfl)⟩
            refine ObsF.cons (fun ρ L W hR hI hL hD hO hF K hK => ?_) ?_
            · skip
              clear hF hD hO
              simp only [Act.put, List.setIfInBounds_toArray, List.set_cons_succ, List.set_cons_zero] at hK ⊢
              go_simp
              refine hK _ _ (gb_refl _ _) (by simpa [updB] using hI) (fun W2 h2 => ?_)
              rfl
            refine ObsF.cons (fun ρ L W hR hI hL hD hO hF K hK => ?_) ?_
            · skip
              clear hF hD hO
              simp only [Act.put, List.setIfInBounds_toArray, List.set_cons_succ, List.set_cons_zero] at hK ⊢
              go_simp
              refine hK _ _ (gb_refl _ _) (by simpa [updB] using hI) (fun W2 h2 => ?_)
              rfl
            refine ObsF.cons (fun ρ L W hR hI hL hD hO hF K hK => ?_) ?_
            · skip
              have f6 := allF_get hF (j := 6) (by decide)
              have f7 := allF_get hF (j := 7) (by decide)
              clear hF hD hO
              simp only [Act.put, List.setIfInBounds_toArray, List.set_cons_succ, List.set_cons_zero] at hK ⊢
              have e6 : ρ 6 = .slice (some ⟨b10, off10, none⟩) op.length c10 := f6
              have e7 : ρ 7 = .int .i64 q := f7
              rw [e6, e7] at hK ⊢
              have z1 : (q : Int) < (op.length : Int) := by omega
              go_simp
              refine hK _ _ (gb_refl _ _) (by simpa [updB] using hI) (fun W2 h2 => ?_)
              rfl
            refine ObsF.cons (fun ρ L W hR hI hL hD hO hF K hK => ?_) ?_
            · skip
              have f8 := allF_get hF (j := 8) (by decide)
              clear hF hD hO
              simp only [Act.put, List.setIfInBounds_toArray, List.set_cons_succ, List.set_cons_zero] at hK ⊢
              have e8 : ρ 8 = .pointer (some ⟨b10, off10 + q * 3, none⟩) := f8
              rw [e8] at hK ⊢
              go_simp
              refine hK _ _ (gb_refl _ _) (by simpa [updB] using hI) (fun W2 h2 => ?_)
              rfl
            refine ObsF.cons (fun ρ L W hR hI hL hD hO hF K hK => ?_) ?_
            · skip
              have f9 := allF_get hF (j := 9) (by decide)
              have h12 : L 12 = false := hD.not (p := 12) rfl (by decide) hL
              have hI5 : Und w5 W := by simpa [h12] using hI
              clear hF hD hO
              simp only [Act.put, List.setIfInBounds_toArray, List.set_cons_succ, List.set_cons_zero] at hK ⊢
              have e9 : ρ 9 = .pointer (some ⟨b10, off10 + q * 3 + 2, none⟩) := f9
              rw [e9] at hK ⊢
              have hc := (hI5.cell (p := ⟨b10, off10 + q * 3 + 2, none⟩) hb10).trans p2
              haveI : LtW b10 W := LtW.of (Nat.lt_of_lt_of_le hb10 hI5.size)
              go_simp
              refine hK _ _ (gb_refl _ _) (by simpa [updB] using hI) (fun W2 h2 => ?_)
              rfl
            refine ObsF.cons (fun ρ L W hR hI hL hD hO hF K hK => ?_) ?_
            · skip
              have f5 := allF_get hF (j := 5) (by decide)
              have f10 := allF_get hF (j := 10) (by decide)
              clear hF hD hO
              simp only [Act.put, List.setIfInBounds_toArray, List.set_cons_succ, List.set_cons_zero] at hK ⊢
              have e5 : ρ 5 = .string ⟨(St.nameOf yt).toArray⟩ := f5
              have e10 : ρ 10 = .int .i64 yi := f10
              rw [e5, e10] at hK ⊢
              go_simp
              refine hK _ _ (gb_refl _ _) (by simpa [updB] using hI) (fun W2 h2 => ?_)
              rfl
            refine ObsF.cons (fun ρ L W hR hI hL hD hO hF K hK => ?_) ?_
            · skip
              have f11 := allF_get hF (j := 11) (by decide)
              have hI5 : Und w5 W := by simpa [hL] using hI
              clear hF hD hO
              simp only [Act.put, List.setIfInBounds_toArray, List.set_cons_succ, List.set_cons_zero] at hK ⊢
              have e11 : ρ 11 = .agg #[.int .i64 3, .string ⟨(St.nameOf yt).toArray⟩, .int .i64 yi] := f11
              rw [e11] at hK ⊢
              have hbW := (hI5.below.block w3.heap.size (lt_of_heap hb5)).trans hb5
              have f0 : W.frozen? ⟨w3.heap.size, 0, none⟩ = false := Lib.frozen_of_heap hbW 0
              have f1 : W.frozen? ⟨w3.heap.size, 1, none⟩ = false := Lib.frozen_of_heap hbW 1
              have f2 : W.frozen? ⟨w3.heap.size, 2, none⟩ = false := Lib.frozen_of_heap hbW 2
              have g0 : W.cell? ⟨w3.heap.size, 0, none⟩ = some (.int .i64 1) := Lib.cell_of_heap hbW 0
              have g1 : W.cell? ⟨w3.heap.size, 1, none⟩ = some (.string t) := Lib.cell_of_heap hbW 1
              have g2 : W.cell? ⟨w3.heap.size, 2, none⟩ = some (.int .i64 0) := Lib.cell_of_heap hbW 2
              haveI : LtW w3.heap.size W := LtW.of (lt_of_heap hbW)
              go_simp
              refine hK undef _ (gb_setCell (gb_setCell (gb_set _ ⟨w3.heap.size, 0, none⟩ _) ⟨w3.heap.size, 1, none⟩ _ (.inl rfl)) ⟨w3.heap.size, 2, none⟩ _ (.inl rfl)) (by simp only [updB, if_true]; exact ⟨W, hI5, rfl⟩) (fun _ _ => trivial)
            exact ObsF.nil
          case hend =>
            intro ρ L W hR hI hL hF
            have h12 : L 12 = true := hL 12 (by decide)
            rw [if_pos h12] at hI
            obtain ⟨w6, hu6, hW⟩ := hI
            have HO6 := hid (own_und hu6 HO5.out)
            have HP6 := hid (own_und hu6 HP5.out)
            have HG6 := hid (HG5.out.und hu6)
            have HK6 := hid (gb_und HK5.out hu6)
            have hb5 := (hu6.below.block w3.heap.size (lt_of_heap hb5)).trans hb5
            have hsz5 := lt_of_heap hb5
            clear hR hL hF h12
            have f0 : w6.frozen? ⟨w3.heap.size, 0, none⟩ = false := Lib.frozen_of_heap hb5 0
            have f1 : w6.frozen? ⟨w3.heap.size, 1, none⟩ = false := Lib.frozen_of_heap hb5 1
            have f2 : w6.frozen? ⟨w3.heap.size, 2, none⟩ = false := Lib.frozen_of_heap hb5 2
            have g0 : w6.cell? ⟨w3.heap.size, 0, none⟩ = some (.int .i64 1) := Lib.cell_of_heap hb5 0
            have g1 : w6.cell? ⟨w3.heap.size, 1, none⟩ = some (.string t) := Lib.cell_of_heap hb5 1
            have g2 : w6.cell? ⟨w3.heap.size, 2, none⟩ = some (.int .i64 0) := Lib.cell_of_heap hb5 2
            haveI : LtW w3.heap.size w6 := LtW.of (lt_of_heap hb5)
            have hob : (Value.slice A9 f.length c9).ownBlock ≠ some w3.heap.size := fun e => by have := hlt3 _ e; omega
            have hobp : (Value.slice (some ⟨b10, off10, none⟩) op.length c10).ownBlock ≠ some w3.heap.size := fun e => by have := hlt3p _ e; omega
            have hkey : ∀ W, W = ((w6.setCell ⟨w3.heap.size, 0, none⟩ (.int .i64 3)).setCell ⟨w3.heap.size, 1, none⟩ (.string ⟨(St.nameOf yt).toArray⟩)).setCell ⟨w3.heap.size, 2, none⟩ (.int .i64 yi) → W.ownsRow w.heap.size 57 3 (.slice A9 f.length c9) f.length (cellsIt f) ∧ W.ownsRow w.heap.size 57 3 (.slice (some ⟨b10, off10, none⟩) op.length c10) op.length (cellsIt op) ∧ GenP W B g (P + 1 + 9 * (k + 1)) ∧ w.grownBy W (some g) ∧ W.heap.size = w6.heap.size ∧ W.heap[w3.heap.size]? = some (Obj.cells #[.int .i64 3, .string ⟨(St.nameOf yt).toArray⟩, .int .i64 yi] 57 (0, 0)) := by
              intro W hW
              subst hW
              have hBb : ∀ x, some w3.heap.size = some x → B ≤ x := fun x e => by cases e; omega
              refine ⟨own_set (own_set (own_set HO6.out hob) hob) hob, own_set (own_set (own_set HP6.out hobp) hobp) hobp, ?_, gb_setCell (gb_setCell (gb_setCell HK6.out _ _ (.inr (by show w.heap.size ≤ w3.heap.size; omega))) _ _ (.inr (by show w.heap.size ≤ w3.heap.size; omega))) _ _ (.inr (by show w.heap.size ≤ w3.heap.size; omega)), by simp, heap_setCell_same _ w3.heap.size 2 _ _ _ (heap_setCell_same _ w3.heap.size 1 _ _ _ (heap_setCell_same w6 w3.heap.size 0 _ _ _ hb5))⟩
              exact (((HG6.out.gb (gb_set w6 ⟨w3.heap.size, 0, none⟩ _) hBb).gb (gb_set _ ⟨w3.heap.size, 1, none⟩ _) hBb).gb (gb_set _ ⟨w3.heap.size, 2, none⟩ _) hBb).le (by omega)
            have HKEY := hid (hkey W hW)
            have hne5 := HKEY.out.2.2.1.lt.2
            have hkz := HKEY.out.2.2.2.2.1
            have hkw := HKEY.out.2.2.2.1.size
            have hit := items_own HKEY.out.2.1 rfl
            have HIT1 := hid (items_take hit q)
            have hgen2 := HGEN.out
            obtain ⟨q1, hq1⟩ : ∃ q1, q1 = q + 1 := ⟨_, rfl⟩
            rw [← hq1] at hgen2
            have HGEN2 := hid hgen2
            clear hgen2
            obtain ⟨ox, hox, hit2⟩ : ∃ ox, (if c10 = q1 then (some ⟨b10, off10, none⟩ : Option Addr) else some ⟨b10, off10 + q1 * 3, none⟩) = some ⟨b10, ox, none⟩ ∧ ItemsAt W (some ⟨b10, ox, none⟩) (op.drop q1) := by
              by_cases hcq : c10 = q1
              · exact ⟨off10, if_pos hcq, fun h0 => by simp at h0; omega⟩
              · exact ⟨off10 + q1 * 3, if_neg hcq, items_drop hit q1⟩
            have HIT2 := hid hit2
            clear hit2
            have hw : IntKind.i64.wrap (q1 : Int) = (q1 : Int) := IntWalk.i64_in _ (by omega)
            have hw1 : (q : Int) + 1 = (q1 : Int) := by omega
            have hw2 : (0 : Int) ≤ (q1 : Int) := by omega
            have hw3 : (q1 : Int) ≤ (op.length : Int) := by omega
            have hw4 : q1 ≤ op.length := by omega
            have hqa : q + 1 ≤ q1 := by omega
            have hqb : q1 ≤ q + 1 := by omega
            clear hq1
            have hbW := HKEY.out.2.2.2.2.2
            have hl1 : (q : Int) ≤ (op.length : Int) := by omega
            have hl4 : (q : Int) ≤ (c10 : Int) := by omega
            have hl5 : (op.length : Int) ≤ (c10 : Int) := by omega
            haveI : LtW b10 W := LtW.of (by have := hu6.size; omega)
            clear hkey hW hb5 f0 f1 f2 g0 g1 g2 p0 p1 p2 hit hu6
            go_wp2_with fail
            refine wp_region_any (by kernel_rfl) ?_
            try (change wpAny _ _ _ _ _ _ _ (World.drew _))
            refine rg_norm2 (l' := #[false, false, false, false, false, false, false, false, false, false]) (by kernel_rfl) ?_
            refine wpAny_take (i := 0) (v := ?_) rfl (by kernel_rfl) (by kernel_rfl) (by kernel_rfl) (fun _ _ _ h => h) (Or.inl ⟨by rfl, ?_⟩) ?_
            rotate_left 1
            · (intro W9; go_simp; try with_reducible rfl)
            try go_simp
            refine rg_norm2 (l' := #[true, false, false, false, false, false, false, false, false, false]) (by kernel_rfl) ?_
            refine wpAny_take (i := 1) (v := ?_) rfl (by kernel_rfl) (by kernel_rfl) (by kernel_rfl) (fun _ _ _ h => h) (Or.inl ⟨by rfl, ?_⟩) ?_
            rotate_left 1
            · (intro W9; go_simp; try with_reducible rfl)
            try go_simp
            refine rg_norm2 (l' := #[true, true, false, false, false, false, false, false, false, false]) (by kernel_rfl) ?_
            refine wpAny_take (i := 2) (v := ?_) rfl (by kernel_rfl) (by kernel_rfl) (by kernel_rfl) (fun _ _ _ h => h) (Or.inl ⟨by rfl, ?_⟩) ?_
            rotate_left 1
            · (intro W9; go_simp; try with_reducible rfl)
            try go_simp
            refine rg_norm2 (l' := #[true, true, true, false, false, false, false, false, false, false]) (by kernel_rfl) ?_
            refine wpAny_take (i := 4) (v := ?_) rfl (by kernel_rfl) (by kernel_rfl) (by kernel_rfl) (fun _ _ _ h => h) (Or.inl ⟨by rfl, ?_⟩) ?_
            rotate_left 1
            · (intro W9; go_simp; try with_reducible rfl)
            try go_simp
            refine rg_norm2 (l' := #[true, true, true, false, true, false, false, false, false, false]) (by kernel_rfl) ?_
            refine wpAny_take (i := 5) (v := ?_) rfl (by kernel_rfl) (by kernel_rfl) (by kernel_rfl) (fun _ _ _ h => h) (Or.inl ⟨by rfl, ?_⟩) ?_
            rotate_left 1
            · (intro W9; go_simp; try with_reducible rfl)
            try go_simp
            refine rg_norm2 (l' := #[true, true, true, false, true, true, false, false, false, false]) (by kernel_rfl) ?_
            refine wpAny_take (i := 6) (v := ?_) rfl (by kernel_rfl) (by kernel_rfl) (by kernel_rfl) (fun _ _ _ h => h) (Or.inl ⟨by rfl, ?_⟩) ?_
            rotate_left 1
            · (intro W9; go_simp; try with_reducible rfl)
            try go_simp
            refine rg_norm2 (l' := #[true, true, true, false, true, true, true, false, false, false]) (by kernel_rfl) ?_
            refine wpAny_take (i := 7) (v := ?_) rfl (by kernel_rfl) (by kernel_rfl) (by kernel_rfl) (fun _ _ _ h => h) (Or.inl ⟨by rfl, ?_⟩) ?_
            rotate_left 1
            · (intro W9; go_simp; try with_reducible rfl)
            try go_simp
            refine rg_norm2 (l' := #[true, true, true, false, true, true, true, true, false, false]) (by kernel_rfl) ?_
            refine wpAny_ready (rs := [3]) (by kernel_rfl) (by simp) ?_
            refine AllReady.cons (o := ⟨some 96, _, _, _, _, _⟩) rfl (fun K hK => ?_) AllReady.nil
            refine step_append_items (o := ⟨some 96, _, _, _, _, _⟩) rfl _ _ rfl W.heap.size (.slice none 0 0) 0 [] rfl (World.ownsRow_nil _ _ _ _) ⟨b10, off10, none⟩ q c10 (op.take q) rfl (HIT1.out.und (Und.refl W).drew) (by simp; omega) (by omega) (by exact Nat.le_refl _) ?_
            intro v96 w8 ho8 hg8
            have hu8 : Und W w8 := ((Und.refl W).drew).grown hg8 (fun g e => by cases e)
            have HO8 := hid (show w8.ownsRow W.heap.size 57 3 v96 q (cellsIt (op.take q)) by simpa using ho8)
            have HU8 := hid hu8
            clear ho8 hg8 hu8
            try go_simp
            refine hK _ _ ?_
            clear hK K
            refine rg_norm2 (l' := #[true, true, true, true, true, true, true, true, false, false]) (by kernel_rfl) ?_
            refine wpAny_ready (rs := [8]) (by kernel_rfl) (by simp) ?_
            refine AllReady.cons (o := ⟨some 101, _, _, _, _, _⟩) rfl (fun K hK => ?_) AllReady.nil
            refine step_append_items (o := ⟨some 101, _, _, _, _, _⟩) rfl _ _ rfl W.heap.size v96 q (op.take q) rfl HO8.out ⟨b10, ox, none⟩ (op.length - q1) (c10 - q1) (op.drop q1) ?_ (HIT2.out.und HU8.out) (by simp) (by omega) HU8.out.size ?_
            · first | rfl | (go_simp; try rfl)
            intro v101 w9 ho9 hg9
            have hu9 : Und W w9 := HU8.out.grown hg9 (fun x e => owns_block HO8.out x e)
            have HO9 := hid ho9
            have HU9 := hid hu9
            clear ho9 hg9 hu9
            try go_simp
            refine hK _ _ ?_
            clear hK K
            refine rg_norm2 (l' := #[true, true, true, true, true, true, true, true, true, false]) (by kernel_rfl) ?_
            refine wpAny_take (i := 9) (v := ?_) rfl (by kernel_rfl) (by kernel_rfl) (by kernel_rfl) (fun _ _ _ h => h) (Or.inl ⟨by rfl, ?_⟩) ?_
            rotate_left 1
            · (intro W9; go_simp; try with_reducible rfl)
            try go_simp
            refine rg_norm2 (l' := #[true, true, true, true, true, true, true, true, true, true]) (by kernel_rfl) ?_
            refine wpAny_done (by kernel_rfl) ?_ _
            have hop2 : (op.take q ++ op.drop q1).length = op.length - 1 := by simp; omega
            have hop3 : q + (op.length - q1) = op.length - 1 := by omega
            have ho10 : w9.ownsRow W.heap.size 57 3 v101 (op.take q ++ op.drop q1).length (cellsIt (op.take q ++ op.drop q1)) := by
              have := HO9.out
              rw [hop3] at this
              rw [hop2]; exact this
            obtain ⟨Av, cv, rfl, _, _, _⟩ := own_slice' ho10
            have hb9 := (HU9.out.below.block w3.heap.size (lt_of_heap hbW)).trans hbW
            have c0 : w9.cell? ⟨w3.heap.size, 0, none⟩ = some (.int .i64 3) := Lib.cell_of_heap hb9 0
            have c1 : w9.cell? ⟨w3.heap.size, 1, none⟩ = some (.string ⟨(St.nameOf yt).toArray⟩) := Lib.cell_of_heap hb9 1
            have c2 : w9.cell? ⟨w3.heap.size, 2, none⟩ = some (.int .i64 yi) := Lib.cell_of_heap hb9 2
            haveI : LtW w3.heap.size w9 := LtW.of (lt_of_heap hb9)
            have h9s := HU9.out.size
            have HO10 := hid ho10
            clear ho10 hb9 HO9
            go_wp2_with fail
            refine (HCAT.out _ _ (3, St.nameOf yt, yi) ?_ ?_ ?_).mono ?_
            · exact ((items_own HKEY.out.1 rfl).und HU9.out).und ((Und.refl _).alloc _)
            · exact items_boxi _ _ _ _ _ (by simp) (by rw [World.cell?_alloc_at _ _ _ _ (by simp)]; rfl) (by rw [World.cell?_alloc_at _ _ _ _ (by simp)]; rfl) (by rw [World.cell?_alloc_at _ _ _ _ (by simp)]; rfl)
            · rw [tot_snoc]; simp; omega
            rintro e w7 ⟨v7, rfl, ho7, hu7⟩
            have hrel := FIN.out (3, St.nameOf yt, yi) v7 _ _ w7 (op.take q ++ op.drop q1) c _ rfl HGEN2.out (by show (St.nameOf yt).length ≤ 18; omega) (by omega) (by omega) ho7 ((own_low HO10.out (by omega)).alloc _) hu7 (by simp; omega) (((HKEY.out.2.2.1.und HU9.out).und ((Und.refl _).alloc _)).und hu7) (gb_und (gb_und HKEY.out.2.2.2.1 HU9.out) (((Und.refl _).alloc _).trans hu7))
            have HREL := hid hrel
            clear hrel ho7 hu7
            go_wp2
            exact ⟨by have h := HREL.out; rw [hop2] at h; exact h, by simp [intOf]; omega⟩
      · subst h
        clear hr8
        by_cases hop : op.length = 0
        · have y1 : ¬ (0 : Int) ≤ (op.length : Int) - 1 := by omega
          have hop2 : op.length ≤ 0 := by omega
          clear hop
          clear hb4
          go_wp2_with fail
          refine (HCAT.out _ _ (1, t.data.toList, 0) ?_ ?_ ?_).mono ?_
          · exact (items_own HO4.out rfl).und ((Und.refl _).alloc _)
          · rw [← ba_eta t]; exact items_box _ _ _ _ (by simp) (by simp) (by simp) (by simp)
          · rw [tot_snoc]; simp; omega
          rintro e w7 ⟨v7, rfl, ho7, hu7⟩
          have hrel := FIN.out (1, t.data.toList, 0) v7 _ _ w7 op c _ rfl (HGN.out.text _) (by simp; omega) (by omega) (by omega) ho7 (HP4.out.alloc _) hu7 (by have := HK4.out.size; simp at this ⊢; omega) (((HG4.out.und ((Und.refl _).alloc _)).und hu7).le (by omega)) (gb_und HK4.out (((Und.refl _).alloc _).trans hu7))
          have HREL := hid hrel
          clear hrel ho7 hu7 d0 d1 d2
          go_wp2
          exact ⟨HREL.out, by simp [intOf]; omega⟩
        · have y1 : (0 : Int) ≤ (op.length : Int) - 1 := by omega
          obtain ⟨q, hq⟩ : ∃ q, op.length = q + 1 := ⟨op.length - 1, by omega⟩
          have e14 : (op.length : Int) - 1 = (q : Int) := by omega
          rw [e14] at y1
          have hq2 : q < op.length := by omega
          obtain ⟨w5, rfl⟩ : ∃ w5 : World, w5 = w4 := ⟨_, rfl⟩
          have HG5 := HG4
          have HK5 := HK4
          have HO5 := HO4
          have HP5 := HP4
          have hb5 := hb4
          clear hq d0 d1 d2
          obtain ⟨b10, off10, e10, hb10, hc10⟩ := (items_own HP5.out rfl) (by omega)
          subst e10
          obtain ⟨p0, p1, p2⟩ := hc10 q hq2
          have hsm := (HGN.out.small op[q] (List.getElem_mem hq2)).1
          have hgen := St.GenT.closed (ns := true) q hq2 (fun _ => by omega) HGN.out
          generalize op[q] = y at p0 p1 p2 hsm hgen
          obtain ⟨yk, yt, yi⟩ := y
          simp only at p0 p1 p2 hsm hgen
          have HGEN := hid hgen
          clear hc10 hgen HG4 HK4 HO4 HP4 hb4
          have hnl := St.name_le' yt
          go_wp2_with fail
          refine wp_region_facts (fun a b => a.grownBy b (some w3.heap.size)) (fun L W => if L 12 = true then ∃ W0, Und w5 W0 ∧ W = ((W0.setCell ⟨w3.heap.size, 0, none⟩ (.int .i64 3)).setCell ⟨w3.heap.size, 1, none⟩ (.string ⟨(St.nameOf yt).toArray⟩)).setCell ⟨w3.heap.size, 2, none⟩ (.int .i64 yi) else Und w5 W) [fun v _ => v = .slice (some ⟨b10, off10, none⟩) op.length c10, fun v _ => v = .int .i64 q, fun v _ => v = .pointer (some ⟨b10, off10 + q * 3, none⟩), fun v _ => v = .pointer (some ⟨b10, off10 + q * 3 + 1, none⟩), fun v _ => v = .string ⟨yt.toArray⟩, fun v _ => v = .string ⟨(St.nameOf yt).toArray⟩, fun v _ => v = .slice (some ⟨b10, off10, none⟩) op.length c10, fun v _ => v = .int .i64 q, fun v _ => v = .pointer (some ⟨b10, off10 + q * 3, none⟩), fun v _ => v = .pointer (some ⟨b10, off10 + q * 3 + 2, none⟩), fun v _ => v = .int .i64 yi, fun v _ => v = .agg #[.int .i64 3, .string ⟨(St.nameOf yt).toArray⟩, .int .i64 yi], noFact] (fun a => gb_refl a _) (fun a b c h k => gb_trans h k (fun _ e => .inl e)) (by kernel_rfl) (by rfl) (by kernel_rfl) (by kernel_rfl) ?frT6 ?hfr ?hI ?hob ?hend
          case hfr =>
            intro ρ
            simp only [putAll, Act.put, List.setIfInBounds_toArray, List.set_cons_succ, List.set_cons_zero, Nat.zero_add, Nat.reduceAdd]
            exact rfl
          case hI => exact (by repeat (first | exact Und.refl _ | assumption | refine Und.under ?_ _ | refine Und.alloc ?_ _ | refine Und.drew ?_ | refine Und.drewN ?_ _))
          case hob =>
            refine ObsF.cons (fun ρ L W hR hI hL hD hO hF K hK => ?_) ?_
            · skip
              clear hF hD hO
              simp only [Act.put, List.setIfInBounds_toArray, List.set_cons_succ, List.set_cons_zero] at hK ⊢
              go_simp
              refine hK _ _ (gb_refl _ _) (by simpa [updB] using hI) (fun W2 h2 => ?_)
              rfl
            refine ObsF.cons (fun ρ L W hR hI hL hD hO hF K hK => ?_) ?_
            · skip
              clear hF hD hO
              simp only [Act.put, List.setIfInBounds_toArray, List.set_cons_succ, List.set_cons_zero] at hK ⊢
              go_simp
              refine hK _ _ (gb_refl _ _) (by simpa [updB] using hI) (fun W2 h2 => ?_)
              rfl
            refine ObsF.cons (fun ρ L W hR hI hL hD hO hF K hK => ?_) ?_
            · skip
              have f0 := allF_get hF (j := 0) (by decide)
              have f1 := allF_get hF (j := 1) (by decide)
              clear hF hD hO
              simp only [Act.put, List.setIfInBounds_toArray, List.set_cons_succ, List.set_cons_zero] at hK ⊢
              have e0 : ρ 0 = .slice (some ⟨b10, off10, none⟩) op.length c10 := f0
              have e1 : ρ 1 = .int .i64 q := f1
              rw [e0, e1] at hK ⊢
              have z1 : (q : Int) < (op.length : Int) := by omega
              go_simp
              refine hK _ _ (gb_refl _ _) (by simpa [updB] using hI) (fun W2 h2 => ?_)
              rfl
            refine ObsF.cons (fun ρ L W hR hI hL hD hO hF K hK => ?_) ?_
            · skip
              have f2 := allF_get hF (j := 2) (by decide)
              clear hF hD hO
              simp only [Act.put, List.setIfInBounds_toArray, List.set_cons_succ, List.set_cons_zero] at hK ⊢
              have e2 : ρ 2 = .pointer (some ⟨b10, off10 + q * 3, none⟩) := f2
              rw [e2] at hK ⊢
              go_simp
              refine hK _ _ (gb_refl _ _) (by simpa [updB] using hI) (fun W2 h2 => ?_)
              rfl
            refine ObsF.cons (fun ρ L W hR hI hL hD hO hF K hK => ?_) ?_
            · skip
              have f3 := allF_get hF (j := 3) (by decide)
              have h12 : L 12 = false := hD.not (p := 12) rfl (by decide) hL
              have hI5 : Und w5 W := by simpa [h12] using hI
              clear hF hD hO
              simp only [Act.put, List.setIfInBounds_toArray, List.set_cons_succ, List.set_cons_zero] at hK ⊢
              have e3 : ρ 3 = .pointer (some ⟨b10, off10 + q * 3 + 1, none⟩) := f3
              rw [e3] at hK ⊢
              have hc := (hI5.cell (p := ⟨b10, off10 + q * 3 + 1, none⟩) hb10).trans p1
              haveI : LtW b10 W := LtW.of (Nat.lt_of_lt_of_le hb10 hI5.size)
              go_simp
              refine hK _ _ (gb_refl _ _) (by simpa [updB] using hI) (fun W2 h2 => ?_)
              rfl
            refine ObsF.cons (fun ρ L W hR hI hL hD hO hF K hK => ?_) ?_
            · skip
              have f4 := allF_get hF (j := 4) (by decide)
              have h12 : L 12 = false := hD.not (p := 12) rfl (by decide) hL
              have hI5 : Und w5 W := by simpa [h12] using hI
              clear hF hD hO
              simp only [Act.put, List.setIfInBounds_toArray, List.set_cons_succ, List.set_cons_zero] at hK ⊢
              have e4 : ρ 4 = .string ⟨yt.toArray⟩ := f4
              rw [e4] at hK ⊢
              refine step_callF2 (o := ⟨some 86, _, _, _, _, _⟩) rfl 39 #[.string ⟨yt.toArray⟩] _ (rname_u yt W (by omega)) ?_ ?_
              · go_simp
              rintro e W2 ⟨rfl, hu⟩
              exact ⟨_, rfl, hK _ _ (hu.gb _) (by simpa [updB, h12] using hI5.trans hu) (fun W3 h3 => rfl)⟩
            refine ObsF.cons (fun ρ L W hR hI hL hD hO hF K hK => ?_) ?_
            · skip
              clear hF hD hO
              simp only [Act.put, List.setIfInBounds_toArray, List.set_cons_succ, List.set_cons_zero] at hK ⊢
              go_simp
              refine hK _ _ (gb_refl _ _) (by simpa [updB] using hI) (fun W2 h2 => ?_)
              rfl
            refine ObsF.cons (fun ρ L W hR hI hL hD hO hF K hK => ?_) ?_
            · skip
              clear hF hD hO
              simp only [Act.put, List.setIfInBounds_toArray, List.set_cons_succ, List.set_cons_zero] at hK ⊢
              go_simp
              refine hK _ _ (gb_refl _ _) (by simpa [updB] using hI) (fun W2 h2 => ?_)
              rfl
            refine ObsF.cons (fun ρ L W hR hI hL hD hO hF K hK => ?_) ?_
            · skip
              have f6 := allF_get hF (j := 6) (by decide)
              have f7 := allF_get hF (j := 7) (by decide)
              clear hF hD hO
              simp only [Act.put, List.setIfInBounds_toArray, List.set_cons_succ, List.set_cons_zero] at hK ⊢
              have e6 : ρ 6 = .slice (some ⟨b10, off10, none⟩) op.length c10 := f6
              have e7 : ρ 7 = .int .i64 q := f7
              rw [e6, e7] at hK ⊢
              have z1 : (q : Int) < (op.length : Int) := by omega
              go_simp
              refine hK _ _ (gb_refl _ _) (by simpa [updB] using hI) (fun W2 h2 => ?_)
              rfl
            refine ObsF.cons (fun ρ L W hR hI hL hD hO hF K hK => ?_) ?_
            · skip
              have f8 := allF_get hF (j := 8) (by decide)
              clear hF hD hO
              simp only [Act.put, List.setIfInBounds_toArray, List.set_cons_succ, List.set_cons_zero] at hK ⊢
              have e8 : ρ 8 = .pointer (some ⟨b10, off10 + q * 3, none⟩) := f8
              rw [e8] at hK ⊢
              go_simp
              refine hK _ _ (gb_refl _ _) (by simpa [updB] using hI) (fun W2 h2 => ?_)
              rfl
            refine ObsF.cons (fun ρ L W hR hI hL hD hO hF K hK => ?_) ?_
            · skip
              have f9 := allF_get hF (j := 9) (by decide)
              have h12 : L 12 = false := hD.not (p := 12) rfl (by decide) hL
              have hI5 : Und w5 W := by simpa [h12] using hI
              clear hF hD hO
              simp only [Act.put, List.setIfInBounds_toArray, List.set_cons_succ, List.set_cons_zero] at hK ⊢
              have e9 : ρ 9 = .pointer (some ⟨b10, off10 + q * 3 + 2, none⟩) := f9
              rw [e9] at hK ⊢
              have hc := (hI5.cell (p := ⟨b10, off10 + q * 3 + 2, none⟩) hb10).trans p2
              haveI : LtW b10 W := LtW.of (Nat.lt_of_lt_of_le hb10 hI5.size)
              go_simp
              refine hK _ _ (gb_refl _ _) (by simpa [updB] using hI) (fun W2 h2 => ?_)
              rfl
            refine ObsF.cons (fun ρ L W hR hI hL hD hO hF K hK => ?_) ?_
            · skip
              have f5 := allF_get hF (j := 5) (by decide)
              have f10 := allF_get hF (j := 10) (by decide)
              clear hF hD hO
              simp only [Act.put, List.setIfInBounds_toArray, List.set_cons_succ, List.set_cons_zero] at hK ⊢
              have e5 : ρ 5 = .string ⟨(St.nameOf yt).toArray⟩ := f5
              have e10 : ρ 10 = .int .i64 yi := f10
              rw [e5, e10] at hK ⊢
              go_simp
              refine hK _ _ (gb_refl _ _) (by simpa [updB] using hI) (fun W2 h2 => ?_)
              rfl
            refine ObsF.cons (fun ρ L W hR hI hL hD hO hF K hK => ?_) ?_
            · skip
              have f11 := allF_get hF (j := 11) (by decide)
              have hI5 : Und w5 W := by simpa [hL] using hI
              clear hF hD hO
              simp only [Act.put, List.setIfInBounds_toArray, List.set_cons_succ, List.set_cons_zero] at hK ⊢
              have e11 : ρ 11 = .agg #[.int .i64 3, .string ⟨(St.nameOf yt).toArray⟩, .int .i64 yi] := f11
              rw [e11] at hK ⊢
              have hbW := (hI5.below.block w3.heap.size (lt_of_heap hb5)).trans hb5
              have f0 : W.frozen? ⟨w3.heap.size, 0, none⟩ = false := Lib.frozen_of_heap hbW 0
              have f1 : W.frozen? ⟨w3.heap.size, 1, none⟩ = false := Lib.frozen_of_heap hbW 1
              have f2 : W.frozen? ⟨w3.heap.size, 2, none⟩ = false := Lib.frozen_of_heap hbW 2
              have g0 : W.cell? ⟨w3.heap.size, 0, none⟩ = some (.int .i64 1) := Lib.cell_of_heap hbW 0
              have g1 : W.cell? ⟨w3.heap.size, 1, none⟩ = some (.string t) := Lib.cell_of_heap hbW 1
              have g2 : W.cell? ⟨w3.heap.size, 2, none⟩ = some (.int .i64 0) := Lib.cell_of_heap hbW 2
              haveI : LtW w3.heap.size W := LtW.of (lt_of_heap hbW)
              go_simp
              refine hK undef _ (gb_setCell (gb_setCell (gb_set _ ⟨w3.heap.size, 0, none⟩ _) ⟨w3.heap.size, 1, none⟩ _ (.inl rfl)) ⟨w3.heap.size, 2, none⟩ _ (.inl rfl)) (by simp only [updB, if_true]; exact ⟨W, hI5, rfl⟩) (fun _ _ => trivial)
            exact ObsF.nil
          case hend =>
            intro ρ L W hR hI hL hF
            have h12 : L 12 = true := hL 12 (by decide)
            rw [if_pos h12] at hI
            obtain ⟨w6, hu6, hW⟩ := hI
            have HO6 := hid (own_und hu6 HO5.out)
            have HP6 := hid (own_und hu6 HP5.out)
            have HG6 := hid (HG5.out.und hu6)
            have HK6 := hid (gb_und HK5.out hu6)
            have hb5 := (hu6.below.block w3.heap.size (lt_of_heap hb5)).trans hb5
            have hsz5 := lt_of_heap hb5
            clear hR hL hF h12
            have f0 : w6.frozen? ⟨w3.heap.size, 0, none⟩ = false := Lib.frozen_of_heap hb5 0
            have f1 : w6.frozen? ⟨w3.heap.size, 1, none⟩ = false := Lib.frozen_of_heap hb5 1
            have f2 : w6.frozen? ⟨w3.heap.size, 2, none⟩ = false := Lib.frozen_of_heap hb5 2
            have g0 : w6.cell? ⟨w3.heap.size, 0, none⟩ = some (.int .i64 1) := Lib.cell_of_heap hb5 0
            have g1 : w6.cell? ⟨w3.heap.size, 1, none⟩ = some (.string t) := Lib.cell_of_heap hb5 1
            have g2 : w6.cell? ⟨w3.heap.size, 2, none⟩ = some (.int .i64 0) := Lib.cell_of_heap hb5 2
            haveI : LtW w3.heap.size w6 := LtW.of (lt_of_heap hb5)
            have hob : (Value.slice A9 f.length c9).ownBlock ≠ some w3.heap.size := fun e => by have := hlt3 _ e; omega
            have hobp : (Value.slice (some ⟨b10, off10, none⟩) op.length c10).ownBlock ≠ some w3.heap.size := fun e => by have := hlt3p _ e; omega
            have hkey : ∀ W, W = ((w6.setCell ⟨w3.heap.size, 0, none⟩ (.int .i64 3)).setCell ⟨w3.heap.size, 1, none⟩ (.string ⟨(St.nameOf yt).toArray⟩)).setCell ⟨w3.heap.size, 2, none⟩ (.int .i64 yi) → W.ownsRow w.heap.size 57 3 (.slice A9 f.length c9) f.length (cellsIt f) ∧ W.ownsRow w.heap.size 57 3 (.slice (some ⟨b10, off10, none⟩) op.length c10) op.length (cellsIt op) ∧ GenP W B g (P + 1 + 9 * (k + 1)) ∧ w.grownBy W (some g) ∧ W.heap.size = w6.heap.size ∧ W.heap[w3.heap.size]? = some (Obj.cells #[.int .i64 3, .string ⟨(St.nameOf yt).toArray⟩, .int .i64 yi] 57 (0, 0)) := by
              intro W hW
              subst hW
              have hBb : ∀ x, some w3.heap.size = some x → B ≤ x := fun x e => by cases e; omega
              refine ⟨own_set (own_set (own_set HO6.out hob) hob) hob, own_set (own_set (own_set HP6.out hobp) hobp) hobp, ?_, gb_setCell (gb_setCell (gb_setCell HK6.out _ _ (.inr (by show w.heap.size ≤ w3.heap.size; omega))) _ _ (.inr (by show w.heap.size ≤ w3.heap.size; omega))) _ _ (.inr (by show w.heap.size ≤ w3.heap.size; omega)), by simp, heap_setCell_same _ w3.heap.size 2 _ _ _ (heap_setCell_same _ w3.heap.size 1 _ _ _ (heap_setCell_same w6 w3.heap.size 0 _ _ _ hb5))⟩
              exact (((HG6.out.gb (gb_set w6 ⟨w3.heap.size, 0, none⟩ _) hBb).gb (gb_set _ ⟨w3.heap.size, 1, none⟩ _) hBb).gb (gb_set _ ⟨w3.heap.size, 2, none⟩ _) hBb).le (by omega)
            have HKEY := hid (hkey W hW)
            have hne5 := HKEY.out.2.2.1.lt.2
            have hkz := HKEY.out.2.2.2.2.1
            have hkw := HKEY.out.2.2.2.1.size
            have hit := items_own HKEY.out.2.1 rfl
            have HIT1 := hid (items_take hit q)
            have hgen2 := HGEN.out
            obtain ⟨q1, hq1⟩ : ∃ q1, q1 = q + 1 := ⟨_, rfl⟩
            rw [← hq1] at hgen2
            have HGEN2 := hid hgen2
            clear hgen2
            obtain ⟨ox, hox, hit2⟩ : ∃ ox, (if c10 = q1 then (some ⟨b10, off10, none⟩ : Option Addr) else some ⟨b10, off10 + q1 * 3, none⟩) = some ⟨b10, ox, none⟩ ∧ ItemsAt W (some ⟨b10, ox, none⟩) (op.drop q1) := by
              by_cases hcq : c10 = q1
              · exact ⟨off10, if_pos hcq, fun h0 => by simp at h0; omega⟩
              · exact ⟨off10 + q1 * 3, if_neg hcq, items_drop hit q1⟩
            have HIT2 := hid hit2
            clear hit2
            have hw : IntKind.i64.wrap (q1 : Int) = (q1 : Int) := IntWalk.i64_in _ (by omega)
            have hw1 : (q : Int) + 1 = (q1 : Int) := by omega
            have hw2 : (0 : Int) ≤ (q1 : Int) := by omega
            have hw3 : (q1 : Int) ≤ (op.length : Int) := by omega
            have hw4 : q1 ≤ op.length := by omega
            have hqa : q + 1 ≤ q1 := by omega
            have hqb : q1 ≤ q + 1 := by omega
            clear hq1
            have hbW := HKEY.out.2.2.2.2.2
            have hl1 : (q : Int) ≤ (op.length : Int) := by omega
            have hl4 : (q : Int) ≤ (c10 : Int) := by omega
            have hl5 : (op.length : Int) ≤ (c10 : Int) := by omega
            haveI : LtW b10 W := LtW.of (by have := hu6.size; omega)
            clear hkey hW hb5 f0 f1 f2 g0 g1 g2 p0 p1 p2 hit hu6
            go_wp2_with fail
            refine wp_region_any (by kernel_rfl) ?_
            try (change wpAny _ _ _ _ _ _ _ (World.drew _))
            refine rg_norm2 (l' := #[false, false, false, false, false, false, false, false, false, false]) (by kernel_rfl) ?_
            refine wpAny_take (i := 0) (v := ?_) rfl (by kernel_rfl) (by kernel_rfl) (by kernel_rfl) (fun _ _ _ h => h) (Or.inl ⟨by rfl, ?_⟩) ?_
            rotate_left 1
            · (intro W9; go_simp; try with_reducible rfl)
            try go_simp
            refine rg_norm2 (l' := #[true, false, false, false, false, false, false, false, false, false]) (by kernel_rfl) ?_
            refine wpAny_take (i := 1) (v := ?_) rfl (by kernel_rfl) (by kernel_rfl) (by kernel_rfl) (fun _ _ _ h => h) (Or.inl ⟨by rfl, ?_⟩) ?_
            rotate_left 1
            · (intro W9; go_simp; try with_reducible rfl)
            try go_simp
            refine rg_norm2 (l' := #[true, true, false, false, false, false, false, false, false, false]) (by kernel_rfl) ?_
            refine wpAny_take (i := 2) (v := ?_) rfl (by kernel_rfl) (by kernel_rfl) (by kernel_rfl) (fun _ _ _ h => h) (Or.inl ⟨by rfl, ?_⟩) ?_
            rotate_left 1
            · (intro W9; go_simp; try with_reducible rfl)
            try go_simp
            refine rg_norm2 (l' := #[true, true, true, false, false, false, false, false, false, false]) (by kernel_rfl) ?_
            refine wpAny_take (i := 4) (v := ?_) rfl (by kernel_rfl) (by kernel_rfl) (by kernel_rfl) (fun _ _ _ h => h) (Or.inl ⟨by rfl, ?_⟩) ?_
            rotate_left 1
            · (intro W9; go_simp; try with_reducible rfl)
            try go_simp
            refine rg_norm2 (l' := #[true, true, true, false, true, false, false, false, false, false]) (by kernel_rfl) ?_
            refine wpAny_take (i := 5) (v := ?_) rfl (by kernel_rfl) (by kernel_rfl) (by kernel_rfl) (fun _ _ _ h => h) (Or.inl ⟨by rfl, ?_⟩) ?_
            rotate_left 1
            · (intro W9; go_simp; try with_reducible rfl)
            try go_simp
            refine rg_norm2 (l' := #[true, true, true, false, true, true, false, false, false, false]) (by kernel_rfl) ?_
            refine wpAny_take (i := 6) (v := ?_) rfl (by kernel_rfl) (by kernel_rfl) (by kernel_rfl) (fun _ _ _ h => h) (Or.inl ⟨by rfl, ?_⟩) ?_
            rotate_left 1
            · (intro W9; go_simp; try with_reducible rfl)
            try go_simp
            refine rg_norm2 (l' := #[true, true, true, false, true, true, true, false, false, false]) (by kernel_rfl) ?_
            refine wpAny_take (i := 7) (v := ?_) rfl (by kernel_rfl) (by kernel_rfl) (by kernel_rfl) (fun _ _ _ h => h) (Or.inl ⟨by rfl, ?_⟩) ?_
            rotate_left 1
            · (intro W9; go_simp; try with_reducible rfl)
            try go_simp
            refine rg_norm2 (l' := #[true, true, true, false, true, true, true, true, false, false]) (by kernel_rfl) ?_
            refine wpAny_ready (rs := [3]) (by kernel_rfl) (by simp) ?_
            refine AllReady.cons (o := ⟨some 96, _, _, _, _, _⟩) rfl (fun K hK => ?_) AllReady.nil
            refine step_append_items (o := ⟨some 96, _, _, _, _, _⟩) rfl _ _ rfl W.heap.size (.slice none 0 0) 0 [] rfl (World.ownsRow_nil _ _ _ _) ⟨b10, off10, none⟩ q c10 (op.take q) rfl (HIT1.out.und (Und.refl W).drew) (by simp; omega) (by omega) (by exact Nat.le_refl _) ?_
            intro v96 w8 ho8 hg8
            have hu8 : Und W w8 := ((Und.refl W).drew).grown hg8 (fun g e => by cases e)
            have HO8 := hid (show w8.ownsRow W.heap.size 57 3 v96 q (cellsIt (op.take q)) by simpa using ho8)
            have HU8 := hid hu8
            clear ho8 hg8 hu8
            try go_simp
            refine hK _ _ ?_
            clear hK K
            refine rg_norm2 (l' := #[true, true, true, true, true, true, true, true, false, false]) (by kernel_rfl) ?_
            refine wpAny_ready (rs := [8]) (by kernel_rfl) (by simp) ?_
            refine AllReady.cons (o := ⟨some 101, _, _, _, _, _⟩) rfl (fun K hK => ?_) AllReady.nil
            refine step_append_items (o := ⟨some 101, _, _, _, _, _⟩) rfl _ _ rfl W.heap.size v96 q (op.take q) rfl HO8.out ⟨b10, ox, none⟩ (op.length - q1) (c10 - q1) (op.drop q1) ?_ (HIT2.out.und HU8.out) (by simp) (by omega) HU8.out.size ?_
            · first | rfl | (go_simp; try rfl)
            intro v101 w9 ho9 hg9
            have hu9 : Und W w9 := HU8.out.grown hg9 (fun x e => owns_block HO8.out x e)
            have HO9 := hid ho9
            have HU9 := hid hu9
            clear ho9 hg9 hu9
            try go_simp
            refine hK _ _ ?_
            clear hK K
            refine rg_norm2 (l' := #[true, true, true, true, true, true, true, true, true, false]) (by kernel_rfl) ?_
            refine wpAny_take (i := 9) (v := ?_) rfl (by kernel_rfl) (by kernel_rfl) (by kernel_rfl) (fun _ _ _ h => h) (Or.inl ⟨by rfl, ?_⟩) ?_
            rotate_left 1
            · (intro W9; go_simp; try with_reducible rfl)
            try go_simp
            refine rg_norm2 (l' := #[true, true, true, true, true, true, true, true, true, true]) (by kernel_rfl) ?_
            refine wpAny_done (by kernel_rfl) ?_ _
            have hop2 : (op.take q ++ op.drop q1).length = op.length - 1 := by simp; omega
            have hop3 : q + (op.length - q1) = op.length - 1 := by omega
            have ho10 : w9.ownsRow W.heap.size 57 3 v101 (op.take q ++ op.drop q1).length (cellsIt (op.take q ++ op.drop q1)) := by
              have := HO9.out
              rw [hop3] at this
              rw [hop2]; exact this
            obtain ⟨Av, cv, rfl, _, _, _⟩ := own_slice' ho10
            have hb9 := (HU9.out.below.block w3.heap.size (lt_of_heap hbW)).trans hbW
            have c0 : w9.cell? ⟨w3.heap.size, 0, none⟩ = some (.int .i64 3) := Lib.cell_of_heap hb9 0
            have c1 : w9.cell? ⟨w3.heap.size, 1, none⟩ = some (.string ⟨(St.nameOf yt).toArray⟩) := Lib.cell_of_heap hb9 1
            have c2 : w9.cell? ⟨w3.heap.size, 2, none⟩ = some (.int .i64 yi) := Lib.cell_of_heap hb9 2
            haveI : LtW w3.heap.size w9 := LtW.of (lt_of_heap hb9)
            have h9s := HU9.out.size
            have HO10 := hid ho10
            clear ho10 hb9 HO9
            go_wp2_with fail
            refine (HCAT.out _ _ (3, St.nameOf yt, yi) ?_ ?_ ?_).mono ?_
            · exact ((items_own HKEY.out.1 rfl).und HU9.out).und ((Und.refl _).alloc _)
            · exact items_boxi _ _ _ _ _ (by simp) (by rw [World.cell?_alloc_at _ _ _ _ (by simp)]; rfl) (by rw [World.cell?_alloc_at _ _ _ _ (by simp)]; rfl) (by rw [World.cell?_alloc_at _ _ _ _ (by simp)]; rfl)
            · rw [tot_snoc]; simp; omega
            rintro e w7 ⟨v7, rfl, ho7, hu7⟩
            have hrel := FIN.out (3, St.nameOf yt, yi) v7 _ _ w7 (op.take q ++ op.drop q1) c _ rfl HGEN2.out (by show (St.nameOf yt).length ≤ 18; omega) (by omega) (by omega) ho7 ((own_low HO10.out (by omega)).alloc _) hu7 (by simp; omega) (((HKEY.out.2.2.1.und HU9.out).und ((Und.refl _).alloc _)).und hu7) (gb_und (gb_und HKEY.out.2.2.2.1 HU9.out) (((Und.refl _).alloc _).trans hu7))
            have HREL := hid hrel
            clear hrel ho7 hu7
            go_wp2
            exact ⟨by have h := HREL.out; rw [hop2] at h; exact h, by simp [intOf]; omega⟩
      · subst h
        clear hr8 hb4
        go_wp2_with fail
        refine (HCAT.out _ _ (1, t.data.toList, 0) ?_ ?_ ?_).mono ?_
        · exact (items_own HO4.out rfl).und ((Und.refl _).alloc _)
        · rw [← ba_eta t]; exact items_box _ _ _ _ (by simp) (by simp) (by simp) (by simp)
        · rw [tot_snoc]; simp; omega
        rintro e w7 ⟨v7, rfl, ho7, hu7⟩
        have hrel := FIN.out (1, t.data.toList, 0) v7 _ _ w7 op c _ rfl (HGN.out.text _) (by simp; omega) (by omega) (by omega) ho7 (HP4.out.alloc _) hu7 (by have := HK4.out.size; simp at this ⊢; omega) (((HG4.out.und ((Und.refl _).alloc _)).und hu7).le (by omega)) (gb_und HK4.out (((Und.refl _).alloc _).trans hu7))
        have HREL := hid hrel
        clear hrel ho7 hu7 d0 d1 d2
        go_wp2
        exact ⟨HREL.out, by simp [intOf]; omega⟩
    · have z : ¬ (0 : Int) < (i : Int) := by omega
      have z0 : i = 0 := by omega
      subst z0
      obtain ⟨A10, c10, rfl, h10c, h10m, _⟩ := own_slice' HP.out
      have hst := HGN.out
      rw [← List.take_length (l := op)] at hst
      have HST := hid hst
      clear hst
      go_wp2_with fail
      go_loopw [9, 15] (fun s9 s15 wr => FnRel w B g P n op (.slice A10 op.length c10) c s9 s15 wr) (fun _ s15 _ => (intOf s15 + 1).toNat)
      case atStart => exact ⟨op.length, _, f, rfl, rfl, Nat.le_refl _, HO.out, HP.out, HD.out, HST.out, by omega, by omega, HG.out.le (by omega), HK.out⟩
      case round =>
        clear HO HP HD HG HK HST HGN
        obtain ⟨j, zz, f, rfl, hzz, hj, hown, hownp, hdis, hgen, hfl2, hft2, hG, hk⟩ := hrel
        have HG := hid hG
        have HK := hid hk
        have HO := hid hown
        have HP := hid hownp
        have HGN := hid hgen
        obtain ⟨A9, c9, rfl, _, _, _⟩ := own_slice' HO.out
        by_cases hj0 : j = 0
        · subst hj0
          obtain rfl : zz = -1 := by omega
          have HGN2 := hid (show St.GenT true f [] c from hgen)
          clear hG hk hown hownp hdis hgen hzz HGN
          go_wp2
          go_ret
          exact ⟨_, f, c, rfl, HO.out, HGN2.out, by omega, by omega, by omega, HG.out, HK.out⟩
        · obtain ⟨q, rfl⟩ : ∃ q, j = q + 1 := ⟨j - 1, by omega⟩
          obtain rfl : zz = (q : Int) := by omega
          have hq2 : q < op.length := by omega
          obtain ⟨b10, rfl, hb10B, hb10, hc10⟩ := own_cell hownp (by omega)
          have hca := cellsIt_at op q hq2
          have p1 := hc10 _ _ hca.2.1
          have p2 := hc10 _ _ hca.2.2
          have hsm := (hgen.small op[q] (List.mem_take_iff_getElem.2 ⟨q, by omega, rfl⟩)).1
          have HGN2 := hid (genT_pop hgen hq2)
          have hdis9 : (Value.slice A9 f.length c9).ownBlock ≠ some b10 := by
            rcases hdis with h | h
            · rw [h]; exact fun e => by cases e
            · exact h
          generalize op[q] = y at p1 p2 hsm HGN2
          obtain ⟨yk, yt, yi⟩ := y
          simp only at p1 p2 hsm HGN2
          have hnl := St.name_le' yt
          have hy0 : (0 : Int) ≤ (q : Int) := by omega
          have hy1 : (q : Int) < (op.length : Int) := by omega
          haveI : LtW b10 wr := LtW.of hb10
          have e0 := p1
          have e1 := p2
          clear hG hk hown hownp hdis hgen hzz hca hc10 HGN hj0
          go_wp2_with fail
          refine wp_region_any (by kernel_rfl) ?_
          try (change wpAny _ _ _ _ _ _ _ (World.drew _))
          refine rg_norm2 (l' := #[false, false, false, false, false, false, false, false, false, false, false, false, false, false, false, false]) (by kernel_rfl) ?_
          refine wpAny_take (i := 0) (oi := ⟨some 125, _, _, _, _, _⟩) (v := ?_) rfl (by kernel_rfl) (by kernel_rfl) (by kernel_rfl) (fun _ _ _ h => h) (Or.inl ⟨by rfl, ?_⟩) ?_
          rotate_left 1
          · (intro W9; go_simp; try with_reducible rfl)
          conv => arg 7; simp only [Act.put, List.setIfInBounds_toArray, List.set_cons_succ, List.set_cons_zero]
          refine rg_norm2 (l' := #[true, false, false, false, false, false, false, false, false, false, false, false, false, false, false, false]) (by kernel_rfl) ?_
          refine wpAny_take (i := 1) (oi := ⟨some 126, _, _, _, _, _⟩) (v := ?_) rfl (by kernel_rfl) (by kernel_rfl) (by kernel_rfl) (fun _ _ _ h => h) (Or.inl ⟨by rfl, ?_⟩) ?_
          rotate_left 1
          · (intro W9; go_simp; try with_reducible rfl)
          conv => arg 7; simp only [Act.put, List.setIfInBounds_toArray, List.set_cons_succ, List.set_cons_zero]
          refine rg_norm2 (l' := #[true, true, false, false, false, false, false, false, false, false, false, false, false, false, false, false]) (by kernel_rfl) ?_
          refine wpAny_take (i := 2) (oi := ⟨some 127, _, _, _, _, _⟩) (v := ?_) rfl (by kernel_rfl) (by kernel_rfl) (by kernel_rfl) (fun _ _ _ h => h) (Or.inl ⟨by rfl, ?_⟩) ?_
          rotate_left 1
          · (intro W9; go_simp; try with_reducible rfl)
          conv => arg 7; simp only [Act.put, List.setIfInBounds_toArray, List.set_cons_succ, List.set_cons_zero]
          refine rg_norm2 (l' := #[true, true, true, false, false, false, false, false, false, false, false, false, false, false, false, false]) (by kernel_rfl) ?_
          refine wpAny_take (i := 3) (oi := ⟨some 128, _, _, _, _, _⟩) (v := ?_) rfl (by kernel_rfl) (by kernel_rfl) (by kernel_rfl) (fun _ _ _ h => h) (Or.inl ⟨by rfl, ?_⟩) ?_
          rotate_left 1
          · (intro W9; go_simp; try with_reducible rfl)
          conv => arg 7; simp only [Act.put, List.setIfInBounds_toArray, List.set_cons_succ, List.set_cons_zero]
          refine rg_norm2 (l' := #[true, true, true, true, false, false, false, false, false, false, false, false, false, false, false, false]) (by kernel_rfl) ?_
          refine wpAny_take (i := 4) (oi := ⟨some 129, _, _, _, _, _⟩) (v := ?_) rfl (by kernel_rfl) (by kernel_rfl) (by kernel_rfl) (fun _ _ _ h => h) (Or.inl ⟨by rfl, ?_⟩) ?_
          rotate_left 1
          · (intro W9; go_simp; try with_reducible rfl)
          conv => arg 7; simp only [Act.put, List.setIfInBounds_toArray, List.set_cons_succ, List.set_cons_zero]
          refine rg_norm2 (l' := #[true, true, true, true, true, false, false, false, false, false, false, false, false, false, false, false]) (by kernel_rfl) ?_
          refine wpAny_take (i := 7) (oi := ⟨some 132, _, _, _, _, _⟩) (v := ?_) rfl (by kernel_rfl) (by kernel_rfl) (by kernel_rfl) (fun _ _ _ h => h) (Or.inl ⟨by rfl, ?_⟩) ?_
          rotate_left 1
          · (intro W9; go_simp; try with_reducible rfl)
          conv => arg 7; simp only [Act.put, List.setIfInBounds_toArray, List.set_cons_succ, List.set_cons_zero]
          refine rg_norm2 (l' := #[true, true, true, true, true, false, false, true, false, false, false, false, false, false, false, false]) (by kernel_rfl) ?_
          refine wpAny_take (i := 8) (oi := ⟨some 133, _, _, _, _, _⟩) (v := ?_) rfl (by kernel_rfl) (by kernel_rfl) (by kernel_rfl) (fun _ _ _ h => h) (Or.inl ⟨by rfl, ?_⟩) ?_
          rotate_left 1
          · (intro W9; go_simp; try with_reducible rfl)
          conv => arg 7; simp only [Act.put, List.setIfInBounds_toArray, List.set_cons_succ, List.set_cons_zero]
          refine rg_norm2 (l' := #[true, true, true, true, true, false, false, true, true, false, false, false, false, false, false, false]) (by kernel_rfl) ?_
          refine wpAny_take (i := 9) (oi := ⟨some 134, _, _, _, _, _⟩) (v := ?_) rfl (by kernel_rfl) (by kernel_rfl) (by kernel_rfl) (fun _ _ _ h => h) (Or.inl ⟨by rfl, ?_⟩) ?_
          rotate_left 1
          · (intro W9; go_simp; try with_reducible rfl)
          conv => arg 7; simp only [Act.put, List.setIfInBounds_toArray, List.set_cons_succ, List.set_cons_zero]
          refine rg_norm2 (l' := #[true, true, true, true, true, false, false, true, true, true, false, false, false, false, false, false]) (by kernel_rfl) ?_
          refine wpAny_take (i := 10) (oi := ⟨some 135, _, _, _, _, _⟩) (v := ?_) rfl (by kernel_rfl) (by kernel_rfl) (by kernel_rfl) (fun _ _ _ h => h) (Or.inl ⟨by rfl, ?_⟩) ?_
          rotate_left 1
          · (intro W9; go_simp; try with_reducible rfl)
          conv => arg 7; simp only [Act.put, List.setIfInBounds_toArray, List.set_cons_succ, List.set_cons_zero]
          refine rg_norm2 (l' := #[true, true, true, true, true, false, false, true, true, true, true, false, false, false, false, false]) (by kernel_rfl) ?_
          refine wpAny_of_held (S := fun W => W.cell? ⟨b10, q * 3 + 1, none⟩ = some (.string ⟨yt.toArray⟩) ∧ W.cell? ⟨b10, q * 3 + 2, none⟩ = some (.int .i64 yi)) _ _ _ _ ?_
          refine wpAnyH_take (i := 5) (oi := ⟨some 130, _, _, _, _, _⟩) (v := ?_) rfl (by kernel_rfl) (by kernel_rfl) (by kernel_rfl) (fun _ _ _ h => h) (Or.inl ⟨by rfl, ?_⟩) ?_ ?_
          rotate_left 1
          · (intro W9 hS9; have hS7 : W9.cell? ⟨b10, q * 3 + 1, none⟩ = some (.string ⟨yt.toArray⟩) := hS9.1; have hS8 : W9.cell? ⟨b10, q * 3 + 2, none⟩ = some (.int .i64 yi) := hS9.2; clear hS9; go_simp; try with_reducible rfl)
          · first | assumption | exact ⟨e0, e1⟩ | (refine ⟨?_, ?_⟩ <;> (go_simp; done))
          conv => arg 8; simp only [Act.put, List.setIfInBounds_toArray, List.set_cons_succ, List.set_cons_zero]
          refine rgH_norm2 (l' := #[true, true, true, true, true, true, false, true, true, true, true, false, false, false, false, false]) (by kernel_rfl) ?_
          refine wpAnyH_take (i := 11) (oi := ⟨some 136, _, _, _, _, _⟩) (v := ?_) rfl (by kernel_rfl) (by kernel_rfl) (by kernel_rfl) (fun _ _ _ h => h) (Or.inl ⟨by rfl, ?_⟩) ?_ ?_
          rotate_left 1
          · (intro W9 hS9; have hS7 : W9.cell? ⟨b10, q * 3 + 1, none⟩ = some (.string ⟨yt.toArray⟩) := hS9.1; have hS8 : W9.cell? ⟨b10, q * 3 + 2, none⟩ = some (.int .i64 yi) := hS9.2; clear hS9; go_simp; try with_reducible rfl)
          · first | assumption | exact ⟨e0, e1⟩ | (refine ⟨?_, ?_⟩ <;> (go_simp; done))
          conv => arg 8; simp only [Act.put, List.setIfInBounds_toArray, List.set_cons_succ, List.set_cons_zero]
          refine rgH_norm2 (l' := #[true, true, true, true, true, true, false, true, true, true, true, true, false, false, false, false]) (by kernel_rfl) ?_
          refine wpAnyH_ready (rs := [6]) (by kernel_rfl) (by simp) ?_
          refine AllReadyH.cons (o := ⟨some 131, _, _, _, _, _⟩) rfl (fun K hK => ?_) AllReadyH.nil
          refine step_callF2 (o := ⟨some 131, _, _, _, _, _⟩) rfl 39 #[.string ⟨yt.toArray⟩] _ (rname_u yt _ (by omega)) ?_ ?_
          · go_simp
          rintro e W2 ⟨rfl, hu⟩
          refine ⟨_, rfl, ?_⟩
          have hu2 : Und wr W2 := (Und.refl wr).drew.trans hu
          have e0 := (hu2.cell (p := ⟨b10, q * 3 + 1, none⟩) hb10).trans p1
          have e1 := (hu2.cell (p := ⟨b10, q * 3 + 2, none⟩) hb10).trans p2
          haveI : LtW b10 W2 := LtW.of (Nat.lt_of_lt_of_le hb10 hu2.size)
          have HU2 := hid hu2
          clear hu hu2
          refine hK _ _ ⟨?_, ?_⟩
          · clear hK K; first | assumption | exact ⟨e0, e1⟩ | (refine ⟨?_, ?_⟩ <;> (go_simp; done))
          clear hK K
          conv => arg 8; simp only [Act.put, List.setIfInBounds_toArray, List.set_cons_succ, List.set_cons_zero]
          refine rgH_norm2 (l' := #[true, true, true, true, true, true, true, true, true, true, true, true, false, false, false, false]) (by kernel_rfl) ?_
          refine wpAnyH_take (i := 12) (oi := ⟨some 137, _, _, _, _, _⟩) (v := ?_) rfl (by kernel_rfl) (by kernel_rfl) (by kernel_rfl) (fun _ _ _ h => h) (Or.inl ⟨by rfl, ?_⟩) ?_ ?_
          rotate_left 1
          · (intro W9 hS9; have hS7 : W9.cell? ⟨b10, q * 3 + 1, none⟩ = some (.string ⟨yt.toArray⟩) := hS9.1; have hS8 : W9.cell? ⟨b10, q * 3 + 2, none⟩ = some (.int .i64 yi) := hS9.2; clear hS9; go_simp; try with_reducible rfl)
          · first | assumption | exact ⟨e0, e1⟩ | (refine ⟨?_, ?_⟩ <;> (go_simp; done))
          conv => arg 8; simp only [Act.put, List.setIfInBounds_toArray, List.set_cons_succ, List.set_cons_zero]
          refine rgH_norm2 (l' := #[true, true, true, true, true, true, true, true, true, true, true, true, true, false, false, false]) (by kernel_rfl) ?_
          refine wpAnyH_ready (rs := [13]) (by kernel_rfl) (by simp) ?_
          refine AllReadyH.cons (o := ⟨some 138, _, _, _, _, _⟩) rfl (fun K hK => ?_) AllReadyH.nil
          go_simp
          have e0 : (W2.alloc (.cells #[.int .i64 3, .string ⟨(St.nameOf yt).toArray⟩, .int .i64 yi] 57)).cell? ⟨b10, q * 3 + 1, none⟩ = some (.string ⟨yt.toArray⟩) := ((HU2.out.alloc _).cell (p := ⟨b10, q * 3 + 1, none⟩) hb10).trans p1
          have e1 : (W2.alloc (.cells #[.int .i64 3, .string ⟨(St.nameOf yt).toArray⟩, .int .i64 yi] 57)).cell? ⟨b10, q * 3 + 2, none⟩ = some (.int .i64 yi) := ((HU2.out.alloc _).cell (p := ⟨b10, q * 3 + 2, none⟩) hb10).trans p2
          refine hK _ _ ⟨?_, ?_⟩
          · clear hK K; first | assumption | exact ⟨e0, e1⟩ | (refine ⟨?_, ?_⟩ <;> (go_simp; done))
          clear hK K
          conv => arg 8; simp only [Act.put, List.setIfInBounds_toArray, List.set_cons_succ, List.set_cons_zero]
          refine rgH_norm2 (l' := #[true, true, true, true, true, true, true, true, true, true, true, true, true, true, false, false]) (by kernel_rfl) ?_
          refine wpAnyH_ready (rs := [14]) (by kernel_rfl) (by simp) ?_
          refine AllReadyH.cons (o := ⟨some 139, _, _, _, _, _⟩) rfl (fun K hK => ?_) AllReadyH.nil
          refine step_append_items2 (o := ⟨some 139, _, _, _, _, _⟩) rfl _ _ rfl w.heap.size (.slice A9 f.length c9) f.length f rfl (own_und (HU2.out.alloc _) HO.out) ⟨W2.heap.size, 0, none⟩ 1 1 [(3, St.nameOf yt, yi)] rfl (items_boxi _ _ _ _ _ (by simp) (by simp) (by simp) (by simp)) rfl (by omega) (by have := HK.out.size; have := HU2.out.size; simp; omega) ?_
          intro v' w6 ho6 hg6 hfr
          have e0 := (gb_cell hg6 (p := ⟨b10, q * 3 + 1, none⟩) (by have := HU2.out.size; simp; omega) (fun e => hdis9 e.symm)).trans (((HU2.out.alloc _).cell (p := ⟨b10, q * 3 + 1, none⟩) hb10).trans p1)
          have e1 := (gb_cell hg6 (p := ⟨b10, q * 3 + 2, none⟩) (by have := HU2.out.size; simp; omega) (fun e => hdis9 e.symm)).trans (((HU2.out.alloc _).cell (p := ⟨b10, q * 3 + 2, none⟩) hb10).trans p2)
          have hrow : ∀ x, (Value.slice A9 f.length c9).ownBlock = some x → w.heap.size ≤ x := fun x hx => owns_block HO.out x hx
          have HO6 := hid ho6
          have HP6 := hid ((own_und (HU2.out.alloc _) HP.out).kept hg6 (.inr (fun e => hdis9 e.symm)))
          have HG6 := hid ((HG.out.und (HU2.out.alloc _)).gb hg6 (fun x e => Nat.le_trans hB (hrow x e)))
          have HK6 := hid (gb_trans (gb_und HK.out (HU2.out.alloc _)) hg6 (fun x e => .inr (hrow x e)))
          have hdis6 : v'.ownBlock = none ∨ v'.ownBlock ≠ some b10 := by
            rcases hfr with h | h
            · rw [h]; exact .inr hdis9
            · cases hv : v'.ownBlock with
              | none => exact .inl rfl
              | some x => exact .inr (fun e => by have u1 := h x hv; have u2 := HU2.out.size; simp at u1 e; omega)
          clear ho6 hg6 hfr hrow HO HP HG HK
          refine hK _ _ ⟨?_, ?_⟩
          · clear hK K; first | assumption | exact ⟨e0, e1⟩ | (refine ⟨?_, ?_⟩ <;> (go_simp; done))
          clear hK K
          conv => arg 8; simp only [Act.put, List.setIfInBounds_toArray, List.set_cons_succ, List.set_cons_zero]
          refine rgH_norm2 (l' := #[true, true, true, true, true, true, true, true, true, true, true, true, true, true, true, false]) (by kernel_rfl) ?_
          refine wpAnyH_take (i := 15) (oi := ⟨some 9, _, _, _, _, _⟩) (v := ?_) rfl (by kernel_rfl) (by kernel_rfl) (by kernel_rfl) (fun _ _ _ h => h) (Or.inl ⟨by rfl, ?_⟩) ?_ ?_
          rotate_left 1
          · (intro W9 hS9; have hS7 : W9.cell? ⟨b10, q * 3 + 1, none⟩ = some (.string ⟨yt.toArray⟩) := hS9.1; have hS8 : W9.cell? ⟨b10, q * 3 + 2, none⟩ = some (.int .i64 yi) := hS9.2; clear hS9; go_simp; try with_reducible rfl)
          · first | assumption | exact ⟨e0, e1⟩ | (refine ⟨?_, ?_⟩ <;> (go_simp; done))
          conv => arg 8; simp only [Act.put, List.setIfInBounds_toArray, List.set_cons_succ, List.set_cons_zero]
          refine rgH_norm2 (l' := #[true, true, true, true, true, true, true, true, true, true, true, true, true, true, true, true]) (by kernel_rfl) ?_
          refine wpAnyH_done (by kernel_rfl) ?_ _
          go_wp2
          exact ⟨⟨q, _, f ++ [(3, St.nameOf yt, yi)], rfl, rfl, by omega, by simpa using HO6.out, HP6.out, hdis6, HGN2.out, by simp; omega, by rw [tot_snoc]; show tot f + (St.nameOf yt).length + 5 * q ≤ _; omega, HG6.out, HK6.out⟩, by first | (simp [intOf]; done) | (simp [intOf]; omega)⟩
end Go.Proofs.YtiifjfbfkhhpeaaDoor
