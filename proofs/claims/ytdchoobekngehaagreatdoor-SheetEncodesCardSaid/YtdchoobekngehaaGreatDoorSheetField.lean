/- The contract of sheet's field: what it gives is St.fieldL. Condition: the text is no longer than a text can be. -/
import Derived.Test.YtdchoobekngehaaGreatDoorSheetDec
namespace Go.Proofs.YtdchoobekngehaaGreatDoor
open Go.RowKit

namespace St
theorem quoted_nil : quotedL [] = none := rfl
theorem quoted_plain {c : UInt8} {r : List UInt8} (h : c.toNat ≠ 34) : quotedL (c :: r) = (quotedL r).map (· + 1) := by
  rw [quotedL.eq_def]
  simp only
  rw [if_neg h]
theorem quoted_two {c d : UInt8} {r : List UInt8} (h : c.toNat = 34) (h2 : d.toNat = 34) : quotedL (c :: d :: r) = (quotedL r).map (· + 2) := by
  rw [quotedL, if_pos h]; show (if d.toNat = 34 then _ else _) = _; rw [if_pos h2]
theorem quoted_end {c d : UInt8} {r : List UInt8} (h : c.toNat = 34) (h2 : d.toNat ≠ 34) : quotedL (c :: d :: r) = some 1 := by
  rw [quotedL, if_pos h]; show (if d.toNat = 34 then _ else _) = _; rw [if_neg h2]
theorem quoted_last {c : UInt8} (h : c.toNat = 34) : quotedL [c] = some 1 := by
  rw [quotedL, if_pos h]
theorem bare_ix (c : UInt8) : Lib.indexByte [34, 44, 10] c < 0 ↔ bareC c = true := by
  by_cases h1 : c = 34
  · subst h1; decide
  by_cases h2 : c = 44
  · subst h2; decide
  by_cases h3 : c = 10
  · subst h3; decide
  have b1 : ((34 : UInt8) == c) = false := by simpa using fun e => h1 e.symm
  have b2 : ((44 : UInt8) == c) = false := by simpa using fun e => h2 e.symm
  have b3 : ((10 : UInt8) == c) = false := by simpa using fun e => h3 e.symm
  have hi : Lib.indexByte [34, 44, 10] c = -1 := by simp [Lib.indexByte, b1, b2, b3]
  have hb : bareC c = true := by
    unfold bareC
    rw [decide_eq_true_iff]
    exact ⟨fun e => h1 (UInt8.toNat_inj.1 e), fun e => h2 (UInt8.toNat_inj.1 e), fun e => h3 (UInt8.toNat_inj.1 e)⟩
  rw [hi, hb]; decide
theorem field_nil : fieldL [] = some (0, false) := rfl
theorem field_q {c : UInt8} {r : List UInt8} (h : c.toNat = 34) : fieldL (c :: r) = (match quotedL r with
      | none => none
      | some n => if endB (r.drop n) then some (n + 1, true) else none) := by
  rw [fieldL, if_pos h]
  cases quotedL r <;> rfl
theorem field_b {l : List UInt8} (h : ∀ c r, l = c :: r → c.toNat ≠ 34) : fieldL l = if endB (l.drop (l.takeWhile bareC).length) then some ((l.takeWhile bareC).length, false) else none := by
  cases l with
  | nil => rfl
  | cons c r => rw [fieldL, if_neg (h c r rfl)]
end St

theorem fe_q {d : List UInt8} {a j : Nat} (h : St.fieldL (d.drop a) = (match St.quotedL (d.drop (a + 1)) with
      | none => none
      | some n => if St.endB ((d.drop (a + 1)).drop n) then some (n + 1, true) else none)) (hq : St.quotedL (d.drop (a + 1)) = some (j - a)) (hj : a + 1 ≤ j) : St.fieldL (d.drop a) = if St.endB (d.drop (j + 1)) = true then some (j + 1 - a, true) else none := by
  rw [h, hq]
  simp only [List.drop_drop]
  rw [show a + 1 + (j - a) = j + 1 by omega, show j - a + 1 = j + 1 - a by omega]
def FieldEnd (l : List UInt8) (a : Nat) (w : World) (e : Ending) (w' : World) : Prop :=
  Und w w' ∧ match St.fieldL l with
    | none => ∃ x y, e = .returned (.tuple #[.int .i64 x, .bool y, .bool false])
    | some (k, q) => e = .returned (.tuple #[.int .i64 ((a + k : Nat) : Int), .bool q, .bool true])
theorem fe_done {l : List UInt8} {a k : Nat} {w w' : World} {q b bb : Bool} {m : Int} (h : St.fieldL l = if bb = true then some (k, q) else none) (hb : bb = b) (hm : m = ((a + k : Nat) : Int)) (hu : Und w w') :
    FieldEnd l a w (.returned (.tuple #[.int .i64 m, .bool q, .bool b])) w' := by
  refine ⟨hu, ?_⟩
  subst hb hm
  rw [h]
  cases bb
  · exact ⟨_, _, rfl⟩
  · rfl
def QRel (w : World) (d : ByteArray) (b : Nat) (s4 : Value) (wr : World) : Prop := ∃ j : Nat, s4 = .int .i64 j ∧ b ≤ j ∧ j ≤ d.size ∧ St.quotedL (d.data.toList.drop b) = (St.quotedL (d.data.toList.drop j)).map (· + (j - b)) ∧ Und w wr
def BRel (w : World) (d : ByteArray) (a : Nat) (s4 : Value) (wr : World) : Prop := ∃ j : Nat, s4 = .int .i64 j ∧ a ≤ j ∧ j ≤ d.size ∧ ((d.data.toList.drop a).takeWhile St.bareC).length = (j - a) + ((d.data.toList.drop j).takeWhile St.bareC).length ∧ Und w wr
/-- How a text goes on at an offset. -/
theorem end_cases (d : ByteArray) (j : Nat) (h : j ≤ d.size) : (j = d.size ∧ St.endB (d.data.toList.drop j) = true) ∨ ∃ hj : j < d.size, St.endB (d.data.toList.drop j) = decide (d[j].toNat = 44 ∨ d[j].toNat = 10) := by
  rcases Nat.lt_or_ge j d.size with hj | hj
  · right
    refine ⟨hj, ?_⟩
    rw [St.drop_at d j hj]; rfl
  · left
    refine ⟨by omega, ?_⟩
    rw [St.drop_all d j hj]; rfl

set_option maxRecDepth 20000 in
set_option maxHeartbeats 6400000 in
theorem field_any (d : ByteArray) (a : Nat) (w : World) (ha : a ≤ d.size) (hd : d.size ≤ 4611686018427387904) : Calls Tryz.prog 55 #[.string d, .int .i64 a] w (FieldEnd (d.data.toList.drop a) a w) := by
  by_cases hlt : a < d.size
  · have hcons := St.drop_at d a hlt
    by_cases c34 : d[a].toNat = 34
    · have hF := St.field_q (r := d.data.toList.drop (a + 1)) c34
      rw [← hcons] at hF
      have HF := hid hF
      have z1 : (a : Int) < d.size := by omega
      clear hF hcons
      go_enter Tryz.func55, Tryz.ntmps55
      go_wp2
      go_loopw [4] (fun s4 wr => QRel w d (a + 1) s4 wr) (fun s4 _ => d.size + 1 - (intOf s4).toNat)
      case atStart => exact ⟨a + 1, congrArg (Value.int .i64) (by omega), by omega, by omega, by cases St.quotedL (d.data.toList.drop (a + 1)) <;> simp, Und.refl _⟩
      case round =>
        obtain ⟨j, rfl, hj1, hj2, hq, hu⟩ := hrel
        have HQ := hid hq
        have HU := hid hu
        clear hq hu
        by_cases hjl : j < d.size
        · have hjc := St.drop_at d j hjl
          by_cases q34 : d[j].toNat = 34
          · by_cases hjl2 : j + 1 < d.size
            · have hjc2 := St.drop_at d (j + 1) hjl2
              by_cases p34 : d[j + 1].toNat = 34
              · have hs := St.quoted_two (r := d.data.toList.drop (j + 1 + 1)) q34 p34
                rw [← hjc2, ← hjc] at hs
                have HS := hid hs
                have z2 : (j : Int) < d.size := by omega
                have z3 : (j : Int) + 1 < d.size := by omega
                clear hs hjc hjc2 HF
                go_wp2
                refine ⟨⟨j + 2, congrArg (Value.int .i64) (by omega), by omega, by omega, ?_, HU.out⟩, by simp [intOf]; omega⟩
                rw [HQ.out, HS.out]
                cases St.quotedL (d.data.toList.drop (j + 1 + 1)) with
                | none => rfl
                | some n => simp; omega
              · have hs := St.quoted_end (r := d.data.toList.drop (j + 1 + 1)) q34 p34
                rw [← hjc2, ← hjc] at hs
                have HS := hid hs
                have z2 : (j : Int) < d.size := by omega
                have z3 : (j : Int) + 1 < d.size := by omega
                have p34' : ((d[j + 1].toNat : Int) == 34) = false := by simp; omega
                have hq2 : St.quotedL (d.data.toList.drop (a + 1)) = some (j - a) := by rw [HQ.out, HS.out]; simp; omega
                have hf2 := hid (fe_q HF.out hq2 hj1)
                have hec : St.endB (d.data.toList.drop (j + 1)) = decide (d[j + 1].toNat = 44 ∨ d[j + 1].toNat = 10) := by rw [hjc2]; rfl
                have z4 : (((j : Int) + 1 == (d.size : Int)) = false) := by simp; omega
                clear hs hjc hjc2 hlt c34 HF HQ HS hq2
                have HF := hf2
                clear hf2
                by_cases k44 : d[j + 1].toNat = 44
                · have m44 : ((d[j + 1].toNat : Int) == 44) = true := by simp; omega
                  have heb := hid (show St.endB (d.data.toList.drop (j + 1)) = true by rw [hec]; simp [k44])
                  clear hec
                  go_wp2_with fail
                  go_region
                  all_goals
                    go_wp2
                    go_ret3
                    exact fe_done HF.out heb.out (by omega) HU.out.drew
                · have m44 : ((d[j + 1].toNat : Int) == 44) = false := by simp; omega
                  by_cases k10 : d[j + 1].toNat = 10
                  · have m10 : ((d[j + 1].toNat : Int) == 10) = true := by simp; omega
                    have heb := hid (show St.endB (d.data.toList.drop (j + 1)) = true by rw [hec]; simp [k10])
                    clear hec
                    go_wp2_with fail
                    go_region
                    all_goals
                      go_wp2
                      go_ret3
                      exact fe_done HF.out heb.out (by omega) HU.out.drew
                  · have m10 : ((d[j + 1].toNat : Int) == 10) = false := by simp; omega
                    have heb := hid (show St.endB (d.data.toList.drop (j + 1)) = false by rw [hec]; simp [k44, k10])
                    clear hec
                    go_wp2_with fail
                    go_region
                    all_goals
                      go_wp2
                      go_ret3
                      exact fe_done HF.out heb.out (by omega) HU.out.drew
            · have hje : j + 1 = d.size := by omega
              have hnil := St.drop_all d (j + 1) (by omega)
              have hs := St.quoted_last q34
              rw [hnil] at hjc
              rw [← hjc] at hs
              have hq2 : St.quotedL (d.data.toList.drop (a + 1)) = some (j - a) := by rw [HQ.out, hs]; simp; omega
              have hf2 := hid (fe_q HF.out hq2 hj1)
              have heb := hid (show St.endB (d.data.toList.drop (j + 1)) = true by rw [hnil]; rfl)
              have z2 : (j : Int) < d.size := by omega
              have z3 : ¬ (j : Int) + 1 < d.size := by omega
              have z4 : (((j : Int) + 1 == (d.size : Int)) = true) := by simp; omega
              clear hs hjc hnil hlt c34 HF HQ hq2 hje hjl2
              have HF := hf2
              clear hf2
              go_wp2_with fail
              go_region
              all_goals
                go_wp2
                go_ret3
                exact fe_done HF.out heb.out (by omega) HU.out.drew
          · have hs := St.quoted_plain (r := d.data.toList.drop (j + 1)) q34
            rw [← hjc] at hs
            have HS := hid hs
            have z2 : (j : Int) < d.size := by omega
            have q34' : ((d[j].toNat : Int) == 34) = false := by simp; omega
            clear hs hjc HF
            go_wp2
            refine ⟨⟨j + 1, congrArg (Value.int .i64) (by omega), by omega, by omega, ?_, HU.out⟩, by simp [intOf]; omega⟩
            rw [HQ.out, HS.out]
            cases St.quotedL (d.data.toList.drop (j + 1)) with
            | none => rfl
            | some n => simp; omega
        · have hje : j = d.size := by omega
          subst hje
          have hnil : d.data.toList.drop d.size = [] := List.drop_of_length_le (by simp)
          have hq2 : St.quotedL (d.data.toList.drop (a + 1)) = none := by rw [HQ.out, hnil]; rfl
          have HQ2 := hid hq2
          clear hjl hq2 hnil
          go_wp2
          go_ret3
          refine ⟨HU.out, ?_⟩
          rw [HF.out, HQ2.out]
          exact ⟨_, _, rfl⟩
    · have c34' : ((d[a].toNat : Int) == 34) = false := by simp; omega
      have HFB := hid (St.field_b (l := d.data.toList.drop a) (fun c r e => by rw [hcons] at e; simp only [List.cons.injEq] at e; rw [← e.1]; exact c34))
      have z1 : (a : Int) < d.size := by omega
      clear hcons c34
      go_enter Tryz.func55, Tryz.ntmps55
      go_wp2
      go_loopw [4] (fun s4 wr => BRel w d a s4 wr) (fun s4 _ => d.size + 1 - (intOf s4).toNat)
      case atStart => exact ⟨a, rfl, by omega, by omega, by simp, Und.refl _⟩
      case round =>
        obtain ⟨j, rfl, hj1, hj2, hq, hu⟩ := hrel
        have HQ := hid hq
        have HU := hid hu
        clear hq hu
        by_cases hjl : j < d.size
        · have hjc := St.drop_at d j hjl
          have hix := fun W => Tryz.strings_IndexByte ⟨#[34, 44, 10]⟩ (d[j].toNat : Int) W
          have hbk : ((d[j].toNat : Int).toNat.toUInt8) = d[j] := by simp
          have hiv := St.bare_ix d[j]
          rw [hbk, show (⟨#[34, 44, 10]⟩ : ByteArray).data.toList = [34, 44, 10] from rfl] at hix
          generalize Lib.indexByte [34, 44, 10] d[j] = v at hix hiv
          have HIX := hid hix
          have z2 : (j : Int) < d.size := by omega
          cases hbc : St.bareC d[j]
          · have hv : ¬ v < 0 := fun h => by rw [hiv.1 h] at hbc; cases hbc
            have htw : (d.data.toList.drop j).takeWhile St.bareC = [] := by rw [hjc, List.takeWhile_cons_of_neg (by simp [hbc])]
            have hlen : ((d.data.toList.drop a).takeWhile St.bareC).length = j - a := by rw [HQ.out, htw]; simp
            have hf2 := HFB.out
            rw [hlen, List.drop_drop, show a + (j - a) = j by omega] at hf2
            have HF := hid hf2
            have hec : St.endB (d.data.toList.drop j) = decide (d[j].toNat = 44 ∨ d[j].toNat = 10) := by rw [hjc]; rfl
            have z4 : (((j : Int) == (d.size : Int)) = false) := by simp; omega
            clear hf2 hlen htw hjc hix hbk hiv hbc
            go_wp2_with fail
            refine (HIX.out _).mono ?_
            rintro e w' ⟨rfl, rfl⟩
            by_cases k44 : d[j].toNat = 44
            · have m44 : ((d[j].toNat : Int) == 44) = true := by simp; omega
              have heb := hid (show St.endB (d.data.toList.drop (j)) = true by rw [hec]; simp [k44])
              clear hec
              go_wp2_with fail
              go_region
              all_goals
                go_wp2
                go_ret3
                exact fe_done HF.out heb.out (by omega) HU.out.drew
            · have m44 : ((d[j].toNat : Int) == 44) = false := by simp; omega
              by_cases k10 : d[j].toNat = 10
              · have m10 : ((d[j].toNat : Int) == 10) = true := by simp; omega
                have heb := hid (show St.endB (d.data.toList.drop (j)) = true by rw [hec]; simp [k10])
                clear hec
                go_wp2_with fail
                go_region
                all_goals
                  go_wp2
                  go_ret3
                  exact fe_done HF.out heb.out (by omega) HU.out.drew
              · have m10 : ((d[j].toNat : Int) == 10) = false := by simp; omega
                have heb := hid (show St.endB (d.data.toList.drop (j)) = false by rw [hec]; simp [k44, k10])
                clear hec
                go_wp2_with fail
                go_region
                all_goals
                  go_wp2
                  go_ret3
                  exact fe_done HF.out heb.out (by omega) HU.out.drew
          · have hv : v < 0 := hiv.2 hbc
            have htw : ((d.data.toList.drop j).takeWhile St.bareC).length = ((d.data.toList.drop (j + 1)).takeWhile St.bareC).length + 1 := by rw [hjc, List.takeWhile_cons_of_pos hbc]; simp
            have HTW := hid htw
            clear htw hjc hix hbk hiv hbc
            go_wp2_with fail
            refine (HIX.out _).mono ?_
            rintro e w' ⟨rfl, rfl⟩
            go_wp2
            refine ⟨⟨j + 1, congrArg (Value.int .i64) (by omega), by omega, by omega, ?_, HU.out⟩, by simp [intOf]; omega⟩
            rw [HQ.out, HTW.out]; omega
        · have hje : j = d.size := by omega
          have hnil := St.drop_all d j (by omega)
          have hlen : ((d.data.toList.drop a).takeWhile St.bareC).length = j - a := by rw [HQ.out, hnil]; simp
          have hf2 := HFB.out
          rw [hlen, List.drop_drop, show a + (j - a) = j by omega] at hf2
          have HF := hid hf2
          have heb := hid (show St.endB (d.data.toList.drop j) = true by rw [hnil]; rfl)
          have z2 : ¬ (j : Int) < d.size := by omega
          have z4 : (((j : Int) == (d.size : Int)) = true) := by simp; omega
          clear hf2 hlen hnil hje hjl HQ
          go_wp2_with fail
          go_region
          all_goals
            go_wp2
            go_ret3
            exact fe_done HF.out heb.out (by omega) HU.out.drew
  · have hnil0 := St.drop_all d a (by omega)
    have HFB := hid (St.field_b (l := d.data.toList.drop a) (fun c r e => by rw [hnil0] at e; cases e))
    have z1 : ¬ (a : Int) < d.size := by omega
    clear hnil0
    go_enter Tryz.func55, Tryz.ntmps55
    go_wp2
    go_loopw [4] (fun s4 wr => BRel w d a s4 wr) (fun s4 _ => d.size + 1 - (intOf s4).toNat)
    case atStart => exact ⟨a, rfl, by omega, by omega, by simp, Und.refl _⟩
    case round =>
      obtain ⟨j, rfl, hj1, hj2, hq, hu⟩ := hrel
      have HQ := hid hq
      have HU := hid hu
      clear hq hu
      by_cases hjl : j < d.size
      · exact absurd hjl (by omega)
      · have hje : j = d.size := by omega
        have hnil := St.drop_all d j (by omega)
        have hlen : ((d.data.toList.drop a).takeWhile St.bareC).length = j - a := by rw [HQ.out, hnil]; simp
        have hf2 := HFB.out
        rw [hlen, List.drop_drop, show a + (j - a) = j by omega] at hf2
        have HF := hid hf2
        have heb := hid (show St.endB (d.data.toList.drop j) = true by rw [hnil]; rfl)
        have z2 : ¬ (j : Int) < d.size := by omega
        have z4 : (((j : Int) == (d.size : Int)) = true) := by simp; omega
        clear hf2 hlen hnil hje hjl HQ
        go_wp2_with fail
        go_region
        all_goals
          go_wp2
          go_ret3
          exact fe_done HF.out heb.out (by omega) HU.out.drew
end Go.Proofs.YtdchoobekngehaaGreatDoor
