/- The contracts of the reference's begins, text, slot and sheet element: what they give is St.sheetL. Condition: the text is no longer than a text can be. -/
import Derived.Test.YtiifjfbfkhhpeaaDoorElem
import Derived.Test.YtiifjfbfkhhpeaaDoorItemBox
import Derived.Laws.BytesArg
import Derived.WalkSpells
import Derived.Lib.Strings
import Derived.Lib.IndexBytes
import Derived.Outline
import Derived.IntWalk
set_option linter.unusedVariables false
set_option linter.unusedSimpArgs false
namespace Go.Proofs.YtiifjfbfkhhpeaaDoor
open Go.RowKit

/-- The value of an item. -/
def itv (k : Int) (t : List UInt8) : Value := .agg #[.int .i64 k, .string ⟨t.toArray⟩, .int .i64 0]
/-- What an element is answered as. -/
def elV : St.El → Value
  | none => .tuple #[.agg #[.int .i64 0, .string ⟨#[]⟩, .int .i64 0], .int .i64 0]
  | some (k, t, n) => .tuple #[itv k t, .int .i64 n]

theorem elV_form (E : St.El) : ∃ (k : Int) (x : ByteArray) (m : Int), elV E = .tuple #[.agg #[.int .i64 k, .string x, .int .i64 0], .int .i64 m] := by
  rcases E with _ | ⟨k, t, n⟩
  · exact ⟨_, _, _, rfl⟩
  · exact ⟨_, _, _, rfl⟩
theorem text_any (c : UInt8) (w : World) : Calls Tryd.prog 92 #[.int .u8 (c.toNat : Int)] w fun e w' => e = .returned (itv 1 [c]) ∧ Und w w' := by
  go_enter Tryd.func92, Tryd.ntmps92
  go_wp2
  exact bodyPost_ret (v := itv 1 [c]) (by simp [results, Tryd.results92, go_sem, itv]) rfl ⟨rfl, (by repeat (first | exact Und.refl _ | assumption | refine Und.under ?_ _ | refine Und.alloc ?_ _ | refine Und.drew ?_ | refine Und.drewN ?_ _))⟩

theorem begins_any (s t : ByteArray) (w : World) (hs : s.size ≤ 9223372036854775807) (ht : t.size ≤ 9223372036854775807) : Calls Tryd.prog 55 #[.string s, .string t] w fun e w' => e = .returned (.bool (preB t s)) ∧ w = w' := by
  by_cases h : t.size ≤ s.size
  · have z : (t.size : Int) ≤ (s.size : Int) := by omega
    go_enter Tryd.func55, Tryd.ntmps55
    go_wp2
    go_ret
    refine ⟨ret_bool ?_, rfl⟩
    unfold preB
    rw [Lib.toList_data, Lib.toList_data, Lib.extract_data, ← St.pre_take]
    simp
  · have z : ¬ (t.size : Int) ≤ (s.size : Int) := by omega
    have H := hid h
    clear h
    have hz : preB t s = false := St.pre_long _ _ (by have := H.out; simp; omega)
    go_enter Tryd.func55, Tryd.ntmps55
    go_wp2
    go_ret
    exact ⟨ret_bool (by first | rfl | exact hz.symm), rfl⟩

def twL (l : List UInt8) : List UInt8 := l.takeWhile (fun c => decide (c.toNat ≠ 125))
def SlRel (s : ByteArray) (w : World) (i : Value) (wr : World) : Prop :=
  ∃ k : Nat, i = .int .i64 k ∧ 1 ≤ k ∧ k ≤ 26 ∧ (twL (s.data.toList.drop 1)).length = (k - 1) + (twL (s.data.toList.drop k)).length ∧ (w.alloc (.cells #[.int .i64 0, .string ⟨#[]⟩, .int .i64 0] 57)) = wr
theorem slot_none1 {l : List UInt8} (h : ¬ (twL (l.drop 1)).length + 1 < l.length) : St.slotL l = none := by
  unfold St.slotL
  simp only []
  have e : decide ((twL (l.drop 1)).length + 1 < l.length) = false := decide_eq_false h
  unfold twL at e
  rw [e]; rfl
theorem slot_none2 {l : List UInt8} (h : St.isNameL (twL (l.drop 1)) = false) : St.slotL l = none := by
  unfold St.slotL
  simp only []
  unfold twL at h
  rw [h]; simp
theorem slot_some {l : List UInt8} (h1 : (twL (l.drop 1)).length + 1 < l.length) (h : St.isNameL (twL (l.drop 1)) = true) : St.slotL l = some (twL (l.drop 1), (twL (l.drop 1)).length + 2) := by
  unfold St.slotL
  simp only []
  have e : decide ((twL (l.drop 1)).length + 1 < l.length) = true := decide_eq_true h1
  unfold twL at e h ⊢
  rw [e, h]; rfl
theorem name_big {l : List UInt8} (h : 24 < l.length) : St.isNameL l = false := by
  cases l with
  | nil => rfl
  | cons c r =>
    rw [St.isNameL]
    have : ¬ r.length ≤ 23 := by simp at h; omega
    rw [decide_eq_false this]; rfl

set_option maxRecDepth 20000 in
set_option maxHeartbeats 3200000 in
theorem slot_any (s : ByteArray) (w : World) (hs : s.size ≤ 4611686018427387904) (h0 : 1 ≤ s.size) :
    Calls Tryd.prog 93 #[.string s] w fun e w' => e = .returned (elV ((St.slotL s.data.toList).map fun x => (5, x.1, x.2))) ∧ Und w w' := by
  have hlen := St.len_list s
  go_enter Tryd.func93, Tryd.ntmps93
  go_wp2
  go_loopw [4] (fun i wr => SlRel s w i wr) (fun i _ => 27 - (intOf i).toNat)
  case atStart => exact ⟨1, rfl, by omega, by omega, by simp, rfl⟩
  case round =>
    obtain ⟨k, rfl, hk1, hk2, hk3, rfl⟩ := hrel
    have HK := hid hk3
    have HL := hid hlen
    clear hk3 hlen
    by_cases hlt : k < s.size
    · have hcons := St.drop_at s k hlt
      have z1 : (k : Int) < s.size := by omega
      by_cases h25 : k ≤ 25
      · have z2 : (k : Int) ≤ 25 := by omega
        by_cases hc : s[k].toNat = 125
        · have z3 : ((s[k].toNat : Int) == 125) = true := by simp; omega
          have htw : twL (s.data.toList.drop k) = [] := by rw [hcons]; unfold twL; rw [List.takeWhile_cons_of_neg (by simp [hc])]
          have hn : (twL (s.data.toList.drop 1)).length = k - 1 := by rw [HK.out, htw]; simp
          obtain ⟨x, hX⟩ : ∃ x, s.extract 1 k = x := ⟨_, rfl⟩
          have hxl : x.data.toList = twL (s.data.toList.drop 1) := by
            have h1 : twL (s.data.toList.drop 1) = (s.data.toList.drop 1).take (twL (s.data.toList.drop 1)).length := List.prefix_iff_eq_take.1 (List.takeWhile_prefix _)
            rw [h1, hn, ← hX, Lib.extract_data]
          have hxs : x.size ≤ s.size := by rw [← hX]; simp; omega
          have hnm := fun W => risname_any x W (by omega)
          have y1 : (1 : Int) ≤ (k : Int) := by omega
          have y2 : (k : Int) ≤ s.size := by omega
          rw [hxl] at hnm
          cases hb : St.isNameL (twL (s.data.toList.drop 1))
          · have hR := hid (slot_none2 hb)
            rw [hb] at hnm
            have HNM := hid hnm
            clear hb hnm hxl hn htw hcons
            go_wp2_with (go_at_call 90; refine (HNM.out _).mono ?_; rintro e w' ⟨rfl, rfl⟩)
            refine bodyPost_ret (v := elV none) (by simp [results, Tryd.results93, go_sem, elV]) rfl ⟨?_, (by repeat (first | exact Und.refl _ | assumption | refine Und.under ?_ _ | refine Und.alloc ?_ _ | refine Und.drew ?_ | refine Und.drewN ?_ _))⟩
            rw [hR.out]; try rfl
          · have hR := hid (slot_some (by rw [hn, HL.out]; omega) hb)
            rw [hb] at hnm
            have HNM := hid hnm
            have hxe : x = ⟨(twL (s.data.toList.drop 1)).toArray⟩ := by rw [← hxl]; try (cases x; simp)
            have HN := hid hn
            have HXE := hid hxe
            clear hb hnm hxl hn htw hcons hxe
            go_wp2_with (go_at_call 90; refine (HNM.out _).mono ?_; rintro e w' ⟨rfl, rfl⟩)
            refine bodyPost_ret (v := .tuple #[.agg #[.int .i64 5, .string x, .int .i64 0], .int .i64 ((k : Int) + 1)]) (by simp [results, Tryd.results93, go_sem]) rfl ⟨?_, (by repeat (first | exact Und.refl _ | assumption | refine Und.under ?_ _ | refine Und.alloc ?_ _ | refine Und.drew ?_ | refine Und.drewN ?_ _))⟩
            rw [hR.out, HXE.out]
            have e : ((k - 1 + 2 : Nat) : Int) = (k : Int) + 1 := by omega
            show _ = Ending.returned (.tuple #[itv 5 (twL (s.data.toList.drop 1)), .int .i64 (((twL (s.data.toList.drop 1)).length + 2 : Nat) : Int)])
            rw [HN.out, e]; rfl
        · have z3 : ((s[k].toNat : Int) == 125) = false := by simp; omega
          have htw : (twL (s.data.toList.drop k)).length = 1 + (twL (s.data.toList.drop (k + 1))).length := by
            rw [hcons]; unfold twL; rw [List.takeWhile_cons_of_pos (by simpa using hc)]; simp; omega
          have HTW := hid htw
          clear htw hcons
          go_wp2
          exact ⟨⟨k + 1, congrArg (Value.int .i64) (by omega), by omega, by omega, by rw [HK.out, HTW.out]; omega, rfl⟩, by simp [intOf]; omega⟩
      · have z2 : ¬ (k : Int) ≤ 25 := by omega
        have hR := hid (slot_none2 (name_big (l := twL (s.data.toList.drop 1)) (by rw [HK.out]; omega)))
        clear hcons
        go_wp2
        refine bodyPost_ret (v := elV none) (by simp [results, Tryd.results93, go_sem, elV]) rfl ⟨?_, (by repeat (first | exact Und.refl _ | assumption | refine Und.under ?_ _ | refine Und.alloc ?_ _ | refine Und.drew ?_ | refine Und.drewN ?_ _))⟩
        rw [hR.out]; try rfl
    · have z1 : ¬ (k : Int) < s.size := by omega
      have hR := hid (slot_none1 (l := s.data.toList) (by rw [HK.out, HL.out]; omega))
      go_wp2
      refine bodyPost_ret (v := elV none) (by simp [results, Tryd.results93, go_sem, elV]) rfl ⟨?_, (by repeat (first | exact Und.refl _ | assumption | refine Und.under ?_ _ | refine Und.alloc ?_ _ | refine Und.drew ?_ | refine Und.drewN ?_ _))⟩
      rw [hR.out]; try rfl

theorem text_at (c : UInt8) (m : Int) (hm : m = (c.toNat : Int)) (w : World) : Calls Tryd.prog 92 #[.int .u8 m] w fun e w' => e = .returned (.agg #[.int .i64 1, .string ⟨#[c]⟩, .int .i64 0]) ∧ Und w w' := by
  subst hm; exact text_any c w

set_option maxRecDepth 20000 in
set_option maxHeartbeats 3200000 in
theorem rsheet_any (s : ByteArray) (w : World) (hs : s.size ≤ 4611686018427387904) (h0 : 1 ≤ s.size) :
    Calls Tryd.prog 67 #[.string s] w fun e w' => e = .returned (elV (St.sheetL s.data.toList)) ∧ Und w w' := by
  have hcr : s.data.toList = s[0] :: s.data.toList.drop 1 := St.list_zero s (by omega)
  have hp1 := fun W => begins_any s ⟨#[34, 34]⟩ W (by omega) (by show 2 ≤ _; omega)
  have hp2 := fun W => begins_any s ⟨#[123, 123]⟩ W (by omega) (by show 2 ≤ _; omega)
  have e1 : preB ⟨#[34, 34]⟩ s = ([34, 34] : List UInt8).isPrefixOf (s[0] :: s.data.toList.drop 1) := by unfold preB; rw [← hcr]
  have e2 : preB ⟨#[123, 123]⟩ s = ([123, 123] : List UInt8).isPrefixOf (s[0] :: s.data.toList.drop 1) := by unfold preB; rw [← hcr]
  have z0 : 0 < s.size := by omega
  by_cases c34 : s[0].toNat = 34
  · have hsl := St.sheet_34 (r := s.data.toList.drop 1) c34
    rw [← e1, ← hcr] at hsl
    have htx := hid (fun W => text_at s[0] 34 (by omega) W)
    cases hq1 : preB ⟨#[34, 34]⟩ s
    · rw [hq1] at hsl hp1
      have HSL := hid hsl
      have HP1 := hid hp1
      clear hsl hp1 hp2 e1 e2 hq1 hcr
      go_enter Tryd.func67, Tryd.ntmps67
      go_wp2_with (go_at_call 55; refine (HP1.out _).mono ?_; rintro e w' ⟨rfl, rfl⟩)
      refine bodyPost_ret (v := elV none) (by simp [results, Tryd.results67, go_sem, elV]) rfl ⟨?_, (by repeat (first | exact Und.refl _ | assumption | refine Und.under ?_ _ | refine Und.alloc ?_ _ | refine Und.drew ?_ | refine Und.drewN ?_ _))⟩
      rw [HSL.out]; try rfl
    · rw [hq1] at hsl hp1
      have HSL := hid hsl
      have HP1 := hid hp1
      clear hsl hp1 hp2 e1 e2 hq1 hcr
      go_enter Tryd.func67, Tryd.ntmps67
      go_wp2_with (first | (go_at_call 55; refine (HP1.out _).mono ?_; rintro e w' ⟨rfl, rfl⟩) | (go_at_call 92; refine (htx.out _).mono ?_; rintro e w' ⟨rfl, X, rfl⟩))
      refine bodyPost_ret (v := elV (some (1, [s[0]], 2))) (by simp [results, Tryd.results67, go_sem, elV, itv]) rfl ⟨?_, (by repeat (first | exact Und.refl _ | assumption | refine Und.under ?_ _ | refine Und.alloc ?_ _ | refine Und.drew ?_ | refine Und.drewN ?_ _))⟩
      rw [HSL.out]; try rfl
  · by_cases c123 : s[0].toNat = 123
    · have hsl := St.sheet_123 (r := s.data.toList.drop 1) c123
      rw [← e2, ← hcr] at hsl
      have htx := hid (fun W => text_at s[0] 123 (by omega) W)
      cases hq2 : preB ⟨#[123, 123]⟩ s
      · rw [hq2] at hsl hp2
        simp only [Bool.false_eq_true, if_false] at hsl
        have HSL := hid hsl
        have HP2 := hid hp2
        have hslot := fun W => slot_any s W hs h0
        obtain ⟨k, x, m, hv⟩ := elV_form ((St.slotL s.data.toList).map fun x => ((5 : Int), x.1, x.2))
        have HV := hid hv
        rw [hv] at hslot
        have HS := hid hslot
        clear hsl hp1 hp2 e1 e2 hq2 hcr hslot hv
        go_enter Tryd.func67, Tryd.ntmps67
        go_wp2_with (first | (go_at_call 55; refine (HP2.out _).mono ?_; rintro e w' ⟨rfl, rfl⟩) | (go_at_call 93; refine (HS.out _).mono ?_; rintro e w' ⟨rfl, X, rfl⟩))
        refine bodyPost_ret (v := .tuple #[.agg #[.int .i64 k, .string x, .int .i64 0], .int .i64 m]) (by simp [results, Tryd.results67, go_sem]) rfl ⟨?_, (by repeat (first | exact Und.refl _ | assumption | refine Und.under ?_ _ | refine Und.alloc ?_ _ | refine Und.drew ?_ | refine Und.drewN ?_ _))⟩
        rw [HSL.out, HV.out]
      · rw [hq2] at hsl hp2
        have HSL := hid hsl
        have HP2 := hid hp2
        clear hsl hp1 hp2 e1 e2 hq2 hcr
        go_enter Tryd.func67, Tryd.ntmps67
        go_wp2_with (first | (go_at_call 55; refine (HP2.out _).mono ?_; rintro e w' ⟨rfl, rfl⟩) | (go_at_call 92; refine (htx.out _).mono ?_; rintro e w' ⟨rfl, X, rfl⟩))
        refine bodyPost_ret (v := elV (some (1, [s[0]], 2))) (by simp [results, Tryd.results67, go_sem, elV, itv]) rfl ⟨?_, (by repeat (first | exact Und.refl _ | assumption | refine Und.under ?_ _ | refine Und.alloc ?_ _ | refine Und.drew ?_ | refine Und.drewN ?_ _))⟩
        rw [HSL.out]; try rfl
    · have hsl := St.sheet_else (r := s.data.toList.drop 1) c34 c123
      rw [← hcr] at hsl
      have htx := hid (fun W => text_at s[0] (s[0].toNat : Int) rfl W)
      have d34 : ((s[0].toNat : Int) == 34) = false := by simp; omega
      have d123 : ((s[0].toNat : Int) == 123) = false := by simp; omega
      have HSL := hid hsl
      clear hsl hp1 hp2 e1 e2 hcr c34 c123
      go_enter Tryd.func67, Tryd.ntmps67
      go_wp2_with (go_at_call 92; refine (htx.out _).mono ?_; rintro e w' ⟨rfl, X, rfl⟩)
      refine bodyPost_ret (v := elV (some (1, [s[0]], 1))) (by simp [results, Tryd.results67, go_sem, elV, itv]) rfl ⟨?_, (by repeat (first | exact Und.refl _ | assumption | refine Und.under ?_ _ | refine Und.alloc ?_ _ | refine Und.drew ?_ | refine Und.drewN ?_ _))⟩
      rw [HSL.out]; try rfl
end Go.Proofs.YtiifjfbfkhhpeaaDoor
