/- The contract of the reference's field: what it gives is St.fieldL. -/
import Derived.Test.YtofhaokbklfmmaaDoorSheetField
import Derived.Deep.QuietTactic
import Derived.BigQuiet
import Derived.LoopN
namespace Go.Proofs.YtofhaokbklfmmaaDoor
open Go.RowKit

set_option maxRecDepth 20000 in
set_option maxHeartbeats 6400000 in
theorem rfield_any (d : ByteArray) (a : Nat) (w : World) (ha : a ≤ d.size) (hd : d.size ≤ 4611686018427387904) : Calls Tryd.prog 60 #[.string d, .int .i64 a] w (FieldEnd (d.data.toList.drop a) a w) := by
  by_cases hlt : a < d.size
  · have hcons := St.drop_at d a hlt
    by_cases c34 : d[a].toNat = 34
    · have hF := St.field_q (r := d.data.toList.drop (a + 1)) c34
      rw [← hcons] at hF
      have HF := hid hF
      have z1 : (a : Int) < d.size := by omega
      have b34 : ((d[a].toNat : Int) == 34) = true := by simp; omega
      clear hF hcons
      go_enter Tryd.func60, Tryd.ntmps60
      go_wp2
      go_loopw [8] (fun s4 wr => QRel w d (a + 1) s4 wr) (fun s4 _ => d.size + 1 - (intOf s4).toNat)
      case atStart => exact ⟨a + 1, congrArg (Value.int .i64) (by omega), by omega, by omega, by cases St.quotedL (d.data.toList.drop (a + 1)) <;> simp, Und.refl _⟩
      case round =>
        obtain ⟨j, rfl, hj1, hj2, hq, hu⟩ := hrel
        have HQ := hid hq
        have HU := hid hu
        clear hq hu
        by_cases hjl : j < d.size
        · have hjc := St.drop_at d j hjl
          have z2 : (j : Int) < d.size := by omega
          by_cases q34 : d[j].toNat = 34
          · have q34' : ((d[j].toNat : Int) == 34) = true := by simp; omega
            by_cases hjl2 : j + 1 < d.size
            · have hjc2 := St.drop_at d (j + 1) hjl2
              have z3 : (j : Int) + 1 < d.size := by omega
              by_cases p34 : d[j + 1].toNat = 34
              · have hs := St.quoted_two (r := d.data.toList.drop (j + 1 + 1)) q34 p34
                rw [← hjc2, ← hjc] at hs
                have HS := hid hs
                have p34' : ((d[j + 1].toNat : Int) == 34) = true := by simp; omega
                clear hs hjc hjc2 HF
                go_wp2
                refine ⟨⟨j + 2, congrArg (Value.int .i64) (by omega), by omega, by omega, ?_, HU.out⟩, by simp [intOf]; omega⟩
                rw [HQ.out, HS.out]
                cases St.quotedL (d.data.toList.drop (j + 1 + 1)) with
                | none => rfl
                | some n => simp; omega
              · have hs := St.quoted_end (r := d.data.toList.drop (j + 1 + 1)) q34 p34
                rw [← hjc2, ← hjc] at hs
                have HS := hid hs
                have p34' : ((d[j + 1].toNat : Int) == 34) = false := by simp; omega
                have hq2 : St.quotedL (d.data.toList.drop (a + 1)) = some (j - a) := by rw [HQ.out, HS.out]; simp; omega
                have hf2 := hid (fe_q HF.out hq2 hj1)
                have hec : St.endB (d.data.toList.drop (j + 1)) = decide (d[j + 1].toNat = 44 ∨ d[j + 1].toNat = 10) := by rw [hjc2]; rfl
                have z4 : (((j : Int) + 1 == (d.size : Int)) = false) := by simp; omega
                have z5 : ¬ (d.size : Int) ≤ (j : Int) := by omega
                clear hs hjc hjc2 b34 hlt c34 HF HQ HS hq2
                have HF := hf2
                clear hf2
                by_cases k44 : d[j + 1].toNat = 44
                · have m44 : ((d[j + 1].toNat : Int) == 44) = true := by simp; omega
                  have heb := hid (show St.endB (d.data.toList.drop (j + 1)) = true by rw [hec]; simp [k44])
                  clear hec
                  go_wp2_with fail
                  go_quiet (fail)
                  go_wp2
                  go_ret3
                  exact fe_done HF.out heb.out (by omega) (by repeat (first | exact Und.refl _ | assumption | refine Und.under ?_ _ | refine Und.alloc ?_ _ | refine Und.drew ?_ | refine Und.drewN ?_ _))
                · have m44 : ((d[j + 1].toNat : Int) == 44) = false := by simp; omega
                  by_cases k10 : d[j + 1].toNat = 10
                  · have m10 : ((d[j + 1].toNat : Int) == 10) = true := by simp; omega
                    have heb := hid (show St.endB (d.data.toList.drop (j + 1)) = true by rw [hec]; simp [k10])
                    clear hec
                    go_wp2_with fail
                    go_quiet (fail)
                    go_wp2
                    go_ret3
                    exact fe_done HF.out heb.out (by omega) (by repeat (first | exact Und.refl _ | assumption | refine Und.under ?_ _ | refine Und.alloc ?_ _ | refine Und.drew ?_ | refine Und.drewN ?_ _))
                  · have m10 : ((d[j + 1].toNat : Int) == 10) = false := by simp; omega
                    have heb := hid (show St.endB (d.data.toList.drop (j + 1)) = false by rw [hec]; simp [k44, k10])
                    clear hec
                    go_wp2_with fail
                    go_quiet (fail)
                    go_wp2
                    go_ret3
                    exact fe_done HF.out heb.out (by omega) (by repeat (first | exact Und.refl _ | assumption | refine Und.under ?_ _ | refine Und.alloc ?_ _ | refine Und.drew ?_ | refine Und.drewN ?_ _))
            · have hje : j + 1 = d.size := by omega
              have hnil := St.drop_all d (j + 1) (by omega)
              have hs := St.quoted_last q34
              rw [hnil] at hjc
              rw [← hjc] at hs
              have hq2 : St.quotedL (d.data.toList.drop (a + 1)) = some (j - a) := by rw [HQ.out, hs]; simp; omega
              have hf2 := hid (fe_q HF.out hq2 hj1)
              have heb := hid (show St.endB (d.data.toList.drop (j + 1)) = true by rw [hnil]; rfl)
              have z3 : ¬ (j : Int) + 1 < d.size := by omega
              have z4 : (((j : Int) + 1 == (d.size : Int)) = true) := by simp; omega
              have z5 : ¬ (d.size : Int) ≤ (j : Int) := by omega
              clear hs hjc hnil b34 hlt c34 HF HQ hq2 hje hjl2
              have HF := hf2
              clear hf2
              go_wp2_with fail
              go_quiet (fail)
              go_wp2
              go_ret3
              exact fe_done HF.out heb.out (by omega) (by repeat (first | exact Und.refl _ | assumption | refine Und.under ?_ _ | refine Und.alloc ?_ _ | refine Und.drew ?_ | refine Und.drewN ?_ _))
          · have hs := St.quoted_plain (r := d.data.toList.drop (j + 1)) q34
            rw [← hjc] at hs
            have HS := hid hs
            have q34' : ((d[j].toNat : Int) == 34) = false := by simp; omega
            clear hs hjc HF
            go_wp2
            refine ⟨⟨j + 1, congrArg (Value.int .i64) (by omega), by omega, by omega, ?_, HU.out⟩, by simp [intOf]; omega⟩
            rw [HQ.out, HS.out]
            cases St.quotedL (d.data.toList.drop (j + 1)) with
            | none => rfl
            | some n => simp; omega
        · have hje : j = d.size := by omega
          subst hje
          have hnil : d.data.toList.drop d.size = [] := List.drop_of_length_le (by simp)
          have hq2 : St.quotedL (d.data.toList.drop (a + 1)) = none := by rw [HQ.out, hnil]; rfl
          have HQ2 := hid hq2
          clear hjl hq2 hnil
          go_wp2
          go_ret3
          refine ⟨HU.out, ?_⟩
          rw [HF.out, HQ2.out]
          exact ⟨_, _, rfl⟩
    · have c34' : ((d[a].toNat : Int) == 34) = false := by simp; omega
      have HFB := hid (St.field_b (l := d.data.toList.drop a) (fun c r e => by rw [hcons] at e; simp only [List.cons.injEq] at e; rw [← e.1]; exact c34))
      have z1 : (a : Int) < d.size := by omega
      clear hcons c34
      go_enter Tryd.func60, Tryd.ntmps60
      go_wp2
      go_loopw [8] (fun s4 wr => BRel w d a s4 wr) (fun s4 _ => d.size + 1 - (intOf s4).toNat)
      case atStart => exact ⟨a, rfl, by omega, by omega, by simp, Und.refl _⟩
      case round =>
        obtain ⟨j, rfl, hj1, hj2, hq, hu⟩ := hrel
        have HQ := hid hq
        have HU := hid hu
        clear hq hu
        by_cases hjl : j < d.size
        · have hjc := St.drop_at d j hjl
          have z2 : (j : Int) < d.size := by omega
          cases hbc : St.bareC d[j]
          · have htw : (d.data.toList.drop j).takeWhile St.bareC = [] := by rw [hjc, List.takeWhile_cons_of_neg (by simp [hbc])]
            have hlen : ((d.data.toList.drop a).takeWhile St.bareC).length = j - a := by rw [HQ.out, htw]; simp
            have hf2 := HFB.out
            rw [hlen, List.drop_drop, show a + (j - a) = j by omega] at hf2
            have HF := hid hf2
            have hec : St.endB (d.data.toList.drop j) = decide (d[j].toNat = 44 ∨ d[j].toNat = 10) := by rw [hjc]; rfl
            have z4 : (((j : Int) == (d.size : Int)) = false) := by simp; omega
            have hb3 : d[j].toNat = 34 ∨ d[j].toNat = 44 ∨ d[j].toNat = 10 := by
              unfold St.bareC at hbc
              have := of_decide_eq_false hbc
              omega
            clear hf2 hlen htw hjc hbc HQ HFB
            by_cases k34 : d[j].toNat = 34
            · have m34 : ((d[j].toNat : Int) == 34) = true := by simp; omega
              have k44 : d[j].toNat ≠ 44 := by omega
              have k10 : d[j].toNat ≠ 10 := by omega
              have m44 : ((d[j].toNat : Int) == 44) = false := by simp; omega
              have m10 : ((d[j].toNat : Int) == 10) = false := by simp; omega
              have heb := hid (show St.endB (d.data.toList.drop (j)) = false by rw [hec]; simp [k44, k10])
              clear hec hb3 k44 k10
              go_wp2_with fail
              go_quiet (fail)
              go_wp2
              go_ret3
              exact fe_done HF.out heb.out (by omega) (by repeat (first | exact Und.refl _ | assumption | refine Und.under ?_ _ | refine Und.alloc ?_ _ | refine Und.drew ?_ | refine Und.drewN ?_ _))
            · have m34 : ((d[j].toNat : Int) == 34) = false := by simp; omega
              by_cases k44 : d[j].toNat = 44
              · have m44 : ((d[j].toNat : Int) == 44) = true := by simp; omega
                have heb := hid (show St.endB (d.data.toList.drop (j)) = true by rw [hec]; simp [k44])
                clear hec
                go_wp2_with fail
                go_quiet (fail)
                go_wp2
                go_ret3
                exact fe_done HF.out heb.out (by omega) (by repeat (first | exact Und.refl _ | assumption | refine Und.under ?_ _ | refine Und.alloc ?_ _ | refine Und.drew ?_ | refine Und.drewN ?_ _))
              · have m44 : ((d[j].toNat : Int) == 44) = false := by simp; omega
                by_cases k10 : d[j].toNat = 10
                · have m10 : ((d[j].toNat : Int) == 10) = true := by simp; omega
                  have heb := hid (show St.endB (d.data.toList.drop (j)) = true by rw [hec]; simp [k10])
                  clear hec
                  go_wp2_with fail
                  go_quiet (fail)
                  go_wp2
                  go_ret3
                  exact fe_done HF.out heb.out (by omega) (by repeat (first | exact Und.refl _ | assumption | refine Und.under ?_ _ | refine Und.alloc ?_ _ | refine Und.drew ?_ | refine Und.drewN ?_ _))
                · exact absurd hb3 (by omega)
          · have hb3 : d[j].toNat ≠ 34 ∧ d[j].toNat ≠ 44 ∧ d[j].toNat ≠ 10 := by
              unfold St.bareC at hbc
              exact of_decide_eq_true hbc
            have m34 : ((d[j].toNat : Int) == 34) = false := by simp; omega
            have m44 : ((d[j].toNat : Int) == 44) = false := by simp; omega
            have m10 : ((d[j].toNat : Int) == 10) = false := by simp; omega
            have n34 : ((d[j].toNat : Int) != 34) = true := by simp; omega
            have n44 : ((d[j].toNat : Int) != 44) = true := by simp; omega
            have n10 : ((d[j].toNat : Int) != 10) = true := by simp; omega
            have htw : ((d.data.toList.drop j).takeWhile St.bareC).length = 1 + ((d.data.toList.drop (j + 1)).takeWhile St.bareC).length := by
              rw [hjc, List.takeWhile_cons_of_pos hbc]; simp; omega
            have HTW := hid htw
            clear htw hjc hbc hb3
            go_wp2
            refine ⟨⟨j + 1, congrArg (Value.int .i64) (by omega), by omega, by omega, ?_, HU.out⟩, by simp [intOf]; omega⟩
            rw [HQ.out, HTW.out]; omega
        · have hje : j = d.size := by omega
          subst hje
          have hnil : d.data.toList.drop d.size = [] := List.drop_of_length_le (by simp)
          have hlen : ((d.data.toList.drop a).takeWhile St.bareC).length = d.size - a := by rw [HQ.out, hnil]; simp
          have hf2 := HFB.out
          rw [hlen, List.drop_drop, show a + (d.size - a) = d.size by omega] at hf2
          have HF := hid hf2
          have heb := hid (show St.endB (d.data.toList.drop d.size) = true by rw [hnil]; rfl)
          clear hf2 hlen hnil HQ HFB
          go_wp2_with fail
          go_quiet (fail)
          go_wp2
          go_ret3
          exact fe_done HF.out heb.out (by omega) (by repeat (first | exact Und.refl _ | assumption | refine Und.under ?_ _ | refine Und.alloc ?_ _ | refine Und.drew ?_ | refine Und.drewN ?_ _))
  · have hae : a = d.size := by omega
    subst hae
    have hnil : d.data.toList.drop d.size = [] := List.drop_of_length_le (by simp)
    rw [hnil]
    go_enter Tryd.func60, Tryd.ntmps60
    go_wp2
    refine wp_loop_rounds 1 ?_
    rw [rounds_succ]
    go_wp2_with fail
    go_quiet (fail)
    go_wp2
    go_ret3
    exact ⟨(by repeat (first | exact Und.refl _ | assumption | refine Und.under ?_ _ | refine Und.alloc ?_ _ | refine Und.drew ?_ | refine Und.drewN ?_ _)), by rw [St.field_nil]; simp⟩
end Go.Proofs.YtofhaokbklfmmaaDoor
