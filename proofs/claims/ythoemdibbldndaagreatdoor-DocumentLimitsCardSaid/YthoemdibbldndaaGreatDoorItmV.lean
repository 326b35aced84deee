/- The contracts of item's isTag, width, Length, fits, wellFormed and Validate: what they give is St.isTagK, St.widthI, St.lenL, no clash, St.wfL, St.validL. Conditions: lists and texts lie in memory and are no longer than they can be. -/
import Derived.Test.YthoemdibbldndaaGreatDoorItmN
set_option linter.unusedVariables false
set_option linter.unusedSimpArgs false
namespace Go.Proofs.YthoemdibbldndaaGreatDoor
open Go.RowKit

theorem itag_any (k : Int) (t : ByteArray) (i : Int) (w : World) : Calls Tryz.prog 114 #[.agg #[.int .i64 k, .string t, .int .i64 i]] w fun e w' => e = .returned (.bool (St.isTagK k)) ∧ Und w w' := by
  by_cases h2 : k = 2
  · subst h2
    go_enter Tryz.func114, Tryz.ntmps114
    go_wp2
    go_ret
    exact ⟨rfl, (by repeat (first | exact Und.refl _ | assumption | refine Und.under ?_ _ | refine Und.alloc ?_ _ | refine Und.drew ?_ | refine Und.drewN ?_ _))⟩
  · have z2 : (k == 2) = false := by simpa using h2
    by_cases h3 : k = 3
    · subst h3
      go_enter Tryz.func114, Tryz.ntmps114
      go_wp2
      go_ret
      exact ⟨rfl, (by repeat (first | exact Und.refl _ | assumption | refine Und.under ?_ _ | refine Und.alloc ?_ _ | refine Und.drew ?_ | refine Und.drewN ?_ _))⟩
    · have z3 : (k == 3) = false := by simpa using h3
      by_cases h4 : k = 4
      · subst h4
        go_enter Tryz.func114, Tryz.ntmps114
        go_wp2
        go_ret
        exact ⟨rfl, (by repeat (first | exact Und.refl _ | assumption | refine Und.under ?_ _ | refine Und.alloc ?_ _ | refine Und.drew ?_ | refine Und.drewN ?_ _))⟩
      · have z4 : (k == 4) = false := by simpa using h4
        have hr := hid (show St.isTagK k = false by unfold St.isTagK; simp [h2, h3, h4])
        clear h2 h3 h4
        go_enter Tryz.func114, Tryz.ntmps114
        go_wp2
        go_ret
        exact ⟨ret_bool hr.out.symm, (by repeat (first | exact Und.refl _ | assumption | refine Und.under ?_ _ | refine Und.alloc ?_ _ | refine Und.drew ?_ | refine Und.drewN ?_ _))⟩
theorem iwidth_any (k : Int) (t : List UInt8) (i : Int) (w : World) : Calls Tryz.prog 86 #[.agg #[.int .i64 k, .string ⟨t.toArray⟩, .int .i64 i]] w fun e w' => e = .returned (.int .i64 (St.widthI (k, t, i) : Nat)) ∧ Und w w' := by
  have htz : (⟨t.toArray⟩ : ByteArray).size = t.length := by show t.toArray.size = _; simp
  by_cases h : k = 1
  · subst h
    have hr := hid (show St.widthI (1, t, i) = t.length by unfold St.widthI; simp)
    go_enter Tryz.func86, Tryz.ntmps86
    go_wp2
    go_ret
    exact ⟨ret_int (by rw [hr.out, ← htz]), (by repeat (first | exact Und.refl _ | assumption | refine Und.under ?_ _ | refine Und.alloc ?_ _ | refine Und.drew ?_ | refine Und.drewN ?_ _))⟩
  · have z : (k == 1) = false := by simpa using h
    have hr := hid (show St.widthI (k, t, i) = 1 by unfold St.widthI; simp [h])
    clear h
    go_enter Tryz.func86, Tryz.ntmps86
    go_wp2
    go_ret
    exact ⟨ret_int (by rw [hr.out]; rfl), (by repeat (first | exact Und.refl _ | assumption | refine Und.under ?_ _ | refine Und.alloc ?_ _ | refine Und.drew ?_ | refine Und.drewN ?_ _))⟩

def IlRel (w : World) (f : List St.It) (s3 s8 : Value) (wr : World) : Prop := ∃ k : Nat, k ≤ f.length ∧ s8 = .int .i64 k ∧ s3 = .int .i64 (St.lenL (f.take k) : Nat) ∧ Und w wr
theorem lenL_le (f : List St.It) (k : Nat) : St.lenL (f.take k) ≤ St.lenL f := by
  have : St.lenL f = St.lenL (f.take k) + St.lenL (f.drop k) := by
    conv => lhs; rw [← List.take_append_drop k f]
    unfold St.lenL; rw [List.map_append, List.sum_append]
  omega
set_option maxHeartbeats 3200000 in
theorem ilength_any (A : Option Addr) (n c : Nat) (f : List St.It) (w : World) (hn : f.length = n) (h : ItemsAt w A f) (hl : n ≤ 1000000000000) (ht : tot f ≤ 4611686018427387904) :
    Calls Tryz.prog 48 #[.slice A n c] w fun e w' => e = .returned (.int .i64 (St.lenL f : Nat)) ∧ Und w w' := by
  have H := hid h
  have HN := hid hn
  have hll := lenL_tot f
  clear h hn
  go_enter Tryz.func48, Tryz.ntmps48
  go_wp2
  go_loopw [3, 8] (fun s3 s8 wr => IlRel w f s3 s8 wr) (fun _ s8 _ => n + 1 - (intOf s8).toNat)
  case atStart => exact ⟨0, by omega, rfl, rfl, Und.refl _⟩
  case round =>
    obtain ⟨k, hk, rfl, rfl, hu⟩ := hrel
    have HU := hid hu
    clear hu
    have hN := HN.out
    by_cases hlt : k < n
    · have hlt2 : k < f.length := by omega
      obtain ⟨b, off, rfl, hb, hc⟩ := (H.out.und HU.out) (by omega)
      obtain ⟨c0, c1, c2⟩ := hc k hlt2
      have hlk := lenL_take f k hlt2
      have hle := lenL_le f (k + 1)
      have hxl := tot_at f k hlt2
      have hT := tot_le f k
      generalize f[k] = x at c0 c1 c2 hlk hxl
      obtain ⟨kd, tx, id⟩ := x
      simp only at c0 c1 c2 hxl
      have hwd := hid (fun W => iwidth_any kd tx id W)
      generalize St.widthI (kd, tx, id) = wd at hwd hlk
      haveI : LtW b wr := LtW.of hb
      have hlk2 : ((St.lenL (f.take (k + 1)) : Nat) : Int) = ((St.lenL (f.take k) : Nat) : Int) + (wd : Int) := by omega
      have HLK := hid hlk2
      have hsm : St.lenL (f.take k) + wd ≤ 4611686018427387904 + 1000000000000 := by omega
      generalize St.lenL (f.take k) = m at HLK hsm ⊢
      clear hc hlt2 hlk hlk2 hle hll hxl hT
      go_wp2_with fail
      refine (hwd.out _).mono ?_
      rintro e w3 ⟨rfl, hu3⟩
      have HU3 := hid (HU.out.trans (Und.trans ((by repeat (first | exact Und.refl _ | assumption | refine Und.under ?_ _ | refine Und.alloc ?_ _ | refine Und.drew ?_ | refine Und.drewN ?_ _))) hu3))
      clear hu3 c0 c1 c2
      go_wp2
      exact ⟨⟨k + 1, by omega, congrArg (Value.int .i64) (by omega), by rw [HLK.out], HU3.out⟩, by simp [intOf]; omega⟩
    · have hkn : k = n := by omega
      subst hkn
      have hr := hid (show St.lenL (f.take k) = St.lenL f by rw [List.take_of_length_le (by omega)])
      clear hlt hll
      go_wp2
      go_ret
      exact ⟨ret_int (by rw [hr.out]), HU.out⟩
end Go.Proofs.YthoemdibbldndaaGreatDoor
