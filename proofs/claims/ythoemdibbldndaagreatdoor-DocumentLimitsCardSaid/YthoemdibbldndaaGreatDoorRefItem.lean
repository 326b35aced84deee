/- The contracts of the reference's IsTag, Name, Block, IsContent and Length. Conditions: lists and texts lie in memory and are no longer than they can be. -/
import Derived.Test.YthoemdibbldndaaGreatDoorBas
import Derived.Test.YthoemdibbldndaaGreatDoorElem
import Derived.Deep.QuietTactic
import Derived.BigQuiet
set_option linter.unusedVariables false
set_option linter.unusedSimpArgs false
namespace Go.Proofs.YthoemdibbldndaaGreatDoor
open Go.RowKit

def itvI (x : St.It) : Value := .agg #[.int .i64 x.1, .string ⟨x.2.1.toArray⟩, .int .i64 x.2.2]
theorem istag_any (k : Int) (t : ByteArray) (i : Int) (w : World) : Calls Tryz.prog 108 #[.agg #[.int .i64 k, .string t, .int .i64 i]] w fun e w' => e = .returned (.bool (St.isTagK k)) ∧ Und w w' := by
  by_cases h2 : k = 2
  · subst h2
    go_enter Tryz.func108, Tryz.ntmps108
    go_wp2
    go_ret
    exact ⟨rfl, (by repeat (first | exact Und.refl _ | assumption | refine Und.under ?_ _ | refine Und.alloc ?_ _ | refine Und.drew ?_ | refine Und.drewN ?_ _))⟩
  · have z2 : (k == 2) = false := by simpa using h2
    by_cases h3 : k = 3
    · subst h3
      go_enter Tryz.func108, Tryz.ntmps108
      go_wp2
      go_ret
      exact ⟨rfl, (by repeat (first | exact Und.refl _ | assumption | refine Und.under ?_ _ | refine Und.alloc ?_ _ | refine Und.drew ?_ | refine Und.drewN ?_ _))⟩
    · have z3 : (k == 3) = false := by simpa using h3
      by_cases h4 : k = 4
      · subst h4
        go_enter Tryz.func108, Tryz.ntmps108
        go_wp2
        go_ret
        exact ⟨rfl, (by repeat (first | exact Und.refl _ | assumption | refine Und.under ?_ _ | refine Und.alloc ?_ _ | refine Und.drew ?_ | refine Und.drewN ?_ _))⟩
      · have z4 : (k == 4) = false := by simpa using h4
        have hr := hid (show St.isTagK k = false by unfold St.isTagK; simp [h2, h3, h4])
        clear h2 h3 h4
        go_enter Tryz.func108, Tryz.ntmps108
        go_wp2
        go_ret
        exact ⟨ret_bool hr.out.symm, (by repeat (first | exact Und.refl _ | assumption | refine Und.under ?_ _ | refine Und.alloc ?_ _ | refine Und.drew ?_ | refine Und.drewN ?_ _))⟩

def NmRel (s : ByteArray) (i : Value) : Prop := ∃ k : Nat, i = .int .i64 k ∧ k ≤ s.size ∧ (St.nameOf s.data.toList).length = k + (St.nameOf (s.data.toList.drop k)).length
set_option maxHeartbeats 1600000 in
theorem rname_any (s : ByteArray) (w : World) (hs : s.size ≤ 4611686018427387904) : Calls Tryz.prog 105 #[.string s] w fun e w' => ∃ t : ByteArray, e = .returned (.string t) ∧ t.data.toList = St.nameOf s.data.toList ∧ w = w' := by
  have hpre : St.nameOf s.data.toList = s.data.toList.take (St.nameOf s.data.toList).length := List.prefix_iff_eq_take.1 (List.takeWhile_prefix _)
  have HPRE := hid hpre
  clear hpre
  go_enter Tryz.func105, Tryz.ntmps105
  go_wp2
  go_loopw [3] (fun i wr => NmRel s i ∧ w = wr) (fun i _ => s.size + 1 - (intOf i).toNat)
  case atStart => exact ⟨⟨0, rfl, by omega, by simp⟩, rfl⟩
  case round =>
    obtain ⟨⟨k, rfl, hk, hl⟩, rfl⟩ := hrel
    by_cases hlt : k < s.size
    · have hcons := St.drop_at s k hlt
      have z1 : (k : Int) < s.size := by omega
      by_cases h32 : s[k].toNat = 32
      · have z2 : ((s[k].toNat : Int) == 32) = true := by simp; omega
        have hn : St.nameOf (s.data.toList.drop k) = [] := by rw [hcons]; unfold St.nameOf; rw [List.takeWhile_cons_of_neg (by simp [h32])]
        rw [hn] at hl
        have hr := hid (show (s.extract 0 k).data.toList = St.nameOf s.data.toList by rw [HPRE.out, hl, Lib.extract_data]; simp)
        have y1 : (0 : Int) ≤ (k : Int) := by omega
        have y2 : (k : Int) ≤ s.size := by omega
        clear hl hn hcons HPRE
        go_wp2
        go_ret
        exact ⟨_, rfl, hr.out, rfl⟩
      · have z2 : ((s[k].toNat : Int) == 32) = false := by simp; omega
        have hn : (St.nameOf (s.data.toList.drop k)).length = 1 + (St.nameOf (s.data.toList.drop (k + 1))).length := by
          rw [hcons]; unfold St.nameOf; rw [List.takeWhile_cons_of_pos (by simpa using h32)]; simp; omega
        have HL := hid (show (St.nameOf s.data.toList).length = (k + 1) + (St.nameOf (s.data.toList.drop (k + 1))).length by omega)
        clear hl hn hcons HPRE
        go_wp2
        exact ⟨⟨⟨k + 1, congrArg (Value.int .i64) (by omega), by omega, HL.out⟩, by trivial⟩, by simp [intOf]; omega⟩
    · have hke : k = s.size := by omega
      subst hke
      have z1 : ¬ (s.size : Int) < s.size := by omega
      have hn : St.nameOf (s.data.toList.drop s.size) = [] := by rw [List.drop_of_length_le (by simp)]; rfl
      rw [hn] at hl
      have hr := hid (show s.data.toList = St.nameOf s.data.toList by
        conv => rhs; rw [HPRE.out]
        rw [hl]
        exact (List.take_of_length_le (by simp)).symm)
      clear hl hn HPRE
      go_wp2
      go_ret
      exact ⟨s, rfl, hr.out, rfl⟩

theorem bl_eq (s : ByteArray) (l : List UInt8) : (s.toList == l) = decide (s.data.toList = l) := by
  rw [Lib.toList_data]
  by_cases h : s.data.toList = l
  · rw [h]; simp
  · simp [h]
set_option maxHeartbeats 1600000 in
theorem block_any (s : ByteArray) (w : World) : Calls Tryz.prog 109 #[.string s] w fun e w' => e = .returned (.bool (St.blockL s.data.toList)) ∧ w = w' := by
  have h1 := bl_eq s [112]
  have h2 := bl_eq s [104]
  have h3 := bl_eq s [108, 105]
  have h4 := bl_eq s [116, 100]
  have h5 := bl_eq s [116, 105, 116, 108, 101]
  have hr : St.blockL s.data.toList = (decide (s.data.toList = [112]) || (decide (s.data.toList = [104]) || (decide (s.data.toList = [108, 105]) || (decide (s.data.toList = [116, 100]) || decide (s.data.toList = [116, 105, 116, 108, 101]))))) := by
    unfold St.blockL; simp only [Bool.decide_or]
  rw [hr]
  generalize decide (s.data.toList = [112]) = b1 at h1 ⊢
  generalize decide (s.data.toList = [104]) = b2 at h2 ⊢
  generalize decide (s.data.toList = [108, 105]) = b3 at h3 ⊢
  generalize decide (s.data.toList = [116, 100]) = b4 at h4 ⊢
  generalize decide (s.data.toList = [116, 105, 116, 108, 101]) = b5 at h5 ⊢
  clear hr
  cases b1
  · cases b2
    · cases b3
      · cases b4
        · go_enter Tryz.func109, Tryz.ntmps109
          go_wp2
          go_ret
          exact ⟨by simp, rfl⟩
        · go_enter Tryz.func109, Tryz.ntmps109
          go_wp2
          go_ret
          exact ⟨by simp, rfl⟩
      · go_enter Tryz.func109, Tryz.ntmps109
        go_wp2
        go_ret
        exact ⟨by simp, rfl⟩
    · go_enter Tryz.func109, Tryz.ntmps109
      go_wp2
      go_ret
      exact ⟨by simp, rfl⟩
  · go_enter Tryz.func109, Tryz.ntmps109
    go_wp2
    go_ret
    exact ⟨by simp, rfl⟩

def LeRel (w : World) (f : List St.It) (s3 s7 : Value) (wr : World) : Prop := ∃ k : Nat, k ≤ f.length ∧ s7 = .int .i64 k ∧ s3 = .int .i64 (St.lenL (f.take k) : Nat) ∧ w = wr
theorem lenL_take (f : List St.It) (k : Nat) (h : k < f.length) : St.lenL (f.take (k + 1)) = St.lenL (f.take k) + St.widthI f[k] := by
  rw [List.take_add_one, List.getElem?_eq_getElem h]; exact St.lenL_snoc _ _
theorem lenL_tot (f : List St.It) : St.lenL f ≤ tot f + f.length := by
  induction f with
  | nil => simp [St.lenL]
  | cons x f ih =>
    have h1 : St.widthI x ≤ x.2.1.length + 1 := by unfold St.widthI; split <;> omega
    simp only [St.lenL, tot, List.map_cons, List.sum_cons, List.length_cons] at ih ⊢
    omega
set_option maxHeartbeats 1600000 in
theorem rlength_any (A : Option Addr) (n c : Nat) (f : List St.It) (w : World) (hn : f.length = n) (h : ItemsAt w A f) (hl : n ≤ 1000000000000) (ht : tot f ≤ 4611686018427387904) :
    Calls Tryz.prog 29 #[.slice A n c] w fun e w' => e = .returned (.int .i64 (St.lenL f : Nat)) ∧ w = w' := by
  have H := hid h
  have HN := hid hn
  clear h hn
  go_enter Tryz.func29, Tryz.ntmps29
  go_wp2
  go_loopw [3, 7] (fun s3 s7 wr => LeRel w f s3 s7 wr) (fun _ s7 _ => n + 1 - (intOf s7).toNat)
  case atStart => exact ⟨0, by omega, rfl, rfl, rfl⟩
  case round =>
    obtain ⟨k, hk, rfl, rfl, rfl⟩ := hrel
    have hN := HN.out
    have hb1 := lenL_tot (f.take k)
    have hb2 := tot_le f k
    by_cases hlt : k < n
    · have hlt2 : k < f.length := by omega
      obtain ⟨b, off, rfl, hb, hc⟩ := H.out (by omega)
      obtain ⟨c0, c1, c2⟩ := hc k hlt2
      have hst := lenL_take f k hlt2
      have hb3 := tot_le f (k + 1)
      rw [tot_take f k hlt2] at hb3
      generalize f[k] = x at c0 c1 c2 hst hb3
      obtain ⟨kd, tx, id⟩ := x
      simp only at c0 c1 c2 hb3
      generalize St.lenL (f.take k) = m at *
      haveI : LtW b w := LtW.of hb
      have hkl : (f.take k).length ≤ k := by simp; omega
      unfold St.widthI at hst
      simp only at hst
      by_cases hkd : kd = 1
      · subst hkd
        simp only [if_true] at hst
        have hz : (⟨tx.toArray⟩ : ByteArray).size = tx.length := by show tx.toArray.size = _; simp
        have y1 : m + tx.length ≤ 5000000000000000000 := by omega
        have HST := hid hst
        clear hst hc hb1 hb2
        go_wp2
        exact ⟨⟨k + 1, by omega, congrArg (Value.int .i64) (by omega), congrArg (Value.int .i64) (by rw [HST.out]; omega), rfl⟩, by simp [intOf]; omega⟩
      · have z1 : (kd == 1) = false := by simpa using hkd
        rw [if_neg hkd] at hst
        have HST := hid hst
        clear hst hc
        go_wp2
        exact ⟨⟨k + 1, by omega, congrArg (Value.int .i64) (by omega), congrArg (Value.int .i64) (by rw [HST.out]; omega), rfl⟩, by simp [intOf]; omega⟩
    · have hkn : k = n := by omega
      have hf : f.take k = f := List.take_of_length_le (by omega)
      rw [hf]
      subst hkn
      clear hf hb1 hb2
      go_wp2
      go_ret
      exact ⟨rfl, rfl⟩
end Go.Proofs.YthoemdibbldndaaGreatDoor
