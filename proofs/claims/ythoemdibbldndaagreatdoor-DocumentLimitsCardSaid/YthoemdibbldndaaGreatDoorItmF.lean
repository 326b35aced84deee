/- The contracts of item's fits, wellFormed and Validate: what they give is no clash, St.wfL, St.validL. Conditions: lists and texts lie in memory and are no longer than they can be. -/
import Derived.Test.YthoemdibbldndaaGreatDoorItmV
set_option linter.unusedVariables false
set_option linter.unusedSimpArgs false
namespace Go.Proofs.YthoemdibbldndaaGreatDoor
open Go.RowKit

set_option maxRecDepth 20000 in
set_option maxHeartbeats 6400000 in
theorem ifits_any (A : Option Addr) (n c : Nat) (f : List St.It) (k : Int) (t : List UInt8) (i : Int) (w : World) (hn : f.length = n) (h : ItemsAt w A f) (hl : n ≤ 1000000000000) (ht : tot f ≤ 4611686018427387904) :
    Calls Tryz.prog 115 #[.slice A n c, .agg #[.int .i64 k, .string ⟨t.toArray⟩, .int .i64 i]] w fun e w' => e = .returned (.bool (!(f.any (St.clash (k, t, i))))) ∧ Und w w' := by
  have H := hid h
  have HN := hid hn
  have HT := hid ht
  have HBU := hid ((Und.refl w).alloc (.cells #[.int .i64 k, .string ⟨t.toArray⟩, .int .i64 i] 36))
  clear h hn ht
  go_enter Tryz.func115, Tryz.ntmps115
  go_wp2
  go_loopw [9] (fun s9 wr => CkRel (w.alloc (.cells #[.int .i64 k, .string ⟨t.toArray⟩, .int .i64 i] 36)) f (k, t, i) n s9 wr) (fun s9 _ => n + 1 - (intOf s9).toNat)
  case atStart => exact ⟨0, by omega, rfl, by simp, (by repeat (first | exact Und.refl _ | assumption | refine Und.under ?_ _ | refine Und.alloc ?_ _ | refine Und.drew ?_ | refine Und.drewN ?_ _))⟩
  case round =>
    obtain ⟨j, hj, rfl, hcl, hu⟩ := hrel
    have HCL := hid hcl
    have HU := hid hu
    have HUB := hid (HBU.out.trans hu)
    have HT2 := HT.out
    have b0 : wr.cell? ⟨w.heap.size, 0, none⟩ = some (.int .i64 k) := (hu.cell (p := ⟨w.heap.size, 0, none⟩) (by simp)).trans (by simp)
    have b1 : wr.cell? ⟨w.heap.size, 1, none⟩ = some (.string ⟨t.toArray⟩) := (hu.cell (p := ⟨w.heap.size, 1, none⟩) (by simp)).trans (by simp)
    have b2 : wr.cell? ⟨w.heap.size, 2, none⟩ = some (.int .i64 i) := (hu.cell (p := ⟨w.heap.size, 2, none⟩) (by simp)).trans (by simp)
    haveI : LtW w.heap.size wr := LtW.of (World.block_lt_of_cell? _ _ b0)
    clear hcl hu
    by_cases hlt : j < n
    · have hlt2 : j < f.length := by rw [HN.out]; exact hlt
      obtain ⟨b, off, rfl, hb, hc⟩ := (H.out.und HUB.out) (by omega)
      obtain ⟨c0, c1, c2⟩ := hc j hlt2
      have hst := hid (ck_step HCL.out hlt2)
      have hfo := hid (ck_found (f := f) (x := (k, t, i)) hlt2)
      have hyl := hid (tot_at f j hlt2)
      generalize f[j] = y at c0 c1 c2 hst hfo hyl
      obtain ⟨yk, yt, yi⟩ := y
      simp only at c0 c1 c2
      haveI : LtW b wr := LtW.of hb
      clear hc hlt2
      go_wp2_with fail
      refine (itag_any yk ⟨yt.toArray⟩ yi _).mono ?_
      rintro e w3 ⟨rfl, hu3⟩
      have hu3' : Und wr w3 := Und.trans ((by repeat (first | exact Und.refl _ | assumption | refine Und.under ?_ _ | refine Und.alloc ?_ _ | refine Und.drew ?_ | refine Und.drewN ?_ _))) hu3
      have d0 : w3.cell? ⟨wr.heap.size, 0, none⟩ = some (.int .i64 yk) := (hu3.cell (p := ⟨wr.heap.size, 0, none⟩) (by simp)).trans (by simp)
      have d1 : w3.cell? ⟨wr.heap.size, 1, none⟩ = some (.string ⟨yt.toArray⟩) := (hu3.cell (p := ⟨wr.heap.size, 1, none⟩) (by simp)).trans (by simp)
      have d2 : w3.cell? ⟨wr.heap.size, 2, none⟩ = some (.int .i64 yi) := (hu3.cell (p := ⟨wr.heap.size, 2, none⟩) (by simp)).trans (by simp)
      have e0 : w3.cell? ⟨w.heap.size, 0, none⟩ = some (.int .i64 k) := (hu3'.cell (LtW.lt inferInstance)).trans b0
      have e1 : w3.cell? ⟨w.heap.size, 1, none⟩ = some (.string ⟨t.toArray⟩) := (hu3'.cell (LtW.lt inferInstance)).trans b1
      have e2 : w3.cell? ⟨w.heap.size, 2, none⟩ = some (.int .i64 i) := (hu3'.cell (LtW.lt inferInstance)).trans b2
      haveI : LtW w.heap.size w3 := LtW.of (World.block_lt_of_cell? _ _ e0)
      haveI : LtW wr.heap.size w3 := LtW.of (World.block_lt_of_cell? _ _ d0)
      have HU3 := hid (HU.out.trans hu3')
      clear hu3 hu3' b0 b1 b2 c0 c1 c2 HU HUB
      have hrel2 : St.clash (k, t, i) (yk, yt, yi) = false → CkRel (w.alloc (.cells #[.int .i64 k, .string ⟨t.toArray⟩, .int .i64 i] 36)) f (k, t, i) n (.int .i64 ((j : Int) + 1)) w3 := fun h => ⟨j + 1, by omega, congrArg (Value.int .i64) (by omega), hst.out h, HU3.out⟩
      have HREL2 := hid hrel2
      clear hrel2
      cases htk : St.isTagK yk
      · have hcf := hid (HREL2.out (by unfold St.clash; rw [htk]; rfl))
        clear htk HREL2
        go_wp2
        exact ⟨hcf.out, by simp [intOf]; omega⟩
      · by_cases hyi : yi = i
        · subst hyi
          have v1 : (yi == yi) = true := beq_self_eq_true _
          have v2 : (yi != yi) = false := by simp
          by_cases hk3 : k = 3
          · subst hk3
            by_cases hyk : yk = 2
            · subst hyk
              have hny := hid (fun W => iname_any yt W (Nat.le_trans hyl.out HT2))
              by_cases hnm : St.nameOf yt = t
              · have hcf := hid (HREL2.out (by unfold St.clash; simp [hnm]))
                have hb : ((⟨(St.nameOf yt).toArray⟩ : ByteArray).toList == (⟨t.toArray⟩ : ByteArray).toList) = true := by rw [hnm]; exact beq_self_eq_true _
                have hb2 : ((⟨(St.nameOf yt).toArray⟩ : ByteArray).toList != (⟨t.toArray⟩ : ByteArray).toList) = false := by rw [hnm]; simp
                clear htk HREL2
                go_wp2_with fail
                first | refine wp_region_under2 (by kernel_rfl) (by kernel_rfl) ?_ | refine wp_region_under (by kernel_rfl) (by kernel_rfl) ?_
                repeat (go_big_quiet_step (first | ((go_at_call 151; exact Calls.under_of (hny.out _)))))
                refine wpQuiet_nil ?_
                rintro _ ⟨X, rfl⟩
                go_wp2
                exact ⟨CkRel.und hcf.out (by repeat (first | exact Und.refl _ | assumption | refine Und.under ?_ _ | refine Und.alloc ?_ _ | refine Und.drew ?_ | refine Und.drewN ?_ _)), by simp [intOf]; omega⟩
              · have hct := hid (hfo.out (by unfold St.clash; simp [htk, hnm]))
                have hb3 : (St.nameOf yt == t) = false := by simpa using hnm
                have hb4 : (St.nameOf yt != t) = true := by simpa using hnm
                have hb : ((⟨(St.nameOf yt).toArray⟩ : ByteArray).toList == (⟨t.toArray⟩ : ByteArray).toList) = false := by rw [Lib.toList_data, Lib.toList_data]; simpa using hnm
                have hb2 : ((⟨(St.nameOf yt).toArray⟩ : ByteArray).toList != (⟨t.toArray⟩ : ByteArray).toList) = true := by rw [Lib.toList_data, Lib.toList_data]; simpa using hnm
                clear htk HREL2
                go_wp2_with fail
                first | refine wp_region_under2 (by kernel_rfl) (by kernel_rfl) ?_ | refine wp_region_under (by kernel_rfl) (by kernel_rfl) ?_
                repeat (go_big_quiet_step (first | ((go_at_call 151; exact Calls.under_of (hny.out _)))))
                refine wpQuiet_nil ?_
                rintro _ ⟨X, rfl⟩
                go_wp2
                go_ret
                refine ⟨ret_bool ?_, HBU.out.trans (HU3.out.trans (by repeat (first | exact Und.refl _ | assumption | refine Und.under ?_ _ | refine Und.alloc ?_ _ | refine Und.drew ?_ | refine Und.drewN ?_ _)))⟩
                rw [hct.out]; rfl
            · have v3 : (yk == 2) = false := by simpa using hyk
              have v4 : (yk != 2) = true := by simpa using hyk
              have hct := hid (hfo.out (by unfold St.clash; simp [htk, hyk]))
              clear htk HREL2 hyk
              go_wp2_with fail
              first | refine wp_region_under2 (by kernel_rfl) (by kernel_rfl) ?_ | refine wp_region_under (by kernel_rfl) (by kernel_rfl) ?_
              repeat (go_big_quiet_step (first | (fail)))
              refine wpQuiet_nil ?_
              rintro _ ⟨X, rfl⟩
              go_wp2
              go_ret
              refine ⟨ret_bool ?_, HBU.out.trans (HU3.out.trans (by repeat (first | exact Und.refl _ | assumption | refine Und.under ?_ _ | refine Und.alloc ?_ _ | refine Und.drew ?_ | refine Und.drewN ?_ _)))⟩
              rw [hct.out]; rfl
          · have v3 : (k == 3) = false := by simpa using hk3
            have v4 : (k != 3) = true := by simpa using hk3
            have hct := hid (hfo.out (by unfold St.clash; simp [htk, hk3]))
            clear htk HREL2 hk3
            go_wp2_with fail
            first | refine wp_region_under2 (by kernel_rfl) (by kernel_rfl) ?_ | refine wp_region_under (by kernel_rfl) (by kernel_rfl) ?_
            repeat (go_big_quiet_step (first | (fail)))
            refine wpQuiet_nil ?_
            rintro _ ⟨X, rfl⟩
            go_wp2
            go_ret
            refine ⟨ret_bool ?_, HBU.out.trans (HU3.out.trans (by repeat (first | exact Und.refl _ | assumption | refine Und.under ?_ _ | refine Und.alloc ?_ _ | refine Und.drew ?_ | refine Und.drewN ?_ _)))⟩
            rw [hct.out]; rfl
        · have v1 : (yi == i) = false := by simpa using hyi
          have v2 : (yi != i) = true := by simpa using hyi
          have hcf := hid (HREL2.out (by unfold St.clash; simp [hyi]))
          clear htk HREL2 hyi
          go_wp2
          exact ⟨hcf.out, by simp [intOf]; omega⟩
    · have hjn : j = n := by omega
      subst hjn
      have hnone := hid (ck_end HCL.out HN.out)
      clear hlt b0 b1 b2
      go_wp2
      go_ret
      refine ⟨ret_bool ?_, HBU.out.trans HU.out⟩
      rw [hnone.out]; rfl

/-- Has an item the fields of its kind? -/
def wfL (before : List St.It) (x : St.It) : Bool :=
  if x.1 = 1 then (!x.2.1.isEmpty && (decide (x.2.2 = 0) && (match before.getLast? with | none => true | some y => decide (y.1 ≠ 1))))
  else if x.1 = 5 then (St.isNameL x.2.1 && decide (x.2.2 = 0))
  else if x.1 = 2 ∨ x.1 = 4 then (St.isContentL x.2.1 && decide (1 ≤ x.2.2 ∧ x.2.2 ≤ 999))
  else if x.1 = 3 then (St.isNameL x.2.1 && decide (1 ≤ x.2.2 ∧ x.2.2 ≤ 999)) else false
theorem check_wf (before : List St.It) (x : St.It) : St.checkL before x = if wfL before x = true then (if (St.isTagK x.1 && before.any (St.clash x)) = true then 7 else 0) else 1 := by
  obtain ⟨k, t, i⟩ := x
  unfold St.checkL wfL
  have g1 : St.isTagK 1 = false := by decide
  have g5 : St.isTagK 5 = false := by decide
  have g2 : St.isTagK 2 = true := by decide
  have g3 : St.isTagK 3 = true := by decide
  have g4 : St.isTagK 4 = true := by decide
  by_cases k1 : k = 1
  · subst k1
    cases hg : before.getLast? with
    | none => cases t <;> by_cases hi : i = 0 <;> simp [hi, g1]
    | some y => cases t <;> by_cases hi : i = 0 <;> by_cases hy : y.1 = 1 <;> simp [hi, hy, g1]
  · by_cases k5 : k = 5
    · subst k5
      cases hb : St.isNameL t <;> by_cases hi : i = 0 <;> simp [hb, hi, g5]
    · by_cases k2 : k = 2
      · subst k2
        cases hb : St.isContentL t <;> by_cases hi : 1 ≤ i <;> by_cases hj : i ≤ 999 <;> simp [hb, hi, hj] <;> rw [g2, Bool.true_and]
      · by_cases k4 : k = 4
        · subst k4
          cases hb : St.isContentL t <;> by_cases hi : 1 ≤ i <;> by_cases hj : i ≤ 999 <;> simp [hb, hi, hj] <;> rw [g4, Bool.true_and]
        · by_cases k3 : k = 3
          · subst k3
            cases hb : St.isNameL t <;> by_cases hi : 1 ≤ i <;> by_cases hj : i ≤ 999 <;> simp [hb, hi, hj] <;> rw [g3, Bool.true_and]
          · simp [k1, k2, k3, k4, k5]
set_option maxRecDepth 20000 in
set_option maxHeartbeats 12800000 in
theorem iwf_any (b off n c j : Nat) (f : List St.It) (k : Int) (t : List UInt8) (i : Int) (w : World) (hn : f.length = n) (hj : j < n) (hx : f[j]? = some (k, t, i)) (h : ItemsAt w (some ⟨b, off, none⟩) f) (hl : n ≤ 1000000000000) (htl : t.length ≤ 4611686018427387904) :
    Calls Tryz.prog 113 #[.slice (some ⟨b, off, none⟩) n c, .int .i64 j] w fun e w' => e = .returned (.bool (wfL (f.take j) (k, t, i))) ∧ Und w w' := by
  have hj2 : j < f.length := by omega
  obtain ⟨b', off', e, hb, hc⟩ := h (by omega)
  obtain ⟨rfl, rfl⟩ : b = b' ∧ off = off' := by simp at e; exact e
  clear e
  obtain ⟨c0, c1, c2⟩ := hc j hj2
  have hfj : f[j] = (k, t, i) := by rw [List.getElem?_eq_getElem hj2] at hx; exact Option.some.inj hx
  rw [hfj] at c0 c1 c2
  simp only at c0 c1 c2
  haveI : LtW b w := LtW.of hb
  have htz : (⟨t.toArray⟩ : ByteArray).size = t.length := by show t.toArray.size = _; simp
  have hnml := hid (fun W => isname_any ⟨t.toArray⟩ W (by omega))
  have hcnt := hid (fun W => icontent_any ⟨t.toArray⟩ W (by omega))
  have HC := hid hc
  have HN := hid hn
  clear hc h hfj hx
  by_cases k1 : k = 1
  · subst k1
    by_cases t0 : t = []
    · subst t0
      have hr := hid (show wfL (f.take j) (1, [], i) = false by unfold wfL; simp)
      go_enter Tryz.func113, Tryz.ntmps113
      go_wp2
      go_ret
      exact ⟨ret_bool hr.out.symm, (by repeat (first | exact Und.refl _ | assumption | refine Und.under ?_ _ | refine Und.alloc ?_ _ | refine Und.drew ?_ | refine Und.drewN ?_ _))⟩
    · have hte : ((⟨t.toArray⟩ : ByteArray).toList == []) = false := by rw [Lib.toList_data]; simpa using t0
      have hte3 : ((⟨t.toArray⟩ : ByteArray).toList != []) = true := by rw [Lib.toList_data]; simpa using t0
      have hte2 : t.isEmpty = false := by simpa using t0
      by_cases i0 : i = 0
      · subst i0
        by_cases j0 : j = 0
        · subst j0
          have hr := hid (show wfL (f.take 0) (1, t, 0) = true by unfold wfL; simp [t0])
          clear t0
          rw [show ((0 : Nat) : Int) = 0 from rfl]
          simp only [Nat.zero_mul, Nat.add_zero] at c0 c1 c2
          go_enter Tryz.func113, Tryz.ntmps113
          go_wp2
          go_ret
          exact ⟨ret_bool hr.out.symm, (by repeat (first | exact Und.refl _ | assumption | refine Und.under ?_ _ | refine Und.alloc ?_ _ | refine Und.drew ?_ | refine Und.drewN ?_ _))⟩
        · obtain ⟨m, rfl⟩ : ∃ m, j = m + 1 := ⟨j - 1, by omega⟩
          have hm : m < f.length := by omega
          have d0 := (HC.out m hm).1
          have hlast : (f.take (m + 1)).getLast? = some f[m] := by rw [List.getLast?_eq_getElem?]; simp [Nat.min_eq_left (show m + 1 ≤ f.length by omega), hm]
          have hr : wfL (f.take (m + 1)) (1, t, 0) = decide (f[m].1 ≠ 1) := by unfold wfL; simp [t0, hlast]
          generalize f[m] = y at d0 hr
          obtain ⟨yk, yt, yi⟩ := y
          simp only at d0 hr
          have HR := hid hr
          have hm1 : ((m + 1 : Nat) : Int) - 1 = (m : Int) := by omega
          have hz1 : (((m + 1 : Nat) : Int) == 0) = false := beq_eq_false_iff_ne.2 (by omega)
          have hmn : m < n := by omega
          clear t0 hr hlast j0 hm
          by_cases hyk : yk = 1
          · subst hyk
            go_enter Tryz.func113, Tryz.ntmps113
            go_wp2
            go_ret
            exact ⟨ret_bool (by rw [HR.out]; rfl), (by repeat (first | exact Und.refl _ | assumption | refine Und.under ?_ _ | refine Und.alloc ?_ _ | refine Und.drew ?_ | refine Und.drewN ?_ _))⟩
          · have hyk2 : (yk == 1) = false := by simpa using hyk
            have hyk3 : (yk != 1) = true := by simpa using hyk
            go_enter Tryz.func113, Tryz.ntmps113
            go_wp2
            go_ret
            exact ⟨ret_bool (by rw [HR.out, decide_eq_true hyk]), (by repeat (first | exact Und.refl _ | assumption | refine Und.under ?_ _ | refine Und.alloc ?_ _ | refine Und.drew ?_ | refine Und.drewN ?_ _))⟩
      · have z1 : (i == 0) = false := by simpa using i0
        have z2 : (i != 0) = true := by simpa using i0
        have hr := hid (show wfL (f.take j) (1, t, i) = false by unfold wfL; simp [i0])
        clear t0 i0
        go_enter Tryz.func113, Tryz.ntmps113
        go_wp2
        go_ret
        exact ⟨ret_bool hr.out.symm, (by repeat (first | exact Und.refl _ | assumption | refine Und.under ?_ _ | refine Und.alloc ?_ _ | refine Und.drew ?_ | refine Und.drewN ?_ _))⟩
  · have z1 : (k == 1) = false := by simpa using k1
    by_cases k5 : k = 5
    · subst k5
      clear k1 z1
      have hr := hid (show wfL (f.take j) (5, t, i) = (St.isNameL t && decide (i = 0)) by unfold wfL; simp)
      have hnm := hnml.out
      simp only at hnm
      generalize St.isNameL t = nb at hnm hr
      have HNM := hid hnm
      clear hnm hnml
      cases nb
      · go_enter Tryz.func113, Tryz.ntmps113
        go_wp2_with (go_at_call 149; refine (HNM.out _).mono ?_; rintro e w' ⟨rfl, rfl⟩)
        go_ret
        exact ⟨ret_bool (by rw [hr.out]; rfl), (by repeat (first | exact Und.refl _ | assumption | refine Und.under ?_ _ | refine Und.alloc ?_ _ | refine Und.drew ?_ | refine Und.drewN ?_ _))⟩
      · by_cases i0 : i = 0
        · subst i0
          go_enter Tryz.func113, Tryz.ntmps113
          go_wp2_with (go_at_call 149; refine (HNM.out _).mono ?_; rintro e w' ⟨rfl, rfl⟩)
          go_ret
          exact ⟨ret_bool (by rw [hr.out]; rfl), (by repeat (first | exact Und.refl _ | assumption | refine Und.under ?_ _ | refine Und.alloc ?_ _ | refine Und.drew ?_ | refine Und.drewN ?_ _))⟩
        · have z2 : (i == 0) = false := by simpa using i0
          have hr2 := hid (show wfL (f.take j) (5, t, i) = false by rw [hr.out, decide_eq_false i0]; rfl)
          clear i0
          go_enter Tryz.func113, Tryz.ntmps113
          go_wp2_with (go_at_call 149; refine (HNM.out _).mono ?_; rintro e w' ⟨rfl, rfl⟩)
          go_ret
          exact ⟨ret_bool hr2.out.symm, (by repeat (first | exact Und.refl _ | assumption | refine Und.under ?_ _ | refine Und.alloc ?_ _ | refine Und.drew ?_ | refine Und.drewN ?_ _))⟩
    · have z5 : (k == 5) = false := by simpa using k5
      by_cases k24 : k = 2 ∨ k = 4
      · have hr := hid (show wfL (f.take j) (k, t, i) = (St.isContentL t && decide (1 ≤ i ∧ i ≤ 999)) by unfold wfL; rw [if_neg k1, if_neg k5, if_pos k24])
        have hnm := hcnt.out
        simp only at hnm
        generalize St.isContentL t = nb at hnm hr
        have HNM := hid hnm
        clear hnm hcnt hnml
        by_cases i1 : i < 1
        · have hr2 := hid (show wfL (f.take j) (k, t, i) = false by rw [hr.out, decide_eq_false (by omega)]; simp)
          have y1 : ¬ (1 : Int) ≤ i := by omega
          cases nb
          · rcases k24 with rfl | rfl
            all_goals
              go_enter Tryz.func113, Tryz.ntmps113
              go_wp2_with fail
              refine (HNM.out _).mono ?_
              rintro e w' ⟨rfl, hu⟩
              have HU := hid (Und.trans ((by repeat (first | exact Und.refl _ | assumption | refine Und.under ?_ _ | refine Und.alloc ?_ _ | refine Und.drew ?_ | refine Und.drewN ?_ _))) hu : Und w w')
              clear hu
              go_wp2
              go_ret
              exact ⟨ret_bool hr2.out.symm, HU.out⟩
          · rcases k24 with rfl | rfl
            all_goals
              go_enter Tryz.func113, Tryz.ntmps113
              go_wp2_with fail
              refine (HNM.out _).mono ?_
              rintro e w' ⟨rfl, hu⟩
              have hu0 : Und w w' := Und.trans ((by repeat (first | exact Und.refl _ | assumption | refine Und.under ?_ _ | refine Und.alloc ?_ _ | refine Und.drew ?_ | refine Und.drewN ?_ _))) hu
              have d2 : w'.cell? ⟨w.heap.size, 2, none⟩ = some (.int .i64 i) := (hu.cell (p := ⟨w.heap.size, 2, none⟩) (by simp)).trans (by simp)
              haveI : LtW w.heap.size w' := LtW.of (World.block_lt_of_cell? _ _ d2)
              have HU := hid hu0
              clear hu hu0
              go_wp2
              go_ret
              exact ⟨ret_bool hr2.out.symm, HU.out⟩
        · have y1 : (1 : Int) ≤ i := by omega
          cases nb
          · have hr2 := hid (show wfL (f.take j) (k, t, i) = false by rw [hr.out]; rfl)
            rcases k24 with rfl | rfl
            all_goals
              go_enter Tryz.func113, Tryz.ntmps113
              go_wp2_with fail
              refine (HNM.out _).mono ?_
              rintro e w' ⟨rfl, hu⟩
              have HU := hid (Und.trans ((by repeat (first | exact Und.refl _ | assumption | refine Und.under ?_ _ | refine Und.alloc ?_ _ | refine Und.drew ?_ | refine Und.drewN ?_ _))) hu : Und w w')
              clear hu
              go_wp2
              go_ret
              exact ⟨ret_bool hr2.out.symm, HU.out⟩
          · by_cases i9 : i ≤ 999
            · have hr2 := hid (show wfL (f.take j) (k, t, i) = true by rw [hr.out, decide_eq_true ⟨y1, i9⟩]; rfl)
              rcases k24 with rfl | rfl
              all_goals
                go_enter Tryz.func113, Tryz.ntmps113
                go_wp2_with fail
                refine (HNM.out _).mono ?_
                rintro e w' ⟨rfl, hu⟩
                have hu0 : Und w w' := Und.trans ((by repeat (first | exact Und.refl _ | assumption | refine Und.under ?_ _ | refine Und.alloc ?_ _ | refine Und.drew ?_ | refine Und.drewN ?_ _))) hu
                have d2 : w'.cell? ⟨w.heap.size, 2, none⟩ = some (.int .i64 i) := (hu.cell (p := ⟨w.heap.size, 2, none⟩) (by simp)).trans (by simp)
                haveI : LtW w.heap.size w' := LtW.of (World.block_lt_of_cell? _ _ d2)
                have HU := hid hu0
                clear hu hu0
                go_wp2
                go_ret
                exact ⟨ret_bool hr2.out.symm, HU.out⟩
            · have hr2 := hid (show wfL (f.take j) (k, t, i) = false by rw [hr.out, decide_eq_false (by omega)]; rfl)
              rcases k24 with rfl | rfl
              all_goals
                go_enter Tryz.func113, Tryz.ntmps113
                go_wp2_with fail
                refine (HNM.out _).mono ?_
                rintro e w' ⟨rfl, hu⟩
                have hu0 : Und w w' := Und.trans ((by repeat (first | exact Und.refl _ | assumption | refine Und.under ?_ _ | refine Und.alloc ?_ _ | refine Und.drew ?_ | refine Und.drewN ?_ _))) hu
                have d2 : w'.cell? ⟨w.heap.size, 2, none⟩ = some (.int .i64 i) := (hu.cell (p := ⟨w.heap.size, 2, none⟩) (by simp)).trans (by simp)
                haveI : LtW w.heap.size w' := LtW.of (World.block_lt_of_cell? _ _ d2)
                have HU := hid hu0
                clear hu hu0
                go_wp2
                go_ret
                exact ⟨ret_bool (by rw [hr2.out]; exact decide_eq_false (by omega)), HU.out⟩
      · have z2 : (k == 2) = false := by simpa using fun e => k24 (.inl e)
        have z4 : (k == 4) = false := by simpa using fun e => k24 (.inr e)
        by_cases k3 : k = 3
        · subst k3
          have hr := hid (show wfL (f.take j) (3, t, i) = (St.isNameL t && decide (1 ≤ i ∧ i ≤ 999)) by unfold wfL; simp)
          have hnm := hnml.out
          simp only at hnm
          generalize St.isNameL t = nb at hnm hr
          have HNM := hid hnm
          clear hnm hnml hcnt k24 k1 k5
          cases nb
          · have hr2 := hid (show wfL (f.take j) (3, t, i) = false by rw [hr.out]; rfl)
            go_enter Tryz.func113, Tryz.ntmps113
            go_wp2_with (go_at_call 149; refine (HNM.out _).mono ?_; rintro e w' ⟨rfl, rfl⟩)
            go_ret
            exact ⟨ret_bool hr2.out.symm, (by repeat (first | exact Und.refl _ | assumption | refine Und.under ?_ _ | refine Und.alloc ?_ _ | refine Und.drew ?_ | refine Und.drewN ?_ _))⟩
          · by_cases i1 : i < 1
            · have hr2 := hid (show wfL (f.take j) (3, t, i) = false by rw [hr.out, decide_eq_false (by omega)]; rfl)
              have y1 : ¬ (1 : Int) ≤ i := by omega
              go_enter Tryz.func113, Tryz.ntmps113
              go_wp2_with (go_at_call 149; refine (HNM.out _).mono ?_; rintro e w' ⟨rfl, rfl⟩)
              go_ret
              exact ⟨ret_bool hr2.out.symm, (by repeat (first | exact Und.refl _ | assumption | refine Und.under ?_ _ | refine Und.alloc ?_ _ | refine Und.drew ?_ | refine Und.drewN ?_ _))⟩
            · have y1 : (1 : Int) ≤ i := by omega
              by_cases i9 : i ≤ 999
              · have hr2 := hid (show wfL (f.take j) (3, t, i) = true by rw [hr.out, decide_eq_true ⟨y1, i9⟩]; rfl)
                go_enter Tryz.func113, Tryz.ntmps113
                go_wp2_with (go_at_call 149; refine (HNM.out _).mono ?_; rintro e w' ⟨rfl, rfl⟩)
                go_ret
                exact ⟨ret_bool hr2.out.symm, (by repeat (first | exact Und.refl _ | assumption | refine Und.under ?_ _ | refine Und.alloc ?_ _ | refine Und.drew ?_ | refine Und.drewN ?_ _))⟩
              · have hr2 := hid (show wfL (f.take j) (3, t, i) = false by rw [hr.out, decide_eq_false (by omega)]; rfl)
                go_enter Tryz.func113, Tryz.ntmps113
                go_wp2_with (go_at_call 149; refine (HNM.out _).mono ?_; rintro e w' ⟨rfl, rfl⟩)
                go_ret
                exact ⟨ret_bool (by rw [hr2.out]; exact decide_eq_false (by omega)), (by repeat (first | exact Und.refl _ | assumption | refine Und.under ?_ _ | refine Und.alloc ?_ _ | refine Und.drew ?_ | refine Und.drewN ?_ _))⟩
        · have z3 : (k == 3) = false := by simpa using k3
          have hr := hid (show wfL (f.take j) (k, t, i) = false by unfold wfL; rw [if_neg k1, if_neg k5, if_neg k24, if_neg k3])
          clear k1 k5 k24 k3
          go_enter Tryz.func113, Tryz.ntmps113
          go_wp2
          go_ret
          exact ⟨ret_bool hr.out.symm, (by repeat (first | exact Und.refl _ | assumption | refine Und.under ?_ _ | refine Und.alloc ?_ _ | refine Und.drew ?_ | refine Und.drewN ?_ _))⟩
set_option maxRecDepth 20000 in
set_option maxHeartbeats 12800000 in
theorem ivalid_any (A : Option Addr) (n c : Nat) (f : List St.It) (w : World) (hn : f.length = n) (hnc : n ≤ c) (hc63 : c ≤ 9223372036854775807) (h : ItemsAt w A f) (hl : n ≤ 1000000000000) (ht : tot f ≤ 4611686018427387904) :
    Calls Tryz.prog 72 #[.slice A n c] w fun e w' => e = .returned (.int .i64 (St.validL f)) ∧ Und w w' := by
  have H := hid h
  have HN := hid hn
  have HT := hid ht
  have hle := hid (ilength_any A n c f w hn h hl ht)
  have hll := lenL_tot f
  clear h hn
  by_cases q1 : 512 < n
  · have z : (512 : Int) < (n : Int) := by omega
    have hr := hid (show St.validL f = 3 by unfold St.validL; rw [if_pos (.inl (by rw [HN.out]; exact q1))])
    clear ht
    go_enter Tryz.func72, Tryz.ntmps72
    go_wp2
    go_ret
    exact ⟨ret_int hr.out.symm, (by repeat (first | exact Und.refl _ | assumption | refine Und.under ?_ _ | refine Und.alloc ?_ _ | refine Und.drew ?_ | refine Und.drewN ?_ _))⟩
  · have z : ¬ (512 : Int) < (n : Int) := by omega
    by_cases q2 : 1024 < St.lenL f
    · have z2 : (1024 : Int) < (St.lenL f : Nat) := by omega
      have hr := hid (show St.validL f = 3 by unfold St.validL; rw [if_pos (.inr q2)])
      clear ht
      go_enter Tryz.func72, Tryz.ntmps72
      go_wp2_with fail
      refine hle.out.mono ?_
      rintro e w' ⟨rfl, hu⟩
      have HU := hid hu
      clear hu
      go_wp2
      go_ret
      exact ⟨ret_int hr.out.symm, HU.out⟩
    · have z2 : ¬ (1024 : Int) < (St.lenL f : Nat) := by omega
      have hr := hid (show St.validL f = St.validFrom [] f by unfold St.validL; rw [if_neg (by rw [HN.out]; omega)])
      clear ht hll
      go_enter Tryz.func72, Tryz.ntmps72
      go_wp2_with fail
      refine hle.out.mono ?_
      rintro e w' ⟨rfl, hu⟩
      have HU0 := hid hu
      clear hu
      go_wp2_with fail
      go_loopw [15] (fun s15 wr => VaRel w f n s15 wr) (fun s15 _ => n + 1 - (intOf s15).toNat)
      case atStart => exact ⟨0, by omega, rfl, by simp, HU0.out⟩
      case round =>
        obtain ⟨j, hj, rfl, hv, hu⟩ := hrel
        have HV := hid hv
        have HU := hid hu
        clear hv hu
        by_cases hlt : j < n
        · have hlt2 : j < f.length := by rw [HN.out]; exact hlt
          obtain ⟨b, off, rfl, hb, hc⟩ := (H.out.und HU.out) (by omega)
          obtain ⟨c0, c1, c2⟩ := hc j hlt2
          have hdr : f.drop j = f[j] :: f.drop (j + 1) := List.drop_eq_getElem_cons hlt2
          have htk : f.take j ++ [f[j]] = f.take (j + 1) := by rw [List.take_add_one, List.getElem?_eq_getElem hlt2]; rfl
          have hv1 := fun hc => (HV.out.trans (by rw [hdr])).trans (valid_stop (f.take j) (f.drop (j + 1)) f[j] hc)
          have hv2 := fun hc => ((HV.out.trans (by rw [hdr])).trans (valid_from (f.take j) (f.drop (j + 1)) f[j] hc)).trans (by rw [htk])
          have hyl := tot_at f j hlt2
          have hT := HT.out
          have hwf := fun (W : World) (hW : Und wr W) => iwf_any b off n c j f f[j].1 f[j].2.1 f[j].2.2 W HN.out hlt (List.getElem?_eq_getElem hlt2) ((H.out.und HU.out).und hW) (by omega) (by omega)
          have hft := fun (W : World) (hW : Und wr W) => ifits_any (some ⟨b, off, none⟩) j c (f.take j) f[j].1 f[j].2.1 f[j].2.2 W (by simp; omega) (items_take ((H.out.und HU.out).und hW) j) (by omega) (Nat.le_trans (tot_le f j) HT.out)
          have hck := check_wf (f.take j) f[j]
          generalize f[j] = y at c0 c1 c2 hv1 hv2 hyl hwf hft hck
          obtain ⟨yk, yt, yi⟩ := y
          simp only at c0 c1 c2 hwf hft hck
          have hit := fun (W : World) => itag_any yk ⟨yt.toArray⟩ yi W
          generalize (f.take j).any (St.clash (yk, yt, yi)) = cb at hft hck
          generalize St.isTagK yk = tb at hit hck
          generalize wfL (f.take j) (yk, yt, yi) = wb at hwf hck
          generalize St.checkL (f.take j) (yk, yt, yi) = ec at hv1 hv2 hck
          have HV1 := hid hv1
          have HV2 := hid hv2
          have HWF := hid hwf
          have HFT := hid hft
          have HIT := hid hit
          haveI : LtW b wr := LtW.of hb
          have hjn : ¬ (j = n) := by omega
          have hjc : j ≤ c := by omega
          clear hc hdr htk hv1 hv2 hwf hft hit hlt2 hyl HV hT
          go_wp2_with fail
          refine (HWF.out _ ((by repeat (first | exact Und.refl _ | assumption | refine Und.under ?_ _ | refine Und.alloc ?_ _ | refine Und.drew ?_ | refine Und.drewN ?_ _)))).mono ?_
          rintro e w3 ⟨rfl, hu3⟩
          have hu3' : Und wr w3 := Und.trans ((by repeat (first | exact Und.refl _ | assumption | refine Und.under ?_ _ | refine Und.alloc ?_ _ | refine Und.drew ?_ | refine Und.drewN ?_ _))) hu3
          have d0 : w3.cell? ⟨wr.heap.size, 0, none⟩ = some (.int .i64 yk) := (hu3.cell (p := ⟨wr.heap.size, 0, none⟩) (by simp)).trans (by simp)
          have d1 : w3.cell? ⟨wr.heap.size, 1, none⟩ = some (.string ⟨yt.toArray⟩) := (hu3.cell (p := ⟨wr.heap.size, 1, none⟩) (by simp)).trans (by simp)
          have d2 : w3.cell? ⟨wr.heap.size, 2, none⟩ = some (.int .i64 yi) := (hu3.cell (p := ⟨wr.heap.size, 2, none⟩) (by simp)).trans (by simp)
          haveI : LtW wr.heap.size w3 := LtW.of (World.block_lt_of_cell? _ _ d0)
          haveI : LtW b w3 := LtW.of (Nat.lt_of_lt_of_le hb hu3'.size)
          have HU3 := hid hu3'
          clear hu3 hu3' c0 c1 c2
          cases wb
          · have hec : ec = 1 := by rw [hck]; rfl
            subst hec
            have hf := hid (HV1.out (by decide))
            clear hck
            go_wp2
            go_ret
            refine ⟨ret_int ?_, HU.out.trans HU3.out⟩
            rw [hr.out, hf.out]
          · cases tb
            · have hec : ec = 0 := by rw [hck]; rfl
              subst hec
              clear hck
              go_wp2_with fail
              first | refine wp_region_under2 (by kernel_rfl) (by kernel_rfl) ?_ | refine wp_region_under (by kernel_rfl) (by kernel_rfl) ?_
              repeat (go_big_quiet_step (first | ((go_at_call 114; exact Calls.under_of (HIT.out _)))))
              refine wpQuiet_nil ?_
              rintro _ ⟨X, rfl⟩
              go_wp2
              exact ⟨⟨j + 1, by omega, congrArg (Value.int .i64) (by omega), HV2.out (by trivial), HU.out.trans (HU3.out.trans (by repeat (first | exact Und.refl _ | assumption | refine Und.under ?_ _ | refine Und.alloc ?_ _ | refine Und.drew ?_ | refine Und.drewN ?_ _)))⟩, by simp [intOf]; omega⟩
            · cases cb
              · have hec : ec = 0 := by rw [hck]; rfl
                subst hec
                clear hck
                go_wp2_with fail
                first | refine wp_region_under2 (by kernel_rfl) (by kernel_rfl) ?_ | refine wp_region_under (by kernel_rfl) (by kernel_rfl) ?_
                repeat (go_big_quiet_step (first | ((go_at_call 114; exact Calls.under_of (HIT.out _))) | ((go_at_call 115; exact Calls.under_of (HFT.out _ (HU3.out.trans (by repeat (first | exact Und.refl _ | assumption | refine Und.under ?_ _ | refine Und.alloc ?_ _ | refine Und.drew ?_ | refine Und.drewN ?_ _))))))))
                refine wpQuiet_nil ?_
                rintro _ ⟨X, rfl⟩
                go_wp2
                exact ⟨⟨j + 1, by omega, congrArg (Value.int .i64) (by omega), HV2.out (by trivial), HU.out.trans (HU3.out.trans (by repeat (first | exact Und.refl _ | assumption | refine Und.under ?_ _ | refine Und.alloc ?_ _ | refine Und.drew ?_ | refine Und.drewN ?_ _)))⟩, by simp [intOf]; omega⟩
              · have hec : ec = 7 := by rw [hck]; rfl
                subst hec
                have hf := hid (HV1.out (by decide))
                clear hck
                go_wp2_with fail
                first | refine wp_region_under2 (by kernel_rfl) (by kernel_rfl) ?_ | refine wp_region_under (by kernel_rfl) (by kernel_rfl) ?_
                repeat (go_big_quiet_step (first | ((go_at_call 114; exact Calls.under_of (HIT.out _))) | ((go_at_call 115; exact Calls.under_of (HFT.out _ (HU3.out.trans (by repeat (first | exact Und.refl _ | assumption | refine Und.under ?_ _ | refine Und.alloc ?_ _ | refine Und.drew ?_ | refine Und.drewN ?_ _))))))))
                refine wpQuiet_nil ?_
                rintro _ ⟨X, rfl⟩
                go_wp2
                go_ret
                refine ⟨ret_int ?_, HU.out.trans (HU3.out.trans (by repeat (first | exact Und.refl _ | assumption | refine Und.under ?_ _ | refine Und.alloc ?_ _ | refine Und.drew ?_ | refine Und.drewN ?_ _)))⟩
                rw [hr.out, hf.out]
        · have hjn : j = n := by omega
          subst hjn
          have hf := hid (show St.validFrom [] f = 0 by rw [HV.out, List.drop_of_length_le (by rw [HN.out]; omega)]; rfl)
          clear hlt
          go_wp2
          go_ret
          exact ⟨ret_int (by rw [hr.out, hf.out]), HU.out⟩
end Go.Proofs.YthoemdibbldndaaGreatDoor
