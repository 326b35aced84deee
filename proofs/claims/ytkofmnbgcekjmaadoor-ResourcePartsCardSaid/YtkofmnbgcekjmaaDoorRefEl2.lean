/- The reference's element at the format of a resource: what it gives is St.resL. Condition: the text is no longer than a text can be. -/
import Derived.Test.YtkofmnbgcekjmaaDoorRefDecode
import Derived.Test.YtkofmnbgcekjmaaDoorResPl
import Derived.BigQuiet
namespace Go.Proofs.YtkofmnbgcekjmaaDoor
open Go.RowKit

theorem res_ok : ElOk St.resL := fun _ _ _ _ h => St.res_len h
theorem ix6 (W : World) : (Instr.index 134 (.agg #[.string ⟨#[110, 10]⟩, .string ⟨#[116, 9]⟩, .string ⟨#[115, 32]⟩, .string ⟨#[114, 13]⟩, .string ⟨#[92, 92]⟩, .string ⟨#[123, 123]⟩]) (.int .i64 0)).run Tryd.prog W = .ok (.string ⟨#[110, 10]⟩) W ∧
    (Instr.index 134 (.agg #[.string ⟨#[110, 10]⟩, .string ⟨#[116, 9]⟩, .string ⟨#[115, 32]⟩, .string ⟨#[114, 13]⟩, .string ⟨#[92, 92]⟩, .string ⟨#[123, 123]⟩]) (.int .i64 1)).run Tryd.prog W = .ok (.string ⟨#[116, 9]⟩) W ∧
    (Instr.index 134 (.agg #[.string ⟨#[110, 10]⟩, .string ⟨#[116, 9]⟩, .string ⟨#[115, 32]⟩, .string ⟨#[114, 13]⟩, .string ⟨#[92, 92]⟩, .string ⟨#[123, 123]⟩]) (.int .i64 2)).run Tryd.prog W = .ok (.string ⟨#[115, 32]⟩) W ∧
    (Instr.index 134 (.agg #[.string ⟨#[110, 10]⟩, .string ⟨#[116, 9]⟩, .string ⟨#[115, 32]⟩, .string ⟨#[114, 13]⟩, .string ⟨#[92, 92]⟩, .string ⟨#[123, 123]⟩]) (.int .i64 3)).run Tryd.prog W = .ok (.string ⟨#[114, 13]⟩) W ∧
    (Instr.index 134 (.agg #[.string ⟨#[110, 10]⟩, .string ⟨#[116, 9]⟩, .string ⟨#[115, 32]⟩, .string ⟨#[114, 13]⟩, .string ⟨#[92, 92]⟩, .string ⟨#[123, 123]⟩]) (.int .i64 4)).run Tryd.prog W = .ok (.string ⟨#[92, 92]⟩) W ∧
    (Instr.index 134 (.agg #[.string ⟨#[110, 10]⟩, .string ⟨#[116, 9]⟩, .string ⟨#[115, 32]⟩, .string ⟨#[114, 13]⟩, .string ⟨#[92, 92]⟩, .string ⟨#[123, 123]⟩]) (.int .i64 5)).run Tryd.prog W = .ok (.string ⟨#[123, 123]⟩) W := by
  exact ⟨by kernel_rfl, by kernel_rfl, by kernel_rfl, by kernel_rfl, by kernel_rfl, by kernel_rfl⟩
@[go_sem] theorem ba_lit0 (a b : UInt8) (h : 0 < (⟨#[a, b]⟩ : ByteArray).size) : (⟨#[a, b]⟩ : ByteArray)[0]'h = a := rfl
@[go_sem] theorem ba_lit1 (a b : UInt8) (h : 1 < (⟨#[a, b]⟩ : ByteArray).size) : (⟨#[a, b]⟩ : ByteArray)[1]'h = b := rfl
theorem drewN_alloc (w : World) (o : Obj) (n : Nat) : (w.alloc o).drewN n = (w.drewN n).alloc o := by
  induction n with
  | zero => rfl
  | succ n ih => show ((w.alloc o).drewN n).drew = _; rw [ih]; rfl
theorem drewN_sz (w : World) (n : Nat) : w.heap.size = (w.drewN n).heap.size := by simp
namespace St
def escP : List (Nat × UInt8) := [(110, 10), (116, 9), (115, 32), (114, 13), (92, 92), (123, 123)]
def escF : List (Nat × UInt8) → UInt8 → Option UInt8
  | [], _ => none
  | p :: r, d => if d.toNat = p.1 then some p.2 else escF r d
theorem esc_eq (d : UInt8) : escL d = escF escP d := rfl
theorem escF_yes {p : Nat × UInt8} {r : List (Nat × UInt8)} {d : UInt8} (h : d.toNat = p.1) : escF (p :: r) d = some p.2 := by rw [escF, if_pos h]
theorem escF_no {p : Nat × UInt8} {r : List (Nat × UInt8)} {d : UInt8} (h : d.toNat ≠ p.1) : escF (p :: r) d = escF r d := by rw [escF, if_neg h]
end St
def RkRel (w : World) (d : UInt8) (i : Value) (wr : World) : Prop := ∃ k : Nat, i = .int .i64 k ∧ k ≤ 6 ∧ St.escL d = St.escF (St.escP.drop k) d ∧ ∃ w0, w.heap.size = w0.heap.size ∧ Und w w0 ∧ w0.alloc (.cells #[.int .i64 0, .string ⟨#[]⟩, .int .i64 0] 77) = wr
def RbRel (w : World) (s : ByteArray) (i : Value) (wr : World) : Prop := ∃ k : Nat, i = .int .i64 k ∧ 2 ≤ k ∧ k ≤ s.size ∧ 2 + St.blkN (s.data.toList.drop 2) = k + St.blkN (s.data.toList.drop k) ∧ w = wr
theorem blk_no {c : UInt8} {r : List UInt8} (h : St.blkC c = false) : St.blkN (c :: r) = 0 := by unfold St.blkN; rw [List.takeWhile_cons_of_neg (by simp [h])]; rfl
theorem blk_yes {c : UInt8} {r : List UInt8} (h : St.blkC c = true) : St.blkN (c :: r) = 1 + St.blkN r := by unfold St.blkN; rw [List.takeWhile_cons_of_pos h, List.length_cons]; omega

set_option maxRecDepth 20000 in
set_option maxHeartbeats 6400000 in
theorem rres_any (s : ByteArray) (w : World) (hs : s.size ≤ 4611686018427387904) (h0 : 1 ≤ s.size) :
    Calls Tryd.prog 61 #[.string s] w fun e w' => e = .returned (elV (St.resL s.data.toList)) ∧ Und w w' := by
  have hcr : s.data.toList = s[0] :: s.data.toList.drop 1 := St.list_zero s (by omega)
  have z0 : 0 < s.size := by omega
  by_cases c10 : s[0].toNat = 10
  · have hsl := St.res_10 (r := s.data.toList.drop 1) c10
    rw [← hcr] at hsl
    have HSL := hid hsl
    have e10 : ((s[0].toNat : Int) == 10) = true := by simp; omega
    clear hsl hcr c10
    go_enter Tryd.func61, Tryd.ntmps61
    go_wp2
    refine bodyPost_ret (v := elV none) (by simp [results, Tryd.results61, go_sem, elV]) rfl ⟨?_, (by repeat (first | exact Und.refl _ | assumption | refine Und.under ?_ _ | refine Und.alloc ?_ _ | refine Und.drew ?_ | refine Und.drewN ?_ _))⟩
    rw [HSL.out]; try rfl
  have e10 : ((s[0].toNat : Int) == 10) = false := by simp; omega
  by_cases c123 : s[0].toNat = 123
  · have hsl := St.res_123 (r := s.data.toList.drop 1) c123
    rw [← hcr] at hsl
    have HSL := hid hsl
    have e123 : ((s[0].toNat : Int) == 123) = true := by simp; omega
    have hslot := fun W => slot_any s W hs h0
    obtain ⟨k, x, m, hv⟩ := elV_form ((St.slotL s.data.toList).map fun x => ((5 : Int), x.1, x.2))
    have HV := hid hv
    rw [hv] at hslot
    have HS := hid hslot
    clear hsl hcr hslot hv c10 c123
    go_enter Tryd.func61, Tryd.ntmps61
    go_wp2_with (go_at_call 84; refine (HS.out _).mono ?_; rintro e w' ⟨rfl, X, rfl⟩)
    refine bodyPost_ret (v := .tuple #[.agg #[.int .i64 k, .string x, .int .i64 0], .int .i64 m]) (by simp [results, Tryd.results61, go_sem]) rfl ⟨?_, (by repeat (first | exact Und.refl _ | assumption | refine Und.under ?_ _ | refine Und.alloc ?_ _ | refine Und.drew ?_ | refine Und.drewN ?_ _))⟩
    rw [HSL.out, HV.out]
  have e123 : ((s[0].toNat : Int) == 123) = false := by simp; omega
  by_cases c92 : s[0].toNat = 92
  · have e92 : ((s[0].toNat : Int) == 92) = true := by simp; omega
    by_cases z1 : s.size = 1
    · have hnil : s.data.toList.drop 1 = [] := List.drop_of_length_le (by simp; omega)
      have hsl := St.res_end c92
      rw [hnil] at hcr
      rw [← hcr] at hsl
      have HSL := hid hsl
      have y2 : (s.size : Int) < 2 := by omega
      clear hcr hnil hsl c10 c123 c92
      go_enter Tryd.func61, Tryd.ntmps61
      go_wp2
      refine bodyPost_ret (v := elV none) (by simp [results, Tryd.results61, go_sem, elV]) rfl ⟨?_, (by repeat (first | exact Und.refl _ | assumption | refine Und.under ?_ _ | refine Und.alloc ?_ _ | refine Und.drew ?_ | refine Und.drewN ?_ _))⟩
      rw [HSL.out]; try rfl
    have hs1 : 1 < s.size := by omega
    have hcr1 : s.data.toList.drop 1 = s[1] :: s.data.toList.drop 2 := St.drop_at s 1 hs1
    have y1 : (1 : Int) < s.size := by omega
    have y2 : ¬ (s.size : Int) < 2 := by omega
    rw [hcr1] at hcr
    have hcont : s[1].toNat = 10 → St.resL s.data.toList = some (0, [], 2 + St.blkN (s.data.toList.drop 2)) := fun h => by
      have := St.res_cont (r := s.data.toList.drop 2) c92 h
      rwa [← hcr] at this
    have hesc : s[1].toNat ≠ 10 → St.resL s.data.toList = (St.escL s[1]).map fun e => (1, [e], 2) := fun h => by
      have := St.res_esc (r := s.data.toList.drop 2) c92 h
      rwa [← hcr] at this
    have HCO := hid hcont
    have HES := hid hesc
    have htx := hid (fun (c : UInt8) (m : Int) (hm : m = (c.toNat : Int)) W => text_at c m hm W)
    clear hcr hcr1 hcont hesc c10 c123 c92
    go_enter Tryd.func61, Tryd.ntmps61
    go_wp2_with fail
    go_loopw [25] (fun i wr => RkRel w s[1] i wr) (fun i _ => 7 - (intOf i).toNat)
    case atStart => exact ⟨0, rfl, by omega, by rw [St.esc_eq]; rfl, w, rfl, Und.refl _, rfl⟩
    case round =>
      obtain ⟨k, rfl, hk, hesc, w0, hz, hu0, rfl⟩ := hrel
      rw [hz]
      have HU0 := hid hu0
      clear hu0
      obtain ⟨i0, i1, i2, i3, i4, i5⟩ := ix6 (w0.alloc (.cells #[.int .i64 0, .string ⟨#[]⟩, .int .i64 0] 77))
      rcases (show k = 0 ∨ k = 1 ∨ k = 2 ∨ k = 3 ∨ k = 4 ∨ k = 5 ∨ k = 6 by omega) with rfl | rfl | rfl | rfl | rfl | rfl | rfl
      · by_cases hq : s[1].toNat = 110
        · have e1 : ((s[1].toNat : Int) == 110) = true := by simp; omega
          have HR := hid (show St.resL s.data.toList = some (1, [10], 2) by rw [HES.out (by omega), hesc, show St.escF (St.escP.drop 0) s[1] = some 10 from St.escF_yes hq]; rfl)
          clear hesc hq
          go_wp2_with fail
          go_quiet (fail)
          obtain ⟨w1, hw1⟩ : ∃ w1, w0.drewN nq = w1 := ⟨_, rfl⟩
          have hz1 : w0.heap.size = w1.heap.size := by rw [← hw1]; exact drewN_sz _ _
          have HU1 : Und w w1 := HU0.out.trans (by rw [← hw1]; exact (Und.refl w0).drewN _)
          rw [drewN_alloc, hw1, hz1]
          clear hw1 hz1
          go_wp2_with (go_at_call 83; refine (htx.out 10 _ rfl _).mono ?_; rintro e w' ⟨rfl, X, rfl⟩)
          refine bodyPost_ret (v := elV (some (1, [10], 2))) (by simp [results, Tryd.results61, go_sem, elV, itv]) rfl ⟨?_, (by repeat (first | exact Und.refl _ | assumption | refine Und.under ?_ _ | refine Und.alloc ?_ _ | refine Und.drew ?_ | refine Und.drewN ?_ _))⟩
          rw [HR.out]
        · have e1 : ((s[1].toNat : Int) == 110) = false := by simp; omega
          have HR := hid (hesc.trans (show St.escF (St.escP.drop 0) s[1] = St.escF (St.escP.drop 1) s[1] from St.escF_no hq))
          clear hesc hq
          go_wp2_with fail
          go_quiet (fail)
          obtain ⟨w1, hw1⟩ : ∃ w1, w0.drewN nq = w1 := ⟨_, rfl⟩
          have hz1 : w0.heap.size = w1.heap.size := by rw [← hw1]; exact drewN_sz _ _
          have HU1 : Und w w1 := HU0.out.trans (by rw [← hw1]; exact (Und.refl w0).drewN _)
          rw [drewN_alloc, hw1]
          clear hw1
          go_wp2
          exact ⟨⟨1, rfl, by omega, HR.out, w1, hz.trans hz1, HU1, rfl⟩, by simp [intOf]⟩
      · by_cases hq : s[1].toNat = 116
        · have e1 : ((s[1].toNat : Int) == 116) = true := by simp; omega
          have HR := hid (show St.resL s.data.toList = some (1, [9], 2) by rw [HES.out (by omega), hesc, show St.escF (St.escP.drop 1) s[1] = some 9 from St.escF_yes hq]; rfl)
          clear hesc hq
          go_wp2_with fail
          go_quiet (fail)
          obtain ⟨w1, hw1⟩ : ∃ w1, w0.drewN nq = w1 := ⟨_, rfl⟩
          have hz1 : w0.heap.size = w1.heap.size := by rw [← hw1]; exact drewN_sz _ _
          have HU1 : Und w w1 := HU0.out.trans (by rw [← hw1]; exact (Und.refl w0).drewN _)
          rw [drewN_alloc, hw1, hz1]
          clear hw1 hz1
          go_wp2_with (go_at_call 83; refine (htx.out 9 _ rfl _).mono ?_; rintro e w' ⟨rfl, X, rfl⟩)
          refine bodyPost_ret (v := elV (some (1, [9], 2))) (by simp [results, Tryd.results61, go_sem, elV, itv]) rfl ⟨?_, (by repeat (first | exact Und.refl _ | assumption | refine Und.under ?_ _ | refine Und.alloc ?_ _ | refine Und.drew ?_ | refine Und.drewN ?_ _))⟩
          rw [HR.out]
        · have e1 : ((s[1].toNat : Int) == 116) = false := by simp; omega
          have HR := hid (hesc.trans (show St.escF (St.escP.drop 1) s[1] = St.escF (St.escP.drop 2) s[1] from St.escF_no hq))
          clear hesc hq
          go_wp2_with fail
          go_quiet (fail)
          obtain ⟨w1, hw1⟩ : ∃ w1, w0.drewN nq = w1 := ⟨_, rfl⟩
          have hz1 : w0.heap.size = w1.heap.size := by rw [← hw1]; exact drewN_sz _ _
          have HU1 : Und w w1 := HU0.out.trans (by rw [← hw1]; exact (Und.refl w0).drewN _)
          rw [drewN_alloc, hw1]
          clear hw1
          go_wp2
          exact ⟨⟨2, rfl, by omega, HR.out, w1, hz.trans hz1, HU1, rfl⟩, by simp [intOf]⟩
      · by_cases hq : s[1].toNat = 115
        · have e1 : ((s[1].toNat : Int) == 115) = true := by simp; omega
          have HR := hid (show St.resL s.data.toList = some (1, [32], 2) by rw [HES.out (by omega), hesc, show St.escF (St.escP.drop 2) s[1] = some 32 from St.escF_yes hq]; rfl)
          clear hesc hq
          go_wp2_with fail
          go_quiet (fail)
          obtain ⟨w1, hw1⟩ : ∃ w1, w0.drewN nq = w1 := ⟨_, rfl⟩
          have hz1 : w0.heap.size = w1.heap.size := by rw [← hw1]; exact drewN_sz _ _
          have HU1 : Und w w1 := HU0.out.trans (by rw [← hw1]; exact (Und.refl w0).drewN _)
          rw [drewN_alloc, hw1, hz1]
          clear hw1 hz1
          go_wp2_with (go_at_call 83; refine (htx.out 32 _ rfl _).mono ?_; rintro e w' ⟨rfl, X, rfl⟩)
          refine bodyPost_ret (v := elV (some (1, [32], 2))) (by simp [results, Tryd.results61, go_sem, elV, itv]) rfl ⟨?_, (by repeat (first | exact Und.refl _ | assumption | refine Und.under ?_ _ | refine Und.alloc ?_ _ | refine Und.drew ?_ | refine Und.drewN ?_ _))⟩
          rw [HR.out]
        · have e1 : ((s[1].toNat : Int) == 115) = false := by simp; omega
          have HR := hid (hesc.trans (show St.escF (St.escP.drop 2) s[1] = St.escF (St.escP.drop 3) s[1] from St.escF_no hq))
          clear hesc hq
          go_wp2_with fail
          go_quiet (fail)
          obtain ⟨w1, hw1⟩ : ∃ w1, w0.drewN nq = w1 := ⟨_, rfl⟩
          have hz1 : w0.heap.size = w1.heap.size := by rw [← hw1]; exact drewN_sz _ _
          have HU1 : Und w w1 := HU0.out.trans (by rw [← hw1]; exact (Und.refl w0).drewN _)
          rw [drewN_alloc, hw1]
          clear hw1
          go_wp2
          exact ⟨⟨3, rfl, by omega, HR.out, w1, hz.trans hz1, HU1, rfl⟩, by simp [intOf]⟩
      · by_cases hq : s[1].toNat = 114
        · have e1 : ((s[1].toNat : Int) == 114) = true := by simp; omega
          have HR := hid (show St.resL s.data.toList = some (1, [13], 2) by rw [HES.out (by omega), hesc, show St.escF (St.escP.drop 3) s[1] = some 13 from St.escF_yes hq]; rfl)
          clear hesc hq
          go_wp2_with fail
          go_quiet (fail)
          obtain ⟨w1, hw1⟩ : ∃ w1, w0.drewN nq = w1 := ⟨_, rfl⟩
          have hz1 : w0.heap.size = w1.heap.size := by rw [← hw1]; exact drewN_sz _ _
          have HU1 : Und w w1 := HU0.out.trans (by rw [← hw1]; exact (Und.refl w0).drewN _)
          rw [drewN_alloc, hw1, hz1]
          clear hw1 hz1
          go_wp2_with (go_at_call 83; refine (htx.out 13 _ rfl _).mono ?_; rintro e w' ⟨rfl, X, rfl⟩)
          refine bodyPost_ret (v := elV (some (1, [13], 2))) (by simp [results, Tryd.results61, go_sem, elV, itv]) rfl ⟨?_, (by repeat (first | exact Und.refl _ | assumption | refine Und.under ?_ _ | refine Und.alloc ?_ _ | refine Und.drew ?_ | refine Und.drewN ?_ _))⟩
          rw [HR.out]
        · have e1 : ((s[1].toNat : Int) == 114) = false := by simp; omega
          have HR := hid (hesc.trans (show St.escF (St.escP.drop 3) s[1] = St.escF (St.escP.drop 4) s[1] from St.escF_no hq))
          clear hesc hq
          go_wp2_with fail
          go_quiet (fail)
          obtain ⟨w1, hw1⟩ : ∃ w1, w0.drewN nq = w1 := ⟨_, rfl⟩
          have hz1 : w0.heap.size = w1.heap.size := by rw [← hw1]; exact drewN_sz _ _
          have HU1 : Und w w1 := HU0.out.trans (by rw [← hw1]; exact (Und.refl w0).drewN _)
          rw [drewN_alloc, hw1]
          clear hw1
          go_wp2
          exact ⟨⟨4, rfl, by omega, HR.out, w1, hz.trans hz1, HU1, rfl⟩, by simp [intOf]⟩
      · by_cases hq : s[1].toNat = 92
        · have e1 : ((s[1].toNat : Int) == 92) = true := by simp; omega
          have HR := hid (show St.resL s.data.toList = some (1, [92], 2) by rw [HES.out (by omega), hesc, show St.escF (St.escP.drop 4) s[1] = some 92 from St.escF_yes hq]; rfl)
          clear hesc hq
          go_wp2_with fail
          go_quiet (fail)
          obtain ⟨w1, hw1⟩ : ∃ w1, w0.drewN nq = w1 := ⟨_, rfl⟩
          have hz1 : w0.heap.size = w1.heap.size := by rw [← hw1]; exact drewN_sz _ _
          have HU1 : Und w w1 := HU0.out.trans (by rw [← hw1]; exact (Und.refl w0).drewN _)
          rw [drewN_alloc, hw1, hz1]
          clear hw1 hz1
          go_wp2_with (go_at_call 83; refine (htx.out 92 _ rfl _).mono ?_; rintro e w' ⟨rfl, X, rfl⟩)
          refine bodyPost_ret (v := elV (some (1, [92], 2))) (by simp [results, Tryd.results61, go_sem, elV, itv]) rfl ⟨?_, (by repeat (first | exact Und.refl _ | assumption | refine Und.under ?_ _ | refine Und.alloc ?_ _ | refine Und.drew ?_ | refine Und.drewN ?_ _))⟩
          rw [HR.out]
        · have e1 : ((s[1].toNat : Int) == 92) = false := by simp; omega
          have HR := hid (hesc.trans (show St.escF (St.escP.drop 4) s[1] = St.escF (St.escP.drop 5) s[1] from St.escF_no hq))
          clear hesc hq
          go_wp2_with fail
          go_quiet (fail)
          obtain ⟨w1, hw1⟩ : ∃ w1, w0.drewN nq = w1 := ⟨_, rfl⟩
          have hz1 : w0.heap.size = w1.heap.size := by rw [← hw1]; exact drewN_sz _ _
          have HU1 : Und w w1 := HU0.out.trans (by rw [← hw1]; exact (Und.refl w0).drewN _)
          rw [drewN_alloc, hw1]
          clear hw1
          go_wp2
          exact ⟨⟨5, rfl, by omega, HR.out, w1, hz.trans hz1, HU1, rfl⟩, by simp [intOf]⟩
      · by_cases hq : s[1].toNat = 123
        · have e1 : ((s[1].toNat : Int) == 123) = true := by simp; omega
          have HR := hid (show St.resL s.data.toList = some (1, [123], 2) by rw [HES.out (by omega), hesc, show St.escF (St.escP.drop 5) s[1] = some 123 from St.escF_yes hq]; rfl)
          clear hesc hq
          go_wp2_with fail
          go_quiet (fail)
          obtain ⟨w1, hw1⟩ : ∃ w1, w0.drewN nq = w1 := ⟨_, rfl⟩
          have hz1 : w0.heap.size = w1.heap.size := by rw [← hw1]; exact drewN_sz _ _
          have HU1 : Und w w1 := HU0.out.trans (by rw [← hw1]; exact (Und.refl w0).drewN _)
          rw [drewN_alloc, hw1, hz1]
          clear hw1 hz1
          go_wp2_with (go_at_call 83; refine (htx.out 123 _ rfl _).mono ?_; rintro e w' ⟨rfl, X, rfl⟩)
          refine bodyPost_ret (v := elV (some (1, [123], 2))) (by simp [results, Tryd.results61, go_sem, elV, itv]) rfl ⟨?_, (by repeat (first | exact Und.refl _ | assumption | refine Und.under ?_ _ | refine Und.alloc ?_ _ | refine Und.drew ?_ | refine Und.drewN ?_ _))⟩
          rw [HR.out]
        · have e1 : ((s[1].toNat : Int) == 123) = false := by simp; omega
          have HR := hid (hesc.trans (show St.escF (St.escP.drop 5) s[1] = St.escF (St.escP.drop 6) s[1] from St.escF_no hq))
          clear hesc hq
          go_wp2_with fail
          go_quiet (fail)
          obtain ⟨w1, hw1⟩ : ∃ w1, w0.drewN nq = w1 := ⟨_, rfl⟩
          have hz1 : w0.heap.size = w1.heap.size := by rw [← hw1]; exact drewN_sz _ _
          have HU1 : Und w w1 := HU0.out.trans (by rw [← hw1]; exact (Und.refl w0).drewN _)
          rw [drewN_alloc, hw1]
          clear hw1
          go_wp2
          exact ⟨⟨6, rfl, by omega, HR.out, w1, hz.trans hz1, HU1, rfl⟩, by simp [intOf]⟩
      · have hno : St.escL s[1] = none := hesc
        by_cases d10 : s[1].toNat = 10
        · have f10 : ((s[1].toNat : Int) == 10) = true := by simp; omega
          have g10 : ((s[1].toNat : Int) != 10) = false := by simp; omega
          have HR := hid (HCO.out d10)
          clear hesc hno d10
          go_wp2_with fail
          go_loopw [6] (fun i wr => RbRel (w0.alloc (.cells #[.int .i64 0, .string ⟨#[]⟩, .int .i64 0] 77)) s i wr) (fun i _ => s.size + 1 - (intOf i).toNat)
          case atStart => exact ⟨2, rfl, by omega, by omega, rfl, rfl⟩
          case round =>
            obtain ⟨k, rfl, hk1, hk2, hk3, rfl⟩ := hrel
            have HK := hid hk3
            clear hk3
            by_cases hlt : k < s.size
            · have z : (k : Int) < s.size := by omega
              have hcons := St.drop_at s k hlt
              by_cases b32 : s[k].toNat = 32
              · have e32 : ((s[k].toNat : Int) == 32) = true := by simp; omega
                have HE := hid (show 2 + St.blkN (s.data.toList.drop 2) = k + 1 + St.blkN (s.data.toList.drop (k + 1)) by rw [HK.out, hcons, blk_yes (decide_eq_true (Or.inl b32))]; omega)
                clear hcons b32
                go_wp2
                exact ⟨⟨k + 1, congrArg (Value.int .i64) (by omega), by omega, by omega, HE.out, rfl⟩, by simp [intOf]; omega⟩
              have e32 : ((s[k].toNat : Int) == 32) = false := by simp; omega
              by_cases b9 : s[k].toNat = 9
              · have e9 : ((s[k].toNat : Int) == 9) = true := by simp; omega
                have HE := hid (show 2 + St.blkN (s.data.toList.drop 2) = k + 1 + St.blkN (s.data.toList.drop (k + 1)) by rw [HK.out, hcons, blk_yes (decide_eq_true (Or.inr b9))]; omega)
                clear hcons b32 b9
                go_wp2
                exact ⟨⟨k + 1, congrArg (Value.int .i64) (by omega), by omega, by omega, HE.out, rfl⟩, by simp [intOf]; omega⟩
              have e9 : ((s[k].toNat : Int) == 9) = false := by simp; omega
              have HE := hid (show 2 + St.blkN (s.data.toList.drop 2) = k by rw [HK.out, hcons, blk_no (decide_eq_false (by omega))]; omega)
              clear hcons b32 b9
              go_wp2
              refine bodyPost_ret (v := elV (some (0, [], k))) (by simp [results, Tryd.results61, go_sem, elV, itv]) rfl ⟨?_, (by repeat (first | exact Und.refl _ | assumption | refine Und.under ?_ _ | refine Und.alloc ?_ _ | refine Und.drew ?_ | refine Und.drewN ?_ _))⟩
              rw [HR.out, HE.out]
            · obtain rfl : k = s.size := by omega
              have HE := hid (show 2 + St.blkN (s.data.toList.drop 2) = s.size by rw [HK.out, List.drop_of_length_le (by simp)]; rfl)
              clear hlt
              go_wp2
              refine bodyPost_ret (v := elV (some (0, [], s.size))) (by simp [results, Tryd.results61, go_sem, elV, itv]) rfl ⟨?_, (by repeat (first | exact Und.refl _ | assumption | refine Und.under ?_ _ | refine Und.alloc ?_ _ | refine Und.drew ?_ | refine Und.drewN ?_ _))⟩
              rw [HR.out, HE.out]
        · have f10 : ((s[1].toNat : Int) == 10) = false := by simp; omega
          have g10 : ((s[1].toNat : Int) != 10) = true := by simp; omega
          have HR := hid (show St.resL s.data.toList = none by rw [HES.out d10, hno]; rfl)
          clear hesc hno d10
          go_wp2
          refine bodyPost_ret (v := elV none) (by simp [results, Tryd.results61, go_sem, elV]) rfl ⟨?_, (by repeat (first | exact Und.refl _ | assumption | refine Und.under ?_ _ | refine Und.alloc ?_ _ | refine Und.drew ?_ | refine Und.drewN ?_ _))⟩
          rw [HR.out]; try rfl
  · have hsl := St.res_else (r := s.data.toList.drop 1) c10 c92 c123
    rw [← hcr] at hsl
    have HSL := hid hsl
    have e92 : ((s[0].toNat : Int) == 92) = false := by simp; omega
    have htx := hid (fun W => text_at s[0] (s[0].toNat : Int) rfl W)
    clear hsl hcr c10 c92 c123
    go_enter Tryd.func61, Tryd.ntmps61
    go_wp2_with (go_at_call 83; refine (htx.out _).mono ?_; rintro e w' ⟨rfl, X, rfl⟩)
    refine bodyPost_ret (v := elV (some (1, [s[0]], 1))) (by simp [results, Tryd.results61, go_sem, elV, itv]) rfl ⟨?_, (by repeat (first | exact Und.refl _ | assumption | refine Und.under ?_ _ | refine Und.alloc ?_ _ | refine Und.drew ?_ | refine Und.drewN ?_ _))⟩
    rw [HSL.out]; try rfl
set_option maxHeartbeats 3200000 in
theorem res_at : ElAt 2 St.resL := by
  intro s w hs h0
  obtain ⟨k, x, m, hv⟩ := elV_form (St.resL s.data.toList)
  have hsh := fun W => rres_any s W hs h0
  rw [hv] at hsh
  have HS := hid hsh
  have HV := hid hv
  clear hsh hv
  go_enter Tryd.func36, Tryd.ntmps36
  go_wp2_with (go_at_call 61; refine (HS.out _).mono ?_; rintro e w' ⟨rfl, X, rfl⟩)
  refine bodyPost_ret (v := .tuple #[.agg #[.int .i64 k, .string x, .int .i64 0], .int .i64 m]) (by simp [results, Tryd.results36, go_sem]) rfl ⟨?_, (by repeat (first | exact Und.refl _ | assumption | refine Und.under ?_ _ | refine Und.alloc ?_ _ | refine Und.drew ?_ | refine Und.drewN ?_ _))⟩
  rw [HV.out]
end Go.Proofs.YtkofmnbgcekjmaaDoor
