/- The contract of the laws' fixed example of package resource. No condition. -/
import Derived.Test.YtpahkhmheikebaaGreatDoorResSplit
import Derived.Test.YtpahkhmheikebaaGreatDoorRefSame
namespace Go.Proofs.YtpahkhmheikebaaGreatDoor
open Go.RowKit

theorem kd : resD ⟨#[120, 92, 110, 121, 123, 110, 125]⟩ = ([(1, [120, 10, 121], 0), (5, [110], 0)], [0, 1, 3, 4, 7], 0, 0) := by rfl
theorem kc : resD ⟨#[97, 92, 10, 32, 32, 98]⟩ = ([(1, [97, 98], 0)], [0, 1, 6], 0, 0) := by rfl
theorem ks : resT ⟨#[97, 61, 10, 97, 61]⟩ = ([], 3, 5) := by rfl
theorem nats3 (w : World) (T : TypeId) : NatsAt (w.alloc (.cells #[.int .i64 0, .int .i64 1, .int .i64 6] T)) (some ⟨w.heap.size, 0, none⟩) [0, 1, 6] := by
  intro _
  refine ⟨w.heap.size, 0, rfl, by simp, fun j hj => ?_⟩
  rw [Nat.zero_add, World.cell?_alloc_at _ _ _ _ rfl]
  match j, hj with
  | 0, _ => rfl
  | 1, _ => rfl
  | 2, _ => rfl

set_option maxRecDepth 20000 in
set_option maxHeartbeats 3200000 in
theorem xknown_any (w : World) : Calls Tryz.prog 8 #[] w fun e w' => e = .returned (.bool true) ∧ Und w w' := by
  have h1 := xdecode_any ⟨#[120, 92, 110, 121, 123, 110, 125]⟩ w (by show 7 ≤ _; omega)
  have h2 := fun W => xcuts_any ⟨#[97, 92, 10, 32, 32, 98]⟩ W (by show 6 ≤ _; omega)
  have h3 := fun W => xsplit_any ⟨#[97, 61, 10, 97, 61]⟩ W (by show 5 ≤ _; omega)
  rw [kd] at h1
  rw [kc] at h2
  rw [ks] at h3
  have H1 := hid h1
  have H2 := hid h2
  have H3 := hid h3
  clear h1 h2 h3
  go_enter Tryz.func8, Tryz.ntmps8
  go_wp2_with fail
  refine H1.out.mono ?_
  rintro e w1 ⟨A, c, rfl, hI, hc1, hc2, hu1⟩
  obtain ⟨b, off, rfl, hb, hc⟩ := hI (by simp)
  have g1 := (hc 0 (by simp)).2.1
  simp only [Nat.zero_mul, Nat.add_zero, List.getElem_cons_zero] at g1
  have HU1 := hid hu1
  have HG1 := hid g1
  clear hI hc hu1 g1 hc2
  go_wp2_with fail
  refine (H2.out _).mono ?_
  rintro e w2 ⟨A2, c2, rfl, hN, hd1, hd2, hu2⟩
  have HN := hid hN
  have HU2 := hid (HU1.out.trans hu2)
  have HG2 := hid ((hu2.cell (p := ⟨b, off + 1, none⟩) hb).trans HG1.out)
  have hbw := Nat.lt_of_lt_of_le hb hu2.size
  clear hN hu2 HG1 hb
  go_wp2_with fail
  refine (H3.out _).mono ?_
  rintro e w3 ⟨A3, c3, rfl, _, _, _, hu3⟩
  have m1 := (hu3.cell (p := ⟨b, off + 1, none⟩) hbw).trans HG2.out
  have hbw3 := Nat.lt_of_lt_of_le hbw hu3.size
  haveI : LtW b w3 := LtW.of hbw3
  have HU3 := hid (HU2.out.trans hu3)
  have HSI := hid (fun W (hW : Und w3 W) (B : Option Addr) (hB : NatsAt W B [0, 1, 6]) => sameInts_any A2 B 3 3 c2 3 [0, 1, 6] [0, 1, 6] W rfl rfl hd1 (by omega) hd2 (by omega) ((HN.out.und hu3).und hW) hB)
  clear hu3 HG2 hbw
  simp only [List.length_cons, List.length_nil] at hc1 hd1
  go_wp2_with fail
  refine (HSI.out _ ((by repeat (first | exact Und.refl _ | assumption | refine Und.under ?_ _ | refine Und.alloc ?_ _ | refine Und.drew ?_ | refine Und.drewN ?_ _))) _ (nats3 _ _)).mono ?_
  rintro e w4 ⟨rfl, hu4⟩
  have HU4 := hid (HU3.out.trans ((show Und w3 _ from (by repeat (first | exact Und.refl _ | assumption | refine Und.under ?_ _ | refine Und.alloc ?_ _ | refine Und.drew ?_ | refine Und.drewN ?_ _))).trans hu4))
  clear hu4 HSI
  go_wp2
  go_ret
  exact ⟨rfl, HU4.out⟩
end Go.Proofs.YtpahkhmheikebaaGreatDoor
