/- The walk of MarkupNests. Conditions: the list lies in memory, the library's tables lie at their places. -/
import Derived.Test.YtiifjfbfkhhpeaaGreatDoorMkEb
import Derived.Test.YtiifjfbfkhhpeaaGreatDoorRdsC
import Derived.Test.YtiifjfbfkhhpeaaGreatDoorMkPlace
set_option linter.unusedVariables false
set_option linter.unusedSimpArgs false
namespace Go.Proofs.YtiifjfbfkhhpeaaGreatDoor
open Go.RowKit

theorem nest_dec {f : List St.It} {raw t : ByteArray} (hg : St.GoodT f) (hl : f.length ≤ 500) (hL : St.lenL f ≤ 1000) (hr : raw.data.toList = f.flatMap (St.encI 1)) (p : Nat) (hp : p < 5) (ht : t.data.toList = St.nestL p) :
    Mk.mkD (raw ++ t) = ([], [], raw.size + St.nestW p, 7) := by
  rw [Mk.mkD_F, ByteArray.data_append, Array.toList_append, hr, ht, St.nest_read hg hl hL hp, ← hr, St.len_list]
set_option maxRecDepth 20000 in
set_option maxHeartbeats 12800000 in
theorem nelaw_any (A : Option Addr) (n c : Nat) (zs : List Int) (k : Int) (w : World) (hL : Mk.LibAt w) (hz : zs.length = n) (hn : n ≤ 9223372036854775807) (hI : IntsAt w A zs) :
    Calls Tryz.prog 5 #[.slice A n c, .int .i64 k] w fun e w' => e = .returned (.bool true) ∧ Und w w' := by
  have HM := hid (made_any A n c zs w hz hn hI)
  have HLB := hid hL
  have HKN := hid (fun W (hW : Und w W) => Mk.known_any W (HLB.out.und hW))
  clear hI hL
  by_cases q1 : 60 < n
  · have z1 : (60 : Int) < (n : Int) := by omega
    go_enter Tryz.func5, Tryz.ntmps5
    go_wp2_with fail
    refine (HKN.out _ (Und.refl _)).mono ?_
    rintro e w2 ⟨rfl, hu⟩
    have HU := hid hu
    clear hu
    go_wp2
    go_ret
    exact ⟨rfl, HU.out⟩
  have z1 : ¬ (60 : Int) < (n : Int) := by omega
  have hpl := fun W => place_any k 5 W (by omega) (by omega)
  have hp0 := Int.emod_nonneg k (show (5 : Int) ≠ 0 by omega)
  have hp1 := Int.emod_lt_of_pos k (show (0 : Int) < 5 by omega)
  generalize k % 5 = p at hpl hp0 hp1
  rcases (show p = 0 ∨ p = 1 ∨ p = 2 ∨ p = 3 ∨ p = 4 by omega) with rfl | rfl | rfl | rfl | rfl
  · have HPL := hid hpl
    clear hpl hp0 hp1
    go_enter Tryz.func5, Tryz.ntmps5
    go_wp2_with fail
    refine HM.out.mono ?_
    rintro e w2 ⟨A2, c2, f, rfl, hF, hu⟩
    have hgd := hF.2.1.1
    have hfl := hF.2.2.1
    have hft := hF.2.2.2.1
    have hll := lenL_tot f
    have hen := mencode_any A2 f.length c2 f w2 rfl hF.2.2.2.2.1 hF.2.2.2.2.2.1 hF.1 (by omega) (by omega)
    rw [St.good_encT hgd (by omega) (by omega)] at hen
    have heb := encF_bound 1 f
    obtain ⟨raw, hraw⟩ : ∃ raw : ByteArray, raw = ⟨(f.flatMap (St.encI 1)).toArray⟩ := ⟨_, rfl⟩
    have hrd : raw.data.toList = f.flatMap (St.encI 1) := by rw [hraw]
    simp only at hen
    rw [← hraw] at hen
    have hrs : raw.size ≤ 2000 := by rw [← St.len_list, hrd]; omega
    have hdc := fun W => Mk.mdecode_any (raw ++ (⟨#[60, 47, 98, 62]⟩ : ByteArray)) W (by rw [ByteArray.size_append]; show _ + 4 ≤ _; omega)
    rw [nest_dec hgd (by omega) (by omega) hrd 0 (by omega) (by rfl)] at hdc
    have y1 : ¬ 9223372036854775807 < raw.size + 4 := by omega
    have y2 : (((raw.size + 0 : Nat) : Int) == (raw.size : Int) + 0) = true := by simp
    have y3 : ((raw.size + 0 : Nat) : Int) = (raw.size : Int) + 0 := by simp
    simp only [St.nestW] at hdc
    have HEN := hid hen
    have HDC := hid hdc
    have HU := hid hu
    clear hen hdc hu hF hgd hraw hrd heb hll HM
    go_wp2_with fail
    refine HEN.out.mono ?_
    rintro e w3 ⟨rfl, hu3⟩
    have HU3 := hid (HU.out.trans hu3)
    clear hu3 HEN
    go_wp2_with fail
    refine (HPL.out _).mono ?_
    rintro e w4 ⟨rfl, rfl⟩
    go_wp2_with fail
    refine (HDC.out _).mono ?_
    rintro e w5 ⟨A5, c5, rfl, _, _, _, hu5⟩
    have HU5 := hid (HU3.out.trans (Und.trans ((by repeat (first | exact Und.refl _ | assumption | refine Und.under ?_ _ | refine Und.alloc ?_ _ | refine Und.drew ?_ | refine Und.drewN ?_ _))) hu5))
    clear hu5 HDC
    go_wp2_with fail
    refine (HPL.out _).mono ?_
    rintro e w6 ⟨rfl, rfl⟩
    go_wp2_with fail
    refine (HKN.out _ (HU5.out.trans ((by repeat (first | exact Und.refl _ | assumption | refine Und.under ?_ _ | refine Und.alloc ?_ _ | refine Und.drew ?_ | refine Und.drewN ?_ _))))).mono ?_
    rintro e w7 ⟨rfl, hu7⟩
    have HU7 := hid ((HU5.out.trans ((by repeat (first | exact Und.refl _ | assumption | refine Und.under ?_ _ | refine Und.alloc ?_ _ | refine Und.drew ?_ | refine Und.drewN ?_ _)))).trans hu7)
    clear hu7
    go_wp2
    go_ret
    exact ⟨rfl, HU7.out⟩
  · have HPL := hid hpl
    clear hpl hp0 hp1
    go_enter Tryz.func5, Tryz.ntmps5
    go_wp2_with fail
    refine HM.out.mono ?_
    rintro e w2 ⟨A2, c2, f, rfl, hF, hu⟩
    have hgd := hF.2.1.1
    have hfl := hF.2.2.1
    have hft := hF.2.2.2.1
    have hll := lenL_tot f
    have hen := mencode_any A2 f.length c2 f w2 rfl hF.2.2.2.2.1 hF.2.2.2.2.2.1 hF.1 (by omega) (by omega)
    rw [St.good_encT hgd (by omega) (by omega)] at hen
    have heb := encF_bound 1 f
    obtain ⟨raw, hraw⟩ : ∃ raw : ByteArray, raw = ⟨(f.flatMap (St.encI 1)).toArray⟩ := ⟨_, rfl⟩
    have hrd : raw.data.toList = f.flatMap (St.encI 1) := by rw [hraw]
    simp only at hen
    rw [← hraw] at hen
    have hrs : raw.size ≤ 2000 := by rw [← St.len_list, hrd]; omega
    have hdc := fun W => Mk.mdecode_any (raw ++ (⟨#[60, 98, 62, 60, 47, 105, 62]⟩ : ByteArray)) W (by rw [ByteArray.size_append]; show _ + 7 ≤ _; omega)
    rw [nest_dec hgd (by omega) (by omega) hrd 1 (by omega) (by rfl)] at hdc
    have y1 : ¬ 9223372036854775807 < raw.size + 7 := by omega
    have y2 : (((raw.size + 3 : Nat) : Int) == (raw.size : Int) + 3) = true := by simp
    have y3 : ((raw.size + 3 : Nat) : Int) = (raw.size : Int) + 3 := by simp
    simp only [St.nestW] at hdc
    have HEN := hid hen
    have HDC := hid hdc
    have HU := hid hu
    clear hen hdc hu hF hgd hraw hrd heb hll HM
    go_wp2_with fail
    refine HEN.out.mono ?_
    rintro e w3 ⟨rfl, hu3⟩
    have HU3 := hid (HU.out.trans hu3)
    clear hu3 HEN
    go_wp2_with fail
    refine (HPL.out _).mono ?_
    rintro e w4 ⟨rfl, rfl⟩
    go_wp2_with fail
    refine (HDC.out _).mono ?_
    rintro e w5 ⟨A5, c5, rfl, _, _, _, hu5⟩
    have HU5 := hid (HU3.out.trans (Und.trans ((by repeat (first | exact Und.refl _ | assumption | refine Und.under ?_ _ | refine Und.alloc ?_ _ | refine Und.drew ?_ | refine Und.drewN ?_ _))) hu5))
    clear hu5 HDC
    go_wp2_with fail
    refine (HPL.out _).mono ?_
    rintro e w6 ⟨rfl, rfl⟩
    go_wp2_with fail
    refine (HKN.out _ (HU5.out.trans ((by repeat (first | exact Und.refl _ | assumption | refine Und.under ?_ _ | refine Und.alloc ?_ _ | refine Und.drew ?_ | refine Und.drewN ?_ _))))).mono ?_
    rintro e w7 ⟨rfl, hu7⟩
    have HU7 := hid ((HU5.out.trans ((by repeat (first | exact Und.refl _ | assumption | refine Und.under ?_ _ | refine Und.alloc ?_ _ | refine Und.drew ?_ | refine Und.drewN ?_ _)))).trans hu7)
    clear hu7
    go_wp2
    go_ret
    exact ⟨rfl, HU7.out⟩
  · have HPL := hid hpl
    clear hpl hp0 hp1
    go_enter Tryz.func5, Tryz.ntmps5
    go_wp2_with fail
    refine HM.out.mono ?_
    rintro e w2 ⟨A2, c2, f, rfl, hF, hu⟩
    have hgd := hF.2.1.1
    have hfl := hF.2.2.1
    have hft := hF.2.2.2.1
    have hll := lenL_tot f
    have hen := mencode_any A2 f.length c2 f w2 rfl hF.2.2.2.2.1 hF.2.2.2.2.2.1 hF.1 (by omega) (by omega)
    rw [St.good_encT hgd (by omega) (by omega)] at hen
    have heb := encF_bound 1 f
    obtain ⟨raw, hraw⟩ : ∃ raw : ByteArray, raw = ⟨(f.flatMap (St.encI 1)).toArray⟩ := ⟨_, rfl⟩
    have hrd : raw.data.toList = f.flatMap (St.encI 1) := by rw [hraw]
    simp only at hen
    rw [← hraw] at hen
    have hrs : raw.size ≤ 2000 := by rw [← St.len_list, hrd]; omega
    have hdc := fun W => Mk.mdecode_any (raw ++ (⟨#[60, 98, 62]⟩ : ByteArray)) W (by rw [ByteArray.size_append]; show _ + 3 ≤ _; omega)
    rw [nest_dec hgd (by omega) (by omega) hrd 2 (by omega) (by rfl)] at hdc
    have y1 : ¬ 9223372036854775807 < raw.size + 3 := by omega
    have y2 : (((raw.size + 3 : Nat) : Int) == (raw.size : Int) + 3) = true := by simp
    have y3 : ((raw.size + 3 : Nat) : Int) = (raw.size : Int) + 3 := by simp
    simp only [St.nestW] at hdc
    have HEN := hid hen
    have HDC := hid hdc
    have HU := hid hu
    clear hen hdc hu hF hgd hraw hrd heb hll HM
    go_wp2_with fail
    refine HEN.out.mono ?_
    rintro e w3 ⟨rfl, hu3⟩
    have HU3 := hid (HU.out.trans hu3)
    clear hu3 HEN
    go_wp2_with fail
    refine (HPL.out _).mono ?_
    rintro e w4 ⟨rfl, rfl⟩
    go_wp2_with fail
    refine (HDC.out _).mono ?_
    rintro e w5 ⟨A5, c5, rfl, _, _, _, hu5⟩
    have HU5 := hid (HU3.out.trans (Und.trans ((by repeat (first | exact Und.refl _ | assumption | refine Und.under ?_ _ | refine Und.alloc ?_ _ | refine Und.drew ?_ | refine Und.drewN ?_ _))) hu5))
    clear hu5 HDC
    go_wp2_with fail
    refine (HPL.out _).mono ?_
    rintro e w6 ⟨rfl, rfl⟩
    go_wp2_with fail
    refine (HKN.out _ (HU5.out.trans ((by repeat (first | exact Und.refl _ | assumption | refine Und.under ?_ _ | refine Und.alloc ?_ _ | refine Und.drew ?_ | refine Und.drewN ?_ _))))).mono ?_
    rintro e w7 ⟨rfl, hu7⟩
    have HU7 := hid ((HU5.out.trans ((by repeat (first | exact Und.refl _ | assumption | refine Und.under ?_ _ | refine Und.alloc ?_ _ | refine Und.drew ?_ | refine Und.drewN ?_ _)))).trans hu7)
    clear hu7
    go_wp2
    go_ret
    exact ⟨rfl, HU7.out⟩
  · have HPL := hid hpl
    clear hpl hp0 hp1
    go_enter Tryz.func5, Tryz.ntmps5
    go_wp2_with fail
    refine HM.out.mono ?_
    rintro e w2 ⟨A2, c2, f, rfl, hF, hu⟩
    have hgd := hF.2.1.1
    have hfl := hF.2.2.1
    have hft := hF.2.2.2.1
    have hll := lenL_tot f
    have hen := mencode_any A2 f.length c2 f w2 rfl hF.2.2.2.2.1 hF.2.2.2.2.2.1 hF.1 (by omega) (by omega)
    rw [St.good_encT hgd (by omega) (by omega)] at hen
    have heb := encF_bound 1 f
    obtain ⟨raw, hraw⟩ : ∃ raw : ByteArray, raw = ⟨(f.flatMap (St.encI 1)).toArray⟩ := ⟨_, rfl⟩
    have hrd : raw.data.toList = f.flatMap (St.encI 1) := by rw [hraw]
    simp only at hen
    rw [← hraw] at hen
    have hrs : raw.size ≤ 2000 := by rw [← St.len_list, hrd]; omega
    have hdc := fun W => Mk.mdecode_any (raw ++ (⟨#[60, 105, 62, 60, 98, 62, 60, 47, 105, 62, 60, 47, 98, 62]⟩ : ByteArray)) W (by rw [ByteArray.size_append]; show _ + 14 ≤ _; omega)
    rw [nest_dec hgd (by omega) (by omega) hrd 3 (by omega) (by rfl)] at hdc
    have y1 : ¬ 9223372036854775807 < raw.size + 14 := by omega
    have y2 : (((raw.size + 6 : Nat) : Int) == (raw.size : Int) + 6) = true := by simp
    have y3 : ((raw.size + 6 : Nat) : Int) = (raw.size : Int) + 6 := by simp
    simp only [St.nestW] at hdc
    have HEN := hid hen
    have HDC := hid hdc
    have HU := hid hu
    clear hen hdc hu hF hgd hraw hrd heb hll HM
    go_wp2_with fail
    refine HEN.out.mono ?_
    rintro e w3 ⟨rfl, hu3⟩
    have HU3 := hid (HU.out.trans hu3)
    clear hu3 HEN
    go_wp2_with fail
    refine (HPL.out _).mono ?_
    rintro e w4 ⟨rfl, rfl⟩
    go_wp2_with fail
    refine (HDC.out _).mono ?_
    rintro e w5 ⟨A5, c5, rfl, _, _, _, hu5⟩
    have HU5 := hid (HU3.out.trans (Und.trans ((by repeat (first | exact Und.refl _ | assumption | refine Und.under ?_ _ | refine Und.alloc ?_ _ | refine Und.drew ?_ | refine Und.drewN ?_ _))) hu5))
    clear hu5 HDC
    go_wp2_with fail
    refine (HPL.out _).mono ?_
    rintro e w6 ⟨rfl, rfl⟩
    go_wp2_with fail
    refine (HKN.out _ (HU5.out.trans ((by repeat (first | exact Und.refl _ | assumption | refine Und.under ?_ _ | refine Und.alloc ?_ _ | refine Und.drew ?_ | refine Und.drewN ?_ _))))).mono ?_
    rintro e w7 ⟨rfl, hu7⟩
    have HU7 := hid ((HU5.out.trans ((by repeat (first | exact Und.refl _ | assumption | refine Und.under ?_ _ | refine Und.alloc ?_ _ | refine Und.drew ?_ | refine Und.drewN ?_ _)))).trans hu7)
    clear hu7
    go_wp2
    go_ret
    exact ⟨rfl, HU7.out⟩
  · have HPL := hid hpl
    clear hpl hp0 hp1
    go_enter Tryz.func5, Tryz.ntmps5
    go_wp2_with fail
    refine HM.out.mono ?_
    rintro e w2 ⟨A2, c2, f, rfl, hF, hu⟩
    have hgd := hF.2.1.1
    have hfl := hF.2.2.1
    have hft := hF.2.2.2.1
    have hll := lenL_tot f
    have hen := mencode_any A2 f.length c2 f w2 rfl hF.2.2.2.2.1 hF.2.2.2.2.2.1 hF.1 (by omega) (by omega)
    rw [St.good_encT hgd (by omega) (by omega)] at hen
    have heb := encF_bound 1 f
    obtain ⟨raw, hraw⟩ : ∃ raw : ByteArray, raw = ⟨(f.flatMap (St.encI 1)).toArray⟩ := ⟨_, rfl⟩
    have hrd : raw.data.toList = f.flatMap (St.encI 1) := by rw [hraw]
    simp only at hen
    rw [← hraw] at hen
    have hrs : raw.size ≤ 2000 := by rw [← St.len_list, hrd]; omega
    have hdc := fun W => Mk.mdecode_any (raw ++ (⟨#[60, 98, 47, 62, 60, 47, 98, 62]⟩ : ByteArray)) W (by rw [ByteArray.size_append]; show _ + 8 ≤ _; omega)
    rw [nest_dec hgd (by omega) (by omega) hrd 4 (by omega) (by rfl)] at hdc
    have y1 : ¬ 9223372036854775807 < raw.size + 8 := by omega
    have y2 : (((raw.size + 4 : Nat) : Int) == (raw.size : Int) + 4) = true := by simp
    have y3 : ((raw.size + 4 : Nat) : Int) = (raw.size : Int) + 4 := by simp
    simp only [St.nestW] at hdc
    have HEN := hid hen
    have HDC := hid hdc
    have HU := hid hu
    clear hen hdc hu hF hgd hraw hrd heb hll HM
    go_wp2_with fail
    refine HEN.out.mono ?_
    rintro e w3 ⟨rfl, hu3⟩
    have HU3 := hid (HU.out.trans hu3)
    clear hu3 HEN
    go_wp2_with fail
    refine (HPL.out _).mono ?_
    rintro e w4 ⟨rfl, rfl⟩
    go_wp2_with fail
    refine (HDC.out _).mono ?_
    rintro e w5 ⟨A5, c5, rfl, _, _, _, hu5⟩
    have HU5 := hid (HU3.out.trans (Und.trans ((by repeat (first | exact Und.refl _ | assumption | refine Und.under ?_ _ | refine Und.alloc ?_ _ | refine Und.drew ?_ | refine Und.drewN ?_ _))) hu5))
    clear hu5 HDC
    go_wp2_with fail
    refine (HPL.out _).mono ?_
    rintro e w6 ⟨rfl, rfl⟩
    go_wp2_with fail
    refine (HKN.out _ (HU5.out.trans ((by repeat (first | exact Und.refl _ | assumption | refine Und.under ?_ _ | refine Und.alloc ?_ _ | refine Und.drew ?_ | refine Und.drewN ?_ _))))).mono ?_
    rintro e w7 ⟨rfl, hu7⟩
    have HU7 := hid ((HU5.out.trans ((by repeat (first | exact Und.refl _ | assumption | refine Und.under ?_ _ | refine Und.alloc ?_ _ | refine Und.drew ?_ | refine Und.drewN ?_ _)))).trans hu7)
    clear hu7
    go_wp2
    go_ret
    exact ⟨rfl, HU7.out⟩
end Go.Proofs.YtiifjfbfkhhpeaaGreatDoor
