/- The walk of MarkupRoundTrips. Conditions: the list lies in memory, the library's tables lie at their places. -/
import Derived.Test.YtiifjfbfkhhpeaaGreatDoorMkEb
import Derived.Test.YtiifjfbfkhhpeaaGreatDoorRefNumT
import Derived.Test.YtiifjfbfkhhpeaaGreatDoorRefCat
import Derived.Test.YtiifjfbfkhhpeaaGreatDoorRdsC
set_option linter.unusedVariables false
set_option linter.unusedSimpArgs false
namespace Go.Proofs.YtiifjfbfkhhpeaaGreatDoor
open Go.RowKit

set_option maxRecDepth 20000 in
set_option maxHeartbeats 6400000 in
theorem rtlaw_any (A : Option Addr) (n c : Nat) (zs : List Int) (s : ByteArray) (w : World) (hL : Mk.LibAt w) (hz : zs.length = n) (hn : n ≤ 9223372036854775807) (hI : IntsAt w A zs) :
    Calls Tryz.prog 4 #[.slice A n c, .string s] w fun e w' => e = .returned (.bool true) ∧ Und w w' := by
  have HM := hid (made2T_any A n c zs w hz hn hI)
  have HKN := hid (fun W (hW : Und w W) => Mk.known_any W (hL.und hW))
  clear hI hL
  by_cases q1 : 100 < n
  · have z1 : (100 : Int) < (n : Int) := by omega
    go_enter Tryz.func4, Tryz.ntmps4
    go_wp2_with fail
    refine (HKN.out _ (Und.refl _)).mono ?_
    rintro e w2 ⟨rfl, hu⟩
    have HU := hid hu
    clear hu
    go_wp2
    go_ret
    exact ⟨rfl, HU.out⟩
  have z1 : ¬ (100 : Int) < (n : Int) := by omega
  by_cases q2 : 200 < s.size
  · have z2 : (200 : Int) < (s.size : Int) := by omega
    go_enter Tryz.func4, Tryz.ntmps4
    go_wp2_with fail
    refine (HKN.out _ (Und.refl _)).mono ?_
    rintro e w2 ⟨rfl, hu⟩
    have HU := hid hu
    clear hu
    go_wp2
    go_ret
    exact ⟨rfl, HU.out⟩
  have z2 : ¬ (200 : Int) < (s.size : Int) := by omega
  go_enter Tryz.func4, Tryz.ntmps4
  go_wp2_with fail
  refine HM.out.mono ?_
  rintro e w2 ⟨A2, c2, f, rfl, hF, hA2, hu⟩
  have hsl : s.data.toList.length = s.size := St.len_list s
  have hcat := fun (W : World) (b : Nat) (h : ItemsAt W A2 f) (h' : ItemsAt W (some ⟨b, 0, none⟩) [(1, s.data.toList, 0)]) => concat_any A2 f.length c2 f (some ⟨b, 0, none⟩) 1 1 [(1, s.data.toList, 0)] W rfl rfl (fun e => by have := hA2 e; have := hF.2.2.2.2.1; omega) (fun e => by cases e) h h' (by have := hF.2.2.1; omega) (by rw [tot_snoc]; have := hF.2.2.2.1; simp only [hsl]; omega)
  rw [St.normL_snoc, hF.2.1.1.nm] at hcat
  have hg : St.GoodT (St.addI f (1, s.data.toList, 0)) := good_addT hF.2.1.1 _
  have hgl : (St.addI f (1, s.data.toList, 0)).length ≤ 17 := by have := (St.addI_len f (1, s.data.toList, 0)).1; have := hF.2.2.1; omega
  have hgt : tot (St.addI f (1, s.data.toList, 0)) ≤ 400 := by have := tot_add f (1, s.data.toList, 0); simp only [hsl] at this; have := hF.2.2.2.1; omega
  generalize St.addI f (1, s.data.toList, 0) = g at hcat hg hgl hgt
  have HCAT := hid hcat
  have HF := hid hF
  have HU := hid hu
  clear hcat hF hu HM hA2
  go_wp2_with fail
  refine (HCAT.out _ _ (HF.out.1.und ((Und.refl _).alloc _)) (by rw [← ba_eta s]; exact items_box _ _ _ _ (by simp) (by simp) (by simp) (by simp))).mono ?_
  rintro e w3 ⟨v, rfl, ho, hu3⟩
  obtain ⟨A3, c3, rfl, h31, h32, h33⟩ := own_slice' ho
  have hI3 := items_own ho rfl
  have hll := lenL_tot g
  have hens := St.good_encT hg (by omega) (by omega)
  have hen := fun (W : World) (hW : Und w3 W) => mencode_any A3 g.length c3 g W rfl h31 (by unfold maxLen at h32; omega) (hI3.und hW) (by omega) (by omega)
  rw [hens] at hen
  have heb := encF_bound 1 g
  have hraw := raws_encT g
  have hrsz : (⟨(g.flatMap (St.encI 1)).toArray⟩ : ByteArray).size ≤ 5 * tot g + 5 * g.length := by show (g.flatMap (St.encI 1)).toArray.size ≤ _; simpa using heb
  simp only at hen
  generalize (⟨(g.flatMap (St.encI 1)).toArray⟩ : ByteArray) = raw at hen hraw hrsz
  obtain ⟨cuts, hD, _⟩ := mk_reads hg (by omega) (by omega) hraw
  have hdc := fun W => Mk.mdecode_any raw W (by omega)
  rw [hD] at hdc
  obtain ⟨q, hq1, hq2⟩ := good_renum hg
  have hrn := fun (W : World) (hW : Und w3 W) => rrenumber_any A3 g.length c3 q g W rfl (hI3.und hW) hq1 hq2 (by omega) (by omega) hg.nm
  have HEN := hid hen
  have HDC := hid hdc
  have HRN := hid hrn
  have HU3 := hid (HU.out.trans (((Und.refl _).alloc _).trans hu3))
  clear hen hdc hrn hu3 ho hI3 hD hraw heb hens hg hq1 hq2 HF HCAT HU
  go_wp2_with fail
  refine (HEN.out _ (Und.refl _)).mono ?_
  rintro e w4 ⟨rfl, hu4⟩
  have HU4 := hid hu4
  clear hu4 HEN
  go_wp2_with fail
  refine (HDC.out _).mono ?_
  rintro e w5 ⟨A5, c5, rfl, hI5, h51, h52, hu5⟩
  have HI5 := hid hI5
  have HU5 := hid (HU4.out.trans hu5)
  clear hI5 hu5 HDC HU4
  simp only at h51 ⊢
  go_wp2_with fail
  refine (HRN.out _ HU5.out).mono ?_
  rintro e w6 ⟨v6, rfl, ho6, hu6⟩
  obtain ⟨A6, c6, rfl, h61, h62, h63⟩ := own_slice' ho6
  have hs := fun W (hW : Und w6 W) => rsame_any A5 A6 g.length g.length c5 c6 g g W rfl rfl h51 h61 h52 (by unfold maxLen at h62; omega) ((HI5.out.und hu6).und hW) ((items_own ho6 rfl).und hW)
  rw [decide_eq_true rfl] at hs
  have HS := hid hs
  have HU6 := hid (HU3.out.trans (HU5.out.trans hu6))
  clear hs ho6 hu6 HRN HU5 HI5 HU3
  go_wp2_with fail
  refine (HS.out _ (Und.refl _)).mono ?_
  rintro e w7 ⟨rfl, hu7⟩
  have HU7 := hid (HU6.out.trans hu7)
  clear hu7 HS HU6
  go_wp2_with fail
  refine (HKN.out _ HU7.out).mono ?_
  rintro e w8 ⟨rfl, hu8⟩
  have HU8 := hid (HU7.out.trans hu8)
  clear hu8
  go_wp2
  go_ret
  exact ⟨rfl, HU8.out⟩
end Go.Proofs.YtiifjfbfkhhpeaaGreatDoor
