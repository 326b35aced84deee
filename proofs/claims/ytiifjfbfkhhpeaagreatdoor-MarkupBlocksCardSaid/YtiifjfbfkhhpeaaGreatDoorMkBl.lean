/- The walk of MarkupBlocks. Conditions: the list lies in memory, the library's tables lie at their places. -/
import Derived.Test.YtiifjfbfkhhpeaaGreatDoorMkEb
import Derived.Test.YtiifjfbfkhhpeaaGreatDoorRdsC
import Derived.Test.YtiifjfbfkhhpeaaGreatDoorMkPlace
set_option linter.unusedVariables false
set_option linter.unusedSimpArgs false
namespace Go.Proofs.YtiifjfbfkhhpeaaGreatDoor
open Go.RowKit

theorem block_dec {f : List St.It} {d raw : ByteArray} (hg : St.GoodT f) (hl : f.length ≤ 512) (hL : St.lenL f ≤ 1024) (hr : raw.data.toList = f.flatMap (St.encI 1)) (p : Nat) (hd : d.data.toList = raw.data.toList ++ ([60] ++ St.blkN5 p ++ [62])) :
    Mk.mkD d = ([], [], raw.size, 2) := by
  rw [Mk.mkD_F, hd, hr, St.block_read hg hl hL p, ← hr, St.len_list]
theorem enc_dE {f : List St.It} {raw : ByteArray} (hg : St.GoodT f) (hl : f.length ≤ 100) (ht : tot f ≤ 900) (hr : raw = ⟨(f.flatMap (St.encI 1)).toArray⟩) : (Mk.dE raw.data.toList).2 = 0 := by
  obtain ⟨cuts, hD, _⟩ := mk_reads hg hl ht (raws_encT f)
  rw [Mk.dE_of, hr, hD]
theorem block_spl {f : List St.It} {d raw : ByteArray} (hg : St.GoodT f) (hl : f.length ≤ 100) (ht : tot f ≤ 900) (hr : raw = ⟨(f.flatMap (St.encI 1)).toArray⟩) (hs : raw.size ≤ 60000) (p : Nat) (hd : d.data.toList = [60] ++ St.blkN5 p ++ [62] ++ raw.data.toList ++ St.endM (St.blkN5 p)) :
    Mk.mkT d = ([(false, [], [60] ++ St.blkN5 p ++ [62]), (true, [49], raw.data.toList), (false, [], St.endM (St.blkN5 p))], 0, 0) := by
  have hq : St.NoC (St.blkN5 p) raw.data.toList := by rw [hr]; exact St.enc_noC (St.blkN5_ok p).1 hg
  unfold Mk.mkT
  rw [hd, St.block_split p hq (enc_dE hg hl ht hr) (by rw [St.len_list]; exact hs), show Lib.decDigits 1 = [49] by kernel_rfl]
theorem block_opn {f : List St.It} {d raw : ByteArray} (hg : St.GoodT f) (hl : f.length ≤ 100) (ht : tot f ≤ 900) (hr : raw = ⟨(f.flatMap (St.encI 1)).toArray⟩) (hs : raw.size ≤ 60000) (p : Nat) (hd : d.data.toList = [60] ++ St.blkN5 p ++ [62] ++ raw.data.toList) :
    Mk.mkT d = ([], raw.size + (St.blkN5 p).length + 2, 2) := by
  have hq : St.NoC (St.blkN5 p) raw.data.toList := by rw [hr]; exact St.enc_noC (St.blkN5_ok p).1 hg
  unfold Mk.mkT
  rw [hd, St.block_open p hq (enc_dE hg hl ht hr) (by rw [St.len_list]; exact hs), St.len_list]
theorem block_shut {d : ByteArray} (p : Nat) (hd : d.data.toList = St.endM (St.blkN5 p)) : Mk.mkT d = ([], 0, 2) := by
  unfold Mk.mkT
  rw [hd, St.block_end p]
set_option maxRecDepth 20000 in
set_option maxHeartbeats 12800000 in
theorem bllaw_any (A : Option Addr) (n c : Nat) (zs : List Int) (k : Int) (w : World) (hL : Mk.LibAt w) (hz : zs.length = n) (hn : n ≤ 9223372036854775807) (hI : IntsAt w A zs) :
    Calls Tryz.prog 6 #[.slice A n c, .int .i64 k] w fun e w' => e = .returned (.bool true) ∧ Und w w' := by
  have HM := hid (fun (W : World) (hW : Und w W) => made_any A n c zs W hz hn (hI.und hW))
  have HLB := hid hL
  have HKN := hid (fun W (hW : Und w W) => Mk.known_any W (HLB.out.und hW))
  clear hI hL
  by_cases q1 : 60 < n
  · have z1 : (60 : Int) < (n : Int) := by omega
    go_enter Tryz.func6, Tryz.ntmps6
    go_wp2_with fail
    refine (HKN.out _ (Und.refl _)).mono ?_
    rintro e w2 ⟨rfl, hu⟩
    have HU := hid hu
    clear hu
    go_wp2
    go_ret
    exact ⟨rfl, HU.out⟩
  have z1 : ¬ (60 : Int) < (n : Int) := by omega
  have hpl := fun W => place_any k 5 W (by omega) (by omega)
  have hp0 := Int.emod_nonneg k (show (5 : Int) ≠ 0 by omega)
  have hp1 := Int.emod_lt_of_pos k (show (0 : Int) < 5 by omega)
  generalize k % 5 = p at hpl hp0 hp1
  rcases (show p = 0 ∨ p = 1 ∨ p = 2 ∨ p = 3 ∨ p = 4 by omega) with rfl | rfl | rfl | rfl | rfl
  · have HPL := hid hpl
    clear hpl hp0 hp1
    go_enter Tryz.func6, Tryz.ntmps6
    go_wp2_with fail
    refine (HPL.out _).mono ?_
    rintro e w1 ⟨rfl, rfl⟩
    go_wp2_with fail
    refine (HM.out _ (by repeat (first | exact Und.refl _ | assumption | refine Und.under ?_ _ | refine Und.alloc ?_ _ | refine Und.drew ?_ | refine Und.drewN ?_ _))).mono ?_
    rintro e w2 ⟨A2, c2, f, rfl, hF, hu0⟩
    have hu : Und w w2 := Und.trans ((by repeat (first | exact Und.refl _ | assumption | refine Und.under ?_ _ | refine Und.alloc ?_ _ | refine Und.drew ?_ | refine Und.drewN ?_ _))) hu0
    have hgd := hF.2.1.1
    have hfl := hF.2.2.1
    have hft := hF.2.2.2.1
    have hll := lenL_tot f
    have hen := mencode_any A2 f.length c2 f w2 rfl hF.2.2.2.2.1 hF.2.2.2.2.2.1 hF.1 (by omega) (by omega)
    rw [St.good_encT hgd (by omega) (by omega)] at hen
    have heb := encF_bound 1 f
    obtain ⟨raw, hraw⟩ : ∃ raw : ByteArray, raw = ⟨(f.flatMap (St.encI 1)).toArray⟩ := ⟨_, rfl⟩
    have hrd : raw.data.toList = f.flatMap (St.encI 1) := by rw [hraw]
    simp only at hen
    rw [← hraw] at hen
    have hrs : raw.size ≤ 2000 := by rw [← St.len_list, hrd]; omega
    have hs1 := fun (d : ByteArray) (W : World) (hW : Und w W) (hd : d.data.toList = [60] ++ St.blkN5 0 ++ [62] ++ raw.data.toList ++ St.endM (St.blkN5 0)) => Mk.msplit_any d W (HLB.out.und hW) (by rw [← St.len_list, hd]; simp only [List.length_append, St.len_list, List.length_cons, List.length_nil]; show _ + 1 + 1 + 1 + _ + 4 ≤ _; omega)
    have hs2 := fun (d : ByteArray) (W : World) (hd : d.data.toList = raw.data.toList ++ ([60] ++ St.blkN5 0 ++ [62])) => Mk.mdecode_any d W (by rw [← St.len_list, hd]; simp only [List.length_append, St.len_list, List.length_cons, List.length_nil]; show _ + (1 + 1 + 1) ≤ _; omega)
    have hs3 := fun (d : ByteArray) (W : World) (hW : Und w W) (hd : d.data.toList = [60] ++ St.blkN5 0 ++ [62] ++ raw.data.toList) => Mk.msplit_any d W (HLB.out.und hW) (by rw [← St.len_list, hd]; simp only [List.length_append, St.len_list, List.length_cons, List.length_nil]; show 1 + 1 + 1 + _ ≤ _; omega)
    have hs4 := fun (d : ByteArray) (W : World) (hW : Und w W) (hd : d.data.toList = St.endM (St.blkN5 0)) => Mk.msplit_any d W (HLB.out.und hW) (by rw [← St.len_list, hd]; show 4 ≤ _; omega)
    have hs1' : ∀ (d : ByteArray) (W : World), Und w W → d.data.toList = [60] ++ [112] ++ [62] ++ raw.data.toList ++ ([60, 47] ++ [112] ++ [62]) → Calls Tryz.prog 19 #[.string d] W (Mk.SplitEnd ([(false, [], [60, 112, 62]), (true, [49], raw.data.toList), (false, [], [60, 47, 112, 62])], 0, 0) W) := fun d W hW hd => by
      have := hs1 d W hW hd
      rw [block_spl hgd (by omega) (by omega) hraw (by omega) 0 hd] at this
      exact this
    have hs2' : ∀ (d : ByteArray) (W : World), d.data.toList = raw.data.toList ++ ([60] ++ [112] ++ [62]) → Calls Tryz.prog 15 #[.string d] W (Mk.DecEnd ([], [], raw.size, 2) W) := fun d W hd => by
      have := hs2 d W hd
      rw [block_dec hgd (by omega) (by omega) hrd 0 hd] at this
      exact this
    have hs3' : ∀ (d : ByteArray) (W : World), Und w W → d.data.toList = [60] ++ [112] ++ [62] ++ raw.data.toList → Calls Tryz.prog 19 #[.string d] W (Mk.SplitEnd ([], raw.size + 1 + 2, 2) W) := fun d W hW hd => by
      have := hs3 d W hW hd
      rw [block_opn hgd (by omega) (by omega) hraw (by omega) 0 hd] at this
      exact this
    have hs4' : ∀ (d : ByteArray) (W : World), Und w W → d.data.toList = [60, 47] ++ [112] ++ [62] → Calls Tryz.prog 19 #[.string d] W (Mk.SplitEnd ([], 0, 2) W) := fun d W hW hd => by
      have := hs4 d W hW hd
      rw [block_shut 0 hd] at this
      exact this
    have HS1 := hid hs1'
    have HS2 := hid hs2'
    have HS3 := hid hs3'
    have HS4 := hid hs4'
    have HEN := hid hen
    have HU := hid hu
    have y1 : ∀ m, m ≤ 100 → ¬ 9223372036854775807 < raw.size + m := fun m hm => by omega
    have y2 : (raw.toList == raw.toList) = true := beq_self_eq_true _
    have y4 : ((raw.size + 1 + 2 : Nat) : Int) = (raw.size : Int) + 1 + 2 := by simp
    have hre : (⟨raw.data.toList.toArray⟩ : ByteArray) = raw := ba_eta raw
    have HRE := hid hre
    clear hs1 hs2 hs3 hs4 hs1' hs2' hs3' hs4' hen hu hF hgd hraw hrd heb hll HM hre
    go_wp2_with fail
    refine HEN.out.mono ?_
    rintro e w3 ⟨rfl, hu3⟩
    have HU3 := hid (HU.out.trans hu3)
    clear hu3 HEN
    go_wp2_with fail
    refine (HS1.out _ _ HU3.out (by simp)).mono ?_
    rintro e w4 ⟨A4, c4, rfl, hP4, h41, h42, hu4⟩
    obtain ⟨b4, o4, rfl, hb4, hc4⟩ := hP4 (by simp)
    have m0 := (hc4 1 (by simp)).2.1
    have m1 := (hc4 1 (by simp)).2.2
    simp only [List.getElem_cons_succ, List.getElem_cons_zero, Nat.one_mul, HRE.out] at m0 m1
    simp only [List.length_cons, List.length_nil] at h41 ⊢
    have HM0 := hid m0
    have HM1 := hid m1
    have HU4 := hid (HU3.out.trans hu4)
    clear hP4 hc4 hu4 m0 m1 HS1
    go_wp2_with fail
    refine (HS2.out _ _ (by simp)).mono ?_
    rintro e w5 ⟨A5, c5, rfl, _, _, _, hu5⟩
    have HU5 := hid hu5
    clear hu5 HS2
    go_wp2_with fail
    refine (HS3.out _ _ (HU4.out.trans HU5.out) (by simp)).mono ?_
    rintro e w6 ⟨A6, c6, rfl, _, _, _, hu6⟩
    have HU6 := hid (HU5.out.trans hu6)
    clear hu6 HS3
    go_wp2_with fail
    refine (HS4.out _ _ (HU4.out.trans HU6.out) (by simp)).mono ?_
    rintro e w7 ⟨A7, c7, rfl, _, _, _, hu7⟩
    have hu7' := HU6.out.trans hu7
    have m0 := (hu7'.cell (p := ⟨b4, o4 + 3 + 1, none⟩) hb4).trans HM0.out
    have m1 := (hu7'.cell (p := ⟨b4, o4 + 3 + 2, none⟩) hb4).trans HM1.out
    haveI : LtW b4 w7 := LtW.of (Nat.lt_of_lt_of_le hb4 hu7'.size)
    have HU7 := hid (HU4.out.trans hu7')
    clear hu7 hu7' HS4 HM0 HM1
    simp only [List.length_nil] at *
    go_wp2_with fail
    refine (HKN.out _ HU7.out).mono ?_
    rintro e w8 ⟨rfl, hu8⟩
    have HU8 := hid (HU7.out.trans hu8)
    clear hu8
    go_wp2
    go_ret
    exact ⟨rfl, HU8.out⟩
  · have HPL := hid hpl
    clear hpl hp0 hp1
    go_enter Tryz.func6, Tryz.ntmps6
    go_wp2_with fail
    refine (HPL.out _).mono ?_
    rintro e w1 ⟨rfl, rfl⟩
    go_wp2_with fail
    refine (HM.out _ (by repeat (first | exact Und.refl _ | assumption | refine Und.under ?_ _ | refine Und.alloc ?_ _ | refine Und.drew ?_ | refine Und.drewN ?_ _))).mono ?_
    rintro e w2 ⟨A2, c2, f, rfl, hF, hu0⟩
    have hu : Und w w2 := Und.trans ((by repeat (first | exact Und.refl _ | assumption | refine Und.under ?_ _ | refine Und.alloc ?_ _ | refine Und.drew ?_ | refine Und.drewN ?_ _))) hu0
    have hgd := hF.2.1.1
    have hfl := hF.2.2.1
    have hft := hF.2.2.2.1
    have hll := lenL_tot f
    have hen := mencode_any A2 f.length c2 f w2 rfl hF.2.2.2.2.1 hF.2.2.2.2.2.1 hF.1 (by omega) (by omega)
    rw [St.good_encT hgd (by omega) (by omega)] at hen
    have heb := encF_bound 1 f
    obtain ⟨raw, hraw⟩ : ∃ raw : ByteArray, raw = ⟨(f.flatMap (St.encI 1)).toArray⟩ := ⟨_, rfl⟩
    have hrd : raw.data.toList = f.flatMap (St.encI 1) := by rw [hraw]
    simp only at hen
    rw [← hraw] at hen
    have hrs : raw.size ≤ 2000 := by rw [← St.len_list, hrd]; omega
    have hs1 := fun (d : ByteArray) (W : World) (hW : Und w W) (hd : d.data.toList = [60] ++ St.blkN5 1 ++ [62] ++ raw.data.toList ++ St.endM (St.blkN5 1)) => Mk.msplit_any d W (HLB.out.und hW) (by rw [← St.len_list, hd]; simp only [List.length_append, St.len_list, List.length_cons, List.length_nil]; show _ + 1 + 1 + 1 + _ + 4 ≤ _; omega)
    have hs2 := fun (d : ByteArray) (W : World) (hd : d.data.toList = raw.data.toList ++ ([60] ++ St.blkN5 1 ++ [62])) => Mk.mdecode_any d W (by rw [← St.len_list, hd]; simp only [List.length_append, St.len_list, List.length_cons, List.length_nil]; show _ + (1 + 1 + 1) ≤ _; omega)
    have hs3 := fun (d : ByteArray) (W : World) (hW : Und w W) (hd : d.data.toList = [60] ++ St.blkN5 1 ++ [62] ++ raw.data.toList) => Mk.msplit_any d W (HLB.out.und hW) (by rw [← St.len_list, hd]; simp only [List.length_append, St.len_list, List.length_cons, List.length_nil]; show 1 + 1 + 1 + _ ≤ _; omega)
    have hs4 := fun (d : ByteArray) (W : World) (hW : Und w W) (hd : d.data.toList = St.endM (St.blkN5 1)) => Mk.msplit_any d W (HLB.out.und hW) (by rw [← St.len_list, hd]; show 4 ≤ _; omega)
    have hs1' : ∀ (d : ByteArray) (W : World), Und w W → d.data.toList = [60] ++ [104] ++ [62] ++ raw.data.toList ++ ([60, 47] ++ [104] ++ [62]) → Calls Tryz.prog 19 #[.string d] W (Mk.SplitEnd ([(false, [], [60, 104, 62]), (true, [49], raw.data.toList), (false, [], [60, 47, 104, 62])], 0, 0) W) := fun d W hW hd => by
      have := hs1 d W hW hd
      rw [block_spl hgd (by omega) (by omega) hraw (by omega) 1 hd] at this
      exact this
    have hs2' : ∀ (d : ByteArray) (W : World), d.data.toList = raw.data.toList ++ ([60] ++ [104] ++ [62]) → Calls Tryz.prog 15 #[.string d] W (Mk.DecEnd ([], [], raw.size, 2) W) := fun d W hd => by
      have := hs2 d W hd
      rw [block_dec hgd (by omega) (by omega) hrd 1 hd] at this
      exact this
    have hs3' : ∀ (d : ByteArray) (W : World), Und w W → d.data.toList = [60] ++ [104] ++ [62] ++ raw.data.toList → Calls Tryz.prog 19 #[.string d] W (Mk.SplitEnd ([], raw.size + 1 + 2, 2) W) := fun d W hW hd => by
      have := hs3 d W hW hd
      rw [block_opn hgd (by omega) (by omega) hraw (by omega) 1 hd] at this
      exact this
    have hs4' : ∀ (d : ByteArray) (W : World), Und w W → d.data.toList = [60, 47] ++ [104] ++ [62] → Calls Tryz.prog 19 #[.string d] W (Mk.SplitEnd ([], 0, 2) W) := fun d W hW hd => by
      have := hs4 d W hW hd
      rw [block_shut 1 hd] at this
      exact this
    have HS1 := hid hs1'
    have HS2 := hid hs2'
    have HS3 := hid hs3'
    have HS4 := hid hs4'
    have HEN := hid hen
    have HU := hid hu
    have y1 : ∀ m, m ≤ 100 → ¬ 9223372036854775807 < raw.size + m := fun m hm => by omega
    have y2 : (raw.toList == raw.toList) = true := beq_self_eq_true _
    have y4 : ((raw.size + 1 + 2 : Nat) : Int) = (raw.size : Int) + 1 + 2 := by simp
    have hre : (⟨raw.data.toList.toArray⟩ : ByteArray) = raw := ba_eta raw
    have HRE := hid hre
    clear hs1 hs2 hs3 hs4 hs1' hs2' hs3' hs4' hen hu hF hgd hraw hrd heb hll HM hre
    go_wp2_with fail
    refine HEN.out.mono ?_
    rintro e w3 ⟨rfl, hu3⟩
    have HU3 := hid (HU.out.trans hu3)
    clear hu3 HEN
    go_wp2_with fail
    refine (HS1.out _ _ HU3.out (by simp)).mono ?_
    rintro e w4 ⟨A4, c4, rfl, hP4, h41, h42, hu4⟩
    obtain ⟨b4, o4, rfl, hb4, hc4⟩ := hP4 (by simp)
    have m0 := (hc4 1 (by simp)).2.1
    have m1 := (hc4 1 (by simp)).2.2
    simp only [List.getElem_cons_succ, List.getElem_cons_zero, Nat.one_mul, HRE.out] at m0 m1
    simp only [List.length_cons, List.length_nil] at h41 ⊢
    have HM0 := hid m0
    have HM1 := hid m1
    have HU4 := hid (HU3.out.trans hu4)
    clear hP4 hc4 hu4 m0 m1 HS1
    go_wp2_with fail
    refine (HS2.out _ _ (by simp)).mono ?_
    rintro e w5 ⟨A5, c5, rfl, _, _, _, hu5⟩
    have HU5 := hid hu5
    clear hu5 HS2
    go_wp2_with fail
    refine (HS3.out _ _ (HU4.out.trans HU5.out) (by simp)).mono ?_
    rintro e w6 ⟨A6, c6, rfl, _, _, _, hu6⟩
    have HU6 := hid (HU5.out.trans hu6)
    clear hu6 HS3
    go_wp2_with fail
    refine (HS4.out _ _ (HU4.out.trans HU6.out) (by simp)).mono ?_
    rintro e w7 ⟨A7, c7, rfl, _, _, _, hu7⟩
    have hu7' := HU6.out.trans hu7
    have m0 := (hu7'.cell (p := ⟨b4, o4 + 3 + 1, none⟩) hb4).trans HM0.out
    have m1 := (hu7'.cell (p := ⟨b4, o4 + 3 + 2, none⟩) hb4).trans HM1.out
    haveI : LtW b4 w7 := LtW.of (Nat.lt_of_lt_of_le hb4 hu7'.size)
    have HU7 := hid (HU4.out.trans hu7')
    clear hu7 hu7' HS4 HM0 HM1
    simp only [List.length_nil] at *
    go_wp2_with fail
    refine (HKN.out _ HU7.out).mono ?_
    rintro e w8 ⟨rfl, hu8⟩
    have HU8 := hid (HU7.out.trans hu8)
    clear hu8
    go_wp2
    go_ret
    exact ⟨rfl, HU8.out⟩
  · have HPL := hid hpl
    clear hpl hp0 hp1
    go_enter Tryz.func6, Tryz.ntmps6
    go_wp2_with fail
    refine (HPL.out _).mono ?_
    rintro e w1 ⟨rfl, rfl⟩
    go_wp2_with fail
    refine (HM.out _ (by repeat (first | exact Und.refl _ | assumption | refine Und.under ?_ _ | refine Und.alloc ?_ _ | refine Und.drew ?_ | refine Und.drewN ?_ _))).mono ?_
    rintro e w2 ⟨A2, c2, f, rfl, hF, hu0⟩
    have hu : Und w w2 := Und.trans ((by repeat (first | exact Und.refl _ | assumption | refine Und.under ?_ _ | refine Und.alloc ?_ _ | refine Und.drew ?_ | refine Und.drewN ?_ _))) hu0
    have hgd := hF.2.1.1
    have hfl := hF.2.2.1
    have hft := hF.2.2.2.1
    have hll := lenL_tot f
    have hen := mencode_any A2 f.length c2 f w2 rfl hF.2.2.2.2.1 hF.2.2.2.2.2.1 hF.1 (by omega) (by omega)
    rw [St.good_encT hgd (by omega) (by omega)] at hen
    have heb := encF_bound 1 f
    obtain ⟨raw, hraw⟩ : ∃ raw : ByteArray, raw = ⟨(f.flatMap (St.encI 1)).toArray⟩ := ⟨_, rfl⟩
    have hrd : raw.data.toList = f.flatMap (St.encI 1) := by rw [hraw]
    simp only at hen
    rw [← hraw] at hen
    have hrs : raw.size ≤ 2000 := by rw [← St.len_list, hrd]; omega
    have hs1 := fun (d : ByteArray) (W : World) (hW : Und w W) (hd : d.data.toList = [60] ++ St.blkN5 2 ++ [62] ++ raw.data.toList ++ St.endM (St.blkN5 2)) => Mk.msplit_any d W (HLB.out.und hW) (by rw [← St.len_list, hd]; simp only [List.length_append, St.len_list, List.length_cons, List.length_nil]; show _ + 1 + 2 + 1 + _ + 5 ≤ _; omega)
    have hs2 := fun (d : ByteArray) (W : World) (hd : d.data.toList = raw.data.toList ++ ([60] ++ St.blkN5 2 ++ [62])) => Mk.mdecode_any d W (by rw [← St.len_list, hd]; simp only [List.length_append, St.len_list, List.length_cons, List.length_nil]; show _ + (1 + 2 + 1) ≤ _; omega)
    have hs3 := fun (d : ByteArray) (W : World) (hW : Und w W) (hd : d.data.toList = [60] ++ St.blkN5 2 ++ [62] ++ raw.data.toList) => Mk.msplit_any d W (HLB.out.und hW) (by rw [← St.len_list, hd]; simp only [List.length_append, St.len_list, List.length_cons, List.length_nil]; show 1 + 2 + 1 + _ ≤ _; omega)
    have hs4 := fun (d : ByteArray) (W : World) (hW : Und w W) (hd : d.data.toList = St.endM (St.blkN5 2)) => Mk.msplit_any d W (HLB.out.und hW) (by rw [← St.len_list, hd]; show 5 ≤ _; omega)
    have hs1' : ∀ (d : ByteArray) (W : World), Und w W → d.data.toList = [60] ++ [108, 105] ++ [62] ++ raw.data.toList ++ ([60, 47] ++ [108, 105] ++ [62]) → Calls Tryz.prog 19 #[.string d] W (Mk.SplitEnd ([(false, [], [60, 108, 105, 62]), (true, [49], raw.data.toList), (false, [], [60, 47, 108, 105, 62])], 0, 0) W) := fun d W hW hd => by
      have := hs1 d W hW hd
      rw [block_spl hgd (by omega) (by omega) hraw (by omega) 2 hd] at this
      exact this
    have hs2' : ∀ (d : ByteArray) (W : World), d.data.toList = raw.data.toList ++ ([60] ++ [108, 105] ++ [62]) → Calls Tryz.prog 15 #[.string d] W (Mk.DecEnd ([], [], raw.size, 2) W) := fun d W hd => by
      have := hs2 d W hd
      rw [block_dec hgd (by omega) (by omega) hrd 2 hd] at this
      exact this
    have hs3' : ∀ (d : ByteArray) (W : World), Und w W → d.data.toList = [60] ++ [108, 105] ++ [62] ++ raw.data.toList → Calls Tryz.prog 19 #[.string d] W (Mk.SplitEnd ([], raw.size + 2 + 2, 2) W) := fun d W hW hd => by
      have := hs3 d W hW hd
      rw [block_opn hgd (by omega) (by omega) hraw (by omega) 2 hd] at this
      exact this
    have hs4' : ∀ (d : ByteArray) (W : World), Und w W → d.data.toList = [60, 47] ++ [108, 105] ++ [62] → Calls Tryz.prog 19 #[.string d] W (Mk.SplitEnd ([], 0, 2) W) := fun d W hW hd => by
      have := hs4 d W hW hd
      rw [block_shut 2 hd] at this
      exact this
    have HS1 := hid hs1'
    have HS2 := hid hs2'
    have HS3 := hid hs3'
    have HS4 := hid hs4'
    have HEN := hid hen
    have HU := hid hu
    have y1 : ∀ m, m ≤ 100 → ¬ 9223372036854775807 < raw.size + m := fun m hm => by omega
    have y2 : (raw.toList == raw.toList) = true := beq_self_eq_true _
    have y4 : ((raw.size + 2 + 2 : Nat) : Int) = (raw.size : Int) + 2 + 2 := by simp
    have hre : (⟨raw.data.toList.toArray⟩ : ByteArray) = raw := ba_eta raw
    have HRE := hid hre
    clear hs1 hs2 hs3 hs4 hs1' hs2' hs3' hs4' hen hu hF hgd hraw hrd heb hll HM hre
    go_wp2_with fail
    refine HEN.out.mono ?_
    rintro e w3 ⟨rfl, hu3⟩
    have HU3 := hid (HU.out.trans hu3)
    clear hu3 HEN
    go_wp2_with fail
    refine (HS1.out _ _ HU3.out (by simp)).mono ?_
    rintro e w4 ⟨A4, c4, rfl, hP4, h41, h42, hu4⟩
    obtain ⟨b4, o4, rfl, hb4, hc4⟩ := hP4 (by simp)
    have m0 := (hc4 1 (by simp)).2.1
    have m1 := (hc4 1 (by simp)).2.2
    simp only [List.getElem_cons_succ, List.getElem_cons_zero, Nat.one_mul, HRE.out] at m0 m1
    simp only [List.length_cons, List.length_nil] at h41 ⊢
    have HM0 := hid m0
    have HM1 := hid m1
    have HU4 := hid (HU3.out.trans hu4)
    clear hP4 hc4 hu4 m0 m1 HS1
    go_wp2_with fail
    refine (HS2.out _ _ (by simp)).mono ?_
    rintro e w5 ⟨A5, c5, rfl, _, _, _, hu5⟩
    have HU5 := hid hu5
    clear hu5 HS2
    go_wp2_with fail
    refine (HS3.out _ _ (HU4.out.trans HU5.out) (by simp)).mono ?_
    rintro e w6 ⟨A6, c6, rfl, _, _, _, hu6⟩
    have HU6 := hid (HU5.out.trans hu6)
    clear hu6 HS3
    go_wp2_with fail
    refine (HS4.out _ _ (HU4.out.trans HU6.out) (by simp)).mono ?_
    rintro e w7 ⟨A7, c7, rfl, _, _, _, hu7⟩
    have hu7' := HU6.out.trans hu7
    have m0 := (hu7'.cell (p := ⟨b4, o4 + 3 + 1, none⟩) hb4).trans HM0.out
    have m1 := (hu7'.cell (p := ⟨b4, o4 + 3 + 2, none⟩) hb4).trans HM1.out
    haveI : LtW b4 w7 := LtW.of (Nat.lt_of_lt_of_le hb4 hu7'.size)
    have HU7 := hid (HU4.out.trans hu7')
    clear hu7 hu7' HS4 HM0 HM1
    simp only [List.length_nil] at *
    go_wp2_with fail
    refine (HKN.out _ HU7.out).mono ?_
    rintro e w8 ⟨rfl, hu8⟩
    have HU8 := hid (HU7.out.trans hu8)
    clear hu8
    go_wp2
    go_ret
    exact ⟨rfl, HU8.out⟩
  · have HPL := hid hpl
    clear hpl hp0 hp1
    go_enter Tryz.func6, Tryz.ntmps6
    go_wp2_with fail
    refine (HPL.out _).mono ?_
    rintro e w1 ⟨rfl, rfl⟩
    go_wp2_with fail
    refine (HM.out _ (by repeat (first | exact Und.refl _ | assumption | refine Und.under ?_ _ | refine Und.alloc ?_ _ | refine Und.drew ?_ | refine Und.drewN ?_ _))).mono ?_
    rintro e w2 ⟨A2, c2, f, rfl, hF, hu0⟩
    have hu : Und w w2 := Und.trans ((by repeat (first | exact Und.refl _ | assumption | refine Und.under ?_ _ | refine Und.alloc ?_ _ | refine Und.drew ?_ | refine Und.drewN ?_ _))) hu0
    have hgd := hF.2.1.1
    have hfl := hF.2.2.1
    have hft := hF.2.2.2.1
    have hll := lenL_tot f
    have hen := mencode_any A2 f.length c2 f w2 rfl hF.2.2.2.2.1 hF.2.2.2.2.2.1 hF.1 (by omega) (by omega)
    rw [St.good_encT hgd (by omega) (by omega)] at hen
    have heb := encF_bound 1 f
    obtain ⟨raw, hraw⟩ : ∃ raw : ByteArray, raw = ⟨(f.flatMap (St.encI 1)).toArray⟩ := ⟨_, rfl⟩
    have hrd : raw.data.toList = f.flatMap (St.encI 1) := by rw [hraw]
    simp only at hen
    rw [← hraw] at hen
    have hrs : raw.size ≤ 2000 := by rw [← St.len_list, hrd]; omega
    have hs1 := fun (d : ByteArray) (W : World) (hW : Und w W) (hd : d.data.toList = [60] ++ St.blkN5 3 ++ [62] ++ raw.data.toList ++ St.endM (St.blkN5 3)) => Mk.msplit_any d W (HLB.out.und hW) (by rw [← St.len_list, hd]; simp only [List.length_append, St.len_list, List.length_cons, List.length_nil]; show _ + 1 + 2 + 1 + _ + 5 ≤ _; omega)
    have hs2 := fun (d : ByteArray) (W : World) (hd : d.data.toList = raw.data.toList ++ ([60] ++ St.blkN5 3 ++ [62])) => Mk.mdecode_any d W (by rw [← St.len_list, hd]; simp only [List.length_append, St.len_list, List.length_cons, List.length_nil]; show _ + (1 + 2 + 1) ≤ _; omega)
    have hs3 := fun (d : ByteArray) (W : World) (hW : Und w W) (hd : d.data.toList = [60] ++ St.blkN5 3 ++ [62] ++ raw.data.toList) => Mk.msplit_any d W (HLB.out.und hW) (by rw [← St.len_list, hd]; simp only [List.length_append, St.len_list, List.length_cons, List.length_nil]; show 1 + 2 + 1 + _ ≤ _; omega)
    have hs4 := fun (d : ByteArray) (W : World) (hW : Und w W) (hd : d.data.toList = St.endM (St.blkN5 3)) => Mk.msplit_any d W (HLB.out.und hW) (by rw [← St.len_list, hd]; show 5 ≤ _; omega)
    have hs1' : ∀ (d : ByteArray) (W : World), Und w W → d.data.toList = [60] ++ [116, 100] ++ [62] ++ raw.data.toList ++ ([60, 47] ++ [116, 100] ++ [62]) → Calls Tryz.prog 19 #[.string d] W (Mk.SplitEnd ([(false, [], [60, 116, 100, 62]), (true, [49], raw.data.toList), (false, [], [60, 47, 116, 100, 62])], 0, 0) W) := fun d W hW hd => by
      have := hs1 d W hW hd
      rw [block_spl hgd (by omega) (by omega) hraw (by omega) 3 hd] at this
      exact this
    have hs2' : ∀ (d : ByteArray) (W : World), d.data.toList = raw.data.toList ++ ([60] ++ [116, 100] ++ [62]) → Calls Tryz.prog 15 #[.string d] W (Mk.DecEnd ([], [], raw.size, 2) W) := fun d W hd => by
      have := hs2 d W hd
      rw [block_dec hgd (by omega) (by omega) hrd 3 hd] at this
      exact this
    have hs3' : ∀ (d : ByteArray) (W : World), Und w W → d.data.toList = [60] ++ [116, 100] ++ [62] ++ raw.data.toList → Calls Tryz.prog 19 #[.string d] W (Mk.SplitEnd ([], raw.size + 2 + 2, 2) W) := fun d W hW hd => by
      have := hs3 d W hW hd
      rw [block_opn hgd (by omega) (by omega) hraw (by omega) 3 hd] at this
      exact this
    have hs4' : ∀ (d : ByteArray) (W : World), Und w W → d.data.toList = [60, 47] ++ [116, 100] ++ [62] → Calls Tryz.prog 19 #[.string d] W (Mk.SplitEnd ([], 0, 2) W) := fun d W hW hd => by
      have := hs4 d W hW hd
      rw [block_shut 3 hd] at this
      exact this
    have HS1 := hid hs1'
    have HS2 := hid hs2'
    have HS3 := hid hs3'
    have HS4 := hid hs4'
    have HEN := hid hen
    have HU := hid hu
    have y1 : ∀ m, m ≤ 100 → ¬ 9223372036854775807 < raw.size + m := fun m hm => by omega
    have y2 : (raw.toList == raw.toList) = true := beq_self_eq_true _
    have y4 : ((raw.size + 2 + 2 : Nat) : Int) = (raw.size : Int) + 2 + 2 := by simp
    have hre : (⟨raw.data.toList.toArray⟩ : ByteArray) = raw := ba_eta raw
    have HRE := hid hre
    clear hs1 hs2 hs3 hs4 hs1' hs2' hs3' hs4' hen hu hF hgd hraw hrd heb hll HM hre
    go_wp2_with fail
    refine HEN.out.mono ?_
    rintro e w3 ⟨rfl, hu3⟩
    have HU3 := hid (HU.out.trans hu3)
    clear hu3 HEN
    go_wp2_with fail
    refine (HS1.out _ _ HU3.out (by simp)).mono ?_
    rintro e w4 ⟨A4, c4, rfl, hP4, h41, h42, hu4⟩
    obtain ⟨b4, o4, rfl, hb4, hc4⟩ := hP4 (by simp)
    have m0 := (hc4 1 (by simp)).2.1
    have m1 := (hc4 1 (by simp)).2.2
    simp only [List.getElem_cons_succ, List.getElem_cons_zero, Nat.one_mul, HRE.out] at m0 m1
    simp only [List.length_cons, List.length_nil] at h41 ⊢
    have HM0 := hid m0
    have HM1 := hid m1
    have HU4 := hid (HU3.out.trans hu4)
    clear hP4 hc4 hu4 m0 m1 HS1
    go_wp2_with fail
    refine (HS2.out _ _ (by simp)).mono ?_
    rintro e w5 ⟨A5, c5, rfl, _, _, _, hu5⟩
    have HU5 := hid hu5
    clear hu5 HS2
    go_wp2_with fail
    refine (HS3.out _ _ (HU4.out.trans HU5.out) (by simp)).mono ?_
    rintro e w6 ⟨A6, c6, rfl, _, _, _, hu6⟩
    have HU6 := hid (HU5.out.trans hu6)
    clear hu6 HS3
    go_wp2_with fail
    refine (HS4.out _ _ (HU4.out.trans HU6.out) (by simp)).mono ?_
    rintro e w7 ⟨A7, c7, rfl, _, _, _, hu7⟩
    have hu7' := HU6.out.trans hu7
    have m0 := (hu7'.cell (p := ⟨b4, o4 + 3 + 1, none⟩) hb4).trans HM0.out
    have m1 := (hu7'.cell (p := ⟨b4, o4 + 3 + 2, none⟩) hb4).trans HM1.out
    haveI : LtW b4 w7 := LtW.of (Nat.lt_of_lt_of_le hb4 hu7'.size)
    have HU7 := hid (HU4.out.trans hu7')
    clear hu7 hu7' HS4 HM0 HM1
    simp only [List.length_nil] at *
    go_wp2_with fail
    refine (HKN.out _ HU7.out).mono ?_
    rintro e w8 ⟨rfl, hu8⟩
    have HU8 := hid (HU7.out.trans hu8)
    clear hu8
    go_wp2
    go_ret
    exact ⟨rfl, HU8.out⟩
  · have HPL := hid hpl
    clear hpl hp0 hp1
    go_enter Tryz.func6, Tryz.ntmps6
    go_wp2_with fail
    refine (HPL.out _).mono ?_
    rintro e w1 ⟨rfl, rfl⟩
    go_wp2_with fail
    refine (HM.out _ (by repeat (first | exact Und.refl _ | assumption | refine Und.under ?_ _ | refine Und.alloc ?_ _ | refine Und.drew ?_ | refine Und.drewN ?_ _))).mono ?_
    rintro e w2 ⟨A2, c2, f, rfl, hF, hu0⟩
    have hu : Und w w2 := Und.trans ((by repeat (first | exact Und.refl _ | assumption | refine Und.under ?_ _ | refine Und.alloc ?_ _ | refine Und.drew ?_ | refine Und.drewN ?_ _))) hu0
    have hgd := hF.2.1.1
    have hfl := hF.2.2.1
    have hft := hF.2.2.2.1
    have hll := lenL_tot f
    have hen := mencode_any A2 f.length c2 f w2 rfl hF.2.2.2.2.1 hF.2.2.2.2.2.1 hF.1 (by omega) (by omega)
    rw [St.good_encT hgd (by omega) (by omega)] at hen
    have heb := encF_bound 1 f
    obtain ⟨raw, hraw⟩ : ∃ raw : ByteArray, raw = ⟨(f.flatMap (St.encI 1)).toArray⟩ := ⟨_, rfl⟩
    have hrd : raw.data.toList = f.flatMap (St.encI 1) := by rw [hraw]
    simp only at hen
    rw [← hraw] at hen
    have hrs : raw.size ≤ 2000 := by rw [← St.len_list, hrd]; omega
    have hs1 := fun (d : ByteArray) (W : World) (hW : Und w W) (hd : d.data.toList = [60] ++ St.blkN5 4 ++ [62] ++ raw.data.toList ++ St.endM (St.blkN5 4)) => Mk.msplit_any d W (HLB.out.und hW) (by rw [← St.len_list, hd]; simp only [List.length_append, St.len_list, List.length_cons, List.length_nil]; show _ + 1 + 5 + 1 + _ + 8 ≤ _; omega)
    have hs2 := fun (d : ByteArray) (W : World) (hd : d.data.toList = raw.data.toList ++ ([60] ++ St.blkN5 4 ++ [62])) => Mk.mdecode_any d W (by rw [← St.len_list, hd]; simp only [List.length_append, St.len_list, List.length_cons, List.length_nil]; show _ + (1 + 5 + 1) ≤ _; omega)
    have hs3 := fun (d : ByteArray) (W : World) (hW : Und w W) (hd : d.data.toList = [60] ++ St.blkN5 4 ++ [62] ++ raw.data.toList) => Mk.msplit_any d W (HLB.out.und hW) (by rw [← St.len_list, hd]; simp only [List.length_append, St.len_list, List.length_cons, List.length_nil]; show 1 + 5 + 1 + _ ≤ _; omega)
    have hs4 := fun (d : ByteArray) (W : World) (hW : Und w W) (hd : d.data.toList = St.endM (St.blkN5 4)) => Mk.msplit_any d W (HLB.out.und hW) (by rw [← St.len_list, hd]; show 8 ≤ _; omega)
    have hs1' : ∀ (d : ByteArray) (W : World), Und w W → d.data.toList = [60] ++ [116, 105, 116, 108, 101] ++ [62] ++ raw.data.toList ++ ([60, 47] ++ [116, 105, 116, 108, 101] ++ [62]) → Calls Tryz.prog 19 #[.string d] W (Mk.SplitEnd ([(false, [], [60, 116, 105, 116, 108, 101, 62]), (true, [49], raw.data.toList), (false, [], [60, 47, 116, 105, 116, 108, 101, 62])], 0, 0) W) := fun d W hW hd => by
      have := hs1 d W hW hd
      rw [block_spl hgd (by omega) (by omega) hraw (by omega) 4 hd] at this
      exact this
    have hs2' : ∀ (d : ByteArray) (W : World), d.data.toList = raw.data.toList ++ ([60] ++ [116, 105, 116, 108, 101] ++ [62]) → Calls Tryz.prog 15 #[.string d] W (Mk.DecEnd ([], [], raw.size, 2) W) := fun d W hd => by
      have := hs2 d W hd
      rw [block_dec hgd (by omega) (by omega) hrd 4 hd] at this
      exact this
    have hs3' : ∀ (d : ByteArray) (W : World), Und w W → d.data.toList = [60] ++ [116, 105, 116, 108, 101] ++ [62] ++ raw.data.toList → Calls Tryz.prog 19 #[.string d] W (Mk.SplitEnd ([], raw.size + 5 + 2, 2) W) := fun d W hW hd => by
      have := hs3 d W hW hd
      rw [block_opn hgd (by omega) (by omega) hraw (by omega) 4 hd] at this
      exact this
    have hs4' : ∀ (d : ByteArray) (W : World), Und w W → d.data.toList = [60, 47] ++ [116, 105, 116, 108, 101] ++ [62] → Calls Tryz.prog 19 #[.string d] W (Mk.SplitEnd ([], 0, 2) W) := fun d W hW hd => by
      have := hs4 d W hW hd
      rw [block_shut 4 hd] at this
      exact this
    have HS1 := hid hs1'
    have HS2 := hid hs2'
    have HS3 := hid hs3'
    have HS4 := hid hs4'
    have HEN := hid hen
    have HU := hid hu
    have y1 : ∀ m, m ≤ 100 → ¬ 9223372036854775807 < raw.size + m := fun m hm => by omega
    have y2 : (raw.toList == raw.toList) = true := beq_self_eq_true _
    have y4 : ((raw.size + 5 + 2 : Nat) : Int) = (raw.size : Int) + 5 + 2 := by simp
    have hre : (⟨raw.data.toList.toArray⟩ : ByteArray) = raw := ba_eta raw
    have HRE := hid hre
    clear hs1 hs2 hs3 hs4 hs1' hs2' hs3' hs4' hen hu hF hgd hraw hrd heb hll HM hre
    go_wp2_with fail
    refine HEN.out.mono ?_
    rintro e w3 ⟨rfl, hu3⟩
    have HU3 := hid (HU.out.trans hu3)
    clear hu3 HEN
    go_wp2_with fail
    refine (HS1.out _ _ HU3.out (by simp)).mono ?_
    rintro e w4 ⟨A4, c4, rfl, hP4, h41, h42, hu4⟩
    obtain ⟨b4, o4, rfl, hb4, hc4⟩ := hP4 (by simp)
    have m0 := (hc4 1 (by simp)).2.1
    have m1 := (hc4 1 (by simp)).2.2
    simp only [List.getElem_cons_succ, List.getElem_cons_zero, Nat.one_mul, HRE.out] at m0 m1
    simp only [List.length_cons, List.length_nil] at h41 ⊢
    have HM0 := hid m0
    have HM1 := hid m1
    have HU4 := hid (HU3.out.trans hu4)
    clear hP4 hc4 hu4 m0 m1 HS1
    go_wp2_with fail
    refine (HS2.out _ _ (by simp)).mono ?_
    rintro e w5 ⟨A5, c5, rfl, _, _, _, hu5⟩
    have HU5 := hid hu5
    clear hu5 HS2
    go_wp2_with fail
    refine (HS3.out _ _ (HU4.out.trans HU5.out) (by simp)).mono ?_
    rintro e w6 ⟨A6, c6, rfl, _, _, _, hu6⟩
    have HU6 := hid (HU5.out.trans hu6)
    clear hu6 HS3
    go_wp2_with fail
    refine (HS4.out _ _ (HU4.out.trans HU6.out) (by simp)).mono ?_
    rintro e w7 ⟨A7, c7, rfl, _, _, _, hu7⟩
    have hu7' := HU6.out.trans hu7
    have m0 := (hu7'.cell (p := ⟨b4, o4 + 3 + 1, none⟩) hb4).trans HM0.out
    have m1 := (hu7'.cell (p := ⟨b4, o4 + 3 + 2, none⟩) hb4).trans HM1.out
    haveI : LtW b4 w7 := LtW.of (Nat.lt_of_lt_of_le hb4 hu7'.size)
    have HU7 := hid (HU4.out.trans hu7')
    clear hu7 hu7' HS4 HM0 HM1
    simp only [List.length_nil] at *
    go_wp2_with fail
    refine (HKN.out _ HU7.out).mono ?_
    rintro e w8 ⟨rfl, hu8⟩
    have HU8 := hid (HU7.out.trans hu8)
    clear hu8
    go_wp2
    go_ret
    exact ⟨rfl, HU8.out⟩
end Go.Proofs.YtiifjfbfkhhpeaaGreatDoor
