/- The walk of ResourceLines. Conditions: the lists lie in memory. -/
import Derived.Test.YthoemdibbldndaaGreatDoorResRt
import Derived.Test.YthoemdibbldndaaGreatDoorRsB
set_option linter.unusedVariables false
set_option linter.unusedSimpArgs false
namespace Go.Proofs.YthoemdibbldndaaGreatDoor
open Go.RowKit

set_option maxHeartbeats 3200000 in
theorem madex_any (A : Option Addr) (n c : Nat) (zs : List Int) (w : World) (hz : zs.length = n) (hn : n ≤ 9223372036854775807) (hI : IntsAt w A zs) :
    Calls Tryz.prog 41 #[.slice A n c] w fun e w' => ∃ A2 c2, e = .returned (.slice A2 (fragF zs 0 8).1.length c2) ∧ FragAt w' A2 c2 (fragF zs 0 8).1 8 ∧ (A2 = none → c2 = 0) ∧ Und w w' := by
  have HG := hid (GenX.fresh (c := c) (T := 61) hn hz hI)
  clear hI
  go_enter Tryz.func41, Tryz.ntmps41
  go_wp2_with fail
  refine (frag_genx (w.heap.size + 1) w.heap.size 0 8 zs _ HG.out (by omega) (by omega)).mono ?_
  rintro e w2 ⟨v, rfl, ho, hgd, hfl, hft, hk⟩
  obtain ⟨A2, c2, rfl, h1, h2, h3⟩ := own_slice' ho
  have hu : Und w w2 := ((Und.refl w).alloc _).of_gb hk (fun g e => by cases e; exact Nat.le_refl _)
  have hF : FragAt w2 A2 c2 (fragF zs 0 8).1 8 := ⟨items_own ho rfl, hgd, hfl, hft, h1, by unfold maxLen at h2; omega, own_block_lt ho⟩
  have HE := hid (And.intro hF (And.intro h3 hu))
  clear ho hgd hk hu hF
  go_wp2
  go_ret
  exact ⟨A2, c2, rfl, HE.out.1, HE.out.2.1, HE.out.2.2⟩
def GpRel (w : World) (p : Nat) (s11 s12 : Value) (wr : World) : Prop := ∃ (j : Nat) (u : ByteArray), s12 = .int .i64 j ∧ s11 = .string u ∧ j ≤ p ∧ u.data.toList = [92, 10] ++ List.replicate (p - j) 32 ∧ w = wr
set_option maxRecDepth 20000 in
set_option maxHeartbeats 12800000 in
theorem lnlaw_any (A B : Option Addr) (n c m d : Nat) (zs ys : List Int) (sp : Int) (w : World) (hz : zs.length = n) (hn : n ≤ 9223372036854775807) (hI : IntsAt w A zs) (hy : ys.length = m) (hm : m ≤ 9223372036854775807) (hJ : IntsAt w B ys) :
    Calls Tryz.prog 13 #[.slice A n c, .slice B m d, .int .i64 sp] w fun e w' => e = .returned (.bool true) ∧ Und w w' := by
  have hm1 := fun (W : World) (hW : Und w W) => madex_any A n c zs W hz hn (hI.und hW)
  have hm2 := fun (W : World) (hW : Und w W) => madex_any B m d ys W hy hm (hJ.und hW)
  generalize (fragF zs 0 8).1 = f1 at hm1
  generalize (fragF ys 0 8).1 = f2 at hm2
  have HM1 := hid hm1
  have HM2 := hid hm2
  clear hI hJ hm1 hm2
  by_cases q1 : 60 < n
  · have z1 : (60 : Int) < (n : Int) := by omega
    go_enter Tryz.func13, Tryz.ntmps13
    go_wp2_with fail
    refine (xknown_any _).mono ?_
    rintro e w5 ⟨rfl, hu5⟩
    have HU5 := hid hu5
    clear hu5
    go_wp2
    go_ret
    exact ⟨rfl, HU5.out⟩
  have z1 : ¬ (60 : Int) < (n : Int) := by omega
  by_cases q2 : 60 < m
  · have z2 : (60 : Int) < (m : Int) := by omega
    go_enter Tryz.func13, Tryz.ntmps13
    go_wp2_with fail
    refine (xknown_any _).mono ?_
    rintro e w5 ⟨rfl, hu5⟩
    have HU5 := hid hu5
    clear hu5
    go_wp2
    go_ret
    exact ⟨rfl, HU5.out⟩
  have z2 : ¬ (60 : Int) < (m : Int) := by omega
  go_enter Tryz.func13, Tryz.ntmps13
  go_wp2_with fail
  refine (HM1.out _ (Und.refl _)).mono ?_
  rintro e w2 ⟨A2, c2, rfl, hF1, hA2, hu2⟩
  have g1 := hF1.2.1
  have g1l := hF1.2.2.1
  have g1t := hF1.2.2.2.1
  have hll1 := lenL_tot f1
  have hes1 := good_enc 2 g1 (by omega) (by omega)
  have hen1 := fun (W : World) (hW : Und w2 W) => xencode_any A2 f1.length c2 f1 W rfl hF1.2.2.2.2.1 hF1.2.2.2.2.2.1 (hF1.1.und hW) (by omega) (by omega)
  rw [hes1] at hen1
  have heb1 := encF_bound 2 f1
  have hra : (⟨(f1.flatMap (St.encI 2)).toArray⟩ : ByteArray).data.toList = f1.flatMap (St.encI 2) := by simp
  have hrs : (⟨(f1.flatMap (St.encI 2)).toArray⟩ : ByteArray).size ≤ 1000 := by rw [← St.len_list, hra]; omega
  simp only at hen1
  generalize (⟨(f1.flatMap (St.encI 2)).toArray⟩ : ByteArray) = ra at hen1 hra hrs
  have HEN1 := hid hen1
  have HRA := hid hra
  have HU2 := hid hu2
  clear hen1 hra hF1 hu2 hes1 heb1
  go_wp2_with fail
  refine (HEN1.out _ (Und.refl _)).mono ?_
  rintro e w3 ⟨rfl, hu3⟩
  have HU3 := hid (HU2.out.trans hu3)
  clear hu3 HEN1 HU2
  go_wp2_with fail
  refine (HM2.out _ HU3.out).mono ?_
  rintro e w4 ⟨A4, c4, rfl, hF2, hA4, hu4⟩
  have g2 := hF2.2.1
  have g2l := hF2.2.2.1
  have g2t := hF2.2.2.2.1
  have hll2 := lenL_tot f2
  have hes2 := good_enc 2 g2 (by omega) (by omega)
  have hen2 := fun (W : World) (hW : Und w4 W) => xencode_any A4 f2.length c4 f2 W rfl hF2.2.2.2.2.1 hF2.2.2.2.2.2.1 (hF2.1.und hW) (by omega) (by omega)
  rw [hes2] at hen2
  have heb2 := encF_bound 2 f2
  have hrb : (⟨(f2.flatMap (St.encI 2)).toArray⟩ : ByteArray).data.toList = f2.flatMap (St.encI 2) := by simp
  have hrbs : (⟨(f2.flatMap (St.encI 2)).toArray⟩ : ByteArray).size ≤ 1000 := by rw [← St.len_list, hrb]; omega
  simp only at hen2
  generalize (⟨(f2.flatMap (St.encI 2)).toArray⟩ : ByteArray) = rb at hen2 hrb hrbs
  have HEN2 := hid hen2
  have HUA := hid (HU3.out.trans hu4)
  have HRD := hid (fun (p : Nat) => St.lines_read (B := List.replicate p 32) (good_pos g1) (good_pos g2) (fun x hx => (g1.2 x hx).1) (fun x hx => (g2.2 x hx).1) (fun c hc => by rw [(List.mem_replicate.1 hc).2]; rfl) (by omega) (by omega))
  have HEK := hid (fun (p : Nat) => St.lines_endk (B := List.replicate p 32) (good_pos g1) (good_pos g2) (fun c hc => by rw [(List.mem_replicate.1 hc).2]; rfl))
  clear hen2 hF2 hu4 hes2 heb2 HU3 g1 g2
  go_wp2_with fail
  refine (HEN2.out _ (Und.refl _)).mono ?_
  rintro e w5 ⟨rfl, hu5⟩
  have HUB := hid (HUA.out.trans hu5)
  clear hu5 HEN2 HUA
  have hp0 := Int.emod_nonneg sp (show (4 : Int) ≠ 0 by omega)
  have hp1 := Int.emod_lt_of_pos sp (show (0 : Int) < 4 by omega)
  obtain ⟨p, hp⟩ : ∃ p : Nat, sp % 4 = (p : Int) := ⟨(sp % 4).toNat, by omega⟩
  have hpl := fun W => place_any sp 4 W (by omega) (by omega)
  rw [hp] at hpl
  have hp4 : p < 4 := by omega
  have HPL := hid hpl
  clear hpl hp hp0 hp1
  go_wp2_with fail
  refine (HPL.out _).mono ?_
  rintro e w6 ⟨rfl, rfl⟩
  go_wp2_with fail
  go_loopw [11, 12] (fun s11 s12 wr => GpRel w5 p s11 s12 wr) (fun _ s12 _ => (intOf s12).toNat)
  case atStart => exact ⟨p, _, rfl, rfl, Nat.le_refl _, by rw [Nat.sub_self]; rfl, rfl⟩
  case round =>
    obtain ⟨j, u, rfl, rfl, hjp, hul, rfl⟩ := hrel
    have hus : u.size = 2 + (p - j) := by rw [← St.len_list, hul]; simp; omega
    by_cases hj : 0 < j
    · have z3 : (0 : Int) < (j : Int) := by omega
      have y1 : ¬ 9223372036854775807 < u.size + 1 := by omega
      obtain ⟨i, rfl⟩ : ∃ i, j = i + 1 := ⟨j - 1, by omega⟩
      have HUL := hid hul
      have hji : ((i + 1 : Nat) : Int) - 1 = (i : Int) := by omega
      clear hul
      go_wp2
      refine ⟨⟨i, _, rfl, rfl, by omega, ?_, rfl⟩, by simp [intOf]⟩
      rw [ByteArray.data_append, Array.toList_append, HUL.out, show p - i = (p - (i + 1)) + 1 by omega, List.replicate_succ', ← List.append_assoc]
    · have z3 : ¬ (0 : Int) < (j : Int) := by omega
      obtain rfl : j = 0 := by omega
      rw [Nat.sub_zero] at hul
      have hus2 : u.size ≤ 10 := by omega
      clear hus hjp hj
      have HU4 := HUB
      by_cases hb0 : rb.size = 0
      · have hbn : rb.data.toList = [] := List.eq_nil_of_length_eq_zero (by rw [St.len_list]; exact hb0)
        have x1 : (rb.toList == []) = true := by rw [Lib.toList_data, hbn]; rfl
        have x2 : (rb.toList != []) = false := by rw [Lib.toList_data, hbn]; rfl
        obtain ⟨r2, hr0⟩ : ∃ r2, r2 = rb := ⟨_, rfl⟩
        have hr2 : r2.data.toList = St.shieldL (f2.flatMap (St.encI 2)) := by rw [hr0, ← hrb, hbn]; rfl
        have hr2s : r2.size ≤ 1001 := by rw [hr0]; omega
        subst hr0
        clear hb0 hbn hrb
        have hdl2 : (ra ++ u ++ r2).data.toList = f1.flatMap (St.encI 2) ++ ([92, 10] ++ List.replicate p 32) ++ St.shieldL (f2.flatMap (St.encI 2)) := by
          rw [ByteArray.data_append, ByteArray.data_append, Array.toList_append, Array.toList_append, HRA.out, hul, hr2]
        have hdl1 : (⟨#[107, 61]⟩ ++ ra ++ u ++ r2 ++ ⟨#[10, 122, 61]⟩ : ByteArray).data.toList = 107 :: 61 :: ((ra ++ u ++ r2).data.toList ++ [10, 122, 61]) := by simp
        have hsz2 : (ra ++ u ++ r2).size = ra.size + u.size + r2.size := by rw [ByteArray.size_append, ByteArray.size_append]
        have hsz1 : (⟨#[107, 61]⟩ ++ ra ++ u ++ r2 ++ ⟨#[10, 122, 61]⟩ : ByteArray).size = ra.size + u.size + r2.size + 5 := by
          rw [← St.len_list, hdl1, List.length_cons, List.length_cons, List.length_append, St.len_list, hsz2]; rfl
        have y1 : ¬ 9223372036854775807 < 2 + ra.size := by omega
        have y2 : ¬ 9223372036854775807 < 2 + ra.size + u.size := by omega
        have y3 : ¬ 9223372036854775807 < 2 + ra.size + u.size + r2.size := by omega
        have y4 : ¬ 9223372036854775807 < 2 + ra.size + u.size + r2.size + 3 := by omega
        have y5 : ¬ 9223372036854775807 < ra.size + u.size := by omega
        have y6 : ¬ 9223372036854775807 < ra.size + u.size + r2.size := by omega
        obtain ⟨cuts, hrd⟩ := HRD.out p
        rw [← hdl2] at hrd
        have hD : resD (ra ++ u ++ r2) = (St.normL (f1 ++ f2), cuts, 0, 0) := by rw [resD_F']; exact hrd
        have hdE : (dE (ra ++ u ++ r2).data.toList).2 = 0 := by rw [dE_of, hD]
        have hek : St.Endk (ra ++ u ++ r2).data.toList := by rw [hdl2]; exact HEK.out p
        have hT : resT (⟨#[107, 61]⟩ ++ ra ++ u ++ r2 ++ ⟨#[10, 122, 61]⟩ : ByteArray) = ([(false, [], [107, 61]), (true, [107], (ra ++ u ++ r2).data.toList), (false, [], [10, 122, 61]), (true, [122], []), (false, [], [])], 0, 0) := by
          unfold resT
          rw [hdl1]
          exact St.lines_split dE _ hek hdE (by decide) (by rw [St.len_list, hsz2]; omega)
        have hsp := fun W => xsplit_any (⟨#[107, 61]⟩ ++ ra ++ u ++ r2 ++ ⟨#[10, 122, 61]⟩ : ByteArray) W (by rw [hsz1]; omega)
        rw [hT] at hsp
        have hdc := fun W => xdecode_any (ra ++ u ++ r2) W (by rw [hsz2]; omega)
        rw [hD] at hdc
        have HSP := hid hsp
        have HDC := hid hdc
        have kk : ((ra ++ u ++ r2).toList == (ra ++ u ++ r2).toList) = true := beq_self_eq_true _
        clear hsp hdc hT hek hdE hD hrd hdl1 hdl2 hsz1 hsz2 hul hr2
        go_wp2_with fail
        refine (HSP.out _).mono ?_
        rintro e w5 ⟨A5, c5, rfl, hP, hd1, hd2, hu5⟩
        obtain ⟨b5, off5, rfl, hb5, hcp⟩ := hP (by simp)
        have k1 := (hcp 1 (by simp)).2.2
        have k3 := (hcp 3 (by simp)).2.1
        simp only [List.getElem_cons_zero, List.getElem_cons_succ, ba_eta] at k1 k3
        haveI : LtW b5 w5 := LtW.of hb5
        have HU5 := hid (HU4.out.trans hu5)
        have HK1 := hid k1
        have HK3 := hid k3
        simp only [List.length_cons, List.length_nil] at hd1 ⊢
        clear hP hcp hu5 hd2 HSP k1 k3
        go_wp2_with fail
        refine (HDC.out _).mono ?_
        rintro e w6 ⟨A6, c6, rfl, hI6, h61, h62, hu6⟩
        have k1 := (hu6.cell (p := ⟨b5, off5 + 1 * 3 + 2, none⟩) hb5).trans HK1.out
        have k3 := (hu6.cell (p := ⟨b5, off5 + 3 * 3 + 1, none⟩) hb5).trans HK3.out
        have hb6 := Nat.lt_of_lt_of_le hb5 hu6.size
        haveI : LtW b5 w6 := LtW.of hb6
        have HU6 := hid (HU5.out.trans hu6)
        have HI6 := hid hI6
        simp only at h61 ⊢
        clear hI6 hu6 HDC HU5 HK1 HK3
        go_wp2_with fail
        refine (HM1.out _ HU6.out).mono ?_
        rintro e w7 ⟨A7, c7, rfl, hF7, hA7, hu7⟩
        have HF7 := hid hF7
        have HU7 := hid hu7
        clear hF7 hu7
        go_wp2_with fail
        refine (HM2.out _ (HU6.out.trans HU7.out)).mono ?_
        rintro e w8 ⟨A8, c8, rfl, hF8, hA8, hu8⟩
        have hcat := concat_any A7 f1.length c7 f1 A8 f2.length c8 f2 w8 rfl rfl (fun e => by have := hA7 e; have := HF7.out.2.2.2.2.1; omega) (fun e => by have := hA8 e; have := hF8.2.2.2.2.1; omega) (HF7.out.1.und hu8) hF8.1 (by omega) (by rw [show tot (f1 ++ f2) = tot f1 + tot f2 by simp [tot]]; omega)
        have HCAT := hid hcat
        have HU8 := hid (HU7.out.trans hu8)
        clear hcat hF8 hu8
        go_wp2_with fail
        refine HCAT.out.mono ?_
        rintro e w9 ⟨v9, rfl, ho9, hu9⟩
        obtain ⟨A9, c9, rfl, h91, h92, h93⟩ := own_slice' ho9
        have hs := fun W (hW : Und w9 W) => rsame_any A6 A9 (St.normL (f1 ++ f2)).length (St.normL (f1 ++ f2)).length c6 c9 (St.normL (f1 ++ f2)) (St.normL (f1 ++ f2)) W rfl rfl h61 h91 h62 (by unfold maxLen at h92; omega) ((HI6.out.und (HU8.out.trans hu9)).und hW) ((items_own ho9 rfl).und hW)
        rw [decide_eq_true rfl] at hs
        have HS := hid hs
        have HU9 := hid (HU6.out.trans (HU8.out.trans hu9))
        clear hs ho9 hu9 HCAT HU8 HU7 HI6 HF7
        go_wp2_with fail
        refine (HS.out _ (Und.refl _)).mono ?_
        rintro e w10 ⟨rfl, hu10⟩
        have HU10 := hid (HU9.out.trans hu10)
        clear hu10 HS HU9
        go_wp2_with fail
        refine (xknown_any _).mono ?_
        rintro e w11 ⟨rfl, hu11⟩
        have HU11 := hid (HU10.out.trans hu11)
        clear hu11
        go_wp2
        go_ret
        exact ⟨rfl, HU11.out⟩
      · have hbl : 0 < rb.size := by omega
        have hcons := St.list_zero rb hbl
        have x0 : ¬ rb.data.toList = [] := by rw [hcons]; simp
        have x1 : (rb.toList == []) = false := by rw [Lib.toList_data]; simpa using x0
        have x2 : (rb.toList != []) = true := by rw [Lib.toList_data]; simpa using x0
        have x3 : (0 : Int) < (rb.size : Int) := by omega
        clear x0
        by_cases h32 : rb[0].toNat = 32
        · have x4 : ((rb[0].toNat : Int) == 32) = true := by rw [h32]; rfl
          obtain ⟨r2, hr0⟩ : ∃ r2 : ByteArray, (⟨#[92, 115]⟩ : ByteArray) ++ rb.extract 1 rb.size = r2 := ⟨_, rfl⟩
          have hr2 : r2.data.toList = St.shieldL (f2.flatMap (St.encI 2)) := by
            rw [← hr0, ← hrb, hcons, St.shieldL, if_pos h32, ByteArray.data_append, Array.toList_append, Lib.extract_data, List.take_of_length_le (by simp)]; try rfl
          have hr2s : r2.size ≤ 1001 := by rw [← hr0, ByteArray.size_append, ByteArray.size_extract]; show 2 + _ ≤ _; omega
          have x5 : (1 : Int) ≤ (rb.size : Int) := by omega
          have x6 : ¬ 9223372036854775807 < 2 + (rb.size - 1) := by omega
          have h32b : 32 ≤ rb[0].toNat ∧ rb[0].toNat ≤ 32 := by omega
          clear h32 hb0 hcons hrb
          have hdl2 : (ra ++ u ++ r2).data.toList = f1.flatMap (St.encI 2) ++ ([92, 10] ++ List.replicate p 32) ++ St.shieldL (f2.flatMap (St.encI 2)) := by
            rw [ByteArray.data_append, ByteArray.data_append, Array.toList_append, Array.toList_append, HRA.out, hul, hr2]
          have hdl1 : (⟨#[107, 61]⟩ ++ ra ++ u ++ r2 ++ ⟨#[10, 122, 61]⟩ : ByteArray).data.toList = 107 :: 61 :: ((ra ++ u ++ r2).data.toList ++ [10, 122, 61]) := by simp
          have hsz2 : (ra ++ u ++ r2).size = ra.size + u.size + r2.size := by rw [ByteArray.size_append, ByteArray.size_append]
          have hsz1 : (⟨#[107, 61]⟩ ++ ra ++ u ++ r2 ++ ⟨#[10, 122, 61]⟩ : ByteArray).size = ra.size + u.size + r2.size + 5 := by
            rw [← St.len_list, hdl1, List.length_cons, List.length_cons, List.length_append, St.len_list, hsz2]; rfl
          have y1 : ¬ 9223372036854775807 < 2 + ra.size := by omega
          have y2 : ¬ 9223372036854775807 < 2 + ra.size + u.size := by omega
          have y3 : ¬ 9223372036854775807 < 2 + ra.size + u.size + r2.size := by omega
          have y4 : ¬ 9223372036854775807 < 2 + ra.size + u.size + r2.size + 3 := by omega
          have y5 : ¬ 9223372036854775807 < ra.size + u.size := by omega
          have y6 : ¬ 9223372036854775807 < ra.size + u.size + r2.size := by omega
          obtain ⟨cuts, hrd⟩ := HRD.out p
          rw [← hdl2] at hrd
          have hD : resD (ra ++ u ++ r2) = (St.normL (f1 ++ f2), cuts, 0, 0) := by rw [resD_F']; exact hrd
          have hdE : (dE (ra ++ u ++ r2).data.toList).2 = 0 := by rw [dE_of, hD]
          have hek : St.Endk (ra ++ u ++ r2).data.toList := by rw [hdl2]; exact HEK.out p
          have hT : resT (⟨#[107, 61]⟩ ++ ra ++ u ++ r2 ++ ⟨#[10, 122, 61]⟩ : ByteArray) = ([(false, [], [107, 61]), (true, [107], (ra ++ u ++ r2).data.toList), (false, [], [10, 122, 61]), (true, [122], []), (false, [], [])], 0, 0) := by
            unfold resT
            rw [hdl1]
            exact St.lines_split dE _ hek hdE (by decide) (by rw [St.len_list, hsz2]; omega)
          have hsp := fun W => xsplit_any (⟨#[107, 61]⟩ ++ ra ++ u ++ r2 ++ ⟨#[10, 122, 61]⟩ : ByteArray) W (by rw [hsz1]; omega)
          rw [hT] at hsp
          have hdc := fun W => xdecode_any (ra ++ u ++ r2) W (by rw [hsz2]; omega)
          rw [hD] at hdc
          have HSP := hid hsp
          have HDC := hid hdc
          have kk : ((ra ++ u ++ r2).toList == (ra ++ u ++ r2).toList) = true := beq_self_eq_true _
          clear hsp hdc hT hek hdE hD hrd hdl1 hdl2 hsz1 hsz2 hul hr2
          go_wp2_with fail
          refine (HSP.out _).mono ?_
          rintro e w5 ⟨A5, c5, rfl, hP, hd1, hd2, hu5⟩
          obtain ⟨b5, off5, rfl, hb5, hcp⟩ := hP (by simp)
          have k1 := (hcp 1 (by simp)).2.2
          have k3 := (hcp 3 (by simp)).2.1
          simp only [List.getElem_cons_zero, List.getElem_cons_succ, ba_eta] at k1 k3
          haveI : LtW b5 w5 := LtW.of hb5
          have HU5 := hid (HU4.out.trans hu5)
          have HK1 := hid k1
          have HK3 := hid k3
          simp only [List.length_cons, List.length_nil] at hd1 ⊢
          clear hP hcp hu5 hd2 HSP k1 k3
          go_wp2_with fail
          refine (HDC.out _).mono ?_
          rintro e w6 ⟨A6, c6, rfl, hI6, h61, h62, hu6⟩
          have k1 := (hu6.cell (p := ⟨b5, off5 + 1 * 3 + 2, none⟩) hb5).trans HK1.out
          have k3 := (hu6.cell (p := ⟨b5, off5 + 3 * 3 + 1, none⟩) hb5).trans HK3.out
          have hb6 := Nat.lt_of_lt_of_le hb5 hu6.size
          haveI : LtW b5 w6 := LtW.of hb6
          have HU6 := hid (HU5.out.trans hu6)
          have HI6 := hid hI6
          simp only at h61 ⊢
          clear hI6 hu6 HDC HU5 HK1 HK3
          go_wp2_with fail
          refine (HM1.out _ HU6.out).mono ?_
          rintro e w7 ⟨A7, c7, rfl, hF7, hA7, hu7⟩
          have HF7 := hid hF7
          have HU7 := hid hu7
          clear hF7 hu7
          go_wp2_with fail
          refine (HM2.out _ (HU6.out.trans HU7.out)).mono ?_
          rintro e w8 ⟨A8, c8, rfl, hF8, hA8, hu8⟩
          have hcat := concat_any A7 f1.length c7 f1 A8 f2.length c8 f2 w8 rfl rfl (fun e => by have := hA7 e; have := HF7.out.2.2.2.2.1; omega) (fun e => by have := hA8 e; have := hF8.2.2.2.2.1; omega) (HF7.out.1.und hu8) hF8.1 (by omega) (by rw [show tot (f1 ++ f2) = tot f1 + tot f2 by simp [tot]]; omega)
          have HCAT := hid hcat
          have HU8 := hid (HU7.out.trans hu8)
          clear hcat hF8 hu8
          go_wp2_with fail
          refine HCAT.out.mono ?_
          rintro e w9 ⟨v9, rfl, ho9, hu9⟩
          obtain ⟨A9, c9, rfl, h91, h92, h93⟩ := own_slice' ho9
          have hs := fun W (hW : Und w9 W) => rsame_any A6 A9 (St.normL (f1 ++ f2)).length (St.normL (f1 ++ f2)).length c6 c9 (St.normL (f1 ++ f2)) (St.normL (f1 ++ f2)) W rfl rfl h61 h91 h62 (by unfold maxLen at h92; omega) ((HI6.out.und (HU8.out.trans hu9)).und hW) ((items_own ho9 rfl).und hW)
          rw [decide_eq_true rfl] at hs
          have HS := hid hs
          have HU9 := hid (HU6.out.trans (HU8.out.trans hu9))
          clear hs ho9 hu9 HCAT HU8 HU7 HI6 HF7
          go_wp2_with fail
          refine (HS.out _ (Und.refl _)).mono ?_
          rintro e w10 ⟨rfl, hu10⟩
          have HU10 := hid (HU9.out.trans hu10)
          clear hu10 HS HU9
          go_wp2_with fail
          refine (xknown_any _).mono ?_
          rintro e w11 ⟨rfl, hu11⟩
          have HU11 := hid (HU10.out.trans hu11)
          clear hu11
          go_wp2
          go_ret
          exact ⟨rfl, HU11.out⟩
        · have x4 : ((rb[0].toNat : Int) == 32) = false := beq_eq_false_iff_ne.2 (by omega)
          obtain ⟨r2, hr0⟩ : ∃ r2, r2 = rb := ⟨_, rfl⟩
          have hr2 : r2.data.toList = St.shieldL (f2.flatMap (St.encI 2)) := by rw [hr0, ← hrb, hcons, St.shieldL, if_neg h32]
          have hr2s : r2.size ≤ 1001 := by rw [hr0]; omega
          subst hr0
          clear hb0 hcons hrb
          have hdl2 : (ra ++ u ++ r2).data.toList = f1.flatMap (St.encI 2) ++ ([92, 10] ++ List.replicate p 32) ++ St.shieldL (f2.flatMap (St.encI 2)) := by
            rw [ByteArray.data_append, ByteArray.data_append, Array.toList_append, Array.toList_append, HRA.out, hul, hr2]
          have hdl1 : (⟨#[107, 61]⟩ ++ ra ++ u ++ r2 ++ ⟨#[10, 122, 61]⟩ : ByteArray).data.toList = 107 :: 61 :: ((ra ++ u ++ r2).data.toList ++ [10, 122, 61]) := by simp
          have hsz2 : (ra ++ u ++ r2).size = ra.size + u.size + r2.size := by rw [ByteArray.size_append, ByteArray.size_append]
          have hsz1 : (⟨#[107, 61]⟩ ++ ra ++ u ++ r2 ++ ⟨#[10, 122, 61]⟩ : ByteArray).size = ra.size + u.size + r2.size + 5 := by
            rw [← St.len_list, hdl1, List.length_cons, List.length_cons, List.length_append, St.len_list, hsz2]; rfl
          have y1 : ¬ 9223372036854775807 < 2 + ra.size := by omega
          have y2 : ¬ 9223372036854775807 < 2 + ra.size + u.size := by omega
          have y3 : ¬ 9223372036854775807 < 2 + ra.size + u.size + r2.size := by omega
          have y4 : ¬ 9223372036854775807 < 2 + ra.size + u.size + r2.size + 3 := by omega
          have y5 : ¬ 9223372036854775807 < ra.size + u.size := by omega
          have y6 : ¬ 9223372036854775807 < ra.size + u.size + r2.size := by omega
          obtain ⟨cuts, hrd⟩ := HRD.out p
          rw [← hdl2] at hrd
          have hD : resD (ra ++ u ++ r2) = (St.normL (f1 ++ f2), cuts, 0, 0) := by rw [resD_F']; exact hrd
          have hdE : (dE (ra ++ u ++ r2).data.toList).2 = 0 := by rw [dE_of, hD]
          have hek : St.Endk (ra ++ u ++ r2).data.toList := by rw [hdl2]; exact HEK.out p
          have hT : resT (⟨#[107, 61]⟩ ++ ra ++ u ++ r2 ++ ⟨#[10, 122, 61]⟩ : ByteArray) = ([(false, [], [107, 61]), (true, [107], (ra ++ u ++ r2).data.toList), (false, [], [10, 122, 61]), (true, [122], []), (false, [], [])], 0, 0) := by
            unfold resT
            rw [hdl1]
            exact St.lines_split dE _ hek hdE (by decide) (by rw [St.len_list, hsz2]; omega)
          have hsp := fun W => xsplit_any (⟨#[107, 61]⟩ ++ ra ++ u ++ r2 ++ ⟨#[10, 122, 61]⟩ : ByteArray) W (by rw [hsz1]; omega)
          rw [hT] at hsp
          have hdc := fun W => xdecode_any (ra ++ u ++ r2) W (by rw [hsz2]; omega)
          rw [hD] at hdc
          have HSP := hid hsp
          have HDC := hid hdc
          have kk : ((ra ++ u ++ r2).toList == (ra ++ u ++ r2).toList) = true := beq_self_eq_true _
          clear hsp hdc hT hek hdE hD hrd hdl1 hdl2 hsz1 hsz2 hul hr2
          go_wp2_with fail
          refine (HSP.out _).mono ?_
          rintro e w5 ⟨A5, c5, rfl, hP, hd1, hd2, hu5⟩
          obtain ⟨b5, off5, rfl, hb5, hcp⟩ := hP (by simp)
          have k1 := (hcp 1 (by simp)).2.2
          have k3 := (hcp 3 (by simp)).2.1
          simp only [List.getElem_cons_zero, List.getElem_cons_succ, ba_eta] at k1 k3
          haveI : LtW b5 w5 := LtW.of hb5
          have HU5 := hid (HU4.out.trans hu5)
          have HK1 := hid k1
          have HK3 := hid k3
          simp only [List.length_cons, List.length_nil] at hd1 ⊢
          clear hP hcp hu5 hd2 HSP k1 k3
          go_wp2_with fail
          refine (HDC.out _).mono ?_
          rintro e w6 ⟨A6, c6, rfl, hI6, h61, h62, hu6⟩
          have k1 := (hu6.cell (p := ⟨b5, off5 + 1 * 3 + 2, none⟩) hb5).trans HK1.out
          have k3 := (hu6.cell (p := ⟨b5, off5 + 3 * 3 + 1, none⟩) hb5).trans HK3.out
          have hb6 := Nat.lt_of_lt_of_le hb5 hu6.size
          haveI : LtW b5 w6 := LtW.of hb6
          have HU6 := hid (HU5.out.trans hu6)
          have HI6 := hid hI6
          simp only at h61 ⊢
          clear hI6 hu6 HDC HU5 HK1 HK3
          go_wp2_with fail
          refine (HM1.out _ HU6.out).mono ?_
          rintro e w7 ⟨A7, c7, rfl, hF7, hA7, hu7⟩
          have HF7 := hid hF7
          have HU7 := hid hu7
          clear hF7 hu7
          go_wp2_with fail
          refine (HM2.out _ (HU6.out.trans HU7.out)).mono ?_
          rintro e w8 ⟨A8, c8, rfl, hF8, hA8, hu8⟩
          have hcat := concat_any A7 f1.length c7 f1 A8 f2.length c8 f2 w8 rfl rfl (fun e => by have := hA7 e; have := HF7.out.2.2.2.2.1; omega) (fun e => by have := hA8 e; have := hF8.2.2.2.2.1; omega) (HF7.out.1.und hu8) hF8.1 (by omega) (by rw [show tot (f1 ++ f2) = tot f1 + tot f2 by simp [tot]]; omega)
          have HCAT := hid hcat
          have HU8 := hid (HU7.out.trans hu8)
          clear hcat hF8 hu8
          go_wp2_with fail
          refine HCAT.out.mono ?_
          rintro e w9 ⟨v9, rfl, ho9, hu9⟩
          obtain ⟨A9, c9, rfl, h91, h92, h93⟩ := own_slice' ho9
          have hs := fun W (hW : Und w9 W) => rsame_any A6 A9 (St.normL (f1 ++ f2)).length (St.normL (f1 ++ f2)).length c6 c9 (St.normL (f1 ++ f2)) (St.normL (f1 ++ f2)) W rfl rfl h61 h91 h62 (by unfold maxLen at h92; omega) ((HI6.out.und (HU8.out.trans hu9)).und hW) ((items_own ho9 rfl).und hW)
          rw [decide_eq_true rfl] at hs
          have HS := hid hs
          have HU9 := hid (HU6.out.trans (HU8.out.trans hu9))
          clear hs ho9 hu9 HCAT HU8 HU7 HI6 HF7
          go_wp2_with fail
          refine (HS.out _ (Und.refl _)).mono ?_
          rintro e w10 ⟨rfl, hu10⟩
          have HU10 := hid (HU9.out.trans hu10)
          clear hu10 HS HU9
          go_wp2_with fail
          refine (xknown_any _).mono ?_
          rintro e w11 ⟨rfl, hu11⟩
          have HU11 := hid (HU10.out.trans hu11)
          clear hu11
          go_wp2
          go_ret
          exact ⟨rfl, HU11.out⟩
end Go.Proofs.YthoemdibbldndaaGreatDoor
