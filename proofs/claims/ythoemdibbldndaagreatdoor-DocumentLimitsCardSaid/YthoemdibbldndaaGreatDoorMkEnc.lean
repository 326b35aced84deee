/- The contract of markup.Encode: what it gives is St.encS 1. Conditions: the list and its texts lie in memory and are no longer than they can be. -/
import Derived.Test.YthoemdibbldndaaGreatDoorItmF
import Derived.Test.YthoemdibbldndaaGreatDoorRplA
import Derived.Test.YthoemdibbldndaaGreatDoorRefEnc
import Derived.Test.YthoemdibbldndaaGreatDoorMkNm
set_option linter.unusedVariables false
set_option linter.unusedSimpArgs false
namespace Go.Proofs.YthoemdibbldndaaGreatDoor
open Go.RowKit

def tbM : List (UInt8 × ByteArray) := [(60, ⟨#[38, 108, 116, 59]⟩), (38, ⟨#[38, 97, 109, 112, 59]⟩), (123, ⟨#[38, 108, 98, 59]⟩)]
theorem tbM_ok : TbOk tbM := ⟨by decide, by decide, by intro p hp; simp [tbM] at hp; rcases hp with rfl | rfl | rfl <;> decide, by decide⟩
theorem rpB_mk (c : UInt8) : rpB tbM.reverse c = St.encB 1 c := by
  by_cases h0 : c = 60
  · subst h0; rfl
  by_cases h1 : c = 38
  · subst h1; rfl
  by_cases h2 : c = 123
  · subst h2; rfl
  have e0 : c.toNat ≠ 60 := fun e => h0 (UInt8.toNat_inj.1 e)
  have e1 : c.toNat ≠ 38 := fun e => h1 (UInt8.toNat_inj.1 e)
  have e2 : c.toNat ≠ 123 := fun e => h2 (UInt8.toNat_inj.1 e)
  have : lookB tbM.reverse c = none := by
    show lookB [(123, ⟨#[38, 108, 98, 59]⟩), (38, ⟨#[38, 97, 109, 112, 59]⟩), (60, ⟨#[38, 108, 116, 59]⟩)] c = none
    simp [lookB, Ne.symm h0, Ne.symm h1, Ne.symm h2]
  rw [rp_none this]
  simp [St.encB, e0, e1, e2]
theorem flat_mk (t : List UInt8) : t.flatMap (rpB tbM.reverse) = t.flatMap (St.encB 1) := by
  congr 1; funext c; exact rpB_mk c
theorem check_kind {b : List St.It} {x : St.It} (h : St.checkL b x = 0) : x.1 = 1 ∨ x.1 = 5 ∨ St.isTagK x.1 = true := by
  by_cases k1 : x.1 = 1
  · exact .inl k1
  · by_cases k5 : x.1 = 5
    · exact .inr (.inl k5)
    · refine .inr (.inr ?_)
      unfold St.isTagK
      refine decide_eq_true ?_
      unfold St.checkL at h
      rw [if_neg k1, if_neg k5] at h
      by_cases k2 : x.1 = 2 ∨ x.1 = 4
      · omega
      · rw [if_neg k2] at h
        by_cases k3 : x.1 = 3
        · omega
        · rw [if_neg k3] at h; cases h
theorem from_kind : ∀ (f b : List St.It), St.validFrom b f = 0 → ∀ x ∈ f, x.1 = 1 ∨ x.1 = 5 ∨ St.isTagK x.1 = true
  | [], _, _ => fun x hx => by cases hx
  | y :: f, b, h => by
    intro x hx
    by_cases hc : St.checkL b y = 0
    · rw [valid_from b f y hc] at h
      rcases List.mem_cons.1 hx with rfl | hx
      · exact check_kind hc
      · exact from_kind f _ h x hx
    · rw [valid_stop b f y hc] at h
      exact absurd h hc
theorem valid_kind {f : List St.It} (h : St.validL f = 0) : ∀ x ∈ f, x.1 = 1 ∨ x.1 = 5 ∨ St.isTagK x.1 = true := by
  unfold St.validL at h
  split at h
  · cases h
  · exact from_kind f [] h
def EsRel (w0 : World) (B rb : Nat) (f : List St.It) (n : Nat) (s6 s18 : Value) (wr : World) : Prop :=
  ∃ (k : Nat) (u : ByteArray), k ≤ n ∧ s18 = .int .i64 k ∧ s6 = .string u ∧ u.data.toList = (f.take k).flatMap (St.encI 1) ∧ u.size ≤ 5 * tot (f.take k) + 5 * k ∧ (f.take k).any (St.badTag 1) = false ∧ RepAt wr B rb tbM ∧ Below B w0 wr
theorem lenL_at (f : List St.It) (j : Nat) (h : j < f.length) : f[j].1 = 1 → f[j].2.1.length ≤ St.lenL f := by
  intro h1
  have := lenL_take f j h
  have h2 := lenL_le f (j + 1)
  have h3 : St.widthI f[j] = f[j].2.1.length := by unfold St.widthI; rw [if_pos h1]
  omega
theorem Below.und {B : Nat} {a b c : World} (h : Below B a b) (hB : B ≤ b.heap.size) (u : Und b c) : Below B a c := h.trans (u.below.mono hB)
set_option maxRecDepth 20000 in
set_option maxHeartbeats 12800000 in
theorem mencode_any (A : Option Addr) (n c : Nat) (f : List St.It) (w : World) (hn : f.length = n) (hnc : n ≤ c) (hc63 : c ≤ 9223372036854775807) (h : ItemsAt w A f) (hl : n ≤ 1000000000) (ht : tot f ≤ 1000000000000) :
    Calls Tryz.prog 89 #[.slice A n c] w fun e w' => e = .returned (.tuple #[.string ⟨(St.encS 1 f).1.toArray⟩, .int .i64 (St.encS 1 f).2]) ∧ Und w w' := by
  have H := hid h
  have HN := hid hn
  have HT := hid ht
  have hv := hid (ivalid_any A n c f w hn hnc hc63 h (by omega) (by omega))
  clear h hn
  by_cases hvz : St.validL f = 0
  rotate_left 1
  · have hr := hid (show St.encS 1 f = ([], St.validL f) by unfold St.encS; rw [if_pos hvz])
    have z : (St.validL f == 0) = false := by simpa using hvz
    have z2 : (St.validL f != 0) = true := by simpa using hvz
    generalize St.validL f = ev at *
    clear hvz
    go_enter Tryz.func89, Tryz.ntmps89
    go_wp2_with fail
    refine hv.out.mono ?_
    rintro e w' ⟨rfl, hu⟩
    have HU := hid hu
    clear hu
    go_wp2
    go_ret2
    exact ⟨by rw [hr.out]; rfl, HU.out⟩
  · have hok := fun (h : f.any (St.badTag 1) = false) => show St.encS 1 f = (f.flatMap (St.encI 1), 0) by unfold St.encS; rw [if_neg (by simp [hvz]), h]; rfl
    have hbad := fun (h : f.any (St.badTag 1) = true) => show St.encS 1 f = ([], 7) by unfold St.encS; rw [if_neg (by simp [hvz]), h]; rfl
    have hlen : St.lenL f ≤ 1024 := by
      refine Nat.not_lt.1 fun e => ?_
      unfold St.validL at hvz
      rw [if_pos (.inr e)] at hvz
      cases hvz
    have hkd := valid_kind hvz
    have HKD := hid hkd
    clear hkd
    rw [hvz] at hv
    have HOK := hid hok
    have HBAD := hid hbad
    have HLEN := hid hlen
    clear hok hbad hvz ht hlen
    go_enter Tryz.func89, Tryz.ntmps89
    go_wp2_with fail
    refine hv.out.mono ?_
    rintro e w1 ⟨rfl, hu⟩
    have HU0 := hid hu
    have hsz0 := hu.size
    clear hu hv
    have hnr := fun (W : World) (ab : Nat) (hc : ∀ j u, ((osOf tbM).map Value.string)[j]? = some u → W.cell? ⟨ab, j, none⟩ = some u) => newrep_any ab 6 (osOf tbM) W rfl (by decide) (by omega) hc
    have HNR := hid hnr
    clear hnr
    go_wp2_with fail
    refine (HNR.out _ w1.heap.size ?_).mono ?_
    · intro j u hj
      match j, hj with
      | 0, hj => simp [osOf, tbM] at hj; subst hj; simp
      | 1, hj => simp [osOf, tbM] at hj; subst hj; simp
      | 2, hj => simp [osOf, tbM] at hj; subst hj; simp
      | 3, hj => simp [osOf, tbM] at hj; subst hj; simp
      | 4, hj => simp [osOf, tbM] at hj; subst hj; simp
      | 5, hj => simp [osOf, tbM] at hj; subst hj; simp
      | j + 6, hj => simp [osOf, tbM] at hj
    rintro e w2 ⟨rb, rfl, hrep, hu2⟩
    have hbel0 : Below (w1.alloc (.cells #[.string ⟨#[60]⟩, .string ⟨#[38, 108, 116, 59]⟩, .string ⟨#[38]⟩, .string ⟨#[38, 97, 109, 112, 59]⟩, .string ⟨#[123]⟩, .string ⟨#[38, 108, 98, 59]⟩] 9)).heap.size (w1.alloc (.cells #[.string ⟨#[60]⟩, .string ⟨#[38, 108, 116, 59]⟩, .string ⟨#[38]⟩, .string ⟨#[38, 97, 109, 112, 59]⟩, .string ⟨#[123]⟩, .string ⟨#[38, 108, 98, 59]⟩] 9)) w2 := hu2.below
    have hu01 : Und w (w1.alloc (.cells #[.string ⟨#[60]⟩, .string ⟨#[38, 108, 116, 59]⟩, .string ⟨#[38]⟩, .string ⟨#[38, 97, 109, 112, 59]⟩, .string ⟨#[123]⟩, .string ⟨#[38, 108, 98, 59]⟩] 9)) := HU0.out.alloc _
    generalize (w1.alloc (.cells #[.string ⟨#[60]⟩, .string ⟨#[38, 108, 116, 59]⟩, .string ⟨#[38]⟩, .string ⟨#[38, 97, 109, 112, 59]⟩, .string ⟨#[123]⟩, .string ⟨#[38, 108, 98, 59]⟩] 9)) = w1' at hrep hu2 hbel0 hu01
    have hB2 : w1'.heap.size ≤ w2.heap.size := hu2.size
    have HU01 := hid hu01
    have hrepA : RepAt w2 w1'.heap.size rb tbM := .inl hrep
    have HREP := hid hrepA
    have HBEL := hid hbel0
    clear hrep hu2 hbel0 hu01 hrepA HU0 hsz0 HNR
    generalize hB : w1'.heap.size = B at HREP HBEL hB2
    go_wp2_with fail
    go_loopw [6, 18] (fun s6 s18 wr => EsRel w1' B rb f n s6 s18 wr ∧ B ≤ wr.heap.size) (fun _ s18 _ => n + 1 - (intOf s18).toNat)
    case atStart => exact ⟨⟨0, ⟨#[]⟩, by omega, rfl, rfl, rfl, by show 0 ≤ _; omega, rfl, HREP.out, HBEL.out⟩, hB2⟩
    case round =>
      obtain ⟨⟨k, u, hk, rfl, rfl, hul, hus, hany, hrp, hbl⟩, hBr⟩ := hrel
      have HRP := hid hrp
      have HBL := hid hbl
      have hub : Und w1' wr := Und.of_below (by rw [hB]; exact hbl)
      have HU := hid (HU01.out.trans hub)
      have HUL := hid hul
      have HAN := hid hany
      clear hul hany hrp hbl hub HREP HBEL
      have hN := HN.out
      have hT := HT.out
      have hb2 := tot_le f k
      by_cases hlt : k < n
      · have hlt2 : k < f.length := by omega
        obtain ⟨b, off, rfl, hb, hc⟩ := (H.out.und HU.out) (by omega)
        obtain ⟨c0, c1, c2⟩ := hc k hlt2
        have hfl := fl_snoc 1 f k hlt2
        have hb3 := tot_le f (k + 1)
        have htk := tot_take f k hlt2
        have hwd := lenL_at f k hlt2
        have hL := HLEN.out
        have hkd := HKD.out f[k] (List.getElem_mem hlt2)
        have han2 := any_snoc (St.badTag 1) f k hlt2 HAN.out
        have hfd := any_found (St.badTag 1) f k hlt2
        generalize f[k] = x at c0 c1 c2 hfl htk han2 hfd hwd hkd
        obtain ⟨kd, tx, id⟩ := x
        simp only at c0 c1 c2 htk hwd hkd
        haveI : LtW b wr := LtW.of hb
        have hxz : (⟨tx.toArray⟩ : ByteArray).size = tx.length := by show tx.toArray.size = _; simp
        have step : ∀ (v : ByteArray) (W : World), v.data.toList = u.data.toList ++ St.encI 1 (kd, tx, id) → v.size ≤ u.size + 5 * tx.length + 5 → St.badTag 1 (kd, tx, id) = false → RepAt W B rb tbM → Below B wr W → EsRel w1' B rb f n (.string v) (.int .i64 ((k : Int) + 1)) W := fun v W h1 h2 h3 h4 h5 =>
          ⟨k + 1, v, by omega, congrArg (Value.int .i64) (by omega), rfl, by rw [h1, HUL.out, hfl], by rw [htk]; omega, han2 h3, h4, HBL.out.trans h5⟩
        have STEP := hid step
        have HFD := hid hfd
        have HTK := hid htk
        have hus2 : u.size ≤ 6000000000000 := by omega
        have htx2 : tx.length ≤ 1000000000000 := by omega
        clear step hfd hfl han2 hc hlt2
        by_cases k1 : kd = 1
        · subst k1
          have htl : tx.length ≤ 1024 := by have := hwd rfl; omega
          have hre := fun (W : World) (hR : RepAt W B rb tbM) (hB : B ≤ W.heap.size) => replace_any B rb tbM ⟨tx.toArray⟩ W hR tbM_ok hB (by omega)
          have hf2 : (⟨tx.toArray⟩ : ByteArray).data.toList.flatMap (rpB tbM.reverse) = tx.flatMap (St.encB 1) := flat_mk tx
          rw [hf2] at hre
          have hesz := enc_sz 1 tx
          have hnb := hid (show St.badTag 1 (1, tx, id) = false by unfold St.badTag; rfl)
          have hei : St.encI 1 (1, tx, id) = tx.flatMap (St.encB 1) := by unfold St.encI; rfl
          have HEI := hid hei
          generalize tx.flatMap (St.encB 1) = et at hre hesz HEI
          have hez : (⟨et.toArray⟩ : ByteArray).size = et.length := by show et.toArray.size = _; simp
          have y1 : ¬ 9223372036854775807 < u.size + (⟨et.toArray⟩ : ByteArray).size := by rw [hez]; omega
          have y2 : ¬ 9223372036854775807 < u.size + et.length := by omega
          have HRE := hid hre
          have hbx : (wr.alloc (.cells #[.int .i64 1, .string ⟨tx.toArray⟩, .int .i64 id] 36)).heap.size = wr.heap.size + 1 := by simp
          clear hre hf2 hei hwd
          go_wp2_with fail
          refine (HRE.out _ (HRP.out.und ((Und.refl _).alloc _)) (by rw [hbx]; omega)).mono ?_
          rintro e w3 ⟨rfl, hr3, hb3'⟩
          have hbl3 : Below B wr w3 := (Below.und (Below.refl _ _) hBr ((Und.refl wr).alloc _)).trans hb3'
          have hfin := hid (STEP.out (u ++ (⟨et.toArray⟩ : ByteArray)) w3 (by rw [HEI.out]; simp) (by rw [ByteArray.size_append, hez]; omega) hnb.out (.inr hr3) hbl3)
          have hB3 := hbl3.size
          clear hr3 hb3' hbl3 c0 c1 c2
          go_wp2
          exact ⟨⟨hfin.out, by omega⟩, by simp [intOf]; omega⟩
        · have q1 : (kd == 1) = false := by simpa using k1
          by_cases k5 : kd = 5
          · subst k5
            have hnb := hid (show St.badTag 1 (5, tx, id) = false by unfold St.badTag St.isTagK; rfl)
            have y1 : ¬ 9223372036854775807 < 1 + tx.length := by omega
            have y2 : ¬ 9223372036854775807 < 1 + tx.length + 1 := by omega
            have y3 : ¬ 9223372036854775807 < u.size + (1 + tx.length + 1) := by omega
            have hfin := fun W (hW : Und wr W) => STEP.out (u ++ ((⟨#[123]⟩ : ByteArray) ++ (⟨tx.toArray⟩ : ByteArray) ++ (⟨#[125]⟩ : ByteArray))) W (by unfold St.encI; simp) (by simp only [ByteArray.size_append, hxz]; show _ + (1 + _ + 1) ≤ _; omega) hnb.out (HRP.out.und hW) (Below.und (Below.refl _ _) hBr hW)
            have hsz := fun W (hW : Und wr W) => Nat.le_trans hBr hW.size
            have HFIN := hid (fun W hW => And.intro (hfin W hW) (hsz W hW))
            clear hfin hwd k1 hsz
            go_wp2
            exact ⟨HFIN.out _ (by repeat (first | exact Und.refl _ | assumption | refine Und.under ?_ _ | refine Und.alloc ?_ _ | refine Und.drew ?_ | refine Und.drewN ?_ _)), by simp [intOf]; omega⟩
          · have q5 : (kd == 5) = false := by simpa using k5
            have htg : St.isTagK kd = true := by
              rcases hkd with h | h | h
              · exact absurd h k1
              · exact absurd h k5
              · exact h
            have htg2 : kd = 2 ∨ kd = 3 ∨ kd = 4 := by unfold St.isTagK at htg; have := of_decide_eq_true htg; omega
            have hnm := fun (W : World) => mname_any tx W (by omega)
            have hbk := fun (W : World) => misblock_any ⟨(St.nameOf tx).toArray⟩ W
            have hbd : St.badTag 1 (kd, tx, id) = St.blockL (St.nameOf tx) := by unfold St.badTag; simp [htg]
            have hbl0 : (⟨(St.nameOf tx).toArray⟩ : ByteArray).data.toList = St.nameOf tx := by simp
            rw [hbl0] at hbk
            cases hbb : St.blockL (St.nameOf tx)
            · have hnb := hid (show St.badTag 1 (kd, tx, id) = false by rw [hbd, hbb])
              rw [hbb] at hbk
              have HNM := hid hnm
              have HBK := hid hbk
              have y1 : ¬ 9223372036854775807 < 1 + tx.length := by omega
              have y2 : ¬ 9223372036854775807 < 1 + tx.length + 1 := by omega
              have y3 : ¬ 9223372036854775807 < u.size + (1 + tx.length + 1) := by omega
              have y4 : ¬ 9223372036854775807 < 2 + tx.length := by omega
              have y5 : ¬ 9223372036854775807 < 2 + tx.length + 1 := by omega
              have y6 : ¬ 9223372036854775807 < u.size + (2 + tx.length + 1) := by omega
              have y7 : ¬ 9223372036854775807 < 1 + tx.length + 2 := by omega
              have y8 : ¬ 9223372036854775807 < u.size + (1 + tx.length + 2) := by omega
              have hsz := fun W (hW : Und wr W) => Nat.le_trans hBr hW.size
              clear hnm hbk hwd k1 k5 htg hkd hbd hbl0 hbb HFD HBAD
              rcases htg2 with rfl | rfl | rfl
              · have hfin := fun W (hW : Und wr W) => STEP.out (u ++ ((⟨#[60]⟩ : ByteArray) ++ (⟨tx.toArray⟩ : ByteArray) ++ (⟨#[62]⟩ : ByteArray))) W (by unfold St.encI; simp) (by simp only [ByteArray.size_append, hxz]; show _ + (1 + _ + 1) ≤ _; omega) hnb.out (HRP.out.und hW) (Below.und (Below.refl _ _) hBr hW)
                have HFIN := hid (fun W hW => And.intro (hfin W hW) (hsz W hW))
                clear hfin hsz
                go_wp2_with fail
                refine (HNM.out _).mono ?_
                rintro e w3 ⟨rfl, hu3⟩
                have HU3 := hid (Und.trans ((by repeat (first | exact Und.refl _ | assumption | refine Und.under ?_ _ | refine Und.alloc ?_ _ | refine Und.drew ?_ | refine Und.drewN ?_ _))) hu3 : Und wr w3)
                have d0 : w3.cell? ⟨wr.heap.size, 0, none⟩ = some (.int .i64 2) := (hu3.cell (p := ⟨wr.heap.size, 0, none⟩) (by simp)).trans (by simp)
                have d1 : w3.cell? ⟨wr.heap.size, 1, none⟩ = some (.string ⟨tx.toArray⟩) := (hu3.cell (p := ⟨wr.heap.size, 1, none⟩) (by simp)).trans (by simp)
                haveI : LtW wr.heap.size w3 := LtW.of (World.block_lt_of_cell? _ _ d0)
                clear hu3
                go_wp2_with fail
                refine (HBK.out _).mono ?_
                rintro e w4 ⟨rfl, rfl⟩
                go_wp2
                exact ⟨HFIN.out _ HU3.out, by simp [intOf]; omega⟩
              · have hfin := fun W (hW : Und wr W) => STEP.out (u ++ ((⟨#[60, 47]⟩ : ByteArray) ++ (⟨tx.toArray⟩ : ByteArray) ++ (⟨#[62]⟩ : ByteArray))) W (by unfold St.encI; simp) (by simp only [ByteArray.size_append, hxz]; show _ + (2 + _ + 1) ≤ _; omega) hnb.out (HRP.out.und hW) (Below.und (Below.refl _ _) hBr hW)
                have HFIN := hid (fun W hW => And.intro (hfin W hW) (hsz W hW))
                clear hfin hsz
                go_wp2_with fail
                refine (HNM.out _).mono ?_
                rintro e w3 ⟨rfl, hu3⟩
                have HU3 := hid (Und.trans ((by repeat (first | exact Und.refl _ | assumption | refine Und.under ?_ _ | refine Und.alloc ?_ _ | refine Und.drew ?_ | refine Und.drewN ?_ _))) hu3 : Und wr w3)
                have d0 : w3.cell? ⟨wr.heap.size, 0, none⟩ = some (.int .i64 3) := (hu3.cell (p := ⟨wr.heap.size, 0, none⟩) (by simp)).trans (by simp)
                have d1 : w3.cell? ⟨wr.heap.size, 1, none⟩ = some (.string ⟨tx.toArray⟩) := (hu3.cell (p := ⟨wr.heap.size, 1, none⟩) (by simp)).trans (by simp)
                haveI : LtW wr.heap.size w3 := LtW.of (World.block_lt_of_cell? _ _ d0)
                clear hu3
                go_wp2_with fail
                refine (HBK.out _).mono ?_
                rintro e w4 ⟨rfl, rfl⟩
                go_wp2
                exact ⟨HFIN.out _ HU3.out, by simp [intOf]; omega⟩
              · have hfin := fun W (hW : Und wr W) => STEP.out (u ++ ((⟨#[60]⟩ : ByteArray) ++ (⟨tx.toArray⟩ : ByteArray) ++ (⟨#[47, 62]⟩ : ByteArray))) W (by unfold St.encI; simp) (by simp only [ByteArray.size_append, hxz]; show _ + (1 + _ + 2) ≤ _; omega) hnb.out (HRP.out.und hW) (Below.und (Below.refl _ _) hBr hW)
                have HFIN := hid (fun W hW => And.intro (hfin W hW) (hsz W hW))
                clear hfin hsz
                go_wp2_with fail
                refine (HNM.out _).mono ?_
                rintro e w3 ⟨rfl, hu3⟩
                have HU3 := hid (Und.trans ((by repeat (first | exact Und.refl _ | assumption | refine Und.under ?_ _ | refine Und.alloc ?_ _ | refine Und.drew ?_ | refine Und.drewN ?_ _))) hu3 : Und wr w3)
                have d0 : w3.cell? ⟨wr.heap.size, 0, none⟩ = some (.int .i64 4) := (hu3.cell (p := ⟨wr.heap.size, 0, none⟩) (by simp)).trans (by simp)
                have d1 : w3.cell? ⟨wr.heap.size, 1, none⟩ = some (.string ⟨tx.toArray⟩) := (hu3.cell (p := ⟨wr.heap.size, 1, none⟩) (by simp)).trans (by simp)
                haveI : LtW wr.heap.size w3 := LtW.of (World.block_lt_of_cell? _ _ d0)
                clear hu3
                go_wp2_with fail
                refine (HBK.out _).mono ?_
                rintro e w4 ⟨rfl, rfl⟩
                go_wp2
                exact ⟨HFIN.out _ HU3.out, by simp [intOf]; omega⟩
            · have hbt := HFD.out (show St.badTag 1 (kd, tx, id) = true by rw [hbd, hbb])
              have hr := hid (HBAD.out hbt)
              rw [hbb] at hbk
              have HNM := hid hnm
              have HBK := hid hbk
              have z2 : (kd == 1) = false := by simpa using k1
              clear hbt htg hkd k1 k5 hwd hnm hbk hbd hbl0 hbb htg2 STEP HFD
              go_wp2_with fail
              refine (HNM.out _).mono ?_
              rintro e w3 ⟨rfl, hu3⟩
              have HU3 := hid (Und.trans ((by repeat (first | exact Und.refl _ | assumption | refine Und.under ?_ _ | refine Und.alloc ?_ _ | refine Und.drew ?_ | refine Und.drewN ?_ _))) hu3 : Und wr w3)
              clear hu3
              go_wp2_with fail
              refine (HBK.out _).mono ?_
              rintro e w4 ⟨rfl, rfl⟩
              go_wp2
              go_ret2
              exact ⟨by rw [hr.out]; rfl, HU.out.trans HU3.out⟩
      · have hkn : k = n := by omega
        subst hkn
        have hft : f.take k = f := List.take_of_length_le (by omega)
        rw [hft] at HUL HAN
        have hr := hid (HOK.out HAN.out)
        have hu2 : u = ⟨(f.flatMap (St.encI 1)).toArray⟩ := by rw [← HUL.out, ba_eta]
        have HU2 := hid hu2
        clear hlt hft hu2 HAN
        go_wp2
        go_ret2
        exact ⟨by rw [hr.out, HU2.out]; rfl, HU.out⟩
end Go.Proofs.YthoemdibbldndaaGreatDoor
