/- The contract of resource's Split: what it gives is St.splitR. Condition: the text is no longer than a text can be. -/
import Derived.Test.YtpahkhmheikebaaGreatDoorResCut
import Derived.Test.YtpahkhmheikebaaGreatDoorResKey
import Derived.Test.YtpahkhmheikebaaGreatDoorResMap
namespace Go.Proofs.YtpahkhmheikebaaGreatDoor
open Go.RowKit

theorem newParts_any (d : ByteArray) (w : World) : Calls Tryz.prog 42 #[.string d] w fun e w' => e = .returned (.pointer (some ⟨w.heap.size, 0, none⟩)) ∧ w' = w.alloc (.cells #[.string d, .int .i64 0, .slice none 0 0] 120) := by
  go_enter Tryz.func42, Tryz.ntmps42
  go_wp2
  go_ret
  exact ⟨rfl, rfl⟩
/-- The parts of a file, the place of an error, the error. -/
def resT (d : ByteArray) : List St.Pt × Nat × Int := St.splitR dE d.data.toList
def SplitEnd (R : List St.Pt × Nat × Int) (w : World) (e : Ending) (w' : World) : Prop :=
  ∃ (A : Option Addr) (c : Nat), e = .returned (.tuple #[.slice A R.1.length c, .int .i64 (R.2.1 : Int), .int .i64 R.2.2]) ∧ PartsAt w' A R.1 ∧ R.1.length ≤ c ∧ c ≤ 9223372036854775807 ∧ Und w w'
theorem SplitEnd.err {R : List St.Pt × Nat × Int} {w w' : World} {a : Nat} {er : Int} (h : R = ([], a, er)) (u : Und w w') (m : Int) (hm : m = a) : SplitEnd R w (.returned (.tuple #[.slice none 0 0, .int .i64 m, .int .i64 er])) w' := by
  subst h hm
  exact ⟨none, 0, rfl, fun h => absurd h (by simp), by simp, by omega, u⟩
def keysP (ps : List St.Pt) : List (List UInt8) := ps.filterMap fun p => if p.1 then some p.2.1 else none
theorem hasK_keys (ps : List St.Pt) (k : List UInt8) : St.hasK ps k = decide (k ∈ keysP ps) := by
  rw [Bool.eq_iff_iff]
  unfold St.hasK keysP
  simp only [List.any_eq_true, Bool.and_eq_true, decide_eq_true_eq, List.mem_filterMap]
  constructor
  · rintro ⟨p, hp, h1, h2⟩; exact ⟨p, hp, by rw [if_pos h1, h2]⟩
  · rintro ⟨p, hp, h⟩
    split at h
    · rename_i h1; exact ⟨p, hp, h1, by simpa using h⟩
    · cases h
theorem keysP_unit (d : List UInt8) (s : St.PS) (a b : Nat) (k : List UInt8) : keysP (St.unitS d s a b k).1 = keysP s.1 ++ [k] := by
  unfold St.unitS keysP
  simp
def RsRel (w : World) (d : ByteArray) (s3 : Value) (wr : World) : Prop :=
  ∃ (a fuel : Nat) (s : St.PS), s3 = .int .i64 a ∧ a ≤ d.size ∧ d.size - a < fuel ∧ s.2 ≤ a ∧ s.1.length ≤ 2 * a ∧ PV wr w.heap.size w.heap.size d s ∧ MV wr w.heap.size (w.heap.size + 1) (keysP s.1) ∧ resT d = St.endR' d.data.toList (St.resS dE d.data.toList fuel a s) ∧ Und w wr
theorem und_alloc2 (w : World) (o p : Obj) : Und w ((w.alloc o).alloc p) := (by repeat (first | exact Und.refl _ | assumption | refine Und.under ?_ _ | refine Und.alloc ?_ _ | refine Und.drew ?_ | refine Und.drewN ?_ _))
theorem MV.kept {a c : World} {B mb : Nat} {l : List (List UInt8)} (h : MV a B mb l) (k : MKept a c) : MV c B mb l := ⟨h.1, k _ _ _ h.2⟩
theorem PV.map {a : World} {B pb mb : Nat} {d : ByteArray} {s : St.PS} {l l' : List (List UInt8)} (h : PV a B pb d s) (hm : MV a B mb l) : PV (setMap a mb l') B pb d s := by
  obtain ⟨h0, v, h1, h2⟩ := h
  have g := setMap_gb a mb l'
  have hne : ∀ {cs T fr}, a.heap[pb]? = some (Obj.cells cs T fr) → pb ≠ mb := fun hp e => by
    subst e
    rw [hm.2] at hp; cases hp
  refine ⟨h0, v, (g.block pb (lt_of_heap h1) (by simpa using hne h1)).trans h1, h2.kept g ?_⟩
  cases hv : v.ownBlock with
  | none => exact .inl rfl
  | some x =>
    refine .inr fun e => ?_
    obtain ⟨cs, T, fr, hx, _⟩ := own_type h2 [58] (by simp) x hv
    simp only [Option.some.injEq] at e
    subst e
    rw [hm.2] at hx; cases hx

set_option maxRecDepth 20000 in
set_option maxHeartbeats 1600000 in
theorem xsplit_any (d : ByteArray) (w : World) (hd63 : d.size ≤ 4611686018427387904) : Calls Tryz.prog 22 #[.string d] w (SplitEnd (resT d) w) := by
  have hlen := St.len_list d
  by_cases hbig : 65536 < d.size
  · have hR : resT d = ([], 0, 3) := by unfold resT St.splitR; rw [if_pos (by omega)]
    have HR := hid hR
    have hb : (65536 : Int) < d.size := by omega
    clear hR hlen
    go_enter Tryz.func22, Tryz.ntmps22
    go_wp2
    go_ret3
    exact SplitEnd.err HR.out (Und.refl _) _ rfl
  have hb : ¬ (65536 : Int) < d.size := by omega
  have hd : d.size ≤ 65536 := by omega
  have hmk : ∀ W, (Instr.makeMap 86 none).run Tryz.prog W = .ok (.map (some W.heap.size)) (W.alloc (.map #[] 0)) := fun _ => rfl
  have hP0 : PV ((w.alloc (.cells #[.string d, .int .i64 0, .slice none 0 0] 120)).alloc (.map #[] 0)) w.heap.size w.heap.size d ([], 0) :=
    PV.und ⟨Nat.le_refl _, .slice none 0 0, heap_alloc_new w _, World.ownsRow_nil _ _ _ _⟩ ((Und.refl _).alloc _)
  have hM0 : MV ((w.alloc (.cells #[.string d, .int .i64 0, .slice none 0 0] 120)).alloc (.map #[] 0)) w.heap.size (w.heap.size + 1) (keysP []) := by
    refine ⟨Nat.le_succ _, ?_⟩
    have := heap_alloc_new (w.alloc (.cells #[.string d, .int .i64 0, .slice none 0 0] 120)) (.map #[] 0)
    simpa [keysP, mapS] using this
  have hS0 : resT d = St.endR' d.data.toList (St.resS dE d.data.toList (d.size + 1) 0 ([], 0)) := by
    unfold resT; rw [St.splitR_ok (by omega), hlen]
  have HE0 := hid (And.intro hP0 (And.intro hM0 (And.intro hS0 (und_alloc2 w (.cells #[.string d, .int .i64 0, .slice none 0 0] 120) (.map #[] 0)))))
  have HLEN := hid hlen
  clear hP0 hM0 hS0 hlen
  go_enter Tryz.func22, Tryz.ntmps22
  go_wp2_with (go_at_call 42; refine (newParts_any d _).mono ?_; rintro e w' ⟨rfl, rfl⟩)
  go_loopw [3] (fun s3 wr => RsRel w d s3 wr) (fun s3 _ => d.size + 1 - (intOf s3).toNat)
  case atStart => exact ⟨0, d.size + 1, ([], 0), rfl, by omega, by omega, by simp, by simp, HE0.out.1, HE0.out.2.1, HE0.out.2.2.1, HE0.out.2.2.2⟩
  case round =>
    obtain ⟨a, fuel, s, rfl, ha, hfu, hs2, hs1, hP, hM, hS, hu⟩ := hrel
    have HP := hid hP
    have HM := hid hM
    have HS := hid hS
    have HU := hid hu
    have hsz := hu.size
    clear hP hM hS hu HE0
    by_cases hlt : a < d.size
    · obtain ⟨fuel, rfl⟩ : ∃ m, fuel = m + 1 := ⟨fuel - 1, by omega⟩
      have HAL := hid (show ¬ d.data.toList.length ≤ a by rw [HLEN.out]; omega)
      have z : (a : Int) < d.size := by omega
      have HSK := hid (skipped_any d a wr ha hd63)
      go_wp2_with fail
      refine HSK.out.mono ?_
      rintro e w2 ⟨rfl, hu2⟩
      have HU2 := hid (HU.out.trans hu2)
      have HP2 := hid (HP.out.und hu2)
      have HM2 := hid (HM.out.und hu2)
      have hsz2 := hu2.size
      clear hu2 HP HM HU HSK
      cases hk : St.skipB (d.data.toList.drop a) with
      | true =>
        have hst := St.resS_skip (dE := dE) (fuel := fuel) (s := s) HAL.out hk
        have hst2 := HS.out.trans (congrArg (St.endR' d.data.toList) hst)
        rw [HLEN.out] at hst2
        have HST := hid hst2
        generalize St.lineN (d.data.toList.drop a) = n at HST
        clear hst hst2 hk
        go_wp2
        exact ⟨⟨min (a + n + 1) d.size, fuel, s, congrArg (Value.int .i64) (by omega), by omega, by omega, by omega, by omega, HP2.out, HM2.out, HST.out, HU2.out⟩, by simp [intOf]; omega⟩
      | false =>
        obtain ⟨x, hE⟩ : ∃ x, d.extract a d.size = x := ⟨_, rfl⟩
        have hxl : x.data.toList = d.data.toList.drop a := by rw [← hE]; simp; exact List.take_of_length_le (by simp)
        have hxs : x.size = d.size - a := by rw [← hE]; simp
        have hky := fun W => key_any x W (by omega)
        have hkl := St.keyN_le (d.data.toList.drop a)
        rw [List.length_drop, HLEN.out] at hkl
        have hbad := fun h2 => St.resS_bad (dE := dE) (fuel := fuel) (s := s) HAL.out hk h2
        have hdup := fun h2 h3 => St.resS_dup (dE := dE) (fuel := fuel) (s := s) HAL.out hk h2 h3
        have herr := fun h2 h3 b t hb ht h4 => St.resS_err (dE := dE) (fuel := fuel) (s := s) HAL.out hk h2 h3 (b := b) (t := t) rfl hb ht h4
        have hunit := fun h2 h3 b t hb ht h4 => St.resS_unit (dE := dE) (fuel := fuel) (s := s) HAL.out hk h2 h3 (b := b) (t := t) rfl hb ht h4
        rw [hxl] at hky
        generalize hn : St.keyN (d.data.toList.drop a) = n at hky hkl hbad hdup herr hunit
        have HBAD := hid hbad
        have HDUP := hid hdup
        have HERR := hid herr
        have HUNIT := hid hunit
        have y1 : (a : Int) ≤ d.size := by omega
        clear hbad hdup herr hunit hn hxl hk
        by_cases n0 : n = 0
        · subst n0
          have HR := hid (HS.out.trans (congrArg (St.endR' d.data.toList) (HBAD.out (.inl rfl))))
          have HKY := hid hky
          clear hky
          go_wp2_with fail
          refine (HKY.out _).mono ?_
          rintro e w3 ⟨rfl, rfl⟩
          go_wp2
          go_ret3
          exact SplitEnd.err HR.out HU2.out _ rfl
        by_cases n65 : 64 < n
        · have hmn : min n 65 = 65 := by omega
          rw [hmn] at hky
          have HR := hid (HS.out.trans (congrArg (St.endR' d.data.toList) (HBAD.out (.inr (.inl n65)))))
          have HKY := hid hky
          clear hky
          go_wp2_with fail
          refine (HKY.out _).mono ?_
          rintro e w3 ⟨rfl, rfl⟩
          go_wp2
          go_ret3
          exact SplitEnd.err HR.out HU2.out _ rfl
        have hmn : min n 65 = n := by omega
        rw [hmn] at hky
        have HKY := hid hky
        have y2 : ¬ (n : Int) < 1 := by omega
        have y3 : ¬ (64 : Int) < n := by omega
        clear hky hmn
        by_cases han : d.size ≤ a + n
        · have y4 : (d.size : Int) ≤ (a : Int) + n := by omega
          have HR := hid (HS.out.trans (congrArg (St.endR' d.data.toList) (HBAD.out (.inr (.inr (by rw [List.drop_of_length_le (by rw [HLEN.out]; exact han)]; simp))))))
          go_wp2_with fail
          refine (HKY.out _).mono ?_
          rintro e w3 ⟨rfl, rfl⟩
          go_wp2
          go_ret3
          exact SplitEnd.err HR.out HU2.out _ rfl
        have y4 : ¬ (d.size : Int) ≤ (a : Int) + n := by omega
        have hal : a + n < d.size := by omega
        have y5 : ((a : Int) + n).toNat = a + n := by omega
        have hcons := St.drop_at d (a + n) hal
        by_cases c61 : d[a + n].toNat = 61
        · have e61 : ((d[a + n].toNat : Int) == 61) = true := by simp; omega
          have f61 : ((d[a + n].toNat : Int) != 61) = false := by simp; omega
          have hgood : ¬ (n = 0 ∨ 64 < n ∨ ((d.data.toList.drop (a + n)).head?.map UInt8.toNat) ≠ some 61) := by rw [hcons]; simp; omega
          obtain ⟨ky, hkyE⟩ : ∃ ky, d.extract a (a + n) = ky := ⟨_, rfl⟩
          have hkc : St.cutL d.data.toList a (a + n) = ky.data.toList := by rw [← hkyE, cut_list]
          have hget := fun W (h : MV W w.heap.size (w.heap.size + 1) (keysP s.1)) => run_sget W w.heap.size (w.heap.size + 1) (keysP s.1) ky.data.toList h
          rw [ba_eta] at hget
          have y6 : (a : Int) ≤ (a : Int) + n := by omega
          have y7 : (a : Int) + n ≤ d.size := by omega
          cases hin : decide (ky.data.toList ∈ keysP s.1) with
          | true =>
            rw [hin] at hget
            have HR := hid (HS.out.trans (congrArg (St.endR' d.data.toList) (HDUP.out hgood (by rw [hkc, hasK_keys]; exact hin))))
            have hg2 := hget _ HM2.out
            have HG := hid hget
            clear hget hcons c61 hgood hkc hin
            go_wp2_with fail
            refine (HKY.out _).mono ?_
            rintro e w3 ⟨rfl, rfl⟩
            go_wp2
            go_ret3
            exact SplitEnd.err HR.out HU2.out _ rfl
          | false =>
            rw [hin] at hget
            have hkn : ky.data.toList ∉ keysP s.1 := of_decide_eq_false hin
            have hput := run_sput w2 w.heap.size (w.heap.size + 1) (keysP s.1) ky.data.toList HM2.out hkn
            rw [ba_eta] at hput
            have hno : St.hasK s.1 (St.cutL d.data.toList a (a + n)) = false := by rw [hkc, hasK_keys]; exact hin
            have hg2 := hget _ HM2.out
            have hgb := setMap_gb w2 (w.heap.size + 1) (keysP s.1 ++ [ky.data.toList])
            have HP3 := hid (HP2.out.map (l' := keysP s.1 ++ [ky.data.toList]) HM2.out)
            have HM3 := hid (HM2.out.put (l' := keysP s.1 ++ [ky.data.toList]))
            have HU3 := hid (HU2.out.of_gb hgb (fun g e => by cases e; exact Nat.le_succ _))
            obtain ⟨w3, hw3⟩ : ∃ w3, setMap w2 (w.heap.size + 1) (keysP s.1 ++ [ky.data.toList]) = w3 := ⟨_, rfl⟩
            rw [hw3] at hput HP3 HM3 HU3
            obtain ⟨b, hb'⟩ : ∃ b, a + n + 1 = b := ⟨_, rfl⟩
            have hen := fun W => end_any d b W hd63 (by omega)
            obtain ⟨t, ht⟩ : ∃ t, b + St.endN (d.data.toList.drop b) = t := ⟨_, rfl⟩
            have htl : t ≤ d.size := by have := St.endN_le (d.data.toList.drop b); simp at this; omega
            have hbt : b ≤ t := by omega
            rw [ht] at hen
            have h4e := HERR.out hgood hno b t hb' ht
            have h4u := HUNIT.out hgood hno b t hb' ht
            rw [hkc] at h4u
            obtain ⟨x2, hx2⟩ : ∃ x2, d.extract b t = x2 := ⟨_, rfl⟩
            have hc2 : St.cutL d.data.toList b t = x2.data.toList := by rw [← hx2, cut_list]
            rw [hc2, dE_of] at h4e h4u
            have hx2s : x2.size ≤ d.size := by rw [← hx2]; simp; omega
            have hdc := fun W => xdecode_any x2 W (by omega)
            have hwhere := resD_at x2
            have hun := fun W (hp : PV W w.heap.size w.heap.size d s) (hw : w.heap.size ≤ W.heap.size) => unit_all W w.heap.size w.heap.size d ky s b t hp (by omega) hbt htl hd63 (by omega) hw
            have hbz : ((b : Nat) : Int) = (a : Int) + n + 1 := by omega
            have HEN := hid hen
            have HH := hid (And.intro h4e h4u)
            have HUN := hid hun
            have b1 : (b : Int) ≤ (t : Int) := by omega
            have b2 : (t : Int) ≤ d.size := by omega
            generalize resD x2 = R at hdc HH hwhere
            obtain ⟨rf, rc, rw', re⟩ := R
            simp only at HH hwhere
            have HDC := hid hdc
            have HKE := hid (keysP_unit d.data.toList s b t ky.data.toList)
            clear hget hcons c61 hgood hkc hin hno hen ht hc2 h4e h4u hdc hun hgb hw3 hkn
            rw [hbz] at HEN HUN
            go_wp2_with fail
            refine (HKY.out _).mono ?_
            rintro e w4 ⟨rfl, rfl⟩
            go_wp2_with fail
            refine (HEN.out _).mono ?_
            rintro e w5 ⟨rfl, rfl⟩
            go_wp2_with fail
            refine (HDC.out _).mono ?_
            rintro e w6 ⟨A6, c6, rfl, _, _, _, hu6⟩
            have HU6 := hid (HU3.out.trans hu6)
            have HP6 := hid (HP3.out.und hu6)
            have HM6 := hid (HM3.out.und hu6)
            have hsz6 := HU6.out.size
            clear hu6 HU3 HP3 HM3 HDC hput hg2
            by_cases hre : re = 0
            · subst hre
              go_wp2_with fail
              refine (HUN.out _ HP6.out hsz6).mono ?_
              rintro e w7 ⟨rfl, hp7, hbl7, _, hmk7⟩
              have HP7 := hid hp7
              have HM7 := hid (HM6.out.kept hmk7)
              have HU7 := hid (Und.of_below (Below.trans HU6.out.below hbl7))
              have hst2 := HS.out.trans (congrArg (St.endR' d.data.toList) (HH.out.2 (by first | trivial | rfl)))
              rw [HLEN.out] at hst2
              have HST := hid hst2
              clear hp7 hbl7 hmk7 hst2 HUN HP6 HM6 HU6
              go_wp2
              exact ⟨⟨min (t + 1) d.size, fuel, _, congrArg (Value.int .i64) (by omega), by omega, by omega, by simp [St.unitS]; omega, by simp [St.unitS]; omega, HP7.out, by rw [HKE.out]; exact HM7.out, HST.out, HU7.out⟩, by simp [intOf]; omega⟩
            · have hrb : (re == 0) = false := by simpa using hre
              have HR := hid (HS.out.trans (congrArg (St.endR' d.data.toList) (HH.out.1 hre)))
              go_wp2
              go_ret3
              exact SplitEnd.err HR.out HU6.out _ (by omega)
        · have e61 : ((d[a + n].toNat : Int) == 61) = false := by simp; omega
          have f61 : ((d[a + n].toNat : Int) != 61) = true := by simp; omega
          have HR := hid (HS.out.trans (congrArg (St.endR' d.data.toList) (HBAD.out (.inr (.inr (by rw [hcons]; simp; omega))))))
          clear hcons c61
          go_wp2_with fail
          refine (HKY.out _).mono ?_
          rintro e w3 ⟨rfl, rfl⟩
          go_wp2
          go_ret3
          exact SplitEnd.err HR.out HU2.out _ rfl
    · have hae : a = d.size := by omega
      have HL := hid (list_any wr w.heap.size w.heap.size d s HP.out (by omega) (by omega) (by omega) hsz)
      have HR := hid (HS.out.trans (show St.endR' d.data.toList (St.resS dE d.data.toList fuel a s) = (St.endS d.data.toList s, 0, 0) by rw [St.resS_end (by rw [HLEN.out]; omega)]; rfl))
      have z : ¬ (a : Int) < d.size := by omega
      go_wp2_with fail
      refine HL.out.mono ?_
      rintro e w3 ⟨A, c, rfl, hpa, hq1, hq2, hbl⟩
      have HE := hid (And.intro hpa (Und.of_below (Below.trans HU.out.below hbl)))
      have hq1' := hid hq1
      clear hpa hbl hq1 HL
      go_wp2
      go_ret3
      unfold SplitEnd
      rw [HR.out]
      exact ⟨A, c, by simp [St.endS], HE.out.1, by simpa [St.endS] using hq1'.out, hq2, HE.out.2⟩
end Go.Proofs.YtpahkhmheikebaaGreatDoor
