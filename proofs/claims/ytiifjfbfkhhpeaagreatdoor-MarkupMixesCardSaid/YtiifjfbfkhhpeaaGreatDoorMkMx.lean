/- The walk of MarkupMixes. Conditions: the lists lie in memory, the library's tables lie at their places. -/
import Derived.Test.YtiifjfbfkhhpeaaGreatDoorMkEb
import Derived.Test.YtiifjfbfkhhpeaaGreatDoorRdsB
import Derived.Test.YtiifjfbfkhhpeaaGreatDoorRefSlice
import Derived.Test.YtiifjfbfkhhpeaaGreatDoorRefItem
import Derived.BigQuiet
set_option linter.unusedVariables false
set_option linter.unusedSimpArgs false
namespace Go.Proofs.YtiifjfbfkhhpeaaGreatDoor
open Go.RowKit

/-- What stands in the pieces of the positions up to one. -/
def MixT (f : List St.It) (a : Nat) (u : ByteArray) : Prop := ∃ qs : List (List UInt8 × St.It), u.data.toList = St.flatP qs ∧ St.itsP qs = (St.posI f).take a ∧ ∀ q ∈ qs, St.Form1 q.2 q.1
theorem mixt_zero (f : List St.It) {u : ByteArray} (h : u.data.toList = []) : MixT f 0 u := ⟨[], by rw [h]; rfl, by simp [St.itsP], fun q hq => by cases hq⟩
theorem mixt_add {f : List St.It} {a b : Nat} {u t : ByteArray} (h : MixT f a u) (hab : a ≤ b) (rs : List (List UInt8 × St.It)) (h1 : t.data.toList = St.flatP rs) (h2 : St.itsP rs = ((St.posI f).take b).drop a) (h3 : ∀ q ∈ rs, St.Form1 q.2 q.1) : MixT f b (u ++ t) := by
  obtain ⟨qs, g1, g2, g3⟩ := h
  refine ⟨qs ++ rs, ?_, ?_, ?_⟩
  · rw [St.flatP_append, ← g1, ← h1]; simp
  · have e : St.itsP (qs ++ rs) = St.itsP qs ++ St.itsP rs := by simp [St.itsP]
    rw [e, g2, h2]
    conv => rhs; rw [← List.take_append_drop a ((St.posI f).take b)]
    rw [List.take_take, Nat.min_eq_left hab]
  · intro q hq
    rcases List.mem_append.1 hq with hq | hq
    · exact g3 q hq
    · exact h3 q hq
theorem mixt_enc {f : List St.It} {a b : Nat} {u t : ByteArray} (h : MixT f a u) (hab : a ≤ b) (ht : t.data.toList = (((St.posI f).take b).drop a).flatMap (St.encI 1)) : MixT f b (u ++ t) := by
  refine mixt_add h hab ((((St.posI f).take b).drop a).map (fun p => (St.encI 1 p, p))) ?_ ?_ ?_
  · rw [ht]; unfold St.flatP; rw [List.flatMap_map]
  · unfold St.itsP
    rw [List.map_map]
    show List.map (fun p => p) _ = _
    simp
  · intro q hq
    obtain ⟨p, _, rfl⟩ := List.mem_map.1 hq
    exact .inl rfl
theorem mixt_raw {f : List St.It} {a b : Nat} {u t : ByteArray} {ps : List (List UInt8 × St.It)} (h : MixT f a u) (hab : a ≤ b) (h2 : St.itsP ps = St.posI f) (h3 : ∀ q ∈ ps, St.Form1 q.2 q.1) (ht : t.data.toList = St.flatP ((ps.take b).drop a)) : MixT f b (u ++ t) := by
  refine mixt_add h hab _ ht ?_ fun q hq => h3 q (List.mem_of_mem_take (List.mem_of_mem_drop hq))
  rw [← h2]; unfold St.itsP; rw [List.map_drop, List.map_take]
theorem mixt_size {f : List St.It} {a : Nat} {u : ByteArray} (hg : ∀ p ∈ St.posI f, PosG p) (h : MixT f a u) : u.size ≤ 40 * a := by
  obtain ⟨qs, g1, g2, g3⟩ := h
  have hlen : qs.length ≤ a := by
    have := congrArg List.length g2
    rw [List.length_take] at this
    have e : (St.itsP qs).length = qs.length := by simp [St.itsP]
    omega
  have hpos : ∀ q ∈ qs, q.1.length ≤ 40 := by
    intro q hq
    have hm : q.2 ∈ (St.posI f).take a := by rw [← g2]; unfold St.itsP; exact List.mem_map.2 ⟨q, hq, rfl⟩
    exact form1_len (hg q.2 (List.mem_of_mem_take hm)) (g3 q hq)
  have hfl : ∀ l : List (List UInt8 × St.It), (∀ q ∈ l, q.1.length ≤ 40) → (St.flatP l).length ≤ 40 * l.length := by
    intro l
    induction l with
    | nil => intro _; simp [St.flatP]
    | cons p l ih =>
      intro hl
      have h1 := ih fun q hq => hl q (by simp [hq])
      have h2 := hl p (by simp)
      have e : St.flatP (p :: l) = p.1 ++ St.flatP l := by simp [St.flatP]
      rw [e, List.length_append, List.length_cons]; omega
  have := hfl qs hpos
  have e : u.size = (St.flatP qs).length := by rw [← g1, St.len_list]
  omega
theorem mixt_all {f : List St.It} {a : Nat} {u : ByteArray} (h : MixT f a u) (ha : (St.posI f).length ≤ a) : RawsT f u := by
  obtain ⟨qs, g1, g2, g3⟩ := h
  exact ⟨qs, g1, by rw [g2, List.take_of_length_le ha], g3⟩
theorem mk_cuts {f : List St.It} {raw : ByteArray} (hg : St.GoodT f) (hl : f.length ≤ 100) (ht : tot f ≤ 900) (hr : RawsT f raw) :
    ∃ ps : List (List UInt8 × St.It), raw.data.toList = St.flatP ps ∧ St.itsP ps = St.posI f ∧ (∀ p ∈ ps, St.Form1 p.2 p.1) ∧ ps.length = St.lenL f ∧ Mk.mkD raw = (f, (List.range (St.lenL f + 1)).map (St.cz ps), 0, 0) := by
  obtain ⟨ps, h1, h2, h3⟩ := hr
  have hll := lenL_tot f
  have hlen : ps.length = St.lenL f := by rw [← its_len, h2, St.pos_len]
  refine ⟨ps, h1, h2, h3, hlen, ?_⟩
  rw [Mk.mkD_F, h1, St.read_whole hg (by omega) (by omega) h2 h3]
  have := St.offs_cz ps 0
  rw [Nat.zero_add, hlen] at this
  rw [this]
  congr 2
  refine List.map_congr_left fun i _ => ?_
  omega
theorem nats_cz {w : World} {A : Option Addr} {ps : List (List UInt8 × St.It)} {N : Nat} (h : NatsAt w A ((List.range (N + 1)).map (St.cz ps))) : ∃ b off, A = some ⟨b, off, none⟩ ∧ b < w.heap.size ∧ ∀ j, j ≤ N → w.cell? ⟨b, off + j, none⟩ = some (.int .i64 (St.cz ps j : Int)) := by
  obtain ⟨b, off, rfl, hb, hc⟩ := h (by simp)
  refine ⟨b, off, rfl, hb, fun j hj => ?_⟩
  have := hc j (by simp; omega)
  simpa using this
def MxRel (w : World) (f : List St.It) (m N : Nat) (s14 s15 s16 : Value) (wr : World) : Prop :=
  ∃ (i a : Nat) (u : ByteArray), s16 = .int .i64 i ∧ s15 = .int .i64 a ∧ s14 = .string u ∧ i ≤ m + 1 ∧ a ≤ N ∧ (i = m + 1 → a = N) ∧ MixT f a u ∧ Und w wr
set_option maxRecDepth 20000 in
set_option maxHeartbeats 12800000 in
theorem mxlaw_any (A B C : Option Addr) (n c m d q k0 : Nat) (zs ys xs : List Int) (which : Int) (w : World) (hL : Mk.LibAt w) (hz : zs.length = n) (hn : n ≤ 9223372036854775807) (hI : IntsAt w A zs) (hy : ys.length = m) (hm : m ≤ 9223372036854775807) (hJ : IntsAt w B ys) (hx : xs.length = q) (hq : q ≤ 9223372036854775807) (hK : IntsAt w C xs) :
    Calls Tryz.prog 7 #[.slice A n c, .slice B m d, .slice C q k0, .int .i64 which] w fun e w' => e = .returned (.bool true) ∧ Und w w' := by
  have HRW := hid (raws_any A B n c m d zs ys w hz hn hI hy hm hJ)
  have HKN := hid (fun W (hW : Und w W) => Mk.known_any W (hL.und hW))
  have HX := hid hx
  have HK := hid hK
  clear hI hJ hK hx hL
  by_cases q1 : 100 < n
  · have z1 : (100 : Int) < (n : Int) := by omega
    go_enter Tryz.func7, Tryz.ntmps7
    go_wp2_with fail
    refine (HKN.out _ (Und.refl _)).mono ?_
    rintro e w2 ⟨rfl, hu⟩
    have HU := hid hu
    clear hu
    go_wp2
    go_ret
    exact ⟨rfl, HU.out⟩
  have z1 : ¬ (100 : Int) < (n : Int) := by omega
  by_cases q2 : 200 < m
  · have z2 : (200 : Int) < (m : Int) := by omega
    go_enter Tryz.func7, Tryz.ntmps7
    go_wp2_with fail
    refine (HKN.out _ (Und.refl _)).mono ?_
    rintro e w2 ⟨rfl, hu⟩
    have HU := hid hu
    clear hu
    go_wp2
    go_ret
    exact ⟨rfl, HU.out⟩
  have z2 : ¬ (200 : Int) < (m : Int) := by omega
  by_cases q3 : 12 < q
  · have z3 : (12 : Int) < (q : Int) := by omega
    go_enter Tryz.func7, Tryz.ntmps7
    go_wp2_with fail
    refine (HKN.out _ (Und.refl _)).mono ?_
    rintro e w2 ⟨rfl, hu⟩
    have HU := hid hu
    clear hu
    go_wp2
    go_ret
    exact ⟨rfl, HU.out⟩
  have z3 : ¬ (12 : Int) < (q : Int) := by omega
  go_enter Tryz.func7, Tryz.ntmps7
  go_wp2_with fail
  refine HRW.out.mono ?_
  rintro e w2 ⟨raw, A2, c2, f, rfl, hF, hR, hrs, hu⟩
  have hfl := hF.2.2.1
  have hft := hF.2.2.2.1
  obtain ⟨ps, hp1, hp2, hp3, hp4, hD⟩ := mk_cuts hF.2.1.1 (by omega) (by omega) hR
  have hcu := fun W => Mk.mcuts_any raw W (by omega)
  rw [hD] at hcu
  have hll := lenL_tot f
  have hlf := fun (W : World) (hW : Und w2 W) => rlength_any A2 f.length c2 f W rfl (hF.1.und hW) (by omega) (by omega)
  have hcz0 := St.cz_zero ps
  have hczN : St.cz ps (St.lenL f) = raw.size := by rw [← hp4, St.cz_all, ← hp1, St.len_list]
  have hmono := fun (a b : Nat) (h : a ≤ b) => St.cz_mono ps h
  have hcut := fun (a b : Nat) (h : a ≤ b) => St.flat_cut ps h
  rw [← hp1] at hcut
  have hsl := fun (a b : Nat) (W : World) (hW : Und w2 W) (hab : a ≤ b) (hbl : b ≤ St.lenL f) => rslice_any A2 f.length c2 f a b W rfl (hF.1.und hW) (by omega) (by omega) hab hbl
  have hes := fun (a b : Nat) => St.enc_sliceT a b hF.2.1.1 (by omega) (by omega)
  have hdl := St.len_list raw
  have hsll := fun (a b : Nat) => St.slice_lth a b f 0
  have hdd : ∀ (u : ByteArray) (W : World), u.size ≤ 100000 → MixT f (St.lenL f) u → ∃ cuts, Calls Tryz.prog 15 #[.string u] W (Mk.DecEnd (f, cuts, 0, 0) W) := by
    intro u W hu h
    obtain ⟨cuts, hDu, _⟩ := mk_reads hF.2.1.1 (by omega) (by omega) (mixt_all h (by rw [St.pos_len]; exact Nat.le_refl _))
    have h2 := Mk.mdecode_any u W (by omega)
    rw [hDu] at h2
    exact ⟨cuts, h2⟩
  have hNle : St.lenL f ≤ 200 := by omega
  have hpg := posG_of hF.2.1.1.items hF.2.1.2
  have hczx := fun (j : Nat) (h : j ≤ St.lenL f) => St.cz_le ps (a := j) (by omega)
  rw [← hp1, hdl] at hczx
  have hpos := St.pos_len f
  generalize hN : St.lenL f = N at *
  have HPG := hid hpg
  have HF := hid hF
  have HU := hid hu
  have HCU := hid hcu
  have HLF := hid hlf
  have HMO := hid hmono
  have HCT := hid hcut
  have HSL := hid hsl
  have HES := hid hes
  have HDD := hid hdd
  have HCX := hid hczx
  have HP2 := hid hp2
  have HP3 := hid hp3
  have HSLL := hid hsll
  clear hF hpg hu hcu hlf hmono hcut hsl hes hdd hczx hp2 hp3 hR HRW hD hp1 hdl hll hN hpos hsll
  go_wp2_with fail
  refine (HCU.out _).mono ?_
  rintro e w3 ⟨A3, c3, rfl, hI3, h31, h32, hu3⟩
  obtain ⟨b3, off3, rfl, hb3, hc3⟩ := nats_cz hI3
  have hd0 := hc3 0 (by omega)
  have hdN := hc3 N (Nat.le_refl _)
  rw [hcz0] at hd0
  rw [hczN] at hdN
  simp only [Nat.add_zero] at hd0
  have hlen3 : ((List.range (N + 1)).map (St.cz ps)).length = N + 1 := by simp
  haveI : LtW b3 w3 := LtW.of hb3
  have HC3 := hid hc3
  have HU3 := hid (HU.out.trans hu3)
  have HUF := hid hu3
  simp only [hlen3] at h31 ⊢
  clear hI3 hu3 HCU hc3 hlen3
  go_wp2_with fail
  refine (HLF.out _ HUF.out).mono ?_
  rintro e w4 ⟨rfl, rfl⟩
  have zN : ((N + 1 : Nat) : Int) = (N : Int) + 1 := by omega
  have zN2 : (((N + 1 : Nat) : Int) != (N : Int) + 1) = false := by simp
  have zN3 : (N : Int) < ((N + 1 : Nat) : Int) := by omega
  have zN4 : (0 : Int) < ((N + 1 : Nat) : Int) := by omega
  have zr : ¬ (raw.size : Int) < (raw.size : Int) := by omega
  have zr0 : (0 : Int) ≤ (raw.size : Int) := by omega
  go_wp2_with fail
  go_loopw [14, 15, 16] (fun s14 s15 s16 wr => MxRel w3 f q N s14 s15 s16 wr) (fun _ _ s16 _ => q + 2 - (intOf s16).toNat)
  case atStart => exact ⟨0, 0, _, rfl, rfl, rfl, by omega, by omega, by omega, mixt_zero f (by simp [Lib.extract_data]), Und.refl _⟩
  case round =>
    obtain ⟨i, a, u, rfl, rfl, rfl, hi, ha, hia, hmx, hu⟩ := hrel
    have hus := mixt_size HPG.out hmx
    have HMX := hid hmx
    have HUW := hid hu
    have hb3r : b3 < wr.heap.size := Nat.lt_of_lt_of_le hb3 hu.size
    haveI : LtW b3 wr := LtW.of hb3r
    have hXl := HX.out
    clear hmx hu
    by_cases hlt : i ≤ q
    · have y1 : (i : Int) ≤ (q : Int) := by omega
      by_cases hiq : i < q
      · have y2 : (i : Int) < (q : Int) := by omega
        obtain ⟨bx, offx, rfl, hbx, hcx⟩ := (HK.out.und (HU3.out.trans HUW.out)) (by omega)
        have cx := hcx i (by omega)
        haveI : LtW bx wr := LtW.of hbx
        generalize xs.getD i 0 = z at cx
        have hpl := fun W => place_any z ((N : Int) - (a : Int) + 1) W (by omega) (by omega)
        have hp0 := Int.emod_nonneg z (show (N : Int) - (a : Int) + 1 ≠ 0 by omega)
        have hp1 := Int.emod_lt_of_pos z (show (0 : Int) < (N : Int) - (a : Int) + 1 by omega)
        obtain ⟨p, hp⟩ : ∃ p : Nat, z % ((N : Int) - (a : Int) + 1) = (p : Int) := ⟨(z % ((N : Int) - (a : Int) + 1)).toNat, by omega⟩
        rw [hp] at hpl hp0 hp1
        have HPL := hid hpl
        clear hpl hp hcx
        obtain ⟨b, hb⟩ : ∃ b : Nat, b = a + p := ⟨_, rfl⟩
        have hbN : b ≤ N := by omega
        have hab : a ≤ b := by omega
        have hib : i + 1 = q + 1 → b = N := by omega
        have hap : (a : Int) + (p : Int) = (b : Int) := by omega
        have ca := (HUW.out.cell (p := ⟨b3, off3 + a, none⟩) hb3).trans (HC3.out a ha)
        have cb := (HUW.out.cell (p := ⟨b3, off3 + b, none⟩) hb3).trans (HC3.out b hbN)
        clear hb
        go_wp2_with fail
        refine (HPL.out _).mono ?_
        rintro e w5 ⟨rfl, rfl⟩
        have hm1 := HMO.out a b hab
        have hx1 := HCX.out b hbN
        have hct := HCT.out a b hab
        have zb : (b : Int) < ((N + 1 : Nat) : Int) := by omega
        have za : (a : Int) < ((N + 1 : Nat) : Int) := by omega
        generalize St.cz ps a = ka at ca hm1 hct
        generalize St.cz ps b = kb at cb hm1 hx1 hct
        have m1 : ¬ (kb : Int) < (ka : Int) := by omega
        have m1d : decide ((kb : Int) < (ka : Int)) = false := decide_eq_false m1
        have m1e : decide (kb < ka) = false := decide_eq_false (by omega)
        have m2 : ¬ (raw.size : Int) < (kb : Int) := by omega
        have m2d : decide ((raw.size : Int) < (kb : Int)) = false := decide_eq_false m2
        have m2e : decide (raw.size < kb) = false := decide_eq_false (by omega)
        have m3 : (ka : Int) ≤ (kb : Int) := by omega
        have m4 : (kb : Int) ≤ (raw.size : Int) := by omega
        have m5 : (0 : Int) ≤ (ka : Int) := by omega
        have HCTT := hid hct
        clear hct
        go_wp2_with fail
        first | refine wp_region_under2 (by kernel_rfl) (by kernel_rfl) ?_ | refine wp_region_under (by kernel_rfl) (by kernel_rfl) ?_
        repeat (go_big_quiet_step (first | (fail)))
        refine wpQuiet_nil ?_
        rintro _ ⟨X, rfl⟩
        go_wp2_with fail
        refine (HSL.out a b _ (HUF.out.trans (HUW.out.trans (by repeat (first | exact Und.refl _ | assumption | refine Und.under ?_ _ | refine Und.alloc ?_ _ | refine Und.drew ?_ | refine Und.drewN ?_ _)))) hab hbN).mono ?_
        rintro e w6 ⟨v, rfl, ho, hu6⟩
        have hu6' : Und wr w6 := Und.trans ((by repeat (first | exact Und.refl _ | assumption | refine Und.under ?_ _ | refine Und.alloc ?_ _ | refine Und.drew ?_ | refine Und.drewN ?_ _))) hu6
        obtain ⟨A6, c6, rfl, h61, h62, h63⟩ := own_slice' ho
        have hen := fun (W : World) (hW : Und w6 W) => mencode_any A6 (St.sliceL a b 0 f).length c6 (St.sliceL a b 0 f) W rfl h61 (by unfold maxLen at h62; omega) ((items_own ho rfl).und hW) (by have := HSLL.out a b; omega) (by have := slice_tot a b f; omega)
        rw [HES.out a b] at hen
        have HEN := hid hen
        have HU6 := hid (HUW.out.trans hu6')
        have ca6 := (hu6'.cell (p := ⟨b3, off3 + a, none⟩) hb3r).trans ca
        have cb6 := (hu6'.cell (p := ⟨b3, off3 + b, none⟩) hb3r).trans cb
        have hb36 := Nat.lt_of_lt_of_le hb3r hu6'.size
        haveI : LtW b3 w6 := LtW.of hb36
        generalize (St.sliceL a b 0 f).length = sl at *
        have hmx2 : MixT f b (u ++ (⟨((((St.posI f).take b).drop a).flatMap (St.encI 1)).toArray⟩ : ByteArray)) := mixt_enc HMX.out hab (by simp)
        generalize (⟨((((St.posI f).take b).drop a).flatMap (St.encI 1)).toArray⟩ : ByteArray) = tx at HEN hmx2
        have hs2 := mixt_size HPG.out hmx2
        rw [ByteArray.size_append] at hs2
        have hmx3 : MixT f b (u ++ raw.extract ka kb) := mixt_raw HMX.out hab HP2.out HP3.out (by rw [Lib.extract_data, ← List.drop_take]; exact HCTT.out)
        have yx : ¬ 9223372036854775807 < u.size + tx.size := by omega
        have yy : ¬ 9223372036854775807 < u.size + (kb - ka) := by omega
        have yz : ¬ 9223372036854775807 < u.size + (min kb raw.size - ka) := by omega
        have HM2 := hid hmx2
        have HM3 := hid hmx3
        clear hen ho hu6 hu6' ca cb hmx2 hmx3 HCTT
        go_wp2_with fail
        · refine (HEN.out _ (Und.refl _)).mono ?_
          rintro e w7 ⟨rfl, hu7⟩
          have HU7 := hid (HU6.out.trans hu7)
          clear hu7 HEN
          go_wp2
          exact ⟨⟨i + 1, b, _, congrArg (Value.int .i64) (by omega), rfl, rfl, by omega, hbN, hib, HM2.out, HU7.out⟩, by simp [intOf]; omega⟩
        · first | refine wp_region_under2 (by kernel_rfl) (by kernel_rfl) ?_ | refine wp_region_under (by kernel_rfl) (by kernel_rfl) ?_
          repeat (go_big_quiet_step (first | (fail)))
          refine wpQuiet_nil ?_
          rintro _ ⟨X, rfl⟩
          go_wp2
          exact ⟨⟨i + 1, b, _, congrArg (Value.int .i64) (by omega), rfl, rfl, by omega, hbN, hib, HM3.out, HU6.out.trans (by repeat (first | exact Und.refl _ | assumption | refine Und.under ?_ _ | refine Und.alloc ?_ _ | refine Und.drew ?_ | refine Und.drewN ?_ _))⟩, by simp [intOf]; omega⟩
      · have y2 : ¬ (i : Int) < (q : Int) := by omega
        have hib2 : i + 1 = q + 1 → N = N := fun _ => rfl
        obtain ⟨b, hb⟩ : ∃ b : Nat, b = N := ⟨_, rfl⟩
        have hbN : N ≤ N := Nat.le_refl _
        have ca := (HUW.out.cell (p := ⟨b3, off3 + a, none⟩) hb3).trans (HC3.out a ha)
        have cb := (HUW.out.cell (p := ⟨b3, off3 + N, none⟩) hb3).trans (HC3.out N hbN)
        clear hiq hb b
        go_wp2_with fail
        have hab : a ≤ N := ha
        have hm1 := HMO.out a N hab
        have hx1 := HCX.out N hbN
        have hct := HCT.out a N hab
        have zb : (N : Int) < ((N + 1 : Nat) : Int) := by omega
        have za : (a : Int) < ((N + 1 : Nat) : Int) := by omega
        generalize St.cz ps a = ka at ca hm1 hct
        rw [hczN] at cb hm1 hx1 hct
        have m1 : ¬ (raw.size : Int) < (ka : Int) := by omega
        have m1d : decide ((raw.size : Int) < (ka : Int)) = false := decide_eq_false m1
        have m1e : decide (raw.size < ka) = false := decide_eq_false (by omega)
        have m2 : ¬ (raw.size : Int) < (raw.size : Int) := by omega
        have m2d : decide ((raw.size : Int) < (raw.size : Int)) = false := decide_eq_false m2
        have m2e : decide (raw.size < raw.size) = false := decide_eq_false (by omega)
        have m3 : (ka : Int) ≤ (raw.size : Int) := by omega
        have m4 : (raw.size : Int) ≤ (raw.size : Int) := by omega
        have m5 : (0 : Int) ≤ (ka : Int) := by omega
        have HCTT := hid hct
        clear hct
        go_wp2_with fail
        first | refine wp_region_under2 (by kernel_rfl) (by kernel_rfl) ?_ | refine wp_region_under (by kernel_rfl) (by kernel_rfl) ?_
        repeat (go_big_quiet_step (first | (fail)))
        refine wpQuiet_nil ?_
        rintro _ ⟨X, rfl⟩
        go_wp2_with fail
        refine (HSL.out a N _ (HUF.out.trans (HUW.out.trans (by repeat (first | exact Und.refl _ | assumption | refine Und.under ?_ _ | refine Und.alloc ?_ _ | refine Und.drew ?_ | refine Und.drewN ?_ _)))) hab hbN).mono ?_
        rintro e w6 ⟨v, rfl, ho, hu6⟩
        have hu6' : Und wr w6 := Und.trans ((by repeat (first | exact Und.refl _ | assumption | refine Und.under ?_ _ | refine Und.alloc ?_ _ | refine Und.drew ?_ | refine Und.drewN ?_ _))) hu6
        obtain ⟨A6, c6, rfl, h61, h62, h63⟩ := own_slice' ho
        have hen := fun (W : World) (hW : Und w6 W) => mencode_any A6 (St.sliceL a N 0 f).length c6 (St.sliceL a N 0 f) W rfl h61 (by unfold maxLen at h62; omega) ((items_own ho rfl).und hW) (by have := HSLL.out a N; omega) (by have := slice_tot a N f; omega)
        rw [HES.out a N] at hen
        have HEN := hid hen
        have HU6 := hid (HUW.out.trans hu6')
        have ca6 := (hu6'.cell (p := ⟨b3, off3 + a, none⟩) hb3r).trans ca
        have cb6 := (hu6'.cell (p := ⟨b3, off3 + N, none⟩) hb3r).trans cb
        have hb36 := Nat.lt_of_lt_of_le hb3r hu6'.size
        haveI : LtW b3 w6 := LtW.of hb36
        generalize (St.sliceL a N 0 f).length = sl at *
        have hmx2 : MixT f N (u ++ (⟨((((St.posI f).take N).drop a).flatMap (St.encI 1)).toArray⟩ : ByteArray)) := mixt_enc HMX.out hab (by simp)
        generalize (⟨((((St.posI f).take N).drop a).flatMap (St.encI 1)).toArray⟩ : ByteArray) = tx at HEN hmx2
        have hs2 := mixt_size HPG.out hmx2
        rw [ByteArray.size_append] at hs2
        have hmx3 : MixT f N (u ++ raw.extract ka raw.size) := mixt_raw HMX.out hab HP2.out HP3.out (by rw [Lib.extract_data, ← List.drop_take]; exact HCTT.out)
        have yx : ¬ 9223372036854775807 < u.size + tx.size := by omega
        have yy : ¬ 9223372036854775807 < u.size + (raw.size - ka) := by omega
        have yz : ¬ 9223372036854775807 < u.size + (min raw.size raw.size - ka) := by omega
        have HM2 := hid hmx2
        have HM3 := hid hmx3
        clear hen ho hu6 hu6' ca cb hmx2 hmx3 HCTT
        go_wp2_with fail
        · refine (HEN.out _ (Und.refl _)).mono ?_
          rintro e w7 ⟨rfl, hu7⟩
          have HU7 := hid (HU6.out.trans hu7)
          clear hu7 HEN
          go_wp2
          exact ⟨⟨i + 1, N, _, congrArg (Value.int .i64) (by omega), rfl, rfl, by omega, hbN, fun _ => rfl, HM2.out, HU7.out⟩, by simp [intOf]; omega⟩
        · first | refine wp_region_under2 (by kernel_rfl) (by kernel_rfl) ?_ | refine wp_region_under (by kernel_rfl) (by kernel_rfl) ?_
          repeat (go_big_quiet_step (first | (fail)))
          refine wpQuiet_nil ?_
          rintro _ ⟨X, rfl⟩
          go_wp2
          exact ⟨⟨i + 1, N, _, congrArg (Value.int .i64) (by omega), rfl, rfl, by omega, hbN, fun _ => rfl, HM3.out, HU6.out.trans (by repeat (first | exact Und.refl _ | assumption | refine Und.under ?_ _ | refine Und.alloc ?_ _ | refine Und.drew ?_ | refine Und.drewN ?_ _))⟩, by simp [intOf]; omega⟩
    · have y1 : ¬ (i : Int) ≤ (q : Int) := by omega
      have hi2 : i = q + 1 := by omega
      have haN := hia hi2
      subst haN
      have cb := (HUW.out.cell (p := ⟨b3, off3 + a, none⟩) hb3).trans hdN
      have hue : u ++ raw.extract raw.size raw.size = u := by
        have : raw.extract raw.size raw.size = ByteArray.empty := by
          apply ByteArray.ext; apply Array.ext'; rw [Lib.extract_data]; simp
        rw [this]; simp
      have yu : ¬ 9223372036854775807 < u.size + (raw.size - raw.size) := by omega
      have yv : ¬ 9223372036854775807 < u.size := by omega
      obtain ⟨cuts, hdc⟩ := HDD.out u wr (by omega) HMX.out
      have HDC := hid hdc
      clear hdc
      go_wp2_with fail
      try rw [hue]
      refine HDC.out.mono ?_
      rintro e w5 ⟨A5, c5, rfl, hI5, h51, h52, hu5⟩
      have hs := fun W (hW : Und w5 W) => rsame_any A5 A2 f.length f.length c5 c2 f f W rfl rfl h51 HF.out.2.2.2.2.1 h52 HF.out.2.2.2.2.2.1 (hI5.und hW) ((HF.out.1.und (HUF.out.trans (HUW.out.trans hu5))).und hW)
      rw [decide_eq_true rfl] at hs
      have HS := hid hs
      have HU5 := hid (HU3.out.trans (HUW.out.trans hu5))
      clear hs hI5 hu5 HDC
      simp only
      go_wp2_with fail
      refine (HS.out _ (Und.refl _)).mono ?_
      rintro e w7 ⟨rfl, hu7⟩
      have HU7 := hid (HU5.out.trans hu7)
      clear hu7 HS HU5
      go_wp2_with fail
      refine (HKN.out _ HU7.out).mono ?_
      rintro e w8 ⟨rfl, hu8⟩
      have HU8 := hid (HU7.out.trans hu8)
      clear hu8
      go_wp2
      go_ret
      exact ⟨rfl, HU8.out⟩
end Go.Proofs.YtiifjfbfkhhpeaaGreatDoor
