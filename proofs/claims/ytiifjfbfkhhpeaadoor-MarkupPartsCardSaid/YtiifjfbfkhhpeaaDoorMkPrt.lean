/- The law MarkupParts: walk. Condition: the library's tables lie at their places. -/
import Derived.Test.YtiifjfbfkhhpeaaDoorMkSpl
import Derived.Test.YtiifjfbfkhhpeaaDoorRdsA
set_option linter.unusedVariables false
set_option linter.unusedSimpArgs false
namespace Go.Proofs.YtiifjfbfkhhpeaaDoor
open Go.RowKit

theorem mkT_parts (x : ByteArray) (h : (Mk.mkT x).2.2 = 0) : St.PartsOkP Mk.dE x.data.toList (Mk.mkT x).1 := St.splitM_parts (fun n => by unfold Lib.decDigits; split <;> simp) h
theorem mkT_bad {x : ByteArray} (h : ¬ (Mk.mkT x).2.2 = 0) : (Mk.mkT x).1 = [] := by
  unfold Mk.mkT at h ⊢; exact St.splitM_bad h
theorem data7_ok {n : Nat} {data : ByteArray} (h : DataOf7 n data) (hn : n < 10) (hs : data.size ≤ 65536) : (Mk.mkT data).2.2 = 0 := by
  obtain ⟨hh, rs, hc, hl, hx, hd⟩ := h
  unfold Mk.mkT
  rw [St.mk_made (h := hh) (rs := rs) hc (fun x hm => ?_) (by rw [St.len_list]; exact hs) hd]
  obtain ⟨⟨hg, hl, ht, hr⟩, h3⟩ := hx x hm
  obtain ⟨cuts, hD, _⟩ := mk_reads hg (by omega) (by omega) hr
  refine ⟨?_, by rw [Mk.dE_of, hD], h3⟩
  obtain ⟨ps, h1, h2, h4⟩ := hr
  rw [h1]
  refine St.flat_noC (St.nameN_ok x.name x.attr).1 fun q hq => ⟨?_, h4 q hq⟩
  exact St.pos_posT hg.items _ (by rw [← h2]; unfold St.itsP; exact List.mem_map.2 ⟨q, hq, rfl⟩)
theorem ix2 (a b : ByteArray) (W : World) : (Instr.index 44 (.agg #[.string a, .string b]) (.int .i64 0)).run Tryd.prog W = .ok (.string a) W ∧ (Instr.index 44 (.agg #[.string a, .string b]) (.int .i64 1)).run Tryd.prog W = .ok (.string b) W := by
  exact ⟨by kernel_rfl, by kernel_rfl⟩
theorem sum_at {d : List UInt8} {ps : List St.Pt} {j : Nat} (h : ps.flatMap (·.2.2) = d) (hj : j < ps.length) : ((ps.take j).flatMap (·.2.2)).length + ps[j].2.2.length ≤ d.length := by
  have e : ps = ps.take j ++ ps[j] :: ps.drop (j + 1) := by
    rw [← List.drop_eq_getElem_cons hj, List.take_append_drop]
  have := congrArg List.length h
  rw [← this]
  conv => rhs; rw [e]
  simp only [List.flatMap_append, List.flatMap_cons, List.length_append]
  omega
theorem take_at {t : List UInt8} {ps : List St.Pt} {j : Nat} (h : t = (ps.take j).flatMap (·.2.2)) (hj : j < ps.length) : (ps.take (j + 1)).flatMap (·.2.2) = t ++ ps[j].2.2 := by
  rw [h, List.take_add_one, List.getElem?_eq_getElem hj, List.flatMap_append]
  simp only [Option.toList_some, List.flatMap_cons, List.flatMap_nil, List.append_nil]
def PrRel (w : World) (x : ByteArray) (A : Option Addr) (R : List St.Pt) (s13 s53 : Value) (wr : World) : Prop :=
  ∃ (j : Nat) (t : ByteArray), s13 = .string t ∧ s53 = .int .i64 j ∧ j ≤ R.length ∧ t.data.toList = (R.take j).flatMap (·.2.2) ∧ t.size ≤ x.size ∧ PartsAt wr A R ∧ Und w wr

set_option maxRecDepth 20000 in
set_option maxHeartbeats 12800000 in
theorem prtlaw_any (at' by' : Int) (A : Option Addr) (n c : Nat) (zs : List Int) (w : World) (hL : Mk.LibAt w) (hz : zs.length = n) (hn : n ≤ 9223372036854775807) (hI : IntsAt w A zs) :
    Calls Tryd.prog 5 #[.slice A n c, .int .i64 at', .int .u8 by'] w fun e w' => e = .returned (.bool true) ∧ Und w w' := by
  have HLB := hid hL
  have HKN := hid (fun W (hW : Und w W) => Mk.known_any W (HLB.out.und hW))
  have HDA := hid (data7_own A n c zs w hz hn hI 35)
  clear hI hL
  by_cases q1 : 200 < n
  · have z1 : (200 : Int) < (n : Int) := by omega
    go_enter Tryd.func5, Tryd.ntmps5
    go_wp2_with fail
    refine (HKN.out _ (Und.refl _)).mono ?_
    rintro e w2 ⟨rfl, hu⟩
    have HU := hid hu
    clear hu
    go_wp2
    go_ret
    exact ⟨rfl, HU.out⟩
  have z1 : ¬ (200 : Int) < (n : Int) := by omega
  go_enter Tryd.func5, Tryd.ntmps5
  go_wp2_with fail
  refine HDA.out.mono ?_
  rintro e w2 ⟨raw, rfl, hD, hrs, hu⟩
  have HOK := hid (data7_ok hD (by omega) (by omega))
  have HU := hid hu
  clear hu HDA hD
  go_wp2_with fail
  refine (changed_any raw at' by' w2 (by omega)).mono ?_
  rintro e w3 ⟨u, rfl, hus, hu3⟩
  have HU3 := hid (HU.out.trans hu3)
  clear hu3 HU
  go_wp2_with fail
  go_loopw [32] (fun i wr => BzRel w 2 i wr) (fun i _ => 3 - (intOf i).toNat)
  case atStart => exact ⟨0, by omega, rfl, HU3.out⟩
  case round =>
    obtain ⟨k, hk, rfl, hu⟩ := hrel
    have HU := hid hu
    clear hu HU3
    by_cases hk2 : k = 2
    · subst hk2
      go_wp2_with fail
      refine (HKN.out _ HU.out).mono ?_
      rintro e w5 ⟨rfl, hu5⟩
      have HU5 := hid (HU.out.trans hu5)
      clear hu5
      go_wp2
      go_ret
      exact ⟨rfl, HU5.out⟩
    have hlt : (k : Int) < 2 := by omega
    have hkw : IntKind.i64.wrap ((k : Int) + 1) = ((k + 1 : Nat) : Int) := by rw [IntWalk.i64_in _ (by omega)]; simp
    obtain ⟨x, hx, hxs⟩ : ∃ x : ByteArray, (Instr.index 44 (.agg #[.string raw, .string u]) (.int .i64 k)).run Tryd.prog wr = .ok (.string x) wr ∧ x.size ≤ 24013 := by
      obtain ⟨ia, ib⟩ := ix2 raw u wr
      rcases (show k = 0 ∨ k = 1 by omega) with rfl | rfl
      · exact ⟨raw, ia, hrs⟩
      · exact ⟨u, ib, by omega⟩
    have HSP := hid (fun W (hW : Und w W) => Mk.msplit_any x W (HLB.out.und hW) (by omega))
    by_cases her : (Mk.mkT x).2.2 = 0
    · have HPO := hid (mkT_parts x her)
      obtain ⟨R, hR⟩ : ∃ R, R = Mk.mkT x := ⟨_, rfl⟩
      rw [← hR] at HPO HSP her
      clear hR
      obtain ⟨f1, at1, er1⟩ := R
      simp only at her HPO
      subst her
      go_wp2_with fail
      refine (HSP.out _ HU.out).mono ?_
      rintro e w4 ⟨A3, c3, rfl, hI3, h31, h32, hu4⟩
      simp only at hI3 h31 ⊢
      have HI3 := hid hI3
      have HU4 := hid (HU.out.trans hu4)
      clear hI3 hu4 HSP HU hx
      go_wp2_with fail
      go_loopw [13, 53] (fun s13 s53 wr => PrRel w x A3 f1 s13 s53 wr) (fun _ i _ => f1.length - (intOf i).toNat)
      case atStart => exact ⟨0, ByteArray.empty, rfl, rfl, by omega, rfl, by simp, HI3.out, HU4.out⟩
      case round =>
        clear HI3 HU4
        obtain ⟨j, t, rfl, rfl, hj, htt, hts, hP, hu⟩ := hrel
        have HP := hid hP
        have HU := hid hu
        have HTT := hid htt
        clear hP hu htt
        by_cases hjl : j < f1.length
        · have hjz : (j : Int) < (f1.length : Int) := by omega
          have hjw : IntKind.i64.wrap ((j : Int) + 1) = (j : Int) + 1 := IntWalk.i64_in _ (by omega)
          obtain ⟨b, o, rfl, hb, hc1⟩ := HP.out (by omega)
          obtain ⟨h1, h2, h3⟩ := hc1 j hjl
          haveI : LtW b wr := LtW.of hb
          obtain ⟨hp1, hp2, hp3⟩ := HPO.out.2.1 j hjl
          have hsum := sum_at HPO.out.2.2 hjl
          rw [← HTT.out, St.len_list, St.len_list] at hsum
          have htk := take_at HTT.out hjl
          generalize f1[j] = y at h1 h2 h3 hp1 hp2 hp3 hsum htk
          obtain ⟨yk, yt, yi⟩ := y
          simp only at h1 h2 h3 hp1 hp2 hp3 hsum htk
          obtain ⟨rw', hrw⟩ : ∃ rw' : ByteArray, rw' = ⟨yi.toArray⟩ := ⟨_, rfl⟩
          obtain ⟨ky, hky⟩ : ∃ ky : ByteArray, ky = ⟨yt.toArray⟩ := ⟨_, rfl⟩
          rw [← hrw] at h3
          rw [← hky] at h2
          have hrd : rw'.data.toList = yi := by rw [hrw]
          have hrz : rw'.size = yi.length := by rw [← St.len_list, hrd]
          have hadd : (t ++ rw').data.toList = (f1.take (j + 1)).flatMap (·.2.2) := by rw [htk, ByteArray.data_append, Array.toList_append, hrd]
          have hsz : (t ++ rw').size = t.size + yi.length := by rw [ByteArray.size_append, hrz]
          have hde : yk = true → (Mk.mkD rw').2.2.2 = 0 := by
            intro e
            have := hp3 e
            rw [← hrd, Mk.dE_of] at this
            exact this
          have hcat : t.size + rw'.size ≤ 9223372036854775807 := by omega
          have HDC := hid (fun W => Mk.mdecode_any rw' W (by omega))
          have HADD := hid hadd
          have HSZ := hid (show (t ++ rw').size ≤ x.size by omega)
          clear hadd hsz hsum htk hrz hrd hrw hp3 hc1
          generalize Mk.mkD rw' = D at HDC hde
          obtain ⟨f2, c2, a2, e2⟩ := D
          simp only at hde
          by_cases hpar : j % 2 = 1
          · have hkt : yk = true := by rw [hp1, decide_eq_true hpar]
            have hm1 : (j : Int).tmod 2 = 1 := by rw [Int.tmod_eq_emod_of_nonneg (by omega)]; omega
            subst hkt
            have he2 : e2 = 0 := hde rfl
            subst he2
            have hkn : (ky.toList == []) = false := by
              refine Bool.eq_false_iff.2 fun e => ?_
              have h0 := eq_of_beq e
              rw [Lib.toList_data, hky] at h0
              exact absurd (hp2.1 h0) (by simp)
            clear hp1 hp2 hde hky
            go_wp2_with fail
            go_quiet (fail)
            go_wp2_with fail
            refine (HDC.out _).mono ?_
            rintro e w6 ⟨A6, c6, rfl, _, _, _, hu6⟩
            replace hu6 := ((Und.refl wr).drewN _).trans hu6
            have hg1 := (hu6.cell (p := ⟨b, o + j * 3, none⟩) hb).trans h1
            haveI : LtW b w6 := LtW.of (Nat.lt_of_lt_of_le hb hu6.size)
            have HU6 := hid (HU.out.trans hu6)
            have HP6 := hid (HP.out.und hu6)
            clear hu6 h1 h2 h3 HU HP HDC
            go_wp2
            exact ⟨⟨j + 1, _, rfl, by simp, by omega, HADD.out, HSZ.out, HP6.out, HU6.out⟩, by simp [intOf]; omega⟩
          · have hkt : yk = false := by rw [hp1, decide_eq_false hpar]
            subst hkt
            have hkn : (ky.toList == []) = true := by
              rw [hky, hp2.2 rfl, Lib.toList_data]; rfl
            clear hp1 hp2 hde hky
            have hm1 : (j : Int).tmod 2 = 0 := by rw [Int.tmod_eq_emod_of_nonneg (by omega)]; omega
            go_wp2_with fail
            go_quiet (fail)
            go_wp2_with fail
            refine (HDC.out _).mono ?_
            rintro e w6 ⟨A6, c6, rfl, _, _, _, hu6⟩
            replace hu6 := ((Und.refl wr).drewN _).trans hu6
            have hg1 := (hu6.cell (p := ⟨b, o + j * 3, none⟩) hb).trans h1
            haveI : LtW b w6 := LtW.of (Nat.lt_of_lt_of_le hb hu6.size)
            have HU6 := hid (HU.out.trans hu6)
            have HP6 := hid (HP.out.und hu6)
            clear hu6 h1 h2 h3 HU HP HDC
            go_wp2
            exact ⟨⟨j + 1, _, rfl, by simp, by omega, HADD.out, HSZ.out, HP6.out, HU6.out⟩, by simp [intOf]; omega⟩
        · obtain rfl : j = f1.length := by omega
          have htx : t = x := by
            refine bytes_ext _ _ ?_
            rw [HTT.out, List.take_length, HPO.out.2.2]
          subst htx
          have hlen : (f1.length : Int).tmod 2 = 1 := by
            have := HPO.out.1
            rw [Int.tmod_eq_emod_of_nonneg (by omega)]; omega
          have hne : (t.toList != t.toList) = false := by simp
          clear hj hjl
          go_wp2
          exact ⟨⟨k + 1, by omega, by simp, HU.out⟩, by simp [intOf]; omega⟩
    · have hf1 : (Mk.mkT x).1 = [] := by exact mkT_bad her
      have hxr : (x.toList == raw.toList) = false := by
        refine Bool.eq_false_iff.2 fun e => her ?_
        have h0 := eq_of_beq e
        rw [Lib.toList_data, Lib.toList_data] at h0
        rw [bytes_ext _ _ h0]; exact HOK.out
      obtain ⟨R, hR⟩ : ∃ R, R = Mk.mkT x := ⟨_, rfl⟩
      rw [← hR] at HSP her hf1
      clear hR
      obtain ⟨f1, at1, er1⟩ := R
      simp only at her hf1
      subst hf1
      have hner : (er1 != 0) = true := by simpa using her
      go_wp2_with fail
      refine (HSP.out _ HU.out).mono ?_
      rintro e w4 ⟨A3, c3, rfl, _, _, _, hu4⟩
      have HU4 := hid (HU.out.trans hu4)
      clear hu4 HSP HU hx
      simp only [List.length_nil]
      go_wp2
      exact ⟨⟨k + 1, by omega, by simp, HU4.out⟩, by simp [intOf]; omega⟩
end Go.Proofs.YtiifjfbfkhhpeaaDoor
