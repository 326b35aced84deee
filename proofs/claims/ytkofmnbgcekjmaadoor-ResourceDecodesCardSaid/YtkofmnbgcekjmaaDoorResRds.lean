/- The laws ResourceReads and ResourceDecodes: walks. No condition. -/
import Derived.Test.YtkofmnbgcekjmaaDoorMade8
import Derived.Test.YtkofmnbgcekjmaaDoorRefEl2
import Derived.Test.YtkofmnbgcekjmaaDoorRefSame
import Derived.Test.YtkofmnbgcekjmaaDoorResKnown
import Derived.Test.YtkofmnbgcekjmaaDoorResPieces
namespace Go.Proofs.YtkofmnbgcekjmaaDoor
open Go.RowKit

/-- A raw content of pieces is read to its items. -/
theorem reads_pieces {E : List UInt8 → St.El} {fmt : Int} {f : List St.It} {raw : ByteArray} (hg : GoodF f) (hl : f.length ≤ 100) (ht : tot f ≤ 900) (hr : RawsOf fmt f raw) (hp : ∀ p b, St.Pos1 p → St.formB fmt p b → St.Piece E b p) :
    ∃ cuts, St.decF E raw.data.toList 0 0 [] [] = (f, cuts, 0, 0) ∧ cuts.length = St.lenL f + 1 := by
  obtain ⟨ps, h1, h2, h3⟩ := hr
  have hpos : ∀ p ∈ ps, St.Piece E p.1 p.2 := by
    intro p hpm
    have : p.2 ∈ St.posI f := by rw [← h2]; unfold St.itsP; exact List.mem_map.2 ⟨p, hpm, rfl⟩
    exact hp p.2 p.1 (good_pos hg _ this) (h3 p hpm)
  have hf : (St.itsP ps).foldl St.addI [] = f := by rw [h2]; exact St.pos_norm hg.1 (fun x hx => (hg.2 x hx).1)
  have hlen : ps.length = St.lenL f := by rw [← its_len, h2, St.pos_len]
  have hll := lenL_tot f
  have := St.decF_pieces ps [] 0 0 [] [] hpos (by rw [hf]; omega) (by simp; omega)
  rw [List.append_nil, ← h1, St.decF_nil, hf] at this
  exact ⟨_, this, by simp [St.offs_len, hlen]⟩
theorem resD_F' (x : ByteArray) : resD x = St.decF St.resL x.data.toList 0 0 [] [] := by unfold resD St.decF; rw [St.len_list]
theorem res_reads {f : List St.It} {raw : ByteArray} (hg : GoodF f) (hl : f.length ≤ 100) (ht : tot f ≤ 900) (hr : RawsOf 2 f raw) : ∃ cuts, resD raw = (f, cuts, 0, 0) ∧ cuts.length = St.lenL f + 1 := by
  rw [resD_F']
  exact reads_pieces hg hl ht hr fun p b hp hf => St.res_form hp hf

set_option maxRecDepth 20000 in
set_option maxHeartbeats 6400000 in
theorem readslaw_any (A B : Option Addr) (n c m d : Nat) (zs ys : List Int) (w : World) (hz : zs.length = n) (hn : n ≤ 9223372036854775807) (hI : IntsAt w A zs) (hy : ys.length = m) (hm : m ≤ 9223372036854775807) (hJ : IntsAt w B ys) :
    Calls Tryd.prog 5 #[.slice A n c, .slice B m d] w fun e w' => e = .returned (.bool true) ∧ Und w w' := by
  have HRW := hid (raws_any A B n c m d zs ys w hz hn hI hy hm hJ)
  have HKN := hid (fun W (hW : Und w W) => xknown_any W)
  clear hI hJ
  by_cases q1 : 100 < n
  · have z1 : (100 : Int) < (n : Int) := by omega
    go_enter Tryd.func5, Tryd.ntmps5
    go_wp2_with fail
    refine (HKN.out _ (Und.refl _)).mono ?_
    rintro e w2 ⟨rfl, hu⟩
    have HU := hid hu
    clear hu
    go_wp2
    go_ret
    exact ⟨rfl, HU.out⟩
  · have z1 : ¬ (100 : Int) < (n : Int) := by omega
    by_cases q2 : 200 < m
    · have z2 : (200 : Int) < (m : Int) := by omega
      go_enter Tryd.func5, Tryd.ntmps5
      go_wp2_with fail
      refine (HKN.out _ (Und.refl _)).mono ?_
      rintro e w2 ⟨rfl, hu⟩
      have HU := hid hu
      clear hu
      go_wp2
      go_ret
      exact ⟨rfl, HU.out⟩
    · have z2 : ¬ (200 : Int) < (m : Int) := by omega
      go_enter Tryd.func5, Tryd.ntmps5
      go_wp2_with fail
      refine HRW.out.mono ?_
      rintro e w2 ⟨raw, A2, c2, f, rfl, hF, hR, hrs, hu⟩
      obtain ⟨cuts, hD, _⟩ := res_reads hF.2.1 (by have := hF.2.2.1; omega) (by have := hF.2.2.2.1; omega) hR
      have hdc := fun W => xdecode_any raw W (by omega)
      rw [hD] at hdc
      have HDC := hid hdc
      have HF := hid hF
      have HU := hid hu
      clear hF hR hu hD hdc HRW
      go_wp2_with fail
      refine (HDC.out _).mono ?_
      rintro e w3 ⟨A3, c3, rfl, hI3, h31, h32, hu3⟩
      have hs := fun W (hW : Und w3 W) => rsame_any A3 A2 f.length f.length c3 c2 f f W rfl rfl h31 HF.out.2.2.2.2.1 h32 HF.out.2.2.2.2.2.1 (hI3.und hW) ((HF.out.1.und hu3).und hW)
      rw [decide_eq_true rfl] at hs
      have HS := hid hs
      have HU3 := hid (HU.out.trans hu3)
      clear hs hI3 hu3 HDC HU
      simp only
      go_wp2_with fail
      refine (HS.out _ (Und.refl _)).mono ?_
      rintro e w4 ⟨rfl, hu4⟩
      have HU4 := hid (HU3.out.trans hu4)
      clear hu4 HS HU3
      go_wp2_with fail
      refine (HKN.out _ HU4.out).mono ?_
      rintro e w5 ⟨rfl, hu5⟩
      have HU5 := hid (HU4.out.trans hu5)
      clear hu5
      go_wp2
      go_ret
      exact ⟨rfl, HU5.out⟩

theorem ix3 (a b c : ByteArray) (W : World) : (Instr.index 40 (.agg #[.string a, .string b, .string c]) (.int .i64 0)).run Tryd.prog W = .ok (.string a) W ∧ (Instr.index 40 (.agg #[.string a, .string b, .string c]) (.int .i64 1)).run Tryd.prog W = .ok (.string b) W ∧ (Instr.index 40 (.agg #[.string a, .string b, .string c]) (.int .i64 2)).run Tryd.prog W = .ok (.string c) W := by
  exact ⟨by kernel_rfl, by kernel_rfl, by kernel_rfl⟩
def ByRel (w : World) (i : Value) (wr : World) : Prop := ∃ k : Nat, k ≤ 3 ∧ i = .int .i64 k ∧ Und w wr
set_option maxRecDepth 20000 in
set_option maxHeartbeats 12800000 in
theorem dcdlaw_any (s : ByteArray) (at' by' : Int) (A B : Option Addr) (n c m d : Nat) (zs ys : List Int) (w : World) (hs : s.size ≤ 9223372036854775807) (hz : zs.length = n) (hn : n ≤ 9223372036854775807) (hI : IntsAt w A zs) (hy : ys.length = m) (hm : m ≤ 9223372036854775807) (hJ : IntsAt w B ys) :
    Calls Tryd.prog 4 #[.string s, .slice A n c, .slice B m d, .int .i64 at', .int .u8 by'] w fun e w' => e = .returned (.bool true) ∧ Und w w' := by
  have HRW := hid (raws_any A B n c m d zs ys w hz hn hI hy hm hJ)
  have HKN := hid (fun W (hW : Und w W) => xknown_any W)
  clear hI hJ
  by_cases q0 : 300 < s.size
  · have z0 : (300 : Int) < (s.size : Int) := by omega
    go_enter Tryd.func4, Tryd.ntmps4
    go_wp2_with fail
    refine (HKN.out _ (Und.refl _)).mono ?_
    rintro e w2 ⟨rfl, hu⟩
    have HU := hid hu
    clear hu
    go_wp2
    go_ret
    exact ⟨rfl, HU.out⟩
  have z0 : ¬ (300 : Int) < (s.size : Int) := by omega
  by_cases q1 : 80 < n
  · have z1 : (80 : Int) < (n : Int) := by omega
    go_enter Tryd.func4, Tryd.ntmps4
    go_wp2_with fail
    refine (HKN.out _ (Und.refl _)).mono ?_
    rintro e w2 ⟨rfl, hu⟩
    have HU := hid hu
    clear hu
    go_wp2
    go_ret
    exact ⟨rfl, HU.out⟩
  have z1 : ¬ (80 : Int) < (n : Int) := by omega
  by_cases q2 : 200 < m
  · have z2 : (200 : Int) < (m : Int) := by omega
    go_enter Tryd.func4, Tryd.ntmps4
    go_wp2_with fail
    refine (HKN.out _ (Und.refl _)).mono ?_
    rintro e w2 ⟨rfl, hu⟩
    have HU := hid hu
    clear hu
    go_wp2
    go_ret
    exact ⟨rfl, HU.out⟩
  have z2 : ¬ (200 : Int) < (m : Int) := by omega
  go_enter Tryd.func4, Tryd.ntmps4
  go_wp2_with fail
  refine HRW.out.mono ?_
  rintro e w2 ⟨raw, A2, c2, f, rfl, hF, hR, hrs, hu⟩
  have HU := hid hu
  clear hF hR hu HRW
  go_wp2_with fail
  refine (changed_any raw at' by' w2 (by omega)).mono ?_
  rintro e w3 ⟨u, rfl, hus, hu3⟩
  have HU3 := hid (HU.out.trans hu3)
  clear hu3 HU
  go_wp2_with fail
  go_loopw [51] (fun i wr => ByRel w i wr) (fun i _ => 4 - (intOf i).toNat)
  case atStart => exact ⟨0, by omega, rfl, HU3.out⟩
  case round =>
    obtain ⟨k, hk, rfl, hu⟩ := hrel
    have HU := hid hu
    clear hu HU3
    obtain ⟨ia, ib, ic⟩ := ix3 s raw u wr
    rcases (show k = 0 ∨ k = 1 ∨ k = 2 ∨ k = 3 by omega) with rfl | rfl | rfl | rfl
    · have hx : s.size ≤ 10000 := by omega
      have HDC := hid (fun W => xdecode_any s W (by omega))
      have HCU := hid (fun W => xcuts_any s W (by omega))
      have HRD := hid (fun W => rdecode_any 2 St.resL res_at res_ok s W (by omega))
      have hq : St.dec St.resL s.size s.data.toList 0 0 [] [] = resD s := rfl
      rw [hq] at HRD
      clear hq
      generalize resD s = R at HDC HCU HRD
      obtain ⟨f1, cu1, at1, er1⟩ := R
      go_wp2_with fail
      refine (HDC.out _).mono ?_
      rintro e w4 ⟨A3, c3, rfl, hI3, h31, h32, hu4⟩
      have HI3 := hid hI3
      have HU4 := hid (HU.out.trans hu4)
      clear hI3 hu4 HDC HU
      go_wp2_with fail
      refine (HCU.out _).mono ?_
      rintro e w5 ⟨A4, c4, rfl, hI4, h41, h42, hu5⟩
      have HI4 := hid hI4
      have HI3' := hid (HI3.out.und hu5)
      have HU5 := hid (HU4.out.trans hu5)
      clear hI4 hu5 HCU HU4 HI3
      go_wp2_with fail
      refine (HRD.out _).mono ?_
      rintro e w6 ⟨v1, v2, rfl, ho1, ho2, hu6⟩
      simp only at ho1 ho2 HI3' HI4 h31 h41 ⊢
      obtain ⟨A5, c5, rfl, h51, h52, _⟩ := own_slice' ho1
      obtain ⟨A6, c6, rfl, h61, h62, _⟩ := own_slice' ho2
      have hs := fun W (hW : Und w6 W) => rsame_any A3 A5 f1.length f1.length c3 c5 f1 f1 W rfl rfl h31 h51 h32 (by unfold maxLen at h52; omega) ((HI3'.out.und hu6).und hW) ((items_own ho1 rfl).und hW)
      rw [decide_eq_true rfl] at hs
      have hs2 := fun W (hW : Und w6 W) => sameInts_any A4 A6 cu1.length cu1.length c4 c6 cu1 cu1 W rfl rfl h41 h61 h42 (by unfold maxLen at h62; omega) ((HI4.out.und hu6).und hW) ((nats_own ho2 rfl).und hW)
      rw [decide_eq_true rfl] at hs2
      have HS := hid hs
      have HS2 := hid hs2
      have HU6 := hid (HU5.out.trans hu6)
      have v1 : (er1 == er1) = true := beq_self_eq_true _
      have v2 : ((at1 : Int) == (at1 : Int)) = true := beq_self_eq_true _
      clear hs hs2 ho1 ho2 hu6 HRD HU5 HI3' HI4
      go_wp2_with fail
      refine (HS.out _ (Und.refl _)).mono ?_
      rintro e w7 ⟨rfl, hu7⟩
      have HS3 := hid (HS2.out _ hu7)
      have HU7 := hid (HU6.out.trans hu7)
      clear hu7 HS HS2 HU6
      go_wp2_with fail
      refine HS3.out.mono ?_
      rintro e w8 ⟨rfl, hu8⟩
      have HU8 := hid (HU7.out.trans hu8)
      clear hu8 HS3 HU7
      go_wp2
      exact ⟨⟨1, by omega, rfl, HU8.out⟩, by simp [intOf]⟩
    · have hx : raw.size ≤ 10000 := by omega
      have HDC := hid (fun W => xdecode_any raw W (by omega))
      have HCU := hid (fun W => xcuts_any raw W (by omega))
      have HRD := hid (fun W => rdecode_any 2 St.resL res_at res_ok raw W (by omega))
      have hq : St.dec St.resL raw.size raw.data.toList 0 0 [] [] = resD raw := rfl
      rw [hq] at HRD
      clear hq
      generalize resD raw = R at HDC HCU HRD
      obtain ⟨f1, cu1, at1, er1⟩ := R
      go_wp2_with fail
      refine (HDC.out _).mono ?_
      rintro e w4 ⟨A3, c3, rfl, hI3, h31, h32, hu4⟩
      have HI3 := hid hI3
      have HU4 := hid (HU.out.trans hu4)
      clear hI3 hu4 HDC HU
      go_wp2_with fail
      refine (HCU.out _).mono ?_
      rintro e w5 ⟨A4, c4, rfl, hI4, h41, h42, hu5⟩
      have HI4 := hid hI4
      have HI3' := hid (HI3.out.und hu5)
      have HU5 := hid (HU4.out.trans hu5)
      clear hI4 hu5 HCU HU4 HI3
      go_wp2_with fail
      refine (HRD.out _).mono ?_
      rintro e w6 ⟨v1, v2, rfl, ho1, ho2, hu6⟩
      simp only at ho1 ho2 HI3' HI4 h31 h41 ⊢
      obtain ⟨A5, c5, rfl, h51, h52, _⟩ := own_slice' ho1
      obtain ⟨A6, c6, rfl, h61, h62, _⟩ := own_slice' ho2
      have hs := fun W (hW : Und w6 W) => rsame_any A3 A5 f1.length f1.length c3 c5 f1 f1 W rfl rfl h31 h51 h32 (by unfold maxLen at h52; omega) ((HI3'.out.und hu6).und hW) ((items_own ho1 rfl).und hW)
      rw [decide_eq_true rfl] at hs
      have hs2 := fun W (hW : Und w6 W) => sameInts_any A4 A6 cu1.length cu1.length c4 c6 cu1 cu1 W rfl rfl h41 h61 h42 (by unfold maxLen at h62; omega) ((HI4.out.und hu6).und hW) ((nats_own ho2 rfl).und hW)
      rw [decide_eq_true rfl] at hs2
      have HS := hid hs
      have HS2 := hid hs2
      have HU6 := hid (HU5.out.trans hu6)
      have v1 : (er1 == er1) = true := beq_self_eq_true _
      have v2 : ((at1 : Int) == (at1 : Int)) = true := beq_self_eq_true _
      clear hs hs2 ho1 ho2 hu6 HRD HU5 HI3' HI4
      go_wp2_with fail
      refine (HS.out _ (Und.refl _)).mono ?_
      rintro e w7 ⟨rfl, hu7⟩
      have HS3 := hid (HS2.out _ hu7)
      have HU7 := hid (HU6.out.trans hu7)
      clear hu7 HS HS2 HU6
      go_wp2_with fail
      refine HS3.out.mono ?_
      rintro e w8 ⟨rfl, hu8⟩
      have HU8 := hid (HU7.out.trans hu8)
      clear hu8 HS3 HU7
      go_wp2
      exact ⟨⟨2, by omega, rfl, HU8.out⟩, by simp [intOf]⟩
    · have hx : u.size ≤ 10000 := by omega
      have HDC := hid (fun W => xdecode_any u W (by omega))
      have HCU := hid (fun W => xcuts_any u W (by omega))
      have HRD := hid (fun W => rdecode_any 2 St.resL res_at res_ok u W (by omega))
      have hq : St.dec St.resL u.size u.data.toList 0 0 [] [] = resD u := rfl
      rw [hq] at HRD
      clear hq
      generalize resD u = R at HDC HCU HRD
      obtain ⟨f1, cu1, at1, er1⟩ := R
      go_wp2_with fail
      refine (HDC.out _).mono ?_
      rintro e w4 ⟨A3, c3, rfl, hI3, h31, h32, hu4⟩
      have HI3 := hid hI3
      have HU4 := hid (HU.out.trans hu4)
      clear hI3 hu4 HDC HU
      go_wp2_with fail
      refine (HCU.out _).mono ?_
      rintro e w5 ⟨A4, c4, rfl, hI4, h41, h42, hu5⟩
      have HI4 := hid hI4
      have HI3' := hid (HI3.out.und hu5)
      have HU5 := hid (HU4.out.trans hu5)
      clear hI4 hu5 HCU HU4 HI3
      go_wp2_with fail
      refine (HRD.out _).mono ?_
      rintro e w6 ⟨v1, v2, rfl, ho1, ho2, hu6⟩
      simp only at ho1 ho2 HI3' HI4 h31 h41 ⊢
      obtain ⟨A5, c5, rfl, h51, h52, _⟩ := own_slice' ho1
      obtain ⟨A6, c6, rfl, h61, h62, _⟩ := own_slice' ho2
      have hs := fun W (hW : Und w6 W) => rsame_any A3 A5 f1.length f1.length c3 c5 f1 f1 W rfl rfl h31 h51 h32 (by unfold maxLen at h52; omega) ((HI3'.out.und hu6).und hW) ((items_own ho1 rfl).und hW)
      rw [decide_eq_true rfl] at hs
      have hs2 := fun W (hW : Und w6 W) => sameInts_any A4 A6 cu1.length cu1.length c4 c6 cu1 cu1 W rfl rfl h41 h61 h42 (by unfold maxLen at h62; omega) ((HI4.out.und hu6).und hW) ((nats_own ho2 rfl).und hW)
      rw [decide_eq_true rfl] at hs2
      have HS := hid hs
      have HS2 := hid hs2
      have HU6 := hid (HU5.out.trans hu6)
      have v1 : (er1 == er1) = true := beq_self_eq_true _
      have v2 : ((at1 : Int) == (at1 : Int)) = true := beq_self_eq_true _
      clear hs hs2 ho1 ho2 hu6 HRD HU5 HI3' HI4
      go_wp2_with fail
      refine (HS.out _ (Und.refl _)).mono ?_
      rintro e w7 ⟨rfl, hu7⟩
      have HS3 := hid (HS2.out _ hu7)
      have HU7 := hid (HU6.out.trans hu7)
      clear hu7 HS HS2 HU6
      go_wp2_with fail
      refine HS3.out.mono ?_
      rintro e w8 ⟨rfl, hu8⟩
      have HU8 := hid (HU7.out.trans hu8)
      clear hu8 HS3 HU7
      go_wp2
      exact ⟨⟨3, by omega, rfl, HU8.out⟩, by simp [intOf]⟩
    · go_wp2_with fail
      refine (HKN.out _ HU.out).mono ?_
      rintro e w5 ⟨rfl, hu5⟩
      have HU5 := hid (HU.out.trans hu5)
      clear hu5
      go_wp2
      go_ret
      exact ⟨rfl, HU5.out⟩
end Go.Proofs.YtkofmnbgcekjmaaDoor
