/- The laws SheetReads and SheetDecodes: walks. Condition: the library's table of powers of ten in memory. -/
import Derived.Test.YtofhaokbklfmmaaDoorMade9
import Derived.Test.YtofhaokbklfmmaaDoorRefEl3
import Derived.Test.YtofhaokbklfmmaaDoorRefSame
import Derived.Test.YtofhaokbklfmmaaDoorSheetKnown
namespace Go.Proofs.YtofhaokbklfmmaaDoor
open Go.RowKit

namespace St
theorem nameHd {t : List UInt8} (h : isNameL t = true) : ∃ c r, t = c :: r ∧ c.toNat ≠ 123 := by
  cases t with
  | nil => cases h
  | cons c r =>
    rw [isNameL] at h
    simp only [Bool.and_eq_true, decide_eq_true_eq, lowC] at h
    exact ⟨c, r, rfl, by omega⟩
theorem name_all {t : List UInt8} (h : isNameL t = true) : ∀ c ∈ t, c.toNat ≠ 125 := by
  cases t with
  | nil => cases h
  | cons c r =>
    rw [isNameL] at h
    simp only [Bool.and_eq_true, decide_eq_true_eq, lowC] at h
    obtain ⟨_, h1, h2⟩ := h
    intro d hd
    rcases List.mem_cons.1 hd with rfl | hd
    · omega
    · have := List.all_eq_true.1 h2 d hd
      simp only [nameC, decide_eq_true_eq] at this
      omega
theorem slot_enc {t : List UInt8} (h : isNameL t = true) (rest : List UInt8) : slotL (123 :: (t ++ 125 :: rest)) = some (t, t.length + 2) := by
  have htw : (t ++ 125 :: rest).takeWhile (fun c => decide (c.toNat ≠ 125)) = t := by
    rw [List.takeWhile_append_of_pos (fun c hc => by simpa using name_all h c hc), List.takeWhile_cons_of_neg (by decide), List.append_nil]
  unfold slotL
  simp only [List.drop_succ_cons, List.drop_zero, htw]
  rw [h, decide_eq_true (by simp)]
  rfl
theorem sheet_elen' : ElLen sheetL := fun _ _ _ _ h => let ⟨_, h1, h2⟩ := sheet_len h; ⟨h1, h2⟩
theorem sheet_piece {p : It} (h : Pos1 p) : Piece sheetL (encI 3 p) p := by
  rcases h with ⟨c, rfl⟩ | ⟨t, rfl, ht⟩
  · have e : encI 3 (1, [c], 0) = encB 3 c := by simp [encI]
    rw [e]
    by_cases h34 : c.toNat = 34
    · have e2 : encB 3 c = [c, c] := by unfold encB; simp [h34]
      rw [e2]
      refine piece_of sheet_elen' (by simp) (by decide) (fun rest => ?_)
      show sheetL (c :: c :: rest) = some (1, [c], 2)
      rw [sheet_34 h34]
      have hc : c = 34 := by apply UInt8.toNat_inj.1; simpa using h34
      subst hc; rfl
    · by_cases h123 : c.toNat = 123
      · have e2 : encB 3 c = [c, c] := by unfold encB; simp [h123]
        rw [e2]
        refine piece_of sheet_elen' (by simp) (by decide) (fun rest => ?_)
        show sheetL (c :: c :: rest) = some (1, [c], 2)
        rw [sheet_123 h123]
        have hc : c = 123 := by apply UInt8.toNat_inj.1; simpa using h123
        subst hc; rfl
      · have e2 : encB 3 c = [c] := by unfold encB; simp [h34, h123]
        rw [e2]
        refine piece_of sheet_elen' (by simp) (by decide) (fun rest => ?_)
        exact sheet_else h34 h123
  · have e : encI 3 (5, t, 0) = 123 :: (t ++ [125]) := by simp [encI]
    rw [e]
    refine piece_of sheet_elen' (by simp) (by decide) (fun rest => ?_)
    have e2 : 123 :: (t ++ [125]) ++ rest = 123 :: (t ++ 125 :: rest) := by simp
    rw [e2, sheet_123 (by decide)]
    obtain ⟨c, r, hc, hc2⟩ := nameHd ht
    have hp : ([123, 123] : List UInt8).isPrefixOf (123 :: (t ++ 125 :: rest)) = false := by
      rw [hc]
      simp only [List.cons_append, List.isPrefixOf]
      have : ((123 : UInt8) == c) = false := by
        refine Bool.eq_false_iff.2 fun e => hc2 ?_
        have := eq_of_beq e
        rw [← this]; rfl
      simp [this]
    rw [hp, slot_enc ht]
    simp
end St
/-- A raw content of pieces is read to its items. -/
theorem reads_pieces {E : List UInt8 → St.El} {fmt : Int} {f : List St.It} {raw : ByteArray} (hg : GoodF f) (hl : f.length ≤ 100) (ht : tot f ≤ 900) (hr : RawsOf fmt f raw) (hp : ∀ p b, St.Pos1 p → St.formB fmt p b → St.Piece E b p) :
    ∃ cuts, St.decF E raw.data.toList 0 0 [] [] = (f, cuts, 0, 0) ∧ cuts.length = St.lenL f + 1 := by
  obtain ⟨ps, h1, h2, h3⟩ := hr
  have hpos : ∀ p ∈ ps, St.Piece E p.1 p.2 := by
    intro p hpm
    have : p.2 ∈ St.posI f := by rw [← h2]; unfold St.itsP; exact List.mem_map.2 ⟨p, hpm, rfl⟩
    exact hp p.2 p.1 (good_pos hg _ this) (h3 p hpm)
  have hf : (St.itsP ps).foldl St.addI [] = f := by rw [h2]; exact St.pos_norm hg.1 (fun x hx => (hg.2 x hx).1)
  have hlen : ps.length = St.lenL f := by rw [← its_len, h2, St.pos_len]
  have hll := lenL_tot f
  have := St.decF_pieces ps [] 0 0 [] [] hpos (by rw [hf]; omega) (by simp; omega)
  rw [List.append_nil, ← h1, St.decF_nil, hf] at this
  exact ⟨_, this, by simp [St.offs_len, hlen]⟩
theorem sheetD_F' (x : ByteArray) : sheetD x = St.decF St.sheetL x.data.toList 0 0 [] [] := by unfold sheetD St.decF; rw [St.len_list]
theorem sheet_reads {f : List St.It} {raw : ByteArray} (hg : GoodF f) (hl : f.length ≤ 100) (ht : tot f ≤ 900) (hr : RawsOf 3 f raw) : ∃ cuts, sheetD raw = (f, cuts, 0, 0) ∧ cuts.length = St.lenL f + 1 := by
  rw [sheetD_F']
  refine reads_pieces hg hl ht hr fun p b hp hf => ?_
  rcases hf with rfl | ⟨h, _⟩ | ⟨h, _⟩
  · exact St.sheet_piece hp
  · exact absurd h (by decide)
  · exact absurd h (by decide)

set_option maxRecDepth 20000 in
set_option maxHeartbeats 6400000 in
theorem readslaw_any (A B : Option Addr) (n c m d : Nat) (zs ys : List Int) (w : World) (ht : Tab w) (hz : zs.length = n) (hn : n ≤ 9223372036854775807) (hI : IntsAt w A zs) (hy : ys.length = m) (hm : m ≤ 9223372036854775807) (hJ : IntsAt w B ys) :
    Calls Tryd.prog 3 #[.slice A n c, .slice B m d] w fun e w' => e = .returned (.bool true) ∧ Und w w' := by
  have HTB := hid ht
  have HRW := hid (raws_any A B n c m d zs ys w hz hn hI hy hm hJ)
  have HKN := hid (fun W (hW : Und w W) => sknown_any W (HTB.out.und hW))
  clear hI hJ ht
  by_cases q1 : 100 < n
  · have z1 : (100 : Int) < (n : Int) := by omega
    go_enter Tryd.func3, Tryd.ntmps3
    go_wp2_with fail
    refine (HKN.out _ (Und.refl _)).mono ?_
    rintro e w2 ⟨rfl, hu⟩
    have HU := hid hu
    clear hu
    go_wp2
    go_ret
    exact ⟨rfl, HU.out⟩
  · have z1 : ¬ (100 : Int) < (n : Int) := by omega
    by_cases q2 : 200 < m
    · have z2 : (200 : Int) < (m : Int) := by omega
      go_enter Tryd.func3, Tryd.ntmps3
      go_wp2_with fail
      refine (HKN.out _ (Und.refl _)).mono ?_
      rintro e w2 ⟨rfl, hu⟩
      have HU := hid hu
      clear hu
      go_wp2
      go_ret
      exact ⟨rfl, HU.out⟩
    · have z2 : ¬ (200 : Int) < (m : Int) := by omega
      go_enter Tryd.func3, Tryd.ntmps3
      go_wp2_with fail
      refine HRW.out.mono ?_
      rintro e w2 ⟨raw, A2, c2, f, rfl, hF, hR, hrs, hu⟩
      obtain ⟨cuts, hD, _⟩ := sheet_reads hF.2.1 (by have := hF.2.2.1; omega) (by have := hF.2.2.2.1; omega) hR
      have hdc := fun W => sdecode_any raw W (by omega)
      rw [hD] at hdc
      have HDC := hid hdc
      have HF := hid hF
      have HU := hid hu
      clear hF hR hu hD hdc HRW
      go_wp2_with fail
      refine (HDC.out _).mono ?_
      rintro e w3 ⟨A3, c3, rfl, hI3, h31, h32, hu3⟩
      have hs := fun W (hW : Und w3 W) => rsame_any A3 A2 f.length f.length c3 c2 f f W rfl rfl h31 HF.out.2.2.2.2.1 h32 HF.out.2.2.2.2.2.1 (hI3.und hW) ((HF.out.1.und hu3).und hW)
      rw [decide_eq_true rfl] at hs
      have HS := hid hs
      have HU3 := hid (HU.out.trans hu3)
      clear hs hI3 hu3 HDC HU
      simp only
      go_wp2_with fail
      refine (HS.out _ (Und.refl _)).mono ?_
      rintro e w4 ⟨rfl, hu4⟩
      have HU4 := hid (HU3.out.trans hu4)
      clear hu4 HS HU3
      go_wp2_with fail
      refine (HKN.out _ HU4.out).mono ?_
      rintro e w5 ⟨rfl, hu5⟩
      have HU5 := hid (HU4.out.trans hu5)
      clear hu5
      go_wp2
      go_ret
      exact ⟨rfl, HU5.out⟩

theorem ix3 (a b c : ByteArray) (W : World) : (Instr.index 37 (.agg #[.string a, .string b, .string c]) (.int .i64 0)).run Tryd.prog W = .ok (.string a) W ∧ (Instr.index 37 (.agg #[.string a, .string b, .string c]) (.int .i64 1)).run Tryd.prog W = .ok (.string b) W ∧ (Instr.index 37 (.agg #[.string a, .string b, .string c]) (.int .i64 2)).run Tryd.prog W = .ok (.string c) W := by
  exact ⟨by kernel_rfl, by kernel_rfl, by kernel_rfl⟩
def ByRel (w : World) (i : Value) (wr : World) : Prop := ∃ k : Nat, k ≤ 3 ∧ i = .int .i64 k ∧ Und w wr
set_option maxRecDepth 20000 in
set_option maxHeartbeats 12800000 in
theorem dcdlaw_any (s : ByteArray) (at' by' : Int) (A B : Option Addr) (n c m d : Nat) (zs ys : List Int) (w : World) (ht : Tab w) (hs : s.size ≤ 9223372036854775807) (hz : zs.length = n) (hn : n ≤ 9223372036854775807) (hI : IntsAt w A zs) (hy : ys.length = m) (hm : m ≤ 9223372036854775807) (hJ : IntsAt w B ys) :
    Calls Tryd.prog 8 #[.string s, .slice A n c, .slice B m d, .int .i64 at', .int .u8 by'] w fun e w' => e = .returned (.bool true) ∧ Und w w' := by
  have HTB := hid ht
  have HRW := hid (raws_any A B n c m d zs ys w hz hn hI hy hm hJ)
  have HKN := hid (fun W (hW : Und w W) => sknown_any W (HTB.out.und hW))
  clear hI hJ ht
  by_cases q0 : 300 < s.size
  · have z0 : (300 : Int) < (s.size : Int) := by omega
    go_enter Tryd.func8, Tryd.ntmps8
    go_wp2_with fail
    refine (HKN.out _ (Und.refl _)).mono ?_
    rintro e w2 ⟨rfl, hu⟩
    have HU := hid hu
    clear hu
    go_wp2
    go_ret
    exact ⟨rfl, HU.out⟩
  have z0 : ¬ (300 : Int) < (s.size : Int) := by omega
  by_cases q1 : 80 < n
  · have z1 : (80 : Int) < (n : Int) := by omega
    go_enter Tryd.func8, Tryd.ntmps8
    go_wp2_with fail
    refine (HKN.out _ (Und.refl _)).mono ?_
    rintro e w2 ⟨rfl, hu⟩
    have HU := hid hu
    clear hu
    go_wp2
    go_ret
    exact ⟨rfl, HU.out⟩
  have z1 : ¬ (80 : Int) < (n : Int) := by omega
  by_cases q2 : 200 < m
  · have z2 : (200 : Int) < (m : Int) := by omega
    go_enter Tryd.func8, Tryd.ntmps8
    go_wp2_with fail
    refine (HKN.out _ (Und.refl _)).mono ?_
    rintro e w2 ⟨rfl, hu⟩
    have HU := hid hu
    clear hu
    go_wp2
    go_ret
    exact ⟨rfl, HU.out⟩
  have z2 : ¬ (200 : Int) < (m : Int) := by omega
  go_enter Tryd.func8, Tryd.ntmps8
  go_wp2_with fail
  refine HRW.out.mono ?_
  rintro e w2 ⟨raw, A2, c2, f, rfl, hF, hR, hrs, hu⟩
  have HU := hid hu
  clear hF hR hu HRW
  go_wp2_with fail
  refine (changed_any raw at' by' w2 (by omega)).mono ?_
  rintro e w3 ⟨u, rfl, hus, hu3⟩
  have HU3 := hid (HU.out.trans hu3)
  clear hu3 HU
  go_wp2_with fail
  go_loopw [51] (fun i wr => ByRel w i wr) (fun i _ => 4 - (intOf i).toNat)
  case atStart => exact ⟨0, by omega, rfl, HU3.out⟩
  case round =>
    obtain ⟨k, hk, rfl, hu⟩ := hrel
    have HU := hid hu
    clear hu HU3
    obtain ⟨ia, ib, ic⟩ := ix3 s raw u wr
    rcases (show k = 0 ∨ k = 1 ∨ k = 2 ∨ k = 3 by omega) with rfl | rfl | rfl | rfl
    · have hx : s.size ≤ 10000 := by omega
      have HDC := hid (fun W => sdecode_any s W (by omega))
      have HCU := hid (fun W => scuts_any s W (by omega))
      have HRD := hid (fun W => rdecode_any 3 St.sheetL sheet_at sheet_ok s W (by omega))
      have hq : St.dec St.sheetL s.size s.data.toList 0 0 [] [] = sheetD s := rfl
      rw [hq] at HRD
      clear hq
      generalize sheetD s = R at HDC HCU HRD
      obtain ⟨f1, cu1, at1, er1⟩ := R
      go_wp2_with fail
      refine (HDC.out _).mono ?_
      rintro e w4 ⟨A3, c3, rfl, hI3, h31, h32, hu4⟩
      have HI3 := hid hI3
      have HU4 := hid (HU.out.trans hu4)
      clear hI3 hu4 HDC HU
      go_wp2_with fail
      refine (HCU.out _).mono ?_
      rintro e w5 ⟨A4, c4, rfl, hI4, h41, h42, hu5⟩
      have HI4 := hid hI4
      have HI3' := hid (HI3.out.und hu5)
      have HU5 := hid (HU4.out.trans hu5)
      clear hI4 hu5 HCU HU4 HI3
      go_wp2_with fail
      refine (HRD.out _).mono ?_
      rintro e w6 ⟨v1, v2, rfl, ho1, ho2, hu6⟩
      simp only at ho1 ho2 HI3' HI4 h31 h41 ⊢
      obtain ⟨A5, c5, rfl, h51, h52, _⟩ := own_slice' ho1
      obtain ⟨A6, c6, rfl, h61, h62, _⟩ := own_slice' ho2
      have hs := fun W (hW : Und w6 W) => rsame_any A3 A5 f1.length f1.length c3 c5 f1 f1 W rfl rfl h31 h51 h32 (by unfold maxLen at h52; omega) ((HI3'.out.und hu6).und hW) ((items_own ho1 rfl).und hW)
      rw [decide_eq_true rfl] at hs
      have hs2 := fun W (hW : Und w6 W) => sameInts_any A4 A6 cu1.length cu1.length c4 c6 cu1 cu1 W rfl rfl h41 h61 h42 (by unfold maxLen at h62; omega) ((HI4.out.und hu6).und hW) ((nats_own ho2 rfl).und hW)
      rw [decide_eq_true rfl] at hs2
      have HS := hid hs
      have HS2 := hid hs2
      have HU6 := hid (HU5.out.trans hu6)
      have v1 : (er1 == er1) = true := beq_self_eq_true _
      have v2 : ((at1 : Int) == (at1 : Int)) = true := beq_self_eq_true _
      clear hs hs2 ho1 ho2 hu6 HRD HU5 HI3' HI4
      go_wp2_with fail
      refine (HS.out _ (Und.refl _)).mono ?_
      rintro e w7 ⟨rfl, hu7⟩
      have HS3 := hid (HS2.out _ hu7)
      have HU7 := hid (HU6.out.trans hu7)
      clear hu7 HS HS2 HU6
      go_wp2_with fail
      refine HS3.out.mono ?_
      rintro e w8 ⟨rfl, hu8⟩
      have HU8 := hid (HU7.out.trans hu8)
      clear hu8 HS3 HU7
      go_wp2
      exact ⟨⟨1, by omega, rfl, HU8.out⟩, by simp [intOf]⟩
    · have hx : raw.size ≤ 10000 := by omega
      have HDC := hid (fun W => sdecode_any raw W (by omega))
      have HCU := hid (fun W => scuts_any raw W (by omega))
      have HRD := hid (fun W => rdecode_any 3 St.sheetL sheet_at sheet_ok raw W (by omega))
      have hq : St.dec St.sheetL raw.size raw.data.toList 0 0 [] [] = sheetD raw := rfl
      rw [hq] at HRD
      clear hq
      generalize sheetD raw = R at HDC HCU HRD
      obtain ⟨f1, cu1, at1, er1⟩ := R
      go_wp2_with fail
      refine (HDC.out _).mono ?_
      rintro e w4 ⟨A3, c3, rfl, hI3, h31, h32, hu4⟩
      have HI3 := hid hI3
      have HU4 := hid (HU.out.trans hu4)
      clear hI3 hu4 HDC HU
      go_wp2_with fail
      refine (HCU.out _).mono ?_
      rintro e w5 ⟨A4, c4, rfl, hI4, h41, h42, hu5⟩
      have HI4 := hid hI4
      have HI3' := hid (HI3.out.und hu5)
      have HU5 := hid (HU4.out.trans hu5)
      clear hI4 hu5 HCU HU4 HI3
      go_wp2_with fail
      refine (HRD.out _).mono ?_
      rintro e w6 ⟨v1, v2, rfl, ho1, ho2, hu6⟩
      simp only at ho1 ho2 HI3' HI4 h31 h41 ⊢
      obtain ⟨A5, c5, rfl, h51, h52, _⟩ := own_slice' ho1
      obtain ⟨A6, c6, rfl, h61, h62, _⟩ := own_slice' ho2
      have hs := fun W (hW : Und w6 W) => rsame_any A3 A5 f1.length f1.length c3 c5 f1 f1 W rfl rfl h31 h51 h32 (by unfold maxLen at h52; omega) ((HI3'.out.und hu6).und hW) ((items_own ho1 rfl).und hW)
      rw [decide_eq_true rfl] at hs
      have hs2 := fun W (hW : Und w6 W) => sameInts_any A4 A6 cu1.length cu1.length c4 c6 cu1 cu1 W rfl rfl h41 h61 h42 (by unfold maxLen at h62; omega) ((HI4.out.und hu6).und hW) ((nats_own ho2 rfl).und hW)
      rw [decide_eq_true rfl] at hs2
      have HS := hid hs
      have HS2 := hid hs2
      have HU6 := hid (HU5.out.trans hu6)
      have v1 : (er1 == er1) = true := beq_self_eq_true _
      have v2 : ((at1 : Int) == (at1 : Int)) = true := beq_self_eq_true _
      clear hs hs2 ho1 ho2 hu6 HRD HU5 HI3' HI4
      go_wp2_with fail
      refine (HS.out _ (Und.refl _)).mono ?_
      rintro e w7 ⟨rfl, hu7⟩
      have HS3 := hid (HS2.out _ hu7)
      have HU7 := hid (HU6.out.trans hu7)
      clear hu7 HS HS2 HU6
      go_wp2_with fail
      refine HS3.out.mono ?_
      rintro e w8 ⟨rfl, hu8⟩
      have HU8 := hid (HU7.out.trans hu8)
      clear hu8 HS3 HU7
      go_wp2
      exact ⟨⟨2, by omega, rfl, HU8.out⟩, by simp [intOf]⟩
    · have hx : u.size ≤ 10000 := by omega
      have HDC := hid (fun W => sdecode_any u W (by omega))
      have HCU := hid (fun W => scuts_any u W (by omega))
      have HRD := hid (fun W => rdecode_any 3 St.sheetL sheet_at sheet_ok u W (by omega))
      have hq : St.dec St.sheetL u.size u.data.toList 0 0 [] [] = sheetD u := rfl
      rw [hq] at HRD
      clear hq
      generalize sheetD u = R at HDC HCU HRD
      obtain ⟨f1, cu1, at1, er1⟩ := R
      go_wp2_with fail
      refine (HDC.out _).mono ?_
      rintro e w4 ⟨A3, c3, rfl, hI3, h31, h32, hu4⟩
      have HI3 := hid hI3
      have HU4 := hid (HU.out.trans hu4)
      clear hI3 hu4 HDC HU
      go_wp2_with fail
      refine (HCU.out _).mono ?_
      rintro e w5 ⟨A4, c4, rfl, hI4, h41, h42, hu5⟩
      have HI4 := hid hI4
      have HI3' := hid (HI3.out.und hu5)
      have HU5 := hid (HU4.out.trans hu5)
      clear hI4 hu5 HCU HU4 HI3
      go_wp2_with fail
      refine (HRD.out _).mono ?_
      rintro e w6 ⟨v1, v2, rfl, ho1, ho2, hu6⟩
      simp only at ho1 ho2 HI3' HI4 h31 h41 ⊢
      obtain ⟨A5, c5, rfl, h51, h52, _⟩ := own_slice' ho1
      obtain ⟨A6, c6, rfl, h61, h62, _⟩ := own_slice' ho2
      have hs := fun W (hW : Und w6 W) => rsame_any A3 A5 f1.length f1.length c3 c5 f1 f1 W rfl rfl h31 h51 h32 (by unfold maxLen at h52; omega) ((HI3'.out.und hu6).und hW) ((items_own ho1 rfl).und hW)
      rw [decide_eq_true rfl] at hs
      have hs2 := fun W (hW : Und w6 W) => sameInts_any A4 A6 cu1.length cu1.length c4 c6 cu1 cu1 W rfl rfl h41 h61 h42 (by unfold maxLen at h62; omega) ((HI4.out.und hu6).und hW) ((nats_own ho2 rfl).und hW)
      rw [decide_eq_true rfl] at hs2
      have HS := hid hs
      have HS2 := hid hs2
      have HU6 := hid (HU5.out.trans hu6)
      have v1 : (er1 == er1) = true := beq_self_eq_true _
      have v2 : ((at1 : Int) == (at1 : Int)) = true := beq_self_eq_true _
      clear hs hs2 ho1 ho2 hu6 HRD HU5 HI3' HI4
      go_wp2_with fail
      refine (HS.out _ (Und.refl _)).mono ?_
      rintro e w7 ⟨rfl, hu7⟩
      have HS3 := hid (HS2.out _ hu7)
      have HU7 := hid (HU6.out.trans hu7)
      clear hu7 HS HS2 HU6
      go_wp2_with fail
      refine HS3.out.mono ?_
      rintro e w8 ⟨rfl, hu8⟩
      have HU8 := hid (HU7.out.trans hu8)
      clear hu8 HS3 HU7
      go_wp2
      exact ⟨⟨3, by omega, rfl, HU8.out⟩, by simp [intOf]⟩
    · go_wp2_with fail
      refine (HKN.out _ HU.out).mono ?_
      rintro e w5 ⟨rfl, hu5⟩
      have HU5 := hid (HU.out.trans hu5)
      clear hu5
      go_wp2
      go_ret
      exact ⟨rfl, HU5.out⟩
end Go.Proofs.YtofhaokbklfmmaaDoor
