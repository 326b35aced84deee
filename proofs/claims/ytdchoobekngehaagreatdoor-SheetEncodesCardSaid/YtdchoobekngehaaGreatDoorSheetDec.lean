/- The contracts of sheet's read, Decode and Cuts: what they give is St.dec of St.sheetL. Condition: the text is no longer than a text can be. -/
import Derived.Test.YtdchoobekngehaaGreatDoorSheetElW
namespace Go.Proofs.YtdchoobekngehaaGreatDoor
open Go.RowKit


/-- What a sheet's raw content is read to. -/
def sheetD (raw : ByteArray) : List St.It × List Nat × Nat × Int := St.dec St.sheetL raw.size raw.data.toList 0 0 [] []
def ReadEnd (raw : ByteArray) (w : World) (e : Ending) (w' : World) : Prop :=
  Und w w' ∧ ((∃ its tx cuts, e = .returned (.tuple #[.pointer (some ⟨w.heap.size, 0, none⟩), .int .i64 0, .int .i64 0]) ∧ BAt w' w.heap.size w.heap.size its tx cuts ∧ its.length ≤ 512 ∧ cuts.length ≤ 1024 ∧ tx.length ≤ cuts.length ∧ sheetD raw = (its ++ St.txt tx, cuts ++ [raw.size], 0, 0)) ∨
    ∃ (a : Nat) (er : Int), er ≠ 0 ∧ e = .returned (.tuple #[.pointer none, .int .i64 a, .int .i64 er]) ∧ sheetD raw = ([], [], a, er))
def RdRel (w : World) (raw : ByteArray) (s6 : Value) (wr : World) : Prop :=
  ∃ (a : Nat) (its : List St.It) (tx : List UInt8) (cuts : List Nat) (fuel : Nat), s6 = .int .i64 a ∧ a ≤ raw.size ∧ raw.size - a ≤ fuel ∧ BAt wr w.heap.size w.heap.size its tx cuts ∧ St.NoTxt its ∧ its.length ≤ 512 ∧ cuts.length ≤ 1024 ∧ tx.length ≤ cuts.length ∧
    sheetD raw = St.dec St.sheetL fuel (raw.data.toList.drop a) a a (its ++ St.txt tx) cuts ∧ Und w wr
theorem BAt.fresh (w : World) : BAt (w.alloc (.cells #[.slice none 0 0, .slice none 0 0, .slice none 0 0] 108)) w.heap.size w.heap.size [] [] [] :=
  ⟨_, _, _, Nat.le_refl _, heap_alloc_new w _, World.ownsRow_nil _ _ _ _, World.ownsRow_nil _ _ _ _, World.ownsRow_nil _ _ _ _⟩

set_option maxRecDepth 20000 in
set_option maxHeartbeats 3200000 in
theorem read_any (raw : ByteArray) (w : World) (hr : raw.size ≤ 4611686018427387904) : Calls Tryz.prog 34 #[.string raw] w (ReadEnd raw w) := by
  have hB0 := hid (BAt.fresh w)
  go_enter Tryz.func34, Tryz.ntmps34
  go_wp2
  go_loopw [6] (fun s6 wr => RdRel w raw s6 wr) (fun s6 _ => raw.size + 1 - (intOf s6).toNat)
  case atStart => exact ⟨0, [], [], [], raw.size, rfl, by omega, by omega, hB0.out, St.noTxt_nil, by simp, by simp, by simp, by simp [sheetD, St.txt], (by repeat (first | exact Und.refl _ | assumption | refine Und.under ?_ _ | refine Und.alloc ?_ _ | refine Und.drew ?_ | refine Und.drewN ?_ _))⟩
  case round =>
    obtain ⟨a, its, tx, cuts, fuel, rfl, ha, hfu, hB, hN, h1, h2, h3, hD, hu⟩ := hrel
    clear hB0
    by_cases hlt : a < raw.size
    · have hel := element_any wr w.heap.size w.heap.size its tx cuts raw a hB hN h1 h2 h3 hu.size hlt hr
      have HEL := hid hel
      have HD := hid hD
      have HU := hid hu
      have h0 : raw.data.toList.drop a ≠ [] := by
        intro e
        have := congrArg List.length e
        simp at this; omega
      obtain ⟨fuel, rfl⟩ : ∃ m, fuel = m + 1 := ⟨fuel - 1, by omega⟩
      clear hel hB hN hD hu
      go_wp2_with fail
      refine HEL.out.mono ?_
      rintro e w2 ⟨hbl, hm⟩
      have hu2 : Und w w2 := Und.of_below (Below.trans HU.out.below hbl)
      have HU2 := hid hu2
      clear hbl hu2
      cases hs : St.sheetL (raw.data.toList.drop a) with
      | none =>
        rw [hs] at hm
        subst hm
        have hd2 := HD.out.trans (St.dec_none fuel a a _ cuts h0 hs)
        have HD2 := hid hd2
        clear hd2 hs h0
        go_wp2
        go_ret3
        exact ⟨HU2.out, .inr ⟨a, 2, by decide, rfl, HD2.out⟩⟩
      | some x =>
        obtain ⟨k, t, n⟩ := x
        rw [hs] at hm
        simp only at hm
        obtain ⟨hk, hn1, hn2⟩ := St.sheet_len hs
        have hk0 : k ≠ 0 := by omega
        split at hm
        · rename_i hf
          subst hm
          have hd2 := HD.out.trans (St.dec_full fuel a a _ cuts h0 hs hk0 hf)
          have HD2 := hid hd2
          clear hd2 hs h0 hf
          go_wp2
          go_ret3
          exact ⟨HU2.out, .inr ⟨a, 3, by decide, rfl, HD2.out⟩⟩
        · rename_i hf
          obtain ⟨rfl, its', tx', hB', hN', hadd, ht'⟩ := hm
          have hd2 := HD.out.trans (St.dec_step fuel a a _ cuts h0 hs hk0 hf)
          rw [← hadd] at hd2 hf
          have hdl : (raw.data.toList.drop a).drop n = raw.data.toList.drop (a + n) := by rw [List.drop_drop]
          rw [hdl] at hd2
          have hn3 : a + n ≤ raw.size := by simp at hn2; omega
          have hl5 : its'.length ≤ 512 := by have := (not_or.1 hf).1; simp at this; omega
          have hl6 : cuts.length + 1 ≤ 1024 := by have := (not_or.1 hf).2; omega
          have HE := hid (And.intro hd2 (And.intro hB' hN'))
          clear hd2 hB' hN' hadd hf hs h0 hdl HEL HD HU
          go_wp2
          exact ⟨⟨a + n, its', tx', cuts ++ [a], fuel, congrArg (Value.int .i64) (by omega), hn3, by omega, HE.out.2.1, HE.out.2.2, hl5, by simp; omega, by simp; omega, HE.out.1, HU2.out⟩, by simp [intOf]; omega⟩
    · have haz : a = raw.size := by omega
      subst haz
      have hnil : raw.data.toList.drop raw.size = [] := List.drop_of_length_le (by simp)
      rw [hnil, St.dec_nil] at hD
      have HE := hid (And.intro hu (And.intro hB hD))
      clear hlt hB hN hD hu hnil
      go_wp2
      go_ret3
      exact ⟨HE.out.1, .inl ⟨its, tx, cuts, rfl, HE.out.2.1, h1, h2, h3, HE.out.2.2⟩⟩

def DecEnd (R : List St.It × List Nat × Nat × Int) (w : World) (e : Ending) (w' : World) : Prop :=
  ∃ (A : Option Addr) (c : Nat), e = .returned (.tuple #[.slice A R.1.length c, .int .i64 (R.2.2.1 : Int), .int .i64 R.2.2.2]) ∧ ItemsAt w' A R.1 ∧ R.1.length ≤ c ∧ c ≤ 9223372036854775807 ∧ Und w w'
def CutsEnd (R : List St.It × List Nat × Nat × Int) (w : World) (e : Ending) (w' : World) : Prop :=
  ∃ (A : Option Addr) (c : Nat), e = .returned (.tuple #[.slice A R.2.1.length c, .int .i64 R.2.2.2]) ∧ NatsAt w' A R.2.1 ∧ R.2.1.length ≤ c ∧ c ≤ 9223372036854775807 ∧ Und w w'

set_option maxHeartbeats 3200000 in
theorem sdecode_any (raw : ByteArray) (w : World) (hr : raw.size ≤ 4611686018427387904) : Calls Tryz.prog 14 #[.string raw] w (DecEnd (sheetD raw) w) := by
  have HR := hid (read_any raw w hr)
  go_enter Tryz.func14, Tryz.ntmps14
  go_wp2_with fail
  refine HR.out.mono ?_
  rintro e w2 ⟨hu, ⟨its, tx, cuts, rfl, hB, h1, h2, h3, hD⟩ | ⟨a, er, her, rfl, hD⟩⟩
  · have HI := hid (items_any w2 w.heap.size w.heap.size its tx cuts hB (by omega) (by omega) hu.size)
    have HU := hid hu
    have HD := hid hD
    clear hu hB hD HR
    go_wp2_with fail
    refine HI.out.mono ?_
    rintro e w3 ⟨A, c, rfl, hI, hc1, hc2, hbl⟩
    have HE := hid (And.intro hI (Und.of_below (Below.trans HU.out.below hbl)))
    have hc1' := hid hc1
    clear hI hbl hc1
    go_wp2
    go_ret3
    unfold DecEnd
    rw [HD.out]
    exact ⟨A, c, by simp only [List.length_append]; rfl, HE.out.1, hc1'.out, hc2, HE.out.2⟩
  · have hb : (er == 0) = false := by simpa using her
    have HU := hid hu
    have HD := hid hD
    clear hu hD HR
    go_wp2
    go_ret3
    unfold DecEnd
    rw [HD.out]
    exact ⟨none, 0, rfl, fun h => absurd h (by simp), by simp, by omega, HU.out⟩

set_option maxHeartbeats 3200000 in
theorem scuts_any (raw : ByteArray) (w : World) (hr : raw.size ≤ 4611686018427387904) : Calls Tryz.prog 19 #[.string raw] w (CutsEnd (sheetD raw) w) := by
  have HR := hid (read_any raw w hr)
  go_enter Tryz.func19, Tryz.ntmps19
  go_wp2_with fail
  refine HR.out.mono ?_
  rintro e w2 ⟨hu, ⟨its, tx, cuts, rfl, hB, h1, h2, h3, hD⟩ | ⟨a, er, her, rfl, hD⟩⟩
  · have HI := hid (bcuts_any w2 w.heap.size w.heap.size its tx cuts raw.size hB (by omega) hu.size)
    have HU := hid hu
    have HD := hid hD
    clear hu hB hD HR
    go_wp2_with fail
    refine HI.out.mono ?_
    rintro e w3 ⟨A, c, rfl, hI, hc1, hc2, hbl⟩
    have HE := hid (And.intro hI (Und.of_below (Below.trans HU.out.below hbl)))
    have hc1' := hid hc1
    clear hI hbl hc1
    go_wp2
    go_ret2
    unfold CutsEnd
    rw [HD.out]
    exact ⟨A, c, by simp, HE.out.1, by simpa using hc1'.out, hc2, HE.out.2⟩
  · have hb : (er == 0) = false := by simpa using her
    have HU := hid hu
    have HD := hid hD
    clear hu hD HR
    go_wp2
    go_ret2
    unfold CutsEnd
    rw [HD.out]
    exact ⟨none, 0, rfl, fun h => absurd h (by simp), by simp, by omega, HU.out⟩
end Go.Proofs.YtdchoobekngehaaGreatDoor
