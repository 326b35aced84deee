/- The contracts of resource's read, Decode and Cuts: what they give is St.dec of St.resL. Condition: the text is no longer than a text can be. -/
import Derived.Test.YtpahkhmheikebaaGreatDoorResElW
namespace Go.Proofs.YtpahkhmheikebaaGreatDoor
open Go.RowKit


/-- What a resource's raw content is read to. -/
def resD (raw : ByteArray) : List St.It × List Nat × Nat × Int := St.dec St.resL raw.size raw.data.toList 0 0 [] []
def ReadEnd (raw : ByteArray) (w : World) (e : Ending) (w' : World) : Prop :=
  Und w w' ∧ ((∃ its tx cuts d, e = .returned (.tuple #[.pointer (some ⟨w.heap.size, 0, none⟩), .int .i64 0, .int .i64 0]) ∧ BAt (mo2 d) w' w.heap.size w.heap.size its tx cuts ∧ its.length ≤ 512 ∧ cuts.length ≤ 1024 ∧ tx.length ≤ cuts.length ∧ resD raw = (its ++ St.txt tx, cuts ++ [d], 0, 0)) ∨
    ∃ (a : Nat) (er : Int), er ≠ 0 ∧ e = .returned (.tuple #[.pointer none, .int .i64 a, .int .i64 er]) ∧ resD raw = ([], [], a, er))
def RdRel (w : World) (raw : ByteArray) (s6 : Value) (wr : World) : Prop :=
  ∃ (a d : Nat) (its : List St.It) (tx : List UInt8) (cuts : List Nat) (fuel : Nat), s6 = .int .i64 a ∧ a ≤ raw.size ∧ raw.size - a ≤ fuel ∧ BAt (mo2 d) wr w.heap.size w.heap.size its tx cuts ∧ St.NoTxt its ∧ its.length ≤ 512 ∧ cuts.length ≤ 1024 ∧ tx.length ≤ cuts.length ∧
    resD raw = St.dec St.resL fuel (raw.data.toList.drop a) a d (its ++ St.txt tx) cuts ∧ Und w wr
theorem BAt.fresh (w : World) : BAt (mo2 0) (w.alloc (.cells #[.slice none 0 0, .slice none 0 0, .slice none 0 0, .int .i64 0, .int .i64 0] 79)) w.heap.size w.heap.size [] [] [] :=
  ⟨_, _, _, Nat.le_refl _, heap_alloc_new w _, World.ownsRow_nil _ _ _ _, World.ownsRow_nil _ _ _ _, World.ownsRow_nil _ _ _ _⟩

set_option maxRecDepth 20000 in
set_option maxHeartbeats 3200000 in
theorem read_any (raw : ByteArray) (w : World) (hr : raw.size ≤ 4611686018427387904) : Calls Tryz.prog 35 #[.string raw] w (ReadEnd raw w) := by
  have hB0 := hid (BAt.fresh w)
  go_enter Tryz.func35, Tryz.ntmps35
  go_wp2
  go_loopw [6] (fun s6 wr => RdRel w raw s6 wr) (fun s6 _ => raw.size + 1 - (intOf s6).toNat)
  case atStart => exact ⟨0, 0, [], [], [], raw.size, rfl, by omega, by omega, hB0.out, St.noTxt_nil, by simp, by simp, by simp, by simp [resD, St.txt], (by repeat (first | exact Und.refl _ | assumption | refine Und.under ?_ _ | refine Und.alloc ?_ _ | refine Und.drew ?_ | refine Und.drewN ?_ _))⟩
  case round =>
    obtain ⟨a, d, its, tx, cuts, fuel, rfl, ha, hfu, hB, hN, h1, h2, h3, hD, hu⟩ := hrel
    clear hB0
    by_cases hlt : a < raw.size
    · have hel := element_any wr w.heap.size w.heap.size its tx cuts d raw a hB hN h1 h2 h3 hu.size hlt hr
      have HEL := hid hel
      have HD := hid hD
      have HU := hid hu
      have HN := hid hN
      have h0 : raw.data.toList.drop a ≠ [] := by
        intro e
        have := congrArg List.length e
        simp at this; omega
      obtain ⟨fuel, rfl⟩ : ∃ m, fuel = m + 1 := ⟨fuel - 1, by omega⟩
      clear hel hB hN hD hu
      go_wp2_with fail
      refine HEL.out.mono ?_
      rintro e w2 ⟨hbl, hm⟩
      have hu2 : Und w w2 := Und.of_below (Below.trans HU.out.below hbl)
      have HU2 := hid hu2
      clear hbl hu2
      cases hs : St.resL (raw.data.toList.drop a) with
      | none =>
        rw [hs] at hm
        subst hm
        have hd2 := HD.out.trans (St.dec_none fuel a d _ cuts h0 hs)
        have HD2 := hid hd2
        clear hd2 hs h0
        go_wp2
        go_ret3
        exact ⟨HU2.out, .inr ⟨a, 2, by decide, rfl, HD2.out⟩⟩
      | some x =>
        obtain ⟨k, t, n⟩ := x
        rw [hs] at hm
        simp only at hm
        obtain ⟨_, hn1, hn2, _⟩ := St.res_len hs
        have hn3 : a + n ≤ raw.size := by simp at hn2; omega
        have hdl : (raw.data.toList.drop a).drop n = raw.data.toList.drop (a + n) := by rw [List.drop_drop]
        by_cases hk0 : k = 0
        · rw [if_pos hk0] at hm
          obtain ⟨rfl, hB'⟩ := hm
          subst hk0
          have hd2 := HD.out.trans (St.dec_skip fuel a d _ cuts h0 hs)
          rw [hdl] at hd2
          have HE := hid (And.intro hd2 (And.intro hB' HN.out))
          clear hd2 hB' hs h0 hdl HEL HD HU HN
          go_wp2
          exact ⟨⟨a + n, d, its, tx, cuts, fuel, congrArg (Value.int .i64) (by omega), hn3, by omega, HE.out.2.1, HE.out.2.2, h1, h2, h3, HE.out.1, HU2.out⟩, by simp [intOf]; omega⟩
        rw [if_neg hk0] at hm
        split at hm
        · rename_i hf
          subst hm
          have hd2 := HD.out.trans (St.dec_full fuel a d _ cuts h0 hs hk0 hf)
          have HD2 := hid hd2
          clear hd2 hs h0 hf hdl
          go_wp2
          go_ret3
          exact ⟨HU2.out, .inr ⟨a, 3, by decide, rfl, HD2.out⟩⟩
        · rename_i hf
          obtain ⟨rfl, its', tx', hB', hN', hadd, ht'⟩ := hm
          have hd2 := HD.out.trans (St.dec_step fuel a d _ cuts h0 hs hk0 hf)
          rw [← hadd] at hd2 hf
          rw [hdl] at hd2
          have hl5 : its'.length ≤ 512 := by have := (not_or.1 hf).1; simp at this; omega
          have hl6 : cuts.length + 1 ≤ 1024 := by have := (not_or.1 hf).2; omega
          have HE := hid (And.intro hd2 (And.intro hB' hN'))
          clear hd2 hB' hN' hadd hf hs h0 hdl HEL HD HU
          go_wp2
          exact ⟨⟨a + n, a + n, its', tx', cuts ++ [d], fuel, congrArg (Value.int .i64) (by omega), hn3, by omega, HE.out.2.1, HE.out.2.2, hl5, by simp; omega, by simp; omega, HE.out.1, HU2.out⟩, by simp [intOf]; omega⟩
    · have haz : a = raw.size := by omega
      subst haz
      have hnil : raw.data.toList.drop raw.size = [] := List.drop_of_length_le (by simp)
      rw [hnil, St.dec_nil] at hD
      have HE := hid (And.intro hu (And.intro hB hD))
      clear hlt hB hN hD hu hnil
      go_wp2
      go_ret3
      exact ⟨HE.out.1, .inl ⟨its, tx, cuts, d, rfl, HE.out.2.1, h1, h2, h3, HE.out.2.2⟩⟩

def DecEnd (R : List St.It × List Nat × Nat × Int) (w : World) (e : Ending) (w' : World) : Prop :=
  ∃ (A : Option Addr) (c : Nat), e = .returned (.tuple #[.slice A R.1.length c, .int .i64 (R.2.2.1 : Int), .int .i64 R.2.2.2]) ∧ ItemsAt w' A R.1 ∧ R.1.length ≤ c ∧ c ≤ 9223372036854775807 ∧ Und w w'
def CutsEnd (R : List St.It × List Nat × Nat × Int) (w : World) (e : Ending) (w' : World) : Prop :=
  ∃ (A : Option Addr) (c : Nat), e = .returned (.tuple #[.slice A R.2.1.length c, .int .i64 R.2.2.2]) ∧ NatsAt w' A R.2.1 ∧ R.2.1.length ≤ c ∧ c ≤ 9223372036854775807 ∧ Und w w'

set_option maxHeartbeats 3200000 in
theorem xdecode_any (raw : ByteArray) (w : World) (hr : raw.size ≤ 4611686018427387904) : Calls Tryz.prog 14 #[.string raw] w (DecEnd (resD raw) w) := by
  have HR := hid (read_any raw w hr)
  go_enter Tryz.func14, Tryz.ntmps14
  go_wp2_with fail
  refine HR.out.mono ?_
  rintro e w2 ⟨hu, ⟨its, tx, cuts, d, rfl, hB, h1, h2, h3, hD⟩ | ⟨a, er, her, rfl, hD⟩⟩
  · have HI := hid (items_any w2 w.heap.size w.heap.size its tx cuts hB (by omega) (by omega) hu.size)
    have HU := hid hu
    have HD := hid hD
    clear hu hB hD HR
    go_wp2_with fail
    refine HI.out.mono ?_
    rintro e w3 ⟨A, c, rfl, hI, hc1, hc2, hbl⟩
    have HE := hid (And.intro hI (Und.of_below (Below.trans HU.out.below hbl)))
    have hc1' := hid hc1
    clear hI hbl hc1
    go_wp2
    go_ret3
    unfold DecEnd
    rw [HD.out]
    exact ⟨A, c, by simp only [List.length_append]; rfl, HE.out.1, hc1'.out, hc2, HE.out.2⟩
  · have hb : (er == 0) = false := by simpa using her
    have HU := hid hu
    have HD := hid hD
    clear hu hD HR
    go_wp2
    go_ret3
    unfold DecEnd
    rw [HD.out]
    exact ⟨none, 0, rfl, fun h => absurd h (by simp), by simp, by omega, HU.out⟩

set_option maxRecDepth 20000 in
set_option maxHeartbeats 3200000 in
theorem xcuts_any (raw : ByteArray) (w : World) (hr : raw.size ≤ 4611686018427387904) : Calls Tryz.prog 18 #[.string raw] w (CutsEnd (resD raw) w) := by
  have HR := hid (read_any raw w hr)
  go_enter Tryz.func18, Tryz.ntmps18
  go_wp2_with fail
  refine HR.out.mono ?_
  rintro e w2 ⟨hu, ⟨its, tx, cuts, d, rfl, hB, h1, h2, h3, hD⟩ | ⟨a, er, her, rfl, hD⟩⟩
  · have HI := hid (bcuts_any w2.drew w.heap.size w.heap.size its tx cuts d (hB.und (Und.refl w2).drew) (by omega) (by simpa using hu.size))
    have HU := hid hu
    have HD := hid hD
    obtain ⟨c3, c4, f3, f4, hlt, hBb⟩ := hB.at
    haveI : LtW w.heap.size w2 := LtW.of hlt
    have hdw : Below w.heap.size w2 w2.drew := (Below.refl _ w2).drew
    clear hu hB hD HR
    go_wp2_with fail
    go_region_law (refine step_callE2 rfl 41 #[.pointer (some ⟨w.heap.size, 0, none⟩), .int .i64 d] _ HI.out ?_ ?_; (· go_simp); rintro e w3 ⟨A, c, rfl, hI, hc1, hc2, hbl⟩; refine ⟨_, rfl, ?_⟩)
    all_goals
      have HE := hid (And.intro hI (Und.of_below (Below.trans (Below.trans HU.out.below hdw) hbl)))
      have hc1' := hid hc1
      clear hI hbl hc1
      go_wp2
      refine bodyPost_ret (v := .tuple #[.slice A (cuts.length + 1) c, .int .i64 0]) (by simp [results, Tryz.results18, go_sem] <;> exact ⟨rfl, rfl⟩) rfl ?_
      unfold CutsEnd
      rw [HD.out]
      exact ⟨A, c, by simp, HE.out.1, by simpa using hc1'.out, hc2, HE.out.2⟩
  · have hb : (er == 0) = false := by simpa using her
    have HU := hid hu
    have HD := hid hD
    clear hu hD HR
    go_wp2
    go_ret2
    unfold CutsEnd
    rw [HD.out]
    exact ⟨none, 0, rfl, fun h => absurd h (by simp), by simp, by omega, HU.out⟩
/-- The error of a raw content, with its place. -/
def dE (l : List UInt8) : Nat × Int := ((St.dec St.resL l.length l 0 0 [] []).2.2.1, (St.dec St.resL l.length l 0 0 [] []).2.2.2)
theorem dE_of (x : ByteArray) : dE x.data.toList = ((resD x).2.2.1, (resD x).2.2.2) := by
  unfold dE resD
  rw [St.len_list]
theorem dec_at : ∀ (fuel : Nat) (l : List UInt8) (a d : Nat) (f : List St.It) (cuts : List Nat), (St.dec St.resL fuel l a d f cuts).2.2.1 ≤ a + l.length
  | 0, l, a, d, f, cuts => by simp [St.dec]
  | fuel + 1, l, a, d, f, cuts => by
    by_cases h0 : l = []
    · subst h0; rw [St.dec_nil]; simp
    · cases hs : St.resL l with
      | none => rw [St.dec_none fuel a d f cuts h0 hs]; simp
      | some x =>
        obtain ⟨k, t, n⟩ := x
        obtain ⟨_, hn1, hn2, _⟩ := St.res_len hs
        by_cases hk : k = 0
        · subst hk
          rw [St.dec_skip fuel a d f cuts h0 hs]
          have h := dec_at fuel (l.drop n) (a + n) d f cuts
          rw [List.length_drop] at h
          omega
        by_cases hf : 512 < (St.addI f (k, t, 0)).length ∨ 1024 ≤ cuts.length
        · rw [St.dec_full fuel a d f cuts h0 hs (by omega) hf]; simp
        · rw [St.dec_step fuel a d f cuts h0 hs (by omega) hf]
          have h := dec_at fuel (l.drop n) (a + n) (a + n) (St.addI f (k, t, 0)) (cuts ++ [d])
          rw [List.length_drop] at h
          omega
theorem resD_at (x : ByteArray) : (resD x).2.2.1 ≤ x.size := by
  have := dec_at x.size x.data.toList 0 0 [] []
  rw [St.len_list] at this
  unfold resD; omega
end Go.Proofs.YtpahkhmheikebaaGreatDoor
