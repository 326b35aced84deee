/- The contract of the maker Raws: pieces, each in a form of its position's item. Conditions: as MakeGen's; longer's contract at the format. -/
import Derived.Test.YthoemdibbldndaaGreatDoorRawsPl
import Derived.Test.YthoemdibbldndaaGreatDoorRefSlice
set_option linter.unusedVariables false
set_option linter.unusedSimpArgs false
namespace Go.Proofs.YthoemdibbldndaaGreatDoor
open Go.RowKit

/-- longer's contract at a format. -/
def LongAt (fmt : Int) : Prop := ∀ (B g P : Nat) (p : St.It) (w : World), GenP w B g P → P ≤ 1000000 → St.Pos1 p →
  Calls Tryz.prog 175 #[.pointer (some ⟨g, 0, none⟩), .int .i64 fmt, .agg #[.int .i64 p.1, .string ⟨p.2.1.toArray⟩, .int .i64 p.2.2], .string ⟨(St.encI fmt p).toArray⟩] w fun e w' => ∃ b : List UInt8, e = .returned (.string ⟨b.toArray⟩) ∧ St.formB fmt p b ∧ GenP w' B g (P + 1) ∧ w.grownBy w' (some g)
set_option maxHeartbeats 1600000 in
theorem long_sheet : LongAt 3 := by
  intro B g P p w hG hP hp
  have HG := hid hG
  obtain ⟨hgB, hB⟩ := hG.lt
  obtain ⟨k, t, i⟩ := p
  simp only
  clear hG
  go_enter Tryz.func175, Tryz.ntmps175
  go_wp2
  go_ret
  exact ⟨_, rfl, .inl rfl, (HG.out.und ((Und.refl _).alloc _)).le (by omega), ((Und.refl w).alloc _).gb _⟩
set_option maxHeartbeats 1600000 in
theorem long_resource : LongAt 2 := by
  intro B g P p w hG hP hp
  have hgB := hG.lt
  by_cases hx : p.1 = 1 ∧ p.2.1 = [32]
  · have HG := hid hG
    obtain ⟨k, t, i⟩ := p
    simp only at hx
    obtain ⟨rfl, rfl⟩ := hx
    clear hG hp
    simp only
    go_enter Tryz.func175, Tryz.ntmps175
    go_wp2
    go_ret
    exact ⟨[92, 115], rfl, .inr (.inr ⟨rfl, .inl ⟨rfl, rfl, rfl⟩⟩), (HG.out.und ((Und.refl _).alloc _)).le (by omega), ((Und.refl w).alloc _).gb _⟩
  · have hl := (St.encI_len hp 2).1
    refine (longer_res B g P p.1 p.2.1 p.2.2 (St.encI 2 p) w hG hP (by omega) hx).mono ?_
    rintro e w' ⟨r, hr, rfl, h1, h2⟩
    exact ⟨_, rfl, .inr (.inr ⟨rfl, .inr ⟨r, hr, rfl⟩⟩), h1, h2⟩
def RwRel (w : World) (fmt : Int) (B g P : Nat) (f : List St.It) (s7 s8 : Value) (wr : World) : Prop :=
  ∃ (i : Nat) (raw : ByteArray) (ps : List (List UInt8 × St.It)), i ≤ St.lenL f ∧ s8 = .int .i64 i ∧ s7 = .string raw ∧ raw.data.toList = St.flatP ps ∧ St.itsP ps = (St.posI f).take i ∧ (∀ p ∈ ps, St.formB fmt p.2 p.1) ∧ raw.size ≤ 40 * i ∧ GenP wr B g (P + 2 * i) ∧ w.grownBy wr (some g)
/-- What Raws gives: pieces of f's positions. -/
def RawsOf (fmt : Int) (f : List St.It) (raw : ByteArray) : Prop := ∃ ps : List (List UInt8 × St.It), raw.data.toList = St.flatP ps ∧ St.itsP ps = St.posI f ∧ ∀ p ∈ ps, St.formB fmt p.2 p.1
theorem items_gb {w w' : World} {A : Option Addr} {f : List St.It} {g : Nat} (h : ItemsAt w A f) (k : w.grownBy w' (some g)) (hne : ∀ b off, A = some ⟨b, off, none⟩ → b ≠ g) : ItemsAt w' A f := by
  intro h0
  obtain ⟨b, off, rfl, hb, hc⟩ := h h0
  refine ⟨b, off, rfl, Nat.lt_of_lt_of_le hb k.size, fun j hj => ?_⟩
  obtain ⟨c0, c1, c2⟩ := hc j hj
  have hn := hne b off rfl
  exact ⟨(gb_cell k (p := ⟨b, _, none⟩) hb (by simpa using hn)).trans c0, (gb_cell k (p := ⟨b, _, none⟩) hb (by simpa using hn)).trans c1, (gb_cell k (p := ⟨b, _, none⟩) hb (by simpa using hn)).trans c2⟩
theorem its_len (ps : List (List UInt8 × St.It)) : (St.itsP ps).length = ps.length := by simp [St.itsP]

set_option maxRecDepth 20000 in
set_option maxHeartbeats 12800000 in
theorem raws_gen (fmt : Int) (hL : LongAt fmt) (B g P : Nat) (A : Option Addr) (n c : Nat) (f : List St.It) (w : World) (hG : GenP w B g P) (hP : P ≤ 100000) (hn : f.length = n) (hnc : n ≤ c) (hc63 : c ≤ 9223372036854775807) (h : ItemsAt w A f) (hne : ∀ b off, A = some ⟨b, off, none⟩ → b ≠ g)
    (hl : n ≤ 1000) (ht : tot f ≤ 10000) (hgood : GoodF f) :
    Calls Tryz.prog 133 #[.pointer (some ⟨g, 0, none⟩), .int .i64 fmt, .slice A n c] w fun e w' => ∃ raw : ByteArray, e = .returned (.string raw) ∧ RawsOf fmt f raw ∧ raw.size ≤ 40 * (tot f + n) ∧ GenP w' B g (P + 2 * (tot f + n)) ∧ w.grownBy w' (some g) := by
  have HG := hid hG
  have H := hid h
  have HN := hid hn
  have HNE := hid hne
  have HGD := hid hgood
  have HLG := hid hL
  obtain ⟨hgB, hB⟩ := hG.lt
  have hll : St.lenL f ≤ tot f + n := by have := lenL_tot f; omega
  clear hG h hn hne hgood hL
  go_enter Tryz.func133, Tryz.ntmps133
  go_wp2_with fail
  go_loopw [7, 8] (fun s7 s8 wr => RwRel w fmt B g P f s7 s8 wr) (fun _ s8 _ => St.lenL f + 1 - (intOf s8).toNat)
  case atStart => exact ⟨0, ⟨#[]⟩, [], by omega, rfl, rfl, rfl, rfl, (fun p hp => by cases hp), by show 0 ≤ _; omega, HG.out, gb_refl _ _⟩
  case round =>
    clear HG
    obtain ⟨i, raw, ps, hi, rfl, rfl, hraw, hits, hform, hrs, hG, hk⟩ := hrel
    have HG := hid hG
    have HK := hid hk
    have HRAW := hid hraw
    have HITS := hid hits
    have HFORM := hid hform
    have hI := items_gb H.out hk HNE.out
    have HI := hid hI
    have hlen := hid (rlength_any A n c f wr HN.out hI (by omega) (by omega))
    have hsz := hk.size
    clear hG hk hraw hits hform hI
    by_cases hlt : i < St.lenL f
    · have z1 : (i : Int) < (St.lenL f : Nat) := by omega
      have hpl : i < (St.posI f).length := by rw [St.pos_len]; exact hlt
      have hone := St.slice_one i f 0 (good_zero HGD.out) (by omega) (by simpa using hpl)
      have hp1 := good_pos HGD.out (St.posI f)[i] (List.getElem_mem hpl)
      have htk : (St.posI f).take (i + 1) = (St.posI f).take i ++ [(St.posI f)[i]] := by rw [List.take_add_one, List.getElem?_eq_getElem hpl]; rfl
      simp only [Nat.sub_zero] at hone
      have hsl := rslice_any A n c f i (i + 1) wr HN.out HI.out (by omega) (by omega) (by omega) (by omega)
      rw [hone] at hsl
      generalize (St.posI f)[i] = p at hone hp1 htk hsl
      have hpt := St.pos_tot hp1
      have HSL := hid hsl
      have HP1 := hid hp1
      have stp : ∀ (b : List UInt8), St.formB fmt p b → (raw ++ (⟨b.toArray⟩ : ByteArray)).data.toList = St.flatP (ps ++ [(b, p)]) ∧ St.itsP (ps ++ [(b, p)]) = (St.posI f).take (i + 1) ∧ (∀ q ∈ ps ++ [(b, p)], St.formB fmt q.2 q.1) ∧ (raw ++ (⟨b.toArray⟩ : ByteArray)).size ≤ 40 * (i + 1) := by
        intro b hb
        refine ⟨?_, ?_, ?_, ?_⟩
        · unfold St.flatP; rw [List.flatMap_append]; simp; rw [HRAW.out]; rfl
        · rw [htk, ← HITS.out]; simp [St.itsP]
        · intro q hq
          rcases List.mem_append.1 hq with hq | hq
          · exact HFORM.out q hq
          · simp at hq; subst hq; exact hb
        · rw [ByteArray.size_append]
          have := St.form_len hp1 hb
          have : (⟨b.toArray⟩ : ByteArray).size = b.length := by show b.toArray.size = _; simp
          omega
      have STP := hid stp
      have hel := (St.encI_len hp1 fmt).1
      have hez : (⟨(St.encI fmt p).toArray⟩ : ByteArray).size = (St.encI fmt p).length := by show (St.encI fmt p).toArray.size = _; simp
      clear hone hp1 htk hsl stp
      go_wp2_with fail
      refine hlen.out.mono ?_
      rintro e w2 ⟨rfl, rfl⟩
      go_wp2_with fail
      refine HSL.out.mono ?_
      rintro e w2 ⟨v, rfl, ho, hu2⟩
      obtain ⟨A2, c2, rfl, hc2, hc3, hA2⟩ := own_slice' ho
      simp only [List.length_singleton] at ho hc2 ⊢
      obtain ⟨g2, rfl, hg2a, hg2, hg2c⟩ := own_cell ho (by omega)
      have q0 := hg2c 0 _ (show (cellsIt [p])[0]? = some (.int .i64 p.1) from rfl)
      have q1 := hg2c 1 _ (show (cellsIt [p])[1]? = some (.string ⟨p.2.1.toArray⟩) from rfl)
      have q2 := hg2c 2 _ (show (cellsIt [p])[2]? = some (.int .i64 p.2.2) from rfl)
      have hit := items_own ho rfl
      have henc := rencode_any fmt (some ⟨g2, 0, none⟩) 1 c2 [p] w2 rfl hc2 (by unfold maxLen at hc3; omega) (fun e => by cases e) hit (by omega) (by simp [tot]; omega)
      rw [St.pos_enc HP1.out fmt] at henc
      have HENC := hid henc
      have HK2 := hid (gb_und HK.out hu2)
      have HG2 := hid (HG.out.und hu2)
      clear henc hit hg2c ho hu2 hlen HSL HK HG
      go_wp2_with fail
      refine HENC.out.mono ?_
      rintro e w3 ⟨rfl, hu3⟩
      have HK3 := hid (gb_und HK2.out hu3)
      have HG3 := hid (HG2.out.und hu3)
      have e0 := (hu3.cell hg2).trans q0
      have e1 := (hu3.cell hg2).trans q1
      have e2 := (hu3.cell hg2).trans q2
      have hg2' : g2 ≠ g := by omega
      clear hu3 HENC HK2 HG2 q0 q1 q2
      go_wp2_with fail
      refine (next_gen B g _ 3 _ HG3.out (by omega) (by omega) (by omega)).mono ?_
      rintro e w4 ⟨r, rfl, hr, hG4, hk4⟩
      have HG4 := hid hG4
      have HK4 := hid (gb_trans HK3.out hk4 (fun _ e => .inl e))
      have hg3 := World.block_lt_of_cell? _ _ e0
      have d0 := (gb_cell hk4 (p := ⟨g2, 0, none⟩) hg3 (by simpa using hg2')).trans e0
      have d1 := (gb_cell hk4 (p := ⟨g2, 1, none⟩) hg3 (by simpa using hg2')).trans e1
      have d2 := (gb_cell hk4 (p := ⟨g2, 2, none⟩) hg3 (by simpa using hg2')).trans e2
      haveI : LtW g2 w4 := LtW.of (World.block_lt_of_cell? _ _ d0)
      clear hG4 hk4 HG3 HK3 e0 e1 e2
      by_cases hr0 : r = 0
      · subst hr0
        go_wp2_with fail
        refine (HLG.out B g _ p _ HG4.out (by omega) HP1.out).mono ?_
        rintro e w5 ⟨b, rfl, hb, hG5, hk5⟩
        obtain ⟨s1, s2, s3, s4⟩ := STP.out b hb
        have hbl := St.form_len HP1.out hb
        have hbz : (⟨b.toArray⟩ : ByteArray).size = b.length := by show b.toArray.size = _; simp
        have HE := hid (And.intro s1 (And.intro s2 (And.intro s3 (And.intro hG5 (gb_trans HK4.out hk5 (fun _ e => .inl e))))))
        have y1 : ¬ 9223372036854775807 < raw.size + b.length := by omega
        clear s1 s2 s3 hG5 hk5 hb
        go_wp2
        exact ⟨⟨i + 1, _, _, by omega, congrArg (Value.int .i64) (by omega), rfl, HE.out.1, HE.out.2.1, HE.out.2.2.1, s4, HE.out.2.2.2.1.le (by omega), HE.out.2.2.2.2⟩, by simp [intOf]; omega⟩
      · have z2 : ((r : Int) == 0) = false := by simp; omega
        obtain ⟨s1, s2, s3, s4⟩ := STP.out (St.encI fmt p) (.inl rfl)
        have HE := hid (And.intro s1 (And.intro s2 s3))
        have y1 : ¬ 9223372036854775807 < raw.size + (St.encI fmt p).length := by omega
        clear s1 s2 s3 hr0
        go_wp2
        exact ⟨⟨i + 1, _, _, by omega, congrArg (Value.int .i64) (by omega), rfl, HE.out.1, HE.out.2.1, HE.out.2.2, s4, HG4.out.le (by omega), HK4.out⟩, by simp [intOf]; omega⟩
    · have z1 : ¬ (i : Int) < (St.lenL f : Nat) := by omega
      have hfin : RawsOf fmt f raw := ⟨ps, HRAW.out, by rw [HITS.out, List.take_of_length_le (by rw [St.pos_len]; omega)], HFORM.out⟩
      have HFIN := hid hfin
      clear hfin
      go_wp2_with fail
      refine hlen.out.mono ?_
      rintro e w2 ⟨rfl, rfl⟩
      go_wp2
      go_ret
      exact ⟨raw, rfl, HFIN.out, by omega, HG.out.le (by omega), HK.out⟩
end Go.Proofs.YthoemdibbldndaaGreatDoor
