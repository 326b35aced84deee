/- The contracts of the law package's made, raws and changed. Conditions: the lists lie in memory. The contract of the maker Data at a resource: a head and units of raw contents. Conditions: as MakeGen's. Plain: the pieces of a resource's raw value that the maker writes. No program in sight. The laws ResourceReads and ResourceDecodes: walks. No condition. The law ResourceSplits: walk. No condition. Plain: the parts of a file: they join to its bytes, alternate, and every unit is read. No program in sight. Plain: a file that the maker writes has no error. No program in sight. The law ResourceParts: walk. No condition. -/
import Derived.Test.YtkofmnbgcekjmaaDoorMakeRaws
import Derived.Lib.ConvBytes
import Derived.Test.YtkofmnbgcekjmaaDoorFacts
import Derived.Test.YtkofmnbgcekjmaaDoorRefDec
import Derived.Test.YtkofmnbgcekjmaaDoorMakeLong
import Derived.Test.YtkofmnbgcekjmaaDoorResPl
import Derived.Test.YtkofmnbgcekjmaaDoorRawsPl
import Derived.Test.YtkofmnbgcekjmaaDoorRefEl2
import Derived.Test.YtkofmnbgcekjmaaDoorRefSame
import Derived.Test.YtkofmnbgcekjmaaDoorResKnown
import Derived.Test.YtkofmnbgcekjmaaDoorRefRes
import Derived.Test.YtkofmnbgcekjmaaDoorResSplit
import Derived.Test.YtkofmnbgcekjmaaDoorResSplPl

namespace Go.Proofs.YtkofmnbgcekjmaaDoor
open Go.RowKit

/-- A fragment in memory. -/
def FragAt (w : World) (A : Option Addr) (c : Nat) (f : List St.It) (n : Nat) : Prop := ItemsAt w A f ∧ GoodF f ∧ f.length ≤ n ∧ tot f ≤ 18 * n ∧ f.length ≤ c ∧ c ≤ 9223372036854775807 ∧ ∀ b off, A = some ⟨b, off, none⟩ → b < w.heap.size
theorem FragAt.und {w w' : World} {A : Option Addr} {c : Nat} {f : List St.It} {n : Nat} (h : FragAt w A c f n) (u : Und w w') : FragAt w' A c f n := by
  obtain ⟨h1, h2, h3, h4, h5, h6, h7⟩ := h
  exact ⟨h1.und u, h2, h3, h4, h5, h6, fun b off e => Nat.lt_of_lt_of_le (h7 b off e) u.size⟩
theorem own_block_lt {w : World} {B n c : Nat} {A : Option Addr} {e : TypeId} {size : Nat} {xs : List Value} (h : w.ownsRow B e size (.slice A n c) n xs) : ∀ b off, A = some ⟨b, off, none⟩ → b < w.heap.size := by
  intro b off e'
  subst e'
  exact (h.lt b rfl).2
set_option maxHeartbeats 3200000 in
theorem made_any (A : Option Addr) (n c : Nat) (zs : List Int) (w : World) (hz : zs.length = n) (hn : n ≤ 9223372036854775807) (hI : IntsAt w A zs) :
    Calls Tryd.prog 34 #[.slice A n c] w fun e w' => ∃ A2 c2 f, e = .returned (.slice A2 f.length c2) ∧ FragAt w' A2 c2 f 8 ∧ Und w w' := by
  have HG := hid (GenP.fresh (c := c) (T := 49) hn hz hI)
  clear hI
  go_enter Tryd.func34, Tryd.ntmps34
  go_wp2_with fail
  refine (frag_gen (w.heap.size + 1) w.heap.size 0 8 _ HG.out (by omega) (by omega)).mono ?_
  rintro e w2 ⟨v, f, rfl, ho, hgd, hfl, hft, hG2, hk⟩
  obtain ⟨A2, c2, rfl, h1, h2, _⟩ := own_slice' ho
  have hu : Und w w2 := ((Und.refl w).alloc _).of_gb hk (fun g e => by cases e; exact Nat.le_refl _)
  have hF : FragAt w2 A2 c2 f 8 := ⟨items_own ho rfl, hgd, hfl, hft, h1, by unfold maxLen at h2; omega, own_block_lt ho⟩
  have HE := hid (And.intro hF hu)
  clear ho hgd hG2 hk hu hF
  go_wp2
  go_ret
  exact ⟨A2, c2, f, rfl, HE.out.1, HE.out.2⟩
set_option maxHeartbeats 3200000 in
theorem raws_any (A B : Option Addr) (n c m d : Nat) (zs ys : List Int) (w : World) (hz : zs.length = n) (hn : n ≤ 9223372036854775807) (hI : IntsAt w A zs) (hy : ys.length = m) (hm : m ≤ 9223372036854775807) (hJ : IntsAt w B ys) :
    Calls Tryd.prog 15 #[.slice A n c, .slice B m d] w fun e w' => ∃ raw A2 c2 f, e = .returned (.tuple #[.string raw, .slice A2 f.length c2]) ∧ FragAt w' A2 c2 f 8 ∧ RawsOf 2 f raw ∧ raw.size ≤ 6080 ∧ Und w w' := by
  have HM := hid (made_any A n c zs w hz hn hI)
  have HJ := hid hJ
  clear hI hJ
  go_enter Tryd.func15, Tryd.ntmps15
  go_wp2_with fail
  refine HM.out.mono ?_
  rintro e w2 ⟨A2, c2, f, rfl, hF, hu⟩
  have HG := hid (GenP.fresh (c := d) (T := 49) hm hy (HJ.out.und hu))
  have HF := hid hF
  have HU := hid hu
  clear hF hu HM
  go_wp2_with fail
  refine (raws_gen 2 long_resource (w2.heap.size + 1) w2.heap.size 0 A2 f.length c2 f _ HG.out (by omega) rfl HF.out.2.2.2.2.1 HF.out.2.2.2.2.2.1 (HF.out.1.und ((Und.refl _).alloc _)) (fun b off e => by have := HF.out.2.2.2.2.2.2 b off e; omega) (by have := HF.out.2.2.1; omega) (by have := HF.out.2.2.2.1; omega) HF.out.2.1).mono ?_
  rintro e w3 ⟨raw, rfl, hR, hrs, hG3, hk⟩
  have hu3 : Und w2 w3 := ((Und.refl w2).alloc _).of_gb hk (fun g e => by cases e; exact Nat.le_refl _)
  have hb1 := HF.out.2.2.1
  have hb2 := HF.out.2.2.2.1
  have HE := hid (And.intro (HF.out.und hu3) (And.intro hR (HU.out.trans hu3)))
  clear hR hG3 hk hu3 HF HU HG
  go_wp2
  go_ret2
  exact ⟨raw, A2, c2, f, rfl, HE.out.1, HE.out.2.1, by omega, HE.out.2.2⟩
theorem frozen_past (w : World) (s : ByteArray) (j : Nat) (hj : j < s.size) : (Lib.bytesWorld w 5 s).frozen? ⟨w.heap.size, j, none⟩ = false := by
  have h := Lib.bytesWorld_at_new w 5 s
  have hs : s.size ≤ (Lib.bytesCells w 5 s).size := by unfold Lib.bytesCells; simp
  unfold World.frozen?
  simp only [h]
  simp
  omega
set_option maxRecDepth 20000 in
set_option maxHeartbeats 3200000 in
theorem changed_any (s : ByteArray) (at' by' : Int) (w : World) (hs : s.size ≤ 1000000) :
    Calls Tryd.prog 16 #[.string s, .int .i64 at', .int .u8 by'] w fun e w' => ∃ u : ByteArray, e = .returned (.string u) ∧ u.size = s.size ∧ Und w w' := by
  have hb : Below w.heap.size w (Lib.bytesWorld w 5 s) := ⟨rfl, rfl, rfl, by rw [Lib.bytesWorld_size]; omega, fun k hk => Lib.bytesWorld_at_old w _ _ k hk⟩
  have hcv := Lib.run_convert_string_bytes w 9 22 5 s Tryd.underlying9 Tryd.underlying22 Tryd.underlying5
  have hcell := fun j hj => Lib.bytesWorld_cell w 5 s j hj
  have hfr := fun j hj => frozen_past w s j hj
  have hsz := Lib.bytesWorld_size w 5 s
  have hcb := grownCap_ge w s.size 0 5
  have hcm := grownCap_le_maxLen w s.size 0 5 (by unfold maxLen; omega)
  generalize Lib.bytesWorld w 5 s = w1 at hb hcv hcell hfr hsz
  generalize grownCap w s.size 0 5 = cap at hcv hcb hcm
  have HU1 := hid (Und.mk hb)
  have HC := hid hcell
  have HFR := hid hfr
  have HB := hid (show w.heap.size < w1.heap.size by omega)
  haveI : LtW w.heap.size w1 := LtW.of HB.out
  clear hb hcell hfr hsz
  have back : ∀ (W : World) (xs : List Int), xs.length = s.size → (∀ i, i < s.size → W.cell? ⟨w.heap.size, i, none⟩ = some (.int .u8 (xs.getD i 0))) → (convert 22 9 (.slice (some ⟨w.heap.size, 0, none⟩) s.size cap)).run Tryd.prog W = .ok (.string (strOfNums xs)) W := by
    intro W xs hl hc
    exact run_convert_bytes_arg W 22 5 Tryd.underlying22 Tryd.underlying5 w.heap.size 0 s.size cap xs hl (fun i hi => by rw [Nat.zero_add]; exact hc i hi) _ Tryd.underlying9
  have BACK := hid back
  clear back
  by_cases h0 : 0 < s.size
  · have z : (0 : Int) < s.size := by omega
    have hpl := hid (place_any at' s.size w1 (by omega) (by omega))
    have a1 := Int.emod_nonneg at' (show (s.size : Int) ≠ 0 by omega)
    have b1 := Int.emod_lt_of_pos at' z
    generalize at' % (s.size : Int) = p1 at hpl a1 b1
    obtain ⟨p, rfl⟩ : ∃ k : Nat, p1 = k := ⟨p1.toNat, by omega⟩
    have hp : p < s.size := by omega
    have g0 := HC.out p hp
    have f0 := HFR.out p hp
    have hbk := BACK.out (w1.setCell ⟨w.heap.size, p, none⟩ (.int .u8 by')) (((List.range s.size).map fun j => if j = p then by' else ((s.data.toList.getD j 0).toNat : Int))) (by simp) (fun i hi => by
      rw [show (((List.range s.size).map fun j => if j = p then by' else ((s.data.toList.getD j 0).toNat : Int))).getD i 0 = if i = p then by' else ((s.data.toList.getD i 0).toNat : Int) by simp [List.getD, hi]]
      by_cases hip : i = p
      · subst hip; rw [if_pos rfl]; go_simp
      · rw [if_neg hip]
        have := HC.out i hi
        rw [← this]
        exact World.cell?_setCell_other w1 ⟨w.heap.size, p, none⟩ ⟨w.heap.size, i, none⟩ _ (fun (e : (⟨w.heap.size, p, none⟩ : Addr) = ⟨w.heap.size, i, none⟩) => hip (by injection e with _ h; exact h.symm)))
    clear h0
    go_enter Tryd.func16, Tryd.ntmps16
    go_wp2_with fail
    refine hpl.out.mono ?_
    rintro e w' ⟨rfl, rfl⟩
    go_wp2
    go_ret
    refine ⟨_, rfl, ?_, HU1.out.setCell (p := ⟨w.heap.size, p, none⟩) (Nat.le_refl _) _⟩
    rw [strOfNums_size]; simp
  · have z : ¬ (0 : Int) < s.size := by omega
    have h00 : s.size = 0 := by omega
    have hbk := BACK.out w1 [] (by simp [h00]) (fun i hi => by omega)
    have HZ := hid h00
    clear h0 h00
    go_enter Tryd.func16, Tryd.ntmps16
    go_wp2
    go_ret
    exact ⟨_, rfl, by rw [HZ.out]; rfl, HU1.out⟩
end Go.Proofs.YtkofmnbgcekjmaaDoor

namespace Go.Proofs.YtkofmnbgcekjmaaDoor
open Go.RowKit

namespace St
def headK (h : Nat) : List UInt8 := if h = 0 then [] else if h = 1 then [35, 32, 99, 10] else [10, 32, 10]
def tailK (r : Nat) : List UInt8 := if r = 0 then [] else if r = 1 then [35, 120, 10] else [10]
def keyK (i : Nat) : List UInt8 := [107] ++ Lib.decDigits i
def recK (i : Nat) (x : (List It × ByteArray) × Nat) : List UInt8 := keyK i ++ [61] ++ x.1.2.data.toList ++ [10] ++ tailK x.2
/-- Units, the first with number i, the next with one less .. -/
def recsK : Nat → List ((List It × ByteArray) × Nat) → List UInt8
  | _, [] => []
  | i, x :: r => recK i x ++ recsK (i - 1) r
theorem recsK_snoc (x : (List It × ByteArray) × Nat) : ∀ (rs : List ((List It × ByteArray) × Nat)) (i : Nat), recsK i (rs ++ [x]) = recsK i rs ++ recK (i - rs.length) x
  | [], i => by simp [recsK]
  | y :: r, i => by
    simp only [List.cons_append, recsK, recsK_snoc x r (i - 1), List.length_cons, List.append_assoc]
    rw [show i - 1 - r.length = i - (r.length + 1) by omega]
end St
def tailC (r : Nat) : ByteArray := ⟨(St.tailK r).toArray⟩
theorem tail_sz (r : Nat) : (tailC r).size ≤ 3 := by unfold tailC St.tailK; split; decide; split <;> decide
theorem Decimal_any (n : Nat) (w : World) (hn : n ≤ 4611686018427387904) : Calls Tryd.prog 41 #[.int .i64 n] w fun e w' => e = .returned (.string ⟨(Lib.decDigits n).toArray⟩) ∧ Und w w' := by
  have h0 : ¬ (n : Int) < 0 := by omega
  go_enter Tryd.func41, Tryd.ntmps41
  go_wp2_with (go_at_call 65; refine (decimal_any n _ hn).mono ?_; rintro e w' ⟨rfl, X, rfl⟩)
  go_ret
  exact ⟨rfl, (by repeat (first | exact Und.refl _ | assumption | refine Und.under ?_ _ | refine Und.alloc ?_ _ | refine Und.drew ?_ | refine Und.drewN ?_ _))⟩
/-- A fragment and a raw content of it. -/
def UnitOf (fmt : Int) (x : List St.It × ByteArray) : Prop := GoodF x.1 ∧ x.1.length ≤ 5 ∧ tot x.1 ≤ 90 ∧ RawsOf fmt x.1 x.2
/-- What Data gives at a resource. -/
def DataOf8 (n : Nat) (data : ByteArray) : Prop := ∃ (h : Nat) (rs : List ((List St.It × ByteArray) × Nat)), h < 3 ∧ rs.length ≤ n ∧ (∀ x ∈ rs, UnitOf 2 x.1 ∧ x.2 < 3) ∧ data.data.toList = St.headK h ++ St.recsK rs.length rs
def D8Rel (w : World) (B g P m h : Nat) (s7 s9 : Value) (wr : World) : Prop :=
  ∃ (i : Nat) (data : ByteArray) (rs : List ((List St.It × ByteArray) × Nat)), s7 = .string data ∧ s9 = .int .i64 i ∧ rs.length + i = m ∧ data.data.toList = St.headK h ++ St.recsK m rs ∧ (∀ x ∈ rs, UnitOf 2 x.1 ∧ x.2 < 3) ∧ data.size ≤ 4 + 4000 * rs.length ∧ GenP wr B g (P + 2 + 300 * rs.length) ∧ w.grownBy wr (some g)
theorem dig_small {i : Nat} (h : i < 10) : (⟨(Lib.decDigits i).toArray⟩ : ByteArray).size = 1 := by
  rw [Lib.decDigits_one h]; rfl

set_option maxRecDepth 20000 in
set_option maxHeartbeats 12800000 in
theorem data8_gen (B g P n : Nat) (w : World) (hG : GenP w B g P) (hP : P ≤ 10000) (hn : n ≤ 9) :
    Calls Tryd.prog 20 #[.pointer (some ⟨g, 0, none⟩), .int .i64 2, .int .i64 n] w fun e w' => ∃ data : ByteArray, e = .returned (.string data) ∧ DataOf8 n data ∧ data.size ≤ 12 + 4000 * n ∧ GenP w' B g (P + 2 + 300 * n) ∧ w.grownBy w' (some g) := by
  have HG := hid hG
  obtain ⟨hgB, hB⟩ := hG.lt
  clear hG
  go_enter Tryd.func20, Tryd.ntmps20
  go_wp2_with fail
  refine (next_gen B g P 3 _ (HG.out.und ((Und.refl _).alloc (.cells #[.string ⟨#[]⟩, .string ⟨#[35, 32, 99, 10]⟩, .string ⟨#[10, 32, 10]⟩] 9))) (by omega) (by omega) (by omega)).mono ?_
  rintro e w2 ⟨r, rfl, hr, hG2, hk2⟩
  obtain ⟨hb, hhb, hhs⟩ : ∃ hb : ByteArray, (#[.string ⟨#[]⟩, .string ⟨#[35, 32, 99, 10]⟩, .string ⟨#[10, 32, 10]⟩] : Array Value)[r]? = some (.string hb) ∧ hb.data.toList = St.headK r := by
    rcases (show r = 0 ∨ r = 1 ∨ r = 2 by omega) with h | h | h <;> subst h <;> exact ⟨_, rfl, rfl⟩
  have hhz : hb.size ≤ 4 := by
    rw [← St.len_list, hhs]; unfold St.headK; split; decide; split <;> decide
  have hcell := lit_cell w w2 _ _ B g hk2 hgB hB r _ hhb
  have HG2 := hid hG2
  have HK2 := hid (gb_trans (((Und.refl w).alloc _).gb (some g)) hk2 (fun _ e => .inl e))
  have hsz2 := HK2.out.size
  haveI : LtW w.heap.size w2 := LtW.of (World.block_lt_of_cell? _ _ hcell)
  have hr3 : r < 3 := by omega
  obtain ⟨h, hh⟩ : ∃ h, h = r := ⟨_, rfl⟩
  clear hG2 hk2 HG hhb
  go_wp2_with fail
  refine (next_gen B g _ ((n : Int) + 1) _ HG2.out (by omega) (by omega) (by omega)).mono ?_
  rintro e w3 ⟨m, rfl, hm, hG3, hk3⟩
  have HG3 := hid hG3
  have HK3 := hid (gb_trans HK2.out hk3 (fun _ e => .inl e))
  clear hG3 hk3 HG2 HK2 hcell
  rw [← hh] at hhs hr3
  clear hh hr
  go_wp2_with fail
  go_loopw [7, 9] (fun s7 s9 wr => D8Rel w B g P m h s7 s9 wr) (fun _ s9 _ => (intOf s9).toNat)
  case atStart => exact ⟨m, hb, [], rfl, rfl, by simp, by simp [hhs, St.recsK], (fun x hx => by cases hx), by simp; omega, HG3.out.le (by simp), HK3.out⟩
  case round =>
    clear HG3 HK3
    obtain ⟨i, data, rs, rfl, rfl, hki, hdt, hrs, hds, hG, hk⟩ := hrel
    have HG := hid hG
    have HK := hid hk
    have HDT := hid hdt
    have HRS := hid hrs
    have hszr := hk.size
    clear hG hk hdt hrs
    by_cases hi : 0 < i
    · have z : (0 : Int) < (i : Int) := by omega
      go_wp2_with fail
      refine (frag_gen B g _ 5 _ HG.out (by omega) (by omega)).mono ?_
      rintro e w4 ⟨v, f, rfl, ho, hgd, hfl, hft, hG4, hk4⟩
      obtain ⟨A4, c4, rfl, h41, h42, _⟩ := own_slice' ho
      have HG4 := hid hG4
      have HK4 := hid (gb_trans HK.out hk4 (fun _ e => .inl e))
      have hit := items_own ho rfl
      have hbl := fun b off (e : A4 = some ⟨b, off, none⟩) => owns_block ho b (by subst e; rfl)
      have HIT := hid hit
      have HGD := hid hgd
      clear hG4 hk4 ho hit hgd HG HK
      go_wp2_with fail
      refine (raws_gen 2 long_resource B g _ A4 f.length c4 f _ HG4.out (by omega) rfl h41 (by unfold maxLen at h42; omega) HIT.out (fun b off e => by have := hbl b off e; omega) (by omega) (by omega) HGD.out).mono ?_
      rintro e w5 ⟨raw, rfl, hR, hrz, hG5, hk5⟩
      have HU5 := hid (gb_trans HK4.out hk5 (fun _ e => .inl e))
      have HF2 := hid (show GoodF f ∧ f.length ≤ 5 ∧ tot f ≤ 90 ∧ RawsOf 2 f raw from ⟨HGD.out, hfl, by omega, hR⟩)
      obtain ⟨Q, hQ, hG5⟩ : ∃ Q, Q + 1 ≤ P + 2 + 300 * (rs.length + 1) ∧ GenP w5 B g Q := ⟨_, by omega, hG5⟩
      have hQ2 : Q ≤ 1000000 := by omega
      have HG5 := hid hG5
      obtain ⟨dg, hdg⟩ : ∃ dg : ByteArray, (⟨(Lib.decDigits i).toArray⟩ : ByteArray) = dg := ⟨_, rfl⟩
      have hdz : dg.size = 1 := by rw [← hdg]; exact dig_small (by omega)
      clear hG5 hk5 HG4 HK4 hR HIT HGD hbl
      go_wp2_with fail
      refine (Decimal_any i w5 (by omega)).mono ?_
      rintro e w6 ⟨rfl, hu6⟩
      rw [hdg]
      have HG6 := hid (HG5.out.und hu6)
      have HU6 := hid (gb_und HU5.out hu6)
      clear hu6 HG5 HU5
      go_wp2_with fail
      refine (next_gen B g Q 3 _ (HG6.out.und ((Und.refl _).alloc (.cells #[.string ⟨#[]⟩, .string ⟨#[35, 120, 10]⟩, .string ⟨#[10]⟩] 9))) (by omega) (by omega) (by omega)).mono ?_
      rintro e w7 ⟨r, rfl, hr, hG7, hk7⟩
      obtain ⟨tb, htb, hts⟩ : ∃ tb : ByteArray, (#[.string ⟨#[]⟩, .string ⟨#[35, 120, 10]⟩, .string ⟨#[10]⟩] : Array Value)[r]? = some (.string tb) ∧ tb = tailC r := by
        rcases (show r = 0 ∨ r = 1 ∨ r = 2 by omega) with h | h | h <;> subst h <;> exact ⟨_, rfl, rfl⟩
      have hBw6 := HG6.out.lt
      have hcell := lit_cell w6 w7 _ _ B g hk7 hBw6.1 hBw6.2 r _ htb
      have HG7 := hid hG7
      have HU7 := hid (gb_trans (gb_und HU6.out ((Und.refl _).alloc _)) hk7 (fun _ e => .inl e))
      have hsz7 := hk7.size
      haveI : LtW w6.heap.size w7 := LtW.of (World.block_lt_of_cell? _ _ hcell)
      have htz : tb.size ≤ 3 := by rw [hts]; exact tail_sz r
      have hr3' : r < 3 := by omega
      have HTS := hid hts
      have HDG := hid hdg
      clear hG7 hk7 HG6 HU6 htb hts hdg
      go_wp2
      refine ⟨⟨i - 1, _, rs ++ [((f, raw), r)], rfl, congrArg (Value.int .i64) (by omega), by simp; omega, ?_, ?_, ?_, HG7.out.le (by rw [List.length_append, List.length_singleton]; omega), HU7.out⟩, by simp [intOf]; omega⟩
      · rw [St.recsK_snoc, ← List.append_assoc, ← HDT.out, show m - rs.length = i by omega, HTS.out, ← HDG.out]; simp [St.recK, St.keyK, tailC]
      · intro x hx
        rcases List.mem_append.1 hx with hx | hx
        · exact HRS.out x hx
        · simp at hx; subst hx; exact ⟨⟨HF2.out.1, HF2.out.2.1, HF2.out.2.2.1, HF2.out.2.2.2⟩, hr3'⟩
      · rw [List.length_append, List.length_singleton]
        simp only [ByteArray.size_append]
        show _ + (1 + _ + 1 + _ + 1 + _) ≤ _
        omega
    · have z : ¬ (0 : Int) < (i : Int) := by omega
      have hlen : rs.length = m := by omega
      go_wp2
      go_ret
      exact ⟨data, rfl, ⟨h, rs, hr3, by omega, HRS.out, by rw [HDT.out, hlen]⟩, by omega, HG.out.le (by omega), HK.out⟩
end Go.Proofs.YtkofmnbgcekjmaaDoor

namespace Go.Proofs.YtkofmnbgcekjmaaDoor

namespace St
theorem nameHd' {t : List UInt8} (h : isNameL t = true) : ∃ c r, t = c :: r ∧ c.toNat ≠ 123 := by
  cases t with
  | nil => cases h
  | cons c r =>
    rw [isNameL] at h
    simp only [Bool.and_eq_true, decide_eq_true_eq, lowC] at h
    exact ⟨c, r, rfl, by omega⟩
theorem name_all' {t : List UInt8} (h : isNameL t = true) : ∀ c ∈ t, c.toNat ≠ 125 := by
  cases t with
  | nil => cases h
  | cons c r =>
    rw [isNameL] at h
    simp only [Bool.and_eq_true, decide_eq_true_eq, lowC] at h
    obtain ⟨_, h1, h2⟩ := h
    intro d hd
    rcases List.mem_cons.1 hd with rfl | hd
    · omega
    · have := List.all_eq_true.1 h2 d hd
      simp only [nameC, decide_eq_true_eq] at this
      omega
theorem slot_enc' {t : List UInt8} (h : isNameL t = true) (rest : List UInt8) : slotL (123 :: (t ++ 125 :: rest)) = some (t, t.length + 2) := by
  have htw : (t ++ 125 :: rest).takeWhile (fun c => decide (c.toNat ≠ 125)) = t := by
    rw [List.takeWhile_append_of_pos (fun c hc => by simpa using name_all' h c hc), List.takeWhile_cons_of_neg (by decide), List.append_nil]
  unfold slotL
  simp only [List.drop_succ_cons, List.drop_zero, htw]
  rw [h, decide_eq_true (by simp)]
  rfl
theorem u8_of {c : UInt8} {n : Nat} (h : c.toNat = n) : c = UInt8.ofNat n := by
  apply UInt8.toNat_inj.1
  rw [h, UInt8.toNat_ofNat_of_lt']
  rw [← h]; exact c.toNat_lt
/-- What a byte of text is written as is read as that byte, and does not begin with a tab; with a space only where it is one. -/
theorem res_byte (c : UInt8) (rest : List UInt8) : resL (encB 2 c ++ rest) = some (1, [c], (encB 2 c).length) := by
  by_cases h10 : c.toNat = 10
  · obtain rfl := u8_of h10; rfl
  by_cases h9 : c.toNat = 9
  · obtain rfl := u8_of h9; rfl
  by_cases h13 : c.toNat = 13
  · obtain rfl := u8_of h13; rfl
  by_cases h92 : c.toNat = 92
  · obtain rfl := u8_of h92; rfl
  by_cases h123 : c.toNat = 123
  · obtain rfl := u8_of h123; rfl
  have e : encB 2 c = [c] := by unfold encB; simp [h10, h9, h13, h92, h123]
  rw [e]
  exact res_else h10 h92 h123
theorem res_slot {t : List UInt8} (h : isNameL t = true) (rest : List UInt8) : resL (123 :: (t ++ [125]) ++ rest) = some (5, t, (123 :: (t ++ [125])).length) := by
  have e : 123 :: (t ++ [125]) ++ rest = 123 :: (t ++ 125 :: rest) := by simp
  rw [e, res_123 (by decide), slot_enc' h]
  simp
theorem res_piece {p : It} (h : Pos1 p) : Piece resL (encI 2 p) p := by
  rcases h with ⟨c, rfl⟩ | ⟨t, rfl, ht⟩
  · have e : encI 2 (1, [c], 0) = encB 2 c := by simp [encI]
    rw [e]
    exact piece_of res_elen (by intro h0; have := (encB_len 2 c).1; rw [h0] at this; simp at this) (by decide) (fun rest => res_byte c rest)
  · have e : encI 2 (5, t, 0) = 123 :: (t ++ [125]) := by simp [encI]
    rw [e]
    exact piece_of res_elen (by simp) (by decide) (fun rest => res_slot ht rest)
theorem res_s : Piece resL [92, 115] (1, [32], 0) := piece_of res_elen (by simp) (by decide) (fun _ => rfl)
/-- The first byte of a shielded piece is no blank. -/
theorem shield_head {p : It} (h : Pos1 p) : ∃ c r, shieldL (encI 2 p) = c :: r ∧ blkC c = false := by
  rcases h with ⟨c, rfl⟩ | ⟨t, rfl, ht⟩
  · have e : encI 2 (1, [c], 0) = encB 2 c := by simp [encI]
    rw [e]
    by_cases h10 : c.toNat = 10
    · obtain rfl := u8_of h10; exact ⟨92, [110], rfl, rfl⟩
    by_cases h9 : c.toNat = 9
    · obtain rfl := u8_of h9; exact ⟨92, [116], rfl, rfl⟩
    by_cases h13 : c.toNat = 13
    · obtain rfl := u8_of h13; exact ⟨92, [114], rfl, rfl⟩
    by_cases h92 : c.toNat = 92
    · obtain rfl := u8_of h92; exact ⟨92, [92], rfl, rfl⟩
    by_cases h123 : c.toNat = 123
    · obtain rfl := u8_of h123; exact ⟨92, [123], rfl, rfl⟩
    have e : encB 2 c = [c] := by unfold encB; simp [h10, h9, h13, h92, h123]
    rw [e, shieldL]
    by_cases h32 : c.toNat = 32
    · rw [if_pos h32]; exact ⟨92, [115], rfl, rfl⟩
    · rw [if_neg h32]; exact ⟨c, [], rfl, by simp [blkC, h32, h9]⟩
  · have e : encI 2 (5, t, 0) = 123 :: (t ++ [125]) := by simp [encI]
    rw [e]
    exact ⟨123, t ++ [125], rfl, rfl⟩
theorem shield_piece {p : It} (h : Pos1 p) : Piece resL (shieldL (encI 2 p)) p := by
  have h0 := res_piece h
  rcases h with ⟨c, rfl⟩ | ⟨t, rfl, ht⟩
  · have e : encI 2 (1, [c], 0) = encB 2 c := by simp [encI]
    rw [e] at h0 ⊢
    by_cases h32 : c.toNat = 32
    · obtain rfl := u8_of h32
      exact res_s
    · have : shieldL (encB 2 c) = encB 2 c := by
        have hn : ∀ d r, encB 2 c = d :: r → d.toNat ≠ 32 := by
          intro d r hd
          unfold encB at hd
          simp only [Int.reduceEq, if_false, if_true] at hd
          repeat' split at hd
          all_goals
            simp only [List.cons.injEq] at hd
            first | (rw [← hd.1]; decide) | (rw [← hd.1]; exact h32)
        cases hb : encB 2 c with
        | nil => rfl
        | cons d r => rw [shieldL, if_neg (hn d r hb)]
      rw [this]; exact h0
  · have e : encI 2 (5, t, 0) = 123 :: (t ++ [125]) := by simp [encI]
    rw [e] at h0 ⊢
    rw [shieldL, if_neg (by decide)]
    exact h0
theorem blank_blk (r : Nat) : ∀ c ∈ blankL r, blkC c = true := by
  unfold blankL
  intro c hc
  split at hc
  · simp at hc
  · split at hc
    · simp at hc; subst hc; rfl
    · simp at hc; rcases hc with rfl | rfl <;> rfl
theorem cont_piece {p : It} (h : Pos1 p) (r : Nat) : Piece resL ([92, 10] ++ blankL r ++ shieldL (encI 2 p)) p := by
  obtain ⟨c, q, hc, hb⟩ := shield_head h
  intro rest a d f cuts hf
  have e : [92, 10] ++ blankL r ++ shieldL (encI 2 p) ++ rest = 92 :: 10 :: (blankL r ++ (shieldL (encI 2 p) ++ rest)) := by simp
  have hn : blkN (blankL r ++ (shieldL (encI 2 p) ++ rest)) = (blankL r).length := by
    unfold blkN
    rw [List.takeWhile_append_of_pos (blank_blk r), hc, List.cons_append, List.takeWhile_cons_of_neg (by simp [hb])]
    simp
  have hs : resL (92 :: 10 :: (blankL r ++ (shieldL (encI 2 p) ++ rest))) = some (0, [], 2 + (blankL r).length) := by rw [res_cont (by decide) (by decide), hn]
  rw [e, decF_skip res_elen a d f cuts (by simp) hs]
  have e2 : (92 :: 10 :: (blankL r ++ (shieldL (encI 2 p) ++ rest))).drop (2 + (blankL r).length) = shieldL (encI 2 p) ++ rest := by
    have : 2 + (blankL r).length = (92 :: 10 :: blankL r).length := by simp; omega
    rw [this, show (92 :: 10 :: (blankL r ++ (shieldL (encI 2 p) ++ rest))) = (92 :: 10 :: blankL r) ++ (shieldL (encI 2 p) ++ rest) by simp, List.drop_left]
  rw [e2, shield_piece h rest _ d f cuts hf]
  have e3 : a + (2 + (blankL r).length) + (shieldL (encI 2 p)).length = a + ([92, 10] ++ blankL r ++ shieldL (encI 2 p)).length := by simp; omega
  rw [e3]
theorem res_form {p : It} {b : List UInt8} (h : Pos1 p) (hf : formB 2 p b) : Piece resL b p := by
  rcases hf with rfl | ⟨h1, _⟩ | ⟨_, ⟨h1, h2, rfl⟩ | ⟨r, _, rfl⟩⟩
  · exact res_piece h
  · exact absurd h1 (by decide)
  · obtain ⟨k, t, i⟩ := p
    simp only at h1 h2
    subst h1 h2
    rcases h with ⟨c, hc⟩ | ⟨t, ht, _⟩
    · simp only [Prod.mk.injEq] at hc
      obtain ⟨_, _, rfl⟩ := hc
      exact res_s
    · simp only [Prod.mk.injEq] at ht
      exact absurd ht.1 (by decide)
  · exact cont_piece h r
end St
end Go.Proofs.YtkofmnbgcekjmaaDoor

namespace Go.Proofs.YtkofmnbgcekjmaaDoor
open Go.RowKit

/-- A raw content of pieces is read to its items. -/
theorem reads_pieces {E : List UInt8 → St.El} {fmt : Int} {f : List St.It} {raw : ByteArray} (hg : GoodF f) (hl : f.length ≤ 100) (ht : tot f ≤ 900) (hr : RawsOf fmt f raw) (hp : ∀ p b, St.Pos1 p → St.formB fmt p b → St.Piece E b p) :
    ∃ cuts, St.decF E raw.data.toList 0 0 [] [] = (f, cuts, 0, 0) ∧ cuts.length = St.lenL f + 1 := by
  obtain ⟨ps, h1, h2, h3⟩ := hr
  have hpos : ∀ p ∈ ps, St.Piece E p.1 p.2 := by
    intro p hpm
    have : p.2 ∈ St.posI f := by rw [← h2]; unfold St.itsP; exact List.mem_map.2 ⟨p, hpm, rfl⟩
    exact hp p.2 p.1 (good_pos hg _ this) (h3 p hpm)
  have hf : (St.itsP ps).foldl St.addI [] = f := by rw [h2]; exact St.pos_norm hg.1 (fun x hx => (hg.2 x hx).1)
  have hlen : ps.length = St.lenL f := by rw [← its_len, h2, St.pos_len]
  have hll := lenL_tot f
  have := St.decF_pieces ps [] 0 0 [] [] hpos (by rw [hf]; omega) (by simp; omega)
  rw [List.append_nil, ← h1, St.decF_nil, hf] at this
  exact ⟨_, this, by simp [St.offs_len, hlen]⟩
theorem resD_F' (x : ByteArray) : resD x = St.decF St.resL x.data.toList 0 0 [] [] := by unfold resD St.decF; rw [St.len_list]
theorem res_reads {f : List St.It} {raw : ByteArray} (hg : GoodF f) (hl : f.length ≤ 100) (ht : tot f ≤ 900) (hr : RawsOf 2 f raw) : ∃ cuts, resD raw = (f, cuts, 0, 0) ∧ cuts.length = St.lenL f + 1 := by
  rw [resD_F']
  exact reads_pieces hg hl ht hr fun p b hp hf => St.res_form hp hf

set_option maxRecDepth 20000 in
set_option maxHeartbeats 6400000 in
theorem readslaw_any (A B : Option Addr) (n c m d : Nat) (zs ys : List Int) (w : World) (hz : zs.length = n) (hn : n ≤ 9223372036854775807) (hI : IntsAt w A zs) (hy : ys.length = m) (hm : m ≤ 9223372036854775807) (hJ : IntsAt w B ys) :
    Calls Tryd.prog 5 #[.slice A n c, .slice B m d] w fun e w' => e = .returned (.bool true) ∧ Und w w' := by
  have HRW := hid (raws_any A B n c m d zs ys w hz hn hI hy hm hJ)
  have HKN := hid (fun W (hW : Und w W) => xknown_any W)
  clear hI hJ
  by_cases q1 : 100 < n
  · have z1 : (100 : Int) < (n : Int) := by omega
    go_enter Tryd.func5, Tryd.ntmps5
    go_wp2_with fail
    refine (HKN.out _ (Und.refl _)).mono ?_
    rintro e w2 ⟨rfl, hu⟩
    have HU := hid hu
    clear hu
    go_wp2
    go_ret
    exact ⟨rfl, HU.out⟩
  · have z1 : ¬ (100 : Int) < (n : Int) := by omega
    by_cases q2 : 200 < m
    · have z2 : (200 : Int) < (m : Int) := by omega
      go_enter Tryd.func5, Tryd.ntmps5
      go_wp2_with fail
      refine (HKN.out _ (Und.refl _)).mono ?_
      rintro e w2 ⟨rfl, hu⟩
      have HU := hid hu
      clear hu
      go_wp2
      go_ret
      exact ⟨rfl, HU.out⟩
    · have z2 : ¬ (200 : Int) < (m : Int) := by omega
      go_enter Tryd.func5, Tryd.ntmps5
      go_wp2_with fail
      refine HRW.out.mono ?_
      rintro e w2 ⟨raw, A2, c2, f, rfl, hF, hR, hrs, hu⟩
      obtain ⟨cuts, hD, _⟩ := res_reads hF.2.1 (by have := hF.2.2.1; omega) (by have := hF.2.2.2.1; omega) hR
      have hdc := fun W => xdecode_any raw W (by omega)
      rw [hD] at hdc
      have HDC := hid hdc
      have HF := hid hF
      have HU := hid hu
      clear hF hR hu hD hdc HRW
      go_wp2_with fail
      refine (HDC.out _).mono ?_
      rintro e w3 ⟨A3, c3, rfl, hI3, h31, h32, hu3⟩
      have hs := fun W (hW : Und w3 W) => rsame_any A3 A2 f.length f.length c3 c2 f f W rfl rfl h31 HF.out.2.2.2.2.1 h32 HF.out.2.2.2.2.2.1 (hI3.und hW) ((HF.out.1.und hu3).und hW)
      rw [decide_eq_true rfl] at hs
      have HS := hid hs
      have HU3 := hid (HU.out.trans hu3)
      clear hs hI3 hu3 HDC HU
      simp only
      go_wp2_with fail
      refine (HS.out _ (Und.refl _)).mono ?_
      rintro e w4 ⟨rfl, hu4⟩
      have HU4 := hid (HU3.out.trans hu4)
      clear hu4 HS HU3
      go_wp2_with fail
      refine (HKN.out _ HU4.out).mono ?_
      rintro e w5 ⟨rfl, hu5⟩
      have HU5 := hid (HU4.out.trans hu5)
      clear hu5
      go_wp2
      go_ret
      exact ⟨rfl, HU5.out⟩

theorem ix3 (a b c : ByteArray) (W : World) : (Instr.index 40 (.agg #[.string a, .string b, .string c]) (.int .i64 0)).run Tryd.prog W = .ok (.string a) W ∧ (Instr.index 40 (.agg #[.string a, .string b, .string c]) (.int .i64 1)).run Tryd.prog W = .ok (.string b) W ∧ (Instr.index 40 (.agg #[.string a, .string b, .string c]) (.int .i64 2)).run Tryd.prog W = .ok (.string c) W := by
  exact ⟨by kernel_rfl, by kernel_rfl, by kernel_rfl⟩
def ByRel (w : World) (i : Value) (wr : World) : Prop := ∃ k : Nat, k ≤ 3 ∧ i = .int .i64 k ∧ Und w wr
set_option maxRecDepth 20000 in
set_option maxHeartbeats 12800000 in
theorem dcdlaw_any (s : ByteArray) (at' by' : Int) (A B : Option Addr) (n c m d : Nat) (zs ys : List Int) (w : World) (hs : s.size ≤ 9223372036854775807) (hz : zs.length = n) (hn : n ≤ 9223372036854775807) (hI : IntsAt w A zs) (hy : ys.length = m) (hm : m ≤ 9223372036854775807) (hJ : IntsAt w B ys) :
    Calls Tryd.prog 4 #[.string s, .slice A n c, .slice B m d, .int .i64 at', .int .u8 by'] w fun e w' => e = .returned (.bool true) ∧ Und w w' := by
  have HRW := hid (raws_any A B n c m d zs ys w hz hn hI hy hm hJ)
  have HKN := hid (fun W (hW : Und w W) => xknown_any W)
  clear hI hJ
  by_cases q0 : 300 < s.size
  · have z0 : (300 : Int) < (s.size : Int) := by omega
    go_enter Tryd.func4, Tryd.ntmps4
    go_wp2_with fail
    refine (HKN.out _ (Und.refl _)).mono ?_
    rintro e w2 ⟨rfl, hu⟩
    have HU := hid hu
    clear hu
    go_wp2
    go_ret
    exact ⟨rfl, HU.out⟩
  have z0 : ¬ (300 : Int) < (s.size : Int) := by omega
  by_cases q1 : 80 < n
  · have z1 : (80 : Int) < (n : Int) := by omega
    go_enter Tryd.func4, Tryd.ntmps4
    go_wp2_with fail
    refine (HKN.out _ (Und.refl _)).mono ?_
    rintro e w2 ⟨rfl, hu⟩
    have HU := hid hu
    clear hu
    go_wp2
    go_ret
    exact ⟨rfl, HU.out⟩
  have z1 : ¬ (80 : Int) < (n : Int) := by omega
  by_cases q2 : 200 < m
  · have z2 : (200 : Int) < (m : Int) := by omega
    go_enter Tryd.func4, Tryd.ntmps4
    go_wp2_with fail
    refine (HKN.out _ (Und.refl _)).mono ?_
    rintro e w2 ⟨rfl, hu⟩
    have HU := hid hu
    clear hu
    go_wp2
    go_ret
    exact ⟨rfl, HU.out⟩
  have z2 : ¬ (200 : Int) < (m : Int) := by omega
  go_enter Tryd.func4, Tryd.ntmps4
  go_wp2_with fail
  refine HRW.out.mono ?_
  rintro e w2 ⟨raw, A2, c2, f, rfl, hF, hR, hrs, hu⟩
  have HU := hid hu
  clear hF hR hu HRW
  go_wp2_with fail
  refine (changed_any raw at' by' w2 (by omega)).mono ?_
  rintro e w3 ⟨u, rfl, hus, hu3⟩
  have HU3 := hid (HU.out.trans hu3)
  clear hu3 HU
  go_wp2_with fail
  go_loopw [51] (fun i wr => ByRel w i wr) (fun i _ => 4 - (intOf i).toNat)
  case atStart => exact ⟨0, by omega, rfl, HU3.out⟩
  case round =>
    obtain ⟨k, hk, rfl, hu⟩ := hrel
    have HU := hid hu
    clear hu HU3
    obtain ⟨ia, ib, ic⟩ := ix3 s raw u wr
    rcases (show k = 0 ∨ k = 1 ∨ k = 2 ∨ k = 3 by omega) with rfl | rfl | rfl | rfl
    · have hx : s.size ≤ 10000 := by omega
      have HDC := hid (fun W => xdecode_any s W (by omega))
      have HCU := hid (fun W => xcuts_any s W (by omega))
      have HRD := hid (fun W => rdecode_any 2 St.resL res_at res_ok s W (by omega))
      have hq : St.dec St.resL s.size s.data.toList 0 0 [] [] = resD s := rfl
      rw [hq] at HRD
      clear hq
      generalize resD s = R at HDC HCU HRD
      obtain ⟨f1, cu1, at1, er1⟩ := R
      go_wp2_with fail
      refine (HDC.out _).mono ?_
      rintro e w4 ⟨A3, c3, rfl, hI3, h31, h32, hu4⟩
      have HI3 := hid hI3
      have HU4 := hid (HU.out.trans hu4)
      clear hI3 hu4 HDC HU
      go_wp2_with fail
      refine (HCU.out _).mono ?_
      rintro e w5 ⟨A4, c4, rfl, hI4, h41, h42, hu5⟩
      have HI4 := hid hI4
      have HI3' := hid (HI3.out.und hu5)
      have HU5 := hid (HU4.out.trans hu5)
      clear hI4 hu5 HCU HU4 HI3
      go_wp2_with fail
      refine (HRD.out _).mono ?_
      rintro e w6 ⟨v1, v2, rfl, ho1, ho2, hu6⟩
      simp only at ho1 ho2 HI3' HI4 h31 h41 ⊢
      obtain ⟨A5, c5, rfl, h51, h52, _⟩ := own_slice' ho1
      obtain ⟨A6, c6, rfl, h61, h62, _⟩ := own_slice' ho2
      have hs := fun W (hW : Und w6 W) => rsame_any A3 A5 f1.length f1.length c3 c5 f1 f1 W rfl rfl h31 h51 h32 (by unfold maxLen at h52; omega) ((HI3'.out.und hu6).und hW) ((items_own ho1 rfl).und hW)
      rw [decide_eq_true rfl] at hs
      have hs2 := fun W (hW : Und w6 W) => sameInts_any A4 A6 cu1.length cu1.length c4 c6 cu1 cu1 W rfl rfl h41 h61 h42 (by unfold maxLen at h62; omega) ((HI4.out.und hu6).und hW) ((nats_own ho2 rfl).und hW)
      rw [decide_eq_true rfl] at hs2
      have HS := hid hs
      have HS2 := hid hs2
      have HU6 := hid (HU5.out.trans hu6)
      have v1 : (er1 == er1) = true := beq_self_eq_true _
      have v2 : ((at1 : Int) == (at1 : Int)) = true := beq_self_eq_true _
      clear hs hs2 ho1 ho2 hu6 HRD HU5 HI3' HI4
      go_wp2_with fail
      refine (HS.out _ (Und.refl _)).mono ?_
      rintro e w7 ⟨rfl, hu7⟩
      have HS3 := hid (HS2.out _ hu7)
      have HU7 := hid (HU6.out.trans hu7)
      clear hu7 HS HS2 HU6
      go_wp2_with fail
      refine HS3.out.mono ?_
      rintro e w8 ⟨rfl, hu8⟩
      have HU8 := hid (HU7.out.trans hu8)
      clear hu8 HS3 HU7
      go_wp2
      exact ⟨⟨1, by omega, rfl, HU8.out⟩, by simp [intOf]⟩
    · have hx : raw.size ≤ 10000 := by omega
      have HDC := hid (fun W => xdecode_any raw W (by omega))
      have HCU := hid (fun W => xcuts_any raw W (by omega))
      have HRD := hid (fun W => rdecode_any 2 St.resL res_at res_ok raw W (by omega))
      have hq : St.dec St.resL raw.size raw.data.toList 0 0 [] [] = resD raw := rfl
      rw [hq] at HRD
      clear hq
      generalize resD raw = R at HDC HCU HRD
      obtain ⟨f1, cu1, at1, er1⟩ := R
      go_wp2_with fail
      refine (HDC.out _).mono ?_
      rintro e w4 ⟨A3, c3, rfl, hI3, h31, h32, hu4⟩
      have HI3 := hid hI3
      have HU4 := hid (HU.out.trans hu4)
      clear hI3 hu4 HDC HU
      go_wp2_with fail
      refine (HCU.out _).mono ?_
      rintro e w5 ⟨A4, c4, rfl, hI4, h41, h42, hu5⟩
      have HI4 := hid hI4
      have HI3' := hid (HI3.out.und hu5)
      have HU5 := hid (HU4.out.trans hu5)
      clear hI4 hu5 HCU HU4 HI3
      go_wp2_with fail
      refine (HRD.out _).mono ?_
      rintro e w6 ⟨v1, v2, rfl, ho1, ho2, hu6⟩
      simp only at ho1 ho2 HI3' HI4 h31 h41 ⊢
      obtain ⟨A5, c5, rfl, h51, h52, _⟩ := own_slice' ho1
      obtain ⟨A6, c6, rfl, h61, h62, _⟩ := own_slice' ho2
      have hs := fun W (hW : Und w6 W) => rsame_any A3 A5 f1.length f1.length c3 c5 f1 f1 W rfl rfl h31 h51 h32 (by unfold maxLen at h52; omega) ((HI3'.out.und hu6).und hW) ((items_own ho1 rfl).und hW)
      rw [decide_eq_true rfl] at hs
      have hs2 := fun W (hW : Und w6 W) => sameInts_any A4 A6 cu1.length cu1.length c4 c6 cu1 cu1 W rfl rfl h41 h61 h42 (by unfold maxLen at h62; omega) ((HI4.out.und hu6).und hW) ((nats_own ho2 rfl).und hW)
      rw [decide_eq_true rfl] at hs2
      have HS := hid hs
      have HS2 := hid hs2
      have HU6 := hid (HU5.out.trans hu6)
      have v1 : (er1 == er1) = true := beq_self_eq_true _
      have v2 : ((at1 : Int) == (at1 : Int)) = true := beq_self_eq_true _
      clear hs hs2 ho1 ho2 hu6 HRD HU5 HI3' HI4
      go_wp2_with fail
      refine (HS.out _ (Und.refl _)).mono ?_
      rintro e w7 ⟨rfl, hu7⟩
      have HS3 := hid (HS2.out _ hu7)
      have HU7 := hid (HU6.out.trans hu7)
      clear hu7 HS HS2 HU6
      go_wp2_with fail
      refine HS3.out.mono ?_
      rintro e w8 ⟨rfl, hu8⟩
      have HU8 := hid (HU7.out.trans hu8)
      clear hu8 HS3 HU7
      go_wp2
      exact ⟨⟨2, by omega, rfl, HU8.out⟩, by simp [intOf]⟩
    · have hx : u.size ≤ 10000 := by omega
      have HDC := hid (fun W => xdecode_any u W (by omega))
      have HCU := hid (fun W => xcuts_any u W (by omega))
      have HRD := hid (fun W => rdecode_any 2 St.resL res_at res_ok u W (by omega))
      have hq : St.dec St.resL u.size u.data.toList 0 0 [] [] = resD u := rfl
      rw [hq] at HRD
      clear hq
      generalize resD u = R at HDC HCU HRD
      obtain ⟨f1, cu1, at1, er1⟩ := R
      go_wp2_with fail
      refine (HDC.out _).mono ?_
      rintro e w4 ⟨A3, c3, rfl, hI3, h31, h32, hu4⟩
      have HI3 := hid hI3
      have HU4 := hid (HU.out.trans hu4)
      clear hI3 hu4 HDC HU
      go_wp2_with fail
      refine (HCU.out _).mono ?_
      rintro e w5 ⟨A4, c4, rfl, hI4, h41, h42, hu5⟩
      have HI4 := hid hI4
      have HI3' := hid (HI3.out.und hu5)
      have HU5 := hid (HU4.out.trans hu5)
      clear hI4 hu5 HCU HU4 HI3
      go_wp2_with fail
      refine (HRD.out _).mono ?_
      rintro e w6 ⟨v1, v2, rfl, ho1, ho2, hu6⟩
      simp only at ho1 ho2 HI3' HI4 h31 h41 ⊢
      obtain ⟨A5, c5, rfl, h51, h52, _⟩ := own_slice' ho1
      obtain ⟨A6, c6, rfl, h61, h62, _⟩ := own_slice' ho2
      have hs := fun W (hW : Und w6 W) => rsame_any A3 A5 f1.length f1.length c3 c5 f1 f1 W rfl rfl h31 h51 h32 (by unfold maxLen at h52; omega) ((HI3'.out.und hu6).und hW) ((items_own ho1 rfl).und hW)
      rw [decide_eq_true rfl] at hs
      have hs2 := fun W (hW : Und w6 W) => sameInts_any A4 A6 cu1.length cu1.length c4 c6 cu1 cu1 W rfl rfl h41 h61 h42 (by unfold maxLen at h62; omega) ((HI4.out.und hu6).und hW) ((nats_own ho2 rfl).und hW)
      rw [decide_eq_true rfl] at hs2
      have HS := hid hs
      have HS2 := hid hs2
      have HU6 := hid (HU5.out.trans hu6)
      have v1 : (er1 == er1) = true := beq_self_eq_true _
      have v2 : ((at1 : Int) == (at1 : Int)) = true := beq_self_eq_true _
      clear hs hs2 ho1 ho2 hu6 HRD HU5 HI3' HI4
      go_wp2_with fail
      refine (HS.out _ (Und.refl _)).mono ?_
      rintro e w7 ⟨rfl, hu7⟩
      have HS3 := hid (HS2.out _ hu7)
      have HU7 := hid (HU6.out.trans hu7)
      clear hu7 HS HS2 HU6
      go_wp2_with fail
      refine HS3.out.mono ?_
      rintro e w8 ⟨rfl, hu8⟩
      have HU8 := hid (HU7.out.trans hu8)
      clear hu8 HS3 HU7
      go_wp2
      exact ⟨⟨3, by omega, rfl, HU8.out⟩, by simp [intOf]⟩
    · go_wp2_with fail
      refine (HKN.out _ HU.out).mono ?_
      rintro e w5 ⟨rfl, hu5⟩
      have HU5 := hid (HU.out.trans hu5)
      clear hu5
      go_wp2
      go_ret
      exact ⟨rfl, HU5.out⟩
end Go.Proofs.YtkofmnbgcekjmaaDoor

namespace Go.Proofs.YtkofmnbgcekjmaaDoor
open Go.RowKit

def BzRel (w : World) (m : Nat) (i : Value) (wr : World) : Prop := ∃ k : Nat, k ≤ m ∧ i = .int .i64 k ∧ Und w wr
/-- Data by a maker of the call's own. -/
theorem data8_own (A : Option Addr) (n c : Nat) (zs : List Int) (w : World) (hz : zs.length = n) (hn : n ≤ 9223372036854775807) (hI : IntsAt w A zs) (T : TypeId) :
    Calls Tryd.prog 20 #[.pointer (some ⟨w.heap.size, 0, none⟩), .int .i64 2, .int .i64 4] (w.alloc (.cells #[.slice A n c, .int .i64 0] T)) fun e w' => ∃ data : ByteArray, e = .returned (.string data) ∧ DataOf8 4 data ∧ data.size ≤ 16012 ∧ Und w w' := by
  refine (data8_gen (w.heap.size + 1) w.heap.size 0 4 _ (GenP.fresh hn hz hI) (by omega) (by omega)).mono ?_
  rintro e w2 ⟨data, rfl, hD, hs, _, hk⟩
  exact ⟨data, rfl, hD, by omega, ((Und.refl w).alloc _).of_gb hk (fun g e => by cases e; exact Nat.le_refl _)⟩

set_option maxRecDepth 20000 in
set_option maxHeartbeats 12800000 in
theorem spllaw_any (s : ByteArray) (at' by' : Int) (A : Option Addr) (n c : Nat) (zs : List Int) (w : World) (hs : s.size ≤ 9223372036854775807) (hz : zs.length = n) (hn : n ≤ 9223372036854775807) (hI : IntsAt w A zs) :
    Calls Tryd.prog 6 #[.string s, .slice A n c, .int .i64 at', .int .u8 by'] w fun e w' => e = .returned (.bool true) ∧ Und w w' := by
  have HKN := hid (fun W (hW : Und w W) => xknown_any W)
  have HDA := hid (data8_own A n c zs w hz hn hI 49)
  clear hI
  by_cases q0 : 400 < s.size
  · have z0 : (400 : Int) < (s.size : Int) := by omega
    go_enter Tryd.func6, Tryd.ntmps6
    go_wp2_with fail
    refine (HKN.out _ (Und.refl _)).mono ?_
    rintro e w2 ⟨rfl, hu⟩
    have HU := hid hu
    clear hu
    go_wp2
    go_ret
    exact ⟨rfl, HU.out⟩
  have z0 : ¬ (400 : Int) < (s.size : Int) := by omega
  by_cases q1 : 200 < n
  · have z1 : (200 : Int) < (n : Int) := by omega
    go_enter Tryd.func6, Tryd.ntmps6
    go_wp2_with fail
    refine (HKN.out _ (Und.refl _)).mono ?_
    rintro e w2 ⟨rfl, hu⟩
    have HU := hid hu
    clear hu
    go_wp2
    go_ret
    exact ⟨rfl, HU.out⟩
  have z1 : ¬ (200 : Int) < (n : Int) := by omega
  go_enter Tryd.func6, Tryd.ntmps6
  go_wp2_with fail
  refine HDA.out.mono ?_
  rintro e w2 ⟨raw, rfl, _, hrs, hu⟩
  have HU := hid hu
  clear hu HDA
  go_wp2_with fail
  refine (changed_any raw at' by' w2 (by omega)).mono ?_
  rintro e w3 ⟨u, rfl, hus, hu3⟩
  have HU3 := hid (HU.out.trans hu3)
  clear hu3 HU
  go_wp2_with fail
  go_loopw [38] (fun i wr => BzRel w 3 i wr) (fun i _ => 4 - (intOf i).toNat)
  case atStart => exact ⟨0, by omega, rfl, HU3.out⟩
  case round =>
    obtain ⟨k, hk, rfl, hu⟩ := hrel
    have HU := hid hu
    clear hu HU3
    obtain ⟨ia, ib, ic⟩ := ix3 s raw u wr
    rcases (show k = 0 ∨ k = 1 ∨ k = 2 ∨ k = 3 by omega) with rfl | rfl | rfl | rfl
    · have hx : s.size ≤ 100000 := by omega
      have HSP := hid (fun W (hW : Und w W) => xsplit_any s W (by omega))
      have HRS := hid (fun W => rsplit_any s W (by omega))
      generalize resT s = R at HSP HRS
      obtain ⟨f1, at1, er1⟩ := R
      go_wp2_with fail
      refine (HSP.out _ HU.out).mono ?_
      rintro e w4 ⟨A3, c3, rfl, hI3, h31, h32, hu4⟩
      have HI3 := hid hI3
      have HU4 := hid (HU.out.trans hu4)
      clear hI3 hu4 HSP HU
      go_wp2_with fail
      refine (HRS.out _).mono ?_
      rintro e w5 ⟨A4, c4, rfl, hI4, h41, h42, hu5⟩
      simp only at hI4 h31 h41 ⊢
      have hs := fun W (hW : Und w5 W) => sameParts_any A3 A4 f1.length f1.length c3 c4 f1 f1 W rfl rfl h31 h41 h32 h42 ((HI3.out.und hu5).und hW) (hI4.und hW)
      rw [decide_eq_true rfl] at hs
      have HS := hid hs
      have HU5 := hid (HU4.out.trans hu5)
      have v1 : (er1 == er1) = true := beq_self_eq_true _
      have v2 : ((at1 : Int) == (at1 : Int)) = true := beq_self_eq_true _
      clear hs hI4 hu5 HRS HU4 HI3
      go_wp2_with fail
      refine (HS.out _ (Und.refl _)).mono ?_
      rintro e w7 ⟨rfl, hu7⟩
      have HU7 := hid (HU5.out.trans hu7)
      clear hu7 HS HU5
      go_wp2
      exact ⟨⟨1, by omega, rfl, HU7.out⟩, by simp [intOf]⟩
    · have hx : raw.size ≤ 100000 := by omega
      have HSP := hid (fun W (hW : Und w W) => xsplit_any raw W (by omega))
      have HRS := hid (fun W => rsplit_any raw W (by omega))
      generalize resT raw = R at HSP HRS
      obtain ⟨f1, at1, er1⟩ := R
      go_wp2_with fail
      refine (HSP.out _ HU.out).mono ?_
      rintro e w4 ⟨A3, c3, rfl, hI3, h31, h32, hu4⟩
      have HI3 := hid hI3
      have HU4 := hid (HU.out.trans hu4)
      clear hI3 hu4 HSP HU
      go_wp2_with fail
      refine (HRS.out _).mono ?_
      rintro e w5 ⟨A4, c4, rfl, hI4, h41, h42, hu5⟩
      simp only at hI4 h31 h41 ⊢
      have hs := fun W (hW : Und w5 W) => sameParts_any A3 A4 f1.length f1.length c3 c4 f1 f1 W rfl rfl h31 h41 h32 h42 ((HI3.out.und hu5).und hW) (hI4.und hW)
      rw [decide_eq_true rfl] at hs
      have HS := hid hs
      have HU5 := hid (HU4.out.trans hu5)
      have v1 : (er1 == er1) = true := beq_self_eq_true _
      have v2 : ((at1 : Int) == (at1 : Int)) = true := beq_self_eq_true _
      clear hs hI4 hu5 HRS HU4 HI3
      go_wp2_with fail
      refine (HS.out _ (Und.refl _)).mono ?_
      rintro e w7 ⟨rfl, hu7⟩
      have HU7 := hid (HU5.out.trans hu7)
      clear hu7 HS HU5
      go_wp2
      exact ⟨⟨2, by omega, rfl, HU7.out⟩, by simp [intOf]⟩
    · have hx : u.size ≤ 100000 := by omega
      have HSP := hid (fun W (hW : Und w W) => xsplit_any u W (by omega))
      have HRS := hid (fun W => rsplit_any u W (by omega))
      generalize resT u = R at HSP HRS
      obtain ⟨f1, at1, er1⟩ := R
      go_wp2_with fail
      refine (HSP.out _ HU.out).mono ?_
      rintro e w4 ⟨A3, c3, rfl, hI3, h31, h32, hu4⟩
      have HI3 := hid hI3
      have HU4 := hid (HU.out.trans hu4)
      clear hI3 hu4 HSP HU
      go_wp2_with fail
      refine (HRS.out _).mono ?_
      rintro e w5 ⟨A4, c4, rfl, hI4, h41, h42, hu5⟩
      simp only at hI4 h31 h41 ⊢
      have hs := fun W (hW : Und w5 W) => sameParts_any A3 A4 f1.length f1.length c3 c4 f1 f1 W rfl rfl h31 h41 h32 h42 ((HI3.out.und hu5).und hW) (hI4.und hW)
      rw [decide_eq_true rfl] at hs
      have HS := hid hs
      have HU5 := hid (HU4.out.trans hu5)
      have v1 : (er1 == er1) = true := beq_self_eq_true _
      have v2 : ((at1 : Int) == (at1 : Int)) = true := beq_self_eq_true _
      clear hs hI4 hu5 HRS HU4 HI3
      go_wp2_with fail
      refine (HS.out _ (Und.refl _)).mono ?_
      rintro e w7 ⟨rfl, hu7⟩
      have HU7 := hid (HU5.out.trans hu7)
      clear hu7 HS HU5
      go_wp2
      exact ⟨⟨3, by omega, rfl, HU7.out⟩, by simp [intOf]⟩
    · go_wp2_with fail
      refine (HKN.out _ HU.out).mono ?_
      rintro e w5 ⟨rfl, hu5⟩
      have HU5 := hid (HU.out.trans hu5)
      clear hu5
      go_wp2
      go_ret
      exact ⟨rfl, HU5.out⟩
end Go.Proofs.YtkofmnbgcekjmaaDoor

namespace Go.Proofs.YtkofmnbgcekjmaaDoor
open Go.RowKit

/-- What holds of parts up to an offset. -/
def InvS (d : List UInt8) (s : St.PS) : Prop := s.1.length % 2 = 0 ∧ (∀ i (h : i < s.1.length), s.1[i].1 = decide (i % 2 = 1) ∧ (s.1[i].2.1 = [] ↔ s.1[i].1 = false) ∧ (s.1[i].1 = true → (dE s.1[i].2.2).2 = 0)) ∧ s.1.flatMap (·.2.2) = d.take s.2 ∧ s.2 ≤ d.length
theorem inv_nil (d : List UInt8) : InvS d ([], 0) := ⟨rfl, fun i h => by simp at h, by simp, by simp⟩
theorem cut_join (d : List UInt8) (a b : Nat) (h : a ≤ b) : d.take a ++ St.cutL d a b = d.take b := by
  unfold St.cutL
  conv => rhs; rw [← List.take_append_drop a (d.take b)]
  rw [List.take_take, Nat.min_eq_left h]
theorem inv_unit {d : List UInt8} {s : St.PS} {a b : Nat} {key : List UInt8} (h : InvS d s) (h1 : s.2 ≤ a) (h2 : a ≤ b) (h3 : b ≤ d.length) (hk : key ≠ []) (he : (dE (St.cutL d a b)).2 = 0) : InvS d (St.unitS d s a b key) := by
  obtain ⟨i1, i2, i3, i4⟩ := h
  unfold St.unitS
  refine ⟨by simp; omega, fun i hi => ?_, ?_, h3⟩
  · simp only [List.length_append, List.length_cons, List.length_nil] at hi
    by_cases hlt : i < s.1.length
    · simp only [List.getElem_append_left hlt]; exact i2 i hlt
    · simp only [List.getElem_append_right (Nat.le_of_not_lt hlt)]
      rcases (show i - s.1.length = 0 ∨ i - s.1.length = 1 by omega) with hq | hq
      · simp only [hq, List.getElem_cons_zero]
        refine ⟨by rw [decide_eq_false (by omega)], by simp, by simp⟩
      · simp only [hq, List.getElem_cons_succ, List.getElem_cons_zero]
        refine ⟨by rw [decide_eq_true (by omega)], by simp [hk], fun _ => he⟩
  · simp only [List.flatMap_append, List.flatMap_cons, List.flatMap_nil, List.append_nil]
    rw [i3, ← List.append_assoc, cut_join d _ _ h1, cut_join d _ _ h2]
/-- What holds of all parts. -/
def PartsOk (d : List UInt8) (ps : List St.Pt) : Prop := ps.length % 2 = 1 ∧ (∀ i (h : i < ps.length), ps[i].1 = decide (i % 2 = 1) ∧ (ps[i].2.1 = [] ↔ ps[i].1 = false) ∧ (ps[i].1 = true → (dE ps[i].2.2).2 = 0)) ∧ ps.flatMap (·.2.2) = d
theorem inv_end {d : List UInt8} {s : St.PS} (h : InvS d s) : PartsOk d (St.endS d s) := by
  obtain ⟨i1, i2, i3, i4⟩ := h
  unfold St.endS
  refine ⟨by simp; omega, fun i hi => ?_, ?_⟩
  · simp only [List.length_append, List.length_singleton] at hi
    by_cases hlt : i < s.1.length
    · simp only [List.getElem_append_left hlt]; exact i2 i hlt
    · simp only [List.getElem_append_right (Nat.le_of_not_lt hlt)]
      have hq : i - s.1.length = 0 := by omega
      simp only [hq, List.getElem_cons_zero]
      refine ⟨by rw [decide_eq_false (by omega)], by simp, by simp⟩
  · simp only [List.flatMap_append, List.flatMap_cons, List.flatMap_nil, List.append_nil]
    rw [i3]; simp

theorem take_ne {l : List UInt8} {n : Nat} (h : n ≠ 0) (hl : n ≤ l.length) : l.take n ≠ [] := by
  intro e
  have h2 := congrArg List.length e
  rw [List.length_take, List.length_nil] at h2
  omega
theorem inv_res {d : List UInt8} : ∀ (fuel a : Nat) (s s' : St.PS), InvS d s → s.2 ≤ a → St.resS dE d fuel a s = .ok s' → InvS d s'
  | 0, a, s, s', hi, _, h => by simp [St.resS] at h; subst h; exact hi
  | fuel + 1, a, s, s', hi, ha, h => by
    by_cases hl : d.length ≤ a
    · rw [St.resS_end hl] at h; cases h; exact hi
    · cases h1 : St.skipB (d.drop a) with
      | true =>
        rw [St.resS_skip hl h1] at h
        exact inv_res fuel _ s s' hi (by have := St.lineN_le (d.drop a); simp at this; omega) h
      | false =>
        by_cases h2 : St.keyN (d.drop a) = 0 ∨ 64 < St.keyN (d.drop a) ∨ ((d.drop (a + St.keyN (d.drop a))).head?.map UInt8.toNat) ≠ some 61
        · rw [St.resS_bad hl h1 h2] at h; cases h
        · cases h3 : St.hasK s.1 (St.cutL d a (a + St.keyN (d.drop a))) with
          | true => rw [St.resS_dup hl h1 h2 h3] at h; cases h
          | false =>
            have hk := St.keyN_le (d.drop a)
            obtain ⟨n, hn⟩ : ∃ n, St.keyN (d.drop a) = n := ⟨_, rfl⟩
            obtain ⟨b, hb⟩ : ∃ b, a + n + 1 = b := ⟨_, rfl⟩
            obtain ⟨t, ht⟩ : ∃ t, b + St.endN (d.drop b) = t := ⟨_, rfl⟩
            have he := St.endN_le (d.drop b)
            have hlt : a + n < d.length := by
              rcases Nat.lt_or_ge (a + n) d.length with hq | hq
              · exact hq
              · exfalso
                apply h2
                rw [hn, List.drop_of_length_le hq]
                exact .inr (.inr (by simp))
            simp only [List.length_drop] at he hk
            by_cases h4 : (dE (St.cutL d b t)).2 = 0
            · rw [St.resS_unit hl h1 h2 h3 hn hb ht h4] at h
              refine inv_res fuel _ _ s' (inv_unit hi (by omega) (by omega) (by omega) ?_ h4) ?_ h
              · unfold St.cutL
                rw [List.drop_take]
                refine take_ne ?_ ?_
                · have := (not_or.1 h2).1; omega
                · simp; omega
              · show t ≤ _
                omega
            · rw [St.resS_err hl h1 h2 h3 hn hb ht h4] at h; cases h
theorem res_noerr {d : List UInt8} : ∀ (fuel a : Nat) (s : St.PS) (x : Nat), St.resS dE d fuel a s ≠ .error (x, 0)
  | 0, a, s, x => by simp [St.resS]
  | fuel + 1, a, s, x => by
    intro h
    by_cases hl : d.length ≤ a
    · rw [St.resS_end hl] at h; cases h
    · cases h1 : St.skipB (d.drop a) with
      | true => rw [St.resS_skip hl h1] at h; exact res_noerr fuel _ s x h
      | false =>
        by_cases h2 : St.keyN (d.drop a) = 0 ∨ 64 < St.keyN (d.drop a) ∨ ((d.drop (a + St.keyN (d.drop a))).head?.map UInt8.toNat) ≠ some 61
        · rw [St.resS_bad hl h1 h2] at h; simp at h
        · cases h3 : St.hasK s.1 (St.cutL d a (a + St.keyN (d.drop a))) with
          | true => rw [St.resS_dup hl h1 h2 h3] at h; simp at h
          | false =>
            by_cases h4 : (dE (St.cutL d (a + St.keyN (d.drop a) + 1) (a + St.keyN (d.drop a) + 1 + St.endN (d.drop (a + St.keyN (d.drop a) + 1))))).2 = 0
            · rw [St.resS_unit hl h1 h2 h3 rfl rfl rfl h4] at h; exact res_noerr fuel _ _ x h
            · rw [St.resS_err hl h1 h2 h3 rfl rfl rfl h4] at h
              simp only [Except.error.injEq, Prod.mk.injEq] at h
              exact h4 h.2
/-- The parts of a file without error. -/
theorem resT_parts (d : ByteArray) (h : (resT d).2.2 = 0) : PartsOk d.data.toList (resT d).1 := by
  unfold resT at h ⊢
  by_cases h0 : 65536 < d.data.toList.length
  · unfold St.splitR at h; rw [if_pos h0] at h; cases h
  · rw [St.splitR_ok h0] at h ⊢
    cases hr : St.resS dE d.data.toList (d.data.toList.length + 1) 0 ([], 0) with
    | error x =>
      obtain ⟨a, er⟩ := x
      rw [hr] at h
      have : er = 0 := h
      subst this
      exact absurd hr (res_noerr _ _ _ _)
    | ok s => exact inv_end (inv_res _ _ _ _ (inv_nil _) (by simp) hr)
end Go.Proofs.YtkofmnbgcekjmaaDoor

namespace Go.Proofs.YtkofmnbgcekjmaaDoor
namespace St

def EndS (b : List UInt8) : Prop := ∀ l, endN (b ++ l) = b.length + endN l
theorem es_nil : EndS [] := fun l => by simp
theorem es_app {a b : List UInt8} (ha : EndS a) (hb : EndS b) : EndS (a ++ b) := by
  intro l
  rw [List.append_assoc, ha, hb, List.length_append]; omega
theorem es_one {c : UInt8} (h : c.toNat ≠ 10) (h2 : c.toNat ≠ 92) : EndS [c] := by
  intro l
  show endN (c :: l) = 1 + endN l
  rw [endN.eq_def]; simp only []; rw [if_neg h, if_neg h2]
theorem es_two (c : UInt8) : EndS [92, c] := by
  intro l
  show endN (92 :: c :: l) = 2 + endN l
  rw [endN.eq_def]; simp only []; rw [if_neg (by decide), if_pos (by decide)]
theorem es_all : ∀ {b : List UInt8}, (∀ c ∈ b, c.toNat ≠ 10 ∧ c.toNat ≠ 92) → EndS b
  | [], _ => es_nil
  | c :: b, h => es_app (a := [c]) (es_one (h c (by simp)).1 (h c (by simp)).2) (es_all (fun d hd => h d (by simp [hd])))
theorem name_es {t : List UInt8} (h : isNameL t = true) : ∀ c ∈ t, c.toNat ≠ 10 ∧ c.toNat ≠ 92 := by
  cases t with
  | nil => cases h
  | cons c r =>
    rw [isNameL] at h
    simp only [Bool.and_eq_true, decide_eq_true_eq, lowC] at h
    obtain ⟨_, h1, h2⟩ := h
    intro d hd
    rcases List.mem_cons.1 hd with rfl | hd
    · omega
    · have := List.all_eq_true.1 h2 d hd
      simp only [nameC, decide_eq_true_eq] at this
      omega
theorem es_encB (c : UInt8) : EndS (encB 2 c) := by
  unfold encB
  simp only [Int.reduceEq, if_false, if_true]
  repeat' split
  all_goals first | exact es_two _ | (refine es_one ?_ ?_ <;> omega)
theorem es_piece {p : It} (h : Pos1 p) : EndS (encI 2 p) := by
  rcases h with ⟨c, rfl⟩ | ⟨t, rfl, ht⟩
  · have e : encI 2 (1, [c], 0) = encB 2 c := by simp [encI]
    rw [e]; exact es_encB c
  · have e : encI 2 (5, t, 0) = 123 :: (t ++ [125]) := by simp [encI]
    rw [e]
    exact es_app (a := [123]) (es_one (by decide) (by decide)) (es_app (es_all (name_es ht)) (es_one (by decide) (by decide)))
theorem es_shield {p : It} (h : Pos1 p) : EndS (shieldL (encI 2 p)) := by
  have h0 := es_piece h
  cases hb : encI 2 p with
  | nil => exact es_nil
  | cons c r =>
    rw [hb] at h0
    rw [shieldL]
    split
    · rename_i h32
      have hr : EndS r := by
        intro l
        have := h0 l
        rw [List.cons_append] at this
        have h1 := es_one (c := c) (by omega) (by omega) (r ++ l)
        rw [List.singleton_append] at h1
        rw [h1] at this
        simp at this; omega
      exact es_app (es_two 115) hr
    · exact h0
theorem es_blank (r : Nat) : EndS (blankL r) := by
  unfold blankL
  repeat' split
  · exact es_nil
  · exact es_one (by decide) (by decide)
  · exact es_app (a := [9]) (es_one (by decide) (by decide)) (es_one (by decide) (by decide))
theorem es_form {p : It} {b : List UInt8} (h : Pos1 p) (hf : formB 2 p b) : EndS b := by
  rcases hf with rfl | ⟨h1, _⟩ | ⟨_, ⟨_, _, rfl⟩ | ⟨r, _, rfl⟩⟩
  · exact es_piece h
  · exact absurd h1 (by decide)
  · exact es_two 115
  · exact es_app (es_app (es_two 10) (es_blank r)) (es_shield h)
theorem es_flat : ∀ {ps : List (List UInt8 × It)}, (∀ p ∈ ps, EndS p.1) → EndS (flatP ps)
  | [], _ => es_nil
  | p :: ps, h => es_app (h p (by simp)) (es_flat (fun q hq => h q (by simp [hq])))
theorem end_stop {raw : List UInt8} (h : EndS raw) (r : List UInt8) : endN (raw ++ 10 :: r) = raw.length := by
  rw [h]
  have : endN (10 :: r) = 0 := by rw [endN.eq_def]; simp only []; rw [if_pos (by decide)]
  omega
theorem dig_one {i : Nat} (h : i < 10) : Lib.decDigits i = [UInt8.ofNat (48 + i)] := Lib.decDigits_one h
theorem dig_nat {i : Nat} (h : i < 10) : (UInt8.ofNat (48 + i)).toNat = 48 + i := UInt8.toNat_ofNat_of_lt' (by show 48 + i < 256; omega)
theorem skip_line {dE : List UInt8 → Nat × Int} {d : List UInt8} {fuel a n : Nat} {s : PS} {t R : List UInt8} (hd : d.drop a = t ++ 10 :: R) (hs : skipB (t ++ 10 :: R) = true) (ht : ∀ c ∈ t, c.toNat ≠ 10) (hn : n = a + t.length + 1) : resS dE d (fuel + 1) a s = resS dE d fuel n s ∧ d.drop n = R := by
  have hl := congrArg List.length hd
  simp at hl
  have hln : lineN (d.drop a) = t.length := by
    rw [hd]; unfold lineN
    rw [List.takeWhile_append_of_pos (fun c hc => by simpa using ht c hc), List.takeWhile_cons_of_neg (by decide), List.append_nil]
  refine ⟨?_, ?_⟩
  · rw [resS_skip (by omega) (by rw [hd]; exact hs), hln, ← hn, Nat.min_eq_left (by omega)]
  · rw [hn, ← List.drop_drop, ← List.drop_drop, hd, List.drop_left]; rfl
theorem tail_skip {dE : List UInt8 → Nat × Int} {d R : List UInt8} {fuel a r : Nat} {s : PS} (hr : r < 3) (hd : d.drop a = tailK r ++ R) : ∃ a', resS dE d (fuel + 1) a s = resS dE d fuel a' s ∧ d.drop a' = R ∨ (resS dE d (fuel + 1) a s = resS dE d (fuel + 1) a' s ∧ d.drop a' = R) := by
  rcases (show r = 0 ∨ r = 1 ∨ r = 2 by omega) with rfl | rfl | rfl
  · exact ⟨a, .inr ⟨rfl, hd⟩⟩
  · exact ⟨_, .inl (skip_line (t := [35, 120]) hd rfl (by simp) rfl)⟩
  · exact ⟨_, .inl (skip_line (t := []) hd rfl (by simp) rfl)⟩
theorem hasK_app (a b : List Pt) (k : List UInt8) : hasK (a ++ b) k = (hasK a k || hasK b k) := by unfold hasK; rw [List.any_append]
theorem unit_made {dE : List UInt8 → Nat × Int} {d raw R : List UInt8} {fuel a i : Nat} {s : PS} (hi : i < 10) (hk : ∀ j, j ≤ i → hasK s.1 (keyK j) = false) (hq : EndS raw) (he : (dE raw).2 = 0) (hd : d.drop a = keyK i ++ 61 :: (raw ++ 10 :: R)) :
    ∃ s' a', resS dE d (fuel + 1) a s = resS dE d fuel a' s' ∧ d.drop a' = R ∧ ∀ j, j < i → hasK s'.1 (keyK j) = false := by
  have hkk : keyK i = [107, UInt8.ofNat (48 + i)] := by unfold keyK; rw [dig_one hi]; rfl
  have hnn := dig_nat hi
  rw [hkk] at hd
  have hl := congrArg List.length hd
  simp at hl
  have h0 : ¬ d.length ≤ a := by omega
  have h1 : skipB (d.drop a) = false := by rw [hd]; rfl
  have hkc : keyC (UInt8.ofNat (48 + i)) = true := by unfold keyC; rw [hnn]; exact decide_eq_true (by omega)
  have hn : keyN (d.drop a) = 2 := by
    rw [hd]; unfold keyN
    simp only [List.cons_append, List.nil_append]
    rw [List.takeWhile_cons_of_pos rfl, List.takeWhile_cons_of_pos hkc, List.takeWhile_cons_of_neg (by decide)]
    rfl
  have hd2 : d.drop (a + 2) = 61 :: (raw ++ 10 :: R) := by rw [← List.drop_drop, hd]; rfl
  have hd3 : d.drop (a + 2 + 1) = raw ++ 10 :: R := by rw [← List.drop_drop, hd2]; rfl
  have hc : cutL d a (a + 2) = keyK i := by
    rw [hkk]; unfold cutL
    rw [List.drop_take, hd, show a + 2 - a = 2 by omega]; rfl
  have hcr : cutL d (a + 2 + 1) (a + 2 + 1 + raw.length) = raw := by
    unfold cutL
    rw [List.drop_take, hd3, show a + 2 + 1 + raw.length - (a + 2 + 1) = raw.length by omega, List.take_left]
  refine ⟨_, _, resS_unit h0 h1 (by rw [hn, hd2]; simp) (by rw [hn, hc]; exact hk i (Nat.le_refl _)) (n := 2) (b := a + 2 + 1) (t := a + 2 + 1 + raw.length) hn rfl (by rw [hd3, end_stop hq]) (by rw [hcr]; exact he), ?_, ?_⟩
  · rw [Nat.min_eq_left (by omega), ← List.drop_drop, ← List.drop_drop, hd3, List.drop_left]; rfl
  · intro j hj
    unfold unitS
    rw [hasK_app, hk j (by omega), hc]
    have hne : keyK i ≠ keyK j := by
      rw [hkk]; unfold keyK
      rw [dig_one (by omega)]
      intro e
      simp only [List.cons_append, List.nil_append, List.cons.injEq, and_true, true_and] at e
      have := congrArg UInt8.toNat e
      rw [hnn, dig_nat (by omega)] at this
      omega
    simp [hasK, hne]
theorem resS_made {dE : List UInt8 → Nat × Int} {d : List UInt8} : ∀ (rs : List ((List It × ByteArray) × Nat)) (i fuel a : Nat) (s : PS), rs.length ≤ i → i < 10 → (∀ j, j ≤ i → hasK s.1 (keyK j) = false) → (∀ x ∈ rs, EndS x.1.2.data.toList ∧ (dE x.1.2.data.toList).2 = 0 ∧ x.2 < 3) → 2 * rs.length ≤ fuel → d.drop a = recsK i rs → ∃ s', resS dE d fuel a s = .ok s'
  | [], i, fuel, a, s, _, _, _, _, _, hd => by
    have : d.length ≤ a := by
      have := congrArg List.length hd
      simp [recsK] at this; omega
    exact ⟨_, resS_end (by omega)⟩
  | x :: rs, i, fuel, a, s, hl, hi, hk, hx, hf, hd => by
    obtain ⟨hq, he, h3⟩ := hx x (by simp)
    simp only [List.length_cons] at hl hf
    obtain ⟨m, rfl⟩ : ∃ m, fuel = m + 1 + 1 := ⟨fuel - 2, by omega⟩
    have hd0 : d.drop a = keyK i ++ 61 :: (x.1.2.data.toList ++ 10 :: (tailK x.2 ++ recsK (i - 1) rs)) := by rw [hd]; simp [recsK, recK]
    obtain ⟨s1, a1, h1, hd1, hk1⟩ := unit_made (dE := dE) (fuel := m + 1) hi hk hq he hd0
    rw [h1]
    have hk2 : ∀ j, j ≤ i - 1 → hasK s1.1 (keyK j) = false := fun j hj => hk1 j (by omega)
    obtain ⟨a2, ⟨h2, hd2⟩ | ⟨h2, hd2⟩⟩ := tail_skip (dE := dE) (fuel := m) (s := s1) h3 hd1
    · rw [h2]; exact resS_made rs (i - 1) m a2 s1 (by omega) (by omega) hk2 (fun y hy => hx y (by simp [hy])) (by omega) hd2
    · rw [h2]; exact resS_made rs (i - 1) (m + 1) a2 s1 (by omega) (by omega) hk2 (fun y hy => hx y (by simp [hy])) (by omega) hd2
theorem recs_long (i : Nat) : ∀ rs : List ((List It × ByteArray) × Nat), 3 * rs.length ≤ (recsK i rs).length
  | [] => by simp
  | x :: rs => by
    have := recs_long (i - 1) rs
    simp [recsK, recK, keyK]; omega
theorem res_made {dE : List UInt8 → Nat × Int} {d : List UInt8} {h : Nat} {rs : List ((List It × ByteArray) × Nat)} (hh : h < 3) (hl : rs.length < 10) (hx : ∀ x ∈ rs, EndS x.1.2.data.toList ∧ (dE x.1.2.data.toList).2 = 0 ∧ x.2 < 3) (hz : d.length ≤ 65536) (hd : d = headK h ++ recsK rs.length rs) : (splitR dE d).2.2 = 0 := by
  have hlen := congrArg List.length hd
  rw [List.length_append] at hlen
  have h2 := recs_long rs.length rs
  have hend : ∀ (fuel a : Nat) (s : PS), s = ([], 0) → 2 * rs.length ≤ fuel → d.drop a = recsK rs.length rs → ∃ s', resS dE d fuel a s = .ok s' := by
    intro fuel a s hs hf ha
    subst hs
    exact resS_made rs rs.length fuel a _ (Nat.le_refl _) hl (fun j _ => rfl) hx hf ha
  have key : ∃ s', resS dE d (d.length + 1) 0 ([], 0) = .ok s' := by
    rcases (show h = 0 ∨ h = 1 ∨ h = 2 by omega) with rfl | rfl | rfl
    · exact hend _ 0 _ rfl (by omega) (by rw [List.drop_zero, hd]; rfl)
    · have e : (headK 1).length = 4 := rfl
      obtain ⟨m, hm⟩ : ∃ m, d.length = m + 1 := ⟨d.length - 1, by omega⟩
      obtain ⟨h1, hd1⟩ := skip_line (dE := dE) (d := d) (fuel := m + 1) (a := 0) (s := ([], 0)) (t := [35, 32, 99]) (R := recsK rs.length rs) (by rw [List.drop_zero]; exact hd) rfl (by simp) rfl
      rw [hm, h1]
      exact hend _ _ _ rfl (by omega) hd1
    · have e : (headK 2).length = 3 := rfl
      obtain ⟨m, hm⟩ : ∃ m, d.length = m + 1 + 1 := ⟨d.length - 2, by omega⟩
      obtain ⟨h1, hd1⟩ := skip_line (dE := dE) (d := d) (fuel := m + 1 + 1) (a := 0) (s := ([], 0)) (t := []) (R := [32] ++ 10 :: recsK rs.length rs) (by rw [List.drop_zero]; exact hd) rfl (by simp) rfl
      obtain ⟨h3, hd3⟩ := skip_line (dE := dE) (d := d) (fuel := m + 1) (s := ([], 0)) (t := [32]) hd1 rfl (by simp) rfl
      rw [hm, h1, h3]
      exact hend _ _ _ rfl (by omega) hd3
  obtain ⟨s', hs'⟩ := key
  rw [splitR_ok (by omega), hs']
  rfl
theorem splitR_bad {dE : List UInt8 → Nat × Int} {d : List UInt8} (h : (splitR dE d).2.2 ≠ 0) : (splitR dE d).1 = [] := by
  by_cases h0 : 65536 < d.length
  · rw [splitR, if_pos h0]
  · rw [splitR_ok h0] at h ⊢
    cases hr : resS dE d (d.length + 1) 0 ([], 0) with
    | error x => rfl
    | ok s => rw [hr] at h; exact absurd rfl h
end St
theorem raws_es {f : List St.It} {raw : ByteArray} (hg : GoodF f) (hr : RawsOf 2 f raw) : St.EndS raw.data.toList := by
  obtain ⟨ps, h1, h2, h3⟩ := hr
  rw [h1]
  refine St.es_flat fun p hp => ?_
  have hm : p.2 ∈ St.posI f := by rw [← h2]; unfold St.itsP; exact List.mem_map.2 ⟨p, hp, rfl⟩
  exact St.es_form (good_pos hg _ hm) (h3 p hp)
theorem data8_ok {n : Nat} {data : ByteArray} (h : DataOf8 n data) (hn : n < 10) (hs : data.size ≤ 65536) : (resT data).2.2 = 0 := by
  obtain ⟨hh, rs, hc, hl, hx, hd⟩ := h
  unfold resT
  refine St.res_made (h := hh) (rs := rs) hc (by omega) (fun x hm => ?_) (by rw [St.len_list]; exact hs) hd
  obtain ⟨⟨hg, hl, ht, hr⟩, h3⟩ := hx x hm
  refine ⟨raws_es hg hr, ?_, h3⟩
  obtain ⟨cuts, hD, _⟩ := res_reads hg (by omega) (by omega) hr
  rw [dE_of, hD]
theorem res_bad {x : ByteArray} (h : ¬ (resT x).2.2 = 0) : (resT x).1 = [] := by
  unfold resT at h ⊢; exact St.splitR_bad h
end Go.Proofs.YtkofmnbgcekjmaaDoor

namespace Go.Proofs.YtkofmnbgcekjmaaDoor
open Go.RowKit

theorem ix2 (a b : ByteArray) (W : World) : (Instr.index 52 (.agg #[.string a, .string b]) (.int .i64 0)).run Tryd.prog W = .ok (.string a) W ∧ (Instr.index 52 (.agg #[.string a, .string b]) (.int .i64 1)).run Tryd.prog W = .ok (.string b) W := by
  exact ⟨by kernel_rfl, by kernel_rfl⟩
theorem sum_at {d : List UInt8} {ps : List St.Pt} {j : Nat} (h : ps.flatMap (·.2.2) = d) (hj : j < ps.length) : ((ps.take j).flatMap (·.2.2)).length + ps[j].2.2.length ≤ d.length := by
  have e : ps = ps.take j ++ ps[j] :: ps.drop (j + 1) := by
    rw [← List.drop_eq_getElem_cons hj, List.take_append_drop]
  have := congrArg List.length h
  rw [← this]
  conv => rhs; rw [e]
  simp only [List.flatMap_append, List.flatMap_cons, List.length_append]
  omega
theorem take_at {t : List UInt8} {ps : List St.Pt} {j : Nat} (h : t = (ps.take j).flatMap (·.2.2)) (hj : j < ps.length) : (ps.take (j + 1)).flatMap (·.2.2) = t ++ ps[j].2.2 := by
  rw [h, List.take_add_one, List.getElem?_eq_getElem hj, List.flatMap_append]
  simp only [Option.toList_some, List.flatMap_cons, List.flatMap_nil, List.append_nil]
def PrRel (w : World) (x : ByteArray) (A : Option Addr) (R : List St.Pt) (s13 s53 : Value) (wr : World) : Prop :=
  ∃ (j : Nat) (t : ByteArray), s13 = .string t ∧ s53 = .int .i64 j ∧ j ≤ R.length ∧ t.data.toList = (R.take j).flatMap (·.2.2) ∧ t.size ≤ x.size ∧ PartsAt wr A R ∧ Und w wr

set_option maxRecDepth 20000 in
set_option maxHeartbeats 12800000 in
theorem prtlaw_any (at' by' : Int) (A : Option Addr) (n c : Nat) (zs : List Int) (w : World) (hz : zs.length = n) (hn : n ≤ 9223372036854775807) (hI : IntsAt w A zs) :
    Calls Tryd.prog 7 #[.slice A n c, .int .i64 at', .int .u8 by'] w fun e w' => e = .returned (.bool true) ∧ Und w w' := by
  have HKN := hid (fun W (hW : Und w W) => xknown_any W)
  have HDA := hid (data8_own A n c zs w hz hn hI 49)
  clear hI
  by_cases q1 : 200 < n
  · have z1 : (200 : Int) < (n : Int) := by omega
    go_enter Tryd.func7, Tryd.ntmps7
    go_wp2_with fail
    refine (HKN.out _ (Und.refl _)).mono ?_
    rintro e w2 ⟨rfl, hu⟩
    have HU := hid hu
    clear hu
    go_wp2
    go_ret
    exact ⟨rfl, HU.out⟩
  have z1 : ¬ (200 : Int) < (n : Int) := by omega
  go_enter Tryd.func7, Tryd.ntmps7
  go_wp2_with fail
  refine HDA.out.mono ?_
  rintro e w2 ⟨raw, rfl, hD, hrs, hu⟩
  have HOK := hid (data8_ok hD (by omega) (by omega))
  have HU := hid hu
  clear hu HDA hD
  go_wp2_with fail
  refine (changed_any raw at' by' w2 (by omega)).mono ?_
  rintro e w3 ⟨u, rfl, hus, hu3⟩
  have HU3 := hid (HU.out.trans hu3)
  clear hu3 HU
  go_wp2_with fail
  go_loopw [32] (fun i wr => BzRel w 2 i wr) (fun i _ => 3 - (intOf i).toNat)
  case atStart => exact ⟨0, by omega, rfl, HU3.out⟩
  case round =>
    obtain ⟨k, hk, rfl, hu⟩ := hrel
    have HU := hid hu
    clear hu HU3
    by_cases hk2 : k = 2
    · subst hk2
      go_wp2_with fail
      refine (HKN.out _ HU.out).mono ?_
      rintro e w5 ⟨rfl, hu5⟩
      have HU5 := hid (HU.out.trans hu5)
      clear hu5
      go_wp2
      go_ret
      exact ⟨rfl, HU5.out⟩
    have hlt : (k : Int) < 2 := by omega
    have hkw : IntKind.i64.wrap ((k : Int) + 1) = ((k + 1 : Nat) : Int) := by rw [IntWalk.i64_in _ (by omega)]; simp
    obtain ⟨x, hx, hxs⟩ : ∃ x : ByteArray, (Instr.index 52 (.agg #[.string raw, .string u]) (.int .i64 k)).run Tryd.prog wr = .ok (.string x) wr ∧ x.size ≤ 16012 := by
      obtain ⟨ia, ib⟩ := ix2 raw u wr
      rcases (show k = 0 ∨ k = 1 by omega) with rfl | rfl
      · exact ⟨raw, ia, hrs⟩
      · exact ⟨u, ib, by omega⟩
    have HSP := hid (fun W (hW : Und w W) => xsplit_any x W (by omega))
    by_cases her : (resT x).2.2 = 0
    · have HPO := hid (resT_parts x her)
      obtain ⟨R, hR⟩ : ∃ R, R = resT x := ⟨_, rfl⟩
      rw [← hR] at HPO HSP her
      clear hR
      obtain ⟨f1, at1, er1⟩ := R
      simp only at her HPO
      subst her
      go_wp2_with fail
      refine (HSP.out _ HU.out).mono ?_
      rintro e w4 ⟨A3, c3, rfl, hI3, h31, h32, hu4⟩
      simp only at hI3 h31 ⊢
      have HI3 := hid hI3
      have HU4 := hid (HU.out.trans hu4)
      clear hI3 hu4 HSP HU hx
      go_wp2_with fail
      go_loopw [13, 53] (fun s13 s53 wr => PrRel w x A3 f1 s13 s53 wr) (fun _ i _ => f1.length - (intOf i).toNat)
      case atStart => exact ⟨0, ByteArray.empty, rfl, rfl, by omega, rfl, by simp, HI3.out, HU4.out⟩
      case round =>
        clear HI3 HU4
        obtain ⟨j, t, rfl, rfl, hj, htt, hts, hP, hu⟩ := hrel
        have HP := hid hP
        have HU := hid hu
        have HTT := hid htt
        clear hP hu htt
        by_cases hjl : j < f1.length
        · have hjz : (j : Int) < (f1.length : Int) := by omega
          have hjw : IntKind.i64.wrap ((j : Int) + 1) = (j : Int) + 1 := IntWalk.i64_in _ (by omega)
          obtain ⟨b, o, rfl, hb, hc1⟩ := HP.out (by omega)
          obtain ⟨h1, h2, h3⟩ := hc1 j hjl
          haveI : LtW b wr := LtW.of hb
          obtain ⟨hp1, hp2, hp3⟩ := HPO.out.2.1 j hjl
          have hsum := sum_at HPO.out.2.2 hjl
          rw [← HTT.out, St.len_list, St.len_list] at hsum
          have htk := take_at HTT.out hjl
          generalize f1[j] = y at h1 h2 h3 hp1 hp2 hp3 hsum htk
          obtain ⟨yk, yt, yi⟩ := y
          simp only at h1 h2 h3 hp1 hp2 hp3 hsum htk
          obtain ⟨rw', hrw⟩ : ∃ rw' : ByteArray, rw' = ⟨yi.toArray⟩ := ⟨_, rfl⟩
          obtain ⟨ky, hky⟩ : ∃ ky : ByteArray, ky = ⟨yt.toArray⟩ := ⟨_, rfl⟩
          rw [← hrw] at h3
          rw [← hky] at h2
          have hrd : rw'.data.toList = yi := by rw [hrw]
          have hrz : rw'.size = yi.length := by rw [← St.len_list, hrd]
          have hadd : (t ++ rw').data.toList = (f1.take (j + 1)).flatMap (·.2.2) := by rw [htk, ByteArray.data_append, Array.toList_append, hrd]
          have hsz : (t ++ rw').size = t.size + yi.length := by rw [ByteArray.size_append, hrz]
          have hde : yk = true → (resD rw').2.2.2 = 0 := by
            intro e
            have := hp3 e
            rw [← hrd, dE_of] at this
            exact this
          have hcat : t.size + rw'.size ≤ 9223372036854775807 := by omega
          have HDC := hid (fun W => xdecode_any rw' W (by omega))
          have HADD := hid hadd
          have HSZ := hid (show (t ++ rw').size ≤ x.size by omega)
          clear hadd hsz hsum htk hrz hrd hrw hp3 hc1
          generalize resD rw' = D at HDC hde
          obtain ⟨f2, c2, a2, e2⟩ := D
          simp only at hde
          by_cases hpar : j % 2 = 1
          · have hkt : yk = true := by rw [hp1, decide_eq_true hpar]
            have hm1 : (j : Int).tmod 2 = 1 := by rw [Int.tmod_eq_emod_of_nonneg (by omega)]; omega
            subst hkt
            have he2 : e2 = 0 := hde rfl
            subst he2
            have hkn : (ky.toList == []) = false := by
              refine Bool.eq_false_iff.2 fun e => ?_
              have h0 := eq_of_beq e
              rw [Lib.toList_data, hky] at h0
              exact absurd (hp2.1 h0) (by simp)
            clear hp1 hp2 hde hky
            go_wp2_with fail
            go_quiet (fail)
            go_wp2_with fail
            refine (HDC.out _).mono ?_
            rintro e w6 ⟨A6, c6, rfl, _, _, _, hu6⟩
            replace hu6 := ((Und.refl wr).drewN _).trans hu6
            have hg1 := (hu6.cell (p := ⟨b, o + j * 3, none⟩) hb).trans h1
            haveI : LtW b w6 := LtW.of (Nat.lt_of_lt_of_le hb hu6.size)
            have HU6 := hid (HU.out.trans hu6)
            have HP6 := hid (HP.out.und hu6)
            clear hu6 h1 h2 h3 HU HP HDC
            go_wp2
            exact ⟨⟨j + 1, _, rfl, by simp, by omega, HADD.out, HSZ.out, HP6.out, HU6.out⟩, by simp [intOf]; omega⟩
          · have hkt : yk = false := by rw [hp1, decide_eq_false hpar]
            subst hkt
            have hkn : (ky.toList == []) = true := by
              rw [hky, hp2.2 rfl, Lib.toList_data]; rfl
            clear hp1 hp2 hde hky
            have hm1 : (j : Int).tmod 2 = 0 := by rw [Int.tmod_eq_emod_of_nonneg (by omega)]; omega
            go_wp2_with fail
            go_quiet (fail)
            go_wp2_with fail
            refine (HDC.out _).mono ?_
            rintro e w6 ⟨A6, c6, rfl, _, _, _, hu6⟩
            replace hu6 := ((Und.refl wr).drewN _).trans hu6
            have hg1 := (hu6.cell (p := ⟨b, o + j * 3, none⟩) hb).trans h1
            haveI : LtW b w6 := LtW.of (Nat.lt_of_lt_of_le hb hu6.size)
            have HU6 := hid (HU.out.trans hu6)
            have HP6 := hid (HP.out.und hu6)
            clear hu6 h1 h2 h3 HU HP HDC
            go_wp2
            exact ⟨⟨j + 1, _, rfl, by simp, by omega, HADD.out, HSZ.out, HP6.out, HU6.out⟩, by simp [intOf]; omega⟩
        · obtain rfl : j = f1.length := by omega
          have htx : t = x := by
            refine bytes_ext _ _ ?_
            rw [HTT.out, List.take_length, HPO.out.2.2]
          subst htx
          have hlen : (f1.length : Int).tmod 2 = 1 := by
            have := HPO.out.1
            rw [Int.tmod_eq_emod_of_nonneg (by omega)]; omega
          have hne : (t.toList != t.toList) = false := by simp
          clear hj hjl
          go_wp2
          exact ⟨⟨k + 1, by omega, by simp, HU.out⟩, by simp [intOf]; omega⟩
    · have hf1 : (resT x).1 = [] := by exact res_bad her
      have hxr : (x.toList == raw.toList) = false := by
        refine Bool.eq_false_iff.2 fun e => her ?_
        have h0 := eq_of_beq e
        rw [Lib.toList_data, Lib.toList_data] at h0
        rw [bytes_ext _ _ h0]; exact HOK.out
      obtain ⟨R, hR⟩ : ∃ R, R = resT x := ⟨_, rfl⟩
      rw [← hR] at HSP her hf1
      clear hR
      obtain ⟨f1, at1, er1⟩ := R
      simp only at her hf1
      subst hf1
      have hner : (er1 != 0) = true := by simpa using her
      go_wp2_with fail
      refine (HSP.out _ HU.out).mono ?_
      rintro e w4 ⟨A3, c3, rfl, _, _, _, hu4⟩
      have HU4 := hid (HU.out.trans hu4)
      clear hu4 HSP HU hx
      simp only [List.length_nil]
      go_wp2
      exact ⟨⟨k + 1, by omega, by simp, HU4.out⟩, by simp [intOf]; omega⟩
end Go.Proofs.YtkofmnbgcekjmaaDoor
