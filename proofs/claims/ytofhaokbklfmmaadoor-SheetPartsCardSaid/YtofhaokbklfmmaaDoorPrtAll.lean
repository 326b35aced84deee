/- The contracts of the law package's made, raws and changed. Conditions: the lists lie in memory. The contract of the maker Data at a sheet: a header and records of raw contents. Conditions: as MakeGen's. The laws SheetReads and SheetDecodes: walks. Condition: the library's table of powers of ten in memory. The law SheetSplits: walk. Condition: the library's table of powers of ten in memory. Plain: what a long text, many placeholders and a long table give. No program in sight. Plain: the parts of a table: they join to its bytes, alternate, and every unit is read; a made table has no error. No program in sight. Plain: a table that the maker wrote has no error. No program in sight. The law SheetParts: walk. Condition: the library's table of powers of ten in memory. -/
import Derived.Test.YtofhaokbklfmmaaDoorMakeRaws
import Derived.Lib.ConvBytes
import Derived.Test.YtofhaokbklfmmaaDoorFacts
import Derived.Test.YtofhaokbklfmmaaDoorRefEl3
import Derived.Test.YtofhaokbklfmmaaDoorRefSame
import Derived.Test.YtofhaokbklfmmaaDoorSheetKnown
import Derived.Test.YtofhaokbklfmmaaDoorRefSheet
import Derived.Test.YtofhaokbklfmmaaDoorPieces
import Derived.Test.YtofhaokbklfmmaaDoorSheetSplit
import Derived.Test.YtofhaokbklfmmaaDoorSplitPlain
import Derived.Test.YtofhaokbklfmmaaDoorItemPl

namespace Go.Proofs.YtofhaokbklfmmaaDoor
open Go.RowKit

/-- A fragment in memory. -/
def FragAt (w : World) (A : Option Addr) (c : Nat) (f : List St.It) (n : Nat) : Prop := ItemsAt w A f ∧ GoodF f ∧ f.length ≤ n ∧ tot f ≤ 18 * n ∧ f.length ≤ c ∧ c ≤ 9223372036854775807 ∧ ∀ b off, A = some ⟨b, off, none⟩ → b < w.heap.size
theorem FragAt.und {w w' : World} {A : Option Addr} {c : Nat} {f : List St.It} {n : Nat} (h : FragAt w A c f n) (u : Und w w') : FragAt w' A c f n := by
  obtain ⟨h1, h2, h3, h4, h5, h6, h7⟩ := h
  exact ⟨h1.und u, h2, h3, h4, h5, h6, fun b off e => Nat.lt_of_lt_of_le (h7 b off e) u.size⟩
theorem own_block_lt {w : World} {B n c : Nat} {A : Option Addr} {e : TypeId} {size : Nat} {xs : List Value} (h : w.ownsRow B e size (.slice A n c) n xs) : ∀ b off, A = some ⟨b, off, none⟩ → b < w.heap.size := by
  intro b off e'
  subst e'
  exact (h.lt b rfl).2
set_option maxHeartbeats 3200000 in
theorem made_any (A : Option Addr) (n c : Nat) (zs : List Int) (w : World) (hz : zs.length = n) (hn : n ≤ 9223372036854775807) (hI : IntsAt w A zs) :
    Calls Tryd.prog 23 #[.slice A n c] w fun e w' => ∃ A2 c2 f, e = .returned (.slice A2 f.length c2) ∧ FragAt w' A2 c2 f 8 ∧ Und w w' := by
  have HG := hid (GenP.fresh (c := c) (T := 35) hn hz hI)
  clear hI
  go_enter Tryd.func23, Tryd.ntmps23
  go_wp2_with fail
  refine (frag_gen (w.heap.size + 1) w.heap.size 0 8 _ HG.out (by omega) (by omega)).mono ?_
  rintro e w2 ⟨v, f, rfl, ho, hgd, hfl, hft, hG2, hk⟩
  obtain ⟨A2, c2, rfl, h1, h2, _⟩ := own_slice' ho
  have hu : Und w w2 := ((Und.refl w).alloc _).of_gb hk (fun g e => by cases e; exact Nat.le_refl _)
  have hF : FragAt w2 A2 c2 f 8 := ⟨items_own ho rfl, hgd, hfl, hft, h1, by unfold maxLen at h2; omega, own_block_lt ho⟩
  have HE := hid (And.intro hF hu)
  clear ho hgd hG2 hk hu hF
  go_wp2
  go_ret
  exact ⟨A2, c2, f, rfl, HE.out.1, HE.out.2⟩
set_option maxHeartbeats 3200000 in
theorem raws_any (A B : Option Addr) (n c m d : Nat) (zs ys : List Int) (w : World) (hz : zs.length = n) (hn : n ≤ 9223372036854775807) (hI : IntsAt w A zs) (hy : ys.length = m) (hm : m ≤ 9223372036854775807) (hJ : IntsAt w B ys) :
    Calls Tryd.prog 10 #[.slice A n c, .slice B m d] w fun e w' => ∃ raw A2 c2 f, e = .returned (.tuple #[.string raw, .slice A2 f.length c2]) ∧ FragAt w' A2 c2 f 8 ∧ RawsOf 3 f raw ∧ raw.size ≤ 6080 ∧ Und w w' := by
  have HM := hid (made_any A n c zs w hz hn hI)
  have HJ := hid hJ
  clear hI hJ
  go_enter Tryd.func10, Tryd.ntmps10
  go_wp2_with fail
  refine HM.out.mono ?_
  rintro e w2 ⟨A2, c2, f, rfl, hF, hu⟩
  have HG := hid (GenP.fresh (c := d) (T := 35) hm hy (HJ.out.und hu))
  have HF := hid hF
  have HU := hid hu
  clear hF hu HM
  go_wp2_with fail
  refine (raws_gen 3 long_sheet (w2.heap.size + 1) w2.heap.size 0 A2 f.length c2 f _ HG.out (by omega) rfl HF.out.2.2.2.2.1 HF.out.2.2.2.2.2.1 (HF.out.1.und ((Und.refl _).alloc _)) (fun b off e => by have := HF.out.2.2.2.2.2.2 b off e; omega) (by have := HF.out.2.2.1; omega) (by have := HF.out.2.2.2.1; omega) HF.out.2.1).mono ?_
  rintro e w3 ⟨raw, rfl, hR, hrs, hG3, hk⟩
  have hu3 : Und w2 w3 := ((Und.refl w2).alloc _).of_gb hk (fun g e => by cases e; exact Nat.le_refl _)
  have hb1 := HF.out.2.2.1
  have hb2 := HF.out.2.2.2.1
  have HE := hid (And.intro (HF.out.und hu3) (And.intro hR (HU.out.trans hu3)))
  clear hR hG3 hk hu3 HF HU HG
  go_wp2
  go_ret2
  exact ⟨raw, A2, c2, f, rfl, HE.out.1, HE.out.2.1, by omega, HE.out.2.2⟩
theorem frozen_past (w : World) (s : ByteArray) (j : Nat) (hj : j < s.size) : (Lib.bytesWorld w 5 s).frozen? ⟨w.heap.size, j, none⟩ = false := by
  have h := Lib.bytesWorld_at_new w 5 s
  have hs : s.size ≤ (Lib.bytesCells w 5 s).size := by unfold Lib.bytesCells; simp
  unfold World.frozen?
  simp only [h]
  simp
  omega
set_option maxRecDepth 20000 in
set_option maxHeartbeats 3200000 in
theorem changed_any (s : ByteArray) (at' by' : Int) (w : World) (hs : s.size ≤ 1000000) :
    Calls Tryd.prog 14 #[.string s, .int .i64 at', .int .u8 by'] w fun e w' => ∃ u : ByteArray, e = .returned (.string u) ∧ u.size = s.size ∧ Und w w' := by
  have hb : Below w.heap.size w (Lib.bytesWorld w 5 s) := ⟨rfl, rfl, rfl, by rw [Lib.bytesWorld_size]; omega, fun k hk => Lib.bytesWorld_at_old w _ _ k hk⟩
  have hcv := Lib.run_convert_string_bytes w 9 52 5 s Tryd.underlying9 Tryd.underlying52 Tryd.underlying5
  have hcell := fun j hj => Lib.bytesWorld_cell w 5 s j hj
  have hfr := fun j hj => frozen_past w s j hj
  have hsz := Lib.bytesWorld_size w 5 s
  have hcb := grownCap_ge w s.size 0 5
  have hcm := grownCap_le_maxLen w s.size 0 5 (by unfold maxLen; omega)
  generalize Lib.bytesWorld w 5 s = w1 at hb hcv hcell hfr hsz
  generalize grownCap w s.size 0 5 = cap at hcv hcb hcm
  have HU1 := hid (Und.mk hb)
  have HC := hid hcell
  have HFR := hid hfr
  have HB := hid (show w.heap.size < w1.heap.size by omega)
  haveI : LtW w.heap.size w1 := LtW.of HB.out
  clear hb hcell hfr hsz
  have back : ∀ (W : World) (xs : List Int), xs.length = s.size → (∀ i, i < s.size → W.cell? ⟨w.heap.size, i, none⟩ = some (.int .u8 (xs.getD i 0))) → (convert 52 9 (.slice (some ⟨w.heap.size, 0, none⟩) s.size cap)).run Tryd.prog W = .ok (.string (strOfNums xs)) W := by
    intro W xs hl hc
    exact run_convert_bytes_arg W 52 5 Tryd.underlying52 Tryd.underlying5 w.heap.size 0 s.size cap xs hl (fun i hi => by rw [Nat.zero_add]; exact hc i hi) _ Tryd.underlying9
  have BACK := hid back
  clear back
  by_cases h0 : 0 < s.size
  · have z : (0 : Int) < s.size := by omega
    have hpl := hid (place_any at' s.size w1 (by omega) (by omega))
    have a1 := Int.emod_nonneg at' (show (s.size : Int) ≠ 0 by omega)
    have b1 := Int.emod_lt_of_pos at' z
    generalize at' % (s.size : Int) = p1 at hpl a1 b1
    obtain ⟨p, rfl⟩ : ∃ k : Nat, p1 = k := ⟨p1.toNat, by omega⟩
    have hp : p < s.size := by omega
    have g0 := HC.out p hp
    have f0 := HFR.out p hp
    have hbk := BACK.out (w1.setCell ⟨w.heap.size, p, none⟩ (.int .u8 by')) (((List.range s.size).map fun j => if j = p then by' else ((s.data.toList.getD j 0).toNat : Int))) (by simp) (fun i hi => by
      rw [show (((List.range s.size).map fun j => if j = p then by' else ((s.data.toList.getD j 0).toNat : Int))).getD i 0 = if i = p then by' else ((s.data.toList.getD i 0).toNat : Int) by simp [List.getD, hi]]
      by_cases hip : i = p
      · subst hip; rw [if_pos rfl]; go_simp
      · rw [if_neg hip]
        have := HC.out i hi
        rw [← this]
        exact World.cell?_setCell_other w1 ⟨w.heap.size, p, none⟩ ⟨w.heap.size, i, none⟩ _ (fun (e : (⟨w.heap.size, p, none⟩ : Addr) = ⟨w.heap.size, i, none⟩) => hip (by injection e with _ h; exact h.symm)))
    clear h0
    go_enter Tryd.func14, Tryd.ntmps14
    go_wp2_with fail
    refine hpl.out.mono ?_
    rintro e w' ⟨rfl, rfl⟩
    go_wp2
    go_ret
    refine ⟨_, rfl, ?_, HU1.out.setCell (p := ⟨w.heap.size, p, none⟩) (Nat.le_refl _) _⟩
    rw [strOfNums_size]; simp
  · have z : ¬ (0 : Int) < s.size := by omega
    have h00 : s.size = 0 := by omega
    have hbk := BACK.out w1 [] (by simp [h00]) (fun i hi => by omega)
    have HZ := hid h00
    clear h0 h00
    go_enter Tryd.func14, Tryd.ntmps14
    go_wp2
    go_ret
    exact ⟨_, rfl, by rw [HZ.out]; rfl, HU1.out⟩
end Go.Proofs.YtofhaokbklfmmaaDoor

namespace Go.Proofs.YtofhaokbklfmmaaDoor
open Go.RowKit

def hdrL (col : Nat) : List UInt8 := if col = 0 then [116, 101, 120, 116] else if col = 1 then [105, 100, 44, 116, 101, 120, 116] else [34, 97, 44, 98, 34, 44, 116, 101, 120, 116, 44, 99]
def preL (col : Nat) : List UInt8 := if col = 0 then [] else if col = 1 then [55, 44] else [120, 44]
def postL (col : Nat) : List UInt8 := if col = 0 then [] else if col = 1 then [] else [44, 34, 121, 34]
def preC (col : Nat) : ByteArray := ⟨(preL col).toArray⟩
def postC (col : Nat) : ByteArray := ⟨(postL col).toArray⟩
theorem pre_sz (col : Nat) : (preC col).size ≤ 2 := by unfold preC preL; split; decide; split <;> decide
theorem post_sz (col : Nat) : (postC col).size ≤ 4 := by unfold postC postL; split; decide; split <;> decide
def recD (col : Nat) (x : List St.It × ByteArray) : List UInt8 := [10] ++ preL col ++ [34] ++ x.2.data.toList ++ [34] ++ postL col
/-- A fragment and a raw content of it. -/
def UnitOf (fmt : Int) (x : List St.It × ByteArray) : Prop := GoodF x.1 ∧ x.1.length ≤ 5 ∧ tot x.1 ≤ 90 ∧ RawsOf fmt x.1 x.2
/-- What Data gives at a sheet. -/
def DataOf9 (n : Nat) (data : ByteArray) : Prop := ∃ (col : Nat) (rs : List (List St.It × ByteArray)), col < 3 ∧ rs.length ≤ n ∧ (∀ x ∈ rs, UnitOf 3 x) ∧ data.data.toList = hdrL col ++ rs.flatMap (recD col)
def DaRel (w : World) (B g P n col : Nat) (s7 s9 : Value) (wr : World) : Prop :=
  ∃ (i k : Nat) (data : ByteArray) (rs : List (List St.It × ByteArray)), s7 = .string data ∧ s9 = .int .i64 i ∧ k + i ≤ n ∧ data.data.toList = hdrL col ++ rs.flatMap (recD col) ∧ rs.length = k ∧ (∀ x ∈ rs, UnitOf 3 x) ∧ data.size ≤ 12 + 4000 * k ∧ GenP wr B g (P + 2 + 300 * k) ∧ w.grownBy wr (some g)
def daF (data raw : ByteArray) (col : Nat) : List Fact := [
  fun v _ => v = .string data,
  fun v W => ∃ b, v = .slice (some ⟨b, 0, none⟩) 3 3 ∧ b < W.heap.size ∧ ∀ r, r < 3 → W.cell? ⟨b, r, none⟩ = some (.string (preC r)),
  fun v _ => v = .int .i64 col,
  fun v W => ∃ b, v = .pointer (some ⟨b, col, none⟩) ∧ b < W.heap.size ∧ W.cell? ⟨b, col, none⟩ = some (.string (preC col)),
  fun v _ => v = .string (preC col),
  fun v _ => v = .string ((⟨#[10]⟩ : ByteArray) ++ preC col),
  fun v _ => v = .string ((⟨#[10]⟩ : ByteArray) ++ preC col ++ (⟨#[34]⟩ : ByteArray)),
  fun v _ => v = .string raw,
  fun v _ => v = .string ((⟨#[10]⟩ : ByteArray) ++ preC col ++ (⟨#[34]⟩ : ByteArray) ++ raw),
  fun v _ => v = .string ((⟨#[10]⟩ : ByteArray) ++ preC col ++ (⟨#[34]⟩ : ByteArray) ++ raw ++ (⟨#[34]⟩ : ByteArray)),
  fun v W => ∃ b, v = .slice (some ⟨b, 0, none⟩) 3 3 ∧ b < W.heap.size ∧ ∀ r, r < 3 → W.cell? ⟨b, r, none⟩ = some (.string (postC r)),
  fun v _ => v = .int .i64 col,
  fun v W => ∃ b, v = .pointer (some ⟨b, col, none⟩) ∧ b < W.heap.size ∧ W.cell? ⟨b, col, none⟩ = some (.string (postC col)),
  fun v _ => v = .string (postC col),
  fun v _ => v = .string ((⟨#[10]⟩ : ByteArray) ++ preC col ++ (⟨#[34]⟩ : ByteArray) ++ raw ++ (⟨#[34]⟩ : ByteArray) ++ postC col),
  fun v _ => v = .string (data ++ ((⟨#[10]⟩ : ByteArray) ++ preC col ++ (⟨#[34]⟩ : ByteArray) ++ raw ++ (⟨#[34]⟩ : ByteArray) ++ postC col)),
  fun v _ => v = .string (data ++ ((⟨#[10]⟩ : ByteArray) ++ preC col ++ (⟨#[34]⟩ : ByteArray) ++ raw ++ (⟨#[34]⟩ : ByteArray) ++ postC col))]

set_option maxRecDepth 20000 in
set_option maxHeartbeats 12800000 in
theorem data9_gen (B g P n : Nat) (w : World) (hG : GenP w B g P) (hP : P ≤ 10000) (hn : n ≤ 10) :
    Calls Tryd.prog 13 #[.pointer (some ⟨g, 0, none⟩), .int .i64 3, .int .i64 n] w fun e w' => ∃ data : ByteArray, e = .returned (.string data) ∧ DataOf9 n data ∧ data.size ≤ 12 + 4000 * n ∧ GenP w' B g (P + 2 + 300 * n) ∧ w.grownBy w' (some g) := by
  have HG := hid hG
  obtain ⟨hgB, hB⟩ := hG.lt
  clear hG
  go_enter Tryd.func13, Tryd.ntmps13
  go_wp2_with fail
  refine (next_gen B g P 3 _ (HG.out.und ((Und.refl _).alloc (.cells #[.string ⟨#[116, 101, 120, 116]⟩, .string ⟨#[105, 100, 44, 116, 101, 120, 116]⟩, .string ⟨#[34, 97, 44, 98, 34, 44, 116, 101, 120, 116, 44, 99]⟩] 9))) (by omega) (by omega) (by omega)).mono ?_
  rintro e w2 ⟨r, rfl, hr, hG2, hk2⟩
  obtain ⟨hb, hhb, hhs, hhq⟩ : ∃ hb : ByteArray, (#[.string ⟨#[116, 101, 120, 116]⟩, .string ⟨#[105, 100, 44, 116, 101, 120, 116]⟩, .string ⟨#[34, 97, 44, 98, 34, 44, 116, 101, 120, 116, 44, 99]⟩] : Array Value)[r]? = some (.string hb) ∧ hb.data.toList = hdrL r ∧ ((hb.size : Int) / 6 = r) := by
    rcases (show r = 0 ∨ r = 1 ∨ r = 2 by omega) with h | h | h <;> subst h <;> exact ⟨_, rfl, rfl, rfl⟩
  have hhz : hb.size ≤ 12 := by
    rw [← St.len_list, hhs]; unfold hdrL; split; decide; split <;> decide
  have hcell := lit_cell w w2 _ _ B g hk2 hgB hB r _ hhb
  have HG2 := hid hG2
  have HK2 := hid (gb_trans (((Und.refl w).alloc _).gb (some g)) hk2 (fun _ e => .inl e))
  have hsz2 := HK2.out.size
  haveI : LtW w.heap.size w2 := LtW.of (World.block_lt_of_cell? _ _ hcell)
  have hr3 : r < 3 := by omega
  obtain ⟨col, hcol⟩ : ∃ col, col = r := ⟨_, rfl⟩
  clear hG2 hk2 HG hhb
  go_wp2_with fail
  refine (next_gen B g _ ((n : Int) + 1) _ HG2.out (by omega) (by omega) (by omega)).mono ?_
  rintro e w3 ⟨m, rfl, hm, hG3, hk3⟩
  have HG3 := hid hG3
  have HK3 := hid (gb_trans HK2.out hk3 (fun _ e => .inl e))
  clear hG3 hk3 HG2 HK2 hcell
  rw [← hcol] at hhs hr3 ⊢
  clear hcol hr
  go_wp2_with fail
  go_loopw [7, 9] (fun s7 s9 wr => DaRel w B g P n col s7 s9 wr) (fun _ s9 _ => (intOf s9).toNat)
  case atStart => exact ⟨m, 0, hb, [], rfl, rfl, by omega, by simp [hhs], rfl, (fun x hx => by cases hx), by omega, HG3.out.le (by omega), HK3.out⟩
  case round =>
    clear HG3 HK3
    obtain ⟨i, k, data, rs, rfl, rfl, hki, hdt, hrl, hrs, hds, hG, hk⟩ := hrel
    have HG := hid hG
    have HK := hid hk
    have HDT := hid hdt
    have HRL := hid hrl
    have HRS := hid hrs
    have hszr := hk.size
    clear hG hk hdt hrl hrs
    by_cases hi : 0 < i
    · have z : (0 : Int) < (i : Int) := by omega
      go_wp2_with fail
      refine (frag_gen B g _ 5 _ HG.out (by omega) (by omega)).mono ?_
      rintro e w4 ⟨v, f, rfl, ho, hgd, hfl, hft, hG4, hk4⟩
      obtain ⟨A4, c4, rfl, h41, h42, _⟩ := own_slice' ho
      have HG4 := hid hG4
      have HK4 := hid (gb_trans HK.out hk4 (fun _ e => .inl e))
      have hit := items_own ho rfl
      have hbl := fun b off (e : A4 = some ⟨b, off, none⟩) => owns_block ho b (by subst e; rfl)
      have HIT := hid hit
      have HGD := hid hgd
      clear hG4 hk4 ho hit hgd HG HK
      go_wp2_with fail
      refine (raws_gen 3 long_sheet B g _ A4 f.length c4 f _ HG4.out (by omega) rfl h41 (by unfold maxLen at h42; omega) HIT.out (fun b off e => by have := hbl b off e; omega) (by omega) (by omega) HGD.out).mono ?_
      rintro e w5 ⟨raw, rfl, hR, hrz, hG5, hk5⟩
      have HG5 := hid hG5
      have HU5 := hid (gb_trans HK4.out hk5 (fun _ e => .inl e))
      have HF2 := hid (show GoodF f ∧ f.length ≤ 5 ∧ tot f ≤ 90 ∧ RawsOf 3 f raw from ⟨HGD.out, hfl, by omega, hR⟩)
      clear hG5 hk5 HG4 HK4 hR HIT HGD hbl
      go_wp2_with fail
      refine wp_region_facts (fun a b => Und a b) (fun _ _ => True) (daF data raw col) Und.refl (fun a b c h k => Und.trans h k) (by kernel_rfl) (by rfl) (by kernel_rfl) (by kernel_rfl) ?frD ?hfr ?hI ?hob ?hend
      case hfr =>
        intro ρ
        simp only [putAll, Act.put, List.setIfInBounds_toArray, List.set_cons_succ, List.set_cons_zero, Nat.zero_add, Nat.reduceAdd]
        exact rfl
      case hI => trivial
      case hob =>
        unfold daF
        refine ObsF.cons (fun ρ L W hR hI hL hD hO hF K hK => ?_) ?_
        · skip
          have eo : ρ 16 = .string data := hO 16 _ 7 rfl rfl (hD.not (p := 16) rfl (by decide) hL)
          clear hF hD hO hI hL hR
          simp only [Act.put, List.setIfInBounds_toArray, List.set_cons_succ, List.set_cons_zero] at hK ⊢
          rw [eo] at hK ⊢
          go_simp
          refine hK _ _ (Und.refl _) trivial (fun W2 h2 => ?_)
          rfl
        refine ObsF.cons (fun ρ L W hR hI hL hD hO hF K hK => ?_) ?_
        · skip
          clear hF hD hO hI hL hR
          simp only [Act.put, List.setIfInBounds_toArray, List.set_cons_succ, List.set_cons_zero] at hK ⊢
          go_simp
          refine hK _ _ ((Und.refl W).alloc _) trivial (fun W2 h2 => ⟨W.heap.size, rfl, by have := h2.size; simp at this; omega, fun r hr => ?_⟩)
          rw [h2.cell (p := ⟨W.heap.size, r, none⟩) (by simp), World.cell?_alloc_at _ _ _ _ rfl]
          rcases (show r = 0 ∨ r = 1 ∨ r = 2 by omega) with h | h | h <;> subst h <;> rfl
        refine ObsF.cons (fun ρ L W hR hI hL hD hO hF K hK => ?_) ?_
        · skip
          clear hF hD hO hI hL hR
          simp only [Act.put, List.setIfInBounds_toArray, List.set_cons_succ, List.set_cons_zero] at hK ⊢
          go_simp
          refine hK _ _ (Und.refl _) trivial (fun W2 h2 => ?_)
          rfl
        refine ObsF.cons (fun ρ L W hR hI hL hD hO hF K hK => ?_) ?_
        · skip
          have f1 := allF_get hF (j := 1) (by decide)
          have f2 := allF_get hF (j := 2) (by decide)
          clear hF hD hO hI hL hR
          simp only [Act.put, List.setIfInBounds_toArray, List.set_cons_succ, List.set_cons_zero] at hK ⊢
          obtain ⟨b, e0, hb2, hc⟩ := f1
          have e2 : ρ 2 = .int .i64 col := f2
          rw [e0, e2] at hK ⊢
          have hix : col < 3 := by omega
          have z1 : ((col : Nat) : Int) < 3 := by omega
          haveI : LtW b W := LtW.of hb2
          go_simp
          refine hK _ _ (Und.refl _) trivial (fun W2 h2 => ?_)
          exact ⟨b, rfl, Nat.lt_of_lt_of_le hb2 h2.size, (h2.cell hb2).trans (hc _ hix)⟩
        refine ObsF.cons (fun ρ L W hR hI hL hD hO hF K hK => ?_) ?_
        · skip
          have f3 := allF_get hF (j := 3) (by decide)
          clear hF hD hO hI hL hR
          simp only [Act.put, List.setIfInBounds_toArray, List.set_cons_succ, List.set_cons_zero] at hK ⊢
          obtain ⟨b, e3, hb2, hc⟩ := f3
          rw [e3] at hK ⊢
          go_simp
          refine hK _ _ (Und.refl _) trivial (fun W2 h2 => ?_)
          rfl
        refine ObsF.cons (fun ρ L W hR hI hL hD hO hF K hK => ?_) ?_
        · skip
          have f4 := allF_get hF (j := 4) (by decide)
          clear hF hD hO hI hL hR
          simp only [Act.put, List.setIfInBounds_toArray, List.set_cons_succ, List.set_cons_zero] at hK ⊢
          have e4 : ρ 4 = .string (preC col) := f4
          rw [e4] at hK ⊢
          have h1 := pre_sz col
          have h2 := post_sz col
          have y1 : ¬ 9223372036854775807 < 1 + (preC col).size := by omega
          go_simp
          refine hK _ _ (Und.refl _) trivial (fun W2 h2 => ?_)
          rfl
        refine ObsF.cons (fun ρ L W hR hI hL hD hO hF K hK => ?_) ?_
        · skip
          have f5 := allF_get hF (j := 5) (by decide)
          clear hF hD hO hI hL hR
          simp only [Act.put, List.setIfInBounds_toArray, List.set_cons_succ, List.set_cons_zero] at hK ⊢
          have e5 : ρ 5 = .string ((⟨#[10]⟩ : ByteArray) ++ preC col) := f5
          rw [e5] at hK ⊢
          have h1 := pre_sz col
          have h2 := post_sz col
          have y1 : ¬ 9223372036854775807 < 1 + (preC col).size + 1 := by omega
          go_simp
          refine hK _ _ (Und.refl _) trivial (fun W2 h2 => ?_)
          rfl
        refine ObsF.cons (fun ρ L W hR hI hL hD hO hF K hK => ?_) ?_
        · skip
          clear hF hD hO hI hL hR
          simp only [Act.put, List.setIfInBounds_toArray, List.set_cons_succ, List.set_cons_zero] at hK ⊢
          go_simp
          refine hK _ _ (Und.refl _) trivial (fun W2 h2 => ?_)
          rfl
        refine ObsF.cons (fun ρ L W hR hI hL hD hO hF K hK => ?_) ?_
        · skip
          have f6 := allF_get hF (j := 6) (by decide)
          have f7 := allF_get hF (j := 7) (by decide)
          clear hF hD hO hI hL hR
          simp only [Act.put, List.setIfInBounds_toArray, List.set_cons_succ, List.set_cons_zero] at hK ⊢
          have e6 : ρ 6 = .string ((⟨#[10]⟩ : ByteArray) ++ preC col ++ (⟨#[34]⟩ : ByteArray)) := f6
          have e7 : ρ 7 = .string raw := f7
          rw [e6, e7] at hK ⊢
          have h1 := pre_sz col
          have h2 := post_sz col
          have y1 : ¬ 9223372036854775807 < 1 + (preC col).size + 1 + raw.size := by omega
          go_simp
          refine hK _ _ (Und.refl _) trivial (fun W2 h2 => ?_)
          rfl
        refine ObsF.cons (fun ρ L W hR hI hL hD hO hF K hK => ?_) ?_
        · skip
          have f8 := allF_get hF (j := 8) (by decide)
          clear hF hD hO hI hL hR
          simp only [Act.put, List.setIfInBounds_toArray, List.set_cons_succ, List.set_cons_zero] at hK ⊢
          have e8 : ρ 8 = .string ((⟨#[10]⟩ : ByteArray) ++ preC col ++ (⟨#[34]⟩ : ByteArray) ++ raw) := f8
          rw [e8] at hK ⊢
          have h1 := pre_sz col
          have h2 := post_sz col
          have y1 : ¬ 9223372036854775807 < 1 + (preC col).size + 1 + raw.size + 1 := by omega
          go_simp
          refine hK _ _ (Und.refl _) trivial (fun W2 h2 => ?_)
          rfl
        refine ObsF.cons (fun ρ L W hR hI hL hD hO hF K hK => ?_) ?_
        · skip
          clear hF hD hO hI hL hR
          simp only [Act.put, List.setIfInBounds_toArray, List.set_cons_succ, List.set_cons_zero] at hK ⊢
          go_simp
          refine hK _ _ ((Und.refl W).alloc _) trivial (fun W2 h2 => ⟨W.heap.size, rfl, by have := h2.size; simp at this; omega, fun r hr => ?_⟩)
          rw [h2.cell (p := ⟨W.heap.size, r, none⟩) (by simp), World.cell?_alloc_at _ _ _ _ rfl]
          rcases (show r = 0 ∨ r = 1 ∨ r = 2 by omega) with h | h | h <;> subst h <;> rfl
        refine ObsF.cons (fun ρ L W hR hI hL hD hO hF K hK => ?_) ?_
        · skip
          clear hF hD hO hI hL hR
          simp only [Act.put, List.setIfInBounds_toArray, List.set_cons_succ, List.set_cons_zero] at hK ⊢
          go_simp
          refine hK _ _ (Und.refl _) trivial (fun W2 h2 => ?_)
          rfl
        refine ObsF.cons (fun ρ L W hR hI hL hD hO hF K hK => ?_) ?_
        · skip
          have f10 := allF_get hF (j := 10) (by decide)
          have f11 := allF_get hF (j := 11) (by decide)
          clear hF hD hO hI hL hR
          simp only [Act.put, List.setIfInBounds_toArray, List.set_cons_succ, List.set_cons_zero] at hK ⊢
          obtain ⟨b, e0, hb2, hc⟩ := f10
          have e2 : ρ 11 = .int .i64 col := f11
          rw [e0, e2] at hK ⊢
          have hix : col < 3 := by omega
          have z1 : ((col : Nat) : Int) < 3 := by omega
          haveI : LtW b W := LtW.of hb2
          go_simp
          refine hK _ _ (Und.refl _) trivial (fun W2 h2 => ?_)
          exact ⟨b, rfl, Nat.lt_of_lt_of_le hb2 h2.size, (h2.cell hb2).trans (hc _ hix)⟩
        refine ObsF.cons (fun ρ L W hR hI hL hD hO hF K hK => ?_) ?_
        · skip
          have f12 := allF_get hF (j := 12) (by decide)
          clear hF hD hO hI hL hR
          simp only [Act.put, List.setIfInBounds_toArray, List.set_cons_succ, List.set_cons_zero] at hK ⊢
          obtain ⟨b, e3, hb2, hc⟩ := f12
          rw [e3] at hK ⊢
          go_simp
          refine hK _ _ (Und.refl _) trivial (fun W2 h2 => ?_)
          rfl
        refine ObsF.cons (fun ρ L W hR hI hL hD hO hF K hK => ?_) ?_
        · skip
          have f9 := allF_get hF (j := 9) (by decide)
          have f13 := allF_get hF (j := 13) (by decide)
          clear hF hD hO hI hL hR
          simp only [Act.put, List.setIfInBounds_toArray, List.set_cons_succ, List.set_cons_zero] at hK ⊢
          have e9 : ρ 9 = .string ((⟨#[10]⟩ : ByteArray) ++ preC col ++ (⟨#[34]⟩ : ByteArray) ++ raw ++ (⟨#[34]⟩ : ByteArray)) := f9
          have e13 : ρ 13 = .string (postC col) := f13
          rw [e9, e13] at hK ⊢
          have h1 := pre_sz col
          have h2 := post_sz col
          have y1 : ¬ 9223372036854775807 < 1 + (preC col).size + 1 + raw.size + 1 + (postC col).size := by omega
          go_simp
          refine hK _ _ (Und.refl _) trivial (fun W2 h2 => ?_)
          rfl
        refine ObsF.cons (fun ρ L W hR hI hL hD hO hF K hK => ?_) ?_
        · skip
          have f0 := allF_get hF (j := 0) (by decide)
          have f14 := allF_get hF (j := 14) (by decide)
          clear hF hD hO hI hL hR
          simp only [Act.put, List.setIfInBounds_toArray, List.set_cons_succ, List.set_cons_zero] at hK ⊢
          have e0 : ρ 0 = .string data := f0
          have e14 : ρ 14 = .string ((⟨#[10]⟩ : ByteArray) ++ preC col ++ (⟨#[34]⟩ : ByteArray) ++ raw ++ (⟨#[34]⟩ : ByteArray) ++ postC col) := f14
          rw [e0, e14] at hK ⊢
          have h1 := pre_sz col
          have h2 := post_sz col
          have y1 : ¬ 9223372036854775807 < data.size + (1 + (preC col).size + 1 + raw.size + 1 + (postC col).size) := by omega
          go_simp
          refine hK _ _ (Und.refl _) trivial (fun W2 h2 => ?_)
          rfl
        refine ObsF.cons (fun ρ L W hR hI hL hD hO hF K hK => ?_) ?_
        · skip
          have f15 := allF_get hF (j := 15) (by decide)
          clear hF hD hO hI hL hR
          simp only [Act.put, List.setIfInBounds_toArray, List.set_cons_succ, List.set_cons_zero] at hK ⊢
          have e15 : ρ 15 = .string (data ++ ((⟨#[10]⟩ : ByteArray) ++ preC col ++ (⟨#[34]⟩ : ByteArray) ++ raw ++ (⟨#[34]⟩ : ByteArray) ++ postC col)) := f15
          rw [e15] at hK ⊢
          go_simp
          refine hK _ _ (Und.refl _) trivial (fun W2 h2 => ?_)
          rfl
        exact ObsF.nil
      case hend =>
        intro ρ L W hR hI hL hF
        obtain ⟨_, _, _, _, _, _, _, _, _, _, _, _, _, _, _, _,  e16, _⟩ := hF
        have e16 : ρ 16 = .string (data ++ ((⟨#[10]⟩ : ByteArray) ++ preC col ++ (⟨#[34]⟩ : ByteArray) ++ raw ++ (⟨#[34]⟩ : ByteArray) ++ postC col)) := e16
        clear hI hL
        rw [e16]
        have hu6 := hid (gb_und HU5.out ((Und.refl _).drew.trans hR))
        have hG6 := hid (HG5.out.und ((Und.refl _).drew.trans hR))
        clear hR e16
        go_wp2
        refine ⟨⟨i - 1, k + 1, _, rs ++ [(f, raw)], rfl, congrArg (Value.int .i64) (by omega), by omega, ?_, ?_, ?_, ?_, hG6.out.le (by omega), hu6.out⟩, by simp [intOf]; omega⟩
        · rw [List.flatMap_append, ← List.append_assoc, ← HDT.out]; simp [recD, preC, postC]
        · simp [HRL.out]
        · intro x hx
          rcases List.mem_append.1 hx with hx | hx
          · exact HRS.out x hx
          · simp at hx; subst hx; exact ⟨HF2.out.1, HF2.out.2.1, HF2.out.2.2.1, HF2.out.2.2.2⟩
        · have h1 := pre_sz col
          have h2 := post_sz col
          simp only [ByteArray.size_append]
          show _ + (1 + _ + 1 + _ + 1 + _) ≤ _
          omega
    · have z : ¬ (0 : Int) < (i : Int) := by omega
      go_wp2
      go_ret
      exact ⟨data, rfl, ⟨col, rs, hr3, by rw [HRL.out]; omega, HRS.out, HDT.out⟩, by omega, HG.out.le (by omega), HK.out⟩
end Go.Proofs.YtofhaokbklfmmaaDoor

namespace Go.Proofs.YtofhaokbklfmmaaDoor
open Go.RowKit

namespace St
theorem nameHd {t : List UInt8} (h : isNameL t = true) : ∃ c r, t = c :: r ∧ c.toNat ≠ 123 := by
  cases t with
  | nil => cases h
  | cons c r =>
    rw [isNameL] at h
    simp only [Bool.and_eq_true, decide_eq_true_eq, lowC] at h
    exact ⟨c, r, rfl, by omega⟩
theorem name_all {t : List UInt8} (h : isNameL t = true) : ∀ c ∈ t, c.toNat ≠ 125 := by
  cases t with
  | nil => cases h
  | cons c r =>
    rw [isNameL] at h
    simp only [Bool.and_eq_true, decide_eq_true_eq, lowC] at h
    obtain ⟨_, h1, h2⟩ := h
    intro d hd
    rcases List.mem_cons.1 hd with rfl | hd
    · omega
    · have := List.all_eq_true.1 h2 d hd
      simp only [nameC, decide_eq_true_eq] at this
      omega
theorem slot_enc {t : List UInt8} (h : isNameL t = true) (rest : List UInt8) : slotL (123 :: (t ++ 125 :: rest)) = some (t, t.length + 2) := by
  have htw : (t ++ 125 :: rest).takeWhile (fun c => decide (c.toNat ≠ 125)) = t := by
    rw [List.takeWhile_append_of_pos (fun c hc => by simpa using name_all h c hc), List.takeWhile_cons_of_neg (by decide), List.append_nil]
  unfold slotL
  simp only [List.drop_succ_cons, List.drop_zero, htw]
  rw [h, decide_eq_true (by simp)]
  rfl
theorem sheet_elen' : ElLen sheetL := fun _ _ _ _ h => let ⟨_, h1, h2⟩ := sheet_len h; ⟨h1, h2⟩
theorem sheet_piece {p : It} (h : Pos1 p) : Piece sheetL (encI 3 p) p := by
  rcases h with ⟨c, rfl⟩ | ⟨t, rfl, ht⟩
  · have e : encI 3 (1, [c], 0) = encB 3 c := by simp [encI]
    rw [e]
    by_cases h34 : c.toNat = 34
    · have e2 : encB 3 c = [c, c] := by unfold encB; simp [h34]
      rw [e2]
      refine piece_of sheet_elen' (by simp) (by decide) (fun rest => ?_)
      show sheetL (c :: c :: rest) = some (1, [c], 2)
      rw [sheet_34 h34]
      have hc : c = 34 := by apply UInt8.toNat_inj.1; simpa using h34
      subst hc; rfl
    · by_cases h123 : c.toNat = 123
      · have e2 : encB 3 c = [c, c] := by unfold encB; simp [h123]
        rw [e2]
        refine piece_of sheet_elen' (by simp) (by decide) (fun rest => ?_)
        show sheetL (c :: c :: rest) = some (1, [c], 2)
        rw [sheet_123 h123]
        have hc : c = 123 := by apply UInt8.toNat_inj.1; simpa using h123
        subst hc; rfl
      · have e2 : encB 3 c = [c] := by unfold encB; simp [h34, h123]
        rw [e2]
        refine piece_of sheet_elen' (by simp) (by decide) (fun rest => ?_)
        exact sheet_else h34 h123
  · have e : encI 3 (5, t, 0) = 123 :: (t ++ [125]) := by simp [encI]
    rw [e]
    refine piece_of sheet_elen' (by simp) (by decide) (fun rest => ?_)
    have e2 : 123 :: (t ++ [125]) ++ rest = 123 :: (t ++ 125 :: rest) := by simp
    rw [e2, sheet_123 (by decide)]
    obtain ⟨c, r, hc, hc2⟩ := nameHd ht
    have hp : ([123, 123] : List UInt8).isPrefixOf (123 :: (t ++ 125 :: rest)) = false := by
      rw [hc]
      simp only [List.cons_append, List.isPrefixOf]
      have : ((123 : UInt8) == c) = false := by
        refine Bool.eq_false_iff.2 fun e => hc2 ?_
        have := eq_of_beq e
        rw [← this]; rfl
      simp [this]
    rw [hp, slot_enc ht]
    simp
end St
/-- A raw content of pieces is read to its items. -/
theorem reads_pieces {E : List UInt8 → St.El} {fmt : Int} {f : List St.It} {raw : ByteArray} (hg : GoodF f) (hl : f.length ≤ 100) (ht : tot f ≤ 900) (hr : RawsOf fmt f raw) (hp : ∀ p b, St.Pos1 p → St.formB fmt p b → St.Piece E b p) :
    ∃ cuts, St.decF E raw.data.toList 0 0 [] [] = (f, cuts, 0, 0) ∧ cuts.length = St.lenL f + 1 := by
  obtain ⟨ps, h1, h2, h3⟩ := hr
  have hpos : ∀ p ∈ ps, St.Piece E p.1 p.2 := by
    intro p hpm
    have : p.2 ∈ St.posI f := by rw [← h2]; unfold St.itsP; exact List.mem_map.2 ⟨p, hpm, rfl⟩
    exact hp p.2 p.1 (good_pos hg _ this) (h3 p hpm)
  have hf : (St.itsP ps).foldl St.addI [] = f := by rw [h2]; exact St.pos_norm hg.1 (fun x hx => (hg.2 x hx).1)
  have hlen : ps.length = St.lenL f := by rw [← its_len, h2, St.pos_len]
  have hll := lenL_tot f
  have := St.decF_pieces ps [] 0 0 [] [] hpos (by rw [hf]; omega) (by simp; omega)
  rw [List.append_nil, ← h1, St.decF_nil, hf] at this
  exact ⟨_, this, by simp [St.offs_len, hlen]⟩
theorem sheetD_F' (x : ByteArray) : sheetD x = St.decF St.sheetL x.data.toList 0 0 [] [] := by unfold sheetD St.decF; rw [St.len_list]
theorem sheet_reads {f : List St.It} {raw : ByteArray} (hg : GoodF f) (hl : f.length ≤ 100) (ht : tot f ≤ 900) (hr : RawsOf 3 f raw) : ∃ cuts, sheetD raw = (f, cuts, 0, 0) ∧ cuts.length = St.lenL f + 1 := by
  rw [sheetD_F']
  refine reads_pieces hg hl ht hr fun p b hp hf => ?_
  rcases hf with rfl | ⟨h, _⟩ | ⟨h, _⟩
  · exact St.sheet_piece hp
  · exact absurd h (by decide)
  · exact absurd h (by decide)

set_option maxRecDepth 20000 in
set_option maxHeartbeats 6400000 in
theorem readslaw_any (A B : Option Addr) (n c m d : Nat) (zs ys : List Int) (w : World) (ht : Tab w) (hz : zs.length = n) (hn : n ≤ 9223372036854775807) (hI : IntsAt w A zs) (hy : ys.length = m) (hm : m ≤ 9223372036854775807) (hJ : IntsAt w B ys) :
    Calls Tryd.prog 3 #[.slice A n c, .slice B m d] w fun e w' => e = .returned (.bool true) ∧ Und w w' := by
  have HTB := hid ht
  have HRW := hid (raws_any A B n c m d zs ys w hz hn hI hy hm hJ)
  have HKN := hid (fun W (hW : Und w W) => sknown_any W (HTB.out.und hW))
  clear hI hJ ht
  by_cases q1 : 100 < n
  · have z1 : (100 : Int) < (n : Int) := by omega
    go_enter Tryd.func3, Tryd.ntmps3
    go_wp2_with fail
    refine (HKN.out _ (Und.refl _)).mono ?_
    rintro e w2 ⟨rfl, hu⟩
    have HU := hid hu
    clear hu
    go_wp2
    go_ret
    exact ⟨rfl, HU.out⟩
  · have z1 : ¬ (100 : Int) < (n : Int) := by omega
    by_cases q2 : 200 < m
    · have z2 : (200 : Int) < (m : Int) := by omega
      go_enter Tryd.func3, Tryd.ntmps3
      go_wp2_with fail
      refine (HKN.out _ (Und.refl _)).mono ?_
      rintro e w2 ⟨rfl, hu⟩
      have HU := hid hu
      clear hu
      go_wp2
      go_ret
      exact ⟨rfl, HU.out⟩
    · have z2 : ¬ (200 : Int) < (m : Int) := by omega
      go_enter Tryd.func3, Tryd.ntmps3
      go_wp2_with fail
      refine HRW.out.mono ?_
      rintro e w2 ⟨raw, A2, c2, f, rfl, hF, hR, hrs, hu⟩
      obtain ⟨cuts, hD, _⟩ := sheet_reads hF.2.1 (by have := hF.2.2.1; omega) (by have := hF.2.2.2.1; omega) hR
      have hdc := fun W => sdecode_any raw W (by omega)
      rw [hD] at hdc
      have HDC := hid hdc
      have HF := hid hF
      have HU := hid hu
      clear hF hR hu hD hdc HRW
      go_wp2_with fail
      refine (HDC.out _).mono ?_
      rintro e w3 ⟨A3, c3, rfl, hI3, h31, h32, hu3⟩
      have hs := fun W (hW : Und w3 W) => rsame_any A3 A2 f.length f.length c3 c2 f f W rfl rfl h31 HF.out.2.2.2.2.1 h32 HF.out.2.2.2.2.2.1 (hI3.und hW) ((HF.out.1.und hu3).und hW)
      rw [decide_eq_true rfl] at hs
      have HS := hid hs
      have HU3 := hid (HU.out.trans hu3)
      clear hs hI3 hu3 HDC HU
      simp only
      go_wp2_with fail
      refine (HS.out _ (Und.refl _)).mono ?_
      rintro e w4 ⟨rfl, hu4⟩
      have HU4 := hid (HU3.out.trans hu4)
      clear hu4 HS HU3
      go_wp2_with fail
      refine (HKN.out _ HU4.out).mono ?_
      rintro e w5 ⟨rfl, hu5⟩
      have HU5 := hid (HU4.out.trans hu5)
      clear hu5
      go_wp2
      go_ret
      exact ⟨rfl, HU5.out⟩

theorem ix3 (a b c : ByteArray) (W : World) : (Instr.index 37 (.agg #[.string a, .string b, .string c]) (.int .i64 0)).run Tryd.prog W = .ok (.string a) W ∧ (Instr.index 37 (.agg #[.string a, .string b, .string c]) (.int .i64 1)).run Tryd.prog W = .ok (.string b) W ∧ (Instr.index 37 (.agg #[.string a, .string b, .string c]) (.int .i64 2)).run Tryd.prog W = .ok (.string c) W := by
  exact ⟨by kernel_rfl, by kernel_rfl, by kernel_rfl⟩
def ByRel (w : World) (i : Value) (wr : World) : Prop := ∃ k : Nat, k ≤ 3 ∧ i = .int .i64 k ∧ Und w wr
set_option maxRecDepth 20000 in
set_option maxHeartbeats 12800000 in
theorem dcdlaw_any (s : ByteArray) (at' by' : Int) (A B : Option Addr) (n c m d : Nat) (zs ys : List Int) (w : World) (ht : Tab w) (hs : s.size ≤ 9223372036854775807) (hz : zs.length = n) (hn : n ≤ 9223372036854775807) (hI : IntsAt w A zs) (hy : ys.length = m) (hm : m ≤ 9223372036854775807) (hJ : IntsAt w B ys) :
    Calls Tryd.prog 8 #[.string s, .slice A n c, .slice B m d, .int .i64 at', .int .u8 by'] w fun e w' => e = .returned (.bool true) ∧ Und w w' := by
  have HTB := hid ht
  have HRW := hid (raws_any A B n c m d zs ys w hz hn hI hy hm hJ)
  have HKN := hid (fun W (hW : Und w W) => sknown_any W (HTB.out.und hW))
  clear hI hJ ht
  by_cases q0 : 300 < s.size
  · have z0 : (300 : Int) < (s.size : Int) := by omega
    go_enter Tryd.func8, Tryd.ntmps8
    go_wp2_with fail
    refine (HKN.out _ (Und.refl _)).mono ?_
    rintro e w2 ⟨rfl, hu⟩
    have HU := hid hu
    clear hu
    go_wp2
    go_ret
    exact ⟨rfl, HU.out⟩
  have z0 : ¬ (300 : Int) < (s.size : Int) := by omega
  by_cases q1 : 80 < n
  · have z1 : (80 : Int) < (n : Int) := by omega
    go_enter Tryd.func8, Tryd.ntmps8
    go_wp2_with fail
    refine (HKN.out _ (Und.refl _)).mono ?_
    rintro e w2 ⟨rfl, hu⟩
    have HU := hid hu
    clear hu
    go_wp2
    go_ret
    exact ⟨rfl, HU.out⟩
  have z1 : ¬ (80 : Int) < (n : Int) := by omega
  by_cases q2 : 200 < m
  · have z2 : (200 : Int) < (m : Int) := by omega
    go_enter Tryd.func8, Tryd.ntmps8
    go_wp2_with fail
    refine (HKN.out _ (Und.refl _)).mono ?_
    rintro e w2 ⟨rfl, hu⟩
    have HU := hid hu
    clear hu
    go_wp2
    go_ret
    exact ⟨rfl, HU.out⟩
  have z2 : ¬ (200 : Int) < (m : Int) := by omega
  go_enter Tryd.func8, Tryd.ntmps8
  go_wp2_with fail
  refine HRW.out.mono ?_
  rintro e w2 ⟨raw, A2, c2, f, rfl, hF, hR, hrs, hu⟩
  have HU := hid hu
  clear hF hR hu HRW
  go_wp2_with fail
  refine (changed_any raw at' by' w2 (by omega)).mono ?_
  rintro e w3 ⟨u, rfl, hus, hu3⟩
  have HU3 := hid (HU.out.trans hu3)
  clear hu3 HU
  go_wp2_with fail
  go_loopw [51] (fun i wr => ByRel w i wr) (fun i _ => 4 - (intOf i).toNat)
  case atStart => exact ⟨0, by omega, rfl, HU3.out⟩
  case round =>
    obtain ⟨k, hk, rfl, hu⟩ := hrel
    have HU := hid hu
    clear hu HU3
    obtain ⟨ia, ib, ic⟩ := ix3 s raw u wr
    rcases (show k = 0 ∨ k = 1 ∨ k = 2 ∨ k = 3 by omega) with rfl | rfl | rfl | rfl
    · have hx : s.size ≤ 10000 := by omega
      have HDC := hid (fun W => sdecode_any s W (by omega))
      have HCU := hid (fun W => scuts_any s W (by omega))
      have HRD := hid (fun W => rdecode_any 3 St.sheetL sheet_at sheet_ok s W (by omega))
      have hq : St.dec St.sheetL s.size s.data.toList 0 0 [] [] = sheetD s := rfl
      rw [hq] at HRD
      clear hq
      generalize sheetD s = R at HDC HCU HRD
      obtain ⟨f1, cu1, at1, er1⟩ := R
      go_wp2_with fail
      refine (HDC.out _).mono ?_
      rintro e w4 ⟨A3, c3, rfl, hI3, h31, h32, hu4⟩
      have HI3 := hid hI3
      have HU4 := hid (HU.out.trans hu4)
      clear hI3 hu4 HDC HU
      go_wp2_with fail
      refine (HCU.out _).mono ?_
      rintro e w5 ⟨A4, c4, rfl, hI4, h41, h42, hu5⟩
      have HI4 := hid hI4
      have HI3' := hid (HI3.out.und hu5)
      have HU5 := hid (HU4.out.trans hu5)
      clear hI4 hu5 HCU HU4 HI3
      go_wp2_with fail
      refine (HRD.out _).mono ?_
      rintro e w6 ⟨v1, v2, rfl, ho1, ho2, hu6⟩
      simp only at ho1 ho2 HI3' HI4 h31 h41 ⊢
      obtain ⟨A5, c5, rfl, h51, h52, _⟩ := own_slice' ho1
      obtain ⟨A6, c6, rfl, h61, h62, _⟩ := own_slice' ho2
      have hs := fun W (hW : Und w6 W) => rsame_any A3 A5 f1.length f1.length c3 c5 f1 f1 W rfl rfl h31 h51 h32 (by unfold maxLen at h52; omega) ((HI3'.out.und hu6).und hW) ((items_own ho1 rfl).und hW)
      rw [decide_eq_true rfl] at hs
      have hs2 := fun W (hW : Und w6 W) => sameInts_any A4 A6 cu1.length cu1.length c4 c6 cu1 cu1 W rfl rfl h41 h61 h42 (by unfold maxLen at h62; omega) ((HI4.out.und hu6).und hW) ((nats_own ho2 rfl).und hW)
      rw [decide_eq_true rfl] at hs2
      have HS := hid hs
      have HS2 := hid hs2
      have HU6 := hid (HU5.out.trans hu6)
      have v1 : (er1 == er1) = true := beq_self_eq_true _
      have v2 : ((at1 : Int) == (at1 : Int)) = true := beq_self_eq_true _
      clear hs hs2 ho1 ho2 hu6 HRD HU5 HI3' HI4
      go_wp2_with fail
      refine (HS.out _ (Und.refl _)).mono ?_
      rintro e w7 ⟨rfl, hu7⟩
      have HS3 := hid (HS2.out _ hu7)
      have HU7 := hid (HU6.out.trans hu7)
      clear hu7 HS HS2 HU6
      go_wp2_with fail
      refine HS3.out.mono ?_
      rintro e w8 ⟨rfl, hu8⟩
      have HU8 := hid (HU7.out.trans hu8)
      clear hu8 HS3 HU7
      go_wp2
      exact ⟨⟨1, by omega, rfl, HU8.out⟩, by simp [intOf]⟩
    · have hx : raw.size ≤ 10000 := by omega
      have HDC := hid (fun W => sdecode_any raw W (by omega))
      have HCU := hid (fun W => scuts_any raw W (by omega))
      have HRD := hid (fun W => rdecode_any 3 St.sheetL sheet_at sheet_ok raw W (by omega))
      have hq : St.dec St.sheetL raw.size raw.data.toList 0 0 [] [] = sheetD raw := rfl
      rw [hq] at HRD
      clear hq
      generalize sheetD raw = R at HDC HCU HRD
      obtain ⟨f1, cu1, at1, er1⟩ := R
      go_wp2_with fail
      refine (HDC.out _).mono ?_
      rintro e w4 ⟨A3, c3, rfl, hI3, h31, h32, hu4⟩
      have HI3 := hid hI3
      have HU4 := hid (HU.out.trans hu4)
      clear hI3 hu4 HDC HU
      go_wp2_with fail
      refine (HCU.out _).mono ?_
      rintro e w5 ⟨A4, c4, rfl, hI4, h41, h42, hu5⟩
      have HI4 := hid hI4
      have HI3' := hid (HI3.out.und hu5)
      have HU5 := hid (HU4.out.trans hu5)
      clear hI4 hu5 HCU HU4 HI3
      go_wp2_with fail
      refine (HRD.out _).mono ?_
      rintro e w6 ⟨v1, v2, rfl, ho1, ho2, hu6⟩
      simp only at ho1 ho2 HI3' HI4 h31 h41 ⊢
      obtain ⟨A5, c5, rfl, h51, h52, _⟩ := own_slice' ho1
      obtain ⟨A6, c6, rfl, h61, h62, _⟩ := own_slice' ho2
      have hs := fun W (hW : Und w6 W) => rsame_any A3 A5 f1.length f1.length c3 c5 f1 f1 W rfl rfl h31 h51 h32 (by unfold maxLen at h52; omega) ((HI3'.out.und hu6).und hW) ((items_own ho1 rfl).und hW)
      rw [decide_eq_true rfl] at hs
      have hs2 := fun W (hW : Und w6 W) => sameInts_any A4 A6 cu1.length cu1.length c4 c6 cu1 cu1 W rfl rfl h41 h61 h42 (by unfold maxLen at h62; omega) ((HI4.out.und hu6).und hW) ((nats_own ho2 rfl).und hW)
      rw [decide_eq_true rfl] at hs2
      have HS := hid hs
      have HS2 := hid hs2
      have HU6 := hid (HU5.out.trans hu6)
      have v1 : (er1 == er1) = true := beq_self_eq_true _
      have v2 : ((at1 : Int) == (at1 : Int)) = true := beq_self_eq_true _
      clear hs hs2 ho1 ho2 hu6 HRD HU5 HI3' HI4
      go_wp2_with fail
      refine (HS.out _ (Und.refl _)).mono ?_
      rintro e w7 ⟨rfl, hu7⟩
      have HS3 := hid (HS2.out _ hu7)
      have HU7 := hid (HU6.out.trans hu7)
      clear hu7 HS HS2 HU6
      go_wp2_with fail
      refine HS3.out.mono ?_
      rintro e w8 ⟨rfl, hu8⟩
      have HU8 := hid (HU7.out.trans hu8)
      clear hu8 HS3 HU7
      go_wp2
      exact ⟨⟨2, by omega, rfl, HU8.out⟩, by simp [intOf]⟩
    · have hx : u.size ≤ 10000 := by omega
      have HDC := hid (fun W => sdecode_any u W (by omega))
      have HCU := hid (fun W => scuts_any u W (by omega))
      have HRD := hid (fun W => rdecode_any 3 St.sheetL sheet_at sheet_ok u W (by omega))
      have hq : St.dec St.sheetL u.size u.data.toList 0 0 [] [] = sheetD u := rfl
      rw [hq] at HRD
      clear hq
      generalize sheetD u = R at HDC HCU HRD
      obtain ⟨f1, cu1, at1, er1⟩ := R
      go_wp2_with fail
      refine (HDC.out _).mono ?_
      rintro e w4 ⟨A3, c3, rfl, hI3, h31, h32, hu4⟩
      have HI3 := hid hI3
      have HU4 := hid (HU.out.trans hu4)
      clear hI3 hu4 HDC HU
      go_wp2_with fail
      refine (HCU.out _).mono ?_
      rintro e w5 ⟨A4, c4, rfl, hI4, h41, h42, hu5⟩
      have HI4 := hid hI4
      have HI3' := hid (HI3.out.und hu5)
      have HU5 := hid (HU4.out.trans hu5)
      clear hI4 hu5 HCU HU4 HI3
      go_wp2_with fail
      refine (HRD.out _).mono ?_
      rintro e w6 ⟨v1, v2, rfl, ho1, ho2, hu6⟩
      simp only at ho1 ho2 HI3' HI4 h31 h41 ⊢
      obtain ⟨A5, c5, rfl, h51, h52, _⟩ := own_slice' ho1
      obtain ⟨A6, c6, rfl, h61, h62, _⟩ := own_slice' ho2
      have hs := fun W (hW : Und w6 W) => rsame_any A3 A5 f1.length f1.length c3 c5 f1 f1 W rfl rfl h31 h51 h32 (by unfold maxLen at h52; omega) ((HI3'.out.und hu6).und hW) ((items_own ho1 rfl).und hW)
      rw [decide_eq_true rfl] at hs
      have hs2 := fun W (hW : Und w6 W) => sameInts_any A4 A6 cu1.length cu1.length c4 c6 cu1 cu1 W rfl rfl h41 h61 h42 (by unfold maxLen at h62; omega) ((HI4.out.und hu6).und hW) ((nats_own ho2 rfl).und hW)
      rw [decide_eq_true rfl] at hs2
      have HS := hid hs
      have HS2 := hid hs2
      have HU6 := hid (HU5.out.trans hu6)
      have v1 : (er1 == er1) = true := beq_self_eq_true _
      have v2 : ((at1 : Int) == (at1 : Int)) = true := beq_self_eq_true _
      clear hs hs2 ho1 ho2 hu6 HRD HU5 HI3' HI4
      go_wp2_with fail
      refine (HS.out _ (Und.refl _)).mono ?_
      rintro e w7 ⟨rfl, hu7⟩
      have HS3 := hid (HS2.out _ hu7)
      have HU7 := hid (HU6.out.trans hu7)
      clear hu7 HS HS2 HU6
      go_wp2_with fail
      refine HS3.out.mono ?_
      rintro e w8 ⟨rfl, hu8⟩
      have HU8 := hid (HU7.out.trans hu8)
      clear hu8 HS3 HU7
      go_wp2
      exact ⟨⟨3, by omega, rfl, HU8.out⟩, by simp [intOf]⟩
    · go_wp2_with fail
      refine (HKN.out _ HU.out).mono ?_
      rintro e w5 ⟨rfl, hu5⟩
      have HU5 := hid (HU.out.trans hu5)
      clear hu5
      go_wp2
      go_ret
      exact ⟨rfl, HU5.out⟩
end Go.Proofs.YtofhaokbklfmmaaDoor

namespace Go.Proofs.YtofhaokbklfmmaaDoor
open Go.RowKit

def BzRel (w : World) (m : Nat) (i : Value) (wr : World) : Prop := ∃ k : Nat, k ≤ m ∧ i = .int .i64 k ∧ Und w wr
/-- Data by a maker of the call's own. -/
theorem data9_own (A : Option Addr) (n c : Nat) (zs : List Int) (w : World) (hz : zs.length = n) (hn : n ≤ 9223372036854775807) (hI : IntsAt w A zs) (T : TypeId) :
    Calls Tryd.prog 13 #[.pointer (some ⟨w.heap.size, 0, none⟩), .int .i64 3, .int .i64 4] (w.alloc (.cells #[.slice A n c, .int .i64 0] T)) fun e w' => ∃ data : ByteArray, e = .returned (.string data) ∧ DataOf9 4 data ∧ data.size ≤ 16012 ∧ Und w w' := by
  refine (data9_gen (w.heap.size + 1) w.heap.size 0 4 _ (GenP.fresh hn hz hI) (by omega) (by omega)).mono ?_
  rintro e w2 ⟨data, rfl, hD, hs, _, hk⟩
  exact ⟨data, rfl, hD, by omega, ((Und.refl w).alloc _).of_gb hk (fun g e => by cases e; exact Nat.le_refl _)⟩

set_option maxRecDepth 20000 in
set_option maxHeartbeats 12800000 in
theorem spllaw_any (s : ByteArray) (at' by' : Int) (A : Option Addr) (n c : Nat) (zs : List Int) (w : World) (ht : Tab w) (hs : s.size ≤ 9223372036854775807) (hz : zs.length = n) (hn : n ≤ 9223372036854775807) (hI : IntsAt w A zs) :
    Calls Tryd.prog 4 #[.string s, .slice A n c, .int .i64 at', .int .u8 by'] w fun e w' => e = .returned (.bool true) ∧ Und w w' := by
  have HTB := hid ht
  have HKN := hid (fun W (hW : Und w W) => sknown_any W (HTB.out.und hW))
  have HDA := hid (data9_own A n c zs w hz hn hI 35)
  clear hI ht
  by_cases q0 : 400 < s.size
  · have z0 : (400 : Int) < (s.size : Int) := by omega
    go_enter Tryd.func4, Tryd.ntmps4
    go_wp2_with fail
    refine (HKN.out _ (Und.refl _)).mono ?_
    rintro e w2 ⟨rfl, hu⟩
    have HU := hid hu
    clear hu
    go_wp2
    go_ret
    exact ⟨rfl, HU.out⟩
  have z0 : ¬ (400 : Int) < (s.size : Int) := by omega
  by_cases q1 : 200 < n
  · have z1 : (200 : Int) < (n : Int) := by omega
    go_enter Tryd.func4, Tryd.ntmps4
    go_wp2_with fail
    refine (HKN.out _ (Und.refl _)).mono ?_
    rintro e w2 ⟨rfl, hu⟩
    have HU := hid hu
    clear hu
    go_wp2
    go_ret
    exact ⟨rfl, HU.out⟩
  have z1 : ¬ (200 : Int) < (n : Int) := by omega
  go_enter Tryd.func4, Tryd.ntmps4
  go_wp2_with fail
  refine HDA.out.mono ?_
  rintro e w2 ⟨raw, rfl, _, hrs, hu⟩
  have HU := hid hu
  clear hu HDA
  go_wp2_with fail
  refine (changed_any raw at' by' w2 (by omega)).mono ?_
  rintro e w3 ⟨u, rfl, hus, hu3⟩
  have HU3 := hid (HU.out.trans hu3)
  clear hu3 HU
  go_wp2_with fail
  go_loopw [38] (fun i wr => BzRel w 3 i wr) (fun i _ => 4 - (intOf i).toNat)
  case atStart => exact ⟨0, by omega, rfl, HU3.out⟩
  case round =>
    obtain ⟨k, hk, rfl, hu⟩ := hrel
    have HU := hid hu
    clear hu HU3
    obtain ⟨ia, ib, ic⟩ := ix3 s raw u wr
    rcases (show k = 0 ∨ k = 1 ∨ k = 2 ∨ k = 3 by omega) with rfl | rfl | rfl | rfl
    · have hx : s.size ≤ 100000 := by omega
      have HSP := hid (fun W (hW : Und w W) => ssplit_any s W (HTB.out.und hW) (by omega))
      have HRS := hid (fun W => rsplit_any s W (by omega))
      generalize sheetS s = R at HSP HRS
      obtain ⟨f1, at1, er1⟩ := R
      go_wp2_with fail
      refine (HSP.out _ HU.out).mono ?_
      rintro e w4 ⟨A3, c3, rfl, hI3, h31, h32, hu4⟩
      have HI3 := hid hI3
      have HU4 := hid (HU.out.trans hu4)
      clear hI3 hu4 HSP HU
      go_wp2_with fail
      refine (HRS.out _).mono ?_
      rintro e w5 ⟨A4, c4, rfl, hI4, h41, h42, hu5⟩
      simp only at hI4 h31 h41 ⊢
      have hs := fun W (hW : Und w5 W) => sameParts_any A3 A4 f1.length f1.length c3 c4 f1 f1 W rfl rfl h31 h41 h32 h42 ((HI3.out.und hu5).und hW) (hI4.und hW)
      rw [decide_eq_true rfl] at hs
      have HS := hid hs
      have HU5 := hid (HU4.out.trans hu5)
      have v1 : (er1 == er1) = true := beq_self_eq_true _
      have v2 : ((at1 : Int) == (at1 : Int)) = true := beq_self_eq_true _
      clear hs hI4 hu5 HRS HU4 HI3
      go_wp2_with fail
      refine (HS.out _ (Und.refl _)).mono ?_
      rintro e w7 ⟨rfl, hu7⟩
      have HU7 := hid (HU5.out.trans hu7)
      clear hu7 HS HU5
      go_wp2
      exact ⟨⟨1, by omega, rfl, HU7.out⟩, by simp [intOf]⟩
    · have hx : raw.size ≤ 100000 := by omega
      have HSP := hid (fun W (hW : Und w W) => ssplit_any raw W (HTB.out.und hW) (by omega))
      have HRS := hid (fun W => rsplit_any raw W (by omega))
      generalize sheetS raw = R at HSP HRS
      obtain ⟨f1, at1, er1⟩ := R
      go_wp2_with fail
      refine (HSP.out _ HU.out).mono ?_
      rintro e w4 ⟨A3, c3, rfl, hI3, h31, h32, hu4⟩
      have HI3 := hid hI3
      have HU4 := hid (HU.out.trans hu4)
      clear hI3 hu4 HSP HU
      go_wp2_with fail
      refine (HRS.out _).mono ?_
      rintro e w5 ⟨A4, c4, rfl, hI4, h41, h42, hu5⟩
      simp only at hI4 h31 h41 ⊢
      have hs := fun W (hW : Und w5 W) => sameParts_any A3 A4 f1.length f1.length c3 c4 f1 f1 W rfl rfl h31 h41 h32 h42 ((HI3.out.und hu5).und hW) (hI4.und hW)
      rw [decide_eq_true rfl] at hs
      have HS := hid hs
      have HU5 := hid (HU4.out.trans hu5)
      have v1 : (er1 == er1) = true := beq_self_eq_true _
      have v2 : ((at1 : Int) == (at1 : Int)) = true := beq_self_eq_true _
      clear hs hI4 hu5 HRS HU4 HI3
      go_wp2_with fail
      refine (HS.out _ (Und.refl _)).mono ?_
      rintro e w7 ⟨rfl, hu7⟩
      have HU7 := hid (HU5.out.trans hu7)
      clear hu7 HS HU5
      go_wp2
      exact ⟨⟨2, by omega, rfl, HU7.out⟩, by simp [intOf]⟩
    · have hx : u.size ≤ 100000 := by omega
      have HSP := hid (fun W (hW : Und w W) => ssplit_any u W (HTB.out.und hW) (by omega))
      have HRS := hid (fun W => rsplit_any u W (by omega))
      generalize sheetS u = R at HSP HRS
      obtain ⟨f1, at1, er1⟩ := R
      go_wp2_with fail
      refine (HSP.out _ HU.out).mono ?_
      rintro e w4 ⟨A3, c3, rfl, hI3, h31, h32, hu4⟩
      have HI3 := hid hI3
      have HU4 := hid (HU.out.trans hu4)
      clear hI3 hu4 HSP HU
      go_wp2_with fail
      refine (HRS.out _).mono ?_
      rintro e w5 ⟨A4, c4, rfl, hI4, h41, h42, hu5⟩
      simp only at hI4 h31 h41 ⊢
      have hs := fun W (hW : Und w5 W) => sameParts_any A3 A4 f1.length f1.length c3 c4 f1 f1 W rfl rfl h31 h41 h32 h42 ((HI3.out.und hu5).und hW) (hI4.und hW)
      rw [decide_eq_true rfl] at hs
      have HS := hid hs
      have HU5 := hid (HU4.out.trans hu5)
      have v1 : (er1 == er1) = true := beq_self_eq_true _
      have v2 : ((at1 : Int) == (at1 : Int)) = true := beq_self_eq_true _
      clear hs hI4 hu5 HRS HU4 HI3
      go_wp2_with fail
      refine (HS.out _ (Und.refl _)).mono ?_
      rintro e w7 ⟨rfl, hu7⟩
      have HU7 := hid (HU5.out.trans hu7)
      clear hu7 HS HU5
      go_wp2
      exact ⟨⟨3, by omega, rfl, HU7.out⟩, by simp [intOf]⟩
    · go_wp2_with fail
      refine (HKN.out _ HU.out).mono ?_
      rintro e w5 ⟨rfl, hu5⟩
      have HU5 := hid (HU.out.trans hu5)
      clear hu5
      go_wp2
      go_ret
      exact ⟨rfl, HU5.out⟩
end Go.Proofs.YtofhaokbklfmmaaDoor

namespace Go.Proofs.YtofhaokbklfmmaaDoor.St

theorem sheet_elen : ElLen sheetL := fun _ _ _ _ h => let ⟨_, h1, h2⟩ := sheet_len h; ⟨h1, h2⟩
theorem flat_rep (n : Nat) (b : List UInt8) (x : It) : flatP (List.replicate n (b, x)) = (List.replicate n b).flatten := by
  unfold flatP; induction n with
  | zero => rfl
  | succ n ih => simp [List.replicate_succ, ih]
theorem flat_one (n : Nat) (c : UInt8) : (List.replicate n [c]).flatten = List.replicate n c := by
  induction n with
  | zero => rfl
  | succ n ih => simp [List.replicate_succ, ih]
theorem its_rep (n : Nat) (b : List UInt8) (x : It) : itsP (List.replicate n (b, x)) = List.replicate n x := by simp [itsP]
theorem piece_a {E : List UInt8 → El} (hE : ElLen E) (h : ∀ rest, E (97 :: rest) = some (1, [97], 1)) : Piece E [97] (1, [97], 0) := piece_of hE (by simp) (by decide) h
theorem piece_n {E : List UInt8 → El} (hE : ElLen E) (h : ∀ rest, E (123 :: 110 :: 125 :: rest) = some (5, [110], 3)) : Piece E [123, 110, 125] (5, [110], 0) := piece_of hE (by simp) (by decide) h
theorem texts_len (n : Nat) (c : UInt8) : ((List.replicate n ((1 : Int), [c], (0 : Int))).foldl addI []).length ≤ 1 := by
  have e : List.replicate n ((1 : Int), [c], (0 : Int)) = (List.replicate n c).map (fun c => ((1 : Int), [c], (0 : Int))) := by simp
  rw [e, addI_text, addI_nil]
  repeat' split
  all_goals simp
theorem slots_len (n : Nat) (t : List UInt8) (f : List It) : ((List.replicate n ((5 : Int), t, (0 : Int))).foldl addI f).length = f.length + n := by
  induction n generalizing f with
  | zero => rfl
  | succ n ih => rw [List.replicate_succ, List.foldl_cons, ih, add_item _ _ (by decide)]; simp; omega
theorem lim_ok {E : List UInt8 → El} (hE : ElLen E) (h : ∀ rest, E (97 :: rest) = some (1, [97], 1)) (n : Nat) (hn : n ≤ 1024) :
    (decF E (List.replicate n 97) 0 0 [] []).2.2 = (0, 0) ∧ (decF E (List.replicate n 97) 0 0 [] []).2.1.length = n + 1 := by
  have hp := decF_pieces (List.replicate n ([97], (1, [97], 0))) [] 0 0 [] [] (fun p hp => by rw [(List.mem_replicate.1 hp).2]; exact piece_a hE h)
    (by rw [its_rep]; have := texts_len n 97; omega) (by simp; exact hn)
  rw [flat_rep, flat_one, List.append_nil, decF_nil] at hp
  rw [hp]
  exact ⟨rfl, by simp [offs_len]⟩
theorem lim_bad0 {E : List UInt8 → El} (hE : ElLen E) (h : ∀ rest, E (97 :: rest) = some (1, [97], 1)) (n : Nat) (hn : n = 1024) : (decF E (List.replicate (n + 1) 97) 0 0 [] []).2.2 = (n, 3) := by
  have hp := decF_pieces (List.replicate n ([97], (1, [97], 0))) [97] 0 0 [] [] (fun p hp => by rw [(List.mem_replicate.1 hp).2]; exact piece_a hE h)
    (by rw [its_rep]; have := texts_len n 97; omega) (by simp; omega)
  rw [flat_rep, flat_one] at hp
  have e : List.replicate n (97 : UInt8) ++ [97] = List.replicate (n + 1) 97 := by rw [← List.replicate_succ']
  rw [e] at hp
  rw [hp, decF_full (k := 1) (t := [97]) (n := 1) _ _ _ _ (by simp) (h []) (by decide) (.inr (by simp [offs_len]; omega))]
  simp
theorem rep3_len (n : Nat) (t : List UInt8) : ((List.replicate n t).flatten).length = n * t.length := by simp
theorem slim_ok {E : List UInt8 → El} (hE : ElLen E) (h : ∀ rest, E (123 :: 110 :: 125 :: rest) = some (5, [110], 3)) (n : Nat) (hn : n ≤ 512) :
    (decF E ((List.replicate n [123, 110, 125]).flatten) 0 0 [] []).2.2 = (0, 0) := by
  have hp := decF_pieces (List.replicate n ([123, 110, 125], (5, [110], 0))) [] 0 0 [] [] (fun p hp => by rw [(List.mem_replicate.1 hp).2]; exact piece_n hE h)
    (by rw [its_rep, slots_len]; simp; exact hn) (by simp; omega)
  rw [flat_rep, List.append_nil, decF_nil] at hp
  rw [hp]
theorem slim_bad0 {E : List UInt8 → El} (hE : ElLen E) (h : ∀ rest, E (123 :: 110 :: 125 :: rest) = some (5, [110], 3)) (n : Nat) (hn : n = 512) : (decF E ((List.replicate (n + 1) [123, 110, 125]).flatten) 0 0 [] []).2.2 = (n * 3, 3) := by
  have hp := decF_pieces (List.replicate n ([123, 110, 125], (5, [110], 0))) [123, 110, 125] 0 0 [] [] (fun p hp => by rw [(List.mem_replicate.1 hp).2]; exact piece_n hE h)
    (by rw [its_rep, slots_len]; simp; omega) (by simp; omega)
  rw [flat_rep] at hp
  have e : (List.replicate n [(123 : UInt8), 110, 125]).flatten ++ [123, 110, 125] = (List.replicate (n + 1) [123, 110, 125]).flatten := by
    rw [List.replicate_succ', List.flatten_append]; simp
  rw [e] at hp
  rw [hp, decF_full (k := 5) (t := [110]) (n := 3) _ _ _ _ (by simp) (h []) (by decide) (.inl (by rw [its_rep, add_item _ _ (by decide), List.length_append, slots_len]; simp; omega))]
  simp
theorem sheet_a (rest : List UInt8) : sheetL (97 :: rest) = some (1, [97], 1) := sheet_else (by decide) (by decide)
theorem sheet_n (rest : List UInt8) : sheetL (123 :: 110 :: 125 :: rest) = some (5, [110], 3) := by
  rw [sheet_123 (by decide)]
  simp [slotL, isNameL, lowC]
theorem recs_ok0' {dE : List UInt8 → Nat × Int} {dig : Nat → List UInt8} {d : List UInt8} {W C fuel a r e n : Nat} {s s' : PS} (h : ¬ d.length ≤ a) (hr : recS dE d W C (dig r) (d.length + 1) a 0 s = .ok (e, n, s')) (hn : ¬ n < W) : recsS dE dig d W C (fuel + 1) a r s = recsS dE dig d W C fuel (e + 1) (r + 1) s' := by
  rw [recsS, if_neg h, hr]; simp only []; rw [if_neg hn]
theorem split_ok0' {dE : List UInt8 → Nat × Int} {dig : Nat → List UInt8} {d : List UInt8} {e n tx c : Nat} (h0 : ¬ 65536 < d.length) (h : headS d (d.length + 1) 0 0 0 0 = .ok (e, n, tx, c)) (ht : tx ≠ 0) (ht2 : ¬ 1 < tx) : splitS dE dig d = endR d (recsS dE dig d n c (d.length + 1) (e + 1) 1 ([], 0)) := by
  rw [splitS, if_neg h0, h]; simp only []; rw [if_neg ht, if_neg ht2]
  cases recsS dE dig d n c (d.length + 1) (e + 1) 1 ([], 0) <;> rfl
/-- A table with one record, whose last field is long. -/
def longL (k : Nat) : List UInt8 := [116, 101, 120, 116, 44, 110, 10, 34, 97, 34, 44] ++ List.replicate k 120
theorem longL_len (k : Nat) : (longL k).length = k + 11 := by simp [longL]
theorem field_xs (k : Nat) : fieldL (List.replicate k 120) = some (k, false) := by
  rw [field_b (fun c r e => by
    cases k with
    | zero => simp at e
    | succ k => rw [List.replicate_succ] at e; simp at e; rw [← e.1]; decide)]
  have : (List.replicate k (120 : UInt8)).takeWhile bareC = List.replicate k 120 := by
    rw [List.takeWhile_replicate]; rfl
  rw [this]; simp [endB]
theorem drop_xs (k j : Nat) : (List.replicate k (120 : UInt8)).drop j = List.replicate (k - j) 120 := by simp
theorem long_ok (k : Nat) (hk : k + 11 ≤ 65536) (dig : Nat → List UInt8) : (splitS dE dig (longL k)).2.2 = 0 := by
  have hh : headS (longL k) ((longL k).length + 1) 0 0 0 0 = .ok (6, 2, 1, 0) := by rw [longL_len]; rfl
  have h0 : ¬ 65536 < (longL k).length := by rw [longL_len]; omega
  have hd7 : ∀ s : PS, recS dE (longL k) 2 0 (dig 1) ((longL k).length + 1) 7 0 s = .ok (11 + k, 2, unitS (longL k) s 8 9 (dig 1)) := by
    intro s
    have f1 : fieldL ((longL k).drop 7) = some (3, true) := rfl
    have d1 : dE (cutL (longL k) (7 + 1) (7 + 3 - 1)) = (0, 0) := rfl
    have f2 : fieldL ((longL k).drop 11) = some (k, false) := field_xs k
    have d2 : (longL k).drop (11 + k) = [] := List.drop_of_length_le (by rw [longL_len]; omega)
    rw [longL_len, rec_step f1 (by simp) (by rw [d1]; simp)]
    have e : (longL k).drop (7 + 3) = 44 :: List.replicate k 120 := rfl
    rw [e]
    simp only []
    rw [if_neg (by decide)]
    simp only [if_true]
    rw [rec_step (fuel := k + 10) f2 (by simp) (by simp)]
    rw [d2]
    rfl
  have hr : recsS dE dig (longL k) 2 0 ((longL k).length + 1) (6 + 1) 1 ([], 0) = .ok (unitS (longL k) ([], 0) 8 9 (dig 1)) := by
    rw [recs_ok0' (by rw [longL_len]; omega) (hd7 ([], 0)) (by decide)]
    exact recs_end _ _ _ _ (by rw [longL_len]; omega)
  rw [split_ok0' h0 hh (by decide) (by decide), hr]
  rfl
theorem long_bad (k : Nat) (hk : 65536 < k + 11) (dig : Nat → List UInt8) : (splitS dE dig (longL k)).2.2 = 3 := by
  unfold splitS
  rw [if_pos (by rw [longL_len]; omega)]
end Go.Proofs.YtofhaokbklfmmaaDoor.St

namespace Go.Proofs.YtofhaokbklfmmaaDoor
open Go.RowKit

/-- What holds of parts up to an offset. -/
def InvS (d : List UInt8) (s : St.PS) : Prop := s.1.length % 2 = 0 ∧ (∀ i (h : i < s.1.length), s.1[i].1 = decide (i % 2 = 1) ∧ (s.1[i].2.1 = [] ↔ s.1[i].1 = false) ∧ (s.1[i].1 = true → (dE s.1[i].2.2).2 = 0)) ∧ s.1.flatMap (·.2.2) = d.take s.2 ∧ s.2 ≤ d.length
theorem inv_nil (d : List UInt8) : InvS d ([], 0) := ⟨rfl, fun i h => by simp at h, by simp, by simp⟩
theorem cut_join (d : List UInt8) (a b : Nat) (h : a ≤ b) : d.take a ++ St.cutL d a b = d.take b := by
  unfold St.cutL
  conv => rhs; rw [← List.take_append_drop a (d.take b)]
  rw [List.take_take, Nat.min_eq_left h]
theorem inv_unit {d : List UInt8} {s : St.PS} {a b : Nat} {key : List UInt8} (h : InvS d s) (h1 : s.2 ≤ a) (h2 : a ≤ b) (h3 : b ≤ d.length) (hk : key ≠ []) (he : (dE (St.cutL d a b)).2 = 0) : InvS d (St.unitS d s a b key) := by
  obtain ⟨i1, i2, i3, i4⟩ := h
  unfold St.unitS
  refine ⟨by simp; omega, fun i hi => ?_, ?_, h3⟩
  · simp only [List.length_append, List.length_cons, List.length_nil] at hi
    by_cases hlt : i < s.1.length
    · simp only [List.getElem_append_left hlt]; exact i2 i hlt
    · simp only [List.getElem_append_right (Nat.le_of_not_lt hlt)]
      rcases (show i - s.1.length = 0 ∨ i - s.1.length = 1 by omega) with hq | hq
      · simp only [hq, List.getElem_cons_zero]
        refine ⟨by rw [decide_eq_false (by omega)], by simp, by simp⟩
      · simp only [hq, List.getElem_cons_succ, List.getElem_cons_zero]
        refine ⟨by rw [decide_eq_true (by omega)], by simp [hk], fun _ => he⟩
  · simp only [List.flatMap_append, List.flatMap_cons, List.flatMap_nil, List.append_nil]
    rw [i3, ← List.append_assoc, cut_join d _ _ h1, cut_join d _ _ h2]
/-- What holds of all parts. -/
def PartsOk (d : List UInt8) (ps : List St.Pt) : Prop := ps.length % 2 = 1 ∧ (∀ i (h : i < ps.length), ps[i].1 = decide (i % 2 = 1) ∧ (ps[i].2.1 = [] ↔ ps[i].1 = false) ∧ (ps[i].1 = true → (dE ps[i].2.2).2 = 0)) ∧ ps.flatMap (·.2.2) = d
theorem inv_end {d : List UInt8} {s : St.PS} (h : InvS d s) : PartsOk d (St.endS d s) := by
  obtain ⟨i1, i2, i3, i4⟩ := h
  unfold St.endS
  refine ⟨by simp; omega, fun i hi => ?_, ?_⟩
  · simp only [List.length_append, List.length_singleton] at hi
    by_cases hlt : i < s.1.length
    · simp only [List.getElem_append_left hlt]; exact i2 i hlt
    · simp only [List.getElem_append_right (Nat.le_of_not_lt hlt)]
      have hq : i - s.1.length = 0 := by omega
      simp only [hq, List.getElem_cons_zero]
      refine ⟨by rw [decide_eq_false (by omega)], by simp, by simp⟩
  · simp only [List.flatMap_append, List.flatMap_cons, List.flatMap_nil, List.append_nil]
    rw [i3]; simp
theorem inv_rec {d key : List UInt8} {W C : Nat} (hk : key ≠ []) : ∀ (fuel a n : Nat) (s : St.PS) (e m : Nat) (s' : St.PS), InvS d s → s.2 ≤ a → St.recS dE d W C key fuel a n s = .ok (e, m, s') → InvS d s' ∧ s'.2 ≤ e ∧ a ≤ e
  | 0, a, n, s, e, m, s', _, _, h => by simp [St.recS] at h
  | fuel + 1, a, n, s, e, m, s', hi, ha, h => by
    cases hf : St.fieldL (d.drop a) with
    | none => rw [St.rec_none hf] at h; cases h
    | some x =>
      obtain ⟨k, q⟩ := x
      by_cases hb : W ≤ n ∨ (n = C ∧ q = false)
      · rw [St.rec_bad hf hb] at h; cases h
      · by_cases he : n = C ∧ (dE (St.cutL d (a + 1) (a + k - 1))).2 ≠ 0
        · rw [St.rec_dec hf hb he] at h; cases h
        · rw [St.rec_step hf hb he] at h
          obtain ⟨hk1, hkq⟩ := St.field_len hf
          simp only [List.length_drop] at hk1
          have hs' : InvS d (if n = C then St.unitS d s (a + 1) (a + k - 1) key else s) ∧ (if n = C then St.unitS d s (a + 1) (a + k - 1) key else s).2 ≤ a + k := by
            by_cases hnc : n = C
            · rw [if_pos hnc]
              have hq : q = true := by
                cases q
                · exact absurd (.inr ⟨hnc, rfl⟩) hb
                · rfl
              have h2 := hkq hq
              have hal : a + k ≤ d.length := by omega
              refine ⟨inv_unit hi (by omega) (by omega) (by omega) hk ?_, by show a + k - 1 ≤ _; omega⟩
              by_cases hz : (dE (St.cutL d (a + 1) (a + k - 1))).2 = 0
              · exact hz
              · exact absurd ⟨hnc, hz⟩ he
            · rw [if_neg hnc]; exact ⟨hi, by omega⟩
          generalize (if n = C then St.unitS d s (a + 1) (a + k - 1) key else s) = s2 at h hs'
          obtain ⟨h1, h2⟩ := hs'
          split at h
          · simp only [Except.ok.injEq, Prod.mk.injEq] at h
            obtain ⟨rfl, _, rfl⟩ := h
            exact ⟨h1, h2, by omega⟩
          · split at h
            · simp only [Except.ok.injEq, Prod.mk.injEq] at h
              obtain ⟨rfl, _, rfl⟩ := h
              exact ⟨h1, h2, by omega⟩
            · have := inv_rec hk fuel (a + k + 1) (n + 1) s2 e m s' h1 (by omega) h
              exact ⟨this.1, this.2.1, by omega⟩
theorem inv_recs {d : List UInt8} {W C : Nat} : ∀ (fuel a r : Nat) (s s' : St.PS), InvS d s → s.2 ≤ a → St.recsS dE Lib.decDigits d W C fuel a r s = .ok s' → InvS d s'
  | 0, a, r, s, s', hi, _, h => by simp [St.recsS] at h; subst h; exact hi
  | fuel + 1, a, r, s, s', hi, ha, h => by
    by_cases hl : d.length ≤ a
    · rw [St.recs_end _ _ _ _ hl] at h; cases h; exact hi
    · cases hr : St.recS dE d W C (Lib.decDigits r) (d.length + 1) a 0 s with
      | error x => rw [St.recs_err hl hr] at h; cases h
      | ok x =>
        obtain ⟨e, n, s2⟩ := x
        have hkey : Lib.decDigits r ≠ [] := by
          unfold Lib.decDigits; split <;> simp
        have hv := inv_rec hkey _ _ _ _ _ _ _ hi ha hr
        by_cases hn : n < W
        · rw [St.recs_few hl hr hn] at h; cases h
        · rw [St.recs_ok0' hl hr hn] at h
          exact inv_recs fuel (e + 1) (r + 1) s2 s' hv.1 (by omega) h
/-- The parts of a table without error. -/
theorem sheetS_parts (d : ByteArray) (h : (sheetS d).2.2 = 0) : PartsOk d.data.toList (sheetS d).1 := by
  unfold sheetS at h ⊢
  by_cases h0 : 65536 < d.data.toList.length
  · unfold St.splitS at h; rw [if_pos h0] at h; cases h
  · cases hh : St.headS d.data.toList (d.data.toList.length + 1) 0 0 0 0 with
    | error x =>
      obtain ⟨a, er⟩ := x
      have hne : er ≠ 0 := by
        intro e
        subst e
        have : ∀ (fuel a n t c x : Nat), St.headS d.data.toList fuel a n t c ≠ .error (x, 0) := by
          intro fuel
          induction fuel with
          | zero => intro a n t c x h; simp [St.headS] at h
          | succ fuel ih =>
            intro a n t c x h
            cases hf : St.fieldL (d.data.toList.drop a) with
            | none => rw [St.head_none hf] at h; simp at h
            | some y =>
              obtain ⟨k, q⟩ := y
              rw [St.head_step hf] at h
              split at h
              · cases h
              · split at h
                · cases h
                · exact ih _ _ _ _ _ h
        exact this _ _ _ _ _ _ hh
      rw [St.split_err h0 hh] at h; exact absurd h hne
    | ok x =>
      obtain ⟨e, n, tx, c⟩ := x
      by_cases ht : tx = 0
      · rw [St.split_none h0 hh ht] at h; cases h
      · by_cases ht2 : 1 < tx
        · rw [St.split_many h0 hh ht ht2] at h; cases h
        · rw [St.split_ok0' h0 hh ht ht2] at h ⊢
          cases hr : St.recsS dE Lib.decDigits d.data.toList n c (d.data.toList.length + 1) (e + 1) 1 ([], 0) with
          | error x =>
            obtain ⟨a, er⟩ := x
            have hne : er ≠ 0 := by
              intro e0
              subst e0
              have hrec : ∀ (fuel a m x : Nat) (key : List UInt8) (s : St.PS), St.recS dE d.data.toList n c key fuel a m s ≠ .error (x, 0) := by
                intro fuel
                induction fuel with
                | zero => intro a m x key s h; simp [St.recS] at h
                | succ fuel ih =>
                  intro a m x key s h
                  cases hf : St.fieldL (d.data.toList.drop a) with
                  | none => rw [St.rec_none hf] at h; simp at h
                  | some y =>
                    obtain ⟨k, q⟩ := y
                    by_cases hb : n ≤ m ∨ (m = c ∧ q = false)
                    · rw [St.rec_bad hf hb] at h; simp at h
                    · by_cases he : m = c ∧ (dE (St.cutL d.data.toList (a + 1) (a + k - 1))).2 ≠ 0
                      · rw [St.rec_dec hf hb he] at h
                        simp only [Except.error.injEq, Prod.mk.injEq] at h
                        exact he.2 h.2
                      · rw [St.rec_step hf hb he] at h
                        split at h
                        · cases h
                        · split at h
                          · cases h
                          · exact ih _ _ _ _ _ h
              have hrecs : ∀ (fuel a r x : Nat) (s : St.PS), St.recsS dE Lib.decDigits d.data.toList n c fuel a r s ≠ .error (x, 0) := by
                intro fuel
                induction fuel with
                | zero => intro a r x s h; simp [St.recsS] at h
                | succ fuel ih =>
                  intro a r x s h
                  by_cases hl : d.data.toList.length ≤ a
                  · rw [St.recs_end _ _ _ _ hl] at h; cases h
                  · cases hr : St.recS dE d.data.toList n c (Lib.decDigits r) (d.data.toList.length + 1) a 0 s with
                    | error y =>
                      rw [St.recs_err hl hr] at h
                      simp only [Except.error.injEq] at h
                      subst h
                      exact hrec _ _ _ _ _ _ hr
                    | ok y =>
                      obtain ⟨e', n', s2⟩ := y
                      by_cases hn : n' < n
                      · rw [St.recs_few hl hr hn] at h; simp at h
                      · rw [St.recs_ok0' hl hr hn] at h; exact ih _ _ _ _ h
              exact hrecs _ _ _ _ _ hr
            rw [hr] at h; exact absurd h hne
          | ok s => exact inv_end (inv_recs _ _ _ _ _ (inv_nil _) (by simp) hr)
end Go.Proofs.YtofhaokbklfmmaaDoor

namespace Go.Proofs.YtofhaokbklfmmaaDoor
open Go.RowKit
namespace St

/-- Bytes that a quoted field may hold anywhere. -/
def Quo (b : List UInt8) : Prop := ∀ l, quotedL (b ++ l) = (quotedL l).map (· + b.length)
theorem quo_nil : Quo [] := fun l => by simp
theorem quo_app {a b : List UInt8} (ha : Quo a) (hb : Quo b) : Quo (a ++ b) := by
  intro l
  rw [List.append_assoc, ha, hb, Option.map_map]
  congr 1
  funext x
  simp only [Function.comp, List.length_append]; omega
theorem quo_one {c : UInt8} (h : c.toNat ≠ 34) : Quo [c] := by
  intro l
  show quotedL (c :: l) = _
  rw [quotedL.eq_def]
  simp only []
  rw [if_neg h]; rfl
theorem quo_all : ∀ {b : List UInt8}, (∀ c ∈ b, c.toNat ≠ 34) → Quo b
  | [], _ => quo_nil
  | c :: b, h => quo_app (quo_one (h c (by simp))) (quo_all (fun d hd => h d (by simp [hd])))
theorem quo_two : Quo [34, 34] := by
  intro l
  show quotedL (34 :: 34 :: l) = _
  simp only [quotedL, List.length_cons, List.length_nil]
  rw [if_pos (by decide), if_pos (by decide)]
theorem name_34 {t : List UInt8} (h : isNameL t = true) : ∀ c ∈ t, c.toNat ≠ 34 := by
  cases t with
  | nil => intro c hc; cases hc
  | cons a r =>
    simp only [isNameL, Bool.and_eq_true, decide_eq_true_eq, List.all_eq_true] at h
    intro c hc
    rcases List.mem_cons.1 hc with rfl | hc
    · have := h.2.1
      intro e
      simp only [lowC, decide_eq_true_eq] at this
      omega
    · have := h.2.2 c hc
      intro e
      simp only [nameC, decide_eq_true_eq] at this
      omega
theorem quo_piece {p : It} (h : Pos1 p) : Quo (encI 3 p) := by
  rcases h with ⟨c, rfl⟩ | ⟨t, rfl, ht⟩
  · have e : encI 3 (1, [c], 0) = encB 3 c := by simp [encI]
    rw [e]
    by_cases h34 : c.toNat = 34
    · have hc : c = 34 := by apply UInt8.toNat_inj.1; simpa using h34
      subst hc
      have e2 : encB 3 34 = [34, 34] := by decide
      rw [e2]; exact quo_two
    · by_cases h123 : c.toNat = 123
      · have e2 : encB 3 c = [c, c] := by unfold encB; simp [h123]
        rw [e2]; exact quo_app (quo_one h34) (quo_one h34)
      · have e2 : encB 3 c = [c] := by unfold encB; simp [h34, h123]
        rw [e2]; exact quo_one h34
  · have e : encI 3 (5, t, 0) = 123 :: (t ++ [125]) := by simp [encI]
    rw [e]
    exact quo_app (a := [123]) (quo_one (by decide)) (quo_app (quo_all (name_34 ht)) (quo_one (by decide)))
theorem quo_flat : ∀ {ps : List (List UInt8 × It)}, (∀ p ∈ ps, Quo p.1) → Quo (flatP ps)
  | [], _ => quo_nil
  | p :: ps, h => quo_app (h p (by simp)) (quo_flat (fun q hq => h q (by simp [hq])))
/-- What may stand behind a record. -/
def Tail (R : List UInt8) : Prop := R = [] ∨ ∃ r, R = 10 :: r
theorem quoted_stop {raw R : List UInt8} (h : Quo raw) (hR : endB R = true) : quotedL (raw ++ 34 :: R) = some (raw.length + 1) := by
  rw [h]
  have : quotedL (34 :: R) = some 1 := by
    rw [quotedL.eq_def]
    simp only []
    rw [if_pos (by decide)]
    cases R with
    | nil => rfl
    | cons d r =>
      have : d.toNat ≠ 34 := by
        simp only [endB, decide_eq_true_eq] at hR; omega
      simp only []
      rw [if_neg this]
  rw [this]; simp [Nat.add_comm]
theorem field_quoted {raw R : List UInt8} (h : Quo raw) (hR : endB R = true) : fieldL (34 :: (raw ++ 34 :: R)) = some (raw.length + 2, true) := by
  simp only [fieldL]
  rw [if_pos (by decide), quoted_stop h hR]
  simp only []
  have : (raw ++ 34 :: R).drop (raw.length + 1) = R := by
    rw [← List.drop_drop, List.drop_left]; rfl
  rw [this, if_pos hR]
theorem tail_end {R : List UInt8} (h : Tail R) : endB R = true := by
  rcases h with rfl | ⟨r, rfl⟩ <;> rfl
theorem takeWhile_tail {R : List UInt8} (h : Tail R) : R.takeWhile bareC = [] := by
  rcases h with rfl | ⟨r, rfl⟩ <;> rfl
def widthD (col : Nat) : Nat := if col = 0 then 1 else if col = 1 then 2 else 3
def colD (col : Nat) : Nat := if col = 0 then 0 else 1

theorem head_st {d : List UInt8} {fuel a n tx col k : Nat} {q : Bool} (h : fieldL (d.drop a) = some (k, q)) : headS d (fuel + 1) a n tx col = match d.drop (a + k) with
      | [] => .ok (a + k, n + 1, (if cutL d a (a + k) == [116, 101, 120, 116] then tx + 1 else tx), (if cutL d a (a + k) == [116, 101, 120, 116] then n else col))
      | c :: _ => if c.toNat = 10 then .ok (a + k, n + 1, (if cutL d a (a + k) == [116, 101, 120, 116] then tx + 1 else tx), (if cutL d a (a + k) == [116, 101, 120, 116] then n else col)) else headS d fuel (a + k + 1) (n + 1) (if cutL d a (a + k) == [116, 101, 120, 116] then tx + 1 else tx) (if cutL d a (a + k) == [116, 101, 120, 116] then n else col) := by
  rw [headS, h]
  simp only []
  cases d.drop (a + k) <;> rfl
theorem head_made {col : Nat} {R : List UInt8} (hc : col < 3) (hR : Tail R) (fuel : Nat) : headS (hdrL col ++ R) (fuel + 3) 0 0 0 0 = .ok ((hdrL col).length, widthD col, 1, colD col) := by
  rcases (show col = 0 ∨ col = 1 ∨ col = 2 by omega) with rfl | rfl | rfl <;> rcases hR with rfl | ⟨r, rfl⟩ <;> rfl
section
variable {dE : List UInt8 → Nat × Int} {d : List UInt8} {W C : Nat} {key : List UInt8}
theorem rec_st {fuel a n k : Nat} {q : Bool} {s : PS} (h : fieldL (d.drop a) = some (k, q)) (hb : ¬ (W ≤ n ∨ (n = C ∧ q = false))) (he : ¬ (n = C ∧ (dE (cutL d (a + 1) (a + k - 1))).2 ≠ 0)) : recS dE d W C key (fuel + 1) a n s = match d.drop (a + k) with
      | [] => .ok (a + k, n + 1, if n = C then unitS d s (a + 1) (a + k - 1) key else s)
      | c :: _ => if c.toNat = 10 then .ok (a + k, n + 1, if n = C then unitS d s (a + 1) (a + k - 1) key else s) else recS dE d W C key fuel (a + k + 1) (n + 1) (if n = C then unitS d s (a + 1) (a + k - 1) key else s) := by
  rw [recS, h]; simp only []; rw [if_neg hb, if_neg he]
  cases d.drop (a + k) <;> rfl
/-- The record's last field. -/
theorem rec_last {fuel a n k : Nat} {q : Bool} {s : PS} {f R : List UInt8} (hd : d.drop a = f ++ R) (hk : f.length = k) (hR : Tail R) (h : fieldL (f ++ R) = some (k, q)) (hb : ¬ (W ≤ n ∨ (n = C ∧ q = false))) (he : ¬ (n = C ∧ (dE (cutL d (a + 1) (a + k - 1))).2 ≠ 0)) : ∃ s', recS dE d W C key (fuel + 1) a n s = .ok (a + k, n + 1, s') := by
  rw [rec_st (by rw [hd]; exact h) hb he]
  have : d.drop (a + k) = R := by rw [← List.drop_drop, hd, ← hk, List.drop_left]
  rw [this]
  rcases hR with rfl | ⟨r, rfl⟩
  · exact ⟨_, rfl⟩
  · exact ⟨_, rfl⟩
/-- A field with another behind it. -/
theorem rec_next {fuel a n k : Nat} {q : Bool} {s : PS} {f R : List UInt8} (hd : d.drop a = f ++ 44 :: R) (hk : f.length = k) (h : fieldL (f ++ 44 :: R) = some (k, q)) (hb : ¬ (W ≤ n ∨ (n = C ∧ q = false))) (he : ¬ (n = C ∧ (dE (cutL d (a + 1) (a + k - 1))).2 ≠ 0)) : ∃ s', recS dE d W C key (fuel + 1) a n s = recS dE d W C key fuel (a + k + 1) (n + 1) s' ∧ d.drop (a + k + 1) = R := by
  rw [rec_st (by rw [hd]; exact h) hb he]
  have : d.drop (a + k) = 44 :: R := by rw [← List.drop_drop, hd, ← hk, List.drop_left]
  have h2 : d.drop (a + k + 1) = R := by rw [← List.drop_drop, this]; rfl
  rw [this]
  exact ⟨_, rfl, h2⟩
end
theorem cut_drop (d : List UInt8) (a n : Nat) : cutL d a (a + n) = (d.drop a).take n := by
  unfold cutL
  rw [List.drop_take]; congr 1; omega
/-- The text field's raw content. -/
theorem cut_raw {d raw R : List UInt8} {a : Nat} (hd : d.drop a = 34 :: (raw ++ 34 :: R)) : cutL d (a + 1) (a + (raw.length + 2) - 1) = raw := by
  have e : a + (raw.length + 2) - 1 = (a + 1) + raw.length := by omega
  rw [e, cut_drop, ← List.drop_drop, hd]
  simp
theorem rec_made {dE : List UInt8 → Nat × Int} {d key raw R : List UInt8} {col : Nat} (hc : col < 3) (a fuel : Nat) (s : PS) (hq : Quo raw) (he : (dE raw).2 = 0) (hR : Tail R) (hd : d.drop a = preL col ++ 34 :: (raw ++ 34 :: (postL col ++ R))) :
    ∃ s', recS dE d (widthD col) (colD col) key (fuel + 3) a 0 s = .ok (a + ((preL col).length + (raw.length + 2) + (postL col).length), widthD col, s') := by
  have hne : ∀ n a', d.drop a' = 34 :: (raw ++ 34 :: (postL col ++ R)) → ¬ (n = colD col ∧ (dE (cutL d (a' + 1) (a' + (raw.length + 2) - 1))).2 ≠ 0) := by
    intro n a' h'
    rw [cut_raw h', he]; simp
  rcases (show col = 0 ∨ col = 1 ∨ col = 2 by omega) with rfl | rfl | rfl
  · have hd0 : d.drop a = (34 :: (raw ++ [34])) ++ R := by rw [hd]; simp [preL, postL]
    obtain ⟨s', h⟩ := rec_last (dE := dE) (W := 1) (C := 0) (key := key) (fuel := fuel + 2) (n := 0) (k := raw.length + 2) (q := true) (s := s) hd0 (by simp) hR (by simpa using field_quoted hq (tail_end hR)) (by simp) (hne 0 a hd)
    exact ⟨s', by simpa [preL, postL, widthD, colD] using h⟩
  · have hd0 : d.drop a = [55] ++ 44 :: (34 :: (raw ++ 34 :: R)) := by rw [hd]; simp [preL, postL]
    obtain ⟨s1, h1, hd1⟩ := rec_next (dE := dE) (W := 2) (C := 1) (key := key) (fuel := fuel + 2) (n := 0) (k := 1) (q := false) (s := s) hd0 rfl rfl (by simp) (by simp)
    have hd2 : d.drop (a + 1 + 1) = (34 :: (raw ++ [34])) ++ R := by rw [hd1]; simp
    obtain ⟨s', h⟩ := rec_last (dE := dE) (W := 2) (C := 1) (key := key) (fuel := fuel + 1) (n := 1) (k := raw.length + 2) (q := true) (s := s1) hd2 (by simp) hR (by simpa using field_quoted hq (tail_end hR)) (by simp) (hne 1 _ (by rw [hd1]; simp [postL]))
    refine ⟨s', ?_⟩
    show recS dE d 2 1 key (fuel + 2 + 1) a 0 s = _
    rw [h1, h]
    simp [preL, postL, widthD]; omega
  · have hd0 : d.drop a = [120] ++ 44 :: (34 :: (raw ++ 34 :: ([44, 34, 121, 34] ++ R))) := by rw [hd]; simp [preL, postL]
    obtain ⟨s1, h1, hd1⟩ := rec_next (dE := dE) (W := 3) (C := 1) (key := key) (fuel := fuel + 2) (n := 0) (k := 1) (q := false) (s := s) hd0 rfl rfl (by simp) (by simp)
    have hd2 : d.drop (a + 1 + 1) = (34 :: (raw ++ [34])) ++ 44 :: ([34, 121, 34] ++ R) := by rw [hd1]; simp
    obtain ⟨s2, h2, hd3⟩ := rec_next (dE := dE) (W := 3) (C := 1) (key := key) (fuel := fuel + 1) (n := 1) (k := raw.length + 2) (q := true) (s := s1) hd2 (by simp) (by simpa using field_quoted hq (R := 44 :: 34 :: 121 :: 34 :: R) rfl) (by simp) (hne 1 _ (by rw [hd1]; simp [postL]))
    obtain ⟨s', h⟩ := rec_last (dE := dE) (W := 3) (C := 1) (key := key) (fuel := fuel) (n := 2) (k := 3) (q := true) (s := s2) hd3 rfl hR (by simpa using field_quoted (raw := [121]) (quo_one (by decide)) (tail_end hR)) (by simp) (by simp)
    refine ⟨s', ?_⟩
    show recS dE d 3 1 key (fuel + 2 + 1) a 0 s = _
    rw [h1, h2, h]
    simp [preL, postL, widthD]; omega
theorem recs_en {dE : List UInt8 → Nat × Int} {dig : Nat → List UInt8} {d : List UInt8} {W C : Nat} (fuel a r : Nat) (s : PS) (h : d.length ≤ a) : recsS dE dig d W C fuel a r s = .ok s := by
  cases fuel with
  | zero => rfl
  | succ f => rw [recsS, if_pos h]
theorem recs_st {dE : List UInt8 → Nat × Int} {dig : Nat → List UInt8} {d : List UInt8} {W C fuel a r e n : Nat} {s s' : PS} (h : ¬ d.length ≤ a) (hr : recS dE d W C (dig r) (d.length + 1) a 0 s = .ok (e, n, s')) (hn : ¬ n < W) : recsS dE dig d W C (fuel + 1) a r s = recsS dE dig d W C fuel (e + 1) (r + 1) s' := by
  rw [recsS, if_neg h, hr]; simp only []; rw [if_neg hn]
theorem recs_made {dE : List UInt8 → Nat × Int} {dig : Nat → List UInt8} {d : List UInt8} {col : Nat} (hc : col < 3) : ∀ (rs : List (List It × ByteArray)) (fuel a r : Nat) (s : PS), (∀ x ∈ rs, Quo x.2.data.toList ∧ (dE x.2.data.toList).2 = 0) → rs.length ≤ fuel → d.drop a = rs.flatMap (recD col) → ∃ s', recsS dE dig d (widthD col) (colD col) fuel (a + 1) r s = .ok s'
  | [], fuel, a, r, s, _, _, hd => by
    have : d.length ≤ a := by
      have := congrArg List.length hd
      simp at this; omega
    exact ⟨_, recs_en _ _ _ _ (by omega)⟩
  | x :: rs, 0, a, r, s, _, hf, _ => by simp at hf
  | x :: rs, fuel + 1, a, r, s, hx, hf, hd => by
    obtain ⟨hq, he⟩ := hx x (by simp)
    have hR : Tail (rs.flatMap (recD col)) := by
      cases rs with
      | nil => exact .inl rfl
      | cons y rs => exact .inr ⟨_, by simp [recD]; rfl⟩
    have hd1 : d.drop (a + 1) = preL col ++ 34 :: (x.2.data.toList ++ 34 :: (postL col ++ rs.flatMap (recD col))) := by
      rw [← List.drop_drop, hd]; simp [recD]
    have hl := congrArg List.length hd1
    simp at hl
    obtain ⟨m, hm⟩ : ∃ m, d.length + 1 = m + 3 := ⟨d.length - 2, by omega⟩
    obtain ⟨s1, h1⟩ := rec_made (dE := dE) (d := d) (key := dig r) hc (a + 1) m s hq he hR hd1
    rw [← hm] at h1
    have hd2 : d.drop (a + 1 + ((preL col).length + (x.2.data.toList.length + 2) + (postL col).length)) = rs.flatMap (recD col) := by
      rw [← List.drop_drop, hd1]
      have : preL col ++ 34 :: (x.2.data.toList ++ 34 :: (postL col ++ rs.flatMap (recD col))) = (preL col ++ 34 :: (x.2.data.toList ++ 34 :: postL col)) ++ rs.flatMap (recD col) := by simp
      rw [this]
      have hl2 : (preL col).length + (x.2.data.toList.length + 2) + (postL col).length = (preL col ++ 34 :: (x.2.data.toList ++ 34 :: postL col)).length := by simp; omega
      rw [hl2, List.drop_left]
    obtain ⟨s', h⟩ := recs_made (dE := dE) (dig := dig) (d := d) hc rs fuel _ (r + 1) s1 (fun y hy => hx y (by simp [hy])) (by simpa using hf) hd2
    refine ⟨s', ?_⟩
    rw [recs_st (by omega) h1 (by omega)]
    exact h
/-- A table that the maker wrote has no error. -/
theorem split_made {dE : List UInt8 → Nat × Int} {dig : Nat → List UInt8} {d : List UInt8} {col : Nat} {rs : List (List It × ByteArray)} (hc : col < 3) (hx : ∀ x ∈ rs, Quo x.2.data.toList ∧ (dE x.2.data.toList).2 = 0) (hl : d.length ≤ 65536) (hd : d = hdrL col ++ rs.flatMap (recD col)) : (splitS dE dig d).2.2 = 0 := by
  have hR : Tail (rs.flatMap (recD col)) := by
    cases rs with
    | nil => exact .inl rfl
    | cons y rs => exact .inr ⟨_, by simp [recD]; rfl⟩
  have hlen := congrArg List.length hd
  rw [List.length_append] at hlen
  have h4 : 4 ≤ (hdrL col).length := by unfold hdrL; split; decide; split <;> decide
  obtain ⟨m, hm⟩ : ∃ m, d.length + 1 = m + 3 := ⟨d.length - 2, by omega⟩
  have hh : headS d (d.length + 1) 0 0 0 0 = .ok ((hdrL col).length, widthD col, 1, colD col) := by
    rw [hm]; conv => lhs; rw [hd]
    exact head_made hc hR m
  have hrl : ∀ (l : List (List It × ByteArray)), l.length ≤ (l.flatMap (recD col)).length := by
    intro l
    induction l with
    | nil => simp
    | cons x l ih => simp [recD]; simp [recD] at ih; omega
  have hdr : d.drop (hdrL col).length = rs.flatMap (recD col) := by rw [hd, List.drop_left]
  obtain ⟨s', h⟩ := recs_made (dE := dE) (dig := dig) (d := d) hc rs (d.length + 1) (hdrL col).length 1 ([], 0) hx (by have := hrl rs; omega) hdr
  rw [splitS, if_neg (by omega), hh]
  simp only []
  rw [if_neg (by decide), if_neg (by decide), h]
end St
/-- The raw content of a made unit may stand in a quoted field. -/
theorem raws_quo {f : List St.It} {raw : ByteArray} (hg : GoodF f) (hr : RawsOf 3 f raw) : St.Quo raw.data.toList := by
  obtain ⟨ps, h1, h2, h3⟩ := hr
  rw [h1]
  refine St.quo_flat fun p hp => ?_
  have hm : p.2 ∈ St.posI f := by rw [← h2]; unfold St.itsP; exact List.mem_map.2 ⟨p, hp, rfl⟩
  rcases h3 p hp with h | ⟨h, _⟩ | ⟨h, _⟩
  · rw [h]; exact St.quo_piece (good_pos hg _ hm)
  · exact absurd h (by decide)
  · exact absurd h (by decide)
end Go.Proofs.YtofhaokbklfmmaaDoor

namespace Go.Proofs.YtofhaokbklfmmaaDoor
open Go.RowKit

theorem St.split_bad {dE : List UInt8 → Nat × Int} {dig : Nat → List UInt8} {d : List UInt8} (h : (St.splitS dE dig d).2.2 ≠ 0) : (St.splitS dE dig d).1 = [] := by
  unfold St.splitS at h ⊢
  split
  · rfl
  · rename_i h0
    rw [if_neg h0] at h
    split
    · rfl
    · rename_i h1
      rw [h1] at h
      simp only [] at h
      split
      · rfl
      · rename_i h2
        rw [if_neg h2] at h
        split
        · rfl
        · rename_i h3
          rw [if_neg h3] at h
          split
          · rfl
          · rename_i h4
            rw [h4] at h
            exact absurd rfl h
theorem data9_ok {n : Nat} {data : ByteArray} (h : DataOf9 n data) (hs : data.size ≤ 65536) : (sheetS data).2.2 = 0 := by
  obtain ⟨col, rs, hc, _, hx, hd⟩ := h
  unfold sheetS
  refine St.split_made (col := col) (rs := rs) hc (fun x hm => ?_) (by rw [St.len_list]; exact hs) hd
  obtain ⟨hg, hl, ht, hr⟩ := hx x hm
  refine ⟨raws_quo hg hr, ?_⟩
  obtain ⟨cuts, hD, _⟩ := sheet_reads hg (by omega) (by omega) hr
  rw [dE_of, hD]
theorem ix2 (a b : ByteArray) (W : World) : (Instr.index 44 (.agg #[.string a, .string b]) (.int .i64 0)).run Tryd.prog W = .ok (.string a) W ∧ (Instr.index 44 (.agg #[.string a, .string b]) (.int .i64 1)).run Tryd.prog W = .ok (.string b) W := by
  exact ⟨by kernel_rfl, by kernel_rfl⟩
theorem sum_at {d : List UInt8} {ps : List St.Pt} {j : Nat} (h : ps.flatMap (·.2.2) = d) (hj : j < ps.length) : ((ps.take j).flatMap (·.2.2)).length + ps[j].2.2.length ≤ d.length := by
  have e : ps = ps.take j ++ ps[j] :: ps.drop (j + 1) := by
    rw [← List.drop_eq_getElem_cons hj, List.take_append_drop]
  have := congrArg List.length h
  rw [← this]
  conv => rhs; rw [e]
  simp only [List.flatMap_append, List.flatMap_cons, List.length_append]
  omega
theorem take_at {t : List UInt8} {ps : List St.Pt} {j : Nat} (h : t = (ps.take j).flatMap (·.2.2)) (hj : j < ps.length) : (ps.take (j + 1)).flatMap (·.2.2) = t ++ ps[j].2.2 := by
  rw [h, List.take_add_one, List.getElem?_eq_getElem hj, List.flatMap_append]
  simp only [Option.toList_some, List.flatMap_cons, List.flatMap_nil, List.append_nil]
def PrRel (w : World) (x : ByteArray) (A : Option Addr) (R : List St.Pt) (s13 s53 : Value) (wr : World) : Prop :=
  ∃ (j : Nat) (t : ByteArray), s13 = .string t ∧ s53 = .int .i64 j ∧ j ≤ R.length ∧ t.data.toList = (R.take j).flatMap (·.2.2) ∧ t.size ≤ x.size ∧ PartsAt wr A R ∧ Und w wr

set_option maxRecDepth 20000 in
set_option maxHeartbeats 12800000 in
theorem prtlaw_any (at' by' : Int) (A : Option Addr) (n c : Nat) (zs : List Int) (w : World) (ht : Tab w) (hz : zs.length = n) (hn : n ≤ 9223372036854775807) (hI : IntsAt w A zs) :
    Calls Tryd.prog 5 #[.slice A n c, .int .i64 at', .int .u8 by'] w fun e w' => e = .returned (.bool true) ∧ Und w w' := by
  have HTB := hid ht
  have HKN := hid (fun W (hW : Und w W) => sknown_any W (HTB.out.und hW))
  have HDA := hid (data9_own A n c zs w hz hn hI 35)
  clear hI ht
  by_cases q1 : 200 < n
  · have z1 : (200 : Int) < (n : Int) := by omega
    go_enter Tryd.func5, Tryd.ntmps5
    go_wp2_with fail
    refine (HKN.out _ (Und.refl _)).mono ?_
    rintro e w2 ⟨rfl, hu⟩
    have HU := hid hu
    clear hu
    go_wp2
    go_ret
    exact ⟨rfl, HU.out⟩
  have z1 : ¬ (200 : Int) < (n : Int) := by omega
  go_enter Tryd.func5, Tryd.ntmps5
  go_wp2_with fail
  refine HDA.out.mono ?_
  rintro e w2 ⟨raw, rfl, hD, hrs, hu⟩
  have HOK := hid (data9_ok hD (by omega))
  have HU := hid hu
  clear hu HDA hD
  go_wp2_with fail
  refine (changed_any raw at' by' w2 (by omega)).mono ?_
  rintro e w3 ⟨u, rfl, hus, hu3⟩
  have HU3 := hid (HU.out.trans hu3)
  clear hu3 HU
  go_wp2_with fail
  go_loopw [32] (fun i wr => BzRel w 2 i wr) (fun i _ => 3 - (intOf i).toNat)
  case atStart => exact ⟨0, by omega, rfl, HU3.out⟩
  case round =>
    obtain ⟨k, hk, rfl, hu⟩ := hrel
    have HU := hid hu
    clear hu HU3
    by_cases hk2 : k = 2
    · subst hk2
      go_wp2_with fail
      refine (HKN.out _ HU.out).mono ?_
      rintro e w5 ⟨rfl, hu5⟩
      have HU5 := hid (HU.out.trans hu5)
      clear hu5
      go_wp2
      go_ret
      exact ⟨rfl, HU5.out⟩
    have hlt : (k : Int) < 2 := by omega
    have hkw : IntKind.i64.wrap ((k : Int) + 1) = ((k + 1 : Nat) : Int) := by rw [IntWalk.i64_in _ (by omega)]; simp
    obtain ⟨x, hx, hxs⟩ : ∃ x : ByteArray, (Instr.index 44 (.agg #[.string raw, .string u]) (.int .i64 k)).run Tryd.prog wr = .ok (.string x) wr ∧ x.size ≤ 16012 := by
      obtain ⟨ia, ib⟩ := ix2 raw u wr
      rcases (show k = 0 ∨ k = 1 by omega) with rfl | rfl
      · exact ⟨raw, ia, hrs⟩
      · exact ⟨u, ib, by omega⟩
    have HSP := hid (fun W (hW : Und w W) => ssplit_any x W (HTB.out.und hW) (by omega))
    by_cases her : (sheetS x).2.2 = 0
    · have HPO := hid (sheetS_parts x her)
      obtain ⟨R, hR⟩ : ∃ R, R = sheetS x := ⟨_, rfl⟩
      rw [← hR] at HPO HSP her
      clear hR
      obtain ⟨f1, at1, er1⟩ := R
      simp only at her HPO
      subst her
      go_wp2_with fail
      refine (HSP.out _ HU.out).mono ?_
      rintro e w4 ⟨A3, c3, rfl, hI3, h31, h32, hu4⟩
      simp only at hI3 h31 ⊢
      have HI3 := hid hI3
      have HU4 := hid (HU.out.trans hu4)
      clear hI3 hu4 HSP HU hx
      go_wp2_with fail
      go_loopw [13, 53] (fun s13 s53 wr => PrRel w x A3 f1 s13 s53 wr) (fun _ i _ => f1.length - (intOf i).toNat)
      case atStart => exact ⟨0, ByteArray.empty, rfl, rfl, by omega, rfl, by simp, HI3.out, HU4.out⟩
      case round =>
        clear HI3 HU4
        obtain ⟨j, t, rfl, rfl, hj, htt, hts, hP, hu⟩ := hrel
        have HP := hid hP
        have HU := hid hu
        have HTT := hid htt
        clear hP hu htt
        by_cases hjl : j < f1.length
        · have hjz : (j : Int) < (f1.length : Int) := by omega
          have hjw : IntKind.i64.wrap ((j : Int) + 1) = (j : Int) + 1 := IntWalk.i64_in _ (by omega)
          obtain ⟨b, o, rfl, hb, hc1⟩ := HP.out (by omega)
          obtain ⟨h1, h2, h3⟩ := hc1 j hjl
          haveI : LtW b wr := LtW.of hb
          obtain ⟨hp1, hp2, hp3⟩ := HPO.out.2.1 j hjl
          have hsum := sum_at HPO.out.2.2 hjl
          rw [← HTT.out, St.len_list, St.len_list] at hsum
          have htk := take_at HTT.out hjl
          generalize f1[j] = y at h1 h2 h3 hp1 hp2 hp3 hsum htk
          obtain ⟨yk, yt, yi⟩ := y
          simp only at h1 h2 h3 hp1 hp2 hp3 hsum htk
          obtain ⟨rw', hrw⟩ : ∃ rw' : ByteArray, rw' = ⟨yi.toArray⟩ := ⟨_, rfl⟩
          obtain ⟨ky, hky⟩ : ∃ ky : ByteArray, ky = ⟨yt.toArray⟩ := ⟨_, rfl⟩
          rw [← hrw] at h3
          rw [← hky] at h2
          have hrd : rw'.data.toList = yi := by rw [hrw]
          have hrz : rw'.size = yi.length := by rw [← St.len_list, hrd]
          have hadd : (t ++ rw').data.toList = (f1.take (j + 1)).flatMap (·.2.2) := by rw [htk, ByteArray.data_append, Array.toList_append, hrd]
          have hsz : (t ++ rw').size = t.size + yi.length := by rw [ByteArray.size_append, hrz]
          have hde : yk = true → (sheetD rw').2.2.2 = 0 := by
            intro e
            have := hp3 e
            rw [← hrd, dE_of] at this
            exact this
          have hcat : t.size + rw'.size ≤ 9223372036854775807 := by omega
          have HDC := hid (fun W => sdecode_any rw' W (by omega))
          have HADD := hid hadd
          have HSZ := hid (show (t ++ rw').size ≤ x.size by omega)
          clear hadd hsz hsum htk hrz hrd hrw hp3 hc1
          generalize sheetD rw' = D at HDC hde
          obtain ⟨f2, c2, a2, e2⟩ := D
          simp only at hde
          by_cases hpar : j % 2 = 1
          · have hkt : yk = true := by rw [hp1, decide_eq_true hpar]
            have hm1 : (j : Int).tmod 2 = 1 := by rw [Int.tmod_eq_emod_of_nonneg (by omega)]; omega
            subst hkt
            have he2 : e2 = 0 := hde rfl
            subst he2
            have hkn : (ky.toList == []) = false := by
              refine Bool.eq_false_iff.2 fun e => ?_
              have h0 := eq_of_beq e
              rw [Lib.toList_data, hky] at h0
              exact absurd (hp2.1 h0) (by simp)
            clear hp1 hp2 hde hky
            go_wp2_with fail
            go_quiet (fail)
            go_wp2_with fail
            refine (HDC.out _).mono ?_
            rintro e w6 ⟨A6, c6, rfl, _, _, _, hu6⟩
            replace hu6 := ((Und.refl wr).drewN _).trans hu6
            have hg1 := (hu6.cell (p := ⟨b, o + j * 3, none⟩) hb).trans h1
            haveI : LtW b w6 := LtW.of (Nat.lt_of_lt_of_le hb hu6.size)
            have HU6 := hid (HU.out.trans hu6)
            have HP6 := hid (HP.out.und hu6)
            clear hu6 h1 h2 h3 HU HP HDC
            go_wp2
            exact ⟨⟨j + 1, _, rfl, by simp, by omega, HADD.out, HSZ.out, HP6.out, HU6.out⟩, by simp [intOf]; omega⟩
          · have hkt : yk = false := by rw [hp1, decide_eq_false hpar]
            subst hkt
            have hkn : (ky.toList == []) = true := by
              rw [hky, hp2.2 rfl, Lib.toList_data]; rfl
            clear hp1 hp2 hde hky
            have hm1 : (j : Int).tmod 2 = 0 := by rw [Int.tmod_eq_emod_of_nonneg (by omega)]; omega
            go_wp2_with fail
            go_quiet (fail)
            go_wp2_with fail
            refine (HDC.out _).mono ?_
            rintro e w6 ⟨A6, c6, rfl, _, _, _, hu6⟩
            replace hu6 := ((Und.refl wr).drewN _).trans hu6
            have hg1 := (hu6.cell (p := ⟨b, o + j * 3, none⟩) hb).trans h1
            haveI : LtW b w6 := LtW.of (Nat.lt_of_lt_of_le hb hu6.size)
            have HU6 := hid (HU.out.trans hu6)
            have HP6 := hid (HP.out.und hu6)
            clear hu6 h1 h2 h3 HU HP HDC
            go_wp2
            exact ⟨⟨j + 1, _, rfl, by simp, by omega, HADD.out, HSZ.out, HP6.out, HU6.out⟩, by simp [intOf]; omega⟩
        · obtain rfl : j = f1.length := by omega
          have htx : t = x := by
            refine bytes_ext _ _ ?_
            rw [HTT.out, List.take_length, HPO.out.2.2]
          subst htx
          have hlen : (f1.length : Int).tmod 2 = 1 := by
            have := HPO.out.1
            rw [Int.tmod_eq_emod_of_nonneg (by omega)]; omega
          have hne : (t.toList != t.toList) = false := by simp
          clear hj hjl
          go_wp2
          exact ⟨⟨k + 1, by omega, by simp, HU.out⟩, by simp [intOf]; omega⟩
    · have hf1 : (sheetS x).1 = [] := by unfold sheetS at her ⊢; exact St.split_bad her
      have hxr : (x.toList == raw.toList) = false := by
        refine Bool.eq_false_iff.2 fun e => her ?_
        have h0 := eq_of_beq e
        rw [Lib.toList_data, Lib.toList_data] at h0
        rw [bytes_ext _ _ h0]; exact HOK.out
      obtain ⟨R, hR⟩ : ∃ R, R = sheetS x := ⟨_, rfl⟩
      rw [← hR] at HSP her hf1
      clear hR
      obtain ⟨f1, at1, er1⟩ := R
      simp only at her hf1
      subst hf1
      have hner : (er1 != 0) = true := by simpa using her
      go_wp2_with fail
      refine (HSP.out _ HU.out).mono ?_
      rintro e w4 ⟨A3, c3, rfl, _, _, _, hu4⟩
      have HU4 := hid (HU.out.trans hu4)
      clear hu4 HSP HU hx
      simp only [List.length_nil]
      go_wp2
      exact ⟨⟨k + 1, by omega, by simp, HU4.out⟩, by simp [intOf]; omega⟩
end Go.Proofs.YtofhaokbklfmmaaDoor
