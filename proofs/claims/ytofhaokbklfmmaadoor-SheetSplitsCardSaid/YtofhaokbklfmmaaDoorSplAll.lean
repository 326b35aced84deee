/- The contracts of the law package's made, raws and changed. Conditions: the lists lie in memory. The contract of the maker Data at a sheet: a header and records of raw contents. Conditions: as MakeGen's. The laws SheetReads and SheetDecodes: walks. Condition: the library's table of powers of ten in memory. The law SheetSplits: walk. Condition: the library's table of powers of ten in memory. -/
import Derived.Test.YtofhaokbklfmmaaDoorMakeRaws
import Derived.Lib.ConvBytes
import Derived.Test.YtofhaokbklfmmaaDoorFacts
import Derived.Test.YtofhaokbklfmmaaDoorRefEl3
import Derived.Test.YtofhaokbklfmmaaDoorRefSame
import Derived.Test.YtofhaokbklfmmaaDoorSheetKnown
import Derived.Test.YtofhaokbklfmmaaDoorRefSheet

namespace Go.Proofs.YtofhaokbklfmmaaDoor
open Go.RowKit

/-- A fragment in memory. -/
def FragAt (w : World) (A : Option Addr) (c : Nat) (f : List St.It) (n : Nat) : Prop := ItemsAt w A f ∧ GoodF f ∧ f.length ≤ n ∧ tot f ≤ 18 * n ∧ f.length ≤ c ∧ c ≤ 9223372036854775807 ∧ ∀ b off, A = some ⟨b, off, none⟩ → b < w.heap.size
theorem FragAt.und {w w' : World} {A : Option Addr} {c : Nat} {f : List St.It} {n : Nat} (h : FragAt w A c f n) (u : Und w w') : FragAt w' A c f n := by
  obtain ⟨h1, h2, h3, h4, h5, h6, h7⟩ := h
  exact ⟨h1.und u, h2, h3, h4, h5, h6, fun b off e => Nat.lt_of_lt_of_le (h7 b off e) u.size⟩
theorem own_block_lt {w : World} {B n c : Nat} {A : Option Addr} {e : TypeId} {size : Nat} {xs : List Value} (h : w.ownsRow B e size (.slice A n c) n xs) : ∀ b off, A = some ⟨b, off, none⟩ → b < w.heap.size := by
  intro b off e'
  subst e'
  exact (h.lt b rfl).2
set_option maxHeartbeats 3200000 in
theorem made_any (A : Option Addr) (n c : Nat) (zs : List Int) (w : World) (hz : zs.length = n) (hn : n ≤ 9223372036854775807) (hI : IntsAt w A zs) :
    Calls Tryd.prog 23 #[.slice A n c] w fun e w' => ∃ A2 c2 f, e = .returned (.slice A2 f.length c2) ∧ FragAt w' A2 c2 f 8 ∧ Und w w' := by
  have HG := hid (GenP.fresh (c := c) (T := 35) hn hz hI)
  clear hI
  go_enter Tryd.func23, Tryd.ntmps23
  go_wp2_with fail
  refine (frag_gen (w.heap.size + 1) w.heap.size 0 8 _ HG.out (by omega) (by omega)).mono ?_
  rintro e w2 ⟨v, f, rfl, ho, hgd, hfl, hft, hG2, hk⟩
  obtain ⟨A2, c2, rfl, h1, h2, _⟩ := own_slice' ho
  have hu : Und w w2 := ((Und.refl w).alloc _).of_gb hk (fun g e => by cases e; exact Nat.le_refl _)
  have hF : FragAt w2 A2 c2 f 8 := ⟨items_own ho rfl, hgd, hfl, hft, h1, by unfold maxLen at h2; omega, own_block_lt ho⟩
  have HE := hid (And.intro hF hu)
  clear ho hgd hG2 hk hu hF
  go_wp2
  go_ret
  exact ⟨A2, c2, f, rfl, HE.out.1, HE.out.2⟩
set_option maxHeartbeats 3200000 in
theorem raws_any (A B : Option Addr) (n c m d : Nat) (zs ys : List Int) (w : World) (hz : zs.length = n) (hn : n ≤ 9223372036854775807) (hI : IntsAt w A zs) (hy : ys.length = m) (hm : m ≤ 9223372036854775807) (hJ : IntsAt w B ys) :
    Calls Tryd.prog 10 #[.slice A n c, .slice B m d] w fun e w' => ∃ raw A2 c2 f, e = .returned (.tuple #[.string raw, .slice A2 f.length c2]) ∧ FragAt w' A2 c2 f 8 ∧ RawsOf 3 f raw ∧ raw.size ≤ 6080 ∧ Und w w' := by
  have HM := hid (made_any A n c zs w hz hn hI)
  have HJ := hid hJ
  clear hI hJ
  go_enter Tryd.func10, Tryd.ntmps10
  go_wp2_with fail
  refine HM.out.mono ?_
  rintro e w2 ⟨A2, c2, f, rfl, hF, hu⟩
  have HG := hid (GenP.fresh (c := d) (T := 35) hm hy (HJ.out.und hu))
  have HF := hid hF
  have HU := hid hu
  clear hF hu HM
  go_wp2_with fail
  refine (raws_gen 3 long_sheet (w2.heap.size + 1) w2.heap.size 0 A2 f.length c2 f _ HG.out (by omega) rfl HF.out.2.2.2.2.1 HF.out.2.2.2.2.2.1 (HF.out.1.und ((Und.refl _).alloc _)) (fun b off e => by have := HF.out.2.2.2.2.2.2 b off e; omega) (by have := HF.out.2.2.1; omega) (by have := HF.out.2.2.2.1; omega) HF.out.2.1).mono ?_
  rintro e w3 ⟨raw, rfl, hR, hrs, hG3, hk⟩
  have hu3 : Und w2 w3 := ((Und.refl w2).alloc _).of_gb hk (fun g e => by cases e; exact Nat.le_refl _)
  have hb1 := HF.out.2.2.1
  have hb2 := HF.out.2.2.2.1
  have HE := hid (And.intro (HF.out.und hu3) (And.intro hR (HU.out.trans hu3)))
  clear hR hG3 hk hu3 HF HU HG
  go_wp2
  go_ret2
  exact ⟨raw, A2, c2, f, rfl, HE.out.1, HE.out.2.1, by omega, HE.out.2.2⟩
theorem frozen_past (w : World) (s : ByteArray) (j : Nat) (hj : j < s.size) : (Lib.bytesWorld w 5 s).frozen? ⟨w.heap.size, j, none⟩ = false := by
  have h := Lib.bytesWorld_at_new w 5 s
  have hs : s.size ≤ (Lib.bytesCells w 5 s).size := by unfold Lib.bytesCells; simp
  unfold World.frozen?
  simp only [h]
  simp
  omega
set_option maxRecDepth 20000 in
set_option maxHeartbeats 3200000 in
theorem changed_any (s : ByteArray) (at' by' : Int) (w : World) (hs : s.size ≤ 1000000) :
    Calls Tryd.prog 14 #[.string s, .int .i64 at', .int .u8 by'] w fun e w' => ∃ u : ByteArray, e = .returned (.string u) ∧ u.size = s.size ∧ Und w w' := by
  have hb : Below w.heap.size w (Lib.bytesWorld w 5 s) := ⟨rfl, rfl, rfl, by rw [Lib.bytesWorld_size]; omega, fun k hk => Lib.bytesWorld_at_old w _ _ k hk⟩
  have hcv := Lib.run_convert_string_bytes w 9 52 5 s Tryd.underlying9 Tryd.underlying52 Tryd.underlying5
  have hcell := fun j hj => Lib.bytesWorld_cell w 5 s j hj
  have hfr := fun j hj => frozen_past w s j hj
  have hsz := Lib.bytesWorld_size w 5 s
  have hcb := grownCap_ge w s.size 0 5
  have hcm := grownCap_le_maxLen w s.size 0 5 (by unfold maxLen; omega)
  generalize Lib.bytesWorld w 5 s = w1 at hb hcv hcell hfr hsz
  generalize grownCap w s.size 0 5 = cap at hcv hcb hcm
  have HU1 := hid (Und.mk hb)
  have HC := hid hcell
  have HFR := hid hfr
  have HB := hid (show w.heap.size < w1.heap.size by omega)
  haveI : LtW w.heap.size w1 := LtW.of HB.out
  clear hb hcell hfr hsz
  have back : ∀ (W : World) (xs : List Int), xs.length = s.size → (∀ i, i < s.size → W.cell? ⟨w.heap.size, i, none⟩ = some (.int .u8 (xs.getD i 0))) → (convert 52 9 (.slice (some ⟨w.heap.size, 0, none⟩) s.size cap)).run Tryd.prog W = .ok (.string (strOfNums xs)) W := by
    intro W xs hl hc
    exact run_convert_bytes_arg W 52 5 Tryd.underlying52 Tryd.underlying5 w.heap.size 0 s.size cap xs hl (fun i hi => by rw [Nat.zero_add]; exact hc i hi) _ Tryd.underlying9
  have BACK := hid back
  clear back
  by_cases h0 : 0 < s.size
  · have z : (0 : Int) < s.size := by omega
    have hpl := hid (place_any at' s.size w1 (by omega) (by omega))
    have a1 := Int.emod_nonneg at' (show (s.size : Int) ≠ 0 by omega)
    have b1 := Int.emod_lt_of_pos at' z
    generalize at' % (s.size : Int) = p1 at hpl a1 b1
    obtain ⟨p, rfl⟩ : ∃ k : Nat, p1 = k := ⟨p1.toNat, by omega⟩
    have hp : p < s.size := by omega
    have g0 := HC.out p hp
    have f0 := HFR.out p hp
    have hbk := BACK.out (w1.setCell ⟨w.heap.size, p, none⟩ (.int .u8 by')) (((List.range s.size).map fun j => if j = p then by' else ((s.data.toList.getD j 0).toNat : Int))) (by simp) (fun i hi => by
      rw [show (((List.range s.size).map fun j => if j = p then by' else ((s.data.toList.getD j 0).toNat : Int))).getD i 0 = if i = p then by' else ((s.data.toList.getD i 0).toNat : Int) by simp [List.getD, hi]]
      by_cases hip : i = p
      · subst hip; rw [if_pos rfl]; go_simp
      · rw [if_neg hip]
        have := HC.out i hi
        rw [← this]
        exact World.cell?_setCell_other w1 ⟨w.heap.size, p, none⟩ ⟨w.heap.size, i, none⟩ _ (fun (e : (⟨w.heap.size, p, none⟩ : Addr) = ⟨w.heap.size, i, none⟩) => hip (by injection e with _ h; exact h.symm)))
    clear h0
    go_enter Tryd.func14, Tryd.ntmps14
    go_wp2_with fail
    refine hpl.out.mono ?_
    rintro e w' ⟨rfl, rfl⟩
    go_wp2
    go_ret
    refine ⟨_, rfl, ?_, HU1.out.setCell (p := ⟨w.heap.size, p, none⟩) (Nat.le_refl _) _⟩
    rw [strOfNums_size]; simp
  · have z : ¬ (0 : Int) < s.size := by omega
    have h00 : s.size = 0 := by omega
    have hbk := BACK.out w1 [] (by simp [h00]) (fun i hi => by omega)
    have HZ := hid h00
    clear h0 h00
    go_enter Tryd.func14, Tryd.ntmps14
    go_wp2
    go_ret
    exact ⟨_, rfl, by rw [HZ.out]; rfl, HU1.out⟩
end Go.Proofs.YtofhaokbklfmmaaDoor

namespace Go.Proofs.YtofhaokbklfmmaaDoor
open Go.RowKit

def hdrL (col : Nat) : List UInt8 := if col = 0 then [116, 101, 120, 116] else if col = 1 then [105, 100, 44, 116, 101, 120, 116] else [34, 97, 44, 98, 34, 44, 116, 101, 120, 116, 44, 99]
def preL (col : Nat) : List UInt8 := if col = 0 then [] else if col = 1 then [55, 44] else [120, 44]
def postL (col : Nat) : List UInt8 := if col = 0 then [] else if col = 1 then [] else [44, 34, 121, 34]
def preC (col : Nat) : ByteArray := ⟨(preL col).toArray⟩
def postC (col : Nat) : ByteArray := ⟨(postL col).toArray⟩
theorem pre_sz (col : Nat) : (preC col).size ≤ 2 := by unfold preC preL; split; decide; split <;> decide
theorem post_sz (col : Nat) : (postC col).size ≤ 4 := by unfold postC postL; split; decide; split <;> decide
def recD (col : Nat) (x : List St.It × ByteArray) : List UInt8 := [10] ++ preL col ++ [34] ++ x.2.data.toList ++ [34] ++ postL col
/-- A fragment and a raw content of it. -/
def UnitOf (fmt : Int) (x : List St.It × ByteArray) : Prop := GoodF x.1 ∧ x.1.length ≤ 5 ∧ tot x.1 ≤ 90 ∧ RawsOf fmt x.1 x.2
/-- What Data gives at a sheet. -/
def DataOf9 (n : Nat) (data : ByteArray) : Prop := ∃ (col : Nat) (rs : List (List St.It × ByteArray)), col < 3 ∧ rs.length ≤ n ∧ (∀ x ∈ rs, UnitOf 3 x) ∧ data.data.toList = hdrL col ++ rs.flatMap (recD col)
def DaRel (w : World) (B g P n col : Nat) (s7 s9 : Value) (wr : World) : Prop :=
  ∃ (i k : Nat) (data : ByteArray) (rs : List (List St.It × ByteArray)), s7 = .string data ∧ s9 = .int .i64 i ∧ k + i ≤ n ∧ data.data.toList = hdrL col ++ rs.flatMap (recD col) ∧ rs.length = k ∧ (∀ x ∈ rs, UnitOf 3 x) ∧ data.size ≤ 12 + 4000 * k ∧ GenP wr B g (P + 2 + 300 * k) ∧ w.grownBy wr (some g)
def daF (data raw : ByteArray) (col : Nat) : List Fact := [
  fun v _ => v = .string data,
  fun v W => ∃ b, v = .slice (some ⟨b, 0, none⟩) 3 3 ∧ b < W.heap.size ∧ ∀ r, r < 3 → W.cell? ⟨b, r, none⟩ = some (.string (preC r)),
  fun v _ => v = .int .i64 col,
  fun v W => ∃ b, v = .pointer (some ⟨b, col, none⟩) ∧ b < W.heap.size ∧ W.cell? ⟨b, col, none⟩ = some (.string (preC col)),
  fun v _ => v = .string (preC col),
  fun v _ => v = .string ((⟨#[10]⟩ : ByteArray) ++ preC col),
  fun v _ => v = .string ((⟨#[10]⟩ : ByteArray) ++ preC col ++ (⟨#[34]⟩ : ByteArray)),
  fun v _ => v = .string raw,
  fun v _ => v = .string ((⟨#[10]⟩ : ByteArray) ++ preC col ++ (⟨#[34]⟩ : ByteArray) ++ raw),
  fun v _ => v = .string ((⟨#[10]⟩ : ByteArray) ++ preC col ++ (⟨#[34]⟩ : ByteArray) ++ raw ++ (⟨#[34]⟩ : ByteArray)),
  fun v W => ∃ b, v = .slice (some ⟨b, 0, none⟩) 3 3 ∧ b < W.heap.size ∧ ∀ r, r < 3 → W.cell? ⟨b, r, none⟩ = some (.string (postC r)),
  fun v _ => v = .int .i64 col,
  fun v W => ∃ b, v = .pointer (some ⟨b, col, none⟩) ∧ b < W.heap.size ∧ W.cell? ⟨b, col, none⟩ = some (.string (postC col)),
  fun v _ => v = .string (postC col),
  fun v _ => v = .string ((⟨#[10]⟩ : ByteArray) ++ preC col ++ (⟨#[34]⟩ : ByteArray) ++ raw ++ (⟨#[34]⟩ : ByteArray) ++ postC col),
  fun v _ => v = .string (data ++ ((⟨#[10]⟩ : ByteArray) ++ preC col ++ (⟨#[34]⟩ : ByteArray) ++ raw ++ (⟨#[34]⟩ : ByteArray) ++ postC col)),
  fun v _ => v = .string (data ++ ((⟨#[10]⟩ : ByteArray) ++ preC col ++ (⟨#[34]⟩ : ByteArray) ++ raw ++ (⟨#[34]⟩ : ByteArray) ++ postC col))]

set_option maxRecDepth 20000 in
set_option maxHeartbeats 12800000 in
theorem data9_gen (B g P n : Nat) (w : World) (hG : GenP w B g P) (hP : P ≤ 10000) (hn : n ≤ 10) :
    Calls Tryd.prog 13 #[.pointer (some ⟨g, 0, none⟩), .int .i64 3, .int .i64 n] w fun e w' => ∃ data : ByteArray, e = .returned (.string data) ∧ DataOf9 n data ∧ data.size ≤ 12 + 4000 * n ∧ GenP w' B g (P + 2 + 300 * n) ∧ w.grownBy w' (some g) := by
  have HG := hid hG
  obtain ⟨hgB, hB⟩ := hG.lt
  clear hG
  go_enter Tryd.func13, Tryd.ntmps13
  go_wp2_with fail
  refine (next_gen B g P 3 _ (HG.out.und ((Und.refl _).alloc (.cells #[.string ⟨#[116, 101, 120, 116]⟩, .string ⟨#[105, 100, 44, 116, 101, 120, 116]⟩, .string ⟨#[34, 97, 44, 98, 34, 44, 116, 101, 120, 116, 44, 99]⟩] 9))) (by omega) (by omega) (by omega)).mono ?_
  rintro e w2 ⟨r, rfl, hr, hG2, hk2⟩
  obtain ⟨hb, hhb, hhs, hhq⟩ : ∃ hb : ByteArray, (#[.string ⟨#[116, 101, 120, 116]⟩, .string ⟨#[105, 100, 44, 116, 101, 120, 116]⟩, .string ⟨#[34, 97, 44, 98, 34, 44, 116, 101, 120, 116, 44, 99]⟩] : Array Value)[r]? = some (.string hb) ∧ hb.data.toList = hdrL r ∧ ((hb.size : Int) / 6 = r) := by
    rcases (show r = 0 ∨ r = 1 ∨ r = 2 by omega) with h | h | h <;> subst h <;> exact ⟨_, rfl, rfl, rfl⟩
  have hhz : hb.size ≤ 12 := by
    rw [← St.len_list, hhs]; unfold hdrL; split; decide; split <;> decide
  have hcell := lit_cell w w2 _ _ B g hk2 hgB hB r _ hhb
  have HG2 := hid hG2
  have HK2 := hid (gb_trans (((Und.refl w).alloc _).gb (some g)) hk2 (fun _ e => .inl e))
  have hsz2 := HK2.out.size
  haveI : LtW w.heap.size w2 := LtW.of (World.block_lt_of_cell? _ _ hcell)
  have hr3 : r < 3 := by omega
  obtain ⟨col, hcol⟩ : ∃ col, col = r := ⟨_, rfl⟩
  clear hG2 hk2 HG hhb
  go_wp2_with fail
  refine (next_gen B g _ ((n : Int) + 1) _ HG2.out (by omega) (by omega) (by omega)).mono ?_
  rintro e w3 ⟨m, rfl, hm, hG3, hk3⟩
  have HG3 := hid hG3
  have HK3 := hid (gb_trans HK2.out hk3 (fun _ e => .inl e))
  clear hG3 hk3 HG2 HK2 hcell
  rw [← hcol] at hhs hr3 ⊢
  clear hcol hr
  go_wp2_with fail
  go_loopw [7, 9] (fun s7 s9 wr => DaRel w B g P n col s7 s9 wr) (fun _ s9 _ => (intOf s9).toNat)
  case atStart => exact ⟨m, 0, hb, [], rfl, rfl, by omega, by simp [hhs], rfl, (fun x hx => by cases hx), by omega, HG3.out.le (by omega), HK3.out⟩
  case round =>
    clear HG3 HK3
    obtain ⟨i, k, data, rs, rfl, rfl, hki, hdt, hrl, hrs, hds, hG, hk⟩ := hrel
    have HG := hid hG
    have HK := hid hk
    have HDT := hid hdt
    have HRL := hid hrl
    have HRS := hid hrs
    have hszr := hk.size
    clear hG hk hdt hrl hrs
    by_cases hi : 0 < i
    · have z : (0 : Int) < (i : Int) := by omega
      go_wp2_with fail
      refine (frag_gen B g _ 5 _ HG.out (by omega) (by omega)).mono ?_
      rintro e w4 ⟨v, f, rfl, ho, hgd, hfl, hft, hG4, hk4⟩
      obtain ⟨A4, c4, rfl, h41, h42, _⟩ := own_slice' ho
      have HG4 := hid hG4
      have HK4 := hid (gb_trans HK.out hk4 (fun _ e => .inl e))
      have hit := items_own ho rfl
      have hbl := fun b off (e : A4 = some ⟨b, off, none⟩) => owns_block ho b (by subst e; rfl)
      have HIT := hid hit
      have HGD := hid hgd
      clear hG4 hk4 ho hit hgd HG HK
      go_wp2_with fail
      refine (raws_gen 3 long_sheet B g _ A4 f.length c4 f _ HG4.out (by omega) rfl h41 (by unfold maxLen at h42; omega) HIT.out (fun b off e => by have := hbl b off e; omega) (by omega) (by omega) HGD.out).mono ?_
      rintro e w5 ⟨raw, rfl, hR, hrz, hG5, hk5⟩
      have HG5 := hid hG5
      have HU5 := hid (gb_trans HK4.out hk5 (fun _ e => .inl e))
      have HF2 := hid (show GoodF f ∧ f.length ≤ 5 ∧ tot f ≤ 90 ∧ RawsOf 3 f raw from ⟨HGD.out, hfl, by omega, hR⟩)
      clear hG5 hk5 HG4 HK4 hR HIT HGD hbl
      go_wp2_with fail
      refine wp_region_facts (fun a b => Und a b) (fun _ _ => True) (daF data raw col) Und.refl (fun a b c h k => Und.trans h k) (by kernel_rfl) (by rfl) (by kernel_rfl) (by kernel_rfl) ?frD ?hfr ?hI ?hob ?hend
      case hfr =>
        intro ρ
        simp only [putAll, Act.put, List.setIfInBounds_toArray, List.set_cons_succ, List.set_cons_zero, Nat.zero_add, Nat.reduceAdd]
        exact rfl
      case hI => trivial
      case hob =>
        unfold daF
        refine ObsF.cons (fun ρ L W hR hI hL hD hO hF K hK => ?_) ?_
        · skip
          have eo : ρ 16 = .string data := hO 16 _ 7 rfl rfl (hD.not (p := 16) rfl (by decide) hL)
          clear hF hD hO hI hL hR
          simp only [Act.put, List.setIfInBounds_toArray, List.set_cons_succ, List.set_cons_zero] at hK ⊢
          rw [eo] at hK ⊢
          go_simp
          refine hK _ _ (Und.refl _) trivial (fun W2 h2 => ?_)
          rfl
        refine ObsF.cons (fun ρ L W hR hI hL hD hO hF K hK => ?_) ?_
        · skip
          clear hF hD hO hI hL hR
          simp only [Act.put, List.setIfInBounds_toArray, List.set_cons_succ, List.set_cons_zero] at hK ⊢
          go_simp
          refine hK _ _ ((Und.refl W).alloc _) trivial (fun W2 h2 => ⟨W.heap.size, rfl, by have := h2.size; simp at this; omega, fun r hr => ?_⟩)
          rw [h2.cell (p := ⟨W.heap.size, r, none⟩) (by simp), World.cell?_alloc_at _ _ _ _ rfl]
          rcases (show r = 0 ∨ r = 1 ∨ r = 2 by omega) with h | h | h <;> subst h <;> rfl
        refine ObsF.cons (fun ρ L W hR hI hL hD hO hF K hK => ?_) ?_
        · skip
          clear hF hD hO hI hL hR
          simp only [Act.put, List.setIfInBounds_toArray, List.set_cons_succ, List.set_cons_zero] at hK ⊢
          go_simp
          refine hK _ _ (Und.refl _) trivial (fun W2 h2 => ?_)
          rfl
        refine ObsF.cons (fun ρ L W hR hI hL hD hO hF K hK => ?_) ?_
        · skip
          have f1 := allF_get hF (j := 1) (by decide)
          have f2 := allF_get hF (j := 2) (by decide)
          clear hF hD hO hI hL hR
          simp only [Act.put, List.setIfInBounds_toArray, List.set_cons_succ, List.set_cons_zero] at hK ⊢
          obtain ⟨b, e0, hb2, hc⟩ := f1
          have e2 : ρ 2 = .int .i64 col := f2
          rw [e0, e2] at hK ⊢
          have hix : col < 3 := by omega
          have z1 : ((col : Nat) : Int) < 3 := by omega
          haveI : LtW b W := LtW.of hb2
          go_simp
          refine hK _ _ (Und.refl _) trivial (fun W2 h2 => ?_)
          exact ⟨b, rfl, Nat.lt_of_lt_of_le hb2 h2.size, (h2.cell hb2).trans (hc _ hix)⟩
        refine ObsF.cons (fun ρ L W hR hI hL hD hO hF K hK => ?_) ?_
        · skip
          have f3 := allF_get hF (j := 3) (by decide)
          clear hF hD hO hI hL hR
          simp only [Act.put, List.setIfInBounds_toArray, List.set_cons_succ, List.set_cons_zero] at hK ⊢
          obtain ⟨b, e3, hb2, hc⟩ := f3
          rw [e3] at hK ⊢
          go_simp
          refine hK _ _ (Und.refl _) trivial (fun W2 h2 => ?_)
          rfl
        refine ObsF.cons (fun ρ L W hR hI hL hD hO hF K hK => ?_) ?_
        · skip
          have f4 := allF_get hF (j := 4) (by decide)
          clear hF hD hO hI hL hR
          simp only [Act.put, List.setIfInBounds_toArray, List.set_cons_succ, List.set_cons_zero] at hK ⊢
          have e4 : ρ 4 = .string (preC col) := f4
          rw [e4] at hK ⊢
          have h1 := pre_sz col
          have h2 := post_sz col
          have y1 : ¬ 9223372036854775807 < 1 + (preC col).size := by omega
          go_simp
          refine hK _ _ (Und.refl _) trivial (fun W2 h2 => ?_)
          rfl
        refine ObsF.cons (fun ρ L W hR hI hL hD hO hF K hK => ?_) ?_
        · skip
          have f5 := allF_get hF (j := 5) (by decide)
          clear hF hD hO hI hL hR
          simp only [Act.put, List.setIfInBounds_toArray, List.set_cons_succ, List.set_cons_zero] at hK ⊢
          have e5 : ρ 5 = .string ((⟨#[10]⟩ : ByteArray) ++ preC col) := f5
          rw [e5] at hK ⊢
          have h1 := pre_sz col
          have h2 := post_sz col
          have y1 : ¬ 9223372036854775807 < 1 + (preC col).size + 1 := by omega
          go_simp
          refine hK _ _ (Und.refl _) trivial (fun W2 h2 => ?_)
          rfl
        refine ObsF.cons (fun ρ L W hR hI hL hD hO hF K hK => ?_) ?_
        · skip
          clear hF hD hO hI hL hR
          simp only [Act.put, List.setIfInBounds_toArray, List.set_cons_succ, List.set_cons_zero] at hK ⊢
          go_simp
          refine hK _ _ (Und.refl _) trivial (fun W2 h2 => ?_)
          rfl
        refine ObsF.cons (fun ρ L W hR hI hL hD hO hF K hK => ?_) ?_
        · skip
          have f6 := allF_get hF (j := 6) (by decide)
          have f7 := allF_get hF (j := 7) (by decide)
          clear hF hD hO hI hL hR
          simp only [Act.put, List.setIfInBounds_toArray, List.set_cons_succ, List.set_cons_zero] at hK ⊢
          have e6 : ρ 6 = .string ((⟨#[10]⟩ : ByteArray) ++ preC col ++ (⟨#[34]⟩ : ByteArray)) := f6
          have e7 : ρ 7 = .string raw := f7
          rw [e6, e7] at hK ⊢
          have h1 := pre_sz col
          have h2 := post_sz col
          have y1 : ¬ 9223372036854775807 < 1 + (preC col).size + 1 + raw.size := by omega
          go_simp
          refine hK _ _ (Und.refl _) trivial (fun W2 h2 => ?_)
          rfl
        refine ObsF.cons (fun ρ L W hR hI hL hD hO hF K hK => ?_) ?_
        · skip
          have f8 := allF_get hF (j := 8) (by decide)
          clear hF hD hO hI hL hR
          simp only [Act.put, List.setIfInBounds_toArray, List.set_cons_succ, List.set_cons_zero] at hK ⊢
          have e8 : ρ 8 = .string ((⟨#[10]⟩ : ByteArray) ++ preC col ++ (⟨#[34]⟩ : ByteArray) ++ raw) := f8
          rw [e8] at hK ⊢
          have h1 := pre_sz col
          have h2 := post_sz col
          have y1 : ¬ 9223372036854775807 < 1 + (preC col).size + 1 + raw.size + 1 := by omega
          go_simp
          refine hK _ _ (Und.refl _) trivial (fun W2 h2 => ?_)
          rfl
        refine ObsF.cons (fun ρ L W hR hI hL hD hO hF K hK => ?_) ?_
        · skip
          clear hF hD hO hI hL hR
          simp only [Act.put, List.setIfInBounds_toArray, List.set_cons_succ, List.set_cons_zero] at hK ⊢
          go_simp
          refine hK _ _ ((Und.refl W).alloc _) trivial (fun W2 h2 => ⟨W.heap.size, rfl, by have := h2.size; simp at this; omega, fun r hr => ?_⟩)
          rw [h2.cell (p := ⟨W.heap.size, r, none⟩) (by simp), World.cell?_alloc_at _ _ _ _ rfl]
          rcases (show r = 0 ∨ r = 1 ∨ r = 2 by omega) with h | h | h <;> subst h <;> rfl
        refine ObsF.cons (fun ρ L W hR hI hL hD hO hF K hK => ?_) ?_
        · skip
          clear hF hD hO hI hL hR
          simp only [Act.put, List.setIfInBounds_toArray, List.set_cons_succ, List.set_cons_zero] at hK ⊢
          go_simp
          refine hK _ _ (Und.refl _) trivial (fun W2 h2 => ?_)
          rfl
        refine ObsF.cons (fun ρ L W hR hI hL hD hO hF K hK => ?_) ?_
        · skip
          have f10 := allF_get hF (j := 10) (by decide)
          have f11 := allF_get hF (j := 11) (by decide)
          clear hF hD hO hI hL hR
          simp only [Act.put, List.setIfInBounds_toArray, List.set_cons_succ, List.set_cons_zero] at hK ⊢
          obtain ⟨b, e0, hb2, hc⟩ := f10
          have e2 : ρ 11 = .int .i64 col := f11
          rw [e0, e2] at hK ⊢
          have hix : col < 3 := by omega
          have z1 : ((col : Nat) : Int) < 3 := by omega
          haveI : LtW b W := LtW.of hb2
          go_simp
          refine hK _ _ (Und.refl _) trivial (fun W2 h2 => ?_)
          exact ⟨b, rfl, Nat.lt_of_lt_of_le hb2 h2.size, (h2.cell hb2).trans (hc _ hix)⟩
        refine ObsF.cons (fun ρ L W hR hI hL hD hO hF K hK => ?_) ?_
        · skip
          have f12 := allF_get hF (j := 12) (by decide)
          clear hF hD hO hI hL hR
          simp only [Act.put, List.setIfInBounds_toArray, List.set_cons_succ, List.set_cons_zero] at hK ⊢
          obtain ⟨b, e3, hb2, hc⟩ := f12
          rw [e3] at hK ⊢
          go_simp
          refine hK _ _ (Und.refl _) trivial (fun W2 h2 => ?_)
          rfl
        refine ObsF.cons (fun ρ L W hR hI hL hD hO hF K hK => ?_) ?_
        · skip
          have f9 := allF_get hF (j := 9) (by decide)
          have f13 := allF_get hF (j := 13) (by decide)
          clear hF hD hO hI hL hR
          simp only [Act.put, List.setIfInBounds_toArray, List.set_cons_succ, List.set_cons_zero] at hK ⊢
          have e9 : ρ 9 = .string ((⟨#[10]⟩ : ByteArray) ++ preC col ++ (⟨#[34]⟩ : ByteArray) ++ raw ++ (⟨#[34]⟩ : ByteArray)) := f9
          have e13 : ρ 13 = .string (postC col) := f13
          rw [e9, e13] at hK ⊢
          have h1 := pre_sz col
          have h2 := post_sz col
          have y1 : ¬ 9223372036854775807 < 1 + (preC col).size + 1 + raw.size + 1 + (postC col).size := by omega
          go_simp
          refine hK _ _ (Und.refl _) trivial (fun W2 h2 => ?_)
          rfl
        refine ObsF.cons (fun ρ L W hR hI hL hD hO hF K hK => ?_) ?_
        · skip
          have f0 := allF_get hF (j := 0) (by decide)
          have f14 := allF_get hF (j := 14) (by decide)
          clear hF hD hO hI hL hR
          simp only [Act.put, List.setIfInBounds_toArray, List.set_cons_succ, List.set_cons_zero] at hK ⊢
          have e0 : ρ 0 = .string data := f0
          have e14 : ρ 14 = .string ((⟨#[10]⟩ : ByteArray) ++ preC col ++ (⟨#[34]⟩ : ByteArray) ++ raw ++ (⟨#[34]⟩ : ByteArray) ++ postC col) := f14
          rw [e0, e14] at hK ⊢
          have h1 := pre_sz col
          have h2 := post_sz col
          have y1 : ¬ 9223372036854775807 < data.size + (1 + (preC col).size + 1 + raw.size + 1 + (postC col).size) := by omega
          go_simp
          refine hK _ _ (Und.refl _) trivial (fun W2 h2 => ?_)
          rfl
        refine ObsF.cons (fun ρ L W hR hI hL hD hO hF K hK => ?_) ?_
        · skip
          have f15 := allF_get hF (j := 15) (by decide)
          clear hF hD hO hI hL hR
          simp only [Act.put, List.setIfInBounds_toArray, List.set_cons_succ, List.set_cons_zero] at hK ⊢
          have e15 : ρ 15 = .string (data ++ ((⟨#[10]⟩ : ByteArray) ++ preC col ++ (⟨#[34]⟩ : ByteArray) ++ raw ++ (⟨#[34]⟩ : ByteArray) ++ postC col)) := f15
          rw [e15] at hK ⊢
          go_simp
          refine hK _ _ (Und.refl _) trivial (fun W2 h2 => ?_)
          rfl
        exact ObsF.nil
      case hend =>
        intro ρ L W hR hI hL hF
        obtain ⟨_, _, _, _, _, _, _, _, _, _, _, _, _, _, _, _,  e16, _⟩ := hF
        have e16 : ρ 16 = .string (data ++ ((⟨#[10]⟩ : ByteArray) ++ preC col ++ (⟨#[34]⟩ : ByteArray) ++ raw ++ (⟨#[34]⟩ : ByteArray) ++ postC col)) := e16
        clear hI hL
        rw [e16]
        have hu6 := hid (gb_und HU5.out ((Und.refl _).drew.trans hR))
        have hG6 := hid (HG5.out.und ((Und.refl _).drew.trans hR))
        clear hR e16
        go_wp2
        refine ⟨⟨i - 1, k + 1, _, rs ++ [(f, raw)], rfl, congrArg (Value.int .i64) (by omega), by omega, ?_, ?_, ?_, ?_, hG6.out.le (by omega), hu6.out⟩, by simp [intOf]; omega⟩
        · rw [List.flatMap_append, ← List.append_assoc, ← HDT.out]; simp [recD, preC, postC]
        · simp [HRL.out]
        · intro x hx
          rcases List.mem_append.1 hx with hx | hx
          · exact HRS.out x hx
          · simp at hx; subst hx; exact ⟨HF2.out.1, HF2.out.2.1, HF2.out.2.2.1, HF2.out.2.2.2⟩
        · have h1 := pre_sz col
          have h2 := post_sz col
          simp only [ByteArray.size_append]
          show _ + (1 + _ + 1 + _ + 1 + _) ≤ _
          omega
    · have z : ¬ (0 : Int) < (i : Int) := by omega
      go_wp2
      go_ret
      exact ⟨data, rfl, ⟨col, rs, hr3, by rw [HRL.out]; omega, HRS.out, HDT.out⟩, by omega, HG.out.le (by omega), HK.out⟩
end Go.Proofs.YtofhaokbklfmmaaDoor

namespace Go.Proofs.YtofhaokbklfmmaaDoor
open Go.RowKit

namespace St
theorem nameHd {t : List UInt8} (h : isNameL t = true) : ∃ c r, t = c :: r ∧ c.toNat ≠ 123 := by
  cases t with
  | nil => cases h
  | cons c r =>
    rw [isNameL] at h
    simp only [Bool.and_eq_true, decide_eq_true_eq, lowC] at h
    exact ⟨c, r, rfl, by omega⟩
theorem name_all {t : List UInt8} (h : isNameL t = true) : ∀ c ∈ t, c.toNat ≠ 125 := by
  cases t with
  | nil => cases h
  | cons c r =>
    rw [isNameL] at h
    simp only [Bool.and_eq_true, decide_eq_true_eq, lowC] at h
    obtain ⟨_, h1, h2⟩ := h
    intro d hd
    rcases List.mem_cons.1 hd with rfl | hd
    · omega
    · have := List.all_eq_true.1 h2 d hd
      simp only [nameC, decide_eq_true_eq] at this
      omega
theorem slot_enc {t : List UInt8} (h : isNameL t = true) (rest : List UInt8) : slotL (123 :: (t ++ 125 :: rest)) = some (t, t.length + 2) := by
  have htw : (t ++ 125 :: rest).takeWhile (fun c => decide (c.toNat ≠ 125)) = t := by
    rw [List.takeWhile_append_of_pos (fun c hc => by simpa using name_all h c hc), List.takeWhile_cons_of_neg (by decide), List.append_nil]
  unfold slotL
  simp only [List.drop_succ_cons, List.drop_zero, htw]
  rw [h, decide_eq_true (by simp)]
  rfl
theorem sheet_elen' : ElLen sheetL := fun _ _ _ _ h => let ⟨_, h1, h2⟩ := sheet_len h; ⟨h1, h2⟩
theorem sheet_piece {p : It} (h : Pos1 p) : Piece sheetL (encI 3 p) p := by
  rcases h with ⟨c, rfl⟩ | ⟨t, rfl, ht⟩
  · have e : encI 3 (1, [c], 0) = encB 3 c := by simp [encI]
    rw [e]
    by_cases h34 : c.toNat = 34
    · have e2 : encB 3 c = [c, c] := by unfold encB; simp [h34]
      rw [e2]
      refine piece_of sheet_elen' (by simp) (by decide) (fun rest => ?_)
      show sheetL (c :: c :: rest) = some (1, [c], 2)
      rw [sheet_34 h34]
      have hc : c = 34 := by apply UInt8.toNat_inj.1; simpa using h34
      subst hc; rfl
    · by_cases h123 : c.toNat = 123
      · have e2 : encB 3 c = [c, c] := by unfold encB; simp [h123]
        rw [e2]
        refine piece_of sheet_elen' (by simp) (by decide) (fun rest => ?_)
        show sheetL (c :: c :: rest) = some (1, [c], 2)
        rw [sheet_123 h123]
        have hc : c = 123 := by apply UInt8.toNat_inj.1; simpa using h123
        subst hc; rfl
      · have e2 : encB 3 c = [c] := by unfold encB; simp [h34, h123]
        rw [e2]
        refine piece_of sheet_elen' (by simp) (by decide) (fun rest => ?_)
        exact sheet_else h34 h123
  · have e : encI 3 (5, t, 0) = 123 :: (t ++ [125]) := by simp [encI]
    rw [e]
    refine piece_of sheet_elen' (by simp) (by decide) (fun rest => ?_)
    have e2 : 123 :: (t ++ [125]) ++ rest = 123 :: (t ++ 125 :: rest) := by simp
    rw [e2, sheet_123 (by decide)]
    obtain ⟨c, r, hc, hc2⟩ := nameHd ht
    have hp : ([123, 123] : List UInt8).isPrefixOf (123 :: (t ++ 125 :: rest)) = false := by
      rw [hc]
      simp only [List.cons_append, List.isPrefixOf]
      have : ((123 : UInt8) == c) = false := by
        refine Bool.eq_false_iff.2 fun e => hc2 ?_
        have := eq_of_beq e
        rw [← this]; rfl
      simp [this]
    rw [hp, slot_enc ht]
    simp
end St
/-- A raw content of pieces is read to its items. -/
theorem reads_pieces {E : List UInt8 → St.El} {fmt : Int} {f : List St.It} {raw : ByteArray} (hg : GoodF f) (hl : f.length ≤ 100) (ht : tot f ≤ 900) (hr : RawsOf fmt f raw) (hp : ∀ p b, St.Pos1 p → St.formB fmt p b → St.Piece E b p) :
    ∃ cuts, St.decF E raw.data.toList 0 0 [] [] = (f, cuts, 0, 0) ∧ cuts.length = St.lenL f + 1 := by
  obtain ⟨ps, h1, h2, h3⟩ := hr
  have hpos : ∀ p ∈ ps, St.Piece E p.1 p.2 := by
    intro p hpm
    have : p.2 ∈ St.posI f := by rw [← h2]; unfold St.itsP; exact List.mem_map.2 ⟨p, hpm, rfl⟩
    exact hp p.2 p.1 (good_pos hg _ this) (h3 p hpm)
  have hf : (St.itsP ps).foldl St.addI [] = f := by rw [h2]; exact St.pos_norm hg.1 (fun x hx => (hg.2 x hx).1)
  have hlen : ps.length = St.lenL f := by rw [← its_len, h2, St.pos_len]
  have hll := lenL_tot f
  have := St.decF_pieces ps [] 0 0 [] [] hpos (by rw [hf]; omega) (by simp; omega)
  rw [List.append_nil, ← h1, St.decF_nil, hf] at this
  exact ⟨_, this, by simp [St.offs_len, hlen]⟩
theorem sheetD_F' (x : ByteArray) : sheetD x = St.decF St.sheetL x.data.toList 0 0 [] [] := by unfold sheetD St.decF; rw [St.len_list]
theorem sheet_reads {f : List St.It} {raw : ByteArray} (hg : GoodF f) (hl : f.length ≤ 100) (ht : tot f ≤ 900) (hr : RawsOf 3 f raw) : ∃ cuts, sheetD raw = (f, cuts, 0, 0) ∧ cuts.length = St.lenL f + 1 := by
  rw [sheetD_F']
  refine reads_pieces hg hl ht hr fun p b hp hf => ?_
  rcases hf with rfl | ⟨h, _⟩ | ⟨h, _⟩
  · exact St.sheet_piece hp
  · exact absurd h (by decide)
  · exact absurd h (by decide)

set_option maxRecDepth 20000 in
set_option maxHeartbeats 6400000 in
theorem readslaw_any (A B : Option Addr) (n c m d : Nat) (zs ys : List Int) (w : World) (ht : Tab w) (hz : zs.length = n) (hn : n ≤ 9223372036854775807) (hI : IntsAt w A zs) (hy : ys.length = m) (hm : m ≤ 9223372036854775807) (hJ : IntsAt w B ys) :
    Calls Tryd.prog 3 #[.slice A n c, .slice B m d] w fun e w' => e = .returned (.bool true) ∧ Und w w' := by
  have HTB := hid ht
  have HRW := hid (raws_any A B n c m d zs ys w hz hn hI hy hm hJ)
  have HKN := hid (fun W (hW : Und w W) => sknown_any W (HTB.out.und hW))
  clear hI hJ ht
  by_cases q1 : 100 < n
  · have z1 : (100 : Int) < (n : Int) := by omega
    go_enter Tryd.func3, Tryd.ntmps3
    go_wp2_with fail
    refine (HKN.out _ (Und.refl _)).mono ?_
    rintro e w2 ⟨rfl, hu⟩
    have HU := hid hu
    clear hu
    go_wp2
    go_ret
    exact ⟨rfl, HU.out⟩
  · have z1 : ¬ (100 : Int) < (n : Int) := by omega
    by_cases q2 : 200 < m
    · have z2 : (200 : Int) < (m : Int) := by omega
      go_enter Tryd.func3, Tryd.ntmps3
      go_wp2_with fail
      refine (HKN.out _ (Und.refl _)).mono ?_
      rintro e w2 ⟨rfl, hu⟩
      have HU := hid hu
      clear hu
      go_wp2
      go_ret
      exact ⟨rfl, HU.out⟩
    · have z2 : ¬ (200 : Int) < (m : Int) := by omega
      go_enter Tryd.func3, Tryd.ntmps3
      go_wp2_with fail
      refine HRW.out.mono ?_
      rintro e w2 ⟨raw, A2, c2, f, rfl, hF, hR, hrs, hu⟩
      obtain ⟨cuts, hD, _⟩ := sheet_reads hF.2.1 (by have := hF.2.2.1; omega) (by have := hF.2.2.2.1; omega) hR
      have hdc := fun W => sdecode_any raw W (by omega)
      rw [hD] at hdc
      have HDC := hid hdc
      have HF := hid hF
      have HU := hid hu
      clear hF hR hu hD hdc HRW
      go_wp2_with fail
      refine (HDC.out _).mono ?_
      rintro e w3 ⟨A3, c3, rfl, hI3, h31, h32, hu3⟩
      have hs := fun W (hW : Und w3 W) => rsame_any A3 A2 f.length f.length c3 c2 f f W rfl rfl h31 HF.out.2.2.2.2.1 h32 HF.out.2.2.2.2.2.1 (hI3.und hW) ((HF.out.1.und hu3).und hW)
      rw [decide_eq_true rfl] at hs
      have HS := hid hs
      have HU3 := hid (HU.out.trans hu3)
      clear hs hI3 hu3 HDC HU
      simp only
      go_wp2_with fail
      refine (HS.out _ (Und.refl _)).mono ?_
      rintro e w4 ⟨rfl, hu4⟩
      have HU4 := hid (HU3.out.trans hu4)
      clear hu4 HS HU3
      go_wp2_with fail
      refine (HKN.out _ HU4.out).mono ?_
      rintro e w5 ⟨rfl, hu5⟩
      have HU5 := hid (HU4.out.trans hu5)
      clear hu5
      go_wp2
      go_ret
      exact ⟨rfl, HU5.out⟩

theorem ix3 (a b c : ByteArray) (W : World) : (Instr.index 37 (.agg #[.string a, .string b, .string c]) (.int .i64 0)).run Tryd.prog W = .ok (.string a) W ∧ (Instr.index 37 (.agg #[.string a, .string b, .string c]) (.int .i64 1)).run Tryd.prog W = .ok (.string b) W ∧ (Instr.index 37 (.agg #[.string a, .string b, .string c]) (.int .i64 2)).run Tryd.prog W = .ok (.string c) W := by
  exact ⟨by kernel_rfl, by kernel_rfl, by kernel_rfl⟩
def ByRel (w : World) (i : Value) (wr : World) : Prop := ∃ k : Nat, k ≤ 3 ∧ i = .int .i64 k ∧ Und w wr
set_option maxRecDepth 20000 in
set_option maxHeartbeats 12800000 in
theorem dcdlaw_any (s : ByteArray) (at' by' : Int) (A B : Option Addr) (n c m d : Nat) (zs ys : List Int) (w : World) (ht : Tab w) (hs : s.size ≤ 9223372036854775807) (hz : zs.length = n) (hn : n ≤ 9223372036854775807) (hI : IntsAt w A zs) (hy : ys.length = m) (hm : m ≤ 9223372036854775807) (hJ : IntsAt w B ys) :
    Calls Tryd.prog 8 #[.string s, .slice A n c, .slice B m d, .int .i64 at', .int .u8 by'] w fun e w' => e = .returned (.bool true) ∧ Und w w' := by
  have HTB := hid ht
  have HRW := hid (raws_any A B n c m d zs ys w hz hn hI hy hm hJ)
  have HKN := hid (fun W (hW : Und w W) => sknown_any W (HTB.out.und hW))
  clear hI hJ ht
  by_cases q0 : 300 < s.size
  · have z0 : (300 : Int) < (s.size : Int) := by omega
    go_enter Tryd.func8, Tryd.ntmps8
    go_wp2_with fail
    refine (HKN.out _ (Und.refl _)).mono ?_
    rintro e w2 ⟨rfl, hu⟩
    have HU := hid hu
    clear hu
    go_wp2
    go_ret
    exact ⟨rfl, HU.out⟩
  have z0 : ¬ (300 : Int) < (s.size : Int) := by omega
  by_cases q1 : 80 < n
  · have z1 : (80 : Int) < (n : Int) := by omega
    go_enter Tryd.func8, Tryd.ntmps8
    go_wp2_with fail
    refine (HKN.out _ (Und.refl _)).mono ?_
    rintro e w2 ⟨rfl, hu⟩
    have HU := hid hu
    clear hu
    go_wp2
    go_ret
    exact ⟨rfl, HU.out⟩
  have z1 : ¬ (80 : Int) < (n : Int) := by omega
  by_cases q2 : 200 < m
  · have z2 : (200 : Int) < (m : Int) := by omega
    go_enter Tryd.func8, Tryd.ntmps8
    go_wp2_with fail
    refine (HKN.out _ (Und.refl _)).mono ?_
    rintro e w2 ⟨rfl, hu⟩
    have HU := hid hu
    clear hu
    go_wp2
    go_ret
    exact ⟨rfl, HU.out⟩
  have z2 : ¬ (200 : Int) < (m : Int) := by omega
  go_enter Tryd.func8, Tryd.ntmps8
  go_wp2_with fail
  refine HRW.out.mono ?_
  rintro e w2 ⟨raw, A2, c2, f, rfl, hF, hR, hrs, hu⟩
  have HU := hid hu
  clear hF hR hu HRW
  go_wp2_with fail
  refine (changed_any raw at' by' w2 (by omega)).mono ?_
  rintro e w3 ⟨u, rfl, hus, hu3⟩
  have HU3 := hid (HU.out.trans hu3)
  clear hu3 HU
  go_wp2_with fail
  go_loopw [51] (fun i wr => ByRel w i wr) (fun i _ => 4 - (intOf i).toNat)
  case atStart => exact ⟨0, by omega, rfl, HU3.out⟩
  case round =>
    obtain ⟨k, hk, rfl, hu⟩ := hrel
    have HU := hid hu
    clear hu HU3
    obtain ⟨ia, ib, ic⟩ := ix3 s raw u wr
    rcases (show k = 0 ∨ k = 1 ∨ k = 2 ∨ k = 3 by omega) with rfl | rfl | rfl | rfl
    · have hx : s.size ≤ 10000 := by omega
      have HDC := hid (fun W => sdecode_any s W (by omega))
      have HCU := hid (fun W => scuts_any s W (by omega))
      have HRD := hid (fun W => rdecode_any 3 St.sheetL sheet_at sheet_ok s W (by omega))
      have hq : St.dec St.sheetL s.size s.data.toList 0 0 [] [] = sheetD s := rfl
      rw [hq] at HRD
      clear hq
      generalize sheetD s = R at HDC HCU HRD
      obtain ⟨f1, cu1, at1, er1⟩ := R
      go_wp2_with fail
      refine (HDC.out _).mono ?_
      rintro e w4 ⟨A3, c3, rfl, hI3, h31, h32, hu4⟩
      have HI3 := hid hI3
      have HU4 := hid (HU.out.trans hu4)
      clear hI3 hu4 HDC HU
      go_wp2_with fail
      refine (HCU.out _).mono ?_
      rintro e w5 ⟨A4, c4, rfl, hI4, h41, h42, hu5⟩
      have HI4 := hid hI4
      have HI3' := hid (HI3.out.und hu5)
      have HU5 := hid (HU4.out.trans hu5)
      clear hI4 hu5 HCU HU4 HI3
      go_wp2_with fail
      refine (HRD.out _).mono ?_
      rintro e w6 ⟨v1, v2, rfl, ho1, ho2, hu6⟩
      simp only at ho1 ho2 HI3' HI4 h31 h41 ⊢
      obtain ⟨A5, c5, rfl, h51, h52, _⟩ := own_slice' ho1
      obtain ⟨A6, c6, rfl, h61, h62, _⟩ := own_slice' ho2
      have hs := fun W (hW : Und w6 W) => rsame_any A3 A5 f1.length f1.length c3 c5 f1 f1 W rfl rfl h31 h51 h32 (by unfold maxLen at h52; omega) ((HI3'.out.und hu6).und hW) ((items_own ho1 rfl).und hW)
      rw [decide_eq_true rfl] at hs
      have hs2 := fun W (hW : Und w6 W) => sameInts_any A4 A6 cu1.length cu1.length c4 c6 cu1 cu1 W rfl rfl h41 h61 h42 (by unfold maxLen at h62; omega) ((HI4.out.und hu6).und hW) ((nats_own ho2 rfl).und hW)
      rw [decide_eq_true rfl] at hs2
      have HS := hid hs
      have HS2 := hid hs2
      have HU6 := hid (HU5.out.trans hu6)
      have v1 : (er1 == er1) = true := beq_self_eq_true _
      have v2 : ((at1 : Int) == (at1 : Int)) = true := beq_self_eq_true _
      clear hs hs2 ho1 ho2 hu6 HRD HU5 HI3' HI4
      go_wp2_with fail
      refine (HS.out _ (Und.refl _)).mono ?_
      rintro e w7 ⟨rfl, hu7⟩
      have HS3 := hid (HS2.out _ hu7)
      have HU7 := hid (HU6.out.trans hu7)
      clear hu7 HS HS2 HU6
      go_wp2_with fail
      refine HS3.out.mono ?_
      rintro e w8 ⟨rfl, hu8⟩
      have HU8 := hid (HU7.out.trans hu8)
      clear hu8 HS3 HU7
      go_wp2
      exact ⟨⟨1, by omega, rfl, HU8.out⟩, by simp [intOf]⟩
    · have hx : raw.size ≤ 10000 := by omega
      have HDC := hid (fun W => sdecode_any raw W (by omega))
      have HCU := hid (fun W => scuts_any raw W (by omega))
      have HRD := hid (fun W => rdecode_any 3 St.sheetL sheet_at sheet_ok raw W (by omega))
      have hq : St.dec St.sheetL raw.size raw.data.toList 0 0 [] [] = sheetD raw := rfl
      rw [hq] at HRD
      clear hq
      generalize sheetD raw = R at HDC HCU HRD
      obtain ⟨f1, cu1, at1, er1⟩ := R
      go_wp2_with fail
      refine (HDC.out _).mono ?_
      rintro e w4 ⟨A3, c3, rfl, hI3, h31, h32, hu4⟩
      have HI3 := hid hI3
      have HU4 := hid (HU.out.trans hu4)
      clear hI3 hu4 HDC HU
      go_wp2_with fail
      refine (HCU.out _).mono ?_
      rintro e w5 ⟨A4, c4, rfl, hI4, h41, h42, hu5⟩
      have HI4 := hid hI4
      have HI3' := hid (HI3.out.und hu5)
      have HU5 := hid (HU4.out.trans hu5)
      clear hI4 hu5 HCU HU4 HI3
      go_wp2_with fail
      refine (HRD.out _).mono ?_
      rintro e w6 ⟨v1, v2, rfl, ho1, ho2, hu6⟩
      simp only at ho1 ho2 HI3' HI4 h31 h41 ⊢
      obtain ⟨A5, c5, rfl, h51, h52, _⟩ := own_slice' ho1
      obtain ⟨A6, c6, rfl, h61, h62, _⟩ := own_slice' ho2
      have hs := fun W (hW : Und w6 W) => rsame_any A3 A5 f1.length f1.length c3 c5 f1 f1 W rfl rfl h31 h51 h32 (by unfold maxLen at h52; omega) ((HI3'.out.und hu6).und hW) ((items_own ho1 rfl).und hW)
      rw [decide_eq_true rfl] at hs
      have hs2 := fun W (hW : Und w6 W) => sameInts_any A4 A6 cu1.length cu1.length c4 c6 cu1 cu1 W rfl rfl h41 h61 h42 (by unfold maxLen at h62; omega) ((HI4.out.und hu6).und hW) ((nats_own ho2 rfl).und hW)
      rw [decide_eq_true rfl] at hs2
      have HS := hid hs
      have HS2 := hid hs2
      have HU6 := hid (HU5.out.trans hu6)
      have v1 : (er1 == er1) = true := beq_self_eq_true _
      have v2 : ((at1 : Int) == (at1 : Int)) = true := beq_self_eq_true _
      clear hs hs2 ho1 ho2 hu6 HRD HU5 HI3' HI4
      go_wp2_with fail
      refine (HS.out _ (Und.refl _)).mono ?_
      rintro e w7 ⟨rfl, hu7⟩
      have HS3 := hid (HS2.out _ hu7)
      have HU7 := hid (HU6.out.trans hu7)
      clear hu7 HS HS2 HU6
      go_wp2_with fail
      refine HS3.out.mono ?_
      rintro e w8 ⟨rfl, hu8⟩
      have HU8 := hid (HU7.out.trans hu8)
      clear hu8 HS3 HU7
      go_wp2
      exact ⟨⟨2, by omega, rfl, HU8.out⟩, by simp [intOf]⟩
    · have hx : u.size ≤ 10000 := by omega
      have HDC := hid (fun W => sdecode_any u W (by omega))
      have HCU := hid (fun W => scuts_any u W (by omega))
      have HRD := hid (fun W => rdecode_any 3 St.sheetL sheet_at sheet_ok u W (by omega))
      have hq : St.dec St.sheetL u.size u.data.toList 0 0 [] [] = sheetD u := rfl
      rw [hq] at HRD
      clear hq
      generalize sheetD u = R at HDC HCU HRD
      obtain ⟨f1, cu1, at1, er1⟩ := R
      go_wp2_with fail
      refine (HDC.out _).mono ?_
      rintro e w4 ⟨A3, c3, rfl, hI3, h31, h32, hu4⟩
      have HI3 := hid hI3
      have HU4 := hid (HU.out.trans hu4)
      clear hI3 hu4 HDC HU
      go_wp2_with fail
      refine (HCU.out _).mono ?_
      rintro e w5 ⟨A4, c4, rfl, hI4, h41, h42, hu5⟩
      have HI4 := hid hI4
      have HI3' := hid (HI3.out.und hu5)
      have HU5 := hid (HU4.out.trans hu5)
      clear hI4 hu5 HCU HU4 HI3
      go_wp2_with fail
      refine (HRD.out _).mono ?_
      rintro e w6 ⟨v1, v2, rfl, ho1, ho2, hu6⟩
      simp only at ho1 ho2 HI3' HI4 h31 h41 ⊢
      obtain ⟨A5, c5, rfl, h51, h52, _⟩ := own_slice' ho1
      obtain ⟨A6, c6, rfl, h61, h62, _⟩ := own_slice' ho2
      have hs := fun W (hW : Und w6 W) => rsame_any A3 A5 f1.length f1.length c3 c5 f1 f1 W rfl rfl h31 h51 h32 (by unfold maxLen at h52; omega) ((HI3'.out.und hu6).und hW) ((items_own ho1 rfl).und hW)
      rw [decide_eq_true rfl] at hs
      have hs2 := fun W (hW : Und w6 W) => sameInts_any A4 A6 cu1.length cu1.length c4 c6 cu1 cu1 W rfl rfl h41 h61 h42 (by unfold maxLen at h62; omega) ((HI4.out.und hu6).und hW) ((nats_own ho2 rfl).und hW)
      rw [decide_eq_true rfl] at hs2
      have HS := hid hs
      have HS2 := hid hs2
      have HU6 := hid (HU5.out.trans hu6)
      have v1 : (er1 == er1) = true := beq_self_eq_true _
      have v2 : ((at1 : Int) == (at1 : Int)) = true := beq_self_eq_true _
      clear hs hs2 ho1 ho2 hu6 HRD HU5 HI3' HI4
      go_wp2_with fail
      refine (HS.out _ (Und.refl _)).mono ?_
      rintro e w7 ⟨rfl, hu7⟩
      have HS3 := hid (HS2.out _ hu7)
      have HU7 := hid (HU6.out.trans hu7)
      clear hu7 HS HS2 HU6
      go_wp2_with fail
      refine HS3.out.mono ?_
      rintro e w8 ⟨rfl, hu8⟩
      have HU8 := hid (HU7.out.trans hu8)
      clear hu8 HS3 HU7
      go_wp2
      exact ⟨⟨3, by omega, rfl, HU8.out⟩, by simp [intOf]⟩
    · go_wp2_with fail
      refine (HKN.out _ HU.out).mono ?_
      rintro e w5 ⟨rfl, hu5⟩
      have HU5 := hid (HU.out.trans hu5)
      clear hu5
      go_wp2
      go_ret
      exact ⟨rfl, HU5.out⟩
end Go.Proofs.YtofhaokbklfmmaaDoor

namespace Go.Proofs.YtofhaokbklfmmaaDoor
open Go.RowKit

def BzRel (w : World) (m : Nat) (i : Value) (wr : World) : Prop := ∃ k : Nat, k ≤ m ∧ i = .int .i64 k ∧ Und w wr
/-- Data by a maker of the call's own. -/
theorem data9_own (A : Option Addr) (n c : Nat) (zs : List Int) (w : World) (hz : zs.length = n) (hn : n ≤ 9223372036854775807) (hI : IntsAt w A zs) (T : TypeId) :
    Calls Tryd.prog 13 #[.pointer (some ⟨w.heap.size, 0, none⟩), .int .i64 3, .int .i64 4] (w.alloc (.cells #[.slice A n c, .int .i64 0] T)) fun e w' => ∃ data : ByteArray, e = .returned (.string data) ∧ DataOf9 4 data ∧ data.size ≤ 16012 ∧ Und w w' := by
  refine (data9_gen (w.heap.size + 1) w.heap.size 0 4 _ (GenP.fresh hn hz hI) (by omega) (by omega)).mono ?_
  rintro e w2 ⟨data, rfl, hD, hs, _, hk⟩
  exact ⟨data, rfl, hD, by omega, ((Und.refl w).alloc _).of_gb hk (fun g e => by cases e; exact Nat.le_refl _)⟩

set_option maxRecDepth 20000 in
set_option maxHeartbeats 12800000 in
theorem spllaw_any (s : ByteArray) (at' by' : Int) (A : Option Addr) (n c : Nat) (zs : List Int) (w : World) (ht : Tab w) (hs : s.size ≤ 9223372036854775807) (hz : zs.length = n) (hn : n ≤ 9223372036854775807) (hI : IntsAt w A zs) :
    Calls Tryd.prog 4 #[.string s, .slice A n c, .int .i64 at', .int .u8 by'] w fun e w' => e = .returned (.bool true) ∧ Und w w' := by
  have HTB := hid ht
  have HKN := hid (fun W (hW : Und w W) => sknown_any W (HTB.out.und hW))
  have HDA := hid (data9_own A n c zs w hz hn hI 35)
  clear hI ht
  by_cases q0 : 400 < s.size
  · have z0 : (400 : Int) < (s.size : Int) := by omega
    go_enter Tryd.func4, Tryd.ntmps4
    go_wp2_with fail
    refine (HKN.out _ (Und.refl _)).mono ?_
    rintro e w2 ⟨rfl, hu⟩
    have HU := hid hu
    clear hu
    go_wp2
    go_ret
    exact ⟨rfl, HU.out⟩
  have z0 : ¬ (400 : Int) < (s.size : Int) := by omega
  by_cases q1 : 200 < n
  · have z1 : (200 : Int) < (n : Int) := by omega
    go_enter Tryd.func4, Tryd.ntmps4
    go_wp2_with fail
    refine (HKN.out _ (Und.refl _)).mono ?_
    rintro e w2 ⟨rfl, hu⟩
    have HU := hid hu
    clear hu
    go_wp2
    go_ret
    exact ⟨rfl, HU.out⟩
  have z1 : ¬ (200 : Int) < (n : Int) := by omega
  go_enter Tryd.func4, Tryd.ntmps4
  go_wp2_with fail
  refine HDA.out.mono ?_
  rintro e w2 ⟨raw, rfl, _, hrs, hu⟩
  have HU := hid hu
  clear hu HDA
  go_wp2_with fail
  refine (changed_any raw at' by' w2 (by omega)).mono ?_
  rintro e w3 ⟨u, rfl, hus, hu3⟩
  have HU3 := hid (HU.out.trans hu3)
  clear hu3 HU
  go_wp2_with fail
  go_loopw [38] (fun i wr => BzRel w 3 i wr) (fun i _ => 4 - (intOf i).toNat)
  case atStart => exact ⟨0, by omega, rfl, HU3.out⟩
  case round =>
    obtain ⟨k, hk, rfl, hu⟩ := hrel
    have HU := hid hu
    clear hu HU3
    obtain ⟨ia, ib, ic⟩ := ix3 s raw u wr
    rcases (show k = 0 ∨ k = 1 ∨ k = 2 ∨ k = 3 by omega) with rfl | rfl | rfl | rfl
    · have hx : s.size ≤ 100000 := by omega
      have HSP := hid (fun W (hW : Und w W) => ssplit_any s W (HTB.out.und hW) (by omega))
      have HRS := hid (fun W => rsplit_any s W (by omega))
      generalize sheetS s = R at HSP HRS
      obtain ⟨f1, at1, er1⟩ := R
      go_wp2_with fail
      refine (HSP.out _ HU.out).mono ?_
      rintro e w4 ⟨A3, c3, rfl, hI3, h31, h32, hu4⟩
      have HI3 := hid hI3
      have HU4 := hid (HU.out.trans hu4)
      clear hI3 hu4 HSP HU
      go_wp2_with fail
      refine (HRS.out _).mono ?_
      rintro e w5 ⟨A4, c4, rfl, hI4, h41, h42, hu5⟩
      simp only at hI4 h31 h41 ⊢
      have hs := fun W (hW : Und w5 W) => sameParts_any A3 A4 f1.length f1.length c3 c4 f1 f1 W rfl rfl h31 h41 h32 h42 ((HI3.out.und hu5).und hW) (hI4.und hW)
      rw [decide_eq_true rfl] at hs
      have HS := hid hs
      have HU5 := hid (HU4.out.trans hu5)
      have v1 : (er1 == er1) = true := beq_self_eq_true _
      have v2 : ((at1 : Int) == (at1 : Int)) = true := beq_self_eq_true _
      clear hs hI4 hu5 HRS HU4 HI3
      go_wp2_with fail
      refine (HS.out _ (Und.refl _)).mono ?_
      rintro e w7 ⟨rfl, hu7⟩
      have HU7 := hid (HU5.out.trans hu7)
      clear hu7 HS HU5
      go_wp2
      exact ⟨⟨1, by omega, rfl, HU7.out⟩, by simp [intOf]⟩
    · have hx : raw.size ≤ 100000 := by omega
      have HSP := hid (fun W (hW : Und w W) => ssplit_any raw W (HTB.out.und hW) (by omega))
      have HRS := hid (fun W => rsplit_any raw W (by omega))
      generalize sheetS raw = R at HSP HRS
      obtain ⟨f1, at1, er1⟩ := R
      go_wp2_with fail
      refine (HSP.out _ HU.out).mono ?_
      rintro e w4 ⟨A3, c3, rfl, hI3, h31, h32, hu4⟩
      have HI3 := hid hI3
      have HU4 := hid (HU.out.trans hu4)
      clear hI3 hu4 HSP HU
      go_wp2_with fail
      refine (HRS.out _).mono ?_
      rintro e w5 ⟨A4, c4, rfl, hI4, h41, h42, hu5⟩
      simp only at hI4 h31 h41 ⊢
      have hs := fun W (hW : Und w5 W) => sameParts_any A3 A4 f1.length f1.length c3 c4 f1 f1 W rfl rfl h31 h41 h32 h42 ((HI3.out.und hu5).und hW) (hI4.und hW)
      rw [decide_eq_true rfl] at hs
      have HS := hid hs
      have HU5 := hid (HU4.out.trans hu5)
      have v1 : (er1 == er1) = true := beq_self_eq_true _
      have v2 : ((at1 : Int) == (at1 : Int)) = true := beq_self_eq_true _
      clear hs hI4 hu5 HRS HU4 HI3
      go_wp2_with fail
      refine (HS.out _ (Und.refl _)).mono ?_
      rintro e w7 ⟨rfl, hu7⟩
      have HU7 := hid (HU5.out.trans hu7)
      clear hu7 HS HU5
      go_wp2
      exact ⟨⟨2, by omega, rfl, HU7.out⟩, by simp [intOf]⟩
    · have hx : u.size ≤ 100000 := by omega
      have HSP := hid (fun W (hW : Und w W) => ssplit_any u W (HTB.out.und hW) (by omega))
      have HRS := hid (fun W => rsplit_any u W (by omega))
      generalize sheetS u = R at HSP HRS
      obtain ⟨f1, at1, er1⟩ := R
      go_wp2_with fail
      refine (HSP.out _ HU.out).mono ?_
      rintro e w4 ⟨A3, c3, rfl, hI3, h31, h32, hu4⟩
      have HI3 := hid hI3
      have HU4 := hid (HU.out.trans hu4)
      clear hI3 hu4 HSP HU
      go_wp2_with fail
      refine (HRS.out _).mono ?_
      rintro e w5 ⟨A4, c4, rfl, hI4, h41, h42, hu5⟩
      simp only at hI4 h31 h41 ⊢
      have hs := fun W (hW : Und w5 W) => sameParts_any A3 A4 f1.length f1.length c3 c4 f1 f1 W rfl rfl h31 h41 h32 h42 ((HI3.out.und hu5).und hW) (hI4.und hW)
      rw [decide_eq_true rfl] at hs
      have HS := hid hs
      have HU5 := hid (HU4.out.trans hu5)
      have v1 : (er1 == er1) = true := beq_self_eq_true _
      have v2 : ((at1 : Int) == (at1 : Int)) = true := beq_self_eq_true _
      clear hs hI4 hu5 HRS HU4 HI3
      go_wp2_with fail
      refine (HS.out _ (Und.refl _)).mono ?_
      rintro e w7 ⟨rfl, hu7⟩
      have HU7 := hid (HU5.out.trans hu7)
      clear hu7 HS HU5
      go_wp2
      exact ⟨⟨3, by omega, rfl, HU7.out⟩, by simp [intOf]⟩
    · go_wp2_with fail
      refine (HKN.out _ HU.out).mono ?_
      rintro e w5 ⟨rfl, hu5⟩
      have HU5 := hid (HU.out.trans hu5)
      clear hu5
      go_wp2
      go_ret
      exact ⟨rfl, HU5.out⟩
end Go.Proofs.YtofhaokbklfmmaaDoor
