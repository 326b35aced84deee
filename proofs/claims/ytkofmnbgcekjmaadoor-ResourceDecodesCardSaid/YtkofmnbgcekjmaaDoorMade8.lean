/- The contracts of the law package's made, raws and changed. Conditions: the lists lie in memory. -/
import Derived.Test.YtkofmnbgcekjmaaDoorMakeRaws
import Derived.Lib.ConvBytes
namespace Go.Proofs.YtkofmnbgcekjmaaDoor
open Go.RowKit

/-- A fragment in memory. -/
def FragAt (w : World) (A : Option Addr) (c : Nat) (f : List St.It) (n : Nat) : Prop := ItemsAt w A f ∧ GoodF f ∧ f.length ≤ n ∧ tot f ≤ 18 * n ∧ f.length ≤ c ∧ c ≤ 9223372036854775807 ∧ ∀ b off, A = some ⟨b, off, none⟩ → b < w.heap.size
theorem FragAt.und {w w' : World} {A : Option Addr} {c : Nat} {f : List St.It} {n : Nat} (h : FragAt w A c f n) (u : Und w w') : FragAt w' A c f n := by
  obtain ⟨h1, h2, h3, h4, h5, h6, h7⟩ := h
  exact ⟨h1.und u, h2, h3, h4, h5, h6, fun b off e => Nat.lt_of_lt_of_le (h7 b off e) u.size⟩
theorem own_block_lt {w : World} {B n c : Nat} {A : Option Addr} {e : TypeId} {size : Nat} {xs : List Value} (h : w.ownsRow B e size (.slice A n c) n xs) : ∀ b off, A = some ⟨b, off, none⟩ → b < w.heap.size := by
  intro b off e'
  subst e'
  exact (h.lt b rfl).2
set_option maxHeartbeats 3200000 in
theorem made_any (A : Option Addr) (n c : Nat) (zs : List Int) (w : World) (hz : zs.length = n) (hn : n ≤ 9223372036854775807) (hI : IntsAt w A zs) :
    Calls Tryd.prog 34 #[.slice A n c] w fun e w' => ∃ A2 c2 f, e = .returned (.slice A2 f.length c2) ∧ FragAt w' A2 c2 f 8 ∧ Und w w' := by
  have HG := hid (GenP.fresh (c := c) (T := 49) hn hz hI)
  clear hI
  go_enter Tryd.func34, Tryd.ntmps34
  go_wp2_with fail
  refine (frag_gen (w.heap.size + 1) w.heap.size 0 8 _ HG.out (by omega) (by omega)).mono ?_
  rintro e w2 ⟨v, f, rfl, ho, hgd, hfl, hft, hG2, hk⟩
  obtain ⟨A2, c2, rfl, h1, h2, _⟩ := own_slice' ho
  have hu : Und w w2 := ((Und.refl w).alloc _).of_gb hk (fun g e => by cases e; exact Nat.le_refl _)
  have hF : FragAt w2 A2 c2 f 8 := ⟨items_own ho rfl, hgd, hfl, hft, h1, by unfold maxLen at h2; omega, own_block_lt ho⟩
  have HE := hid (And.intro hF hu)
  clear ho hgd hG2 hk hu hF
  go_wp2
  go_ret
  exact ⟨A2, c2, f, rfl, HE.out.1, HE.out.2⟩
set_option maxHeartbeats 3200000 in
theorem raws_any (A B : Option Addr) (n c m d : Nat) (zs ys : List Int) (w : World) (hz : zs.length = n) (hn : n ≤ 9223372036854775807) (hI : IntsAt w A zs) (hy : ys.length = m) (hm : m ≤ 9223372036854775807) (hJ : IntsAt w B ys) :
    Calls Tryd.prog 15 #[.slice A n c, .slice B m d] w fun e w' => ∃ raw A2 c2 f, e = .returned (.tuple #[.string raw, .slice A2 f.length c2]) ∧ FragAt w' A2 c2 f 8 ∧ RawsOf 2 f raw ∧ raw.size ≤ 6080 ∧ Und w w' := by
  have HM := hid (made_any A n c zs w hz hn hI)
  have HJ := hid hJ
  clear hI hJ
  go_enter Tryd.func15, Tryd.ntmps15
  go_wp2_with fail
  refine HM.out.mono ?_
  rintro e w2 ⟨A2, c2, f, rfl, hF, hu⟩
  have HG := hid (GenP.fresh (c := d) (T := 49) hm hy (HJ.out.und hu))
  have HF := hid hF
  have HU := hid hu
  clear hF hu HM
  go_wp2_with fail
  refine (raws_gen 2 long_resource (w2.heap.size + 1) w2.heap.size 0 A2 f.length c2 f _ HG.out (by omega) rfl HF.out.2.2.2.2.1 HF.out.2.2.2.2.2.1 (HF.out.1.und ((Und.refl _).alloc _)) (fun b off e => by have := HF.out.2.2.2.2.2.2 b off e; omega) (by have := HF.out.2.2.1; omega) (by have := HF.out.2.2.2.1; omega) HF.out.2.1).mono ?_
  rintro e w3 ⟨raw, rfl, hR, hrs, hG3, hk⟩
  have hu3 : Und w2 w3 := ((Und.refl w2).alloc _).of_gb hk (fun g e => by cases e; exact Nat.le_refl _)
  have hb1 := HF.out.2.2.1
  have hb2 := HF.out.2.2.2.1
  have HE := hid (And.intro (HF.out.und hu3) (And.intro hR (HU.out.trans hu3)))
  clear hR hG3 hk hu3 HF HU HG
  go_wp2
  go_ret2
  exact ⟨raw, A2, c2, f, rfl, HE.out.1, HE.out.2.1, by omega, HE.out.2.2⟩
theorem frozen_past (w : World) (s : ByteArray) (j : Nat) (hj : j < s.size) : (Lib.bytesWorld w 5 s).frozen? ⟨w.heap.size, j, none⟩ = false := by
  have h := Lib.bytesWorld_at_new w 5 s
  have hs : s.size ≤ (Lib.bytesCells w 5 s).size := by unfold Lib.bytesCells; simp
  unfold World.frozen?
  simp only [h]
  simp
  omega
set_option maxRecDepth 20000 in
set_option maxHeartbeats 3200000 in
theorem changed_any (s : ByteArray) (at' by' : Int) (w : World) (hs : s.size ≤ 1000000) :
    Calls Tryd.prog 16 #[.string s, .int .i64 at', .int .u8 by'] w fun e w' => ∃ u : ByteArray, e = .returned (.string u) ∧ u.size = s.size ∧ Und w w' := by
  have hb : Below w.heap.size w (Lib.bytesWorld w 5 s) := ⟨rfl, rfl, rfl, by rw [Lib.bytesWorld_size]; omega, fun k hk => Lib.bytesWorld_at_old w _ _ k hk⟩
  have hcv := Lib.run_convert_string_bytes w 9 22 5 s Tryd.underlying9 Tryd.underlying22 Tryd.underlying5
  have hcell := fun j hj => Lib.bytesWorld_cell w 5 s j hj
  have hfr := fun j hj => frozen_past w s j hj
  have hsz := Lib.bytesWorld_size w 5 s
  have hcb := grownCap_ge w s.size 0 5
  have hcm := grownCap_le_maxLen w s.size 0 5 (by unfold maxLen; omega)
  generalize Lib.bytesWorld w 5 s = w1 at hb hcv hcell hfr hsz
  generalize grownCap w s.size 0 5 = cap at hcv hcb hcm
  have HU1 := hid (Und.mk hb)
  have HC := hid hcell
  have HFR := hid hfr
  have HB := hid (show w.heap.size < w1.heap.size by omega)
  haveI : LtW w.heap.size w1 := LtW.of HB.out
  clear hb hcell hfr hsz
  have back : ∀ (W : World) (xs : List Int), xs.length = s.size → (∀ i, i < s.size → W.cell? ⟨w.heap.size, i, none⟩ = some (.int .u8 (xs.getD i 0))) → (convert 22 9 (.slice (some ⟨w.heap.size, 0, none⟩) s.size cap)).run Tryd.prog W = .ok (.string (strOfNums xs)) W := by
    intro W xs hl hc
    exact run_convert_bytes_arg W 22 5 Tryd.underlying22 Tryd.underlying5 w.heap.size 0 s.size cap xs hl (fun i hi => by rw [Nat.zero_add]; exact hc i hi) _ Tryd.underlying9
  have BACK := hid back
  clear back
  by_cases h0 : 0 < s.size
  · have z : (0 : Int) < s.size := by omega
    have hpl := hid (place_any at' s.size w1 (by omega) (by omega))
    have a1 := Int.emod_nonneg at' (show (s.size : Int) ≠ 0 by omega)
    have b1 := Int.emod_lt_of_pos at' z
    generalize at' % (s.size : Int) = p1 at hpl a1 b1
    obtain ⟨p, rfl⟩ : ∃ k : Nat, p1 = k := ⟨p1.toNat, by omega⟩
    have hp : p < s.size := by omega
    have g0 := HC.out p hp
    have f0 := HFR.out p hp
    have hbk := BACK.out (w1.setCell ⟨w.heap.size, p, none⟩ (.int .u8 by')) (((List.range s.size).map fun j => if j = p then by' else ((s.data.toList.getD j 0).toNat : Int))) (by simp) (fun i hi => by
      rw [show (((List.range s.size).map fun j => if j = p then by' else ((s.data.toList.getD j 0).toNat : Int))).getD i 0 = if i = p then by' else ((s.data.toList.getD i 0).toNat : Int) by simp [List.getD, hi]]
      by_cases hip : i = p
      · subst hip; rw [if_pos rfl]; go_simp
      · rw [if_neg hip]
        have := HC.out i hi
        rw [← this]
        exact World.cell?_setCell_other w1 ⟨w.heap.size, p, none⟩ ⟨w.heap.size, i, none⟩ _ (fun (e : (⟨w.heap.size, p, none⟩ : Addr) = ⟨w.heap.size, i, none⟩) => hip (by injection e with _ h; exact h.symm)))
    clear h0
    go_enter Tryd.func16, Tryd.ntmps16
    go_wp2_with fail
    refine hpl.out.mono ?_
    rintro e w' ⟨rfl, rfl⟩
    go_wp2
    go_ret
    refine ⟨_, rfl, ?_, HU1.out.setCell (p := ⟨w.heap.size, p, none⟩) (Nat.le_refl _) _⟩
    rw [strOfNums_size]; simp
  · have z : ¬ (0 : Int) < s.size := by omega
    have h00 : s.size = 0 := by omega
    have hbk := BACK.out w1 [] (by simp [h00]) (fun i hi => by omega)
    have HZ := hid h00
    clear h0 h00
    go_enter Tryd.func16, Tryd.ntmps16
    go_wp2
    go_ret
    exact ⟨_, rfl, by rw [HZ.out]; rfl, HU1.out⟩
end Go.Proofs.YtkofmnbgcekjmaaDoor
