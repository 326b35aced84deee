/- The contracts of the reference's Numbers, upTo, Rename and Renumber at items without tags. Conditions: lists and texts lie in memory and are no longer than they can be. -/
import Derived.Test.YthoemdibbldndaaGreatDoorRefItem
import Derived.Test.YthoemdibbldndaaGreatDoorRefNorm
import Derived.Test.YthoemdibbldndaaGreatDoorItemBox
set_option linter.unusedVariables false
set_option linter.unusedSimpArgs false
namespace Go.Proofs.YthoemdibbldndaaGreatDoor
open Go.RowKit

def Tagless (f : List St.It) : Prop := ∀ x ∈ f, St.isTagK x.1 = false
def NuRel (w : World) (n : Nat) (s7 : Value) (wr : World) : Prop := ∃ k : Nat, k ≤ n ∧ s7 = .int .i64 k ∧ Und w wr
set_option maxHeartbeats 3200000 in
theorem rnum0_any (A : Option Addr) (n c : Nat) (f : List St.It) (w : World) (hn : f.length = n) (h : ItemsAt w A f) (hT : Tagless f) (hl : n ≤ 1000000000000) :
    Calls Tryz.prog 68 #[.slice A n c] w fun e w' => e = .returned (.slice none 0 0) ∧ Und w w' := by
  have H := hid h
  have HN := hid hn
  have HT := hid hT
  clear h hn hT
  go_enter Tryz.func68, Tryz.ntmps68
  go_wp2
  go_loopw [3, 7] (fun s3 s7 wr => s3 = .slice none 0 0 ∧ NuRel w n s7 wr) (fun _ s7 _ => n + 1 - (intOf s7).toNat)
  case atStart => exact ⟨rfl, 0, by omega, rfl, Und.refl _⟩
  case round =>
    obtain ⟨rfl, k, hk, rfl, hu⟩ := hrel
    have HU := hid hu
    clear hu
    have hN := HN.out
    by_cases hlt : k < n
    · have hlt2 : k < f.length := by omega
      obtain ⟨b, off, rfl, hb, hc⟩ := (H.out.und HU.out) (by omega)
      obtain ⟨c0, c1, c2⟩ := hc k hlt2
      have htg := HT.out f[k] (List.getElem_mem hlt2)
      generalize f[k] = x at c0 c1 c2 htg
      obtain ⟨kd, tx, id⟩ := x
      simp only at c0 c1 c2 htg
      have hit := fun t i W => istag_any kd t i W
      rw [htg] at hit
      have HIT := hid hit
      haveI : LtW b wr := LtW.of hb
      clear hc hlt2 hit htg
      go_wp2_with fail
      refine (HIT.out _ _ _).mono ?_
      rintro e w3 ⟨rfl, hu3⟩
      have HU3 := hid (HU.out.trans hu3)
      clear hu3 c0 c1 c2
      go_wp2
      exact ⟨⟨rfl, k + 1, by omega, congrArg (Value.int .i64) (by omega), HU3.out⟩, by simp [intOf]; omega⟩
    · have hkn : k = n := by omega
      subst hkn
      go_wp2
      go_ret
      exact ⟨rfl, HU.out⟩
theorem rupto0_any (w : World) : Calls Tryz.prog 70 #[.int .i64 0] w fun e w' => e = .returned (.slice none 0 0) ∧ Und w w' := by
  go_enter Tryz.func70, Tryz.ntmps70
  go_wp2
  refine wp_loop_rounds 1 ?_
  rw [rounds_succ]
  go_wp2
  go_ret
  exact ⟨rfl, Und.refl _⟩
def RnRel (w : World) (f : List St.It) (n : Nat) (s7 s13 : Value) (wr : World) : Prop := ∃ k : Nat, k ≤ n ∧ s13 = .int .i64 k ∧ wr.ownsRow w.heap.size 36 3 s7 k (cellsIt (f.take k)) ∧ Und w wr
theorem items_snoc_take (f : List St.It) (k : Nat) (h : k < f.length) : cellsIt (f.take (k + 1)) = cellsIt (f.take k) ++ [.int .i64 f[k].1, .string ⟨f[k].2.1.toArray⟩, .int .i64 f[k].2.2] := by
  rw [List.take_add_one, List.getElem?_eq_getElem h]; exact cellsIt_snoc _ _
set_option maxRecDepth 20000 in
set_option maxHeartbeats 6400000 in
theorem rren0_any (A : Option Addr) (n c : Nat) (f : List St.It) (w : World) (hn : f.length = n) (h : ItemsAt w A f) (hT : Tagless f) (hl : n ≤ 100000) (ht : tot f ≤ 4611686018427387904) (hNm : St.Nm f) :
    Calls Tryz.prog 69 #[.slice A n c, .slice none 0 0, .slice none 0 0] w fun e w' => ∃ v, e = .returned v ∧ w'.ownsRow w.heap.size 36 3 v n (cellsIt f) ∧ Und w w' := by
  have H := hid h
  have HN := hid hn
  have HT := hid hT
  have HNM := hid hNm
  obtain ⟨i0, hi, hz0, hz1, hz2⟩ := info_parts info_item
  clear h hn hT hNm
  go_enter Tryz.func69, Tryz.ntmps69
  go_wp2
  go_loopw [7, 13] (fun s7 s13 wr => RnRel w f n s7 s13 wr) (fun _ s13 _ => n + 1 - (intOf s13).toNat)
  case atStart => exact ⟨0, by omega, rfl, World.ownsRow_nil _ _ _ _, Und.refl _⟩
  case round =>
    obtain ⟨k, hk, rfl, hown, hu⟩ := hrel
    have HU := hid hu
    have hsz := hu.size
    have HOW := hid hown
    have hN := HN.out
    clear hu
    by_cases hlt : k < n
    · have hlt2 : k < f.length := by omega
      obtain ⟨b, off, rfl, hb, hc⟩ := (H.out.und HU.out) (by omega)
      obtain ⟨c0, c1, c2⟩ := hc k hlt2
      have htg := HT.out f[k] (List.getElem_mem hlt2)
      have hsn := items_snoc_take f k hlt2
      generalize f[k] = x at c0 c1 c2 htg hsn
      obtain ⟨kd, tx, id⟩ := x
      simp only at c0 c1 c2 htg hsn
      have hit := fun t i W => istag_any kd t i W
      rw [htg] at hit
      have HIT := hid hit
      have HSN := hid hsn
      obtain ⟨AO, cO, rfl, _⟩ := own_slice hown
      haveI : LtW b wr := LtW.of hb
      clear hc hlt2 hit htg hsn hown
      go_wp2_with fail
      refine (HIT.out _ _ _).mono ?_
      rintro e w3 ⟨rfl, hu3⟩
      have hu3' : Und wr w3 := Und.trans ((by repeat (first | exact Und.refl _ | assumption | refine Und.under ?_ _ | refine Und.alloc ?_ _ | refine Und.drew ?_ | refine Und.drewN ?_ _))) hu3
      have d0 : w3.cell? ⟨wr.heap.size, 0, none⟩ = some (.int .i64 kd) := (hu3.cell (p := ⟨wr.heap.size, 0, none⟩) (by simp)).trans (by simp)
      have d1 : w3.cell? ⟨wr.heap.size, 1, none⟩ = some (.string ⟨tx.toArray⟩) := (hu3.cell (p := ⟨wr.heap.size, 1, none⟩) (by simp)).trans (by simp)
      have d2 : w3.cell? ⟨wr.heap.size, 2, none⟩ = some (.int .i64 id) := (hu3.cell (p := ⟨wr.heap.size, 2, none⟩) (by simp)).trans (by simp)
      haveI : LtW wr.heap.size w3 := LtW.of (World.block_lt_of_cell? _ _ d0)
      have HU3 := hid (HU.out.trans hu3')
      have HOW3 := hid (own_und hu3' HOW.out)
      clear hu3 hu3' c0 c1 c2
      go_wp2_with (at_builtin; refine wpList_append_own _ rfl _ _ 37 rfl w.heap.size 36 i0 (.agg #[.int .i64 0, .string ⟨#[]⟩, .int .i64 0]) 3 32 Tryz.underlying37 hi hz0 hz1 hz2 rfl (by decide) (.slice AO k cO) k _ rfl (HOW3.out.alloc _) _ 1 1 [.int .i64 kd, .string ⟨tx.toArray⟩, .int .i64 id] rfl rfl ?_ (item_one _ _ _) (by unfold maxLen; omega) (by omega) ?_ ?_)
      · exact side3b _ _ _ _ _ _ rfl
      · have := HU3.out.size; have h2 := (Und.refl w3).alloc (.cells #[.int .i64 kd, .string ⟨tx.toArray⟩, .int .i64 id] 36) |>.size; omega
      · intro v' w4 hown' hgrow _
        have hrel : RnRel w f n v' (.int .i64 ((k + 1 : Nat) : Int)) w4 := ⟨k + 1, by omega, rfl, by rw [HSN.out]; exact hown', (HU3.out.alloc _).grown hgrow (fun g hg => owns_block HOW3.out g hg)⟩
        have HREL := hid hrel
        clear hown' hgrow hrel
        go_wp2
        exact ⟨by simpa using HREL.out, by simp [intOf]; omega⟩
    · have hkn : k = n := by omega
      subst hkn
      obtain ⟨AO, cO, rfl, _⟩ := own_slice hown
      have hft : f.take k = f := List.take_of_length_le (by omega)
      rw [hft] at hown
      have hno := normalize_any AO k cO f wr hN (items_own hown hN) hl ht
      rw [HNM.out, hN] at hno
      have HNO := hid hno
      clear hlt hown hno hft
      go_wp2_with fail
      refine HNO.out.mono ?_
      rintro e w5 ⟨v, rfl, ho, hu5⟩
      have HE := hid (And.intro (own_low ho (by omega)) (HU.out.trans hu5))
      clear ho hu5
      go_wp2
      go_ret
      exact ⟨v, rfl, HE.out.1, HE.out.2⟩
theorem rrenumber0_any (A : Option Addr) (n c : Nat) (f : List St.It) (w : World) (hn : f.length = n) (h : ItemsAt w A f) (hT : Tagless f) (hl : n ≤ 100000) (ht : tot f ≤ 4611686018427387904) (hNm : St.Nm f) :
    Calls Tryz.prog 32 #[.slice A n c] w fun e w' => ∃ v, e = .returned v ∧ w'.ownsRow w.heap.size 36 3 v n (cellsIt f) ∧ Und w w' := by
  have H1 := hid (rnum0_any A n c f w hn h hT (by omega))
  have H2 := hid (fun W => rupto0_any W)
  have H3 := hid (fun W (hW : Und w W) => rren0_any A n c f W hn (h.und hW) hT hl ht hNm)
  clear h hT hNm
  go_enter Tryz.func32, Tryz.ntmps32
  go_wp2_with fail
  refine H1.out.mono ?_
  rintro e w2 ⟨rfl, hu2⟩
  have HU2 := hid hu2
  clear hu2
  go_wp2_with fail
  refine (H2.out _).mono ?_
  rintro e w3 ⟨rfl, hu3⟩
  have HU3 := hid (HU2.out.trans hu3)
  clear hu3
  go_wp2_with fail
  refine (H3.out _ HU3.out).mono ?_
  rintro e w4 ⟨v, rfl, ho, hu4⟩
  have HE := hid (And.intro (own_low ho (by have := HU3.out.size; omega)) (HU3.out.trans hu4))
  clear ho hu4
  go_wp2
  go_ret
  exact ⟨v, rfl, HE.out.1, HE.out.2⟩
end Go.Proofs.YthoemdibbldndaaGreatDoor
