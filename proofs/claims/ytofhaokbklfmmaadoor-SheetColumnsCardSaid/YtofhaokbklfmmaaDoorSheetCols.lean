/- The law SheetColumns: walk. Condition: the library's table of powers of ten in memory. -/
import Derived.Test.YtofhaokbklfmmaaDoorSheetKnown
import Derived.Test.YtofhaokbklfmmaaDoorMkPlace
import Derived.Deep.Cut
import Derived.Deep.RegionWith
import Derived.OrdersHeld
namespace Go.Proofs.YtofhaokbklfmmaaDoor
open Go.RowKit

namespace St
def headL (w c : Nat) : List UInt8 := (List.range w).flatMap fun i => (if i = 0 then [] else [44]) ++ (if i = c then [116, 101, 120, 116] else [99])
def rowL (f c : Nat) (q : Bool) : List UInt8 := (List.range f).flatMap fun i => (if i = 0 then [] else [44]) ++ (if decide (i = c) && q then [34, 118, 34] else [118])
theorem headL_snoc (w c : Nat) : headL (w + 1) c = headL w c ++ ((if w = 0 then [] else [44]) ++ (if w = c then [116, 101, 120, 116] else [99])) := by
  unfold headL; rw [List.range_succ, List.flatMap_append]; simp
theorem rowL_snoc (f c : Nat) (q : Bool) : rowL (f + 1) c q = rowL f c q ++ ((if f = 0 then [] else [44]) ++ (if decide (f = c) && q then [34, 118, 34] else [118])) := by
  unfold rowL; rw [List.range_succ, List.flatMap_append]; simp
def docL (w c f : Nat) (q : Bool) : List UInt8 := headL w c ++ [10] ++ rowL f c q ++ [10]
def chk1 (dig : Nat → List UInt8) (w c f : Nat) (q : Bool) : Bool := match splitS dE dig (docL w c f q) with
  | (ps, _, er) => if decide (f = w) && q then er == 0 && ps.length == 3 && (ps.getD 1 (false, [], [])).2.2 == [118] else er == 2
def chk (dig : Nat → List UInt8) : Bool := (List.range 4).all fun w => (List.range (w + 1)).all fun c => (List.range 6).all fun f => chk1 dig (w + 1) c (f + 1) true && chk1 dig (w + 1) c (f + 1) false
theorem chk_all (dig : Nat → List UInt8) : chk dig = true := by rfl
theorem chk_one (dig : Nat → List UInt8) (w c f : Nat) (q : Bool) (hw : w < 4) (hc : c ≤ w) (hf : f < 6) : chk1 dig (w + 1) c (f + 1) q = true := by
  have h := chk_all dig
  unfold chk at h
  rw [List.all_eq_true] at h
  have h1 := h w (by simpa using hw)
  rw [List.all_eq_true] at h1
  have h2 := h1 c (by simp; omega)
  rw [List.all_eq_true] at h2
  have h3 := h2 f (by simpa using hf)
  rw [Bool.and_eq_true] at h3
  cases q
  · exact h3.2
  · exact h3.1
end St

def oneN (b : Bool) : Nat := if b then 1 else 0
theorem one_any (b : Bool) (w : World) : Calls Tryd.prog 19 #[.bool b] w fun e w' => e = .returned (.int .i64 (oneN b : Nat)) ∧ w = w' := by
  cases b
  · go_enter Tryd.func19, Tryd.ntmps19
    go_wp2
    go_ret
    exact ⟨rfl, rfl⟩
  · go_enter Tryd.func19, Tryd.ntmps19
    go_wp2
    go_ret
    exact ⟨rfl, rfl⟩
theorem size_app (a b : ByteArray) : (a ++ b).size = a.size + b.size := ByteArray.size_append
def CutS (w : World) (l : List UInt8) (B : Nat) (s : Value) (wx : World) : Prop := ∃ t : ByteArray, s = .string t ∧ t.data.toList = l ∧ t.size ≤ B ∧ Und w wx
def ClRel (w : World) (f : Nat → List UInt8) (N : Nat) (s11 s9 : Value) (wr : World) : Prop := ∃ (i : Nat) (t : ByteArray), i ≤ N ∧ s11 = .int .i64 i ∧ s9 = .string t ∧ t.data.toList = f i ∧ t.size ≤ 10 * i ∧ Und w wr

set_option maxRecDepth 20000 in
set_option maxHeartbeats 6400000 in
theorem colslaw_any (width column fields : Int) (quoted : Bool) (w : World) (ht : Tab w) : Calls Tryd.prog 6 #[.int .i64 width, .int .i64 column, .int .i64 fields, .bool quoted] w fun e w' => e = .returned (.bool true) ∧ Und w w' := by
  have HTB := hid ht
  have hp1 := fun W => place_any width 4 W (by omega) (by omega)
  have a1 := Int.emod_nonneg width (show (4 : Int) ≠ 0 by omega)
  have b1 := Int.emod_lt_of_pos width (show (0 : Int) < 4 by omega)
  generalize width % 4 = p1 at hp1 a1 b1
  obtain ⟨p, rfl⟩ : ∃ k : Nat, p1 = k := ⟨p1.toNat, by omega⟩
  have hp2 := fun W => place_any column (1 + (p : Int)) W (by omega) (by omega)
  have a2 := Int.emod_nonneg column (show (1 + (p : Int)) ≠ 0 by omega)
  have b2 := Int.emod_lt_of_pos column (show (0 : Int) < 1 + (p : Int) by omega)
  generalize column % (1 + (p : Int)) = p2 at hp2 a2 b2
  obtain ⟨c, rfl⟩ : ∃ k : Nat, p2 = k := ⟨p2.toNat, by omega⟩
  have hp3 := fun W => place_any fields 6 W (by omega) (by omega)
  have a3 := Int.emod_nonneg fields (show (6 : Int) ≠ 0 by omega)
  have b3 := Int.emod_lt_of_pos fields (show (0 : Int) < 6 by omega)
  generalize fields % 6 = p3 at hp3 a3 b3
  obtain ⟨f, rfl⟩ : ∃ k : Nat, p3 = k := ⟨p3.toNat, by omega⟩
  have HP1 := hid hp1
  have HP2 := hid hp2
  have HP3 := hid hp3
  have hchk := hid (St.chk_one Lib.decDigits p c f quoted (by omega) (by omega) (by omega))
  clear hp1 hp2 hp3 a1 a2 a3 ht
  go_enter Tryd.func6, Tryd.ntmps6
  go_wp2_with fail
  refine (HP1.out _).mono ?_
  rintro e w' ⟨rfl, rfl⟩
  go_wp2_with fail
  refine (HP2.out _).mono ?_
  rintro e w' ⟨rfl, rfl⟩
  go_wp2_with fail
  refine (HP3.out _).mono ?_
  rintro e w' ⟨rfl, rfl⟩
  go_wp2_with fail
  go_loopw [9, 11] (fun s9 s11 wr => ClRel w (fun i => St.headL i c) (p + 1) s11 s9 wr) (fun _ s11 _ => p + 2 - (intOf s11).toNat)
  case atStart => exact ⟨0, ⟨#[]⟩, by omega, rfl, rfl, rfl, by show 0 ≤ _; omega, Und.refl _⟩
  case round =>
    obtain ⟨i, t, hi, rfl, rfl, ht, hts, hu⟩ := hrel
    have HT := hid ht
    have HU := hid hu
    clear ht hu
    by_cases hlt : i < p + 1
    · have hlt' : (i : Int) < 1 + (p : Int) := by omega
      obtain ⟨wo, rfl⟩ : ∃ wo : World, wo = wr := ⟨_, rfl⟩
      go_wp2_with fail
      obtain ⟨m, hm⟩ : ∃ m : Nat, m = min i 1 := ⟨_, rfl⟩
      have hmin : min (i : Int) 1 = (m : Int) := by omega
      have hm2 : (m : Int) < 2 := by omega
      obtain ⟨b, hb⟩ : ∃ b : Bool, ((i : Int) == (c : Int)) = b := ⟨_, rfl⟩
      have hone := hid (fun W => one_any b W)
      obtain ⟨q, hq⟩ : ∃ q : Nat, oneN b = q := ⟨_, rfl⟩
      rw [hq] at hone
      have hq2 : (q : Int) < 2 := by rw [← hq]; unfold oneN; split <;> omega
      obtain ⟨za, hza⟩ : ∃ z : ByteArray, z = if m = 0 then ⟨#[]⟩ else ⟨#[44]⟩ := ⟨_, rfl⟩
      obtain ⟨zb, hzb⟩ : ∃ z : ByteArray, z = if q = 0 then ⟨#[99]⟩ else ⟨#[116, 101, 120, 116]⟩ := ⟨_, rfl⟩
      have cA : ∀ W : World, (W.alloc (.cells #[.string ⟨#[]⟩, .string ⟨#[44]⟩] 9)).cell? ⟨W.heap.size, m, none⟩ = some (.string za) := by
        intro W
        rw [World.cell?_alloc_at _ _ _ _ rfl, hza]
        rcases (show m = 0 ∨ m = 1 by omega) with h | h <;> subst h <;> rfl
      have cB : ∀ W : World, (W.alloc (.cells #[.string ⟨#[99]⟩, .string ⟨#[116, 101, 120, 116]⟩] 9)).cell? ⟨W.heap.size, q, none⟩ = some (.string zb) := by
        intro W
        rw [World.cell?_alloc_at _ _ _ _ rfl, hzb]
        rcases (show q = 0 ∨ q = 1 by omega) with h | h <;> subst h <;> rfl
      have hzas : za.size ≤ 1 := by rw [hza]; split <;> decide
      have hzbs : zb.size ≤ 4 := by rw [hzb]; split <;> decide
      have hlist : t.data.toList ++ (za.data.toList ++ zb.data.toList) = St.headL (i + 1) c := by
        rw [HT.out, St.headL_snoc, hza, hzb]
        congr 1
        congr 1
        · rw [hm]; by_cases h : i = 0
          · subst h; rfl
          · rw [if_neg h, if_neg (by omega)]
        · rw [← hq, ← hb]; unfold oneN
          by_cases h : i = c
          · subst h; simp
          · have : ((i : Int) == (c : Int)) = false := by simp <;> omega
            rw [this, if_neg h]; rfl
      have HL := hid hlist
      have LA : ([.string ⟨#[]⟩, .string ⟨#[44]⟩] : List Value)[m]? = some (.string za) := by
        rw [hza]
        rcases (show m = 0 ∨ m = 1 by omega) with h | h <;> subst h <;> rfl
      have LB : ([.string ⟨#[99]⟩, .string ⟨#[116, 101, 120, 116]⟩] : List Value)[q]? = some (.string zb) := by
        rw [hzb]
        rcases (show q = 0 ∨ q = 1 by omega) with h | h <;> subst h <;> rfl
      have A1 := cA wo
      have B1 := cB wo
      have A2 := cA (wo.alloc (.cells #[.string ⟨#[99]⟩, .string ⟨#[116, 101, 120, 116]⟩] 9))
      have B2 := cB (wo.alloc (.cells #[.string ⟨#[]⟩, .string ⟨#[44]⟩] 9))
      rw [show (wo.alloc (.cells #[.string ⟨#[99]⟩, .string ⟨#[116, 101, 120, 116]⟩] 9)).heap.size = wo.heap.size + 1 by simp] at A2
      rw [show (wo.alloc (.cells #[.string ⟨#[]⟩, .string ⟨#[44]⟩] 9)).heap.size = wo.heap.size + 1 by simp] at B2
      clear cA cB hza hzb hlist hm hq
      have y1 : ¬ 9223372036854775807 < za.size + zb.size := by omega
      have y2 : ¬ 9223372036854775807 < t.size + (za.size + zb.size) := by omega
      refine wp_region_any (by kernel_rfl) ?_
      try (change wpAny _ _ _ _ _ _ _ (World.drew _))
      refine rg_norm (l' := #[false, false, false, false, false, false, false, false, false, false, false, false, false, false, false, false]) (by kernel_rfl) ?_
      refine wpAny_take (i := 0) (oi := ⟨some 30, _, _, _, _, _⟩) (v := ?_) rfl (by kernel_rfl) (by kernel_rfl) (by kernel_rfl) (fun _ _ _ h => h) (Or.inl ⟨by rfl, ?_⟩) ?_
      rotate_left 1
      · (intro W9; go_simp; try with_reducible rfl)
      conv => arg 7; simp only [Act.put, List.setIfInBounds_toArray, List.set_cons_succ, List.set_cons_zero]
      refine rg_norm (l' := #[true, false, false, false, false, false, false, false, false, false, false, false, false, false, false, false]) (by kernel_rfl) ?_
      refine wpAny_take (i := 2) (oi := ⟨some 32, _, _, _, _, _⟩) (v := ?_) rfl (by kernel_rfl) (by kernel_rfl) (by kernel_rfl) (fun _ _ _ h => h) (Or.inl ⟨by rfl, ?_⟩) ?_
      rotate_left 1
      · (intro W9; go_simp; try with_reducible rfl)
      conv => arg 7; simp only [Act.put, List.setIfInBounds_toArray, List.set_cons_succ, List.set_cons_zero]
      refine rg_norm (l' := #[true, false, true, false, false, false, false, false, false, false, false, false, false, false, false, false]) (by kernel_rfl) ?_
      refine wpAny_take (i := 3) (oi := ⟨some 33, _, _, _, _, _⟩) (v := ?_) rfl (by kernel_rfl) (by kernel_rfl) (by kernel_rfl) (fun _ _ _ h => h) (Or.inl ⟨by rfl, ?_⟩) ?_
      rotate_left 1
      · (intro W9; go_simp; try with_reducible rfl)
      conv => arg 7; simp only [Act.put, List.setIfInBounds_toArray, List.set_cons_succ, List.set_cons_zero]
      refine rg_norm (l' := #[true, false, true, true, false, false, false, false, false, false, false, false, false, false, false, false]) (by kernel_rfl) ?_
      refine wpAny_take (i := 7) (oi := ⟨some 37, _, _, _, _, _⟩) (v := ?_) rfl (by kernel_rfl) (by kernel_rfl) (by kernel_rfl) (fun _ _ _ h => h) (Or.inl ⟨by rfl, ?_⟩) ?_
      rotate_left 1
      · (intro W9; go_simp; try with_reducible rfl)
      conv => arg 7; simp only [Act.put, List.setIfInBounds_toArray, List.set_cons_succ, List.set_cons_zero]
      refine rg_norm (l' := #[true, false, true, true, false, false, false, true, false, false, false, false, false, false, false, false]) (by kernel_rfl) ?_
      refine wpAny_take (i := 8) (oi := ⟨some 38, _, _, _, _, _⟩) (v := ?_) rfl (by kernel_rfl) (by kernel_rfl) (by kernel_rfl) (fun _ _ _ h => h) (Or.inl ⟨by rfl, ?_⟩) ?_
      rotate_left 1
      · (intro W9; go_simp; try with_reducible rfl)
      conv => arg 7; simp only [Act.put, List.setIfInBounds_toArray, List.set_cons_succ, List.set_cons_zero]
      refine rg_norm (l' := #[true, false, true, true, false, false, false, true, true, false, false, false, false, false, false, false]) (by kernel_rfl) ?_
      refine wpAny_take (i := 9) (oi := ⟨some 39, _, _, _, _, _⟩) (v := ?_) rfl (by kernel_rfl) (by kernel_rfl) (by kernel_rfl) (fun _ _ _ h => h) (Or.inl ⟨by rfl, ?_⟩) ?_
      rotate_left 1
      · (intro W9; go_simp; try with_reducible rfl)
      conv => arg 7; simp only [Act.put, List.setIfInBounds_toArray, List.set_cons_succ, List.set_cons_zero]
      refine rg_norm (l' := #[true, false, true, true, false, false, false, true, true, true, false, false, false, false, false, false]) (by kernel_rfl) ?_
      refine wpAny_ready (rs := [1, 6, 10]) (by kernel_rfl) (by simp) ?_
      refine AllReady.cons (o := ⟨some 31, _, _, _, _, _⟩) rfl (fun K hK => ?_) ?_
      · skip
        go_simp
        refine hK _ _ ?_
        clear hK K
        conv => arg 7; simp only [Act.put, List.setIfInBounds_toArray, List.set_cons_succ, List.set_cons_zero]
        refine rg_norm (l' := #[true, true, true, true, false, false, false, true, true, true, false, false, false, false, false, false]) (by kernel_rfl) ?_
        refine wpAny_take (i := 4) (oi := ⟨some 34, _, _, _, _, _⟩) (v := ?_) rfl (by kernel_rfl) (by kernel_rfl) (by kernel_rfl) (fun _ _ _ h => h) (Or.inl ⟨by rfl, ?_⟩) ?_
        rotate_left 1
        · (intro W9; go_simp; try with_reducible rfl)
        conv => arg 7; simp only [Act.put, List.setIfInBounds_toArray, List.set_cons_succ, List.set_cons_zero]
        refine rg_norm (l' := #[true, true, true, true, true, false, false, true, true, true, false, false, false, false, false, false]) (by kernel_rfl) ?_
        refine wpAny_of_held (S := fun W => W.cell? ⟨wo.heap.size, m, none⟩ = some (.string za)) _ _ _ _ ?_
        refine wpAnyH_take (i := 5) (oi := ⟨some 35, _, _, _, _, _⟩) (v := ?_) rfl (by kernel_rfl) (by kernel_rfl) (by kernel_rfl) (fun _ _ _ h => h) (Or.inl ⟨by rfl, ?_⟩) ?_ ?_
        rotate_left 1
        · (intro W9 (hS9 : W9.cell? ⟨wo.heap.size, m, none⟩ = some (.string za)); go_simp; try with_reducible rfl)
        · first | assumption | (go_simp; done)
        conv => arg 8; simp only [Act.put, List.setIfInBounds_toArray, List.set_cons_succ, List.set_cons_zero]
        refine rgH_norm (l' := #[true, true, true, true, true, true, false, true, true, true, false, false, false, false, false, false]) (by kernel_rfl) ?_
        refine wpAnyH_ready (rs := [6, 10]) (by kernel_rfl) (by simp) ?_
        refine AllReadyH.cons (o := ⟨some 36, _, _, _, _, _⟩) rfl (fun K hK => ?_) ?_
        · skip
          go_simp
          refine hK _ _ ⟨?_, ?_⟩
          · clear hK K; first | assumption | (go_simp; done) | exact hS0
          clear hK K
          conv => arg 8; simp only [Act.put, List.setIfInBounds_toArray, List.set_cons_succ, List.set_cons_zero]
          refine rgH_norm (l' := #[true, true, true, true, true, true, true, true, true, true, false, false, false, false, false, false]) (by kernel_rfl) ?_
          refine wpAnyH_ready (rs := [10]) (by kernel_rfl) (by simp) ?_
          refine AllReadyH.cons (o := ⟨some 40, _, _, _, _, _⟩) rfl (fun K hK => ?_) AllReadyH.nil
          with_reducible refine step_callR (o := ⟨some 40, _, _, _, _, _⟩) rfl 19 #[.bool b] (.int .i64 (q : Int)) Eq (hone.out _) ?_ ?_
          · go_simp
          rintro _ rfl
          refine hK _ _ ⟨?_, ?_⟩
          · clear hK K; first | assumption | (go_simp; done) | exact hS0
          clear hK K
          conv => arg 8; simp only [Act.put, List.setIfInBounds_toArray, List.set_cons_succ, List.set_cons_zero]
          refine rgH_norm (l' := #[true, true, true, true, true, true, true, true, true, true, true, false, false, false, false, false]) (by kernel_rfl) ?_
          refine wpAnyH_take (i := 11) (oi := ⟨some 41, _, _, _, _, _⟩) (v := ?_) rfl (by kernel_rfl) (by kernel_rfl) (by kernel_rfl) (fun _ _ _ h => h) (Or.inl ⟨by rfl, ?_⟩) ?_ ?_
          rotate_left 1
          · (intro W9 (hS9 : W9.cell? ⟨wo.heap.size, m, none⟩ = some (.string za)); go_simp; try with_reducible rfl)
          · first | assumption | (go_simp; done)
          conv => arg 8; simp only [Act.put, List.setIfInBounds_toArray, List.set_cons_succ, List.set_cons_zero]
          refine rgH_norm (l' := #[true, true, true, true, true, true, true, true, true, true, true, true, false, false, false, false]) (by kernel_rfl) ?_
          refine wpAnyH_ready (rs := [12]) (by kernel_rfl) (by simp) ?_
          refine AllReadyH.cons (o := ⟨some 42, _, _, _, _, _⟩) rfl (fun K hK => ?_) AllReadyH.nil
          go_simp
          refine hK _ _ ⟨?_, ?_⟩
          · clear hK K; first | assumption | (go_simp; done) | exact hS0
          clear hK K
          conv => arg 8; simp only [Act.put, List.setIfInBounds_toArray, List.set_cons_succ, List.set_cons_zero]
          refine rgH_norm (l' := #[true, true, true, true, true, true, true, true, true, true, true, true, true, false, false, false]) (by kernel_rfl) ?_
          refine wpAnyH_take (i := 13) (oi := ⟨some 43, _, _, _, _, _⟩) (v := ?_) rfl (by kernel_rfl) (by kernel_rfl) (by kernel_rfl) (fun _ _ _ h => h) (Or.inl ⟨by rfl, ?_⟩) ?_ ?_
          rotate_left 1
          · (intro W9 (hS9 : W9.cell? ⟨wo.heap.size, m, none⟩ = some (.string za)); go_simp; try with_reducible rfl)
          · first | assumption | (go_simp; done)
          conv => arg 8; simp only [Act.put, List.setIfInBounds_toArray, List.set_cons_succ, List.set_cons_zero]
          refine rgH_norm (l' := #[true, true, true, true, true, true, true, true, true, true, true, true, true, true, false, false]) (by kernel_rfl) ?_
          refine wpAnyH_take (i := 14) (oi := ⟨some 44, _, _, _, _, _⟩) (v := ?_) rfl (by kernel_rfl) (by kernel_rfl) (by kernel_rfl) (fun _ _ _ h => h) (Or.inl ⟨by rfl, ?_⟩) ?_ ?_
          rotate_left 1
          · (intro W9 (hS9 : W9.cell? ⟨wo.heap.size, m, none⟩ = some (.string za)); go_simp; try with_reducible rfl)
          · first | assumption | (go_simp; done)
          conv => arg 8; simp only [Act.put, List.setIfInBounds_toArray, List.set_cons_succ, List.set_cons_zero]
          refine rgH_norm (l' := #[true, true, true, true, true, true, true, true, true, true, true, true, true, true, true, false]) (by kernel_rfl) ?_
          refine wpAnyH_take (i := 15) (oi := ⟨some 9, _, _, _, _, _⟩) (v := ?_) rfl (by kernel_rfl) (by kernel_rfl) (by kernel_rfl) (fun _ _ _ h => h) (Or.inl ⟨by rfl, ?_⟩) ?_ ?_
          rotate_left 1
          · (intro W9 (hS9 : W9.cell? ⟨wo.heap.size, m, none⟩ = some (.string za)); go_simp; try with_reducible rfl)
          · first | assumption | (go_simp; done)
          conv => arg 8; simp only [Act.put, List.setIfInBounds_toArray, List.set_cons_succ, List.set_cons_zero]
          refine rgH_norm (l' := #[true, true, true, true, true, true, true, true, true, true, true, true, true, true, true, true]) (by kernel_rfl) ?_
          refine wpAnyH_done (by kernel_rfl) ?_ _
          go_wp2
          refine ⟨⟨i + 1, _, by omega, congrArg (Value.int .i64) (by omega), rfl, ?_, ?_, HU.out.trans (by repeat (first | exact Und.refl _ | assumption | refine Und.under ?_ _ | refine Und.alloc ?_ _ | refine Und.drew ?_ | refine Und.drewN ?_ _))⟩, by simp [intOf]; omega⟩
          · show _ = St.headL (i + 1) c
            rw [← HL.out]; simp
          · rw [size_app, size_app]; omega
        refine AllReadyH.cons (o := ⟨some 40, _, _, _, _, _⟩) rfl (fun K hK => ?_) ?_
        · skip
          with_reducible refine step_callR (o := ⟨some 40, _, _, _, _, _⟩) rfl 19 #[.bool b] (.int .i64 (q : Int)) Eq (hone.out _) ?_ ?_
          · go_simp
          rintro _ rfl
          refine hK _ _ ⟨?_, ?_⟩
          · clear hK K; first | assumption | (go_simp; done) | exact hS0
          clear hK K
          conv => arg 8; simp only [Act.put, List.setIfInBounds_toArray, List.set_cons_succ, List.set_cons_zero]
          refine rgH_norm (l' := #[true, true, true, true, true, true, false, true, true, true, true, false, false, false, false, false]) (by kernel_rfl) ?_
          refine wpAnyH_ready (rs := [6]) (by kernel_rfl) (by simp) ?_
          refine AllReadyH.cons (o := ⟨some 36, _, _, _, _, _⟩) rfl (fun K hK => ?_) AllReadyH.nil
          go_simp
          refine hK _ _ ⟨?_, ?_⟩
          · clear hK K; first | assumption | (go_simp; done) | exact hS0
          clear hK K
          conv => arg 8; simp only [Act.put, List.setIfInBounds_toArray, List.set_cons_succ, List.set_cons_zero]
          refine rgH_norm (l' := #[true, true, true, true, true, true, true, true, true, true, true, false, false, false, false, false]) (by kernel_rfl) ?_
          refine wpAnyH_take (i := 11) (oi := ⟨some 41, _, _, _, _, _⟩) (v := ?_) rfl (by kernel_rfl) (by kernel_rfl) (by kernel_rfl) (fun _ _ _ h => h) (Or.inl ⟨by rfl, ?_⟩) ?_ ?_
          rotate_left 1
          · (intro W9 (hS9 : W9.cell? ⟨wo.heap.size, m, none⟩ = some (.string za)); go_simp; try with_reducible rfl)
          · first | assumption | (go_simp; done)
          conv => arg 8; simp only [Act.put, List.setIfInBounds_toArray, List.set_cons_succ, List.set_cons_zero]
          refine rgH_norm (l' := #[true, true, true, true, true, true, true, true, true, true, true, true, false, false, false, false]) (by kernel_rfl) ?_
          refine wpAnyH_ready (rs := [12]) (by kernel_rfl) (by simp) ?_
          refine AllReadyH.cons (o := ⟨some 42, _, _, _, _, _⟩) rfl (fun K hK => ?_) AllReadyH.nil
          go_simp
          refine hK _ _ ⟨?_, ?_⟩
          · clear hK K; first | assumption | (go_simp; done) | exact hS0
          clear hK K
          conv => arg 8; simp only [Act.put, List.setIfInBounds_toArray, List.set_cons_succ, List.set_cons_zero]
          refine rgH_norm (l' := #[true, true, true, true, true, true, true, true, true, true, true, true, true, false, false, false]) (by kernel_rfl) ?_
          refine wpAnyH_take (i := 13) (oi := ⟨some 43, _, _, _, _, _⟩) (v := ?_) rfl (by kernel_rfl) (by kernel_rfl) (by kernel_rfl) (fun _ _ _ h => h) (Or.inl ⟨by rfl, ?_⟩) ?_ ?_
          rotate_left 1
          · (intro W9 (hS9 : W9.cell? ⟨wo.heap.size, m, none⟩ = some (.string za)); go_simp; try with_reducible rfl)
          · first | assumption | (go_simp; done)
          conv => arg 8; simp only [Act.put, List.setIfInBounds_toArray, List.set_cons_succ, List.set_cons_zero]
          refine rgH_norm (l' := #[true, true, true, true, true, true, true, true, true, true, true, true, true, true, false, false]) (by kernel_rfl) ?_
          refine wpAnyH_take (i := 14) (oi := ⟨some 44, _, _, _, _, _⟩) (v := ?_) rfl (by kernel_rfl) (by kernel_rfl) (by kernel_rfl) (fun _ _ _ h => h) (Or.inl ⟨by rfl, ?_⟩) ?_ ?_
          rotate_left 1
          · (intro W9 (hS9 : W9.cell? ⟨wo.heap.size, m, none⟩ = some (.string za)); go_simp; try with_reducible rfl)
          · first | assumption | (go_simp; done)
          conv => arg 8; simp only [Act.put, List.setIfInBounds_toArray, List.set_cons_succ, List.set_cons_zero]
          refine rgH_norm (l' := #[true, true, true, true, true, true, true, true, true, true, true, true, true, true, true, false]) (by kernel_rfl) ?_
          refine wpAnyH_take (i := 15) (oi := ⟨some 9, _, _, _, _, _⟩) (v := ?_) rfl (by kernel_rfl) (by kernel_rfl) (by kernel_rfl) (fun _ _ _ h => h) (Or.inl ⟨by rfl, ?_⟩) ?_ ?_
          rotate_left 1
          · (intro W9 (hS9 : W9.cell? ⟨wo.heap.size, m, none⟩ = some (.string za)); go_simp; try with_reducible rfl)
          · first | assumption | (go_simp; done)
          conv => arg 8; simp only [Act.put, List.setIfInBounds_toArray, List.set_cons_succ, List.set_cons_zero]
          refine rgH_norm (l' := #[true, true, true, true, true, true, true, true, true, true, true, true, true, true, true, true]) (by kernel_rfl) ?_
          refine wpAnyH_done (by kernel_rfl) ?_ _
          go_wp2
          refine ⟨⟨i + 1, _, by omega, congrArg (Value.int .i64) (by omega), rfl, ?_, ?_, HU.out.trans (by repeat (first | exact Und.refl _ | assumption | refine Und.under ?_ _ | refine Und.alloc ?_ _ | refine Und.drew ?_ | refine Und.drewN ?_ _))⟩, by simp [intOf]; omega⟩
          · show _ = St.headL (i + 1) c
            rw [← HL.out]; simp
          · rw [size_app, size_app]; omega
        exact AllReadyH.nil
      refine AllReady.cons (o := ⟨some 36, _, _, _, _, _⟩) rfl (fun K hK => ?_) ?_
      · skip
        go_simp
        refine hK _ _ ?_
        clear hK K
        conv => arg 7; simp only [Act.put, List.setIfInBounds_toArray, List.set_cons_succ, List.set_cons_zero]
        refine rg_norm (l' := #[true, false, true, true, false, false, true, true, true, true, false, false, false, false, false, false]) (by kernel_rfl) ?_
        refine wpAny_ready (rs := [1, 10]) (by kernel_rfl) (by simp) ?_
        refine AllReady.cons (o := ⟨some 31, _, _, _, _, _⟩) rfl (fun K hK => ?_) ?_
        · skip
          go_simp
          refine hK _ _ ?_
          clear hK K
          conv => arg 7; simp only [Act.put, List.setIfInBounds_toArray, List.set_cons_succ, List.set_cons_zero]
          refine rg_norm (l' := #[true, true, true, true, false, false, true, true, true, true, false, false, false, false, false, false]) (by kernel_rfl) ?_
          refine wpAny_take (i := 4) (oi := ⟨some 34, _, _, _, _, _⟩) (v := ?_) rfl (by kernel_rfl) (by kernel_rfl) (by kernel_rfl) (fun _ _ _ h => h) (Or.inl ⟨by rfl, ?_⟩) ?_
          rotate_left 1
          · (intro W9; go_simp; try with_reducible rfl)
          conv => arg 7; simp only [Act.put, List.setIfInBounds_toArray, List.set_cons_succ, List.set_cons_zero]
          refine rg_norm (l' := #[true, true, true, true, true, false, true, true, true, true, false, false, false, false, false, false]) (by kernel_rfl) ?_
          refine wpAny_of_held (S := fun W => W.cell? ⟨wo.heap.size + 1, m, none⟩ = some (.string za)) _ _ _ _ ?_
          refine wpAnyH_take (i := 5) (oi := ⟨some 35, _, _, _, _, _⟩) (v := ?_) rfl (by kernel_rfl) (by kernel_rfl) (by kernel_rfl) (fun _ _ _ h => h) (Or.inl ⟨by rfl, ?_⟩) ?_ ?_
          rotate_left 1
          · (intro W9 (hS9 : W9.cell? ⟨wo.heap.size + 1, m, none⟩ = some (.string za)); go_simp; try with_reducible rfl)
          · first | assumption | (go_simp; done)
          conv => arg 8; simp only [Act.put, List.setIfInBounds_toArray, List.set_cons_succ, List.set_cons_zero]
          refine rgH_norm (l' := #[true, true, true, true, true, true, true, true, true, true, false, false, false, false, false, false]) (by kernel_rfl) ?_
          refine wpAnyH_ready (rs := [10]) (by kernel_rfl) (by simp) ?_
          refine AllReadyH.cons (o := ⟨some 40, _, _, _, _, _⟩) rfl (fun K hK => ?_) AllReadyH.nil
          with_reducible refine step_callR (o := ⟨some 40, _, _, _, _, _⟩) rfl 19 #[.bool b] (.int .i64 (q : Int)) Eq (hone.out _) ?_ ?_
          · go_simp
          rintro _ rfl
          refine hK _ _ ⟨?_, ?_⟩
          · clear hK K; first | assumption | (go_simp; done) | exact hS0
          clear hK K
          conv => arg 8; simp only [Act.put, List.setIfInBounds_toArray, List.set_cons_succ, List.set_cons_zero]
          refine rgH_norm (l' := #[true, true, true, true, true, true, true, true, true, true, true, false, false, false, false, false]) (by kernel_rfl) ?_
          refine wpAnyH_take (i := 11) (oi := ⟨some 41, _, _, _, _, _⟩) (v := ?_) rfl (by kernel_rfl) (by kernel_rfl) (by kernel_rfl) (fun _ _ _ h => h) (Or.inl ⟨by rfl, ?_⟩) ?_ ?_
          rotate_left 1
          · (intro W9 (hS9 : W9.cell? ⟨wo.heap.size + 1, m, none⟩ = some (.string za)); go_simp; try with_reducible rfl)
          · first | assumption | (go_simp; done)
          conv => arg 8; simp only [Act.put, List.setIfInBounds_toArray, List.set_cons_succ, List.set_cons_zero]
          refine rgH_norm (l' := #[true, true, true, true, true, true, true, true, true, true, true, true, false, false, false, false]) (by kernel_rfl) ?_
          refine wpAnyH_ready (rs := [12]) (by kernel_rfl) (by simp) ?_
          refine AllReadyH.cons (o := ⟨some 42, _, _, _, _, _⟩) rfl (fun K hK => ?_) AllReadyH.nil
          go_simp
          refine hK _ _ ⟨?_, ?_⟩
          · clear hK K; first | assumption | (go_simp; done) | exact hS0
          clear hK K
          conv => arg 8; simp only [Act.put, List.setIfInBounds_toArray, List.set_cons_succ, List.set_cons_zero]
          refine rgH_norm (l' := #[true, true, true, true, true, true, true, true, true, true, true, true, true, false, false, false]) (by kernel_rfl) ?_
          refine wpAnyH_take (i := 13) (oi := ⟨some 43, _, _, _, _, _⟩) (v := ?_) rfl (by kernel_rfl) (by kernel_rfl) (by kernel_rfl) (fun _ _ _ h => h) (Or.inl ⟨by rfl, ?_⟩) ?_ ?_
          rotate_left 1
          · (intro W9 (hS9 : W9.cell? ⟨wo.heap.size + 1, m, none⟩ = some (.string za)); go_simp; try with_reducible rfl)
          · first | assumption | (go_simp; done)
          conv => arg 8; simp only [Act.put, List.setIfInBounds_toArray, List.set_cons_succ, List.set_cons_zero]
          refine rgH_norm (l' := #[true, true, true, true, true, true, true, true, true, true, true, true, true, true, false, false]) (by kernel_rfl) ?_
          refine wpAnyH_take (i := 14) (oi := ⟨some 44, _, _, _, _, _⟩) (v := ?_) rfl (by kernel_rfl) (by kernel_rfl) (by kernel_rfl) (fun _ _ _ h => h) (Or.inl ⟨by rfl, ?_⟩) ?_ ?_
          rotate_left 1
          · (intro W9 (hS9 : W9.cell? ⟨wo.heap.size + 1, m, none⟩ = some (.string za)); go_simp; try with_reducible rfl)
          · first | assumption | (go_simp; done)
          conv => arg 8; simp only [Act.put, List.setIfInBounds_toArray, List.set_cons_succ, List.set_cons_zero]
          refine rgH_norm (l' := #[true, true, true, true, true, true, true, true, true, true, true, true, true, true, true, false]) (by kernel_rfl) ?_
          refine wpAnyH_take (i := 15) (oi := ⟨some 9, _, _, _, _, _⟩) (v := ?_) rfl (by kernel_rfl) (by kernel_rfl) (by kernel_rfl) (fun _ _ _ h => h) (Or.inl ⟨by rfl, ?_⟩) ?_ ?_
          rotate_left 1
          · (intro W9 (hS9 : W9.cell? ⟨wo.heap.size + 1, m, none⟩ = some (.string za)); go_simp; try with_reducible rfl)
          · first | assumption | (go_simp; done)
          conv => arg 8; simp only [Act.put, List.setIfInBounds_toArray, List.set_cons_succ, List.set_cons_zero]
          refine rgH_norm (l' := #[true, true, true, true, true, true, true, true, true, true, true, true, true, true, true, true]) (by kernel_rfl) ?_
          refine wpAnyH_done (by kernel_rfl) ?_ _
          go_wp2
          refine ⟨⟨i + 1, _, by omega, congrArg (Value.int .i64) (by omega), rfl, ?_, ?_, HU.out.trans (by repeat (first | exact Und.refl _ | assumption | refine Und.under ?_ _ | refine Und.alloc ?_ _ | refine Und.drew ?_ | refine Und.drewN ?_ _))⟩, by simp [intOf]; omega⟩
          · show _ = St.headL (i + 1) c
            rw [← HL.out]; simp
          · rw [size_app, size_app]; omega
        refine AllReady.cons (o := ⟨some 40, _, _, _, _, _⟩) rfl (fun K hK => ?_) ?_
        · skip
          with_reducible refine step_callR (o := ⟨some 40, _, _, _, _, _⟩) rfl 19 #[.bool b] (.int .i64 (q : Int)) Eq (hone.out _) ?_ ?_
          · go_simp
          rintro _ rfl
          refine hK _ _ ?_
          clear hK K
          conv => arg 7; simp only [Act.put, List.setIfInBounds_toArray, List.set_cons_succ, List.set_cons_zero]
          refine rg_norm (l' := #[true, false, true, true, false, false, true, true, true, true, true, false, false, false, false, false]) (by kernel_rfl) ?_
          refine wpAny_take (i := 11) (oi := ⟨some 41, _, _, _, _, _⟩) (v := ?_) rfl (by kernel_rfl) (by kernel_rfl) (by kernel_rfl) (fun _ _ _ h => h) (Or.inl ⟨by rfl, ?_⟩) ?_
          rotate_left 1
          · (intro W9; go_simp; try with_reducible rfl)
          conv => arg 7; simp only [Act.put, List.setIfInBounds_toArray, List.set_cons_succ, List.set_cons_zero]
          refine rg_norm (l' := #[true, false, true, true, false, false, true, true, true, true, true, true, false, false, false, false]) (by kernel_rfl) ?_
          refine wpAny_of_held (S := fun W => W.cell? ⟨wo.heap.size, q, none⟩ = some (.string zb)) _ _ _ _ ?_
          refine wpAnyH_take (i := 12) (oi := ⟨some 42, _, _, _, _, _⟩) (v := ?_) rfl (by kernel_rfl) (by kernel_rfl) (by kernel_rfl) (fun _ _ _ h => h) (Or.inl ⟨by rfl, ?_⟩) ?_ ?_
          rotate_left 1
          · (intro W9 (hS9 : W9.cell? ⟨wo.heap.size, q, none⟩ = some (.string zb)); go_simp; try with_reducible rfl)
          · first | assumption | (go_simp; done)
          conv => arg 8; simp only [Act.put, List.setIfInBounds_toArray, List.set_cons_succ, List.set_cons_zero]
          refine rgH_norm (l' := #[true, false, true, true, false, false, true, true, true, true, true, true, true, false, false, false]) (by kernel_rfl) ?_
          refine wpAnyH_ready (rs := [1]) (by kernel_rfl) (by simp) ?_
          refine AllReadyH.cons (o := ⟨some 31, _, _, _, _, _⟩) rfl (fun K hK => ?_) AllReadyH.nil
          go_simp
          refine hK _ _ ⟨?_, ?_⟩
          · clear hK K; first | assumption | (go_simp; done) | exact hS0
          clear hK K
          conv => arg 8; simp only [Act.put, List.setIfInBounds_toArray, List.set_cons_succ, List.set_cons_zero]
          refine rgH_norm (l' := #[true, true, true, true, false, false, true, true, true, true, true, true, true, false, false, false]) (by kernel_rfl) ?_
          refine wpAnyH_take (i := 4) (oi := ⟨some 34, _, _, _, _, _⟩) (v := ?_) rfl (by kernel_rfl) (by kernel_rfl) (by kernel_rfl) (fun _ _ _ h => h) (Or.inl ⟨by rfl, ?_⟩) ?_ ?_
          rotate_left 1
          · (intro W9 (hS9 : W9.cell? ⟨wo.heap.size, q, none⟩ = some (.string zb)); go_simp; try with_reducible rfl)
          · first | assumption | (go_simp; done)
          conv => arg 8; simp only [Act.put, List.setIfInBounds_toArray, List.set_cons_succ, List.set_cons_zero]
          refine rgH_norm (l' := #[true, true, true, true, true, false, true, true, true, true, true, true, true, false, false, false]) (by kernel_rfl) ?_
          refine wpAnyH_ready (rs := [5]) (by kernel_rfl) (by simp) ?_
          refine AllReadyH.cons (o := ⟨some 35, _, _, _, _, _⟩) rfl (fun K hK => ?_) AllReadyH.nil
          go_simp
          refine hK _ _ ⟨?_, ?_⟩
          · clear hK K; first | assumption | (go_simp; done) | exact hS0
          clear hK K
          conv => arg 8; simp only [Act.put, List.setIfInBounds_toArray, List.set_cons_succ, List.set_cons_zero]
          refine rgH_norm (l' := #[true, true, true, true, true, true, true, true, true, true, true, true, true, false, false, false]) (by kernel_rfl) ?_
          refine wpAnyH_take (i := 13) (oi := ⟨some 43, _, _, _, _, _⟩) (v := ?_) rfl (by kernel_rfl) (by kernel_rfl) (by kernel_rfl) (fun _ _ _ h => h) (Or.inl ⟨by rfl, ?_⟩) ?_ ?_
          rotate_left 1
          · (intro W9 (hS9 : W9.cell? ⟨wo.heap.size, q, none⟩ = some (.string zb)); go_simp; try with_reducible rfl)
          · first | assumption | (go_simp; done)
          conv => arg 8; simp only [Act.put, List.setIfInBounds_toArray, List.set_cons_succ, List.set_cons_zero]
          refine rgH_norm (l' := #[true, true, true, true, true, true, true, true, true, true, true, true, true, true, false, false]) (by kernel_rfl) ?_
          refine wpAnyH_take (i := 14) (oi := ⟨some 44, _, _, _, _, _⟩) (v := ?_) rfl (by kernel_rfl) (by kernel_rfl) (by kernel_rfl) (fun _ _ _ h => h) (Or.inl ⟨by rfl, ?_⟩) ?_ ?_
          rotate_left 1
          · (intro W9 (hS9 : W9.cell? ⟨wo.heap.size, q, none⟩ = some (.string zb)); go_simp; try with_reducible rfl)
          · first | assumption | (go_simp; done)
          conv => arg 8; simp only [Act.put, List.setIfInBounds_toArray, List.set_cons_succ, List.set_cons_zero]
          refine rgH_norm (l' := #[true, true, true, true, true, true, true, true, true, true, true, true, true, true, true, false]) (by kernel_rfl) ?_
          refine wpAnyH_take (i := 15) (oi := ⟨some 9, _, _, _, _, _⟩) (v := ?_) rfl (by kernel_rfl) (by kernel_rfl) (by kernel_rfl) (fun _ _ _ h => h) (Or.inl ⟨by rfl, ?_⟩) ?_ ?_
          rotate_left 1
          · (intro W9 (hS9 : W9.cell? ⟨wo.heap.size, q, none⟩ = some (.string zb)); go_simp; try with_reducible rfl)
          · first | assumption | (go_simp; done)
          conv => arg 8; simp only [Act.put, List.setIfInBounds_toArray, List.set_cons_succ, List.set_cons_zero]
          refine rgH_norm (l' := #[true, true, true, true, true, true, true, true, true, true, true, true, true, true, true, true]) (by kernel_rfl) ?_
          refine wpAnyH_done (by kernel_rfl) ?_ _
          go_wp2
          refine ⟨⟨i + 1, _, by omega, congrArg (Value.int .i64) (by omega), rfl, ?_, ?_, HU.out.trans (by repeat (first | exact Und.refl _ | assumption | refine Und.under ?_ _ | refine Und.alloc ?_ _ | refine Und.drew ?_ | refine Und.drewN ?_ _))⟩, by simp [intOf]; omega⟩
          · show _ = St.headL (i + 1) c
            rw [← HL.out]; simp
          · rw [size_app, size_app]; omega
        exact AllReady.nil
      refine AllReady.cons (o := ⟨some 40, _, _, _, _, _⟩) rfl (fun K hK => ?_) ?_
      · skip
        with_reducible refine step_callR (o := ⟨some 40, _, _, _, _, _⟩) rfl 19 #[.bool b] (.int .i64 (q : Int)) Eq (hone.out _) ?_ ?_
        · go_simp
        rintro _ rfl
        refine hK _ _ ?_
        clear hK K
        conv => arg 7; simp only [Act.put, List.setIfInBounds_toArray, List.set_cons_succ, List.set_cons_zero]
        refine rg_norm (l' := #[true, false, true, true, false, false, false, true, true, true, true, false, false, false, false, false]) (by kernel_rfl) ?_
        refine wpAny_ready (rs := [1, 6]) (by kernel_rfl) (by simp) ?_
        refine AllReady.cons (o := ⟨some 31, _, _, _, _, _⟩) rfl (fun K hK => ?_) ?_
        · skip
          go_simp
          refine hK _ _ ?_
          clear hK K
          conv => arg 7; simp only [Act.put, List.setIfInBounds_toArray, List.set_cons_succ, List.set_cons_zero]
          refine rg_norm (l' := #[true, true, true, true, false, false, false, true, true, true, true, false, false, false, false, false]) (by kernel_rfl) ?_
          refine wpAny_take (i := 4) (oi := ⟨some 34, _, _, _, _, _⟩) (v := ?_) rfl (by kernel_rfl) (by kernel_rfl) (by kernel_rfl) (fun _ _ _ h => h) (Or.inl ⟨by rfl, ?_⟩) ?_
          rotate_left 1
          · (intro W9; go_simp; try with_reducible rfl)
          conv => arg 7; simp only [Act.put, List.setIfInBounds_toArray, List.set_cons_succ, List.set_cons_zero]
          refine rg_norm (l' := #[true, true, true, true, true, false, false, true, true, true, true, false, false, false, false, false]) (by kernel_rfl) ?_
          refine wpAny_of_held (S := fun W => W.cell? ⟨wo.heap.size, m, none⟩ = some (.string za)) _ _ _ _ ?_
          refine wpAnyH_take (i := 5) (oi := ⟨some 35, _, _, _, _, _⟩) (v := ?_) rfl (by kernel_rfl) (by kernel_rfl) (by kernel_rfl) (fun _ _ _ h => h) (Or.inl ⟨by rfl, ?_⟩) ?_ ?_
          rotate_left 1
          · (intro W9 (hS9 : W9.cell? ⟨wo.heap.size, m, none⟩ = some (.string za)); go_simp; try with_reducible rfl)
          · first | assumption | (go_simp; done)
          conv => arg 8; simp only [Act.put, List.setIfInBounds_toArray, List.set_cons_succ, List.set_cons_zero]
          refine rgH_norm (l' := #[true, true, true, true, true, true, false, true, true, true, true, false, false, false, false, false]) (by kernel_rfl) ?_
          refine wpAnyH_ready (rs := [6]) (by kernel_rfl) (by simp) ?_
          refine AllReadyH.cons (o := ⟨some 36, _, _, _, _, _⟩) rfl (fun K hK => ?_) AllReadyH.nil
          go_simp
          refine hK _ _ ⟨?_, ?_⟩
          · clear hK K; first | assumption | (go_simp; done) | exact hS0
          clear hK K
          conv => arg 8; simp only [Act.put, List.setIfInBounds_toArray, List.set_cons_succ, List.set_cons_zero]
          refine rgH_norm (l' := #[true, true, true, true, true, true, true, true, true, true, true, false, false, false, false, false]) (by kernel_rfl) ?_
          refine wpAnyH_take (i := 11) (oi := ⟨some 41, _, _, _, _, _⟩) (v := ?_) rfl (by kernel_rfl) (by kernel_rfl) (by kernel_rfl) (fun _ _ _ h => h) (Or.inl ⟨by rfl, ?_⟩) ?_ ?_
          rotate_left 1
          · (intro W9 (hS9 : W9.cell? ⟨wo.heap.size, m, none⟩ = some (.string za)); go_simp; try with_reducible rfl)
          · first | assumption | (go_simp; done)
          conv => arg 8; simp only [Act.put, List.setIfInBounds_toArray, List.set_cons_succ, List.set_cons_zero]
          refine rgH_norm (l' := #[true, true, true, true, true, true, true, true, true, true, true, true, false, false, false, false]) (by kernel_rfl) ?_
          refine wpAnyH_ready (rs := [12]) (by kernel_rfl) (by simp) ?_
          refine AllReadyH.cons (o := ⟨some 42, _, _, _, _, _⟩) rfl (fun K hK => ?_) AllReadyH.nil
          go_simp
          refine hK _ _ ⟨?_, ?_⟩
          · clear hK K; first | assumption | (go_simp; done) | exact hS0
          clear hK K
          conv => arg 8; simp only [Act.put, List.setIfInBounds_toArray, List.set_cons_succ, List.set_cons_zero]
          refine rgH_norm (l' := #[true, true, true, true, true, true, true, true, true, true, true, true, true, false, false, false]) (by kernel_rfl) ?_
          refine wpAnyH_take (i := 13) (oi := ⟨some 43, _, _, _, _, _⟩) (v := ?_) rfl (by kernel_rfl) (by kernel_rfl) (by kernel_rfl) (fun _ _ _ h => h) (Or.inl ⟨by rfl, ?_⟩) ?_ ?_
          rotate_left 1
          · (intro W9 (hS9 : W9.cell? ⟨wo.heap.size, m, none⟩ = some (.string za)); go_simp; try with_reducible rfl)
          · first | assumption | (go_simp; done)
          conv => arg 8; simp only [Act.put, List.setIfInBounds_toArray, List.set_cons_succ, List.set_cons_zero]
          refine rgH_norm (l' := #[true, true, true, true, true, true, true, true, true, true, true, true, true, true, false, false]) (by kernel_rfl) ?_
          refine wpAnyH_take (i := 14) (oi := ⟨some 44, _, _, _, _, _⟩) (v := ?_) rfl (by kernel_rfl) (by kernel_rfl) (by kernel_rfl) (fun _ _ _ h => h) (Or.inl ⟨by rfl, ?_⟩) ?_ ?_
          rotate_left 1
          · (intro W9 (hS9 : W9.cell? ⟨wo.heap.size, m, none⟩ = some (.string za)); go_simp; try with_reducible rfl)
          · first | assumption | (go_simp; done)
          conv => arg 8; simp only [Act.put, List.setIfInBounds_toArray, List.set_cons_succ, List.set_cons_zero]
          refine rgH_norm (l' := #[true, true, true, true, true, true, true, true, true, true, true, true, true, true, true, false]) (by kernel_rfl) ?_
          refine wpAnyH_take (i := 15) (oi := ⟨some 9, _, _, _, _, _⟩) (v := ?_) rfl (by kernel_rfl) (by kernel_rfl) (by kernel_rfl) (fun _ _ _ h => h) (Or.inl ⟨by rfl, ?_⟩) ?_ ?_
          rotate_left 1
          · (intro W9 (hS9 : W9.cell? ⟨wo.heap.size, m, none⟩ = some (.string za)); go_simp; try with_reducible rfl)
          · first | assumption | (go_simp; done)
          conv => arg 8; simp only [Act.put, List.setIfInBounds_toArray, List.set_cons_succ, List.set_cons_zero]
          refine rgH_norm (l' := #[true, true, true, true, true, true, true, true, true, true, true, true, true, true, true, true]) (by kernel_rfl) ?_
          refine wpAnyH_done (by kernel_rfl) ?_ _
          go_wp2
          refine ⟨⟨i + 1, _, by omega, congrArg (Value.int .i64) (by omega), rfl, ?_, ?_, HU.out.trans (by repeat (first | exact Und.refl _ | assumption | refine Und.under ?_ _ | refine Und.alloc ?_ _ | refine Und.drew ?_ | refine Und.drewN ?_ _))⟩, by simp [intOf]; omega⟩
          · show _ = St.headL (i + 1) c
            rw [← HL.out]; simp
          · rw [size_app, size_app]; omega
        refine AllReady.cons (o := ⟨some 36, _, _, _, _, _⟩) rfl (fun K hK => ?_) ?_
        · skip
          go_simp
          refine hK _ _ ?_
          clear hK K
          conv => arg 7; simp only [Act.put, List.setIfInBounds_toArray, List.set_cons_succ, List.set_cons_zero]
          refine rg_norm (l' := #[true, false, true, true, false, false, true, true, true, true, true, false, false, false, false, false]) (by kernel_rfl) ?_
          refine wpAny_take (i := 11) (oi := ⟨some 41, _, _, _, _, _⟩) (v := ?_) rfl (by kernel_rfl) (by kernel_rfl) (by kernel_rfl) (fun _ _ _ h => h) (Or.inl ⟨by rfl, ?_⟩) ?_
          rotate_left 1
          · (intro W9; go_simp; try with_reducible rfl)
          conv => arg 7; simp only [Act.put, List.setIfInBounds_toArray, List.set_cons_succ, List.set_cons_zero]
          refine rg_norm (l' := #[true, false, true, true, false, false, true, true, true, true, true, true, false, false, false, false]) (by kernel_rfl) ?_
          refine wpAny_of_held (S := fun W => W.cell? ⟨wo.heap.size, q, none⟩ = some (.string zb)) _ _ _ _ ?_
          refine wpAnyH_take (i := 12) (oi := ⟨some 42, _, _, _, _, _⟩) (v := ?_) rfl (by kernel_rfl) (by kernel_rfl) (by kernel_rfl) (fun _ _ _ h => h) (Or.inl ⟨by rfl, ?_⟩) ?_ ?_
          rotate_left 1
          · (intro W9 (hS9 : W9.cell? ⟨wo.heap.size, q, none⟩ = some (.string zb)); go_simp; try with_reducible rfl)
          · first | assumption | (go_simp; done)
          conv => arg 8; simp only [Act.put, List.setIfInBounds_toArray, List.set_cons_succ, List.set_cons_zero]
          refine rgH_norm (l' := #[true, false, true, true, false, false, true, true, true, true, true, true, true, false, false, false]) (by kernel_rfl) ?_
          refine wpAnyH_ready (rs := [1]) (by kernel_rfl) (by simp) ?_
          refine AllReadyH.cons (o := ⟨some 31, _, _, _, _, _⟩) rfl (fun K hK => ?_) AllReadyH.nil
          go_simp
          refine hK _ _ ⟨?_, ?_⟩
          · clear hK K; first | assumption | (go_simp; done) | exact hS0
          clear hK K
          conv => arg 8; simp only [Act.put, List.setIfInBounds_toArray, List.set_cons_succ, List.set_cons_zero]
          refine rgH_norm (l' := #[true, true, true, true, false, false, true, true, true, true, true, true, true, false, false, false]) (by kernel_rfl) ?_
          refine wpAnyH_take (i := 4) (oi := ⟨some 34, _, _, _, _, _⟩) (v := ?_) rfl (by kernel_rfl) (by kernel_rfl) (by kernel_rfl) (fun _ _ _ h => h) (Or.inl ⟨by rfl, ?_⟩) ?_ ?_
          rotate_left 1
          · (intro W9 (hS9 : W9.cell? ⟨wo.heap.size, q, none⟩ = some (.string zb)); go_simp; try with_reducible rfl)
          · first | assumption | (go_simp; done)
          conv => arg 8; simp only [Act.put, List.setIfInBounds_toArray, List.set_cons_succ, List.set_cons_zero]
          refine rgH_norm (l' := #[true, true, true, true, true, false, true, true, true, true, true, true, true, false, false, false]) (by kernel_rfl) ?_
          refine wpAnyH_ready (rs := [5]) (by kernel_rfl) (by simp) ?_
          refine AllReadyH.cons (o := ⟨some 35, _, _, _, _, _⟩) rfl (fun K hK => ?_) AllReadyH.nil
          go_simp
          refine hK _ _ ⟨?_, ?_⟩
          · clear hK K; first | assumption | (go_simp; done) | exact hS0
          clear hK K
          conv => arg 8; simp only [Act.put, List.setIfInBounds_toArray, List.set_cons_succ, List.set_cons_zero]
          refine rgH_norm (l' := #[true, true, true, true, true, true, true, true, true, true, true, true, true, false, false, false]) (by kernel_rfl) ?_
          refine wpAnyH_take (i := 13) (oi := ⟨some 43, _, _, _, _, _⟩) (v := ?_) rfl (by kernel_rfl) (by kernel_rfl) (by kernel_rfl) (fun _ _ _ h => h) (Or.inl ⟨by rfl, ?_⟩) ?_ ?_
          rotate_left 1
          · (intro W9 (hS9 : W9.cell? ⟨wo.heap.size, q, none⟩ = some (.string zb)); go_simp; try with_reducible rfl)
          · first | assumption | (go_simp; done)
          conv => arg 8; simp only [Act.put, List.setIfInBounds_toArray, List.set_cons_succ, List.set_cons_zero]
          refine rgH_norm (l' := #[true, true, true, true, true, true, true, true, true, true, true, true, true, true, false, false]) (by kernel_rfl) ?_
          refine wpAnyH_take (i := 14) (oi := ⟨some 44, _, _, _, _, _⟩) (v := ?_) rfl (by kernel_rfl) (by kernel_rfl) (by kernel_rfl) (fun _ _ _ h => h) (Or.inl ⟨by rfl, ?_⟩) ?_ ?_
          rotate_left 1
          · (intro W9 (hS9 : W9.cell? ⟨wo.heap.size, q, none⟩ = some (.string zb)); go_simp; try with_reducible rfl)
          · first | assumption | (go_simp; done)
          conv => arg 8; simp only [Act.put, List.setIfInBounds_toArray, List.set_cons_succ, List.set_cons_zero]
          refine rgH_norm (l' := #[true, true, true, true, true, true, true, true, true, true, true, true, true, true, true, false]) (by kernel_rfl) ?_
          refine wpAnyH_take (i := 15) (oi := ⟨some 9, _, _, _, _, _⟩) (v := ?_) rfl (by kernel_rfl) (by kernel_rfl) (by kernel_rfl) (fun _ _ _ h => h) (Or.inl ⟨by rfl, ?_⟩) ?_ ?_
          rotate_left 1
          · (intro W9 (hS9 : W9.cell? ⟨wo.heap.size, q, none⟩ = some (.string zb)); go_simp; try with_reducible rfl)
          · first | assumption | (go_simp; done)
          conv => arg 8; simp only [Act.put, List.setIfInBounds_toArray, List.set_cons_succ, List.set_cons_zero]
          refine rgH_norm (l' := #[true, true, true, true, true, true, true, true, true, true, true, true, true, true, true, true]) (by kernel_rfl) ?_
          refine wpAnyH_done (by kernel_rfl) ?_ _
          go_wp2
          refine ⟨⟨i + 1, _, by omega, congrArg (Value.int .i64) (by omega), rfl, ?_, ?_, HU.out.trans (by repeat (first | exact Und.refl _ | assumption | refine Und.under ?_ _ | refine Und.alloc ?_ _ | refine Und.drew ?_ | refine Und.drewN ?_ _))⟩, by simp [intOf]; omega⟩
          · show _ = St.headL (i + 1) c
            rw [← HL.out]; simp
          · rw [size_app, size_app]; omega
        exact AllReady.nil
      exact AllReady.nil
    · obtain ⟨wp, rfl⟩ : ∃ wp : World, wp = wr := ⟨_, rfl⟩
      have hie : i = p + 1 := by omega
      have ht9 := HT.out
      rw [hie] at ht9
      have HT9 := hid ht9
      have hts9 : t.size ≤ 40 := by omega
      have hx1 : ¬ (i : Int) < 1 + (p : Int) := by omega
      have hU9 := HU
      clear HT ht9 hlt hi
      go_wp2
      go_loopw [10, 12] (fun s10 s12 wr' => ClRel wp (fun i => St.rowL i c quoted) (f + 1) s12 s10 wr') (fun _ s12 _ => f + 2 - (intOf s12).toNat)
      case atStart => exact ⟨0, ⟨#[]⟩, by omega, rfl, rfl, rfl, by show 0 ≤ _; omega, Und.refl _⟩
      case round =>
        clear hie hts hx1 HU
        obtain ⟨i, t2, hi, rfl, rfl, ht, hts, hu⟩ := hrel
        have HT := hid ht
        have HU := hid hu
        clear ht hu
        by_cases hlt : i < f + 1
        · have hlt' : (i : Int) < 1 + (f : Int) := by omega
          obtain ⟨wo, rfl⟩ : ∃ wo : World, wo = wr := ⟨_, rfl⟩
          by_cases hic : i = c
          · have hb : ((i : Int) == (c : Int)) = true := by simp <;> omega
            have HIC := hid (show (if (decide (i = c) && quoted) = true then ([34, 118, 34] : List UInt8) else [118]) = if quoted = true then [34, 118, 34] else [118] by rw [decide_eq_true hic]; rfl)
            clear hic
            go_wp2_with fail
            obtain ⟨m, hm⟩ : ∃ m : Nat, m = min i 1 := ⟨_, rfl⟩
            have hmin : min (i : Int) 1 = (m : Int) := by omega
            have hm2 : (m : Int) < 2 := by omega
            have hone := hid (fun W => one_any quoted W)
            obtain ⟨q, hq⟩ : ∃ q : Nat, oneN quoted = q := ⟨_, rfl⟩
            rw [hq] at hone
            have hq2 : (q : Int) < 2 := by rw [← hq]; unfold oneN; split <;> omega
            obtain ⟨za, hza⟩ : ∃ z : ByteArray, z = if m = 0 then ⟨#[]⟩ else ⟨#[44]⟩ := ⟨_, rfl⟩
            obtain ⟨zb, hzb⟩ : ∃ z : ByteArray, z = if q = 0 then ⟨#[118]⟩ else ⟨#[34, 118, 34]⟩ := ⟨_, rfl⟩
            have cA : ∀ W : World, (W.alloc (.cells #[.string ⟨#[]⟩, .string ⟨#[44]⟩] 9)).cell? ⟨W.heap.size, m, none⟩ = some (.string za) := by
              intro W
              rw [World.cell?_alloc_at _ _ _ _ rfl, hza]
              rcases (show m = 0 ∨ m = 1 by omega) with h | h <;> subst h <;> rfl
            have cB : ∀ W : World, (W.alloc (.cells #[.string ⟨#[118]⟩, .string ⟨#[34, 118, 34]⟩] 9)).cell? ⟨W.heap.size, q, none⟩ = some (.string zb) := by
              intro W
              rw [World.cell?_alloc_at _ _ _ _ rfl, hzb]
              rcases (show q = 0 ∨ q = 1 by omega) with h | h <;> subst h <;> rfl
            have hzas : za.size ≤ 1 := by rw [hza]; split <;> decide
            have hzbs : zb.size ≤ 3 := by rw [hzb]; split <;> decide
            have hlist : t2.data.toList ++ (za.data.toList ++ zb.data.toList) = St.rowL (i + 1) c quoted := by
              rw [HT.out, St.rowL_snoc, hza, hzb]
              congr 1
              congr 1
              · rw [hm]; by_cases h : i = 0
                · subst h; rfl
                · rw [if_neg h, if_neg (by omega)]
              · rw [← hq, HIC.out]; cases quoted <;> rfl
            have HL := hid hlist
            have LA : ([.string ⟨#[]⟩, .string ⟨#[44]⟩] : List Value)[m]? = some (.string za) := by
              rw [hza]
              rcases (show m = 0 ∨ m = 1 by omega) with h | h <;> subst h <;> rfl
            have LB : ([.string ⟨#[118]⟩, .string ⟨#[34, 118, 34]⟩] : List Value)[q]? = some (.string zb) := by
              rw [hzb]
              rcases (show q = 0 ∨ q = 1 by omega) with h | h <;> subst h <;> rfl
            have A1 := cA wo
            have B1 := cB wo
            have A2 := cA (wo.alloc (.cells #[.string ⟨#[118]⟩, .string ⟨#[34, 118, 34]⟩] 9))
            have B2 := cB (wo.alloc (.cells #[.string ⟨#[]⟩, .string ⟨#[44]⟩] 9))
            rw [show (wo.alloc (.cells #[.string ⟨#[118]⟩, .string ⟨#[34, 118, 34]⟩] 9)).heap.size = wo.heap.size + 1 by simp] at A2
            rw [show (wo.alloc (.cells #[.string ⟨#[]⟩, .string ⟨#[44]⟩] 9)).heap.size = wo.heap.size + 1 by simp] at B2
            clear cA cB hza hzb hlist hm hq
            have y1 : ¬ 9223372036854775807 < za.size + zb.size := by omega
            have y2 : ¬ 9223372036854775807 < t2.size + (za.size + zb.size) := by omega
            refine wp_region_any (by kernel_rfl) ?_
            try (change wpAny _ _ _ _ _ _ _ (World.drew _))
            refine rg_norm (l' := #[false, false, false, false, false, false, false, false, false, false, false, false, false, false, false, false, false, false, false]) (by kernel_rfl) ?_
            refine wpAny_take (i := 0) (oi := ⟨some 50, _, _, _, _, _⟩) (v := ?_) rfl (by kernel_rfl) (by kernel_rfl) (by kernel_rfl) (fun _ _ _ h => h) (Or.inl ⟨by rfl, ?_⟩) ?_
            rotate_left 1
            · (intro W9; go_simp; try with_reducible rfl)
            conv => arg 7; simp only [Act.put, List.setIfInBounds_toArray, List.set_cons_succ, List.set_cons_zero]
            refine rg_norm (l' := #[true, false, false, false, false, false, false, false, false, false, false, false, false, false, false, false, false, false, false]) (by kernel_rfl) ?_
            refine wpAny_take (i := 2) (oi := ⟨some 52, _, _, _, _, _⟩) (v := ?_) rfl (by kernel_rfl) (by kernel_rfl) (by kernel_rfl) (fun _ _ _ h => h) (Or.inl ⟨by rfl, ?_⟩) ?_
            rotate_left 1
            · (intro W9; go_simp; try with_reducible rfl)
            conv => arg 7; simp only [Act.put, List.setIfInBounds_toArray, List.set_cons_succ, List.set_cons_zero]
            refine rg_norm (l' := #[true, false, true, false, false, false, false, false, false, false, false, false, false, false, false, false, false, false, false]) (by kernel_rfl) ?_
            refine wpAny_take (i := 3) (oi := ⟨some 53, _, _, _, _, _⟩) (v := ?_) rfl (by kernel_rfl) (by kernel_rfl) (by kernel_rfl) (fun _ _ _ h => h) (Or.inl ⟨by rfl, ?_⟩) ?_
            rotate_left 1
            · (intro W9; go_simp; try with_reducible rfl)
            conv => arg 7; simp only [Act.put, List.setIfInBounds_toArray, List.set_cons_succ, List.set_cons_zero]
            refine rg_norm (l' := #[true, false, true, true, false, false, false, false, false, false, false, false, false, false, false, false, false, false, false]) (by kernel_rfl) ?_
            refine wpAny_take (i := 7) (oi := ⟨some 57, _, _, _, _, _⟩) (v := ?_) rfl (by kernel_rfl) (by kernel_rfl) (by kernel_rfl) (fun _ _ _ h => h) (Or.inl ⟨by rfl, ?_⟩) ?_
            rotate_left 1
            · (intro W9; go_simp; try with_reducible rfl)
            conv => arg 7; simp only [Act.put, List.setIfInBounds_toArray, List.set_cons_succ, List.set_cons_zero]
            refine rg_norm (l' := #[true, false, true, true, false, false, false, true, false, false, false, false, false, false, false, false, false, false, false]) (by kernel_rfl) ?_
            refine wpAny_take (i := 8) (oi := ⟨some 58, _, _, _, _, _⟩) (v := ?_) rfl (by kernel_rfl) (by kernel_rfl) (by kernel_rfl) (fun _ _ _ h => h) (Or.inl ⟨by rfl, ?_⟩) ?_
            rotate_left 1
            · (intro W9; go_simp; try with_reducible rfl)
            conv => arg 7; simp only [Act.put, List.setIfInBounds_toArray, List.set_cons_succ, List.set_cons_zero]
            refine rg_norm (l' := #[true, false, true, true, false, false, false, true, true, false, false, false, false, false, false, false, false, false, false]) (by kernel_rfl) ?_
            refine wpAny_take (i := 9) (oi := ⟨some 59, _, _, _, _, _⟩) (v := ?_) rfl (by kernel_rfl) (by kernel_rfl) (by kernel_rfl) (fun _ _ _ h => h) (Or.inl ⟨by rfl, ?_⟩) ?_
            rotate_left 1
            · (intro W9; go_simp; try with_reducible rfl)
            conv => arg 7; simp only [Act.put, List.setIfInBounds_toArray, List.set_cons_succ, List.set_cons_zero]
            refine rg_norm (l' := #[true, false, true, true, false, false, false, true, true, true, false, false, false, false, false, false, false, false, false]) (by kernel_rfl) ?_
            refine wpAny_take (i := 10) (oi := ⟨some 60, _, _, _, _, _⟩) (v := ?_) rfl (by kernel_rfl) (by kernel_rfl) (by kernel_rfl) (fun _ _ _ h => h) (Or.inl ⟨by rfl, ?_⟩) ?_
            rotate_left 1
            · (intro W9; go_simp; try with_reducible rfl)
            conv => arg 7; simp only [Act.put, List.setIfInBounds_toArray, List.set_cons_succ, List.set_cons_zero]
            refine rg_norm (l' := #[true, false, true, true, false, false, false, true, true, true, true, false, false, false, false, false, false, false, false]) (by kernel_rfl) ?_
            refine wpAny_take (i := 11) (oi := ⟨some 61, _, _, _, _, _⟩) (v := ?_) rfl (by kernel_rfl) (by kernel_rfl) (by kernel_rfl) (fun _ _ _ h => h) (Or.inl ⟨by rfl, ?_⟩) ?_
            rotate_left 1
            · (intro W9; go_simp; try with_reducible rfl)
            conv => arg 7; simp only [Act.put, List.setIfInBounds_toArray, List.set_cons_succ, List.set_cons_zero]
            refine rg_norm (l' := #[true, false, true, true, false, false, false, true, true, true, true, true, false, false, false, false, false, false, false]) (by kernel_rfl) ?_
            refine wpAny_take (i := 12) (oi := ⟨some 62, _, _, _, _, _⟩) (v := ?_) rfl (by kernel_rfl) (by kernel_rfl) (by kernel_rfl) (fun _ _ _ h => h) (Or.inl ⟨by rfl, ?_⟩) ?_
            rotate_left 1
            · (intro W9; go_simp; try with_reducible rfl)
            conv => arg 7; simp only [Act.put, List.setIfInBounds_toArray, List.set_cons_succ, List.set_cons_zero]
            refine rg_norm (l' := #[true, false, true, true, false, false, false, true, true, true, true, true, true, false, false, false, false, false, false]) (by kernel_rfl) ?_
            refine wpAny_ready (rs := [1, 6, 13]) (by kernel_rfl) (by simp) ?_
            refine AllReady.cons (o := ⟨some 51, _, _, _, _, _⟩) rfl (fun K hK => ?_) ?_
            · skip
              go_simp
              refine hK _ _ ?_
              clear hK K
              conv => arg 7; simp only [Act.put, List.setIfInBounds_toArray, List.set_cons_succ, List.set_cons_zero]
              refine rg_norm (l' := #[true, true, true, true, false, false, false, true, true, true, true, true, true, false, false, false, false, false, false]) (by kernel_rfl) ?_
              refine wpAny_take (i := 4) (oi := ⟨some 54, _, _, _, _, _⟩) (v := ?_) rfl (by kernel_rfl) (by kernel_rfl) (by kernel_rfl) (fun _ _ _ h => h) (Or.inl ⟨by rfl, ?_⟩) ?_
              rotate_left 1
              · (intro W9; go_simp; try with_reducible rfl)
              conv => arg 7; simp only [Act.put, List.setIfInBounds_toArray, List.set_cons_succ, List.set_cons_zero]
              refine rg_norm (l' := #[true, true, true, true, true, false, false, true, true, true, true, true, true, false, false, false, false, false, false]) (by kernel_rfl) ?_
              refine wpAny_of_held (S := fun W => W.cell? ⟨wo.heap.size, m, none⟩ = some (.string za)) _ _ _ _ ?_
              refine wpAnyH_take (i := 5) (oi := ⟨some 55, _, _, _, _, _⟩) (v := ?_) rfl (by kernel_rfl) (by kernel_rfl) (by kernel_rfl) (fun _ _ _ h => h) (Or.inl ⟨by rfl, ?_⟩) ?_ ?_
              rotate_left 1
              · (intro W9 (hS9 : W9.cell? ⟨wo.heap.size, m, none⟩ = some (.string za)); go_simp; try with_reducible rfl)
              · first | assumption | (go_simp; done)
              conv => arg 8; simp only [Act.put, List.setIfInBounds_toArray, List.set_cons_succ, List.set_cons_zero]
              refine rgH_norm (l' := #[true, true, true, true, true, true, false, true, true, true, true, true, true, false, false, false, false, false, false]) (by kernel_rfl) ?_
              refine wpAnyH_ready (rs := [6, 13]) (by kernel_rfl) (by simp) ?_
              refine AllReadyH.cons (o := ⟨some 56, _, _, _, _, _⟩) rfl (fun K hK => ?_) ?_
              · skip
                go_simp
                refine hK _ _ ⟨?_, ?_⟩
                · clear hK K; first | assumption | (go_simp; done) | exact hS0
                clear hK K
                conv => arg 8; simp only [Act.put, List.setIfInBounds_toArray, List.set_cons_succ, List.set_cons_zero]
                refine rgH_norm (l' := #[true, true, true, true, true, true, true, true, true, true, true, true, true, false, false, false, false, false, false]) (by kernel_rfl) ?_
                refine wpAnyH_ready (rs := [13]) (by kernel_rfl) (by simp) ?_
                refine AllReadyH.cons (o := ⟨some 63, _, _, _, _, _⟩) rfl (fun K hK => ?_) AllReadyH.nil
                with_reducible refine step_callR (o := ⟨some 63, _, _, _, _, _⟩) rfl 19 #[.bool quoted] (.int .i64 (q : Int)) Eq (hone.out _) ?_ ?_
                · go_simp
                rintro _ rfl
                refine hK _ _ ⟨?_, ?_⟩
                · clear hK K; first | assumption | (go_simp; done) | exact hS0
                clear hK K
                conv => arg 8; simp only [Act.put, List.setIfInBounds_toArray, List.set_cons_succ, List.set_cons_zero]
                refine rgH_norm (l' := #[true, true, true, true, true, true, true, true, true, true, true, true, true, true, false, false, false, false, false]) (by kernel_rfl) ?_
                refine wpAnyH_take (i := 14) (oi := ⟨some 64, _, _, _, _, _⟩) (v := ?_) rfl (by kernel_rfl) (by kernel_rfl) (by kernel_rfl) (fun _ _ _ h => h) (Or.inl ⟨by rfl, ?_⟩) ?_ ?_
                rotate_left 1
                · (intro W9 (hS9 : W9.cell? ⟨wo.heap.size, m, none⟩ = some (.string za)); go_simp; try with_reducible rfl)
                · first | assumption | (go_simp; done)
                conv => arg 8; simp only [Act.put, List.setIfInBounds_toArray, List.set_cons_succ, List.set_cons_zero]
                refine rgH_norm (l' := #[true, true, true, true, true, true, true, true, true, true, true, true, true, true, true, false, false, false, false]) (by kernel_rfl) ?_
                refine wpAnyH_ready (rs := [15]) (by kernel_rfl) (by simp) ?_
                refine AllReadyH.cons (o := ⟨some 65, _, _, _, _, _⟩) rfl (fun K hK => ?_) AllReadyH.nil
                go_simp
                refine hK _ _ ⟨?_, ?_⟩
                · clear hK K; first | assumption | (go_simp; done) | exact hS0
                clear hK K
                conv => arg 8; simp only [Act.put, List.setIfInBounds_toArray, List.set_cons_succ, List.set_cons_zero]
                refine rgH_norm (l' := #[true, true, true, true, true, true, true, true, true, true, true, true, true, true, true, true, false, false, false]) (by kernel_rfl) ?_
                refine wpAnyH_take (i := 16) (oi := ⟨some 66, _, _, _, _, _⟩) (v := ?_) rfl (by kernel_rfl) (by kernel_rfl) (by kernel_rfl) (fun _ _ _ h => h) (Or.inl ⟨by rfl, ?_⟩) ?_ ?_
                rotate_left 1
                · (intro W9 (hS9 : W9.cell? ⟨wo.heap.size, m, none⟩ = some (.string za)); go_simp; try with_reducible rfl)
                · first | assumption | (go_simp; done)
                conv => arg 8; simp only [Act.put, List.setIfInBounds_toArray, List.set_cons_succ, List.set_cons_zero]
                refine rgH_norm (l' := #[true, true, true, true, true, true, true, true, true, true, true, true, true, true, true, true, true, false, false]) (by kernel_rfl) ?_
                refine wpAnyH_take (i := 17) (oi := ⟨some 67, _, _, _, _, _⟩) (v := ?_) rfl (by kernel_rfl) (by kernel_rfl) (by kernel_rfl) (fun _ _ _ h => h) (Or.inl ⟨by rfl, ?_⟩) ?_ ?_
                rotate_left 1
                · (intro W9 (hS9 : W9.cell? ⟨wo.heap.size, m, none⟩ = some (.string za)); go_simp; try with_reducible rfl)
                · first | assumption | (go_simp; done)
                conv => arg 8; simp only [Act.put, List.setIfInBounds_toArray, List.set_cons_succ, List.set_cons_zero]
                refine rgH_norm (l' := #[true, true, true, true, true, true, true, true, true, true, true, true, true, true, true, true, true, true, false]) (by kernel_rfl) ?_
                refine wpAnyH_take (i := 18) (oi := ⟨some 10, _, _, _, _, _⟩) (v := ?_) rfl (by kernel_rfl) (by kernel_rfl) (by kernel_rfl) (fun _ _ _ h => h) (Or.inl ⟨by rfl, ?_⟩) ?_ ?_
                rotate_left 1
                · (intro W9 (hS9 : W9.cell? ⟨wo.heap.size, m, none⟩ = some (.string za)); go_simp; try with_reducible rfl)
                · first | assumption | (go_simp; done)
                conv => arg 8; simp only [Act.put, List.setIfInBounds_toArray, List.set_cons_succ, List.set_cons_zero]
                refine rgH_norm (l' := #[true, true, true, true, true, true, true, true, true, true, true, true, true, true, true, true, true, true, true]) (by kernel_rfl) ?_
                refine wpAnyH_done (by kernel_rfl) ?_ _
                go_wp2
                refine ⟨⟨i + 1, _, by omega, congrArg (Value.int .i64) (by omega), rfl, ?_, ?_, HU.out.trans (by repeat (first | exact Und.refl _ | assumption | refine Und.under ?_ _ | refine Und.alloc ?_ _ | refine Und.drew ?_ | refine Und.drewN ?_ _))⟩, by simp [intOf]; omega⟩
                · show _ = St.rowL (i + 1) c quoted
                  rw [← HL.out]; simp
                · rw [size_app, size_app]; omega
              refine AllReadyH.cons (o := ⟨some 63, _, _, _, _, _⟩) rfl (fun K hK => ?_) ?_
              · skip
                with_reducible refine step_callR (o := ⟨some 63, _, _, _, _, _⟩) rfl 19 #[.bool quoted] (.int .i64 (q : Int)) Eq (hone.out _) ?_ ?_
                · go_simp
                rintro _ rfl
                refine hK _ _ ⟨?_, ?_⟩
                · clear hK K; first | assumption | (go_simp; done) | exact hS0
                clear hK K
                conv => arg 8; simp only [Act.put, List.setIfInBounds_toArray, List.set_cons_succ, List.set_cons_zero]
                refine rgH_norm (l' := #[true, true, true, true, true, true, false, true, true, true, true, true, true, true, false, false, false, false, false]) (by kernel_rfl) ?_
                refine wpAnyH_ready (rs := [6]) (by kernel_rfl) (by simp) ?_
                refine AllReadyH.cons (o := ⟨some 56, _, _, _, _, _⟩) rfl (fun K hK => ?_) AllReadyH.nil
                go_simp
                refine hK _ _ ⟨?_, ?_⟩
                · clear hK K; first | assumption | (go_simp; done) | exact hS0
                clear hK K
                conv => arg 8; simp only [Act.put, List.setIfInBounds_toArray, List.set_cons_succ, List.set_cons_zero]
                refine rgH_norm (l' := #[true, true, true, true, true, true, true, true, true, true, true, true, true, true, false, false, false, false, false]) (by kernel_rfl) ?_
                refine wpAnyH_take (i := 14) (oi := ⟨some 64, _, _, _, _, _⟩) (v := ?_) rfl (by kernel_rfl) (by kernel_rfl) (by kernel_rfl) (fun _ _ _ h => h) (Or.inl ⟨by rfl, ?_⟩) ?_ ?_
                rotate_left 1
                · (intro W9 (hS9 : W9.cell? ⟨wo.heap.size, m, none⟩ = some (.string za)); go_simp; try with_reducible rfl)
                · first | assumption | (go_simp; done)
                conv => arg 8; simp only [Act.put, List.setIfInBounds_toArray, List.set_cons_succ, List.set_cons_zero]
                refine rgH_norm (l' := #[true, true, true, true, true, true, true, true, true, true, true, true, true, true, true, false, false, false, false]) (by kernel_rfl) ?_
                refine wpAnyH_ready (rs := [15]) (by kernel_rfl) (by simp) ?_
                refine AllReadyH.cons (o := ⟨some 65, _, _, _, _, _⟩) rfl (fun K hK => ?_) AllReadyH.nil
                go_simp
                refine hK _ _ ⟨?_, ?_⟩
                · clear hK K; first | assumption | (go_simp; done) | exact hS0
                clear hK K
                conv => arg 8; simp only [Act.put, List.setIfInBounds_toArray, List.set_cons_succ, List.set_cons_zero]
                refine rgH_norm (l' := #[true, true, true, true, true, true, true, true, true, true, true, true, true, true, true, true, false, false, false]) (by kernel_rfl) ?_
                refine wpAnyH_take (i := 16) (oi := ⟨some 66, _, _, _, _, _⟩) (v := ?_) rfl (by kernel_rfl) (by kernel_rfl) (by kernel_rfl) (fun _ _ _ h => h) (Or.inl ⟨by rfl, ?_⟩) ?_ ?_
                rotate_left 1
                · (intro W9 (hS9 : W9.cell? ⟨wo.heap.size, m, none⟩ = some (.string za)); go_simp; try with_reducible rfl)
                · first | assumption | (go_simp; done)
                conv => arg 8; simp only [Act.put, List.setIfInBounds_toArray, List.set_cons_succ, List.set_cons_zero]
                refine rgH_norm (l' := #[true, true, true, true, true, true, true, true, true, true, true, true, true, true, true, true, true, false, false]) (by kernel_rfl) ?_
                refine wpAnyH_take (i := 17) (oi := ⟨some 67, _, _, _, _, _⟩) (v := ?_) rfl (by kernel_rfl) (by kernel_rfl) (by kernel_rfl) (fun _ _ _ h => h) (Or.inl ⟨by rfl, ?_⟩) ?_ ?_
                rotate_left 1
                · (intro W9 (hS9 : W9.cell? ⟨wo.heap.size, m, none⟩ = some (.string za)); go_simp; try with_reducible rfl)
                · first | assumption | (go_simp; done)
                conv => arg 8; simp only [Act.put, List.setIfInBounds_toArray, List.set_cons_succ, List.set_cons_zero]
                refine rgH_norm (l' := #[true, true, true, true, true, true, true, true, true, true, true, true, true, true, true, true, true, true, false]) (by kernel_rfl) ?_
                refine wpAnyH_take (i := 18) (oi := ⟨some 10, _, _, _, _, _⟩) (v := ?_) rfl (by kernel_rfl) (by kernel_rfl) (by kernel_rfl) (fun _ _ _ h => h) (Or.inl ⟨by rfl, ?_⟩) ?_ ?_
                rotate_left 1
                · (intro W9 (hS9 : W9.cell? ⟨wo.heap.size, m, none⟩ = some (.string za)); go_simp; try with_reducible rfl)
                · first | assumption | (go_simp; done)
                conv => arg 8; simp only [Act.put, List.setIfInBounds_toArray, List.set_cons_succ, List.set_cons_zero]
                refine rgH_norm (l' := #[true, true, true, true, true, true, true, true, true, true, true, true, true, true, true, true, true, true, true]) (by kernel_rfl) ?_
                refine wpAnyH_done (by kernel_rfl) ?_ _
                go_wp2
                refine ⟨⟨i + 1, _, by omega, congrArg (Value.int .i64) (by omega), rfl, ?_, ?_, HU.out.trans (by repeat (first | exact Und.refl _ | assumption | refine Und.under ?_ _ | refine Und.alloc ?_ _ | refine Und.drew ?_ | refine Und.drewN ?_ _))⟩, by simp [intOf]; omega⟩
                · show _ = St.rowL (i + 1) c quoted
                  rw [← HL.out]; simp
                · rw [size_app, size_app]; omega
              exact AllReadyH.nil
            refine AllReady.cons (o := ⟨some 56, _, _, _, _, _⟩) rfl (fun K hK => ?_) ?_
            · skip
              go_simp
              refine hK _ _ ?_
              clear hK K
              conv => arg 7; simp only [Act.put, List.setIfInBounds_toArray, List.set_cons_succ, List.set_cons_zero]
              refine rg_norm (l' := #[true, false, true, true, false, false, true, true, true, true, true, true, true, false, false, false, false, false, false]) (by kernel_rfl) ?_
              refine wpAny_ready (rs := [1, 13]) (by kernel_rfl) (by simp) ?_
              refine AllReady.cons (o := ⟨some 51, _, _, _, _, _⟩) rfl (fun K hK => ?_) ?_
              · skip
                go_simp
                refine hK _ _ ?_
                clear hK K
                conv => arg 7; simp only [Act.put, List.setIfInBounds_toArray, List.set_cons_succ, List.set_cons_zero]
                refine rg_norm (l' := #[true, true, true, true, false, false, true, true, true, true, true, true, true, false, false, false, false, false, false]) (by kernel_rfl) ?_
                refine wpAny_take (i := 4) (oi := ⟨some 54, _, _, _, _, _⟩) (v := ?_) rfl (by kernel_rfl) (by kernel_rfl) (by kernel_rfl) (fun _ _ _ h => h) (Or.inl ⟨by rfl, ?_⟩) ?_
                rotate_left 1
                · (intro W9; go_simp; try with_reducible rfl)
                conv => arg 7; simp only [Act.put, List.setIfInBounds_toArray, List.set_cons_succ, List.set_cons_zero]
                refine rg_norm (l' := #[true, true, true, true, true, false, true, true, true, true, true, true, true, false, false, false, false, false, false]) (by kernel_rfl) ?_
                refine wpAny_of_held (S := fun W => W.cell? ⟨wo.heap.size + 1, m, none⟩ = some (.string za)) _ _ _ _ ?_
                refine wpAnyH_take (i := 5) (oi := ⟨some 55, _, _, _, _, _⟩) (v := ?_) rfl (by kernel_rfl) (by kernel_rfl) (by kernel_rfl) (fun _ _ _ h => h) (Or.inl ⟨by rfl, ?_⟩) ?_ ?_
                rotate_left 1
                · (intro W9 (hS9 : W9.cell? ⟨wo.heap.size + 1, m, none⟩ = some (.string za)); go_simp; try with_reducible rfl)
                · first | assumption | (go_simp; done)
                conv => arg 8; simp only [Act.put, List.setIfInBounds_toArray, List.set_cons_succ, List.set_cons_zero]
                refine rgH_norm (l' := #[true, true, true, true, true, true, true, true, true, true, true, true, true, false, false, false, false, false, false]) (by kernel_rfl) ?_
                refine wpAnyH_ready (rs := [13]) (by kernel_rfl) (by simp) ?_
                refine AllReadyH.cons (o := ⟨some 63, _, _, _, _, _⟩) rfl (fun K hK => ?_) AllReadyH.nil
                with_reducible refine step_callR (o := ⟨some 63, _, _, _, _, _⟩) rfl 19 #[.bool quoted] (.int .i64 (q : Int)) Eq (hone.out _) ?_ ?_
                · go_simp
                rintro _ rfl
                refine hK _ _ ⟨?_, ?_⟩
                · clear hK K; first | assumption | (go_simp; done) | exact hS0
                clear hK K
                conv => arg 8; simp only [Act.put, List.setIfInBounds_toArray, List.set_cons_succ, List.set_cons_zero]
                refine rgH_norm (l' := #[true, true, true, true, true, true, true, true, true, true, true, true, true, true, false, false, false, false, false]) (by kernel_rfl) ?_
                refine wpAnyH_take (i := 14) (oi := ⟨some 64, _, _, _, _, _⟩) (v := ?_) rfl (by kernel_rfl) (by kernel_rfl) (by kernel_rfl) (fun _ _ _ h => h) (Or.inl ⟨by rfl, ?_⟩) ?_ ?_
                rotate_left 1
                · (intro W9 (hS9 : W9.cell? ⟨wo.heap.size + 1, m, none⟩ = some (.string za)); go_simp; try with_reducible rfl)
                · first | assumption | (go_simp; done)
                conv => arg 8; simp only [Act.put, List.setIfInBounds_toArray, List.set_cons_succ, List.set_cons_zero]
                refine rgH_norm (l' := #[true, true, true, true, true, true, true, true, true, true, true, true, true, true, true, false, false, false, false]) (by kernel_rfl) ?_
                refine wpAnyH_ready (rs := [15]) (by kernel_rfl) (by simp) ?_
                refine AllReadyH.cons (o := ⟨some 65, _, _, _, _, _⟩) rfl (fun K hK => ?_) AllReadyH.nil
                go_simp
                refine hK _ _ ⟨?_, ?_⟩
                · clear hK K; first | assumption | (go_simp; done) | exact hS0
                clear hK K
                conv => arg 8; simp only [Act.put, List.setIfInBounds_toArray, List.set_cons_succ, List.set_cons_zero]
                refine rgH_norm (l' := #[true, true, true, true, true, true, true, true, true, true, true, true, true, true, true, true, false, false, false]) (by kernel_rfl) ?_
                refine wpAnyH_take (i := 16) (oi := ⟨some 66, _, _, _, _, _⟩) (v := ?_) rfl (by kernel_rfl) (by kernel_rfl) (by kernel_rfl) (fun _ _ _ h => h) (Or.inl ⟨by rfl, ?_⟩) ?_ ?_
                rotate_left 1
                · (intro W9 (hS9 : W9.cell? ⟨wo.heap.size + 1, m, none⟩ = some (.string za)); go_simp; try with_reducible rfl)
                · first | assumption | (go_simp; done)
                conv => arg 8; simp only [Act.put, List.setIfInBounds_toArray, List.set_cons_succ, List.set_cons_zero]
                refine rgH_norm (l' := #[true, true, true, true, true, true, true, true, true, true, true, true, true, true, true, true, true, false, false]) (by kernel_rfl) ?_
                refine wpAnyH_take (i := 17) (oi := ⟨some 67, _, _, _, _, _⟩) (v := ?_) rfl (by kernel_rfl) (by kernel_rfl) (by kernel_rfl) (fun _ _ _ h => h) (Or.inl ⟨by rfl, ?_⟩) ?_ ?_
                rotate_left 1
                · (intro W9 (hS9 : W9.cell? ⟨wo.heap.size + 1, m, none⟩ = some (.string za)); go_simp; try with_reducible rfl)
                · first | assumption | (go_simp; done)
                conv => arg 8; simp only [Act.put, List.setIfInBounds_toArray, List.set_cons_succ, List.set_cons_zero]
                refine rgH_norm (l' := #[true, true, true, true, true, true, true, true, true, true, true, true, true, true, true, true, true, true, false]) (by kernel_rfl) ?_
                refine wpAnyH_take (i := 18) (oi := ⟨some 10, _, _, _, _, _⟩) (v := ?_) rfl (by kernel_rfl) (by kernel_rfl) (by kernel_rfl) (fun _ _ _ h => h) (Or.inl ⟨by rfl, ?_⟩) ?_ ?_
                rotate_left 1
                · (intro W9 (hS9 : W9.cell? ⟨wo.heap.size + 1, m, none⟩ = some (.string za)); go_simp; try with_reducible rfl)
                · first | assumption | (go_simp; done)
                conv => arg 8; simp only [Act.put, List.setIfInBounds_toArray, List.set_cons_succ, List.set_cons_zero]
                refine rgH_norm (l' := #[true, true, true, true, true, true, true, true, true, true, true, true, true, true, true, true, true, true, true]) (by kernel_rfl) ?_
                refine wpAnyH_done (by kernel_rfl) ?_ _
                go_wp2
                refine ⟨⟨i + 1, _, by omega, congrArg (Value.int .i64) (by omega), rfl, ?_, ?_, HU.out.trans (by repeat (first | exact Und.refl _ | assumption | refine Und.under ?_ _ | refine Und.alloc ?_ _ | refine Und.drew ?_ | refine Und.drewN ?_ _))⟩, by simp [intOf]; omega⟩
                · show _ = St.rowL (i + 1) c quoted
                  rw [← HL.out]; simp
                · rw [size_app, size_app]; omega
              refine AllReady.cons (o := ⟨some 63, _, _, _, _, _⟩) rfl (fun K hK => ?_) ?_
              · skip
                with_reducible refine step_callR (o := ⟨some 63, _, _, _, _, _⟩) rfl 19 #[.bool quoted] (.int .i64 (q : Int)) Eq (hone.out _) ?_ ?_
                · go_simp
                rintro _ rfl
                refine hK _ _ ?_
                clear hK K
                conv => arg 7; simp only [Act.put, List.setIfInBounds_toArray, List.set_cons_succ, List.set_cons_zero]
                refine rg_norm (l' := #[true, false, true, true, false, false, true, true, true, true, true, true, true, true, false, false, false, false, false]) (by kernel_rfl) ?_
                refine wpAny_take (i := 14) (oi := ⟨some 64, _, _, _, _, _⟩) (v := ?_) rfl (by kernel_rfl) (by kernel_rfl) (by kernel_rfl) (fun _ _ _ h => h) (Or.inl ⟨by rfl, ?_⟩) ?_
                rotate_left 1
                · (intro W9; go_simp; try with_reducible rfl)
                conv => arg 7; simp only [Act.put, List.setIfInBounds_toArray, List.set_cons_succ, List.set_cons_zero]
                refine rg_norm (l' := #[true, false, true, true, false, false, true, true, true, true, true, true, true, true, true, false, false, false, false]) (by kernel_rfl) ?_
                refine wpAny_of_held (S := fun W => W.cell? ⟨wo.heap.size, q, none⟩ = some (.string zb)) _ _ _ _ ?_
                refine wpAnyH_take (i := 15) (oi := ⟨some 65, _, _, _, _, _⟩) (v := ?_) rfl (by kernel_rfl) (by kernel_rfl) (by kernel_rfl) (fun _ _ _ h => h) (Or.inl ⟨by rfl, ?_⟩) ?_ ?_
                rotate_left 1
                · (intro W9 (hS9 : W9.cell? ⟨wo.heap.size, q, none⟩ = some (.string zb)); go_simp; try with_reducible rfl)
                · first | assumption | (go_simp; done)
                conv => arg 8; simp only [Act.put, List.setIfInBounds_toArray, List.set_cons_succ, List.set_cons_zero]
                refine rgH_norm (l' := #[true, false, true, true, false, false, true, true, true, true, true, true, true, true, true, true, false, false, false]) (by kernel_rfl) ?_
                refine wpAnyH_ready (rs := [1]) (by kernel_rfl) (by simp) ?_
                refine AllReadyH.cons (o := ⟨some 51, _, _, _, _, _⟩) rfl (fun K hK => ?_) AllReadyH.nil
                go_simp
                refine hK _ _ ⟨?_, ?_⟩
                · clear hK K; first | assumption | (go_simp; done) | exact hS0
                clear hK K
                conv => arg 8; simp only [Act.put, List.setIfInBounds_toArray, List.set_cons_succ, List.set_cons_zero]
                refine rgH_norm (l' := #[true, true, true, true, false, false, true, true, true, true, true, true, true, true, true, true, false, false, false]) (by kernel_rfl) ?_
                refine wpAnyH_take (i := 4) (oi := ⟨some 54, _, _, _, _, _⟩) (v := ?_) rfl (by kernel_rfl) (by kernel_rfl) (by kernel_rfl) (fun _ _ _ h => h) (Or.inl ⟨by rfl, ?_⟩) ?_ ?_
                rotate_left 1
                · (intro W9 (hS9 : W9.cell? ⟨wo.heap.size, q, none⟩ = some (.string zb)); go_simp; try with_reducible rfl)
                · first | assumption | (go_simp; done)
                conv => arg 8; simp only [Act.put, List.setIfInBounds_toArray, List.set_cons_succ, List.set_cons_zero]
                refine rgH_norm (l' := #[true, true, true, true, true, false, true, true, true, true, true, true, true, true, true, true, false, false, false]) (by kernel_rfl) ?_
                refine wpAnyH_ready (rs := [5]) (by kernel_rfl) (by simp) ?_
                refine AllReadyH.cons (o := ⟨some 55, _, _, _, _, _⟩) rfl (fun K hK => ?_) AllReadyH.nil
                go_simp
                refine hK _ _ ⟨?_, ?_⟩
                · clear hK K; first | assumption | (go_simp; done) | exact hS0
                clear hK K
                conv => arg 8; simp only [Act.put, List.setIfInBounds_toArray, List.set_cons_succ, List.set_cons_zero]
                refine rgH_norm (l' := #[true, true, true, true, true, true, true, true, true, true, true, true, true, true, true, true, false, false, false]) (by kernel_rfl) ?_
                refine wpAnyH_take (i := 16) (oi := ⟨some 66, _, _, _, _, _⟩) (v := ?_) rfl (by kernel_rfl) (by kernel_rfl) (by kernel_rfl) (fun _ _ _ h => h) (Or.inl ⟨by rfl, ?_⟩) ?_ ?_
                rotate_left 1
                · (intro W9 (hS9 : W9.cell? ⟨wo.heap.size, q, none⟩ = some (.string zb)); go_simp; try with_reducible rfl)
                · first | assumption | (go_simp; done)
                conv => arg 8; simp only [Act.put, List.setIfInBounds_toArray, List.set_cons_succ, List.set_cons_zero]
                refine rgH_norm (l' := #[true, true, true, true, true, true, true, true, true, true, true, true, true, true, true, true, true, false, false]) (by kernel_rfl) ?_
                refine wpAnyH_take (i := 17) (oi := ⟨some 67, _, _, _, _, _⟩) (v := ?_) rfl (by kernel_rfl) (by kernel_rfl) (by kernel_rfl) (fun _ _ _ h => h) (Or.inl ⟨by rfl, ?_⟩) ?_ ?_
                rotate_left 1
                · (intro W9 (hS9 : W9.cell? ⟨wo.heap.size, q, none⟩ = some (.string zb)); go_simp; try with_reducible rfl)
                · first | assumption | (go_simp; done)
                conv => arg 8; simp only [Act.put, List.setIfInBounds_toArray, List.set_cons_succ, List.set_cons_zero]
                refine rgH_norm (l' := #[true, true, true, true, true, true, true, true, true, true, true, true, true, true, true, true, true, true, false]) (by kernel_rfl) ?_
                refine wpAnyH_take (i := 18) (oi := ⟨some 10, _, _, _, _, _⟩) (v := ?_) rfl (by kernel_rfl) (by kernel_rfl) (by kernel_rfl) (fun _ _ _ h => h) (Or.inl ⟨by rfl, ?_⟩) ?_ ?_
                rotate_left 1
                · (intro W9 (hS9 : W9.cell? ⟨wo.heap.size, q, none⟩ = some (.string zb)); go_simp; try with_reducible rfl)
                · first | assumption | (go_simp; done)
                conv => arg 8; simp only [Act.put, List.setIfInBounds_toArray, List.set_cons_succ, List.set_cons_zero]
                refine rgH_norm (l' := #[true, true, true, true, true, true, true, true, true, true, true, true, true, true, true, true, true, true, true]) (by kernel_rfl) ?_
                refine wpAnyH_done (by kernel_rfl) ?_ _
                go_wp2
                refine ⟨⟨i + 1, _, by omega, congrArg (Value.int .i64) (by omega), rfl, ?_, ?_, HU.out.trans (by repeat (first | exact Und.refl _ | assumption | refine Und.under ?_ _ | refine Und.alloc ?_ _ | refine Und.drew ?_ | refine Und.drewN ?_ _))⟩, by simp [intOf]; omega⟩
                · show _ = St.rowL (i + 1) c quoted
                  rw [← HL.out]; simp
                · rw [size_app, size_app]; omega
              exact AllReady.nil
            refine AllReady.cons (o := ⟨some 63, _, _, _, _, _⟩) rfl (fun K hK => ?_) ?_
            · skip
              with_reducible refine step_callR (o := ⟨some 63, _, _, _, _, _⟩) rfl 19 #[.bool quoted] (.int .i64 (q : Int)) Eq (hone.out _) ?_ ?_
              · go_simp
              rintro _ rfl
              refine hK _ _ ?_
              clear hK K
              conv => arg 7; simp only [Act.put, List.setIfInBounds_toArray, List.set_cons_succ, List.set_cons_zero]
              refine rg_norm (l' := #[true, false, true, true, false, false, false, true, true, true, true, true, true, true, false, false, false, false, false]) (by kernel_rfl) ?_
              refine wpAny_ready (rs := [1, 6]) (by kernel_rfl) (by simp) ?_
              refine AllReady.cons (o := ⟨some 51, _, _, _, _, _⟩) rfl (fun K hK => ?_) ?_
              · skip
                go_simp
                refine hK _ _ ?_
                clear hK K
                conv => arg 7; simp only [Act.put, List.setIfInBounds_toArray, List.set_cons_succ, List.set_cons_zero]
                refine rg_norm (l' := #[true, true, true, true, false, false, false, true, true, true, true, true, true, true, false, false, false, false, false]) (by kernel_rfl) ?_
                refine wpAny_take (i := 4) (oi := ⟨some 54, _, _, _, _, _⟩) (v := ?_) rfl (by kernel_rfl) (by kernel_rfl) (by kernel_rfl) (fun _ _ _ h => h) (Or.inl ⟨by rfl, ?_⟩) ?_
                rotate_left 1
                · (intro W9; go_simp; try with_reducible rfl)
                conv => arg 7; simp only [Act.put, List.setIfInBounds_toArray, List.set_cons_succ, List.set_cons_zero]
                refine rg_norm (l' := #[true, true, true, true, true, false, false, true, true, true, true, true, true, true, false, false, false, false, false]) (by kernel_rfl) ?_
                refine wpAny_of_held (S := fun W => W.cell? ⟨wo.heap.size, m, none⟩ = some (.string za)) _ _ _ _ ?_
                refine wpAnyH_take (i := 5) (oi := ⟨some 55, _, _, _, _, _⟩) (v := ?_) rfl (by kernel_rfl) (by kernel_rfl) (by kernel_rfl) (fun _ _ _ h => h) (Or.inl ⟨by rfl, ?_⟩) ?_ ?_
                rotate_left 1
                · (intro W9 (hS9 : W9.cell? ⟨wo.heap.size, m, none⟩ = some (.string za)); go_simp; try with_reducible rfl)
                · first | assumption | (go_simp; done)
                conv => arg 8; simp only [Act.put, List.setIfInBounds_toArray, List.set_cons_succ, List.set_cons_zero]
                refine rgH_norm (l' := #[true, true, true, true, true, true, false, true, true, true, true, true, true, true, false, false, false, false, false]) (by kernel_rfl) ?_
                refine wpAnyH_ready (rs := [6]) (by kernel_rfl) (by simp) ?_
                refine AllReadyH.cons (o := ⟨some 56, _, _, _, _, _⟩) rfl (fun K hK => ?_) AllReadyH.nil
                go_simp
                refine hK _ _ ⟨?_, ?_⟩
                · clear hK K; first | assumption | (go_simp; done) | exact hS0
                clear hK K
                conv => arg 8; simp only [Act.put, List.setIfInBounds_toArray, List.set_cons_succ, List.set_cons_zero]
                refine rgH_norm (l' := #[true, true, true, true, true, true, true, true, true, true, true, true, true, true, false, false, false, false, false]) (by kernel_rfl) ?_
                refine wpAnyH_take (i := 14) (oi := ⟨some 64, _, _, _, _, _⟩) (v := ?_) rfl (by kernel_rfl) (by kernel_rfl) (by kernel_rfl) (fun _ _ _ h => h) (Or.inl ⟨by rfl, ?_⟩) ?_ ?_
                rotate_left 1
                · (intro W9 (hS9 : W9.cell? ⟨wo.heap.size, m, none⟩ = some (.string za)); go_simp; try with_reducible rfl)
                · first | assumption | (go_simp; done)
                conv => arg 8; simp only [Act.put, List.setIfInBounds_toArray, List.set_cons_succ, List.set_cons_zero]
                refine rgH_norm (l' := #[true, true, true, true, true, true, true, true, true, true, true, true, true, true, true, false, false, false, false]) (by kernel_rfl) ?_
                refine wpAnyH_ready (rs := [15]) (by kernel_rfl) (by simp) ?_
                refine AllReadyH.cons (o := ⟨some 65, _, _, _, _, _⟩) rfl (fun K hK => ?_) AllReadyH.nil
                go_simp
                refine hK _ _ ⟨?_, ?_⟩
                · clear hK K; first | assumption | (go_simp; done) | exact hS0
                clear hK K
                conv => arg 8; simp only [Act.put, List.setIfInBounds_toArray, List.set_cons_succ, List.set_cons_zero]
                refine rgH_norm (l' := #[true, true, true, true, true, true, true, true, true, true, true, true, true, true, true, true, false, false, false]) (by kernel_rfl) ?_
                refine wpAnyH_take (i := 16) (oi := ⟨some 66, _, _, _, _, _⟩) (v := ?_) rfl (by kernel_rfl) (by kernel_rfl) (by kernel_rfl) (fun _ _ _ h => h) (Or.inl ⟨by rfl, ?_⟩) ?_ ?_
                rotate_left 1
                · (intro W9 (hS9 : W9.cell? ⟨wo.heap.size, m, none⟩ = some (.string za)); go_simp; try with_reducible rfl)
                · first | assumption | (go_simp; done)
                conv => arg 8; simp only [Act.put, List.setIfInBounds_toArray, List.set_cons_succ, List.set_cons_zero]
                refine rgH_norm (l' := #[true, true, true, true, true, true, true, true, true, true, true, true, true, true, true, true, true, false, false]) (by kernel_rfl) ?_
                refine wpAnyH_take (i := 17) (oi := ⟨some 67, _, _, _, _, _⟩) (v := ?_) rfl (by kernel_rfl) (by kernel_rfl) (by kernel_rfl) (fun _ _ _ h => h) (Or.inl ⟨by rfl, ?_⟩) ?_ ?_
                rotate_left 1
                · (intro W9 (hS9 : W9.cell? ⟨wo.heap.size, m, none⟩ = some (.string za)); go_simp; try with_reducible rfl)
                · first | assumption | (go_simp; done)
                conv => arg 8; simp only [Act.put, List.setIfInBounds_toArray, List.set_cons_succ, List.set_cons_zero]
                refine rgH_norm (l' := #[true, true, true, true, true, true, true, true, true, true, true, true, true, true, true, true, true, true, false]) (by kernel_rfl) ?_
                refine wpAnyH_take (i := 18) (oi := ⟨some 10, _, _, _, _, _⟩) (v := ?_) rfl (by kernel_rfl) (by kernel_rfl) (by kernel_rfl) (fun _ _ _ h => h) (Or.inl ⟨by rfl, ?_⟩) ?_ ?_
                rotate_left 1
                · (intro W9 (hS9 : W9.cell? ⟨wo.heap.size, m, none⟩ = some (.string za)); go_simp; try with_reducible rfl)
                · first | assumption | (go_simp; done)
                conv => arg 8; simp only [Act.put, List.setIfInBounds_toArray, List.set_cons_succ, List.set_cons_zero]
                refine rgH_norm (l' := #[true, true, true, true, true, true, true, true, true, true, true, true, true, true, true, true, true, true, true]) (by kernel_rfl) ?_
                refine wpAnyH_done (by kernel_rfl) ?_ _
                go_wp2
                refine ⟨⟨i + 1, _, by omega, congrArg (Value.int .i64) (by omega), rfl, ?_, ?_, HU.out.trans (by repeat (first | exact Und.refl _ | assumption | refine Und.under ?_ _ | refine Und.alloc ?_ _ | refine Und.drew ?_ | refine Und.drewN ?_ _))⟩, by simp [intOf]; omega⟩
                · show _ = St.rowL (i + 1) c quoted
                  rw [← HL.out]; simp
                · rw [size_app, size_app]; omega
              refine AllReady.cons (o := ⟨some 56, _, _, _, _, _⟩) rfl (fun K hK => ?_) ?_
              · skip
                go_simp
                refine hK _ _ ?_
                clear hK K
                conv => arg 7; simp only [Act.put, List.setIfInBounds_toArray, List.set_cons_succ, List.set_cons_zero]
                refine rg_norm (l' := #[true, false, true, true, false, false, true, true, true, true, true, true, true, true, false, false, false, false, false]) (by kernel_rfl) ?_
                refine wpAny_take (i := 14) (oi := ⟨some 64, _, _, _, _, _⟩) (v := ?_) rfl (by kernel_rfl) (by kernel_rfl) (by kernel_rfl) (fun _ _ _ h => h) (Or.inl ⟨by rfl, ?_⟩) ?_
                rotate_left 1
                · (intro W9; go_simp; try with_reducible rfl)
                conv => arg 7; simp only [Act.put, List.setIfInBounds_toArray, List.set_cons_succ, List.set_cons_zero]
                refine rg_norm (l' := #[true, false, true, true, false, false, true, true, true, true, true, true, true, true, true, false, false, false, false]) (by kernel_rfl) ?_
                refine wpAny_of_held (S := fun W => W.cell? ⟨wo.heap.size, q, none⟩ = some (.string zb)) _ _ _ _ ?_
                refine wpAnyH_take (i := 15) (oi := ⟨some 65, _, _, _, _, _⟩) (v := ?_) rfl (by kernel_rfl) (by kernel_rfl) (by kernel_rfl) (fun _ _ _ h => h) (Or.inl ⟨by rfl, ?_⟩) ?_ ?_
                rotate_left 1
                · (intro W9 (hS9 : W9.cell? ⟨wo.heap.size, q, none⟩ = some (.string zb)); go_simp; try with_reducible rfl)
                · first | assumption | (go_simp; done)
                conv => arg 8; simp only [Act.put, List.setIfInBounds_toArray, List.set_cons_succ, List.set_cons_zero]
                refine rgH_norm (l' := #[true, false, true, true, false, false, true, true, true, true, true, true, true, true, true, true, false, false, false]) (by kernel_rfl) ?_
                refine wpAnyH_ready (rs := [1]) (by kernel_rfl) (by simp) ?_
                refine AllReadyH.cons (o := ⟨some 51, _, _, _, _, _⟩) rfl (fun K hK => ?_) AllReadyH.nil
                go_simp
                refine hK _ _ ⟨?_, ?_⟩
                · clear hK K; first | assumption | (go_simp; done) | exact hS0
                clear hK K
                conv => arg 8; simp only [Act.put, List.setIfInBounds_toArray, List.set_cons_succ, List.set_cons_zero]
                refine rgH_norm (l' := #[true, true, true, true, false, false, true, true, true, true, true, true, true, true, true, true, false, false, false]) (by kernel_rfl) ?_
                refine wpAnyH_take (i := 4) (oi := ⟨some 54, _, _, _, _, _⟩) (v := ?_) rfl (by kernel_rfl) (by kernel_rfl) (by kernel_rfl) (fun _ _ _ h => h) (Or.inl ⟨by rfl, ?_⟩) ?_ ?_
                rotate_left 1
                · (intro W9 (hS9 : W9.cell? ⟨wo.heap.size, q, none⟩ = some (.string zb)); go_simp; try with_reducible rfl)
                · first | assumption | (go_simp; done)
                conv => arg 8; simp only [Act.put, List.setIfInBounds_toArray, List.set_cons_succ, List.set_cons_zero]
                refine rgH_norm (l' := #[true, true, true, true, true, false, true, true, true, true, true, true, true, true, true, true, false, false, false]) (by kernel_rfl) ?_
                refine wpAnyH_ready (rs := [5]) (by kernel_rfl) (by simp) ?_
                refine AllReadyH.cons (o := ⟨some 55, _, _, _, _, _⟩) rfl (fun K hK => ?_) AllReadyH.nil
                go_simp
                refine hK _ _ ⟨?_, ?_⟩
                · clear hK K; first | assumption | (go_simp; done) | exact hS0
                clear hK K
                conv => arg 8; simp only [Act.put, List.setIfInBounds_toArray, List.set_cons_succ, List.set_cons_zero]
                refine rgH_norm (l' := #[true, true, true, true, true, true, true, true, true, true, true, true, true, true, true, true, false, false, false]) (by kernel_rfl) ?_
                refine wpAnyH_take (i := 16) (oi := ⟨some 66, _, _, _, _, _⟩) (v := ?_) rfl (by kernel_rfl) (by kernel_rfl) (by kernel_rfl) (fun _ _ _ h => h) (Or.inl ⟨by rfl, ?_⟩) ?_ ?_
                rotate_left 1
                · (intro W9 (hS9 : W9.cell? ⟨wo.heap.size, q, none⟩ = some (.string zb)); go_simp; try with_reducible rfl)
                · first | assumption | (go_simp; done)
                conv => arg 8; simp only [Act.put, List.setIfInBounds_toArray, List.set_cons_succ, List.set_cons_zero]
                refine rgH_norm (l' := #[true, true, true, true, true, true, true, true, true, true, true, true, true, true, true, true, true, false, false]) (by kernel_rfl) ?_
                refine wpAnyH_take (i := 17) (oi := ⟨some 67, _, _, _, _, _⟩) (v := ?_) rfl (by kernel_rfl) (by kernel_rfl) (by kernel_rfl) (fun _ _ _ h => h) (Or.inl ⟨by rfl, ?_⟩) ?_ ?_
                rotate_left 1
                · (intro W9 (hS9 : W9.cell? ⟨wo.heap.size, q, none⟩ = some (.string zb)); go_simp; try with_reducible rfl)
                · first | assumption | (go_simp; done)
                conv => arg 8; simp only [Act.put, List.setIfInBounds_toArray, List.set_cons_succ, List.set_cons_zero]
                refine rgH_norm (l' := #[true, true, true, true, true, true, true, true, true, true, true, true, true, true, true, true, true, true, false]) (by kernel_rfl) ?_
                refine wpAnyH_take (i := 18) (oi := ⟨some 10, _, _, _, _, _⟩) (v := ?_) rfl (by kernel_rfl) (by kernel_rfl) (by kernel_rfl) (fun _ _ _ h => h) (Or.inl ⟨by rfl, ?_⟩) ?_ ?_
                rotate_left 1
                · (intro W9 (hS9 : W9.cell? ⟨wo.heap.size, q, none⟩ = some (.string zb)); go_simp; try with_reducible rfl)
                · first | assumption | (go_simp; done)
                conv => arg 8; simp only [Act.put, List.setIfInBounds_toArray, List.set_cons_succ, List.set_cons_zero]
                refine rgH_norm (l' := #[true, true, true, true, true, true, true, true, true, true, true, true, true, true, true, true, true, true, true]) (by kernel_rfl) ?_
                refine wpAnyH_done (by kernel_rfl) ?_ _
                go_wp2
                refine ⟨⟨i + 1, _, by omega, congrArg (Value.int .i64) (by omega), rfl, ?_, ?_, HU.out.trans (by repeat (first | exact Und.refl _ | assumption | refine Und.under ?_ _ | refine Und.alloc ?_ _ | refine Und.drew ?_ | refine Und.drewN ?_ _))⟩, by simp [intOf]; omega⟩
                · show _ = St.rowL (i + 1) c quoted
                  rw [← HL.out]; simp
                · rw [size_app, size_app]; omega
              exact AllReady.nil
            exact AllReady.nil
          · have hb : ((i : Int) == (c : Int)) = false := by simp <;> omega
            have HIC := hid (show (if (decide (i = c) && quoted) = true then ([34, 118, 34] : List UInt8) else [118]) = [118] by rw [decide_eq_false hic]; rfl)
            clear hic
            go_wp2_with fail
            obtain ⟨m, hm⟩ : ∃ m : Nat, m = min i 1 := ⟨_, rfl⟩
            have hmin : min (i : Int) 1 = (m : Int) := by omega
            have hm2 : (m : Int) < 2 := by omega
            have hone := hid (fun W => one_any false W)
            obtain ⟨q, hq⟩ : ∃ q : Nat, oneN false = q := ⟨_, rfl⟩
            rw [hq] at hone
            have hq2 : (q : Int) < 2 := by rw [← hq]; unfold oneN; split <;> omega
            obtain ⟨za, hza⟩ : ∃ z : ByteArray, z = if m = 0 then ⟨#[]⟩ else ⟨#[44]⟩ := ⟨_, rfl⟩
            obtain ⟨zb, hzb⟩ : ∃ z : ByteArray, z = if q = 0 then ⟨#[118]⟩ else ⟨#[34, 118, 34]⟩ := ⟨_, rfl⟩
            have cA : ∀ W : World, (W.alloc (.cells #[.string ⟨#[]⟩, .string ⟨#[44]⟩] 9)).cell? ⟨W.heap.size, m, none⟩ = some (.string za) := by
              intro W
              rw [World.cell?_alloc_at _ _ _ _ rfl, hza]
              rcases (show m = 0 ∨ m = 1 by omega) with h | h <;> subst h <;> rfl
            have cB : ∀ W : World, (W.alloc (.cells #[.string ⟨#[118]⟩, .string ⟨#[34, 118, 34]⟩] 9)).cell? ⟨W.heap.size, q, none⟩ = some (.string zb) := by
              intro W
              rw [World.cell?_alloc_at _ _ _ _ rfl, hzb]
              rcases (show q = 0 ∨ q = 1 by omega) with h | h <;> subst h <;> rfl
            have hzas : za.size ≤ 1 := by rw [hza]; split <;> decide
            have hzbs : zb.size ≤ 3 := by rw [hzb]; split <;> decide
            have hlist : t2.data.toList ++ (za.data.toList ++ zb.data.toList) = St.rowL (i + 1) c quoted := by
              rw [HT.out, St.rowL_snoc, hza, hzb]
              congr 1
              congr 1
              · rw [hm]; by_cases h : i = 0
                · subst h; rfl
                · rw [if_neg h, if_neg (by omega)]
              · rw [← hq, HIC.out]; cases quoted <;> rfl
            have HL := hid hlist
            have LA : ([.string ⟨#[]⟩, .string ⟨#[44]⟩] : List Value)[m]? = some (.string za) := by
              rw [hza]
              rcases (show m = 0 ∨ m = 1 by omega) with h | h <;> subst h <;> rfl
            have LB : ([.string ⟨#[118]⟩, .string ⟨#[34, 118, 34]⟩] : List Value)[q]? = some (.string zb) := by
              rw [hzb]
              rcases (show q = 0 ∨ q = 1 by omega) with h | h <;> subst h <;> rfl
            have A1 := cA wo
            have B1 := cB wo
            have A2 := cA (wo.alloc (.cells #[.string ⟨#[118]⟩, .string ⟨#[34, 118, 34]⟩] 9))
            have B2 := cB (wo.alloc (.cells #[.string ⟨#[]⟩, .string ⟨#[44]⟩] 9))
            rw [show (wo.alloc (.cells #[.string ⟨#[118]⟩, .string ⟨#[34, 118, 34]⟩] 9)).heap.size = wo.heap.size + 1 by simp] at A2
            rw [show (wo.alloc (.cells #[.string ⟨#[]⟩, .string ⟨#[44]⟩] 9)).heap.size = wo.heap.size + 1 by simp] at B2
            clear cA cB hza hzb hlist hm hq
            have y1 : ¬ 9223372036854775807 < za.size + zb.size := by omega
            have y2 : ¬ 9223372036854775807 < t2.size + (za.size + zb.size) := by omega
            refine wp_region_any (by kernel_rfl) ?_
            try (change wpAny _ _ _ _ _ _ _ (World.drew _))
            refine rg_norm (l' := #[false, false, false, false, false, false, false, false, false, false, false, false, false, false, false, false, false, false, false]) (by kernel_rfl) ?_
            refine wpAny_take (i := 0) (oi := ⟨some 50, _, _, _, _, _⟩) (v := ?_) rfl (by kernel_rfl) (by kernel_rfl) (by kernel_rfl) (fun _ _ _ h => h) (Or.inl ⟨by rfl, ?_⟩) ?_
            rotate_left 1
            · (intro W9; go_simp; try with_reducible rfl)
            conv => arg 7; simp only [Act.put, List.setIfInBounds_toArray, List.set_cons_succ, List.set_cons_zero]
            refine rg_norm (l' := #[true, false, false, false, false, false, false, false, false, false, false, false, false, false, false, false, false, false, false]) (by kernel_rfl) ?_
            refine wpAny_take (i := 2) (oi := ⟨some 52, _, _, _, _, _⟩) (v := ?_) rfl (by kernel_rfl) (by kernel_rfl) (by kernel_rfl) (fun _ _ _ h => h) (Or.inl ⟨by rfl, ?_⟩) ?_
            rotate_left 1
            · (intro W9; go_simp; try with_reducible rfl)
            conv => arg 7; simp only [Act.put, List.setIfInBounds_toArray, List.set_cons_succ, List.set_cons_zero]
            refine rg_norm (l' := #[true, false, true, false, false, false, false, false, false, false, false, false, false, false, false, false, false, false, false]) (by kernel_rfl) ?_
            refine wpAny_take (i := 3) (oi := ⟨some 53, _, _, _, _, _⟩) (v := ?_) rfl (by kernel_rfl) (by kernel_rfl) (by kernel_rfl) (fun _ _ _ h => h) (Or.inl ⟨by rfl, ?_⟩) ?_
            rotate_left 1
            · (intro W9; go_simp; try with_reducible rfl)
            conv => arg 7; simp only [Act.put, List.setIfInBounds_toArray, List.set_cons_succ, List.set_cons_zero]
            refine rg_norm (l' := #[true, false, true, true, false, false, false, false, false, false, false, false, false, false, false, false, false, false, false]) (by kernel_rfl) ?_
            refine wpAny_take (i := 7) (oi := ⟨some 57, _, _, _, _, _⟩) (v := ?_) rfl (by kernel_rfl) (by kernel_rfl) (by kernel_rfl) (fun _ _ _ h => h) (Or.inl ⟨by rfl, ?_⟩) ?_
            rotate_left 1
            · (intro W9; go_simp; try with_reducible rfl)
            conv => arg 7; simp only [Act.put, List.setIfInBounds_toArray, List.set_cons_succ, List.set_cons_zero]
            refine rg_norm (l' := #[true, false, true, true, false, false, false, true, false, false, false, false, false, false, false, false, false, false, false]) (by kernel_rfl) ?_
            refine wpAny_take (i := 8) (oi := ⟨some 58, _, _, _, _, _⟩) (v := ?_) rfl (by kernel_rfl) (by kernel_rfl) (by kernel_rfl) (fun _ _ _ h => h) (Or.inl ⟨by rfl, ?_⟩) ?_
            rotate_left 1
            · (intro W9; go_simp; try with_reducible rfl)
            conv => arg 7; simp only [Act.put, List.setIfInBounds_toArray, List.set_cons_succ, List.set_cons_zero]
            refine rg_norm (l' := #[true, false, true, true, false, false, false, true, true, false, false, false, false, false, false, false, false, false, false]) (by kernel_rfl) ?_
            refine wpAny_take (i := 9) (oi := ⟨some 59, _, _, _, _, _⟩) (v := ?_) rfl (by kernel_rfl) (by kernel_rfl) (by kernel_rfl) (fun _ _ _ h => h) (Or.inl ⟨by rfl, ?_⟩) ?_
            rotate_left 1
            · (intro W9; go_simp; try with_reducible rfl)
            conv => arg 7; simp only [Act.put, List.setIfInBounds_toArray, List.set_cons_succ, List.set_cons_zero]
            refine rg_norm (l' := #[true, false, true, true, false, false, false, true, true, true, false, false, false, false, false, false, false, false, false]) (by kernel_rfl) ?_
            refine wpAny_take (i := 10) (oi := ⟨some 60, _, _, _, _, _⟩) (v := ?_) rfl (by kernel_rfl) (by kernel_rfl) (by kernel_rfl) (fun _ _ _ h => h) (Or.inl ⟨by rfl, ?_⟩) ?_
            rotate_left 1
            · (intro W9; go_simp; try with_reducible rfl)
            conv => arg 7; simp only [Act.put, List.setIfInBounds_toArray, List.set_cons_succ, List.set_cons_zero]
            refine rg_norm (l' := #[true, false, true, true, false, false, false, true, true, true, true, false, false, false, false, false, false, false, false]) (by kernel_rfl) ?_
            refine wpAny_take (i := 11) (oi := ⟨some 61, _, _, _, _, _⟩) (v := undef) rfl (by kernel_rfl) (by kernel_rfl) (by kernel_rfl) (fun _ _ _ h => h) (Or.inr ⟨by rfl, rfl⟩) ?_
            conv => arg 7; simp only [Act.put, List.setIfInBounds_toArray, List.set_cons_succ, List.set_cons_zero]
            refine rg_norm (l' := #[true, false, true, true, false, false, false, true, true, true, true, true, false, false, false, false, false, false, false]) (by kernel_rfl) ?_
            refine wpAny_take (i := 12) (oi := ⟨some 62, _, _, _, _, _⟩) (v := ?_) rfl (by kernel_rfl) (by kernel_rfl) (by kernel_rfl) (fun _ _ _ h => h) (Or.inl ⟨by rfl, ?_⟩) ?_
            rotate_left 1
            · (intro W9; go_simp; try with_reducible rfl)
            conv => arg 7; simp only [Act.put, List.setIfInBounds_toArray, List.set_cons_succ, List.set_cons_zero]
            refine rg_norm (l' := #[true, false, true, true, false, false, false, true, true, true, true, true, true, false, false, false, false, false, false]) (by kernel_rfl) ?_
            refine wpAny_ready (rs := [1, 6, 13]) (by kernel_rfl) (by simp) ?_
            refine AllReady.cons (o := ⟨some 51, _, _, _, _, _⟩) rfl (fun K hK => ?_) ?_
            · skip
              go_simp
              refine hK _ _ ?_
              clear hK K
              conv => arg 7; simp only [Act.put, List.setIfInBounds_toArray, List.set_cons_succ, List.set_cons_zero]
              refine rg_norm (l' := #[true, true, true, true, false, false, false, true, true, true, true, true, true, false, false, false, false, false, false]) (by kernel_rfl) ?_
              refine wpAny_take (i := 4) (oi := ⟨some 54, _, _, _, _, _⟩) (v := ?_) rfl (by kernel_rfl) (by kernel_rfl) (by kernel_rfl) (fun _ _ _ h => h) (Or.inl ⟨by rfl, ?_⟩) ?_
              rotate_left 1
              · (intro W9; go_simp; try with_reducible rfl)
              conv => arg 7; simp only [Act.put, List.setIfInBounds_toArray, List.set_cons_succ, List.set_cons_zero]
              refine rg_norm (l' := #[true, true, true, true, true, false, false, true, true, true, true, true, true, false, false, false, false, false, false]) (by kernel_rfl) ?_
              refine wpAny_of_held (S := fun W => W.cell? ⟨wo.heap.size, m, none⟩ = some (.string za)) _ _ _ _ ?_
              refine wpAnyH_take (i := 5) (oi := ⟨some 55, _, _, _, _, _⟩) (v := ?_) rfl (by kernel_rfl) (by kernel_rfl) (by kernel_rfl) (fun _ _ _ h => h) (Or.inl ⟨by rfl, ?_⟩) ?_ ?_
              rotate_left 1
              · (intro W9 (hS9 : W9.cell? ⟨wo.heap.size, m, none⟩ = some (.string za)); go_simp; try with_reducible rfl)
              · first | assumption | (go_simp; done)
              conv => arg 8; simp only [Act.put, List.setIfInBounds_toArray, List.set_cons_succ, List.set_cons_zero]
              refine rgH_norm (l' := #[true, true, true, true, true, true, false, true, true, true, true, true, true, false, false, false, false, false, false]) (by kernel_rfl) ?_
              refine wpAnyH_ready (rs := [6, 13]) (by kernel_rfl) (by simp) ?_
              refine AllReadyH.cons (o := ⟨some 56, _, _, _, _, _⟩) rfl (fun K hK => ?_) ?_
              · skip
                go_simp
                refine hK _ _ ⟨?_, ?_⟩
                · clear hK K; first | assumption | (go_simp; done) | exact hS0
                clear hK K
                conv => arg 8; simp only [Act.put, List.setIfInBounds_toArray, List.set_cons_succ, List.set_cons_zero]
                refine rgH_norm (l' := #[true, true, true, true, true, true, true, true, true, true, true, true, true, false, false, false, false, false, false]) (by kernel_rfl) ?_
                refine wpAnyH_ready (rs := [13]) (by kernel_rfl) (by simp) ?_
                refine AllReadyH.cons (o := ⟨some 63, _, _, _, _, _⟩) rfl (fun K hK => ?_) AllReadyH.nil
                with_reducible refine step_callR (o := ⟨some 63, _, _, _, _, _⟩) rfl 19 #[.bool false] (.int .i64 (q : Int)) Eq (hone.out _) ?_ ?_
                · go_simp
                rintro _ rfl
                refine hK _ _ ⟨?_, ?_⟩
                · clear hK K; first | assumption | (go_simp; done) | exact hS0
                clear hK K
                conv => arg 8; simp only [Act.put, List.setIfInBounds_toArray, List.set_cons_succ, List.set_cons_zero]
                refine rgH_norm (l' := #[true, true, true, true, true, true, true, true, true, true, true, true, true, true, false, false, false, false, false]) (by kernel_rfl) ?_
                refine wpAnyH_take (i := 14) (oi := ⟨some 64, _, _, _, _, _⟩) (v := ?_) rfl (by kernel_rfl) (by kernel_rfl) (by kernel_rfl) (fun _ _ _ h => h) (Or.inl ⟨by rfl, ?_⟩) ?_ ?_
                rotate_left 1
                · (intro W9 (hS9 : W9.cell? ⟨wo.heap.size, m, none⟩ = some (.string za)); go_simp; try with_reducible rfl)
                · first | assumption | (go_simp; done)
                conv => arg 8; simp only [Act.put, List.setIfInBounds_toArray, List.set_cons_succ, List.set_cons_zero]
                refine rgH_norm (l' := #[true, true, true, true, true, true, true, true, true, true, true, true, true, true, true, false, false, false, false]) (by kernel_rfl) ?_
                refine wpAnyH_ready (rs := [15]) (by kernel_rfl) (by simp) ?_
                refine AllReadyH.cons (o := ⟨some 65, _, _, _, _, _⟩) rfl (fun K hK => ?_) AllReadyH.nil
                go_simp
                refine hK _ _ ⟨?_, ?_⟩
                · clear hK K; first | assumption | (go_simp; done) | exact hS0
                clear hK K
                conv => arg 8; simp only [Act.put, List.setIfInBounds_toArray, List.set_cons_succ, List.set_cons_zero]
                refine rgH_norm (l' := #[true, true, true, true, true, true, true, true, true, true, true, true, true, true, true, true, false, false, false]) (by kernel_rfl) ?_
                refine wpAnyH_take (i := 16) (oi := ⟨some 66, _, _, _, _, _⟩) (v := ?_) rfl (by kernel_rfl) (by kernel_rfl) (by kernel_rfl) (fun _ _ _ h => h) (Or.inl ⟨by rfl, ?_⟩) ?_ ?_
                rotate_left 1
                · (intro W9 (hS9 : W9.cell? ⟨wo.heap.size, m, none⟩ = some (.string za)); go_simp; try with_reducible rfl)
                · first | assumption | (go_simp; done)
                conv => arg 8; simp only [Act.put, List.setIfInBounds_toArray, List.set_cons_succ, List.set_cons_zero]
                refine rgH_norm (l' := #[true, true, true, true, true, true, true, true, true, true, true, true, true, true, true, true, true, false, false]) (by kernel_rfl) ?_
                refine wpAnyH_take (i := 17) (oi := ⟨some 67, _, _, _, _, _⟩) (v := ?_) rfl (by kernel_rfl) (by kernel_rfl) (by kernel_rfl) (fun _ _ _ h => h) (Or.inl ⟨by rfl, ?_⟩) ?_ ?_
                rotate_left 1
                · (intro W9 (hS9 : W9.cell? ⟨wo.heap.size, m, none⟩ = some (.string za)); go_simp; try with_reducible rfl)
                · first | assumption | (go_simp; done)
                conv => arg 8; simp only [Act.put, List.setIfInBounds_toArray, List.set_cons_succ, List.set_cons_zero]
                refine rgH_norm (l' := #[true, true, true, true, true, true, true, true, true, true, true, true, true, true, true, true, true, true, false]) (by kernel_rfl) ?_
                refine wpAnyH_take (i := 18) (oi := ⟨some 10, _, _, _, _, _⟩) (v := ?_) rfl (by kernel_rfl) (by kernel_rfl) (by kernel_rfl) (fun _ _ _ h => h) (Or.inl ⟨by rfl, ?_⟩) ?_ ?_
                rotate_left 1
                · (intro W9 (hS9 : W9.cell? ⟨wo.heap.size, m, none⟩ = some (.string za)); go_simp; try with_reducible rfl)
                · first | assumption | (go_simp; done)
                conv => arg 8; simp only [Act.put, List.setIfInBounds_toArray, List.set_cons_succ, List.set_cons_zero]
                refine rgH_norm (l' := #[true, true, true, true, true, true, true, true, true, true, true, true, true, true, true, true, true, true, true]) (by kernel_rfl) ?_
                refine wpAnyH_done (by kernel_rfl) ?_ _
                go_wp2
                refine ⟨⟨i + 1, _, by omega, congrArg (Value.int .i64) (by omega), rfl, ?_, ?_, HU.out.trans (by repeat (first | exact Und.refl _ | assumption | refine Und.under ?_ _ | refine Und.alloc ?_ _ | refine Und.drew ?_ | refine Und.drewN ?_ _))⟩, by simp [intOf]; omega⟩
                · show _ = St.rowL (i + 1) c quoted
                  rw [← HL.out]; simp
                · rw [size_app, size_app]; omega
              refine AllReadyH.cons (o := ⟨some 63, _, _, _, _, _⟩) rfl (fun K hK => ?_) ?_
              · skip
                with_reducible refine step_callR (o := ⟨some 63, _, _, _, _, _⟩) rfl 19 #[.bool false] (.int .i64 (q : Int)) Eq (hone.out _) ?_ ?_
                · go_simp
                rintro _ rfl
                refine hK _ _ ⟨?_, ?_⟩
                · clear hK K; first | assumption | (go_simp; done) | exact hS0
                clear hK K
                conv => arg 8; simp only [Act.put, List.setIfInBounds_toArray, List.set_cons_succ, List.set_cons_zero]
                refine rgH_norm (l' := #[true, true, true, true, true, true, false, true, true, true, true, true, true, true, false, false, false, false, false]) (by kernel_rfl) ?_
                refine wpAnyH_ready (rs := [6]) (by kernel_rfl) (by simp) ?_
                refine AllReadyH.cons (o := ⟨some 56, _, _, _, _, _⟩) rfl (fun K hK => ?_) AllReadyH.nil
                go_simp
                refine hK _ _ ⟨?_, ?_⟩
                · clear hK K; first | assumption | (go_simp; done) | exact hS0
                clear hK K
                conv => arg 8; simp only [Act.put, List.setIfInBounds_toArray, List.set_cons_succ, List.set_cons_zero]
                refine rgH_norm (l' := #[true, true, true, true, true, true, true, true, true, true, true, true, true, true, false, false, false, false, false]) (by kernel_rfl) ?_
                refine wpAnyH_take (i := 14) (oi := ⟨some 64, _, _, _, _, _⟩) (v := ?_) rfl (by kernel_rfl) (by kernel_rfl) (by kernel_rfl) (fun _ _ _ h => h) (Or.inl ⟨by rfl, ?_⟩) ?_ ?_
                rotate_left 1
                · (intro W9 (hS9 : W9.cell? ⟨wo.heap.size, m, none⟩ = some (.string za)); go_simp; try with_reducible rfl)
                · first | assumption | (go_simp; done)
                conv => arg 8; simp only [Act.put, List.setIfInBounds_toArray, List.set_cons_succ, List.set_cons_zero]
                refine rgH_norm (l' := #[true, true, true, true, true, true, true, true, true, true, true, true, true, true, true, false, false, false, false]) (by kernel_rfl) ?_
                refine wpAnyH_ready (rs := [15]) (by kernel_rfl) (by simp) ?_
                refine AllReadyH.cons (o := ⟨some 65, _, _, _, _, _⟩) rfl (fun K hK => ?_) AllReadyH.nil
                go_simp
                refine hK _ _ ⟨?_, ?_⟩
                · clear hK K; first | assumption | (go_simp; done) | exact hS0
                clear hK K
                conv => arg 8; simp only [Act.put, List.setIfInBounds_toArray, List.set_cons_succ, List.set_cons_zero]
                refine rgH_norm (l' := #[true, true, true, true, true, true, true, true, true, true, true, true, true, true, true, true, false, false, false]) (by kernel_rfl) ?_
                refine wpAnyH_take (i := 16) (oi := ⟨some 66, _, _, _, _, _⟩) (v := ?_) rfl (by kernel_rfl) (by kernel_rfl) (by kernel_rfl) (fun _ _ _ h => h) (Or.inl ⟨by rfl, ?_⟩) ?_ ?_
                rotate_left 1
                · (intro W9 (hS9 : W9.cell? ⟨wo.heap.size, m, none⟩ = some (.string za)); go_simp; try with_reducible rfl)
                · first | assumption | (go_simp; done)
                conv => arg 8; simp only [Act.put, List.setIfInBounds_toArray, List.set_cons_succ, List.set_cons_zero]
                refine rgH_norm (l' := #[true, true, true, true, true, true, true, true, true, true, true, true, true, true, true, true, true, false, false]) (by kernel_rfl) ?_
                refine wpAnyH_take (i := 17) (oi := ⟨some 67, _, _, _, _, _⟩) (v := ?_) rfl (by kernel_rfl) (by kernel_rfl) (by kernel_rfl) (fun _ _ _ h => h) (Or.inl ⟨by rfl, ?_⟩) ?_ ?_
                rotate_left 1
                · (intro W9 (hS9 : W9.cell? ⟨wo.heap.size, m, none⟩ = some (.string za)); go_simp; try with_reducible rfl)
                · first | assumption | (go_simp; done)
                conv => arg 8; simp only [Act.put, List.setIfInBounds_toArray, List.set_cons_succ, List.set_cons_zero]
                refine rgH_norm (l' := #[true, true, true, true, true, true, true, true, true, true, true, true, true, true, true, true, true, true, false]) (by kernel_rfl) ?_
                refine wpAnyH_take (i := 18) (oi := ⟨some 10, _, _, _, _, _⟩) (v := ?_) rfl (by kernel_rfl) (by kernel_rfl) (by kernel_rfl) (fun _ _ _ h => h) (Or.inl ⟨by rfl, ?_⟩) ?_ ?_
                rotate_left 1
                · (intro W9 (hS9 : W9.cell? ⟨wo.heap.size, m, none⟩ = some (.string za)); go_simp; try with_reducible rfl)
                · first | assumption | (go_simp; done)
                conv => arg 8; simp only [Act.put, List.setIfInBounds_toArray, List.set_cons_succ, List.set_cons_zero]
                refine rgH_norm (l' := #[true, true, true, true, true, true, true, true, true, true, true, true, true, true, true, true, true, true, true]) (by kernel_rfl) ?_
                refine wpAnyH_done (by kernel_rfl) ?_ _
                go_wp2
                refine ⟨⟨i + 1, _, by omega, congrArg (Value.int .i64) (by omega), rfl, ?_, ?_, HU.out.trans (by repeat (first | exact Und.refl _ | assumption | refine Und.under ?_ _ | refine Und.alloc ?_ _ | refine Und.drew ?_ | refine Und.drewN ?_ _))⟩, by simp [intOf]; omega⟩
                · show _ = St.rowL (i + 1) c quoted
                  rw [← HL.out]; simp
                · rw [size_app, size_app]; omega
              exact AllReadyH.nil
            refine AllReady.cons (o := ⟨some 56, _, _, _, _, _⟩) rfl (fun K hK => ?_) ?_
            · skip
              go_simp
              refine hK _ _ ?_
              clear hK K
              conv => arg 7; simp only [Act.put, List.setIfInBounds_toArray, List.set_cons_succ, List.set_cons_zero]
              refine rg_norm (l' := #[true, false, true, true, false, false, true, true, true, true, true, true, true, false, false, false, false, false, false]) (by kernel_rfl) ?_
              refine wpAny_ready (rs := [1, 13]) (by kernel_rfl) (by simp) ?_
              refine AllReady.cons (o := ⟨some 51, _, _, _, _, _⟩) rfl (fun K hK => ?_) ?_
              · skip
                go_simp
                refine hK _ _ ?_
                clear hK K
                conv => arg 7; simp only [Act.put, List.setIfInBounds_toArray, List.set_cons_succ, List.set_cons_zero]
                refine rg_norm (l' := #[true, true, true, true, false, false, true, true, true, true, true, true, true, false, false, false, false, false, false]) (by kernel_rfl) ?_
                refine wpAny_take (i := 4) (oi := ⟨some 54, _, _, _, _, _⟩) (v := ?_) rfl (by kernel_rfl) (by kernel_rfl) (by kernel_rfl) (fun _ _ _ h => h) (Or.inl ⟨by rfl, ?_⟩) ?_
                rotate_left 1
                · (intro W9; go_simp; try with_reducible rfl)
                conv => arg 7; simp only [Act.put, List.setIfInBounds_toArray, List.set_cons_succ, List.set_cons_zero]
                refine rg_norm (l' := #[true, true, true, true, true, false, true, true, true, true, true, true, true, false, false, false, false, false, false]) (by kernel_rfl) ?_
                refine wpAny_of_held (S := fun W => W.cell? ⟨wo.heap.size + 1, m, none⟩ = some (.string za)) _ _ _ _ ?_
                refine wpAnyH_take (i := 5) (oi := ⟨some 55, _, _, _, _, _⟩) (v := ?_) rfl (by kernel_rfl) (by kernel_rfl) (by kernel_rfl) (fun _ _ _ h => h) (Or.inl ⟨by rfl, ?_⟩) ?_ ?_
                rotate_left 1
                · (intro W9 (hS9 : W9.cell? ⟨wo.heap.size + 1, m, none⟩ = some (.string za)); go_simp; try with_reducible rfl)
                · first | assumption | (go_simp; done)
                conv => arg 8; simp only [Act.put, List.setIfInBounds_toArray, List.set_cons_succ, List.set_cons_zero]
                refine rgH_norm (l' := #[true, true, true, true, true, true, true, true, true, true, true, true, true, false, false, false, false, false, false]) (by kernel_rfl) ?_
                refine wpAnyH_ready (rs := [13]) (by kernel_rfl) (by simp) ?_
                refine AllReadyH.cons (o := ⟨some 63, _, _, _, _, _⟩) rfl (fun K hK => ?_) AllReadyH.nil
                with_reducible refine step_callR (o := ⟨some 63, _, _, _, _, _⟩) rfl 19 #[.bool false] (.int .i64 (q : Int)) Eq (hone.out _) ?_ ?_
                · go_simp
                rintro _ rfl
                refine hK _ _ ⟨?_, ?_⟩
                · clear hK K; first | assumption | (go_simp; done) | exact hS0
                clear hK K
                conv => arg 8; simp only [Act.put, List.setIfInBounds_toArray, List.set_cons_succ, List.set_cons_zero]
                refine rgH_norm (l' := #[true, true, true, true, true, true, true, true, true, true, true, true, true, true, false, false, false, false, false]) (by kernel_rfl) ?_
                refine wpAnyH_take (i := 14) (oi := ⟨some 64, _, _, _, _, _⟩) (v := ?_) rfl (by kernel_rfl) (by kernel_rfl) (by kernel_rfl) (fun _ _ _ h => h) (Or.inl ⟨by rfl, ?_⟩) ?_ ?_
                rotate_left 1
                · (intro W9 (hS9 : W9.cell? ⟨wo.heap.size + 1, m, none⟩ = some (.string za)); go_simp; try with_reducible rfl)
                · first | assumption | (go_simp; done)
                conv => arg 8; simp only [Act.put, List.setIfInBounds_toArray, List.set_cons_succ, List.set_cons_zero]
                refine rgH_norm (l' := #[true, true, true, true, true, true, true, true, true, true, true, true, true, true, true, false, false, false, false]) (by kernel_rfl) ?_
                refine wpAnyH_ready (rs := [15]) (by kernel_rfl) (by simp) ?_
                refine AllReadyH.cons (o := ⟨some 65, _, _, _, _, _⟩) rfl (fun K hK => ?_) AllReadyH.nil
                go_simp
                refine hK _ _ ⟨?_, ?_⟩
                · clear hK K; first | assumption | (go_simp; done) | exact hS0
                clear hK K
                conv => arg 8; simp only [Act.put, List.setIfInBounds_toArray, List.set_cons_succ, List.set_cons_zero]
                refine rgH_norm (l' := #[true, true, true, true, true, true, true, true, true, true, true, true, true, true, true, true, false, false, false]) (by kernel_rfl) ?_
                refine wpAnyH_take (i := 16) (oi := ⟨some 66, _, _, _, _, _⟩) (v := ?_) rfl (by kernel_rfl) (by kernel_rfl) (by kernel_rfl) (fun _ _ _ h => h) (Or.inl ⟨by rfl, ?_⟩) ?_ ?_
                rotate_left 1
                · (intro W9 (hS9 : W9.cell? ⟨wo.heap.size + 1, m, none⟩ = some (.string za)); go_simp; try with_reducible rfl)
                · first | assumption | (go_simp; done)
                conv => arg 8; simp only [Act.put, List.setIfInBounds_toArray, List.set_cons_succ, List.set_cons_zero]
                refine rgH_norm (l' := #[true, true, true, true, true, true, true, true, true, true, true, true, true, true, true, true, true, false, false]) (by kernel_rfl) ?_
                refine wpAnyH_take (i := 17) (oi := ⟨some 67, _, _, _, _, _⟩) (v := ?_) rfl (by kernel_rfl) (by kernel_rfl) (by kernel_rfl) (fun _ _ _ h => h) (Or.inl ⟨by rfl, ?_⟩) ?_ ?_
                rotate_left 1
                · (intro W9 (hS9 : W9.cell? ⟨wo.heap.size + 1, m, none⟩ = some (.string za)); go_simp; try with_reducible rfl)
                · first | assumption | (go_simp; done)
                conv => arg 8; simp only [Act.put, List.setIfInBounds_toArray, List.set_cons_succ, List.set_cons_zero]
                refine rgH_norm (l' := #[true, true, true, true, true, true, true, true, true, true, true, true, true, true, true, true, true, true, false]) (by kernel_rfl) ?_
                refine wpAnyH_take (i := 18) (oi := ⟨some 10, _, _, _, _, _⟩) (v := ?_) rfl (by kernel_rfl) (by kernel_rfl) (by kernel_rfl) (fun _ _ _ h => h) (Or.inl ⟨by rfl, ?_⟩) ?_ ?_
                rotate_left 1
                · (intro W9 (hS9 : W9.cell? ⟨wo.heap.size + 1, m, none⟩ = some (.string za)); go_simp; try with_reducible rfl)
                · first | assumption | (go_simp; done)
                conv => arg 8; simp only [Act.put, List.setIfInBounds_toArray, List.set_cons_succ, List.set_cons_zero]
                refine rgH_norm (l' := #[true, true, true, true, true, true, true, true, true, true, true, true, true, true, true, true, true, true, true]) (by kernel_rfl) ?_
                refine wpAnyH_done (by kernel_rfl) ?_ _
                go_wp2
                refine ⟨⟨i + 1, _, by omega, congrArg (Value.int .i64) (by omega), rfl, ?_, ?_, HU.out.trans (by repeat (first | exact Und.refl _ | assumption | refine Und.under ?_ _ | refine Und.alloc ?_ _ | refine Und.drew ?_ | refine Und.drewN ?_ _))⟩, by simp [intOf]; omega⟩
                · show _ = St.rowL (i + 1) c quoted
                  rw [← HL.out]; simp
                · rw [size_app, size_app]; omega
              refine AllReady.cons (o := ⟨some 63, _, _, _, _, _⟩) rfl (fun K hK => ?_) ?_
              · skip
                with_reducible refine step_callR (o := ⟨some 63, _, _, _, _, _⟩) rfl 19 #[.bool false] (.int .i64 (q : Int)) Eq (hone.out _) ?_ ?_
                · go_simp
                rintro _ rfl
                refine hK _ _ ?_
                clear hK K
                conv => arg 7; simp only [Act.put, List.setIfInBounds_toArray, List.set_cons_succ, List.set_cons_zero]
                refine rg_norm (l' := #[true, false, true, true, false, false, true, true, true, true, true, true, true, true, false, false, false, false, false]) (by kernel_rfl) ?_
                refine wpAny_take (i := 14) (oi := ⟨some 64, _, _, _, _, _⟩) (v := ?_) rfl (by kernel_rfl) (by kernel_rfl) (by kernel_rfl) (fun _ _ _ h => h) (Or.inl ⟨by rfl, ?_⟩) ?_
                rotate_left 1
                · (intro W9; go_simp; try with_reducible rfl)
                conv => arg 7; simp only [Act.put, List.setIfInBounds_toArray, List.set_cons_succ, List.set_cons_zero]
                refine rg_norm (l' := #[true, false, true, true, false, false, true, true, true, true, true, true, true, true, true, false, false, false, false]) (by kernel_rfl) ?_
                refine wpAny_of_held (S := fun W => W.cell? ⟨wo.heap.size, q, none⟩ = some (.string zb)) _ _ _ _ ?_
                refine wpAnyH_take (i := 15) (oi := ⟨some 65, _, _, _, _, _⟩) (v := ?_) rfl (by kernel_rfl) (by kernel_rfl) (by kernel_rfl) (fun _ _ _ h => h) (Or.inl ⟨by rfl, ?_⟩) ?_ ?_
                rotate_left 1
                · (intro W9 (hS9 : W9.cell? ⟨wo.heap.size, q, none⟩ = some (.string zb)); go_simp; try with_reducible rfl)
                · first | assumption | (go_simp; done)
                conv => arg 8; simp only [Act.put, List.setIfInBounds_toArray, List.set_cons_succ, List.set_cons_zero]
                refine rgH_norm (l' := #[true, false, true, true, false, false, true, true, true, true, true, true, true, true, true, true, false, false, false]) (by kernel_rfl) ?_
                refine wpAnyH_ready (rs := [1]) (by kernel_rfl) (by simp) ?_
                refine AllReadyH.cons (o := ⟨some 51, _, _, _, _, _⟩) rfl (fun K hK => ?_) AllReadyH.nil
                go_simp
                refine hK _ _ ⟨?_, ?_⟩
                · clear hK K; first | assumption | (go_simp; done) | exact hS0
                clear hK K
                conv => arg 8; simp only [Act.put, List.setIfInBounds_toArray, List.set_cons_succ, List.set_cons_zero]
                refine rgH_norm (l' := #[true, true, true, true, false, false, true, true, true, true, true, true, true, true, true, true, false, false, false]) (by kernel_rfl) ?_
                refine wpAnyH_take (i := 4) (oi := ⟨some 54, _, _, _, _, _⟩) (v := ?_) rfl (by kernel_rfl) (by kernel_rfl) (by kernel_rfl) (fun _ _ _ h => h) (Or.inl ⟨by rfl, ?_⟩) ?_ ?_
                rotate_left 1
                · (intro W9 (hS9 : W9.cell? ⟨wo.heap.size, q, none⟩ = some (.string zb)); go_simp; try with_reducible rfl)
                · first | assumption | (go_simp; done)
                conv => arg 8; simp only [Act.put, List.setIfInBounds_toArray, List.set_cons_succ, List.set_cons_zero]
                refine rgH_norm (l' := #[true, true, true, true, true, false, true, true, true, true, true, true, true, true, true, true, false, false, false]) (by kernel_rfl) ?_
                refine wpAnyH_ready (rs := [5]) (by kernel_rfl) (by simp) ?_
                refine AllReadyH.cons (o := ⟨some 55, _, _, _, _, _⟩) rfl (fun K hK => ?_) AllReadyH.nil
                go_simp
                refine hK _ _ ⟨?_, ?_⟩
                · clear hK K; first | assumption | (go_simp; done) | exact hS0
                clear hK K
                conv => arg 8; simp only [Act.put, List.setIfInBounds_toArray, List.set_cons_succ, List.set_cons_zero]
                refine rgH_norm (l' := #[true, true, true, true, true, true, true, true, true, true, true, true, true, true, true, true, false, false, false]) (by kernel_rfl) ?_
                refine wpAnyH_take (i := 16) (oi := ⟨some 66, _, _, _, _, _⟩) (v := ?_) rfl (by kernel_rfl) (by kernel_rfl) (by kernel_rfl) (fun _ _ _ h => h) (Or.inl ⟨by rfl, ?_⟩) ?_ ?_
                rotate_left 1
                · (intro W9 (hS9 : W9.cell? ⟨wo.heap.size, q, none⟩ = some (.string zb)); go_simp; try with_reducible rfl)
                · first | assumption | (go_simp; done)
                conv => arg 8; simp only [Act.put, List.setIfInBounds_toArray, List.set_cons_succ, List.set_cons_zero]
                refine rgH_norm (l' := #[true, true, true, true, true, true, true, true, true, true, true, true, true, true, true, true, true, false, false]) (by kernel_rfl) ?_
                refine wpAnyH_take (i := 17) (oi := ⟨some 67, _, _, _, _, _⟩) (v := ?_) rfl (by kernel_rfl) (by kernel_rfl) (by kernel_rfl) (fun _ _ _ h => h) (Or.inl ⟨by rfl, ?_⟩) ?_ ?_
                rotate_left 1
                · (intro W9 (hS9 : W9.cell? ⟨wo.heap.size, q, none⟩ = some (.string zb)); go_simp; try with_reducible rfl)
                · first | assumption | (go_simp; done)
                conv => arg 8; simp only [Act.put, List.setIfInBounds_toArray, List.set_cons_succ, List.set_cons_zero]
                refine rgH_norm (l' := #[true, true, true, true, true, true, true, true, true, true, true, true, true, true, true, true, true, true, false]) (by kernel_rfl) ?_
                refine wpAnyH_take (i := 18) (oi := ⟨some 10, _, _, _, _, _⟩) (v := ?_) rfl (by kernel_rfl) (by kernel_rfl) (by kernel_rfl) (fun _ _ _ h => h) (Or.inl ⟨by rfl, ?_⟩) ?_ ?_
                rotate_left 1
                · (intro W9 (hS9 : W9.cell? ⟨wo.heap.size, q, none⟩ = some (.string zb)); go_simp; try with_reducible rfl)
                · first | assumption | (go_simp; done)
                conv => arg 8; simp only [Act.put, List.setIfInBounds_toArray, List.set_cons_succ, List.set_cons_zero]
                refine rgH_norm (l' := #[true, true, true, true, true, true, true, true, true, true, true, true, true, true, true, true, true, true, true]) (by kernel_rfl) ?_
                refine wpAnyH_done (by kernel_rfl) ?_ _
                go_wp2
                refine ⟨⟨i + 1, _, by omega, congrArg (Value.int .i64) (by omega), rfl, ?_, ?_, HU.out.trans (by repeat (first | exact Und.refl _ | assumption | refine Und.under ?_ _ | refine Und.alloc ?_ _ | refine Und.drew ?_ | refine Und.drewN ?_ _))⟩, by simp [intOf]; omega⟩
                · show _ = St.rowL (i + 1) c quoted
                  rw [← HL.out]; simp
                · rw [size_app, size_app]; omega
              exact AllReady.nil
            refine AllReady.cons (o := ⟨some 63, _, _, _, _, _⟩) rfl (fun K hK => ?_) ?_
            · skip
              with_reducible refine step_callR (o := ⟨some 63, _, _, _, _, _⟩) rfl 19 #[.bool false] (.int .i64 (q : Int)) Eq (hone.out _) ?_ ?_
              · go_simp
              rintro _ rfl
              refine hK _ _ ?_
              clear hK K
              conv => arg 7; simp only [Act.put, List.setIfInBounds_toArray, List.set_cons_succ, List.set_cons_zero]
              refine rg_norm (l' := #[true, false, true, true, false, false, false, true, true, true, true, true, true, true, false, false, false, false, false]) (by kernel_rfl) ?_
              refine wpAny_ready (rs := [1, 6]) (by kernel_rfl) (by simp) ?_
              refine AllReady.cons (o := ⟨some 51, _, _, _, _, _⟩) rfl (fun K hK => ?_) ?_
              · skip
                go_simp
                refine hK _ _ ?_
                clear hK K
                conv => arg 7; simp only [Act.put, List.setIfInBounds_toArray, List.set_cons_succ, List.set_cons_zero]
                refine rg_norm (l' := #[true, true, true, true, false, false, false, true, true, true, true, true, true, true, false, false, false, false, false]) (by kernel_rfl) ?_
                refine wpAny_take (i := 4) (oi := ⟨some 54, _, _, _, _, _⟩) (v := ?_) rfl (by kernel_rfl) (by kernel_rfl) (by kernel_rfl) (fun _ _ _ h => h) (Or.inl ⟨by rfl, ?_⟩) ?_
                rotate_left 1
                · (intro W9; go_simp; try with_reducible rfl)
                conv => arg 7; simp only [Act.put, List.setIfInBounds_toArray, List.set_cons_succ, List.set_cons_zero]
                refine rg_norm (l' := #[true, true, true, true, true, false, false, true, true, true, true, true, true, true, false, false, false, false, false]) (by kernel_rfl) ?_
                refine wpAny_of_held (S := fun W => W.cell? ⟨wo.heap.size, m, none⟩ = some (.string za)) _ _ _ _ ?_
                refine wpAnyH_take (i := 5) (oi := ⟨some 55, _, _, _, _, _⟩) (v := ?_) rfl (by kernel_rfl) (by kernel_rfl) (by kernel_rfl) (fun _ _ _ h => h) (Or.inl ⟨by rfl, ?_⟩) ?_ ?_
                rotate_left 1
                · (intro W9 (hS9 : W9.cell? ⟨wo.heap.size, m, none⟩ = some (.string za)); go_simp; try with_reducible rfl)
                · first | assumption | (go_simp; done)
                conv => arg 8; simp only [Act.put, List.setIfInBounds_toArray, List.set_cons_succ, List.set_cons_zero]
                refine rgH_norm (l' := #[true, true, true, true, true, true, false, true, true, true, true, true, true, true, false, false, false, false, false]) (by kernel_rfl) ?_
                refine wpAnyH_ready (rs := [6]) (by kernel_rfl) (by simp) ?_
                refine AllReadyH.cons (o := ⟨some 56, _, _, _, _, _⟩) rfl (fun K hK => ?_) AllReadyH.nil
                go_simp
                refine hK _ _ ⟨?_, ?_⟩
                · clear hK K; first | assumption | (go_simp; done) | exact hS0
                clear hK K
                conv => arg 8; simp only [Act.put, List.setIfInBounds_toArray, List.set_cons_succ, List.set_cons_zero]
                refine rgH_norm (l' := #[true, true, true, true, true, true, true, true, true, true, true, true, true, true, false, false, false, false, false]) (by kernel_rfl) ?_
                refine wpAnyH_take (i := 14) (oi := ⟨some 64, _, _, _, _, _⟩) (v := ?_) rfl (by kernel_rfl) (by kernel_rfl) (by kernel_rfl) (fun _ _ _ h => h) (Or.inl ⟨by rfl, ?_⟩) ?_ ?_
                rotate_left 1
                · (intro W9 (hS9 : W9.cell? ⟨wo.heap.size, m, none⟩ = some (.string za)); go_simp; try with_reducible rfl)
                · first | assumption | (go_simp; done)
                conv => arg 8; simp only [Act.put, List.setIfInBounds_toArray, List.set_cons_succ, List.set_cons_zero]
                refine rgH_norm (l' := #[true, true, true, true, true, true, true, true, true, true, true, true, true, true, true, false, false, false, false]) (by kernel_rfl) ?_
                refine wpAnyH_ready (rs := [15]) (by kernel_rfl) (by simp) ?_
                refine AllReadyH.cons (o := ⟨some 65, _, _, _, _, _⟩) rfl (fun K hK => ?_) AllReadyH.nil
                go_simp
                refine hK _ _ ⟨?_, ?_⟩
                · clear hK K; first | assumption | (go_simp; done) | exact hS0
                clear hK K
                conv => arg 8; simp only [Act.put, List.setIfInBounds_toArray, List.set_cons_succ, List.set_cons_zero]
                refine rgH_norm (l' := #[true, true, true, true, true, true, true, true, true, true, true, true, true, true, true, true, false, false, false]) (by kernel_rfl) ?_
                refine wpAnyH_take (i := 16) (oi := ⟨some 66, _, _, _, _, _⟩) (v := ?_) rfl (by kernel_rfl) (by kernel_rfl) (by kernel_rfl) (fun _ _ _ h => h) (Or.inl ⟨by rfl, ?_⟩) ?_ ?_
                rotate_left 1
                · (intro W9 (hS9 : W9.cell? ⟨wo.heap.size, m, none⟩ = some (.string za)); go_simp; try with_reducible rfl)
                · first | assumption | (go_simp; done)
                conv => arg 8; simp only [Act.put, List.setIfInBounds_toArray, List.set_cons_succ, List.set_cons_zero]
                refine rgH_norm (l' := #[true, true, true, true, true, true, true, true, true, true, true, true, true, true, true, true, true, false, false]) (by kernel_rfl) ?_
                refine wpAnyH_take (i := 17) (oi := ⟨some 67, _, _, _, _, _⟩) (v := ?_) rfl (by kernel_rfl) (by kernel_rfl) (by kernel_rfl) (fun _ _ _ h => h) (Or.inl ⟨by rfl, ?_⟩) ?_ ?_
                rotate_left 1
                · (intro W9 (hS9 : W9.cell? ⟨wo.heap.size, m, none⟩ = some (.string za)); go_simp; try with_reducible rfl)
                · first | assumption | (go_simp; done)
                conv => arg 8; simp only [Act.put, List.setIfInBounds_toArray, List.set_cons_succ, List.set_cons_zero]
                refine rgH_norm (l' := #[true, true, true, true, true, true, true, true, true, true, true, true, true, true, true, true, true, true, false]) (by kernel_rfl) ?_
                refine wpAnyH_take (i := 18) (oi := ⟨some 10, _, _, _, _, _⟩) (v := ?_) rfl (by kernel_rfl) (by kernel_rfl) (by kernel_rfl) (fun _ _ _ h => h) (Or.inl ⟨by rfl, ?_⟩) ?_ ?_
                rotate_left 1
                · (intro W9 (hS9 : W9.cell? ⟨wo.heap.size, m, none⟩ = some (.string za)); go_simp; try with_reducible rfl)
                · first | assumption | (go_simp; done)
                conv => arg 8; simp only [Act.put, List.setIfInBounds_toArray, List.set_cons_succ, List.set_cons_zero]
                refine rgH_norm (l' := #[true, true, true, true, true, true, true, true, true, true, true, true, true, true, true, true, true, true, true]) (by kernel_rfl) ?_
                refine wpAnyH_done (by kernel_rfl) ?_ _
                go_wp2
                refine ⟨⟨i + 1, _, by omega, congrArg (Value.int .i64) (by omega), rfl, ?_, ?_, HU.out.trans (by repeat (first | exact Und.refl _ | assumption | refine Und.under ?_ _ | refine Und.alloc ?_ _ | refine Und.drew ?_ | refine Und.drewN ?_ _))⟩, by simp [intOf]; omega⟩
                · show _ = St.rowL (i + 1) c quoted
                  rw [← HL.out]; simp
                · rw [size_app, size_app]; omega
              refine AllReady.cons (o := ⟨some 56, _, _, _, _, _⟩) rfl (fun K hK => ?_) ?_
              · skip
                go_simp
                refine hK _ _ ?_
                clear hK K
                conv => arg 7; simp only [Act.put, List.setIfInBounds_toArray, List.set_cons_succ, List.set_cons_zero]
                refine rg_norm (l' := #[true, false, true, true, false, false, true, true, true, true, true, true, true, true, false, false, false, false, false]) (by kernel_rfl) ?_
                refine wpAny_take (i := 14) (oi := ⟨some 64, _, _, _, _, _⟩) (v := ?_) rfl (by kernel_rfl) (by kernel_rfl) (by kernel_rfl) (fun _ _ _ h => h) (Or.inl ⟨by rfl, ?_⟩) ?_
                rotate_left 1
                · (intro W9; go_simp; try with_reducible rfl)
                conv => arg 7; simp only [Act.put, List.setIfInBounds_toArray, List.set_cons_succ, List.set_cons_zero]
                refine rg_norm (l' := #[true, false, true, true, false, false, true, true, true, true, true, true, true, true, true, false, false, false, false]) (by kernel_rfl) ?_
                refine wpAny_of_held (S := fun W => W.cell? ⟨wo.heap.size, q, none⟩ = some (.string zb)) _ _ _ _ ?_
                refine wpAnyH_take (i := 15) (oi := ⟨some 65, _, _, _, _, _⟩) (v := ?_) rfl (by kernel_rfl) (by kernel_rfl) (by kernel_rfl) (fun _ _ _ h => h) (Or.inl ⟨by rfl, ?_⟩) ?_ ?_
                rotate_left 1
                · (intro W9 (hS9 : W9.cell? ⟨wo.heap.size, q, none⟩ = some (.string zb)); go_simp; try with_reducible rfl)
                · first | assumption | (go_simp; done)
                conv => arg 8; simp only [Act.put, List.setIfInBounds_toArray, List.set_cons_succ, List.set_cons_zero]
                refine rgH_norm (l' := #[true, false, true, true, false, false, true, true, true, true, true, true, true, true, true, true, false, false, false]) (by kernel_rfl) ?_
                refine wpAnyH_ready (rs := [1]) (by kernel_rfl) (by simp) ?_
                refine AllReadyH.cons (o := ⟨some 51, _, _, _, _, _⟩) rfl (fun K hK => ?_) AllReadyH.nil
                go_simp
                refine hK _ _ ⟨?_, ?_⟩
                · clear hK K; first | assumption | (go_simp; done) | exact hS0
                clear hK K
                conv => arg 8; simp only [Act.put, List.setIfInBounds_toArray, List.set_cons_succ, List.set_cons_zero]
                refine rgH_norm (l' := #[true, true, true, true, false, false, true, true, true, true, true, true, true, true, true, true, false, false, false]) (by kernel_rfl) ?_
                refine wpAnyH_take (i := 4) (oi := ⟨some 54, _, _, _, _, _⟩) (v := ?_) rfl (by kernel_rfl) (by kernel_rfl) (by kernel_rfl) (fun _ _ _ h => h) (Or.inl ⟨by rfl, ?_⟩) ?_ ?_
                rotate_left 1
                · (intro W9 (hS9 : W9.cell? ⟨wo.heap.size, q, none⟩ = some (.string zb)); go_simp; try with_reducible rfl)
                · first | assumption | (go_simp; done)
                conv => arg 8; simp only [Act.put, List.setIfInBounds_toArray, List.set_cons_succ, List.set_cons_zero]
                refine rgH_norm (l' := #[true, true, true, true, true, false, true, true, true, true, true, true, true, true, true, true, false, false, false]) (by kernel_rfl) ?_
                refine wpAnyH_ready (rs := [5]) (by kernel_rfl) (by simp) ?_
                refine AllReadyH.cons (o := ⟨some 55, _, _, _, _, _⟩) rfl (fun K hK => ?_) AllReadyH.nil
                go_simp
                refine hK _ _ ⟨?_, ?_⟩
                · clear hK K; first | assumption | (go_simp; done) | exact hS0
                clear hK K
                conv => arg 8; simp only [Act.put, List.setIfInBounds_toArray, List.set_cons_succ, List.set_cons_zero]
                refine rgH_norm (l' := #[true, true, true, true, true, true, true, true, true, true, true, true, true, true, true, true, false, false, false]) (by kernel_rfl) ?_
                refine wpAnyH_take (i := 16) (oi := ⟨some 66, _, _, _, _, _⟩) (v := ?_) rfl (by kernel_rfl) (by kernel_rfl) (by kernel_rfl) (fun _ _ _ h => h) (Or.inl ⟨by rfl, ?_⟩) ?_ ?_
                rotate_left 1
                · (intro W9 (hS9 : W9.cell? ⟨wo.heap.size, q, none⟩ = some (.string zb)); go_simp; try with_reducible rfl)
                · first | assumption | (go_simp; done)
                conv => arg 8; simp only [Act.put, List.setIfInBounds_toArray, List.set_cons_succ, List.set_cons_zero]
                refine rgH_norm (l' := #[true, true, true, true, true, true, true, true, true, true, true, true, true, true, true, true, true, false, false]) (by kernel_rfl) ?_
                refine wpAnyH_take (i := 17) (oi := ⟨some 67, _, _, _, _, _⟩) (v := ?_) rfl (by kernel_rfl) (by kernel_rfl) (by kernel_rfl) (fun _ _ _ h => h) (Or.inl ⟨by rfl, ?_⟩) ?_ ?_
                rotate_left 1
                · (intro W9 (hS9 : W9.cell? ⟨wo.heap.size, q, none⟩ = some (.string zb)); go_simp; try with_reducible rfl)
                · first | assumption | (go_simp; done)
                conv => arg 8; simp only [Act.put, List.setIfInBounds_toArray, List.set_cons_succ, List.set_cons_zero]
                refine rgH_norm (l' := #[true, true, true, true, true, true, true, true, true, true, true, true, true, true, true, true, true, true, false]) (by kernel_rfl) ?_
                refine wpAnyH_take (i := 18) (oi := ⟨some 10, _, _, _, _, _⟩) (v := ?_) rfl (by kernel_rfl) (by kernel_rfl) (by kernel_rfl) (fun _ _ _ h => h) (Or.inl ⟨by rfl, ?_⟩) ?_ ?_
                rotate_left 1
                · (intro W9 (hS9 : W9.cell? ⟨wo.heap.size, q, none⟩ = some (.string zb)); go_simp; try with_reducible rfl)
                · first | assumption | (go_simp; done)
                conv => arg 8; simp only [Act.put, List.setIfInBounds_toArray, List.set_cons_succ, List.set_cons_zero]
                refine rgH_norm (l' := #[true, true, true, true, true, true, true, true, true, true, true, true, true, true, true, true, true, true, true]) (by kernel_rfl) ?_
                refine wpAnyH_done (by kernel_rfl) ?_ _
                go_wp2
                refine ⟨⟨i + 1, _, by omega, congrArg (Value.int .i64) (by omega), rfl, ?_, ?_, HU.out.trans (by repeat (first | exact Und.refl _ | assumption | refine Und.under ?_ _ | refine Und.alloc ?_ _ | refine Und.drew ?_ | refine Und.drewN ?_ _))⟩, by simp [intOf]; omega⟩
                · show _ = St.rowL (i + 1) c quoted
                  rw [← HL.out]; simp
                · rw [size_app, size_app]; omega
              exact AllReady.nil
            exact AllReady.nil
        · have hie : i = f + 1 := by omega
          have ht10 := HT.out
          rw [hie] at ht10
          have HT10 := hid ht10
          have hts10 : t2.size ≤ 60 := by omega
          have hx2 : ¬ (i : Int) < 1 + (f : Int) := by omega
          have hUU := hid (hU9.out.trans HU.out)
          clear HT ht10 hlt hi hts HU hie
          have hdl : (((t ++ (⟨#[10]⟩ : ByteArray)) ++ t2) ++ (⟨#[10]⟩ : ByteArray)).data.toList = St.docL (p + 1) c (f + 1) quoted := by
            have e9 := HT9.out
            have e10 : t2.data.toList = St.rowL (f + 1) c quoted := HT10.out
            unfold St.docL
            rw [← e9, ← e10]; simp
          have hds : (((t ++ (⟨#[10]⟩ : ByteArray)) ++ t2) ++ (⟨#[10]⟩ : ByteArray)).size ≤ 110 := by
            rw [size_app, size_app, size_app]
            have : (⟨#[10]⟩ : ByteArray).size = 1 := rfl
            omega
          obtain ⟨d, hD⟩ : ∃ d, ((t ++ (⟨#[10]⟩ : ByteArray)) ++ t2) ++ (⟨#[10]⟩ : ByteArray) = d := ⟨_, rfl⟩
          rw [hD] at hdl hds
          have hR : sheetS d = St.splitS dE Lib.decDigits (St.docL (p + 1) c (f + 1) quoted) := by unfold sheetS; rw [hdl]
          have hsp := fun W (hW : Und w W) => ssplit_any d W (HTB.out.und hW) (by omega)
          simp only [hR] at hsp
          have hck := hchk.out
          unfold St.chk1 at hck
          generalize St.splitS dE Lib.decDigits (St.docL (p + 1) c (f + 1) quoted) = R at hsp hck
          obtain ⟨ps, at_, er⟩ := R
          simp only at hck
          have HSP := hid hsp
          have HKN := hid (fun W (hW : Und w W) => sknown_any W (HTB.out.und hW))
          have y1 : ¬ 9223372036854775807 < t.size + 1 := by omega
          have y2 : ¬ 9223372036854775807 < t.size + 1 + t2.size := by omega
          have y3 : ¬ 9223372036854775807 < t.size + 1 + t2.size + 1 := by omega
          clear hdl hds hR hsp HT9 HT10 hchk HP1 HP2 HP3
          by_cases hfq : f = p ∧ quoted = true
          · obtain ⟨rfl, rfl⟩ := hfq
            simp only [decide_true, Bool.and_true, if_true, Bool.and_eq_true, beq_iff_eq] at hck
            obtain ⟨⟨rfl, hl3⟩, hraw⟩ := hck
            go_wp2_with fail
            refine (HSP.out _ hUU.out).mono ?_
            rintro e w3 ⟨A, c0, rfl, hP, hq1, hq2, hu3⟩
            simp only at hP hq1
            obtain ⟨b, off, rfl, hbb, hc⟩ := hP (by omega)
            have k2 := (hc 1 (by omega)).2.2
            have hg : ps[1].2.2 = [118] := by
              rw [← hraw, List.getD_eq_getElem?_getD, List.getElem?_eq_getElem (by omega)]; rfl
            rw [hg] at k2
            haveI : LtW b w3 := LtW.of hbb
            have HU3 := hid (hUU.out.trans hu3)
            have hc3 : 3 ≤ c0 := by omega
            clear hP hq1 hc hu3 hraw hg HSP
            simp only [hl3]
            go_wp2_with (go_at_call 9; refine (HKN.out _ (HU3.out.trans (by repeat (first | exact Und.refl _ | assumption | refine Und.under ?_ _ | refine Und.alloc ?_ _ | refine Und.drew ?_ | refine Und.drewN ?_ _)))).mono ?_; rintro e w' ⟨rfl, X9, rfl⟩)
            go_ret
            exact ⟨rfl, HU3.out.trans (by repeat (first | exact Und.refl _ | assumption | refine Und.under ?_ _ | refine Und.alloc ?_ _ | refine Und.drew ?_ | refine Und.drewN ?_ _))⟩
          · have h2 : er = 2 := by
              have hcond : ¬ ((decide (f + 1 = p + 1) && quoted) = true) := by
                intro h
                rw [Bool.and_eq_true, decide_eq_true_eq] at h
                exact hfq ⟨by omega, h.2⟩
              rw [if_neg hcond] at hck
              simpa using hck
            subst h2
            by_cases hfp : f = p
            · subst hfp
              have hqf : quoted = false := by cases quoted <;> simp_all
              subst hqf
              clear hck hfq
              go_wp2_with fail
              refine (HSP.out _ hUU.out).mono ?_
              rintro e w3 ⟨A, c0, rfl, _, _, _, hu3⟩
              have HU3 := hid (hUU.out.trans hu3)
              clear hu3 HSP
              go_wp2_with (go_at_call 9; refine (HKN.out _ (HU3.out.trans (by repeat (first | exact Und.refl _ | assumption | refine Und.under ?_ _ | refine Und.alloc ?_ _ | refine Und.drew ?_ | refine Und.drewN ?_ _)))).mono ?_; rintro e w' ⟨rfl, X9, rfl⟩)
              go_ret
              exact ⟨rfl, HU3.out.trans (by repeat (first | exact Und.refl _ | assumption | refine Und.under ?_ _ | refine Und.alloc ?_ _ | refine Und.drew ?_ | refine Und.drewN ?_ _))⟩
            · have hne : ((1 + (f : Int)) == (1 + (p : Int))) = false := by simp <;> omega
              have hne2 : ((f : Int) == (p : Int)) = false := by simp <;> omega
              clear hck hfq
              go_wp2_with fail
              refine (HSP.out _ hUU.out).mono ?_
              rintro e w3 ⟨A, c0, rfl, _, _, _, hu3⟩
              have HU3 := hid (hUU.out.trans hu3)
              clear hu3 HSP
              go_wp2_with (go_at_call 9; refine (HKN.out _ (HU3.out.trans (by repeat (first | exact Und.refl _ | assumption | refine Und.under ?_ _ | refine Und.alloc ?_ _ | refine Und.drew ?_ | refine Und.drewN ?_ _)))).mono ?_; rintro e w' ⟨rfl, X9, rfl⟩)
              go_ret
              exact ⟨rfl, HU3.out.trans (by repeat (first | exact Und.refl _ | assumption | refine Und.under ?_ _ | refine Und.alloc ?_ _ | refine Und.drew ?_ | refine Und.drewN ?_ _))⟩
end Go.Proofs.YtofhaokbklfmmaaDoor
