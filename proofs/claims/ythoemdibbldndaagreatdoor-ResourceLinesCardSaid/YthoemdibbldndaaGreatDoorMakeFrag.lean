/- The contract of the maker Fragment without tags: joined items of texts and placeholders. Conditions: as MakeGen's. -/
import Derived.Test.YthoemdibbldndaaGreatDoorMakeGen
import Derived.Test.YthoemdibbldndaaGreatDoorRefCat
import Derived.Test.YthoemdibbldndaaGreatDoorItemBox
import Derived.LoopN
set_option linter.unusedVariables false
set_option linter.unusedSimpArgs false
namespace Go.Proofs.YthoemdibbldndaaGreatDoor
open Go.RowKit

/-- An item that a format without tags can hold. -/
def Good1 (x : St.It) : Prop := x.2.2 = 0 ∧ (x.1 = 1 ∨ (x.1 = 5 ∧ St.isNameL x.2.1 = true))
def GoodF (f : List St.It) : Prop := St.Nm f ∧ ∀ x ∈ f, Good1 x
theorem good_nil : GoodF [] := ⟨St.nm_nil, fun _ h => by cases h⟩
theorem good_add {f : List St.It} {x : St.It} (h : GoodF f) (hx : Good1 x) : GoodF (St.addI f x) := by
  refine ⟨St.nm_add h.1 x, fun y hy => ?_⟩
  rcases St.snoc_cases f with rfl | ⟨a, b, rfl⟩
  · rw [St.addI_nil] at hy
    split at hy
    · split at hy
      · cases hy
      · simp at hy; subst hy; exact ⟨rfl, .inl rfl⟩
    · simp at hy; subst hy; exact hx
  · rw [St.addI_snoc] at hy
    split at hy
    · split at hy
      · exact h.2 y hy
      · split at hy
        · rcases List.mem_append.1 hy with hy | hy
          · exact h.2 y (by simp [hy])
          · simp at hy; subst hy; exact ⟨rfl, .inl rfl⟩
        · rcases List.mem_append.1 hy with hy | hy
          · exact h.2 y hy
          · simp at hy; subst hy; exact ⟨rfl, .inl rfl⟩
    · rcases List.mem_append.1 hy with hy | hy
      · exact h.2 y hy
      · simp at hy; subst hy; exact hx
def FgRel (w : World) (B g P n : Nat) (s9 s10 s12 : Value) (wr : World) : Prop := ∃ (i k : Nat) (f : List St.It), s10 = .slice none 0 0 ∧ s12 = .int .i64 i ∧ k + i ≤ n ∧ wr.ownsRow w.heap.size 36 3 s9 f.length (cellsIt f) ∧ GoodF f ∧ f.length ≤ k ∧ tot f ≤ 18 * k ∧ GenP wr B g (P + 1 + 9 * k) ∧ w.grownBy wr (some g)
def FragEnd (w : World) (B g P n : Nat) (e : Ending) (w' : World) : Prop := ∃ (v : Value) (f : List St.It), e = .returned v ∧ w'.ownsRow w.heap.size 36 3 v f.length (cellsIt f) ∧ GoodF f ∧ f.length ≤ n ∧ tot f ≤ 18 * n ∧ GenP w' B g (P + 1 + 9 * n) ∧ w.grownBy w' (some g)

set_option maxRecDepth 20000 in
set_option maxHeartbeats 6400000 in
theorem frag_gen (B g P n : Nat) (w : World) (hG : GenP w B g P) (hP : P ≤ 100000) (hn : n ≤ 100) :
    Calls Tryz.prog 66 #[.pointer (some ⟨g, 0, none⟩), .int .i64 n, .bool false, .bool true] w (FragEnd w B g P n) := by
  have HG := hid hG
  obtain ⟨hgB, hB⟩ := hG.lt
  clear hG
  go_enter Tryz.func66, Tryz.ntmps66
  go_wp2_with fail
  refine (next_gen B g P ((n : Int) + 1) _ HG.out (by omega) (by omega) (by omega)).mono ?_
  rintro e w2 ⟨r, rfl, hr, hG2, hk⟩
  have HG2 := hid hG2
  have HK2 := hid hk
  clear hG2 hk HG
  go_wp2_with fail
  go_loopw [9, 10, 12] (fun s9 s10 s12 wr => FgRel w B g P n s9 s10 s12 wr) (fun _ _ s12 _ => (intOf s12).toNat)
  case atStart => exact ⟨r, 0, [], rfl, rfl, by omega, World.ownsRow_nil _ _ _ _, good_nil, by simp, by simp [tot], HG2.out, HK2.out⟩
  case round =>
    clear HG2 HK2 hr
    obtain ⟨i, k, f, rfl, rfl, hki, hown, hgood, hfl, hft, hG, hk⟩ := hrel
    have HG := hid hG
    have HK := hid hk
    have HO := hid hown
    have HGD := hid hgood
    clear hG hk hown hgood
    by_cases hi : 0 < i
    · have z : (0 : Int) < (i : Int) := by omega
      obtain ⟨wo, rfl⟩ : ∃ wo : World, wo = wr := ⟨_, rfl⟩
      go_wp2_with fail
      refine (line_gen B g _ 3 _ HG.out (by omega) (by omega)).mono ?_
      rintro e w3 ⟨t, rfl, hts, hG3, hk3⟩
      have HG3 := hid hG3
      have HK3 := hid (gb_trans HK.out hk3 (fun _ e => .inl e))
      have HO3 := hid (own_gb HO.out hk3 (by omega))
      clear hG3 hk3 HG HK HO
      have hsz3 := HK3.out.size
      obtain ⟨A9, c9, rfl, _, _, hA9⟩ := own_slice' HO3.out
      have hlt3 : ∀ x, (Value.slice A9 f.length c9).ownBlock = some x → x < w3.heap.size := fun x hx => (HO3.out.lt x hx).2
      have hcat : ∀ (W : World) (b : Nat) (x : St.It), x.2.2 = 0 → ItemsAt W A9 f → ItemsAt W (some ⟨b, 0, none⟩) [x] → tot (f ++ [x]) ≤ 4611686018427387904 → Calls Tryz.prog 44 #[.slice A9 f.length c9, .slice (some ⟨b, 0, none⟩) 1 1] W fun e w' => ∃ v, e = .returned v ∧ w'.ownsRow W.heap.size 36 3 v (St.addI f x).length (cellsIt (St.addI f x)) ∧ Und W w' := by
        intro W b x hx h h' ht
        have := concat_any A9 f.length c9 f (some ⟨b, 0, none⟩) 1 1 [x] W rfl rfl (fun e => by have := hA9 e; omega) (fun e => by cases e) h h' (by omega) ht
        rw [St.normL_snoc, HGD.out.1] at this
        exact this
      have HCAT := hid hcat
      clear hcat
      have fin : ∀ (x : St.It) (v7 : Value) (w7 : World), Good1 x → x.2.1.length ≤ 18 → (x.1 = 1 ∨ x.1 = 5) → w7.ownsRow w.heap.size 36 3 v7 (St.addI f x).length (cellsIt (St.addI f x)) → GenP w7 B g (P + 1 + 9 * (k + 1)) → w.grownBy w7 (some g) → FgRel w B g P n v7 (.slice none 0 0) (.int .i64 ((i : Int) - 1)) w7 := by
        intro x v7 w7 hg hx _ ho hG hk
        have h1 := (St.addI_len f x).1
        have h2 := tot_add f x
        exact ⟨i - 1, k + 1, St.addI f x, rfl, congrArg (Value.int .i64) (by omega), by omega, ho, good_add HGD.out hg, by omega, by omega, hG, hk⟩
      have FIN := hid fin
      clear fin
      have hgs : g < w3.heap.size := by omega
      go_wp2_with fail
      refine (next_gen B g _ 8 _ (HG3.out.und ((Und.refl _).alloc _)) (by omega) (by omega) (by omega)).mono ?_
      rintro e w4 ⟨r, rfl, hr, hG4, hk4⟩
      have HG4 := hid hG4
      have HK4 := hid (gb_trans (gb_und HK3.out ((Und.refl _).alloc (.cells #[.int .i64 1, .string t, .int .i64 0] 36))) hk4 (fun _ e => .inl e))
      have HO4 := hid (own_gb (HO3.out.alloc (.cells #[.int .i64 1, .string t, .int .i64 0] 36)) hk4 (by omega))
      have hb4 : w4.heap[w3.heap.size]? = some (Obj.cells #[.int .i64 1, .string t, .int .i64 0] 36 (0, 0)) := (hk4.block w3.heap.size (by simp) (by simp; omega)).trans (heap_alloc_new w3 _)
      have hsz4 : w3.heap.size < w4.heap.size := lt_of_heap hb4
      have d0 : w4.cell? ⟨w3.heap.size, 0, none⟩ = some (.int .i64 1) := Lib.cell_of_heap hb4 0
      have d1 : w4.cell? ⟨w3.heap.size, 1, none⟩ = some (.string t) := Lib.cell_of_heap hb4 1
      have d2 : w4.cell? ⟨w3.heap.size, 2, none⟩ = some (.int .i64 0) := Lib.cell_of_heap hb4 2
      haveI : LtW w3.heap.size w4 := LtW.of hsz4
      have hr8 : r < 8 := by omega
      clear hG4 hk4 HG3 HK3 HO3 hr
      rcases (show r = 0 ∨ r = 1 ∨ r = 2 ∨ r = 3 ∨ r = 4 ∨ r = 5 ∨ r = 6 ∨ r = 7 by omega) with h | h | h | h | h | h | h | h
      · subst h
        clear hr8 d0 d1 d2
        go_wp2_with fail
        refine (next_gen B g _ 3 _ (HG4.out.und ((Und.refl _).alloc (.cells #[.string ⟨#[110]⟩, .string ⟨#[110, 97, 109, 101]⟩, .string ⟨#[120, 49]⟩] 9))) (by omega) (by omega) (by omega)).mono ?_
        rintro e w5 ⟨q, rfl, hq, hG5, hk5⟩
        obtain ⟨u, hu, hus, hun⟩ : ∃ u : ByteArray, (#[.string ⟨#[110]⟩, .string ⟨#[110, 97, 109, 101]⟩, .string ⟨#[120, 49]⟩] : Array Value)[q]? = some (.string u) ∧ u.size ≤ 4 ∧ St.isNameL u.data.toList = true := by
          rcases (show q = 0 ∨ q = 1 ∨ q = 2 by omega) with h | h | h <;> subst h <;> exact ⟨_, rfl, by decide, by decide⟩
        have hcell := lit_cell w4 w5 _ _ B g hk5 hgB (by omega) q _ hu
        have HG5 := hid hG5
        have HK5 := hid (gb_trans (gb_und HK4.out ((Und.refl _).alloc (.cells #[.string ⟨#[110]⟩, .string ⟨#[110, 97, 109, 101]⟩, .string ⟨#[120, 49]⟩] 9))) hk5 (fun _ e => .inl e))
        have HO5 := hid (own_gb (HO4.out.alloc (.cells #[.string ⟨#[110]⟩, .string ⟨#[110, 97, 109, 101]⟩, .string ⟨#[120, 49]⟩] 9)) hk5 (by omega))
        have hb5 : w5.heap[w3.heap.size]? = some (Obj.cells #[.int .i64 1, .string t, .int .i64 0] 36 (0, 0)) := (hk5.block w3.heap.size (by simp; omega) (by simp; omega)).trans ((((Und.refl w4).alloc _).below.block w3.heap.size hsz4).trans hb4)
        have f0 : w5.frozen? ⟨w3.heap.size, 0, none⟩ = false := Lib.frozen_of_heap hb5 0
        have f1 : w5.frozen? ⟨w3.heap.size, 1, none⟩ = false := Lib.frozen_of_heap hb5 1
        have f2 : w5.frozen? ⟨w3.heap.size, 2, none⟩ = false := Lib.frozen_of_heap hb5 2
        have g0 : w5.cell? ⟨w3.heap.size, 0, none⟩ = some (.int .i64 1) := Lib.cell_of_heap hb5 0
        have g1 : w5.cell? ⟨w3.heap.size, 1, none⟩ = some (.string t) := Lib.cell_of_heap hb5 1
        have g2 : w5.cell? ⟨w3.heap.size, 2, none⟩ = some (.int .i64 0) := Lib.cell_of_heap hb5 2
        haveI : LtW w3.heap.size w5 := LtW.of (lt_of_heap hb5)
        haveI : LtW w4.heap.size w5 := LtW.of (World.block_lt_of_cell? _ _ hcell)
        have hq3 : q < 3 := by omega
        have hob : (Value.slice A9 f.length c9).ownBlock ≠ some w3.heap.size := fun e => by have := hlt3 _ e; omega
        have hkey : ∀ W, W = ((w5.setCell ⟨w3.heap.size, 0, none⟩ (.int .i64 5)).setCell ⟨w3.heap.size, 1, none⟩ (.string u)).setCell ⟨w3.heap.size, 2, none⟩ (.int .i64 0) → W.ownsRow w.heap.size 36 3 (.slice A9 f.length c9) f.length (cellsIt f) ∧ GenP W B g (P + 1 + 9 * (k + 1)) ∧ w.grownBy W (some g) := by
          intro W hW
          subst hW
          refine ⟨own_set (own_set (own_set HO5.out hob) hob) hob, ?_, gb_setCell (gb_setCell (gb_setCell HK5.out _ _ (.inr (by show w.heap.size ≤ w3.heap.size; omega))) _ _ (.inr (by show w.heap.size ≤ w3.heap.size; omega))) _ _ (.inr (by show w.heap.size ≤ w3.heap.size; omega))⟩
          have hBb : ∀ x, some w3.heap.size = some x → B ≤ x := fun x e => by cases e; omega
          exact (((HG5.out.gb (gb_set w5 ⟨w3.heap.size, 0, none⟩ _) hBb).gb (gb_set _ ⟨w3.heap.size, 1, none⟩ _) hBb).gb (gb_set _ ⟨w3.heap.size, 2, none⟩ _) hBb).le (by omega)
        have HKEY := hid (hkey _ rfl)
        have hne5 := HKEY.out.2.1.lt.2
        clear hG5 hk5 HG4 HK4 HO4 hkey hu hq
        go_wp2_with fail
        refine (HCAT.out _ _ (5, u.data.toList, 0) rfl ?_ ?_ ?_).mono ?_
        · exact (items_own HKEY.out.1 rfl).und ((Und.refl _).alloc _)
        · rw [← ba_eta u]; exact items_box _ _ _ _ (by simp) (by rw [World.cell?_alloc_at _ _ _ _ (by simp)]; rfl) (by rw [World.cell?_alloc_at _ _ _ _ (by simp)]; rfl) (by rw [World.cell?_alloc_at _ _ _ _ (by simp)]; rfl)
        · rw [tot_snoc]; simp; omega
        rintro e w7 ⟨v7, rfl, ho7, hu7⟩
        have hrel := FIN.out (5, u.data.toList, 0) v7 w7 ⟨rfl, .inr ⟨rfl, hun⟩⟩ (by simp; omega) (.inr rfl) (own_low ho7 (by have := HKEY.out.2.2.size; simp at this ⊢; omega)) ((HKEY.out.2.1.und ((Und.refl _).alloc _)).und hu7) (gb_und HKEY.out.2.2 (((Und.refl _).alloc _).trans hu7))
        have HREL := hid hrel
        clear hrel ho7 hu7 hcell
        go_wp2
        exact ⟨HREL.out, by simp [intOf]; omega⟩
      · subst h
        clear hr8 d0 d1 d2
        go_wp2_with fail
        refine (next_gen B g _ 3 _ (HG4.out.und ((Und.refl _).alloc (.cells #[.string ⟨#[110]⟩, .string ⟨#[110, 97, 109, 101]⟩, .string ⟨#[120, 49]⟩] 9))) (by omega) (by omega) (by omega)).mono ?_
        rintro e w5 ⟨q, rfl, hq, hG5, hk5⟩
        obtain ⟨u, hu, hus, hun⟩ : ∃ u : ByteArray, (#[.string ⟨#[110]⟩, .string ⟨#[110, 97, 109, 101]⟩, .string ⟨#[120, 49]⟩] : Array Value)[q]? = some (.string u) ∧ u.size ≤ 4 ∧ St.isNameL u.data.toList = true := by
          rcases (show q = 0 ∨ q = 1 ∨ q = 2 by omega) with h | h | h <;> subst h <;> exact ⟨_, rfl, by decide, by decide⟩
        have hcell := lit_cell w4 w5 _ _ B g hk5 hgB (by omega) q _ hu
        have HG5 := hid hG5
        have HK5 := hid (gb_trans (gb_und HK4.out ((Und.refl _).alloc (.cells #[.string ⟨#[110]⟩, .string ⟨#[110, 97, 109, 101]⟩, .string ⟨#[120, 49]⟩] 9))) hk5 (fun _ e => .inl e))
        have HO5 := hid (own_gb (HO4.out.alloc (.cells #[.string ⟨#[110]⟩, .string ⟨#[110, 97, 109, 101]⟩, .string ⟨#[120, 49]⟩] 9)) hk5 (by omega))
        have hb5 : w5.heap[w3.heap.size]? = some (Obj.cells #[.int .i64 1, .string t, .int .i64 0] 36 (0, 0)) := (hk5.block w3.heap.size (by simp; omega) (by simp; omega)).trans ((((Und.refl w4).alloc _).below.block w3.heap.size hsz4).trans hb4)
        have f0 : w5.frozen? ⟨w3.heap.size, 0, none⟩ = false := Lib.frozen_of_heap hb5 0
        have f1 : w5.frozen? ⟨w3.heap.size, 1, none⟩ = false := Lib.frozen_of_heap hb5 1
        have f2 : w5.frozen? ⟨w3.heap.size, 2, none⟩ = false := Lib.frozen_of_heap hb5 2
        have g0 : w5.cell? ⟨w3.heap.size, 0, none⟩ = some (.int .i64 1) := Lib.cell_of_heap hb5 0
        have g1 : w5.cell? ⟨w3.heap.size, 1, none⟩ = some (.string t) := Lib.cell_of_heap hb5 1
        have g2 : w5.cell? ⟨w3.heap.size, 2, none⟩ = some (.int .i64 0) := Lib.cell_of_heap hb5 2
        haveI : LtW w3.heap.size w5 := LtW.of (lt_of_heap hb5)
        haveI : LtW w4.heap.size w5 := LtW.of (World.block_lt_of_cell? _ _ hcell)
        have hq3 : q < 3 := by omega
        have hob : (Value.slice A9 f.length c9).ownBlock ≠ some w3.heap.size := fun e => by have := hlt3 _ e; omega
        have hkey : ∀ W, W = ((w5.setCell ⟨w3.heap.size, 0, none⟩ (.int .i64 5)).setCell ⟨w3.heap.size, 1, none⟩ (.string u)).setCell ⟨w3.heap.size, 2, none⟩ (.int .i64 0) → W.ownsRow w.heap.size 36 3 (.slice A9 f.length c9) f.length (cellsIt f) ∧ GenP W B g (P + 1 + 9 * (k + 1)) ∧ w.grownBy W (some g) := by
          intro W hW
          subst hW
          refine ⟨own_set (own_set (own_set HO5.out hob) hob) hob, ?_, gb_setCell (gb_setCell (gb_setCell HK5.out _ _ (.inr (by show w.heap.size ≤ w3.heap.size; omega))) _ _ (.inr (by show w.heap.size ≤ w3.heap.size; omega))) _ _ (.inr (by show w.heap.size ≤ w3.heap.size; omega))⟩
          have hBb : ∀ x, some w3.heap.size = some x → B ≤ x := fun x e => by cases e; omega
          exact (((HG5.out.gb (gb_set w5 ⟨w3.heap.size, 0, none⟩ _) hBb).gb (gb_set _ ⟨w3.heap.size, 1, none⟩ _) hBb).gb (gb_set _ ⟨w3.heap.size, 2, none⟩ _) hBb).le (by omega)
        have HKEY := hid (hkey _ rfl)
        have hne5 := HKEY.out.2.1.lt.2
        clear hG5 hk5 HG4 HK4 HO4 hkey hu hq
        go_wp2_with fail
        refine (HCAT.out _ _ (5, u.data.toList, 0) rfl ?_ ?_ ?_).mono ?_
        · exact (items_own HKEY.out.1 rfl).und ((Und.refl _).alloc _)
        · rw [← ba_eta u]; exact items_box _ _ _ _ (by simp) (by rw [World.cell?_alloc_at _ _ _ _ (by simp)]; rfl) (by rw [World.cell?_alloc_at _ _ _ _ (by simp)]; rfl) (by rw [World.cell?_alloc_at _ _ _ _ (by simp)]; rfl)
        · rw [tot_snoc]; simp; omega
        rintro e w7 ⟨v7, rfl, ho7, hu7⟩
        have hrel := FIN.out (5, u.data.toList, 0) v7 w7 ⟨rfl, .inr ⟨rfl, hun⟩⟩ (by simp; omega) (.inr rfl) (own_low ho7 (by have := HKEY.out.2.2.size; simp at this ⊢; omega)) ((HKEY.out.2.1.und ((Und.refl _).alloc _)).und hu7) (gb_und HKEY.out.2.2 (((Und.refl _).alloc _).trans hu7))
        have HREL := hid hrel
        clear hrel ho7 hu7 hcell
        go_wp2
        exact ⟨HREL.out, by simp [intOf]; omega⟩
      · subst h
        clear hr8 hb4
        go_wp2_with fail
        refine (HCAT.out _ _ (1, t.data.toList, 0) rfl ?_ ?_ ?_).mono ?_
        · exact (items_own HO4.out rfl).und ((Und.refl _).alloc _)
        · rw [← ba_eta t]; exact items_box _ _ _ _ (by simp) (by simp) (by simp) (by simp)
        · rw [tot_snoc]; simp; omega
        rintro e w7 ⟨v7, rfl, ho7, hu7⟩
        have hrel := FIN.out (1, t.data.toList, 0) v7 w7 ⟨rfl, .inl rfl⟩ (by simp; omega) (.inl rfl) (own_low ho7 (by have := HK4.out.size; simp at this ⊢; omega)) (((HG4.out.und ((Und.refl _).alloc _)).und hu7).le (by omega)) (gb_und HK4.out (((Und.refl _).alloc _).trans hu7))
        have HREL := hid hrel
        clear hrel ho7 hu7 d0 d1 d2
        go_wp2
        exact ⟨HREL.out, by simp [intOf]; omega⟩
      · subst h
        clear hr8 hb4
        go_wp2_with fail
        refine (HCAT.out _ _ (1, t.data.toList, 0) rfl ?_ ?_ ?_).mono ?_
        · exact (items_own HO4.out rfl).und ((Und.refl _).alloc _)
        · rw [← ba_eta t]; exact items_box _ _ _ _ (by simp) (by simp) (by simp) (by simp)
        · rw [tot_snoc]; simp; omega
        rintro e w7 ⟨v7, rfl, ho7, hu7⟩
        have hrel := FIN.out (1, t.data.toList, 0) v7 w7 ⟨rfl, .inl rfl⟩ (by simp; omega) (.inl rfl) (own_low ho7 (by have := HK4.out.size; simp at this ⊢; omega)) (((HG4.out.und ((Und.refl _).alloc _)).und hu7).le (by omega)) (gb_und HK4.out (((Und.refl _).alloc _).trans hu7))
        have HREL := hid hrel
        clear hrel ho7 hu7 d0 d1 d2
        go_wp2
        exact ⟨HREL.out, by simp [intOf]; omega⟩
      · subst h
        clear hr8 hb4
        go_wp2_with fail
        refine (HCAT.out _ _ (1, t.data.toList, 0) rfl ?_ ?_ ?_).mono ?_
        · exact (items_own HO4.out rfl).und ((Und.refl _).alloc _)
        · rw [← ba_eta t]; exact items_box _ _ _ _ (by simp) (by simp) (by simp) (by simp)
        · rw [tot_snoc]; simp; omega
        rintro e w7 ⟨v7, rfl, ho7, hu7⟩
        have hrel := FIN.out (1, t.data.toList, 0) v7 w7 ⟨rfl, .inl rfl⟩ (by simp; omega) (.inl rfl) (own_low ho7 (by have := HK4.out.size; simp at this ⊢; omega)) (((HG4.out.und ((Und.refl _).alloc _)).und hu7).le (by omega)) (gb_und HK4.out (((Und.refl _).alloc _).trans hu7))
        have HREL := hid hrel
        clear hrel ho7 hu7 d0 d1 d2
        go_wp2
        exact ⟨HREL.out, by simp [intOf]; omega⟩
      · subst h
        clear hr8 hb4
        go_wp2_with fail
        refine (HCAT.out _ _ (1, t.data.toList, 0) rfl ?_ ?_ ?_).mono ?_
        · exact (items_own HO4.out rfl).und ((Und.refl _).alloc _)
        · rw [← ba_eta t]; exact items_box _ _ _ _ (by simp) (by simp) (by simp) (by simp)
        · rw [tot_snoc]; simp; omega
        rintro e w7 ⟨v7, rfl, ho7, hu7⟩
        have hrel := FIN.out (1, t.data.toList, 0) v7 w7 ⟨rfl, .inl rfl⟩ (by simp; omega) (.inl rfl) (own_low ho7 (by have := HK4.out.size; simp at this ⊢; omega)) (((HG4.out.und ((Und.refl _).alloc _)).und hu7).le (by omega)) (gb_und HK4.out (((Und.refl _).alloc _).trans hu7))
        have HREL := hid hrel
        clear hrel ho7 hu7 d0 d1 d2
        go_wp2
        exact ⟨HREL.out, by simp [intOf]; omega⟩
      · subst h
        clear hr8 hb4
        go_wp2_with fail
        refine (HCAT.out _ _ (1, t.data.toList, 0) rfl ?_ ?_ ?_).mono ?_
        · exact (items_own HO4.out rfl).und ((Und.refl _).alloc _)
        · rw [← ba_eta t]; exact items_box _ _ _ _ (by simp) (by simp) (by simp) (by simp)
        · rw [tot_snoc]; simp; omega
        rintro e w7 ⟨v7, rfl, ho7, hu7⟩
        have hrel := FIN.out (1, t.data.toList, 0) v7 w7 ⟨rfl, .inl rfl⟩ (by simp; omega) (.inl rfl) (own_low ho7 (by have := HK4.out.size; simp at this ⊢; omega)) (((HG4.out.und ((Und.refl _).alloc _)).und hu7).le (by omega)) (gb_und HK4.out (((Und.refl _).alloc _).trans hu7))
        have HREL := hid hrel
        clear hrel ho7 hu7 d0 d1 d2
        go_wp2
        exact ⟨HREL.out, by simp [intOf]; omega⟩
      · subst h
        clear hr8 hb4
        go_wp2_with fail
        refine (HCAT.out _ _ (1, t.data.toList, 0) rfl ?_ ?_ ?_).mono ?_
        · exact (items_own HO4.out rfl).und ((Und.refl _).alloc _)
        · rw [← ba_eta t]; exact items_box _ _ _ _ (by simp) (by simp) (by simp) (by simp)
        · rw [tot_snoc]; simp; omega
        rintro e w7 ⟨v7, rfl, ho7, hu7⟩
        have hrel := FIN.out (1, t.data.toList, 0) v7 w7 ⟨rfl, .inl rfl⟩ (by simp; omega) (.inl rfl) (own_low ho7 (by have := HK4.out.size; simp at this ⊢; omega)) (((HG4.out.und ((Und.refl _).alloc _)).und hu7).le (by omega)) (gb_und HK4.out (((Und.refl _).alloc _).trans hu7))
        have HREL := hid hrel
        clear hrel ho7 hu7 d0 d1 d2
        go_wp2
        exact ⟨HREL.out, by simp [intOf]; omega⟩
    · have z : ¬ (0 : Int) < (i : Int) := by omega
      have z0 : i = 0 := by omega
      subst z0
      go_wp2_with fail
      refine wp_loop_rounds 1 ?_
      rw [rounds_succ]
      go_wp2
      go_ret
      exact ⟨_, f, rfl, HO.out, HGD.out, by omega, by omega, HG.out.le (by omega), HK.out⟩
end Go.Proofs.YthoemdibbldndaaGreatDoor
