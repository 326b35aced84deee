/- The contracts of role.Allowed and the reference's: one Boolean. No conditions. -/
import Derived.Test.YthgmlkeojhfijaaDoorUnder
import Derived.Test.YthgmlkeojhfijaaDoorProg
import Derived.MapKept
namespace Go.Proofs.YthgmlkeojhfijaaDoor
open Go.RowKit

namespace Ro
/-- The least role that may do an act; 0 if there is none. -/
def leastI (k : Int) : Int :=
  if k = 12 then 1 else if k = 2 ∨ k = 3 ∨ k = 4 ∨ k = 5 ∨ k = 7 ∨ k = 8 ∨ k = 9 ∨ k = 10 ∨ k = 13 then 2
  else if k = 6 ∨ k = 11 then 3 else if k = 1 ∨ k = 14 ∨ k = 15 then 4 else 0
def allowedI (r k : Int) : Bool := decide (0 < leastI k ∧ leastI k ≤ r ∧ r ≤ 4)
end Ro

theorem acts (k : Int) : (k = 1 ∨ k = 2 ∨ k = 3 ∨ k = 4 ∨ k = 5 ∨ k = 6 ∨ k = 7 ∨ k = 8 ∨ k = 9 ∨ k = 10 ∨ k = 11 ∨ k = 12 ∨ k = 13 ∨ k = 14 ∨ k = 15) ∨
    ((k == 1) = false ∧ (k == 2) = false ∧ (k == 3) = false ∧ (k == 4) = false ∧ (k == 5) = false ∧ (k == 6) = false ∧ (k == 7) = false ∧ (k == 8) = false ∧ (k == 9) = false ∧ (k == 10) = false ∧ (k == 11) = false ∧ (k == 12) = false ∧ (k == 13) = false ∧ (k == 14) = false ∧ (k == 15) = false) := by
  simp only [beq_eq_false_iff_ne]
  omega

theorem least_any (k : Int) (w : World) : Calls Tryd.prog 25 #[.int .i64 k] w fun e w' => e = .returned (.int .i64 (Ro.leastI k)) ∧ w = w' := by
  rcases acts k with h | ⟨h1, h2, h3, h4, h5, h6, h7, h8, h9, h10, h11, h12, h13, h14, h15⟩
  · rcases h with rfl | rfl | rfl | rfl | rfl | rfl | rfl | rfl | rfl | rfl | rfl | rfl | rfl | rfl | rfl <;>
    · go_enter Tryd.func25, Tryd.ntmps25
      go_wp2
      go_ret
      exact ⟨rfl, rfl⟩
  · go_enter Tryd.func25, Tryd.ntmps25
    go_wp2
    go_ret
    refine ⟨ret_int ?_, rfl⟩
    simp only [beq_eq_false_iff_ne] at *
    unfold Ro.leastI
    simp [*]

theorem refallowed_any (r k : Int) (w : World) : Calls Tryd.prog 11 #[.int .i64 r, .int .i64 k] w fun e w' => e = .returned (.bool (Ro.allowedI r k)) ∧ w = w' := by
  unfold Ro.allowedI
  obtain ⟨n, hn⟩ : ∃ n, n = Ro.leastI k := ⟨_, rfl⟩
  have hl := least_any k
  rw [← hn] at hl ⊢
  clear hn
  by_cases h1 : 0 < n
  · have H1 := hid h1
    by_cases h2 : n ≤ r
    · have H2 := hid h2
      go_enter Tryd.func11, Tryd.ntmps11
      go_wp2_with (go_at_call 25; refine (hl _).mono ?_; rintro e w' ⟨rfl, rfl⟩)
      go_ret
      exact ⟨ret_bool (by have := H1.out; have := H2.out; simp [*]), rfl⟩
    · have H2 := hid h2
      go_enter Tryd.func11, Tryd.ntmps11
      go_wp2_with (go_at_call 25; refine (hl _).mono ?_; rintro e w' ⟨rfl, rfl⟩)
      go_ret
      exact ⟨ret_bool (by have := H2.out; simp; omega), rfl⟩
  · have H1 := hid h1
    go_enter Tryd.func11, Tryd.ntmps11
    go_wp2_with (go_at_call 25; refine (hl _).mono ?_; rintro e w' ⟨rfl, rfl⟩)
    go_ret
    exact ⟨ret_bool (by have := H1.out; simp; omega), rfl⟩

/-- The entries of a map from integers to integers, in the order in which they were put. -/
def mapE : Nat → List (Int × Int) → List MapEntry
  | _, [] => []
  | n, p :: l => { key := .int .i64 p.1, val := .int .i64 p.2, born := n } :: mapE (n + 1) l
theorem mapE_push (k v : Int) : ∀ (l : List (Int × Int)) (n : Nat), mapE n (l ++ [(k, v)]) = mapE n l ++ [{ key := .int .i64 k, val := .int .i64 v, born := n + l.length }]
  | [], n => by simp [mapE]
  | p :: l, n => by
    simp only [List.cons_append, mapE, mapE_push k v l (n + 1), List.length_cons]
    rw [show n + 1 + l.length = n + (l.length + 1) by omega]
def look (k : Int) : List (Int × Int) → Option Int
  | [] => none
  | p :: l => if k = p.1 then some p.2 else look k l
/-- The world with such a map as its last block. -/
def mapW (w : World) (l : List (Int × Int)) : World := w.alloc (.map (mapE 0 l).toArray l.length)

theorem find_none (k : Int) (d : TypeDesc) (hd : ∃ x, d = .int x) : ∀ (l : List (Int × Int)) (n i : Nat), look k l = none → Instr.findNow d (.int .i64 k) (mapE n l) i = some none
  | [], n, i, _ => rfl
  | p :: l, n, i, h => by
    obtain ⟨x, rfl⟩ := hd
    unfold look at h
    by_cases e : k = p.1
    · rw [if_pos e] at h; simp at h
    · rw [if_neg e] at h
      have e' : (k == p.1) = false := by simpa using e
      simp only [mapE, Instr.findNow, Instr.sameNow, if_true, e']
      exact find_none k _ ⟨x, rfl⟩ l _ _ h
theorem find_some (k v : Int) (d : TypeDesc) (hd : ∃ x, d = .int x) : ∀ (l : List (Int × Int)) (n i : Nat), look k l = some v → ∃ j, Instr.findNow d (.int .i64 k) (mapE n l) i = some (some (j, .int .i64 v))
  | [], n, i, h => by simp [look] at h
  | p :: l, n, i, h => by
    obtain ⟨x, rfl⟩ := hd
    unfold look at h
    by_cases e : k = p.1
    · rw [if_pos e] at h
      obtain rfl : p.2 = v := by simpa using h
      have e' : (k == p.1) = true := by simpa using e
      exact ⟨i, by simp only [mapE, Instr.findNow, Instr.sameNow, if_true, e']⟩
    · rw [if_neg e] at h
      have e' : (k == p.1) = false := by simpa using e
      obtain ⟨j, hj⟩ := find_some k v _ ⟨x, rfl⟩ l (n + 1) (i + 1) h
      exact ⟨j, by simp only [mapE, Instr.findNow, Instr.sameNow, if_true, e']; exact hj⟩

theorem mapW_block (w : World) (l : List (Int × Int)) : (mapW w l).heap[w.heap.size]? = some (.map (mapE 0 l).toArray l.length) := by
  show (w.heap.push _)[w.heap.size]? = _
  simp
theorem mapW_set (w : World) (l : List (Int × Int)) (o : Obj) : { (mapW w l) with heap := (mapW w l).heap.setIfInBounds w.heap.size o } = w.alloc o := by
  show ({ w with heap := (w.heap.push _).setIfInBounds w.heap.size o } : World) = { w with heap := w.heap.push o }
  congr 1
  apply Array.toList_inj.1
  simp

theorem run_put (w : World) (l : List (Int × Int)) (k v : Int) (h : look k l = none) :
    (Instr.mapUpdate 49 (.map (some w.heap.size)) (.int .i64 k) (.int .i64 v)).run Tryd.prog (mapW w l) = .ok () (mapW w (l ++ [(k, v)])) := by
  have hm : Tryd.prog.underlying 49 = some (.map 3 3) := by kernel_rfl
  have hd : Tryd.prog.underlying 3 = some (.int .i64) := by kernel_rfl
  have hb := mapW_block w l
  have hf := find_none k (.int .i64) ⟨_, rfl⟩ l 0 0 h
  have hk : MapKept.IsKey (.int .i64) (.int .i64 k) := by simp [MapKept.IsKey]
  simp [Instr.mapUpdate, run_underlying hm, MapKept.run_getObj_map hb, MapKept.run_checkKey hd hk, MapKept.run_findKey hd hf, MapKept.run_setObj_map _ hb, Result.andThen]
  rw [mapW_set]
  simp [mapW, mapE_push]
theorem run_get (w : World) (l : List (Int × Int)) (k v : Int) (h : look k l = some v) :
    (Instr.lookup 49 (.map (some w.heap.size)) (.int .i64 k) true).run Tryd.prog (mapW w l) = .ok (.tuple #[.int .i64 v, .bool true]) (mapW w l) := by
  have hm : Tryd.prog.underlying 49 = some (.map 3 3) := by kernel_rfl
  have hd : Tryd.prog.underlying 3 = some (.int .i64) := by kernel_rfl
  have hb := mapW_block w l
  obtain ⟨j, hf⟩ := find_some k v (.int .i64) ⟨_, rfl⟩ l 0 0 h
  have hk : MapKept.IsKey (.int .i64) (.int .i64 k) := by simp [MapKept.IsKey]
  simp [Instr.lookup, run_underlying hm, MapKept.run_getObj_map hb, MapKept.run_checkKey hd hk, MapKept.run_findKey hd hf, Result.andThen]
theorem run_getno (w : World) (l : List (Int × Int)) (k : Int) (h : look k l = none) :
    (Instr.lookup 49 (.map (some w.heap.size)) (.int .i64 k) true).run Tryd.prog (mapW w l) = .ok (.tuple #[.int .i64 0, .bool false]) (mapW w l) := by
  have hm : Tryd.prog.underlying 49 = some (.map 3 3) := by kernel_rfl
  have hd : Tryd.prog.underlying 3 = some (.int .i64) := by kernel_rfl
  have hb := mapW_block w l
  have hf := find_none k (.int .i64) ⟨_, rfl⟩ l 0 0 h
  have hk : MapKept.IsKey (.int .i64) (.int .i64 k) := by simp [MapKept.IsKey]
  have hz : (zeroValue 3).run Tryd.prog (mapW w l) = .ok (.int .i64 0) (mapW w l) := by go_simp
  simp [Instr.lookup, run_underlying hm, MapKept.run_getObj_map hb, MapKept.run_checkKey hd hk, MapKept.run_findKey hd hf, hz, Result.andThen]

theorem run_mk (w : World) : (Instr.makeMap 49 none).run Tryd.prog w = .ok (.map (some w.heap.size)) (mapW w []) := rfl
theorem und_mapW (w : World) (l : List (Int × Int)) : Und w (mapW w l) := (Und.refl w).alloc _

def tableL : List (Int × Int) := [(12, 1), (2, 2), (3, 2), (4, 2), (5, 2), (7, 2), (8, 2), (9, 2), (10, 2), (13, 2), (6, 3), (11, 3), (1, 4), (14, 4), (15, 4)]

set_option maxHeartbeats 1600000 in
theorem allowed_any (r k : Int) (w : World) : Calls Tryd.prog 10 #[.int .i64 r, .int .i64 k] w fun e w' => e = .returned (.bool (Ro.allowedI r k)) ∧ Und w w' := by
  have hmm := run_mk
  have hp1 := fun w => run_put w [] 12 1 rfl
  have hp2 := fun w => run_put w _ 2 2 (show look 2 (tableL.take 1) = none by rfl)
  have hp3 := fun w => run_put w _ 3 2 (show look 3 (tableL.take 2) = none by rfl)
  have hp4 := fun w => run_put w _ 4 2 (show look 4 (tableL.take 3) = none by rfl)
  have hp5 := fun w => run_put w _ 5 2 (show look 5 (tableL.take 4) = none by rfl)
  have hp6 := fun w => run_put w _ 7 2 (show look 7 (tableL.take 5) = none by rfl)
  have hp7 := fun w => run_put w _ 8 2 (show look 8 (tableL.take 6) = none by rfl)
  have hp8 := fun w => run_put w _ 9 2 (show look 9 (tableL.take 7) = none by rfl)
  have hp9 := fun w => run_put w _ 10 2 (show look 10 (tableL.take 8) = none by rfl)
  have hp10 := fun w => run_put w _ 13 2 (show look 13 (tableL.take 9) = none by rfl)
  have hp11 := fun w => run_put w _ 6 3 (show look 6 (tableL.take 10) = none by rfl)
  have hp12 := fun w => run_put w _ 11 3 (show look 11 (tableL.take 11) = none by rfl)
  have hp13 := fun w => run_put w _ 1 4 (show look 1 (tableL.take 12) = none by rfl)
  have hp14 := fun w => run_put w _ 14 4 (show look 14 (tableL.take 13) = none by rfl)
  have hp15 := fun w => run_put w _ 15 4 (show look 15 (tableL.take 14) = none by rfl)
  have hl : look k tableL = if Ro.leastI k = 0 then none else some (Ro.leastI k) := by
    rcases acts k with h | h
    · rcases h with rfl | rfl | rfl | rfl | rfl | rfl | rfl | rfl | rfl | rfl | rfl | rfl | rfl | rfl | rfl <;> rfl
    · simp only [beq_eq_false_iff_ne] at h
      unfold tableL Ro.leastI
      simp [look, h]
  have hn0 : 0 ≤ Ro.leastI k := by unfold Ro.leastI; split <;> (try split) <;> (try split) <;> (try split) <;> omega
  simp only [tableL, List.take, List.cons_append, List.nil_append] at hp1 hp2 hp3 hp4 hp5 hp6 hp7 hp8 hp9 hp10 hp11 hp12 hp13 hp14 hp15
  unfold Ro.allowedI
  generalize Ro.leastI k = n at hl hn0 ⊢
  have H := hid hn0
  clear hn0
  by_cases h0 : n = 0
  · have hg := fun w => run_getno w tableL k (by rw [hl, if_pos h0])
    unfold tableL at hg
    clear hl
    have HZ := hid h0
    clear h0
    go_enter Tryd.func10, Tryd.ntmps10
    go_wp2
    go_ret
    exact ⟨ret_bool (by rw [HZ.out]; simp), und_mapW _ _⟩
  · have hg := fun w => run_get w tableL k n (by rw [hl, if_neg h0])
    unfold tableL at hg
    have H0 := hid h0
    clear hl h0
    by_cases h2 : n ≤ r
    · have H2 := hid h2
      go_enter Tryd.func10, Tryd.ntmps10
      go_wp2
      go_ret
      have := H.out; have := H0.out; have := H2.out
      exact ⟨ret_bool (by have : 0 < n := by omega
                          simp [*]), und_mapW _ _⟩
    · have H2 := hid h2
      go_enter Tryd.func10, Tryd.ntmps10
      go_wp2
      go_ret
      have := H2.out
      exact ⟨ret_bool (by simp; omega), und_mapW _ _⟩
end Go.Proofs.YthgmlkeojhfijaaDoor
