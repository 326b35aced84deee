/- A map from strings to true in a block: how it is looked at and put to. No function in sight. -/
import Derived.Test.YtpahkhmheikebaaGreatDoorItems
import Derived.MapKept
namespace Go.Proofs.YtpahkhmheikebaaGreatDoor
open Go.RowKit

/-- The entries of a set of strings, in the order in which they were put. -/
def mapS : Nat → List (List UInt8) → List MapEntry
  | _, [] => []
  | n, p :: l => { key := .string ⟨p.toArray⟩, val := .bool true, born := n } :: mapS (n + 1) l
theorem mapS_push (k : List UInt8) : ∀ (l : List (List UInt8)) (n : Nat), mapS n (l ++ [k]) = mapS n l ++ [{ key := .string ⟨k.toArray⟩, val := .bool true, born := n + l.length }]
  | [], n => by simp [mapS]
  | p :: l, n => by
    simp only [List.cons_append, mapS, mapS_push k l (n + 1), List.length_cons]
    rw [show n + 1 + l.length = n + (l.length + 1) by omega]
def MV (w : World) (B mb : Nat) (l : List (List UInt8)) : Prop := B ≤ mb ∧ w.heap[mb]? = some (.map (mapS 0 l).toArray l.length)
def setMap (w : World) (mb : Nat) (l : List (List UInt8)) : World := { w with heap := w.heap.setIfInBounds mb (.map (mapS 0 l).toArray l.length) }
theorem MV.und {a c : World} {B mb : Nat} {l : List (List UInt8)} (h : MV a B mb l) (u : Und a c) : MV c B mb l := ⟨h.1, (u.below.block mb (lt_of_heap h.2)).trans h.2⟩
theorem MV.put {w : World} {B mb : Nat} {l l' : List (List UInt8)} (h : MV w B mb l) : MV (setMap w mb l') B mb l' := by
  refine ⟨h.1, ?_⟩
  have := lt_of_heap h.2
  unfold setMap
  simp [this]
theorem setMap_gb (w : World) (mb : Nat) (l : List (List UInt8)) : w.grownBy (setMap w mb l) (some mb) := by
  refine ⟨rfl, rfl, rfl, by simp [setMap], fun k hk hne => ?_⟩
  unfold setMap
  simp only
  rw [Array.getElem?_setIfInBounds_ne (by intro e; exact hne (by rw [e]))]

theorem same_str (k p : List UInt8) : Instr.sameNow .string (.string ⟨k.toArray⟩) (.string ⟨p.toArray⟩) = some (decide (k = p)) := by
  unfold Instr.sameNow
  have e : ((⟨k.toArray⟩ : ByteArray) == ⟨p.toArray⟩) = (k.toArray == p.toArray) := rfl
  simp only [e]
  congr 1
  rw [Bool.eq_iff_iff]
  simp
theorem findS_none (k : List UInt8) : ∀ (l : List (List UInt8)) (n i : Nat), k ∉ l → Instr.findNow .string (.string ⟨k.toArray⟩) (mapS n l) i = some none
  | [], n, i, _ => rfl
  | p :: l, n, i, h => by
    simp only [List.mem_cons, not_or] at h
    simp only [mapS, Instr.findNow, same_str, decide_eq_false h.1]
    exact findS_none k l _ _ h.2
theorem findS_some (k : List UInt8) : ∀ (l : List (List UInt8)) (n i : Nat), k ∈ l → ∃ j, Instr.findNow .string (.string ⟨k.toArray⟩) (mapS n l) i = some (some (j, .bool true))
  | [], n, i, h => by cases h
  | p :: l, n, i, h => by
    by_cases e : k = p
    · exact ⟨i, by simp only [mapS, Instr.findNow, same_str, decide_eq_true e]⟩
    · obtain ⟨j, hj⟩ := findS_some k l (n + 1) (i + 1) (by simpa [e] using h)
      exact ⟨j, by simp only [mapS, Instr.findNow, same_str, decide_eq_false e]; exact hj⟩
theorem run_sget (w : World) (B mb : Nat) (l : List (List UInt8)) (k : List UInt8) (h : MV w B mb l) :
    (Instr.lookup 86 (.map (some mb)) (.string ⟨k.toArray⟩) false).run Tryz.prog w = .ok (.bool (decide (k ∈ l))) w := by
  have hm : Tryz.prog.underlying 86 = some (.map 9 4) := by kernel_rfl
  have hd : Tryz.prog.underlying 9 = some .string := by kernel_rfl
  have hb := h.2
  have hk : MapKept.IsKey .string (.string ⟨k.toArray⟩) := by simp [MapKept.IsKey]
  have hz : (zeroValue 4).run Tryz.prog w = .ok (.bool false) w := by go_simp
  by_cases hkl : k ∈ l
  · obtain ⟨j, hf⟩ := findS_some k l 0 0 hkl
    simp [Instr.lookup, run_underlying hm, MapKept.run_getObj_map hb, MapKept.run_checkKey hd hk, MapKept.run_findKey hd hf, Result.andThen, hkl]
  · have hf := findS_none k l 0 0 hkl
    simp [Instr.lookup, run_underlying hm, MapKept.run_getObj_map hb, MapKept.run_checkKey hd hk, MapKept.run_findKey hd hf, hz, Result.andThen, hkl]
theorem run_sput (w : World) (B mb : Nat) (l : List (List UInt8)) (k : List UInt8) (h : MV w B mb l) (hkl : k ∉ l) :
    (Instr.mapUpdate 86 (.map (some mb)) (.string ⟨k.toArray⟩) (.bool true)).run Tryz.prog w = .ok () (setMap w mb (l ++ [k])) := by
  have hm : Tryz.prog.underlying 86 = some (.map 9 4) := by kernel_rfl
  have hd : Tryz.prog.underlying 9 = some .string := by kernel_rfl
  have hb := h.2
  have hk : MapKept.IsKey .string (.string ⟨k.toArray⟩) := by simp [MapKept.IsKey]
  have hf := findS_none k l 0 0 hkl
  simp [Instr.mapUpdate, run_underlying hm, MapKept.run_getObj_map hb, MapKept.run_checkKey hd hk, MapKept.run_findKey hd hf, MapKept.run_setObj_map _ hb, Result.andThen]
  simp [setMap, mapS_push]
end Go.Proofs.YtpahkhmheikebaaGreatDoor
