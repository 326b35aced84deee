/- A list of users that came in, opened to its cells. No conditions. -/
import Derived.Test.YthgmlkeojhfijaaDoorRoleMay
import Derived.Deep.Slices
import Derived.ProofKit
namespace Go.Proofs.YthgmlkeojhfijaaDoor
open Go.RowKit Go.Deep Go.ChangeShapes Go.WideShapes

theorem addr_at {a : Addr} (h : a.spot = none) (k : Nat) : a.add k = ⟨a.block, a.off + k, none⟩ := by
  obtain ⟨b, off, s⟩ := a
  simp at h
  subst h
  unfold Addr.add
  split
  · rename_i h; subst h; rfl
  · rfl

theorem open_docs {H : Type} {enc : TypeId × Value → H} {w : World} {base fuel : Nat} {spare : Nat → Bool} {held : Bool} {cs : List Value} {x : DataW H × List MemPlace}
    (h : DataW.trod enc Tryd.prog w base spare held fuel 23 cs = some x) : ∃ D zs c, cs = [.slice D zs.length c] ∧ IntsAt w D zs ∧ zs.length ≤ maxLen := by
  rcases open_ints Tryd.underlying23 Tryd.underlying3 (by kernel_rfl) h with ⟨rfl, _⟩ | ⟨a, l, c, zs, rfl, _, hl, hm, hz, _, hcell, _⟩
  · exact ⟨none, [], 0, rfl, fun h => absurd h (by simp), by simp⟩
  · have hlz : l ≤ zs.length := by rw [hz]; split <;> omega
    refine ⟨some a, zs.take l, c, by simp [Nat.min_eq_left hlz], fun h0 => ?_, by simp [Nat.min_eq_left hlz]; omega⟩
    have hl0 : 0 < l := by simp at h0; omega
    have c0 := hcell 0 (by omega)
    have hsp : a.spot = none := by
      have := World.cell?_spot c0
      simpa [Addr.add] using this
    have hb := World.block_lt_of_cell? _ _ c0
    refine ⟨a.block, a.off, by obtain ⟨b, o, s⟩ := a; simp at hsp; subst hsp; rfl, by simpa [Addr.add] using hb, fun i hi => ?_⟩
    have hi' : i < l := by simp at hi; omega
    have := hcell i (by omega)
    rw [addr_at hsp] at this
    rw [this]
    simp [List.getD_eq_getElem?_getD, hi']

set_option maxRecDepth 20000 in
theorem open_users {H : Type} {enc : TypeId × Value → H} {w : World} {base fuel : Nat} {spare : Nat → Bool} {held : Bool} {A : Option Addr} {len cap : Nat} {x : DataW H × List MemPlace}
    (h : DataW.trod enc Tryd.prog w base spare held fuel 26 [.slice A len cap] = some x) : ∃ us, us.length = len ∧ UsersAt w A us ∧ len ≤ cap ∧ cap ≤ maxLen := by
  have hc3 : Tryd.prog.cellsOf 40 = 3 := by kernel_rfl
  rcases open_slice Tryd.underlying26 h with ⟨hcs, _⟩ | ⟨a, l, c, m, n, D, Pl, hcs, _, hl, hm, hmm, _, hi⟩
  · simp at hcs
    obtain ⟨rfl, rfl, rfl⟩ := hcs
    exact ⟨[], rfl, fun h => absurd h (by simp), by omega, by unfold maxLen; omega⟩
  · simp at hcs
    obtain ⟨rfl, rfl, rfl⟩ := hcs
    rw [hc3] at hi
    have each : ∀ i, i < len → ∃ u : UserD, ∃ (D : Option Addr) (c : Nat), w.cell? (a.add (i * 3)) = some (.string u.1) ∧ w.cell? (a.add (i * 3 + 1)) = some (.int .i64 u.2.1) ∧ w.cell? (a.add (i * 3 + 2)) = some (.slice D u.2.2.length c) ∧
        IntsAt w D u.2.2 ∧ u.1.size ≤ 9223372036854775807 ∧ u.2.2.length ≤ 9223372036854775807 := by
      intro i hil
      obtain ⟨cs, hcs, ht⟩ := hi i (by rw [hmm]; split <;> omega)
      obtain ⟨_, hlen, hat⟩ := World.cells?_some hcs
      obtain ⟨xs, n', _, _, _, hxs, hf⟩ := DataW.trod_struct Tryd.underlying40 ht
      match cs, hlen with
      | [c0, c1, c2], _ =>
        have f0 := hf 0 _ rfl
        have f1 := hf 1 _ rfl
        have f2 := hf 2 _ rfl
        have k1 : Tryd.prog.cellsOf 3 = 1 := by kernel_rfl
        have k2 : Tryd.prog.cellsOf 9 = 1 := by kernel_rfl
        have k3 : Tryd.prog.cellsOf 23 = 1 := by kernel_rfl
        match xs, hxs with
        | [y0, y1, y2], _ =>
          obtain ⟨s, e0, _, hs⟩ := DataW.trod_string Tryd.underlying9 (show DataW.trod enc Tryd.prog w base spare held n' 9 _ = some y0 from f0)
          obtain ⟨r, e1, _, _⟩ := DataW.trod_int Tryd.underlying3 (show DataW.trod enc Tryd.prog w base spare held n' 3 _ = some y1 from f1)
          obtain ⟨E, zs, c, e2, hz, hzl⟩ := open_docs (show DataW.trod enc Tryd.prog w base spare held n' 23 _ = some y2 from f2)
          simp [k1, k2, k3] at e0 e1 e2
          subst e0 e1 e2
          unfold maxLen at hs hzl
          refine ⟨(s, r, zs), E, c, ?_, ?_, ?_, hz, by omega, by omega⟩
          · have := hat 0 (by omega); simpa [add_add] using this
          · have := hat 1 (by omega); simpa [add_add] using this
          · have := hat 2 (by omega); simpa [add_add] using this
    obtain ⟨f, hfi⟩ := choose_lt each
    refine ⟨(List.range len).map f, by simp, fun h0 => ?_, by omega, by omega⟩
    have h0' : 0 < len := by simpa using h0
    obtain ⟨D0, c0, hz0, _⟩ := hfi 0 h0'
    have hsp : a.spot = none := by
      have := World.cell?_spot hz0
      simpa [Addr.add] using this
    have hb := World.block_lt_of_cell? _ _ hz0
    refine ⟨a.block, a.off, by obtain ⟨b, o, s⟩ := a; simp at hsp; subst hsp; rfl, by simpa [Addr.add] using hb, fun i hil => ?_⟩
    have hil' : i < len := by simpa using hil
    obtain ⟨D, c, g0, g1, g2, g3, g4, g5⟩ := hfi i hil'
    rw [addr_at hsp] at g0 g1 g2
    simp only [List.getElem_map, List.getElem_range]
    exact ⟨D, c, g0, by rw [Nat.add_assoc]; exact g1, by rw [Nat.add_assoc]; exact g2, g3, g4, g5⟩
end Go.Proofs.YthgmlkeojhfijaaDoor
