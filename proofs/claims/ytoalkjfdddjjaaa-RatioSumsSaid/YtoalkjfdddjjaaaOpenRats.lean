/- A list of ratios that came in, opened to its cells. No conditions. -/
import Derived.Test.YtoalkjfdddjjaaaRatSum
import Derived.Deep.Slices
import Derived.ProofKit
namespace Go.Proofs.Ytoalkjfdddjjaaa
open Go.RowKit Go.Deep Go.ChangeShapes Go.WideShapes

theorem addr_at {a : Addr} (h : a.spot = none) (k : Nat) : a.add k = ⟨a.block, a.off + k, none⟩ := by
  obtain ⟨b, off, s⟩ := a
  simp at h
  subst h
  unfold Addr.add
  split
  · rename_i h; subst h; rfl
  · rfl

theorem open_rats {H : Type} {enc : TypeId × Value → H} {w : World} {base fuel : Nat} {spare : Nat → Bool} {held : Bool} {A : Option Addr} {len cap : Nat} {x : DataW H × List MemPlace}
    (h : DataW.trod enc Try.prog w base spare held fuel 34 [.slice A len cap] = some x) : ∃ zs, RatsAt w A len zs ∧ len ≤ maxLen := by
  have hc2 : Try.prog.cellsOf 23 = 2 := by kernel_rfl
  rcases open_slice Try.underlying34 h with ⟨hcs, _⟩ | ⟨a, l, c, m, n, D, Pl, hcs, _, hl, hm, hmm, _, hi⟩
  · simp at hcs
    obtain ⟨rfl, rfl, rfl⟩ := hcs
    exact ⟨[], ⟨rfl, fun h => absurd h (by omega)⟩, by unfold maxLen; omega⟩
  · simp at hcs
    obtain ⟨rfl, rfl, rfl⟩ := hcs
    rw [hc2] at hi
    have each : ∀ i, i < len → ∃ r : Int × Int, w.cell? (a.add (i * 2)) = some (.int .i64 r.1) ∧ w.cell? (a.add (i * 2 + 1)) = some (.int .i64 r.2) := by
      intro i hil
      obtain ⟨cs, hcs, ht⟩ := hi i (by rw [hmm]; split <;> omega)
      obtain ⟨_, hlen, hat⟩ := World.cells?_some hcs
      obtain ⟨xs, n', _, _, _, hxs, hf⟩ := DataW.trod_struct Try.underlying23 ht
      match cs, hlen with
      | [c0, c1], _ =>
        have f0 := hf 0 _ rfl
        have f1 := hf 1 _ rfl
        have k1 : Try.prog.cellsOf 3 = 1 := by kernel_rfl
        match xs, hxs with
        | [y0, y1], _ =>
          obtain ⟨r0, e0, _, _⟩ := DataW.trod_int Try.underlying3 (show DataW.trod enc Try.prog w base spare held n' 3 _ = some y0 from f0)
          obtain ⟨r1, e1, _, _⟩ := DataW.trod_int Try.underlying3 (show DataW.trod enc Try.prog w base spare held n' 3 _ = some y1 from f1)
          simp [k1] at e0 e1
          subst e0 e1
          refine ⟨(r0, r1), ?_, ?_⟩
          · have := hat 0 (by omega); simpa [add_add] using this
          · have := hat 1 (by omega); simpa [add_add] using this
    obtain ⟨f, hfi⟩ := choose_lt each
    refine ⟨(List.range len).map f, ⟨by simp, fun h0 => ?_⟩, by omega⟩
    have hsp : a.spot = none := by
      have := World.cell?_spot (hfi 0 h0).1
      simpa [Addr.add] using this
    have hb := World.block_lt_of_cell? _ _ (hfi 0 h0).1
    refine ⟨a.block, a.off, by obtain ⟨b, o, s⟩ := a; simp at hsp; subst hsp; rfl, by simpa [Addr.add] using hb, fun i hil => ?_⟩
    have e : ((List.range len).map f).getD i (0, 0) = f i := by simp [List.getD_eq_getElem?_getD, hil]
    rw [e]
    have h1 := (hfi i hil).1
    have h2 := (hfi i hil).2
    rw [addr_at hsp] at h1 h2
    exact ⟨h1, by rw [Nat.add_assoc]; exact h2⟩
end Go.Proofs.Ytoalkjfdddjjaaa
