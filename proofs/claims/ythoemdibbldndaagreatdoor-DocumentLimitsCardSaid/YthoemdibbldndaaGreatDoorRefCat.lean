/- The contract of the reference's Concat: what it gives is St.normL of both lists. -/
import Derived.Test.YthoemdibbldndaaGreatDoorRefNorm
import Derived.Laws.AppendOwnNone
set_option linter.unusedVariables false
set_option linter.unusedSimpArgs false
namespace Go.Proofs.YthoemdibbldndaaGreatDoor
open Go.RowKit

theorem ItemsAt.cells {w : World} {ad : Addr} {f : List St.It} (h : ItemsAt w (some ad) f) : ∀ j u, (cellsIt f)[j]? = some u → w.cell? (ad.add j) = some u := by
  intro j u hj
  have hl : j < f.length * 3 := by rw [← cells_len]; exact (List.getElem?_eq_some_iff.1 hj).1
  obtain ⟨b, off, e, hb, hc⟩ := h (by omega)
  cases e
  have hadd : (⟨b, off, none⟩ : Addr).add j = ⟨b, off + j, none⟩ := by unfold Addr.add; split <;> simp_all
  rw [hadd]
  obtain ⟨q, r, hr, rfl⟩ : ∃ q r, r < 3 ∧ j = q * 3 + r := ⟨j / 3, j % 3, Nat.mod_lt _ (by decide), by omega⟩
  obtain ⟨c0, c1, c2⟩ := hc q (by omega)
  obtain ⟨d0, d1, d2⟩ := cellsIt_at f q (by omega)
  match r, hr, hj with
  | 0, _, hj => exact c0.trans (d0.symm.trans hj)
  | 1, _, hj => exact c1.trans (d1.symm.trans hj)
  | 2, _, hj => exact c2.trans (d2.symm.trans hj)
theorem cellsIt_one (f : List St.It) : ∀ u ∈ cellsIt f, u.oneCell' = true := by
  intro u hu
  unfold cellsIt at hu
  obtain ⟨x, _, hx⟩ := List.mem_flatMap.1 hu
  exact item_one _ _ _ u hx
theorem cellsIt_append (f g : List St.It) : cellsIt (f ++ g) = cellsIt f ++ cellsIt g := by simp [cellsIt]

theorem wpList_append_items {ops : Array Oper} {rest : List Oper} {o : Oper} {a : Act} {w : World} {Q : Exit → Act → World → Prop} (hgd : o.guard = none) (s x : Operand)
    (ho : o.op = .call { callee := .builtin .append, args := #[s, x], argTypes := #[37, 37] })
    (base : Nat) (v : Value) (n : Nat) (O : List St.It) (hs : a.eval s = v) (hown : w.ownsRow base 36 3 v n (cellsIt O))
    (A : Option Addr) (m c : Nat) (f : List St.It) (hx : a.eval x = .slice A m c) (hA : A = none → m = 0 ∧ c = 0) (hI : ItemsAt w A f) (hm : f.length = m) (h63 : n + m ≤ 200000) (hbase : base ≤ w.heap.size)
    (h : ∀ v' w', w'.ownsRow base 36 3 v' (n + m) (cellsIt (O ++ f)) → w.grownBy w' v.ownBlock → wpList Tryz.prog ops Q rest (a.put o.dst v') w') : wpList Tryz.prog ops Q (o :: rest) a w := by
  obtain ⟨i0, hi, hz0, hz1, hz2⟩ := info_parts info_item
  cases A with
  | none =>
    obtain ⟨rfl, rfl⟩ := hA rfl
    have : f = [] := List.eq_nil_of_length_eq_zero hm
    subst this
    refine wpList_append_own_none hgd s x 37 ho base 36 i0 3 Tryz.underlying37 hi v n _ hs hown hx ?_
    exact h v w (by simpa using hown) (gb_refl _ _)
  | some ad =>
    refine wpList_append_own w hgd s x 37 ho base 36 i0 (.agg #[.int .i64 0, .string ⟨#[]⟩, .int .i64 0]) 3 32 Tryz.underlying37 hi hz0 hz1 hz2 rfl (by decide) v n _ hs hown ad m c (cellsIt f) hx (by rw [cells_len, hm]) hI.cells (cellsIt_one f) (by unfold maxLen; omega) (by omega) hbase ?_
    intro v' w' ho' hg _
    exact h v' w' (by rw [cellsIt_append]; exact ho') hg

set_option maxRecDepth 20000 in
set_option maxHeartbeats 3200000 in
theorem concat_any (A : Option Addr) (n c : Nat) (f : List St.It) (B : Option Addr) (m d : Nat) (g : List St.It) (w : World) (hn : f.length = n) (hm : g.length = m) (hA : A = none → n = 0 ∧ c = 0) (hB : B = none → m = 0 ∧ d = 0)
    (h : ItemsAt w A f) (h' : ItemsAt w B g) (hl : n + m ≤ 100000) (ht : tot (f ++ g) ≤ 4611686018427387904) :
    Calls Tryz.prog 44 #[.slice A n c, .slice B m d] w fun e w' => ∃ v, e = .returned v ∧ w'.ownsRow w.heap.size 36 3 v (St.normL (f ++ g)).length (cellsIt (St.normL (f ++ g))) ∧ Und w w' := by
  have H := hid h
  have H' := hid h'
  have HT := hid ht
  clear h h' ht
  go_enter Tryz.func44, Tryz.ntmps44
  go_wp2_with (at_builtin; refine wpList_append_items rfl _ _ rfl w.heap.size (.slice none 0 0) 0 [] rfl (World.ownsRow_nil _ _ _ _) A n c f rfl hA H.out hn (by omega) (Nat.le_refl _) ?_)
  intro v1 w1 ho1 hg1
  have hu1 : Und w w1 := (Und.refl w).grown hg1 (fun g e => by simp [Value.ownBlock] at e)
  have HO1 := hid ho1
  have HU1 := hid hu1
  have HS1 := hid hu1.size
  clear ho1 hg1 hu1
  go_wp2_with (at_builtin; refine wpList_append_items rfl _ _ rfl w.heap.size v1 n f rfl HO1.out B m d g rfl hB (H'.out.und HU1.out) hm (by omega) HS1.out ?_)
  intro v2 w2 ho2 hg2
  have hu2 : Und w w2 := HU1.out.grown hg2 (fun g hg => owns_block HO1.out g hg)
  obtain ⟨A2, c2, rfl, _, _, hA2⟩ := own_slice' ho2
  have hlen : (f ++ g).length = n + m := by simp [hn, hm]
  have hnm := normalize_any A2 (n + m) c2 (f ++ g) w2 hlen (items_own ho2 hlen) hl HT.out
  have HNM := hid hnm
  have HU2 := hid hu2
  have HS2 := hid hu2.size
  clear ho2 hg2 hu2 hnm HO1 HU1 HS1
  go_wp2_with (go_at_call 83; refine HNM.out.mono ?_; rintro e w3 ⟨v3, rfl, ho3, hu3⟩)
  have HO3 := hid (own_low ho3 HS2.out)
  have HU3 := hid (HU2.out.trans hu3)
  clear ho3 hu3
  go_wp2
  go_ret
  exact ⟨_, rfl, HO3.out, HU3.out⟩
end Go.Proofs.YthoemdibbldndaaGreatDoor
