/- A list of items that came in, opened to its cells, with the reach of its texts. No conditions. -/
import Derived.Test.YtiifjfbfkhhpeaaGreatDoorOpenInts
import Derived.Test.YtiifjfbfkhhpeaaGreatDoorItems
import Derived.Test.YtiifjfbfkhhpeaaGreatDoorShaped
import Derived.SizedLaws
import Derived.Deep.Slices
import Derived.ProofKit
set_option linter.unusedVariables false
set_option linter.unusedSimpArgs false
namespace Go.Proofs.YtiifjfbfkhhpeaaGreatDoor
open Go Go.RowKit Go.Deep Go.ChangeShapes Go.WideShapes

theorem handed_sized {H : Type} {enc : TypeId × Value → H} {a : Assume} {C : Checked} {os : Os} {f : FuncId} {fn : Func} {s : ChangeSpec} {conds : List PathCond} {apart fresh handsOn again : Bool} {X : World → Prop}
    (hX : ∀ (w w' : World), w.heap = w'.heap → X w → X w')
    (own : ownKnob C.prog.godebug = none) (started : os.Started) (noInit : C.prog.inits.idxOf? f = none) (hfn : C.prog.funcs[f]? = some fn)
    (witness : ∃ (w : World) (tape : Tape) (i : Input), w.os = os ∧ (w.forCall tape i).Shaped C.prog ∧ i.vars = [] ∧ Input.okWide C.prog (w.forCall tape i) .any w.heap.size f i ∧
      ((s.pre enc C.prog fn conds apart (w.forCall tape i).memory i.args ∧ X (w.forCall tape i).memory) ∧ sizedMet enc C.prog fn (OpenSpec.ofChange s) apart (w.forCall tape i).memory i.args) ∧ a.holds C.prog (lone (Frame.enter C.prog f i.args .normal) [] (w.forCall tape i)))
    (contract : ∀ (W : World) (base : Nat) (args : Array Value) (ds gs : List (DataW H)) (before : List MemPlace),
      W.ShapedOpen C.prog →
      (∀ (j : Nat) t v, fn.params[j]? = some t → args[j]? = some v → Value.okWide C.prog W .any base t v) →
      DataW.Whole enc C.prog fn.params.toList s.vars apart W args.toList ds gs before →
      conds.all (PathCond.test C.prog ⟨fn.params.toList, ds, s.plain.varTypes C.prog, gs⟩) = true → X W →
      (DataW.weightsEach C.prog (fn.params.toList ++ s.plain.varTypes C.prog) (ds ++ gs)).all (· ≤ reachBytes) = true →
      Calls C.prog f args W fun e W' => ∃ v, e = .returned v ∧ s.post enc C.prog fn apart fresh handsOn again W args v W') :
    ReturnsInHanded a C os f .any (fun w args => (s.pre enc C.prog fn conds apart w args ∧ X w) ∧ sizedMet enc C.prog fn (OpenSpec.ofChange s) apart w args) (s.post enc C.prog fn apart fresh handsOn again) := by
  refine returnsInHanded_of_calls own started noInit witness ?_
  intro w tape i _ shaped _ fits pre _
  obtain ⟨_, _, _, g, hg, _, _, _, _, vals⟩ := fits
  obtain rfl : g = fn := Option.some.inj (hg.symm.trans hfn)
  obtain ⟨⟨⟨ds, gs, before, whole, cond⟩, x⟩, hz⟩ := pre
  refine (contract (w.forCall tape i) w.heap.size i.args ds gs before shaped vals (DataW.Whole.of_heap (w' := w.forCall tape i) (by rfl) whole) cond (hX _ _ (by rfl) x) (sizedMet.weights hz whole)).mono ?_
  rintro e W' ⟨v, rfl, hp⟩
  exact ChangeSpec.post_blind hp

theorem addr_at' {a : Addr} (h : a.spot = none) (k : Nat) : a.add k = ⟨a.block, a.off + k, none⟩ := by
  obtain ⟨b, off, s⟩ := a
  simp at h
  subst h
  unfold Addr.add
  split
  · rename_i h; subst h; rfl
  · rfl
theorem weights_all_mem {H : Type} {P : Program} {e : TypeId} : ∀ {l : List (DataW H)} {d : DataW H}, d ∈ l → ∀ n ∈ d.weights P e, n ∈ DataW.weightsAll P e l
  | d0 :: l, d, hd, n, hn => by
    simp only [DataW.weightsAll, List.mem_append]
    rcases List.mem_cons.1 hd with rfl | hd
    · exact .inl hn
    · exact .inr (weights_all_mem hd n hn)
set_option maxRecDepth 20000 in
theorem open_items {H : Type} {enc : TypeId × Value → H} {ts : List TypeId} {ds : List (DataW H)} {w : World} {base fuel : Nat} {held : Bool} {A : Option Addr} {len cap : Nat} {x : DataW H × List MemPlace}
    (hz : (DataW.weightsEach Tryz.prog ts ds).all (· ≤ reachBytes) = true) {j : Nat} (ht : ts[j]? = some 22) (hd : ds[j]? = some x.1)
    (h : DataW.trod enc Tryz.prog w base (fun _ => true) held fuel 22 [.slice A len cap] = some x) :
    ∃ f : List St.It, f.length = len ∧ ItemsAt w A f ∧ len ≤ cap ∧ cap * 32 ≤ 140737488355327 ∧ (A = none → cap = 0) ∧ ∀ y ∈ f, y.2.1.length ≤ 140737488355327 := by
  have hc3 : Tryz.prog.cellsOf 38 = 3 := by kernel_rfl
  have hb32 : Tryz.prog.bytesOf 38 = 32 := by kernel_rfl
  have hrb := reachBytes_lt
  rcases open_slice Tryz.underlying22 h with ⟨hcs, _⟩ | ⟨a, l, c, m, n, D, Pl, hcs, _, hl, hm, hmm, hx, hi⟩
  · simp at hcs
    obtain ⟨rfl, rfl, rfl⟩ := hcs
    exact ⟨[], rfl, fun h => absurd h (by simp), by omega, by omega, fun _ => rfl, fun y hy => by cases hy⟩
  · simp at hcs
    obtain ⟨rfl, rfl, rfl⟩ := hcs
    rw [hc3] at hi
    simp only [if_true] at hmm
    subst hmm
    have hcap := sized_slice hz ht (hd.trans (by rw [hx])) Tryz.underlying22
    rw [hb32] at hcap
    simp only [List.length_map, List.length_range] at hcap
    have hmemD : ∀ i, i < len → ∀ k ∈ (D i).weights Tryz.prog 38, k ≤ reachBytes := by
      intro i hil k hk
      have hmem : k ∈ DataW.weightsEach Tryz.prog ts ds := by
        refine DataW.weights_mem_each ht hd k ?_
        rw [hx]
        simp only [DataW.weights, Tryz.underlying22, List.mem_cons, List.mem_append]
        exact .inr (.inl (weights_all_mem (List.mem_map.2 ⟨i, List.mem_range.2 hil, rfl⟩) k hk))
      have := List.all_eq_true.1 hz k hmem
      simpa using this
    have each : ∀ i, i < len → ∃ y : St.It, w.cell? (a.add (i * 3)) = some (.int .i64 y.1) ∧ w.cell? (a.add (i * 3 + 1)) = some (.string ⟨y.2.1.toArray⟩) ∧ w.cell? (a.add (i * 3 + 2)) = some (.int .i64 y.2.2) ∧ y.2.1.length ≤ 140737488355327 := by
      intro i hil
      obtain ⟨cs, hcs, ht⟩ := hi i (by omega)
      obtain ⟨_, hlen, hat⟩ := World.cells?_some hcs
      obtain ⟨xs, n', _, hxe, _, hxs, hf⟩ := DataW.trod_struct Tryz.underlying38 ht
      match cs, hlen with
      | [c0, c1, c2], _ =>
        have f0 := hf 0 _ rfl
        have f1 := hf 1 _ rfl
        have f2 := hf 2 _ rfl
        have k1 : Tryz.prog.cellsOf 3 = 1 := by kernel_rfl
        have k2 : Tryz.prog.cellsOf 9 = 1 := by kernel_rfl
        match xs, hxs with
        | [y0, y1, y2], _ =>
          obtain ⟨r, e0, x0, _⟩ := DataW.trod_int Tryz.underlying3 (show DataW.trod enc Tryz.prog w base (fun _ => true) held n' 3 _ = some y0 from f0)
          obtain ⟨s, e1, x1, hs⟩ := DataW.trod_string Tryz.underlying9 (show DataW.trod enc Tryz.prog w base (fun _ => true) held n' 9 _ = some y1 from f1)
          obtain ⟨q, e2, x2, _⟩ := DataW.trod_int Tryz.underlying3 (show DataW.trod enc Tryz.prog w base (fun _ => true) held n' 3 _ = some y2 from f2)
          simp [k1, k2] at e0 e1 e2
          subst e0 e1 e2
          have hD : D i = .agg [y0.1, y1.1, y2.1] := by
            have := congrArg Prod.fst hxe
            simpa using this
          have hsz : s.data.toList.length ≤ reachBytes := by
            refine hmemD i hil _ ?_
            rw [hD]
            simp only [DataW.weights, Tryz.underlying38]
            refine DataW.weights_mem_each (j := 1) (t := 9) (d := y1.1) (by rfl) (by rfl) _ ?_
            rw [x1]
            simp [DataW.weights]
          refine ⟨(r, s.data.toList, q), ?_, ?_, ?_, by show s.data.toList.length ≤ _; omega⟩
          · have := hat 0 (by omega); simpa [add_add] using this
          · have := hat 1 (by omega); rw [ba_eta]; simpa [add_add] using this
          · have := hat 2 (by omega); simpa [add_add] using this
    obtain ⟨f, hfi⟩ := choose_lt each
    refine ⟨(List.range len).map f, by simp, fun h0 => ?_, by omega, by omega, fun e => (by cases e), fun y hy => ?_⟩
    · have h0' : 0 < len := by simpa using h0
      obtain ⟨hz0, _⟩ := hfi 0 h0'
      have hsp : a.spot = none := by
        have := World.cell?_spot hz0
        simpa [Addr.add] using this
      have hb := World.block_lt_of_cell? _ _ hz0
      refine ⟨a.block, a.off, by obtain ⟨b, o, s⟩ := a; simp at hsp; subst hsp; rfl, by simpa [Addr.add] using hb, fun i hil => ?_⟩
      have hil' : i < len := by simpa using hil
      obtain ⟨g0, g1, g2, _⟩ := hfi i hil'
      rw [addr_at' hsp] at g0 g1 g2
      simp only [List.getElem_map, List.getElem_range]
      exact ⟨g0, by rw [Nat.add_assoc]; exact g1, by rw [Nat.add_assoc]; exact g2⟩
    · obtain ⟨i, hil, rfl⟩ := List.mem_map.1 hy
      exact (hfi i (List.mem_range.1 hil)).2.2.2
end Go.Proofs.YtiifjfbfkhhpeaaGreatDoor
