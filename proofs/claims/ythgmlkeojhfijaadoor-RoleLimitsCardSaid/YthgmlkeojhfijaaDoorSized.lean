/- The wrap of a row that lists variables, with the world's shape and the form's own reach; what the reach says of a list of users. -/
import Derived.Test.YthgmlkeojhfijaaDoorShaped
import Derived.Test.YthgmlkeojhfijaaDoorOpenUsers
import Derived.SizedLaws
namespace Go.Proofs.YthgmlkeojhfijaaDoor
open Go Go.Deep

theorem handed_sized {H : Type} {enc : TypeId × Value → H} {a : Assume} {C : Checked} {os : Os} {f : FuncId} {fn : Func} {s : ChangeSpec} {conds : List PathCond} {apart fresh handsOn again : Bool} {X : World → Prop}
    (hX : ∀ (w w' : World), w.heap = w'.heap → X w → X w')
    (own : ownKnob C.prog.godebug = none) (started : os.Started) (noInit : C.prog.inits.idxOf? f = none) (hfn : C.prog.funcs[f]? = some fn)
    (witness : ∃ (w : World) (tape : Tape) (i : Input), w.os = os ∧ (w.forCall tape i).Shaped C.prog ∧ i.vars = [] ∧ Input.okWide C.prog (w.forCall tape i) .any w.heap.size f i ∧
      ((s.pre enc C.prog fn conds apart (w.forCall tape i).memory i.args ∧ X (w.forCall tape i).memory) ∧ sizedMet enc C.prog fn (OpenSpec.ofChange s) apart (w.forCall tape i).memory i.args) ∧ a.holds C.prog (lone (Frame.enter C.prog f i.args .normal) [] (w.forCall tape i)))
    (contract : ∀ (W : World) (base : Nat) (args : Array Value) (ds gs : List (DataW H)) (before : List MemPlace),
      W.ShapedOpen C.prog →
      (∀ (j : Nat) t v, fn.params[j]? = some t → args[j]? = some v → Value.okWide C.prog W .any base t v) →
      DataW.Whole enc C.prog fn.params.toList s.vars apart W args.toList ds gs before →
      conds.all (PathCond.test C.prog ⟨fn.params.toList, ds, s.plain.varTypes C.prog, gs⟩) = true → X W →
      (DataW.weightsEach C.prog (fn.params.toList ++ s.plain.varTypes C.prog) (ds ++ gs)).all (· ≤ reachBytes) = true →
      Calls C.prog f args W fun e W' => ∃ v, e = .returned v ∧ s.post enc C.prog fn apart fresh handsOn again W args v W') :
    ReturnsInHanded a C os f .any (fun w args => (s.pre enc C.prog fn conds apart w args ∧ X w) ∧ sizedMet enc C.prog fn (OpenSpec.ofChange s) apart w args) (s.post enc C.prog fn apart fresh handsOn again) := by
  refine returnsInHanded_of_calls own started noInit witness ?_
  intro w tape i _ shaped _ fits pre _
  obtain ⟨_, _, _, g, hg, _, _, _, _, vals⟩ := fits
  obtain rfl : g = fn := Option.some.inj (hg.symm.trans hfn)
  obtain ⟨⟨⟨ds, gs, before, whole, cond⟩, x⟩, hz⟩ := pre
  refine (contract (w.forCall tape i) w.heap.size i.args ds gs before shaped vals (DataW.Whole.of_heap (w' := w.forCall tape i) (by rfl) whole) cond (hX _ _ (by rfl) x) (sizedMet.weights hz whole)).mono ?_
  rintro e W' ⟨v, rfl, hp⟩
  exact ChangeSpec.post_blind hp

theorem users_cap {H : Type} {enc : TypeId × Value → H} {w : World} {base fuel : Nat} {held : Bool} {A : Option Addr} {len cap : Nat} {x : DataW H × List MemPlace}
    (h : DataW.trod enc Tryd.prog w base (fun _ => true) held fuel 26 [.slice A len cap] = some x) : (A = none ∧ cap = 0) ∨ ((A = none → cap = 0) ∧ ∃ es sp, x.1 = .slice es sp ∧ es.length + sp.length = cap) := by
  rcases open_slice Tryd.underlying26 h with ⟨hcs, _⟩ | ⟨a, l, c, m, n, D, Pl, hcs, _, hl, hm, hmm, rfl, hi⟩
  · simp at hcs
    exact Or.inl ⟨hcs.1, hcs.2.2⟩
  · simp at hcs
    obtain ⟨rfl, rfl, rfl⟩ := hcs
    simp only [if_true] at hmm
    exact Or.inr ⟨fun e => absurd e (by simp), _, _, rfl, by simp; omega⟩
theorem bytes_user : Tryd.prog.bytesOf 40 = 48 := by kernel_rfl
theorem reach_users {H : Type} {enc : TypeId × Value → H} {ts : List TypeId} {ds : List (DataW H)} {w : World} {base fuel : Nat} {held : Bool} {A : Option Addr} {len cap : Nat} {x : DataW H × List MemPlace}
    (hz : (DataW.weightsEach Tryd.prog ts ds).all (· ≤ reachBytes) = true) {j : Nat} (ht : ts[j]? = some 26) (hd : ds[j]? = some x.1)
    (h : DataW.trod enc Tryd.prog w base (fun _ => true) held fuel 26 [.slice A len cap] = some x) : cap * 48 ≤ 140737488351232 ∧ (A = none → cap = 0) := by
  rcases users_cap h with ⟨ha, hc⟩ | ⟨ha, es, sp, hx, hl⟩
  · exact ⟨by omega, fun _ => hc⟩
  · have := sized_slice hz ht (hd.trans (by rw [hx])) Tryd.underlying26
    rw [hl, bytes_user] at this
    exact ⟨this, ha⟩
end Go.Proofs.YthgmlkeojhfijaaDoor
