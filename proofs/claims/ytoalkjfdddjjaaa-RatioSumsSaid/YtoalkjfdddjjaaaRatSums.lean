/- The law RatioSums: Sum returns what the reference returns, for any ratios. No conditions. -/
import Derived.Test.YtoalkjfdddjjaaaRatSum
import Derived.Test.YtoalkjfdddjjaaaSteps
import Derived.Outline
namespace Go.Proofs.Ytoalkjfdddjjaaa
open Go.RowKit

theorem info_rat : (Try.prog.info? 23).map (fun i => (i.zero, i.size, i.bytes)) = some (some (.agg #[.int .i64 0, .int .i64 0]), 2, 16) := by kernel_rfl

/-- The cells of the valid ratios made of the first k. -/
def madeQ (zs : List (Int × Int)) (k : Nat) : List Rat := (zs.take k).map fun r => Rt.someR r.1 r.2 12
def cellsQ (l : List Rat) : List Value := l.flatMap fun q => [.int .i64 q.num, .int .i64 (q.den : Int)]

theorem side1 (w2 : World) (x y : Value) : ∀ j u, [x, y][j]? = some u → (w2.alloc (.cells #[x, y] 23)).cell? ((⟨w2.heap.size, 0, none⟩ : Addr).add j) = some u := by
  intro j u hj
  match j, hj with
  | 0, hj => simp at hj; subst hj; simp [Addr.add]
  | 1, hj => simp at hj; subst hj; simp [Addr.add]
  | j + 2, hj => simp at hj
theorem side2 {w wr w2 : World} (h : Und w wr) (h2 : Und wr.drew w2) (o : Obj) : w.heap.size ≤ (w2.alloc o).heap.size := by
  have := h.size; have := h2.size; simp at *; omega
theorem cells_at (l : List Rat) : ∀ (i : Nat) (q : Rat), l[i]? = some q → (cellsQ l)[i * 2]? = some (.int .i64 q.num) ∧ (cellsQ l)[i * 2 + 1]? = some (.int .i64 (q.den : Int)) := by
  induction l with
  | nil => intro i q h; simp at h
  | cons x l ih =>
    intro i q h
    match i, h with
    | 0, h => simp at h; subst h; simp [cellsQ]
    | i + 1, h =>
      have := ih i q (by simpa using h)
      have e1 : (i + 1) * 2 = i * 2 + 2 := by omega
      rw [e1]
      simpa [cellsQ] using this
theorem own_rats {wr : World} {base n : Nat} {v : Value} {zs : List (Int × Int)} (h : wr.ownsRow base 23 2 v n (cellsQ (madeQ zs n))) :
    ∃ A cap, v = .slice A n cap ∧ RatsAt wr A n ((madeQ zs n).map fun q => (q.num, (q.den : Int))) := by
  have hl : (madeQ zs n).length * 2 = n * 2 := by
    have := h.1
    have e : (cellsQ (madeQ zs n)).length = (madeQ zs n).length * 2 := by
      generalize madeQ zs n = l
      induction l with
      | nil => rfl
      | cons x l ih => simp [cellsQ] at ih ⊢; omega
    omega
  have hl2 : ((madeQ zs n).map fun q => (q.num, (q.den : Int))).length = n := by simp; omega
  have hcells := fun g => h.cells (g := g)
  rcases h.2 with ⟨rfl, rfl⟩ | ⟨g, cap, cur, rfl, hb, hh, hr⟩
  · exact ⟨_, _, rfl, hl2, fun h => absurd h (by omega)⟩
  · refine ⟨_, _, rfl, hl2, fun _ => ⟨g, 0, rfl, ?_, fun i hi => ?_⟩⟩
    · rcases Nat.lt_or_ge g wr.heap.size with h | h
      · exact h
      · rw [Array.getElem?_eq_none h] at hh; cases hh
    · have hi' : i < (madeQ zs n).length := by omega
      have hq := List.getElem?_eq_getElem hi'
      obtain ⟨q, hq'⟩ : ∃ q, (madeQ zs n)[i]? = some q := ⟨_, hq⟩
      obtain ⟨x1, x2⟩ := cells_at _ i q hq'
      have e : ((madeQ zs n).map fun q => (q.num, (q.den : Int))).getD i (0, 0) = (q.num, (q.den : Int)) := by
        rw [List.getD_eq_getElem?_getD, List.getElem?_map, hq']; rfl
      rw [e]
      have y1 := hcells g rfl _ _ x1
      have y2 := hcells g rfl _ _ x2
      rw [Nat.zero_add]
      constructor
      · by_cases h0 : i * 2 = 0
        · rw [h0] at y1 ⊢; simpa [Addr.add] using y1
        · simpa [Addr.add, h0] using y1
      · simpa [Addr.add] using y2
def SumsRel (w : World) (n : Nat) (zs : List (Int × Int)) (v i : Value) (wr : World) : Prop :=
  ∃ k : Nat, k ≤ n ∧ i = .int .i64 k ∧ wr.ownsRow w.heap.size 23 2 v k (cellsQ (madeQ zs k)) ∧ Und w wr

theorem made_snoc (zs : List (Int × Int)) (k : Nat) (r : Int × Int) (h : zs[k]? = some r) : cellsQ (madeQ zs k) ++ [.int .i64 (Rt.someR r.1 r.2 12).num, .int .i64 ((Rt.someR r.1 r.2 12).den : Int)] = cellsQ (madeQ zs (k + 1)) := by
  unfold madeQ cellsQ
  rw [List.take_add_one, h]
  simp

set_option maxRecDepth 100000 in
set_option maxHeartbeats 3200000 in
theorem sums_core (A : Option Addr) (n cap : Nat) (zs : List (Int × Int)) (w : World) (hn : n ≤ 40) (h : RatsAt w A n zs) :
    Calls Try.prog 7 #[.slice A n cap] w fun e w' => e = .returned (.bool true) ∧ Und w w' := by
  obtain ⟨i0, hi, hz0, hz1, hz2⟩ := info_parts info_rat
  have H := hid h
  clear h
  go_enter Try.func7, Try.ntmps7
  go_wp2
  go_loopw [3, 19] (fun v i wr => SumsRel w n zs v i wr) (fun _ i _ => n - (intOf i).toNat)
  case atStart => exact ⟨0, by omega, rfl, World.ownsRow_nil _ _ _ _, Und.refl _⟩
  case round =>
    obtain ⟨k, hk, rfl, hown, hU⟩ := hrel
    by_cases hlt : k < n
    · have hH := H.out
      obtain ⟨hl, hc⟩ := hH
      obtain ⟨b, off, rfl, hb, hc2⟩ := hc (by omega)
      obtain ⟨c0, c1⟩ := hc2 k hlt
      have hk2 : zs[k]? = some (zs.getD k (0, 0)) := by rw [List.getD_eq_getElem?_getD, List.getElem?_eq_getElem (by omega)]; rfl
      obtain ⟨r, hr⟩ : ∃ r, zs.getD k (0, 0) = r := ⟨_, rfl⟩
      rw [hr] at hk2 c0 c1
      have d0 : wr.cell? ⟨b, off + k * 2, none⟩ = some (.int .i64 r.1) := (hU.cell hb).trans c0
      have d1 : wr.cell? ⟨b, off + k * 2 + 1, none⟩ = some (.int .i64 r.2) := (hU.cell hb).trans c1
      have hl' : LtW b wr := LtW.of (by have := hU.size; omega)
      have HK := hid hk2
      have HO := hid hown
      have HU := hid hU
      clear hc hc2 hr hl c0 c1 hk2 hown hU
      go_wp2_with fail
      go_region_law (first | (refine step_call rfl 17 #[.int .i64 r.1, .int .i64 r.2, .int .i64 12] (.agg #[.int .i64 (Rt.someR r.1 r.2 12).num, .int .i64 ((Rt.someR r.1 r.2 12).den : Int)]) (some_any r.1 r.2 12 _ (by omega) (by omega)) ?_ ?_; (· go_simp; done); intro w2 hu2) | (refine step_append_own rfl (.tmp 22) (.tmp 34) 34 rfl w.heap.size 23 i0 (.agg #[.int .i64 0, .int .i64 0]) 2 16 Try.underlying34 hi hz0 hz1 hz2 rfl (by decide) u3 k _ rfl ((owns_und HO.out ((Und.refl wr).drew.trans hu2)).alloc _) ⟨w2.heap.size, 0, none⟩ 1 1 [.int .i64 (Rt.someR r.1 r.2 12).num, .int .i64 ((Rt.someR r.1 r.2 12).den : Int)] rfl rfl (side1 w2 _ _) (by simp; exact ⟨rfl, rfl⟩) (by unfold maxLen; omega) (by omega) (side2 HU.out hu2 _) ?_; intro v' w1 hown' hgrow _))
      all_goals
        have hU2 : Und w w1 := ((HU.out.trans ((Und.refl wr).drew.trans hu2)).alloc _).grown hgrow (fun g hg => owns_block HO.out g hg)
        rw [made_snoc zs k r HK.out] at hown'
        have HO2 := hid hown'
        have HU2 := hid hU2
        clear hown' hU2 hgrow hu2 d0 d1 hl'
        go_wp2
        exact ⟨⟨k + 1, by omega, by go_num, HO2.out, HU2.out⟩, by simp [intOf]; omega⟩
    · obtain rfl : k = n := by omega
      obtain ⟨A', cap', hv, hr⟩ := own_rats hown
      have HR := hid hr
      have HA := hid (H.out.und hU)
      have HU := hid hU
      subst hv
      have hn2 : k ≤ maxLen := by unfold maxLen; omega
      have HN := hid hn2
      clear hown hU hlt hr hn2
      go_wp2_with fail
      refine (sum_any _ _ _ _ _ HN.out HA.out).mono ?_; rintro e w' ⟨rfl, X1, rfl⟩
      go_wp2_with fail
      refine (rsum_any _ _ _ _ _ HN.out (HA.out.und (by repeat (first | exact Und.refl _ | assumption | refine Und.under ?_ _ | refine Und.alloc ?_ _ | refine Und.drew ?_ | refine Und.drewN ?_ _)))).mono ?_; rintro e w' ⟨rfl, X2, rfl⟩
      go_wp2_with fail
      refine (sum_any _ _ _ _ _ HN.out (HR.out.und (by repeat (first | exact Und.refl _ | assumption | refine Und.under ?_ _ | refine Und.alloc ?_ _ | refine Und.drew ?_ | refine Und.drewN ?_ _)))).mono ?_; rintro e w' ⟨rfl, X3, rfl⟩
      go_wp2_with fail
      refine (rsum_any _ _ _ _ _ HN.out (HR.out.und (by repeat (first | exact Und.refl _ | assumption | refine Und.under ?_ _ | refine Und.alloc ?_ _ | refine Und.drew ?_ | refine Und.drewN ?_ _)))).mono ?_; rintro e w' ⟨rfl, X4, rfl⟩
      go_wp2_with (go_at_call 16; refine (known_any _).mono ?_; rintro e w' ⟨rfl, X14, rfl⟩)
      go_ret
      exact ⟨rfl, HU.out.trans (by repeat (first | exact Und.refl _ | assumption | refine Und.under ?_ _ | refine Und.alloc ?_ _ | refine Und.drew ?_ | refine Und.drewN ?_ _))⟩

theorem sums_long (A : Option Addr) (n cap : Nat) (w : World) (hn : 40 < n) (hm : n ≤ maxLen) :
    Calls Try.prog 7 #[.slice A n cap] w fun e w' => e = .returned (.bool true) ∧ Und w w' := by
  unfold maxLen at hm
  have h40 : 40 < (n : Int) := by omega
  go_enter Try.func7, Try.ntmps7
  go_wp2_with (go_at_call 16; refine (known_any _).mono ?_; rintro e w' ⟨rfl, X14, rfl⟩)
  go_ret
  exact ⟨rfl, (by repeat (first | exact Und.refl _ | assumption | refine Und.under ?_ _ | refine Und.alloc ?_ _ | refine Und.drew ?_ | refine Und.drewN ?_ _))⟩

theorem sums_any (A : Option Addr) (n cap : Nat) (zs : List (Int × Int)) (w : World) (hm : n ≤ maxLen) (h : RatsAt w A n zs) :
    Calls Try.prog 7 #[.slice A n cap] w fun e w' => e = .returned (.bool true) ∧ Und w w' := by
  by_cases hn : n ≤ 40
  · exact sums_core A n cap zs w hn h
  · exact sums_long A n cap w (by omega) hm
end Go.Proofs.Ytoalkjfdddjjaaa
