/- The contracts of Sum of package ratio and of its reference, for any list of ratios. Conditions: the list lies in memory. -/
import Derived.Test.YtoalkjfdddjjaaaRatEq
import Derived.Outline
import Derived.Deep.RegionWith
namespace Go.Proofs.Ytoalkjfdddjjaaa
open Go.RowKit

/-- What Sum comes to from a sum on. -/
def sumQ (s : Rat) : List (Int × Int) → Option Rat
  | [] => some s
  | r :: l => match Rt.addS s.num s.den r.1 r.2 with
    | none => none
    | some t => sumQ t l
def RatsAt (w : World) (A : Option Addr) (n : Nat) (zs : List (Int × Int)) : Prop :=
  zs.length = n ∧ (0 < n → ∃ b off, A = some ⟨b, off, none⟩ ∧ b < w.heap.size ∧
    ∀ i, i < n → w.cell? ⟨b, off + i * 2, none⟩ = some (.int .i64 (zs.getD i (0, 0)).1) ∧ w.cell? ⟨b, off + i * 2 + 1, none⟩ = some (.int .i64 (zs.getD i (0, 0)).2))
theorem RatsAt.und {w w' : World} {A : Option Addr} {n : Nat} {zs : List (Int × Int)} (h : RatsAt w A n zs) (u : Und w w') : RatsAt w' A n zs :=
  ⟨h.1, fun hn => by
    obtain ⟨b, off, e, hb, hc⟩ := h.2 hn
    have := u.size
    exact ⟨b, off, e, by omega, fun i hi => ⟨(u.cell hb).trans (hc i hi).1, (u.cell hb).trans (hc i hi).2⟩⟩⟩

/-- The two blocks of Sum: its result's, and the sum's. -/
def sumW (w : World) (s : Rat) : World := (w.alloc (.cells #[.int .i64 0, .int .i64 0] 23)).alloc (.cells #[.int .i64 s.num, .int .i64 (s.den : Int)] 23)
@[go_sem] theorem sumW_def (w : World) (s : Rat) : sumW w s = (w.alloc (.cells #[.int .i64 0, .int .i64 0] 23)).alloc (.cells #[.int .i64 s.num, .int .i64 (s.den : Int)] 23) := rfl

def SumRel (w : World) (n : Nat) (zs : List (Int × Int)) (i : Value) (wr : World) : Prop :=
  ∃ (k : Nat) (s : Rat), k ≤ n ∧ i = .int .i64 k ∧ Hid (sumQ s (zs.drop k) = sumQ 0 zs) ∧ Und (sumW w s) wr

theorem drop_get (zs : List (Int × Int)) (k : Nat) (h : k < zs.length) : zs.drop k = zs.getD k (0, 0) :: zs.drop (k + 1) := by
  rw [List.drop_eq_getElem_cons h, List.getD_eq_getElem?_getD, List.getElem?_eq_getElem h]; rfl
theorem add_is {a b c d : Int} {o : Option Rat} (h : Hid (Rt.addS a b c d = o)) (w : World) : Calls Try.prog 18 #[.agg #[.int .i64 a, .int .i64 b], .agg #[.int .i64 c, .int .i64 d]] w fun e w' => e = .returned (Rt.rv o) ∧ Und w w' := h.out ▸ add_any a b c d w

set_option maxHeartbeats 1600000 in
theorem sum_any (A : Option Addr) (n cap : Nat) (zs : List (Int × Int)) (w : World) (hn : n ≤ maxLen) (h : RatsAt w A n zs) :
    Calls Try.prog 21 #[.slice A n cap] w fun e w' => e = .returned (Rt.rv (sumQ 0 zs)) ∧ Und w w' := by
  unfold maxLen at hn
  have H := hid h
  clear h
  go_enter Try.func21, Try.ntmps21
  go_wp2
  go_loopw [11] (fun i wr => SumRel w n zs i wr) (fun i _ => n - (intOf i).toNat)
  case atStart => exact ⟨0, 0, by omega, rfl, hid rfl, Und.refl _⟩
  case round =>
    obtain ⟨k, s, hk, rfl, HS, X, rfl⟩ := hrel
    by_cases hlt : k < n
    · obtain ⟨hl, hc⟩ := H.out
      obtain ⟨b, off, rfl, hb, hc⟩ := hc (by omega)
      obtain ⟨c0, c1⟩ := hc k hlt
      have hD := drop_get zs k (by omega)
      obtain ⟨r0, r1, hr⟩ : ∃ r0 r1, zs.getD k (0, 0) = (r0, r1) := ⟨_, _, rfl⟩
      rw [hr] at hD c0 c1
      have HD := hid hD
      have hdef := sumW_def w s
      have HDF := hid hdef
      have hl' : LtW b w := LtW.of hb
      clear hc hr hD hl hdef
      rw [HDF.out]
      cases ho : Rt.addS s.num s.den r0 r1 with
      | none =>
        have HO := hid ho
        clear ho
        go_wp2_with (go_at_call 18; (with_reducible refine (add_is HO _).mono ?_); rintro e w' ⟨rfl, X2, rfl⟩)
        have e : sumQ 0 zs = none := by rw [← HS.out, HD.out, sumQ, HO.out]
        rw [e]
        exact bodyPost_ret (v := Rt.rv none) (by simp [results, Try.results21, go_sem]) rfl ⟨rfl, (by repeat (first | exact Und.refl _ | assumption | refine Und.under ?_ _ | refine Und.alloc ?_ _ | refine Und.drew ?_ | refine Und.drewN ?_ _))⟩
      | some t =>
        have HO := hid ho
        clear ho
        go_wp2_with (go_at_call 18; (with_reducible refine (add_is HO _).mono ?_); rintro e w' ⟨rfl, X2, rfl⟩)
        refine ⟨⟨k + 1, t, by omega, by go_num, hid ?_, ?_⟩, by simp [intOf]; omega⟩
        · rw [← HS.out, HD.out, sumQ, HO.out]
        · rw [sumW_def]; exact (by repeat (first | exact Und.refl _ | assumption | refine Und.under ?_ _ | refine Und.alloc ?_ _ | refine Und.drew ?_ | refine Und.drewN ?_ _))
    · obtain rfl : k = n := by omega
      have e : sumQ 0 zs = some s := by
        rw [← HS.out, List.drop_of_length_le (by have := H.out.1; omega), sumQ]
      have E := hid e
      clear e hlt
      have hdef := sumW_def w s
      rw [hdef]
      clear hdef
      go_wp2
      rw [E.out]
      exact bodyPost_ret (v := Rt.rv (some s)) (by simp [results, Try.results21, go_sem]) rfl ⟨rfl, (by repeat (first | exact Und.refl _ | assumption | refine Und.under ?_ _ | refine Und.alloc ?_ _ | refine Und.drew ?_ | refine Und.drewN ?_ _))⟩

theorem sumQ_bad : ∀ (zs : List (Int × Int)) (s : Rat) (r : Int × Int), r ∈ zs → Rt.vB r.1 r.2 = false → sumQ s zs = none
  | [], _, _, h, _ => by cases h
  | x :: l, s, r, h, hv => by
    unfold sumQ
    rcases List.mem_cons.1 h with rfl | h'
    · unfold Rt.addS; rw [hv]; simp
    · cases Rt.addS s.num s.den x.1 x.2 with
      | none => rfl
      | some t => exact sumQ_bad l t r h' hv
theorem radd_is {a b c d : Int} {o : Option Rat} (h : Hid (Rt.addS a b c d = o)) (w : World) : Calls Try.prog 26 #[.agg #[.int .i64 a, .int .i64 b], .agg #[.int .i64 c, .int .i64 d]] w fun e w' => e = .returned (Rt.rv o) ∧ Und w w' := h.out ▸ radd_any a b c d w
noncomputable def rsumW (w X : World) (s : Rat) : World := (under (w.alloc (.cells #[.int .i64 0, .int .i64 0] 23)) X).alloc (.cells #[.int .i64 s.num, .int .i64 (s.den : Int)] 23)
theorem rsumW_def (w X : World) (s : Rat) : rsumW w X s = (under (w.alloc (.cells #[.int .i64 0, .int .i64 0] 23)) X).alloc (.cells #[.int .i64 s.num, .int .i64 (s.den : Int)] 23) := rfl
def RSumRel (w X : World) (n : Nat) (zs : List (Int × Int)) (i : Value) (wr : World) : Prop :=
  ∃ (k : Nat) (s : Rat), k ≤ n ∧ i = .int .i64 k ∧ Hid (sumQ s (zs.drop k) = sumQ 0 zs) ∧ Und (rsumW w X s) wr
def ChkRel (w : World) (n : Nat) (i : Value) (wr : World) : Prop := ∃ k : Nat, k ≤ n ∧ i = .int .i64 k ∧ Und w wr

set_option maxHeartbeats 3200000 in
theorem rsum_any (A : Option Addr) (n cap : Nat) (zs : List (Int × Int)) (w : World) (hn : n ≤ maxLen) (h : RatsAt w A n zs) :
    Calls Try.prog 22 #[.slice A n cap] w fun e w' => e = .returned (Rt.rv (sumQ 0 zs)) ∧ Und w w' := by
  unfold maxLen at hn
  have H := hid h
  clear h
  go_enter Try.func22, Try.ntmps22
  go_wp2
  go_loopw [10] (fun i wr => ChkRel (w.alloc (.cells #[.int .i64 0, .int .i64 0] 23)) n i wr) (fun i _ => n - (intOf i).toNat)
  case atStart => exact ⟨0, by omega, rfl, Und.refl _⟩
  case round =>
    obtain ⟨k, hk, rfl, X, rfl⟩ := hrel
    by_cases hlt : k < n
    · obtain ⟨hl, hc⟩ := H.out
      obtain ⟨b, off, rfl, hb, hc⟩ := hc (by omega)
      obtain ⟨c0, c1⟩ := hc k hlt
      obtain ⟨r0, r1, hr⟩ : ∃ r0 r1, zs.getD k (0, 0) = (r0, r1) := ⟨_, _, rfl⟩
      have hmem : (r0, r1) ∈ zs := by
        rw [← hr, List.getD_eq_getElem?_getD, List.getElem?_eq_getElem (by omega)]; exact List.getElem_mem _
      have HM := hid hmem
      rw [hr] at c0 c1
      have hl' : LtW b w := LtW.of hb
      clear hc hr hl hmem
      cases hv : Rt.vB r0 r1 with
      | false =>
        have HV := hid hv
        clear hv
        go_wp2_with (go_at_call 15; (with_reducible refine (rvalid_f _ _ _ HV.out).mono ?_); rintro e w' ⟨rfl, X2, rfl⟩)
        rw [sumQ_bad zs 0 _ HM.out HV.out]
        exact bodyPost_ret (v := Rt.rv none) (by simp [results, Try.results22, go_sem]) rfl ⟨rfl, (by repeat (first | exact Und.refl _ | assumption | refine Und.under ?_ _ | refine Und.alloc ?_ _ | refine Und.drew ?_ | refine Und.drewN ?_ _))⟩
      | true =>
        have HV := hid hv
        clear hv
        go_wp2_with (go_at_call 15; (with_reducible refine (rvalid_t _ _ _ HV.out).mono ?_); rintro e w' ⟨rfl, X2, rfl⟩)
        exact ⟨⟨k + 1, by omega, by go_num, (by repeat (first | exact Und.refl _ | assumption | refine Und.under ?_ _ | refine Und.alloc ?_ _ | refine Und.drew ?_ | refine Und.drewN ?_ _))⟩, by simp [intOf]; omega⟩
    · obtain rfl : k = n := by omega
      clear hlt
      go_wp2
      go_loopw [24] (fun i wr => RSumRel w X k zs i wr) (fun i _ => k - (intOf i).toNat)
      case atStart => exact ⟨0, 0, by omega, rfl, hid rfl, Und.refl _⟩
      case round =>
        obtain ⟨j, s, hj, rfl, HS, X2, rfl⟩ := hrel
        rw [rsumW_def]
        by_cases hlt : j < k
        · have hH := H.out
          have hk2 := hlt
          obtain ⟨hl, hc⟩ := hH
          obtain ⟨b, off, rfl, hb, hc2⟩ := hc (by omega)
          obtain ⟨c0, c1⟩ := hc2 j hlt
          have hD := drop_get zs j (by omega)
          obtain ⟨r0, r1, hr⟩ : ∃ r0 r1, zs.getD j (0, 0) = (r0, r1) := ⟨_, _, rfl⟩
          rw [hr] at hD c0 c1
          have HD := hid hD
          have hl' : LtW b w := LtW.of hb
          clear hc hc2 hr hD hl hk2
          cases ho : Rt.addS s.num s.den r0 r1 with
          | none =>
            have HO := hid ho
            clear ho
            have E := hid (show sumQ 0 zs = none by rw [← HS.out, HD.out, sumQ, HO.out])
            go_wp2_with fail
            go_region_with (go_at_call 26; (with_reducible refine (radd_is HO _).mono ?_); rintro e w' ⟨rfl, X3, rfl⟩)
            all_goals go_wp2
            all_goals rw [E.out]
            all_goals exact bodyPost_ret (v := Rt.rv none) (by simp [results, Try.results22, go_sem]) rfl ⟨rfl, (by repeat (first | exact Und.refl _ | assumption | refine Und.under ?_ _ | refine Und.alloc ?_ _ | refine Und.drew ?_ | refine Und.drewN ?_ _))⟩
          | some t =>
            have HO := hid ho
            clear ho
            go_wp2_with fail
            go_region_with (go_at_call 26; (with_reducible refine (radd_is HO _).mono ?_); rintro e w' ⟨rfl, X3, rfl⟩)
            all_goals go_wp2
            all_goals
              refine ⟨⟨j + 1, t, by omega, by go_num, hid ?_, ?_⟩, by simp [intOf]; omega⟩
              · rw [← HS.out, HD.out, sumQ, HO.out]
              · rw [rsumW_def]; exact (by repeat (first | exact Und.refl _ | assumption | refine Und.under ?_ _ | refine Und.alloc ?_ _ | refine Und.drew ?_ | refine Und.drewN ?_ _))
        · obtain rfl : j = k := by omega
          have e : sumQ 0 zs = some s := by
            rw [← HS.out, List.drop_of_length_le (by have := H.out.1; omega), sumQ]
          have E := hid e
          clear e hlt
          go_wp2
          rw [E.out]
          exact bodyPost_ret (v := Rt.rv (some s)) (by simp [results, Try.results22, go_sem]) rfl ⟨rfl, (by repeat (first | exact Und.refl _ | assumption | refine Und.under ?_ _ | refine Und.alloc ?_ _ | refine Und.drew ?_ | refine Und.drewN ?_ _))⟩
end Go.Proofs.Ytoalkjfdddjjaaa
