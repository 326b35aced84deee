/- The contracts of the makers shield and longer. Conditions: as MakeGen's. -/
import Derived.Test.YthoemdibbldndaaGreatDoorMakeFrag
import Derived.Test.YthoemdibbldndaaGreatDoorFacts
import Derived.Test.YthoemdibbldndaaGreatDoorPartB
import Derived.Test.YthoemdibbldndaaGreatDoorRefEnc
set_option linter.unusedVariables false
set_option linter.unusedSimpArgs false
namespace Go.Proofs.YthoemdibbldndaaGreatDoor
open Go.RowKit

namespace St
def shieldL : List UInt8 → List UInt8
  | c :: r => if c.toNat = 32 then [92, 115] ++ r else c :: r
  | [] => []
def blankL (r : Nat) : List UInt8 := if r = 0 then [] else if r = 1 then [32] else [9, 32]
/-- The forms of an item's bytes that the maker gives. -/
def formB (fmt : Int) (p : It) (b : List UInt8) : Prop :=
  b = encI fmt p ∨ (fmt = 1 ∧ p.1 = 1 ∧ ((p.2.1 = [62] ∧ b = [38, 103, 116, 59]) ∨ (p.2.1 = [125] ∧ b = [38, 114, 98, 59]))) ∨
    (fmt = 2 ∧ ((p.1 = 1 ∧ p.2.1 = [32] ∧ b = [92, 115]) ∨ (∃ r, r < 3 ∧ b = [92, 10] ++ blankL r ++ shieldL (encI 2 p))))
end St
def blankB (r : Nat) : ByteArray := ⟨(St.blankL r).toArray⟩
set_option maxHeartbeats 1600000 in
theorem shield_any (t : List UInt8) (w : World) (ht : t.length ≤ 4611686018427387904) : Calls Tryz.prog 201 #[.string ⟨t.toArray⟩] w fun e w' => e = .returned (.string ⟨(St.shieldL t).toArray⟩) ∧ Und w w' := by
  have htz : (⟨t.toArray⟩ : ByteArray).size = t.length := by show t.toArray.size = _; simp
  cases t with
  | nil =>
    go_enter Tryz.func201, Tryz.ntmps201
    go_wp2
    go_ret
    exact ⟨rfl, (by repeat (first | exact Und.refl _ | assumption | refine Und.under ?_ _ | refine Und.alloc ?_ _ | refine Und.drew ?_ | refine Und.drewN ?_ _))⟩
  | cons c r =>
    have hne : ((⟨(c :: r).toArray⟩ : ByteArray).toList == []) = false := by rw [Lib.toList_data]; rfl
    have hne2 : ((⟨(c :: r).toArray⟩ : ByteArray).toList != []) = true := by rw [Lib.toList_data]; rfl
    have z0 : (0 : Int) < ((c :: r).length : Int) := by simp <;> omega
    have z0' : (0 : Int) < ((⟨(c :: r).toArray⟩ : ByteArray).size : Int) := by rw [htz]; exact z0
    have h0 : 0 < (⟨(c :: r).toArray⟩ : ByteArray).size := by omega
    have hix : (⟨(c :: r).toArray⟩ : ByteArray)[0] = c := by show (c :: r).toArray[0] = c; simp
    have hrl : r.length + 1 ≤ 4611686018427387904 := by simpa using ht
    have hex : (⟨(c :: r).toArray⟩ : ByteArray).extract 1 (c :: r).length = ⟨r.toArray⟩ := bytes_ext _ _ (by rw [Lib.extract_data]; simp [List.take_of_length_le])
    have hsz : (c :: r).length = r.length + 1 := by simp
    generalize hb : (⟨(c :: r).toArray⟩ : ByteArray) = b at *
    by_cases q : c.toNat = 32
    · have p1 : ((b[0].toNat : Int) == 32) = true := by rw [hix]; simp; omega
      have hr := hid (show St.shieldL (c :: r) = [92, 115] ++ r by simp only [St.shieldL, if_pos q])
      have z1 : (1 : Int) ≤ (b.size : Int) := by omega
      rw [← htz] at hex
      have y1 : ¬ 9223372036854775807 < 2 + r.length := by omega
      clear hix q hsz
      go_enter Tryz.func201, Tryz.ntmps201
      go_wp2
      go_ret
      refine ⟨ret_ba ?_, (by repeat (first | exact Und.refl _ | assumption | refine Und.under ?_ _ | refine Und.alloc ?_ _ | refine Und.drew ?_ | refine Und.drewN ?_ _))⟩
      rw [hr.out]
      have hbl : b.data.toList = c :: r := by rw [← hb]
      apply ByteArray.ext; simp [hbl, List.take_of_length_le]
    · have p1 : ((b[0].toNat : Int) == 32) = false := by rw [hix]; simp; omega
      have hr := hid (show St.shieldL (c :: r) = c :: r by simp only [St.shieldL, if_neg q])
      clear hix q hsz hex
      go_enter Tryz.func201, Tryz.ntmps201
      go_wp2
      go_ret
      refine ⟨ret_ba ?_, (by repeat (first | exact Und.refl _ | assumption | refine Und.under ?_ _ | refine Und.alloc ?_ _ | refine Und.drew ?_ | refine Und.drewN ?_ _))⟩
      rw [hr.out, hb]

def lgF (B g : Nat) (t : List UInt8) : List Fact := [
  fun v W => ∃ b, v = .slice (some ⟨b, 0, none⟩) 3 3 ∧ B ≤ b ∧ b < W.heap.size ∧ ∀ r, r < 3 → W.cell? ⟨b, r, none⟩ = some (.string (blankB r)),
  fun v _ => v = .pointer (some ⟨g, 0, none⟩),
  fun v _ => ∃ r : Nat, r < 3 ∧ v = .int .i64 r,
  fun v W => ∃ b r : Nat, r < 3 ∧ B ≤ b ∧ b < W.heap.size ∧ v = .pointer (some ⟨b, r, none⟩) ∧ W.cell? ⟨b, r, none⟩ = some (.string (blankB r)),
  fun v _ => ∃ r : Nat, r < 3 ∧ v = .string (blankB r),
  fun v _ => ∃ r : Nat, r < 3 ∧ v = .string ((⟨#[92, 10]⟩ : ByteArray) ++ blankB r),
  fun v _ => v = .string ⟨t.toArray⟩,
  fun v _ => v = .string ⟨(St.shieldL t).toArray⟩,
  fun v _ => ∃ r : Nat, r < 3 ∧ v = .string ((⟨#[92, 10]⟩ : ByteArray) ++ blankB r ++ ⟨(St.shieldL t).toArray⟩),
  fun v _ => ∃ r : Nat, r < 3 ∧ v = .string ((⟨#[92, 10]⟩ : ByteArray) ++ blankB r ++ ⟨(St.shieldL t).toArray⟩)]
theorem shield_len (t : List UInt8) : (St.shieldL t).length ≤ t.length + 1 := by
  cases t with
  | nil => simp [St.shieldL]
  | cons c r => simp only [St.shieldL]; split <;> simp
theorem blank_len (r : Nat) : (blankB r).size ≤ 2 := by unfold blankB St.blankL; split; decide; split <;> decide

theorem step_callE {P : Program} {ops : Array Oper} {o : Oper} {a : Act} {w : World} {K : Act → World → Prop} {Q : Exit → Act → World → Prop} {E : Prop}
    (hg : o.guard = none) (f : FuncId) (args : Array Value) (Po : Ending → World → Prop) (hc : Calls P f args w Po)
    (hrun : (execOp a.eval o).run P w = .ok (.enter f args) w) (hK : ∀ e w', Po e w' → ∃ v, e = .returned v ∧ K (a.put o.dst v) w') :
    if Region.wanted o (yielded ops a.tmps) = true then Oper.wp P o a w K Q else E := by
  have hw : Region.wanted o (yielded ops a.tmps) = true := by simp [Region.wanted, hg]
  rw [if_pos hw]
  unfold Oper.wp
  rw [hrun]
  refine hc.mono ?_
  intro e w' hp
  obtain ⟨v, rfl, hk⟩ := hK e w' hp
  exact hk
set_option maxRecDepth 20000 in
set_option maxHeartbeats 6400000 in
theorem longer_res (B g P : Nat) (k : Int) (x : List UInt8) (i : Int) (t : List UInt8) (w : World) (hG : GenP w B g P) (hP : P ≤ 1000000) (ht : t.length ≤ 1000000) (hx : ¬ (k = 1 ∧ x = [32])) :
    Calls Tryz.prog 175 #[.pointer (some ⟨g, 0, none⟩), .int .i64 2, .agg #[.int .i64 k, .string ⟨x.toArray⟩, .int .i64 i], .string ⟨t.toArray⟩] w fun e w' => ∃ r : Nat, r < 3 ∧ e = .returned (.string ⟨([92, 10] ++ St.blankL r ++ St.shieldL t).toArray⟩) ∧ GenP w' B g (P + 1) ∧ w.grownBy w' (some g) := by
  have HG := hid hG
  obtain ⟨hgB, hB⟩ := hG.lt
  have hbx := bl_eq ⟨x.toArray⟩ [32]
  have hxl : ((⟨x.toArray⟩ : ByteArray).data.toList) = x := by simp
  rw [hxl] at hbx
  clear hxl
  by_cases h1 : x = [32]
  · have h2 : ¬ k = 1 := fun e => hx ⟨e, h1⟩
    subst h1
    have q2 : (k == 1) = false := by simpa using h2
    clear hx hG hbx h2
    go_enter Tryz.func175, Tryz.ntmps175
    go_wp2_with fail
    refine wp_region_facts (fun a b => a.grownBy b (some g)) (fun L W => GenP W B g (if L 2 then P + 1 else P)) (lgF B g t) (fun a => gb_refl a _) (fun a b c h k => gb_trans h k (fun _ e => .inl e)) (by kernel_rfl) (by rfl) (by kernel_rfl) (by kernel_rfl) ?fr ?hfr ?hI ?hob ?hend
    case hfr =>
      intro ρ
      simp only [putAll, Act.put, List.setIfInBounds_toArray, List.set_cons_succ, List.set_cons_zero, Nat.zero_add, Nat.reduceAdd]
      exact rfl
    case hI => exact HG.out.und ((Und.refl _).alloc _).drew
    case hob =>
      unfold lgF
      refine ObsF.cons (fun ρ L W hR hI hL hD hO hF K hK => ?_) ?_
      · have hgW : g < W.heap.size := Nat.lt_of_lt_of_le hI.lt.1 hI.lt.2
        have hBW := hI.lt.2
        clear hF hD hO
        simp only [Act.put, List.setIfInBounds_toArray, List.set_cons_succ, List.set_cons_zero] at hK ⊢
        go_simp
        refine hK _ _ (((Und.refl W).alloc _).gb _) (by simpa [updB] using hI.und ((Und.refl W).alloc _)) (fun W2 h2 => ⟨W.heap.size, rfl, hBW, by have := h2.size; simp at this; omega, fun r hr => ?_⟩)
        rw [gb_cell h2 (p := ⟨W.heap.size, r, none⟩) (by simp) (by simp; omega), World.cell?_alloc_at _ _ _ _ rfl]
        rcases (show r = 0 ∨ r = 1 ∨ r = 2 by omega) with h | h | h <;> subst h <;> rfl
      refine ObsF.cons (fun ρ L W hR hI hL hD hO hF K hK => ?_) ?_
      · have hgW : g < W.heap.size := Nat.lt_of_lt_of_le hI.lt.1 hI.lt.2
        have hBW := hI.lt.2
        clear hF hD hO
        simp only [Act.put, List.setIfInBounds_toArray, List.set_cons_succ, List.set_cons_zero] at hK ⊢
        go_simp
        refine hK _ _ (gb_refl _ _) (by simpa [updB] using hI) (fun W2 h2 => ?_)
        rfl
      refine ObsF.cons (fun ρ L W hR hI hL hD hO hF K hK => ?_) ?_
      · have hgW : g < W.heap.size := Nat.lt_of_lt_of_le hI.lt.1 hI.lt.2
        have hBW := hI.lt.2
        have f1 := allF_get hF (j := 1) (by decide)
        clear hF hD hO
        simp only [Act.put, List.setIfInBounds_toArray, List.set_cons_succ, List.set_cons_zero] at hK ⊢
        have e1 : ρ 1 = .pointer (some ⟨g, 0, none⟩) := f1
        rw [e1] at hK ⊢
        have hI1 : GenP W B g P := by simpa [hL] using hI
        refine step_callE (o := ⟨some 53, _, _, _, _, _⟩) rfl 64 #[.pointer (some ⟨g, 0, none⟩), .int .i64 3] _ (next_gen B g P 3 W hI1 (by omega) (by omega) (by omega)) ?_ ?_
        · go_simp
        rintro e W2 ⟨r, rfl, hr, hG2, hk⟩
        exact ⟨_, rfl, hK _ _ hk (by simpa [updB] using hG2) (fun W3 h3 => ⟨r, by omega, rfl⟩)⟩
      refine ObsF.cons (fun ρ L W hR hI hL hD hO hF K hK => ?_) ?_
      · have hgW : g < W.heap.size := Nat.lt_of_lt_of_le hI.lt.1 hI.lt.2
        have hBW := hI.lt.2
        have f0 := allF_get hF (j := 0) (by decide)
        have f2 := allF_get hF (j := 2) (by decide)
        clear hF hD hO
        simp only [Act.put, List.setIfInBounds_toArray, List.set_cons_succ, List.set_cons_zero] at hK ⊢
        obtain ⟨b, e0, hb1, hb2, hc⟩ := f0
        obtain ⟨r, hr, e2⟩ := f2
        rw [e0, e2] at hK ⊢
        have z1 : (r : Int) < 3 := by omega
        go_simp
        refine hK _ _ (gb_refl _ _) (by simpa [updB] using hI) (fun W2 h2 => ?_)
        have hc2 := (gb_cell h2 (p := ⟨b, r, none⟩) hb2 (by simp; omega)).trans (hc r hr)
        exact ⟨b, r, hr, hb1, Nat.lt_of_lt_of_le hb2 h2.size, rfl, hc2⟩
      refine ObsF.cons (fun ρ L W hR hI hL hD hO hF K hK => ?_) ?_
      · have hgW : g < W.heap.size := Nat.lt_of_lt_of_le hI.lt.1 hI.lt.2
        have hBW := hI.lt.2
        have f3 := allF_get hF (j := 3) (by decide)
        clear hF hD hO
        simp only [Act.put, List.setIfInBounds_toArray, List.set_cons_succ, List.set_cons_zero] at hK ⊢
        obtain ⟨b, r, hr, hb1, hb2, e3, hc⟩ := f3
        rw [e3] at hK ⊢
        go_simp
        refine hK _ _ (gb_refl _ _) (by simpa [updB] using hI) (fun W2 h2 => ?_)
        exact ⟨r, hr, rfl⟩
      refine ObsF.cons (fun ρ L W hR hI hL hD hO hF K hK => ?_) ?_
      · have hgW : g < W.heap.size := Nat.lt_of_lt_of_le hI.lt.1 hI.lt.2
        have hBW := hI.lt.2
        have f4 := allF_get hF (j := 4) (by decide)
        clear hF hD hO
        simp only [Act.put, List.setIfInBounds_toArray, List.set_cons_succ, List.set_cons_zero] at hK ⊢
        obtain ⟨r, hr, e4⟩ := f4
        rw [e4] at hK ⊢
        have hbl := blank_len r
        have y1 : ¬ 9223372036854775807 < 2 + (blankB r).size := by omega
        go_simp
        refine hK _ _ (gb_refl _ _) (by simpa [updB] using hI) (fun W2 h2 => ?_)
        exact ⟨r, hr, rfl⟩
      refine ObsF.cons (fun ρ L W hR hI hL hD hO hF K hK => ?_) ?_
      · have hgW : g < W.heap.size := Nat.lt_of_lt_of_le hI.lt.1 hI.lt.2
        have hBW := hI.lt.2
        clear hF hD hO
        simp only [Act.put, List.setIfInBounds_toArray, List.set_cons_succ, List.set_cons_zero] at hK ⊢
        go_simp
        refine hK _ _ (gb_refl _ _) (by simpa [updB] using hI) (fun W2 h2 => ?_)
        rfl
      refine ObsF.cons (fun ρ L W hR hI hL hD hO hF K hK => ?_) ?_
      · have hgW : g < W.heap.size := Nat.lt_of_lt_of_le hI.lt.1 hI.lt.2
        have hBW := hI.lt.2
        have f6 := allF_get hF (j := 6) (by decide)
        clear hF hD hO
        simp only [Act.put, List.setIfInBounds_toArray, List.set_cons_succ, List.set_cons_zero] at hK ⊢
        have e6 : ρ 6 = .string ⟨t.toArray⟩ := f6
        rw [e6] at hK ⊢
        refine step_callE (o := ⟨some 58, _, _, _, _, _⟩) rfl 201 #[.string ⟨t.toArray⟩] _ (shield_any t W (by omega)) ?_ ?_
        · go_simp
        rintro e W2 ⟨rfl, hu⟩
        exact ⟨_, rfl, hK _ _ (hu.gb _) (by simpa [updB] using hI.und hu) (fun W3 h3 => rfl)⟩
      refine ObsF.cons (fun ρ L W hR hI hL hD hO hF K hK => ?_) ?_
      · have hgW : g < W.heap.size := Nat.lt_of_lt_of_le hI.lt.1 hI.lt.2
        have hBW := hI.lt.2
        have f5 := allF_get hF (j := 5) (by decide)
        have f7 := allF_get hF (j := 7) (by decide)
        clear hF hD hO
        simp only [Act.put, List.setIfInBounds_toArray, List.set_cons_succ, List.set_cons_zero] at hK ⊢
        obtain ⟨r, hr, e5⟩ := f5
        have e7 : ρ 7 = .string ⟨(St.shieldL t).toArray⟩ := f7
        rw [e5, e7] at hK ⊢
        have hbl := blank_len r
        have hsl := shield_len t
        have y1 : ¬ 9223372036854775807 < 2 + (blankB r).size + (St.shieldL t).length := by omega
        go_simp
        refine hK _ _ (gb_refl _ _) (by simpa [updB] using hI) (fun W2 h2 => ⟨r, hr, rfl⟩)
      refine ObsF.cons (fun ρ L W hR hI hL hD hO hF K hK => ?_) ?_
      · have hgW : g < W.heap.size := Nat.lt_of_lt_of_le hI.lt.1 hI.lt.2
        have hBW := hI.lt.2
        have f8 := allF_get hF (j := 8) (by decide)
        clear hF hD hO
        simp only [Act.put, List.setIfInBounds_toArray, List.set_cons_succ, List.set_cons_zero] at hK ⊢
        obtain ⟨r, hr, e8⟩ := f8
        rw [e8] at hK ⊢
        go_simp
        refine hK _ _ (gb_refl _ _) (by simpa [updB] using hI) (fun W2 h2 => ?_)
        exact ⟨r, hr, rfl⟩
      exact ObsF.nil
    case hend =>
      intro ρ L W hR hI hL hF
      obtain ⟨_, _, _, _, _, _, _, _, _, ⟨r, hr, e9⟩, _⟩ := hF
      have hL2 := hL 2 (by decide)
      simp only [hL2, if_true] at hI
      have hgb : w.grownBy W (some g) := gb_trans ((((Und.refl w).alloc _).drew).gb _) hR (fun _ e => .inl e)
      have HE := hid (And.intro hI hgb)
      rw [e9]
      clear hI hgb hR hL e9
      go_wp2
      go_ret
      refine ⟨r, hr, ret_ba ?_, HE.out.1, HE.out.2⟩
      apply ByteArray.ext; simp [blankB]
  · have q1 : (x == [32]) = false := by simpa using h1
    rw [decide_eq_false h1] at hbx
    clear hx hG
    go_enter Tryz.func175, Tryz.ntmps175
    go_wp2_with fail
    refine wp_region_facts (fun a b => a.grownBy b (some g)) (fun L W => GenP W B g (if L 2 then P + 1 else P)) (lgF B g t) (fun a => gb_refl a _) (fun a b c h k => gb_trans h k (fun _ e => .inl e)) (by kernel_rfl) (by rfl) (by kernel_rfl) (by kernel_rfl) ?frB ?hfr ?hI ?hob ?hend
    case hfr =>
      intro ρ
      simp only [putAll, Act.put, List.setIfInBounds_toArray, List.set_cons_succ, List.set_cons_zero, Nat.zero_add, Nat.reduceAdd]
      exact rfl
    case hI => exact HG.out.und ((Und.refl _).alloc _).drew
    case hob =>
      unfold lgF
      refine ObsF.cons (fun ρ L W hR hI hL hD hO hF K hK => ?_) ?_
      · have hgW : g < W.heap.size := Nat.lt_of_lt_of_le hI.lt.1 hI.lt.2
        have hBW := hI.lt.2
        clear hF hD hO
        simp only [Act.put, List.setIfInBounds_toArray, List.set_cons_succ, List.set_cons_zero] at hK ⊢
        go_simp
        refine hK _ _ (((Und.refl W).alloc _).gb _) (by simpa [updB] using hI.und ((Und.refl W).alloc _)) (fun W2 h2 => ⟨W.heap.size, rfl, hBW, by have := h2.size; simp at this; omega, fun r hr => ?_⟩)
        rw [gb_cell h2 (p := ⟨W.heap.size, r, none⟩) (by simp) (by simp; omega), World.cell?_alloc_at _ _ _ _ rfl]
        rcases (show r = 0 ∨ r = 1 ∨ r = 2 by omega) with h | h | h <;> subst h <;> rfl
      refine ObsF.cons (fun ρ L W hR hI hL hD hO hF K hK => ?_) ?_
      · have hgW : g < W.heap.size := Nat.lt_of_lt_of_le hI.lt.1 hI.lt.2
        have hBW := hI.lt.2
        clear hF hD hO
        simp only [Act.put, List.setIfInBounds_toArray, List.set_cons_succ, List.set_cons_zero] at hK ⊢
        go_simp
        refine hK _ _ (gb_refl _ _) (by simpa [updB] using hI) (fun W2 h2 => ?_)
        rfl
      refine ObsF.cons (fun ρ L W hR hI hL hD hO hF K hK => ?_) ?_
      · have hgW : g < W.heap.size := Nat.lt_of_lt_of_le hI.lt.1 hI.lt.2
        have hBW := hI.lt.2
        have f1 := allF_get hF (j := 1) (by decide)
        clear hF hD hO
        simp only [Act.put, List.setIfInBounds_toArray, List.set_cons_succ, List.set_cons_zero] at hK ⊢
        have e1 : ρ 1 = .pointer (some ⟨g, 0, none⟩) := f1
        rw [e1] at hK ⊢
        have hI1 : GenP W B g P := by simpa [hL] using hI
        refine step_callE (o := ⟨some 53, _, _, _, _, _⟩) rfl 64 #[.pointer (some ⟨g, 0, none⟩), .int .i64 3] _ (next_gen B g P 3 W hI1 (by omega) (by omega) (by omega)) ?_ ?_
        · go_simp
        rintro e W2 ⟨r, rfl, hr, hG2, hk⟩
        exact ⟨_, rfl, hK _ _ hk (by simpa [updB] using hG2) (fun W3 h3 => ⟨r, by omega, rfl⟩)⟩
      refine ObsF.cons (fun ρ L W hR hI hL hD hO hF K hK => ?_) ?_
      · have hgW : g < W.heap.size := Nat.lt_of_lt_of_le hI.lt.1 hI.lt.2
        have hBW := hI.lt.2
        have f0 := allF_get hF (j := 0) (by decide)
        have f2 := allF_get hF (j := 2) (by decide)
        clear hF hD hO
        simp only [Act.put, List.setIfInBounds_toArray, List.set_cons_succ, List.set_cons_zero] at hK ⊢
        obtain ⟨b, e0, hb1, hb2, hc⟩ := f0
        obtain ⟨r, hr, e2⟩ := f2
        rw [e0, e2] at hK ⊢
        have z1 : (r : Int) < 3 := by omega
        go_simp
        refine hK _ _ (gb_refl _ _) (by simpa [updB] using hI) (fun W2 h2 => ?_)
        have hc2 := (gb_cell h2 (p := ⟨b, r, none⟩) hb2 (by simp; omega)).trans (hc r hr)
        exact ⟨b, r, hr, hb1, Nat.lt_of_lt_of_le hb2 h2.size, rfl, hc2⟩
      refine ObsF.cons (fun ρ L W hR hI hL hD hO hF K hK => ?_) ?_
      · have hgW : g < W.heap.size := Nat.lt_of_lt_of_le hI.lt.1 hI.lt.2
        have hBW := hI.lt.2
        have f3 := allF_get hF (j := 3) (by decide)
        clear hF hD hO
        simp only [Act.put, List.setIfInBounds_toArray, List.set_cons_succ, List.set_cons_zero] at hK ⊢
        obtain ⟨b, r, hr, hb1, hb2, e3, hc⟩ := f3
        rw [e3] at hK ⊢
        go_simp
        refine hK _ _ (gb_refl _ _) (by simpa [updB] using hI) (fun W2 h2 => ?_)
        exact ⟨r, hr, rfl⟩
      refine ObsF.cons (fun ρ L W hR hI hL hD hO hF K hK => ?_) ?_
      · have hgW : g < W.heap.size := Nat.lt_of_lt_of_le hI.lt.1 hI.lt.2
        have hBW := hI.lt.2
        have f4 := allF_get hF (j := 4) (by decide)
        clear hF hD hO
        simp only [Act.put, List.setIfInBounds_toArray, List.set_cons_succ, List.set_cons_zero] at hK ⊢
        obtain ⟨r, hr, e4⟩ := f4
        rw [e4] at hK ⊢
        have hbl := blank_len r
        have y1 : ¬ 9223372036854775807 < 2 + (blankB r).size := by omega
        go_simp
        refine hK _ _ (gb_refl _ _) (by simpa [updB] using hI) (fun W2 h2 => ?_)
        exact ⟨r, hr, rfl⟩
      refine ObsF.cons (fun ρ L W hR hI hL hD hO hF K hK => ?_) ?_
      · have hgW : g < W.heap.size := Nat.lt_of_lt_of_le hI.lt.1 hI.lt.2
        have hBW := hI.lt.2
        clear hF hD hO
        simp only [Act.put, List.setIfInBounds_toArray, List.set_cons_succ, List.set_cons_zero] at hK ⊢
        go_simp
        refine hK _ _ (gb_refl _ _) (by simpa [updB] using hI) (fun W2 h2 => ?_)
        rfl
      refine ObsF.cons (fun ρ L W hR hI hL hD hO hF K hK => ?_) ?_
      · have hgW : g < W.heap.size := Nat.lt_of_lt_of_le hI.lt.1 hI.lt.2
        have hBW := hI.lt.2
        have f6 := allF_get hF (j := 6) (by decide)
        clear hF hD hO
        simp only [Act.put, List.setIfInBounds_toArray, List.set_cons_succ, List.set_cons_zero] at hK ⊢
        have e6 : ρ 6 = .string ⟨t.toArray⟩ := f6
        rw [e6] at hK ⊢
        refine step_callE (o := ⟨some 58, _, _, _, _, _⟩) rfl 201 #[.string ⟨t.toArray⟩] _ (shield_any t W (by omega)) ?_ ?_
        · go_simp
        rintro e W2 ⟨rfl, hu⟩
        exact ⟨_, rfl, hK _ _ (hu.gb _) (by simpa [updB] using hI.und hu) (fun W3 h3 => rfl)⟩
      refine ObsF.cons (fun ρ L W hR hI hL hD hO hF K hK => ?_) ?_
      · have hgW : g < W.heap.size := Nat.lt_of_lt_of_le hI.lt.1 hI.lt.2
        have hBW := hI.lt.2
        have f5 := allF_get hF (j := 5) (by decide)
        have f7 := allF_get hF (j := 7) (by decide)
        clear hF hD hO
        simp only [Act.put, List.setIfInBounds_toArray, List.set_cons_succ, List.set_cons_zero] at hK ⊢
        obtain ⟨r, hr, e5⟩ := f5
        have e7 : ρ 7 = .string ⟨(St.shieldL t).toArray⟩ := f7
        rw [e5, e7] at hK ⊢
        have hbl := blank_len r
        have hsl := shield_len t
        have y1 : ¬ 9223372036854775807 < 2 + (blankB r).size + (St.shieldL t).length := by omega
        go_simp
        refine hK _ _ (gb_refl _ _) (by simpa [updB] using hI) (fun W2 h2 => ⟨r, hr, rfl⟩)
      refine ObsF.cons (fun ρ L W hR hI hL hD hO hF K hK => ?_) ?_
      · have hgW : g < W.heap.size := Nat.lt_of_lt_of_le hI.lt.1 hI.lt.2
        have hBW := hI.lt.2
        have f8 := allF_get hF (j := 8) (by decide)
        clear hF hD hO
        simp only [Act.put, List.setIfInBounds_toArray, List.set_cons_succ, List.set_cons_zero] at hK ⊢
        obtain ⟨r, hr, e8⟩ := f8
        rw [e8] at hK ⊢
        go_simp
        refine hK _ _ (gb_refl _ _) (by simpa [updB] using hI) (fun W2 h2 => ?_)
        exact ⟨r, hr, rfl⟩
      exact ObsF.nil
    case hend =>
      intro ρ L W hR hI hL hF
      obtain ⟨_, _, _, _, _, _, _, _, _, ⟨r, hr, e9⟩, _⟩ := hF
      have hL2 := hL 2 (by decide)
      simp only [hL2, if_true] at hI
      have hgb : w.grownBy W (some g) := gb_trans ((((Und.refl w).alloc _).drew).gb _) hR (fun _ e => .inl e)
      have HE := hid (And.intro hI hgb)
      rw [e9]
      clear hI hgb hR hL e9
      go_wp2
      go_ret
      refine ⟨r, hr, ret_ba ?_, HE.out.1, HE.out.2⟩
      apply ByteArray.ext; simp [blankB]
end Go.Proofs.YthoemdibbldndaaGreatDoor
