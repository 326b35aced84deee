/- The law RoleParses: walk. Condition: the lists lie in memory, and the library's own variables too. -/
import Derived.Test.YthgmlkeojhfijaaDoorRoleFmt
import Derived.Test.YthgmlkeojhfijaaDoorRoleMany
namespace Go.Proofs.YthgmlkeojhfijaaDoor
open Go.RowKit

theorem step_callW {P : Program} {ops : Array Oper} {o : Oper} {a : Act} {w : World} {K : Act → World → Prop} {Q : Exit → Act → World → Prop} {E : Prop}
    (f : FuncId) (args : Array Value) (v : Value) (hc : Calls P f args w fun e w' => e = .returned v ∧ Und w w') (hw : Region.wanted o (yielded ops a.tmps) = true)
    (hrun : (execOp a.eval o).run P w = .ok (.enter f args) w) (hK : ∀ w', Und w w' → K (a.put o.dst v) w') :
    if Region.wanted o (yielded ops a.tmps) = true then Oper.wp P o a w K Q else E := by
  rw [if_pos hw]
  unfold Oper.wp
  rw [hrun]
  refine hc.mono ?_
  rintro e w' ⟨rfl, hu⟩
  exact hK w' hu
theorem rg_norm {P : Program} {md : Region.Mode} {ops : Array Oper} {Q : Exit → Act → World → Prop} {fuel : Nat} {l l' : Array Bool} {a : Act} {w : World} (h : l = l') (hw : wpAny P md ops Q fuel l' a w) : wpAny P md ops Q fuel l a w := h ▸ hw
def FmtEnd (w : World) (e : Ending) (w' : World) : Prop := ∃ (t : ByteArray) (er : Int), e = .returned (.tuple #[.string t, .int .i64 er]) ∧ t.size ≤ 6400 ∧ Und w w'
theorem rformat_some (A : Option Addr) (n c : Nat) (us : List UserD) (w : World) (hn : us.length = n) (hnc : n ≤ c) (hc63 : c ≤ 9223372036854775807) (h : UsersAt w A us) : Calls Tryd.prog 18 #[.slice A n c] w (FmtEnd w) := by
  by_cases hv : validE us = 0
  · exact (rformat_ok A n c us w hn hnc hc63 h hv).mono fun e w' ⟨he, hu, hl⟩ => ⟨_, _, he, by show (fmtL us).toArray.size ≤ 6400; simpa using hl, hu⟩
  · exact (rformat_bad A n c us w hn hnc hc63 h hv).mono fun e w' ⟨he, hu⟩ => ⟨_, _, he, by show 0 ≤ 6400; omega, hu⟩

set_option maxRecDepth 20000 in
set_option maxHeartbeats 6400000 in
theorem parseslaw_any (A2 : Option Addr) (n2 c2 : Nat) (s : ByteArray) (at_ by_ : Int) (zs : List Int) (w : World) (hL : LibAt w) (hs : s.size ≤ 9223372036854775807) (hz : zs.length = n2) (hn2 : n2 ≤ 9223372036854775807) (hI : IntsAt w A2 zs) (b0 : 0 ≤ by_) (b1 : by_ ≤ 255) :
    Calls Tryd.prog 5 #[.string s, .slice A2 n2 c2, .int .i64 at_, .int .u8 by_] w fun e w' => e = .returned (.bool true) ∧ Und w w' := by
  have HL := hid hL
  have HI := hid hI
  obtain ⟨m, hm⟩ := hL.len
  have HM := hid hm
  have hb := World.block_lt_of_cell? _ _ hm
  simp only at hb
  have hl := fun W h => long_any A2 n2 c2 w.heap.size W hn2 h
  clear hL hI hm
  by_cases h160 : 160 < n2
  · simp only [decide_eq_true h160] at hl
    have HLo := hid hl
    clear hl h160
    go_enter Tryd.func5, Tryd.ntmps5
    go_wp2_with (first | (go_at_call 13; refine (HLo.out _ ?_).mono ?_; (· go_simp; done); rintro e w' ⟨rfl, rfl⟩) | (go_at_call 12; refine (known_any m _ ((Und.cell (by repeat (first | exact Und.refl _ | assumption | refine Und.under ?_ _ | refine Und.alloc ?_ _ | refine Und.drew ?_ | refine Und.drewN ?_ _)) hb).trans HM.out)).mono ?_; rintro e w' ⟨rfl, X9, rfl⟩))
    go_ret
    exact ⟨rfl, (by repeat (first | exact Und.refl _ | assumption | refine Und.under ?_ _ | refine Und.alloc ?_ _ | refine Und.drew ?_ | refine Und.drewN ?_ _))⟩
  simp only [decide_eq_false h160] at hl
  have HLo := hid hl
  clear hl h160
  by_cases hbig : 3000 < s.size
  · have h3 : 3000 < (s.size : Int) := by omega
    go_enter Tryd.func5, Tryd.ntmps5
    go_wp2_with (first | (go_at_call 13; refine (HLo.out _ ?_).mono ?_; (· go_simp; done); rintro e w' ⟨rfl, rfl⟩) | (go_at_call 12; refine (known_any m _ ((Und.cell (by repeat (first | exact Und.refl _ | assumption | refine Und.under ?_ _ | refine Und.alloc ?_ _ | refine Und.drew ?_ | refine Und.drewN ?_ _)) hb).trans HM.out)).mono ?_; rintro e w' ⟨rfl, X9, rfl⟩))
    go_ret
    exact ⟨rfl, (by repeat (first | exact Und.refl _ | assumption | refine Und.under ?_ _ | refine Und.alloc ?_ _ | refine Und.drew ?_ | refine Und.drewN ?_ _))⟩
  have h3 : ¬ 3000 < (s.size : Int) := by omega
  go_enter Tryd.func5, Tryd.ntmps5
  go_wp2_with (go_at_call 13; refine (HLo.out _ ?_).mono ?_; (· go_simp; done); rintro e w' ⟨rfl, rfl⟩)
  refine (users_any A2 n2 c2 zs _ hz (HI.out.und (by repeat (first | exact Und.refl _ | assumption | refine Und.under ?_ _ | refine Und.alloc ?_ _ | refine Und.drew ?_ | refine Und.drewN ?_ _)))).mono ?_
  rintro e w2 ⟨i0, us2, A3, cap, rfl, h1, h2, h3', h4, hMade, hU2, hund, hA3⟩
  have HU2 := hid hU2
  have HX := hid (((by repeat (first | exact Und.refl _ | assumption | refine Und.under ?_ _ | refine Und.alloc ?_ _ | refine Und.drew ?_ | refine Und.drewN ?_ _)) : Und w _).trans hund)
  have h5 : i0 ≤ cap := by omega
  clear hMade hU2 hund hA3
  go_wp2_with fail
  refine (rformat_some A3 i0 cap us2 _ h1 h5 h4 HU2.out).mono ?_
  rintro e w3 ⟨t, er, rfl, hts, hu3⟩
  have hw3 := HX.out.trans hu3
  have HL3 := hid (HL.out.und hw3)
  have HM3 := hid ((Und.cell hw3 hb).trans HM.out)
  have HW3 := hid hw3
  have hb3 : 0 < w3.heap.size := Nat.lt_of_lt_of_le hb hw3.size
  have hpl := fun W => place_any at_ ((t.size : Int) + 1) W (by omega) (by omega)
  have hp0 := Int.emod_nonneg at_ (show (t.size : Int) + 1 ≠ 0 by omega)
  have hp1 := Int.emod_lt_of_pos at_ (show 0 < (t.size : Int) + 1 by omega)
  generalize at_ % ((t.size : Int) + 1) = q at hpl hp0 hp1
  obtain ⟨k, rfl⟩ : ∃ k : Nat, q = k := ⟨q.toNat, by omega⟩
  have hkt : k ≤ t.size := by omega
  have HPL := hid hpl
  clear hu3 hw3 hpl hp0 hp1
  go_wp2_with fail
  refine (HPL.out _).mono ?_
  rintro e w' ⟨rfl, rfl⟩
  go_wp2_with fail
  have hc1 : (⟨#[97, 32, 114, 101, 97, 100, 101, 114]⟩ : ByteArray).size = 8 := rfl
  have z1 : ((⟨#[97, 32, 114, 101, 97, 100, 101, 114]⟩ : ByteArray) ++ s).size ≤ 9223372036854775807 := by rw [size_app, hc1]; omega
  have z2 : (t.extract 0 k).size ≤ 6400 := by simp; omega
  have z3 : (t.extract k t.size).size ≤ 6400 := by simp; omega
  have z4 : ((t.extract 0 k ++ (⟨#[UInt8.ofNat by_.toNat]⟩ : ByteArray)) ++ t.extract k t.size).size ≤ 9223372036854775807 := by
    rw [size_app, size_app]; have : (⟨#[UInt8.ofNat by_.toNat]⟩ : ByteArray).size = 1 := rfl; omega
  have z5 : (t ++ t).size ≤ 9223372036854775807 := by rw [size_app]; omega
  have y1 : ¬ 9223372036854775807 < 8 + s.size := by omega
  have yk0 : (0 : Int) ≤ (k : Int) := by omega
  have yk1 : (k : Int) ≤ (t.size : Int) := by omega
  have yk2 : ¬ (t.size : Int) < (k : Int) := by omega
  have yk3 : ¬ t.size < k := by omega
  have y5 : ¬ 9223372036854775807 < t.size + t.size := by omega
  have y6 : ¬ 9223372036854775807 < k + 1 := by omega
  have y7 : ¬ 9223372036854775807 < k + 1 + (t.size - k) := by omega
  have hp0 := hid (fun W (hL : LibAt W) => parses_any s W (by omega) hL)
  have hp1 := hid (fun W (hL : LibAt W) => parses_any ((⟨#[97, 32, 114, 101, 97, 100, 101, 114]⟩ : ByteArray) ++ s) W z1 hL)
  have hp2 := hid (fun W (hL : LibAt W) => parses_any (t.extract 0 k) W (by omega) hL)
  have hp3 := hid (fun W (hL : LibAt W) => parses_any ((t.extract 0 k ++ (⟨#[UInt8.ofNat by_.toNat]⟩ : ByteArray)) ++ t.extract k t.size) W z4 hL)
  have hp4 := hid (fun W (hL : LibAt W) => parses_any (t ++ t) W z5 hL)
  have hkn := hid (fun W (hu : Und w3 W) => known_any m W ((Und.cell hu hb3).trans HM3.out))
  clear z1 z2 z3 z4 z5 hc1
  refine wp_region_any (by kernel_rfl) ?_
  try (change wpAny _ _ _ _ _ _ _ (World.drew _))
  refine rg_norm (l' := #[false, false, false, false, false, false, false, false, false, false, false, false, false, false, false, false, false, false, false, false, false, false, false, false, false, false, false, false, false, false, false, false, false, false, false, false, false]) (by kernel_rfl) ?_
  refine wpAny_take (i := 0) (oi := ⟨some 32, _, _, _, _, _⟩) (v := ?_) rfl (by kernel_rfl) (by kernel_rfl) (by kernel_rfl) (fun _ _ _ h => h) (Or.inl ⟨by rfl, ?_⟩) ?_
  rotate_left 1
  · (intro W9; go_simp; try with_reducible rfl)
  conv => arg 7; simp only [Act.put, List.setIfInBounds_toArray, List.set_cons_succ, List.set_cons_zero]
  refine rg_norm (l' := #[true, false, false, false, false, false, false, false, false, false, false, false, false, false, false, false, false, false, false, false, false, false, false, false, false, false, false, false, false, false, false, false, false, false, false, false, false]) (by kernel_rfl) ?_
  refine wpAny_ready (rs := [1]) (by kernel_rfl) (by simp) ?_
  refine AllReady.cons (o := ⟨some 33, _, _, _, _, _⟩) rfl (fun K hK => ?_) AllReady.nil
  with_reducible refine step_callW (o := ⟨some 33, _, _, _, _, _⟩) _ _ (.bool true) (hp0.out _ (HL3.out.und (by repeat (first | exact Und.refl _ | assumption | refine Und.under ?_ _ | refine Und.alloc ?_ _ | refine Und.drew ?_ | refine Und.drewN ?_ _)))) ?_ ?_ ?_
  · rfl
  · go_simp
  intro w4 hu4
  have hx4 := ((by repeat (first | exact Und.refl _ | assumption | refine Und.under ?_ _ | refine Und.alloc ?_ _ | refine Und.drew ?_ | refine Und.drewN ?_ _)) : Und w3 _).trans hu4
  clear hu4
  try go_simp
  refine hK _ _ ?_
  clear hK K
  conv => arg 7; simp only [Act.put, List.setIfInBounds_toArray, List.set_cons_succ, List.set_cons_zero]
  refine rg_norm (l' := #[true, true, false, false, false, false, false, false, false, false, false, false, false, false, false, false, false, false, false, false, false, false, false, false, false, false, false, false, false, false, false, false, false, false, false, false, false]) (by kernel_rfl) ?_
  refine wpAny_take (i := 2) (oi := ⟨some 34, _, _, _, _, _⟩) (v := ?_) rfl (by kernel_rfl) (by kernel_rfl) (by kernel_rfl) (fun _ _ _ h => h) (Or.inl ⟨by rfl, ?_⟩) ?_
  rotate_left 1
  · (intro W9; go_simp; try with_reducible rfl)
  conv => arg 7; simp only [Act.put, List.setIfInBounds_toArray, List.set_cons_succ, List.set_cons_zero]
  refine rg_norm (l' := #[true, true, true, false, false, false, false, false, false, false, false, false, false, false, false, false, false, false, false, false, false, false, false, false, false, false, false, false, false, false, false, false, false, false, false, false, false]) (by kernel_rfl) ?_
  refine wpAny_take (i := 3) (oi := ⟨some 35, _, _, _, _, _⟩) (v := ?_) rfl (by kernel_rfl) (by kernel_rfl) (by kernel_rfl) (fun _ _ _ h => h) (Or.inl ⟨by rfl, ?_⟩) ?_
  rotate_left 1
  · (intro W9; go_simp; try with_reducible rfl)
  conv => arg 7; simp only [Act.put, List.setIfInBounds_toArray, List.set_cons_succ, List.set_cons_zero]
  refine rg_norm (l' := #[true, true, true, true, false, false, false, false, false, false, false, false, false, false, false, false, false, false, false, false, false, false, false, false, false, false, false, false, false, false, false, false, false, false, false, false, false]) (by kernel_rfl) ?_
  refine wpAny_take (i := 4) (oi := ⟨some 36, _, _, _, _, _⟩) (v := ?_) rfl (by kernel_rfl) (by kernel_rfl) (by kernel_rfl) (fun _ _ _ h => h) (Or.inl ⟨by rfl, ?_⟩) ?_
  rotate_left 1
  · (intro W9; go_simp; try with_reducible rfl)
  conv => arg 7; simp only [Act.put, List.setIfInBounds_toArray, List.set_cons_succ, List.set_cons_zero]
  refine rg_norm (l' := #[true, true, true, true, true, false, false, false, false, false, false, false, false, false, false, false, false, false, false, false, false, false, false, false, false, false, false, false, false, false, false, false, false, false, false, false, false]) (by kernel_rfl) ?_
  refine wpAny_ready (rs := [5]) (by kernel_rfl) (by simp) ?_
  refine AllReady.cons (o := ⟨some 37, _, _, _, _, _⟩) rfl (fun K hK => ?_) AllReady.nil
  with_reducible refine step_callW (o := ⟨some 37, _, _, _, _, _⟩) _ _ (.bool true) (hp1.out _ (HL3.out.und (by repeat (first | exact Und.refl _ | assumption | refine Und.under ?_ _ | refine Und.alloc ?_ _ | refine Und.drew ?_ | refine Und.drewN ?_ _)))) ?_ ?_ ?_
  · rfl
  · go_simp
  intro w5 hu5
  have hx5 := ((by repeat (first | exact Und.refl _ | assumption | refine Und.under ?_ _ | refine Und.alloc ?_ _ | refine Und.drew ?_ | refine Und.drewN ?_ _)) : Und w3 _).trans hu5
  clear hu5
  try go_simp
  refine hK _ _ ?_
  clear hK K
  conv => arg 7; simp only [Act.put, List.setIfInBounds_toArray, List.set_cons_succ, List.set_cons_zero]
  refine rg_norm (l' := #[true, true, true, true, true, true, false, false, false, false, false, false, false, false, false, false, false, false, false, false, false, false, false, false, false, false, false, false, false, false, false, false, false, false, false, false, false]) (by kernel_rfl) ?_
  refine wpAny_take (i := 6) (oi := ⟨some 38, _, _, _, _, _⟩) (v := ?_) rfl (by kernel_rfl) (by kernel_rfl) (by kernel_rfl) (fun _ _ _ h => h) (Or.inl ⟨by rfl, ?_⟩) ?_
  rotate_left 1
  · (intro W9; go_simp; try with_reducible rfl)
  conv => arg 7; simp only [Act.put, List.setIfInBounds_toArray, List.set_cons_succ, List.set_cons_zero]
  refine rg_norm (l' := #[true, true, true, true, true, true, true, false, false, false, false, false, false, false, false, false, false, false, false, false, false, false, false, false, false, false, false, false, false, false, false, false, false, false, false, false, false]) (by kernel_rfl) ?_
  refine wpAny_take (i := 7) (oi := ⟨some 39, _, _, _, _, _⟩) (v := ?_) rfl (by kernel_rfl) (by kernel_rfl) (by kernel_rfl) (fun _ _ _ h => h) (Or.inl ⟨by rfl, ?_⟩) ?_
  rotate_left 1
  · (intro W9; go_simp; try with_reducible rfl)
  conv => arg 7; simp only [Act.put, List.setIfInBounds_toArray, List.set_cons_succ, List.set_cons_zero]
  refine rg_norm (l' := #[true, true, true, true, true, true, true, true, false, false, false, false, false, false, false, false, false, false, false, false, false, false, false, false, false, false, false, false, false, false, false, false, false, false, false, false, false]) (by kernel_rfl) ?_
  refine wpAny_take (i := 8) (oi := ⟨some 40, _, _, _, _, _⟩) (v := ?_) rfl (by kernel_rfl) (by kernel_rfl) (by kernel_rfl) (fun _ _ _ h => h) (Or.inl ⟨by rfl, ?_⟩) ?_
  rotate_left 1
  · (intro W9; go_simp; try with_reducible rfl)
  conv => arg 7; simp only [Act.put, List.setIfInBounds_toArray, List.set_cons_succ, List.set_cons_zero]
  refine rg_norm (l' := #[true, true, true, true, true, true, true, true, true, false, false, false, false, false, false, false, false, false, false, false, false, false, false, false, false, false, false, false, false, false, false, false, false, false, false, false, false]) (by kernel_rfl) ?_
  refine wpAny_take (i := 9) (oi := ⟨some 41, _, _, _, _, _⟩) (v := ?_) rfl (by kernel_rfl) (by kernel_rfl) (by kernel_rfl) (fun _ _ _ h => h) (Or.inl ⟨by rfl, ?_⟩) ?_
  rotate_left 1
  · (intro W9; go_simp; try with_reducible rfl)
  conv => arg 7; simp only [Act.put, List.setIfInBounds_toArray, List.set_cons_succ, List.set_cons_zero]
  refine rg_norm (l' := #[true, true, true, true, true, true, true, true, true, true, false, false, false, false, false, false, false, false, false, false, false, false, false, false, false, false, false, false, false, false, false, false, false, false, false, false, false]) (by kernel_rfl) ?_
  refine wpAny_take (i := 10) (oi := ⟨some 42, _, _, _, _, _⟩) (v := ?_) rfl (by kernel_rfl) (by kernel_rfl) (by kernel_rfl) (fun _ _ _ h => h) (Or.inl ⟨by rfl, ?_⟩) ?_
  rotate_left 1
  · (intro W9; go_simp; try with_reducible rfl)
  conv => arg 7; simp only [Act.put, List.setIfInBounds_toArray, List.set_cons_succ, List.set_cons_zero]
  refine rg_norm (l' := #[true, true, true, true, true, true, true, true, true, true, true, false, false, false, false, false, false, false, false, false, false, false, false, false, false, false, false, false, false, false, false, false, false, false, false, false, false]) (by kernel_rfl) ?_
  refine wpAny_ready (rs := [11]) (by kernel_rfl) (by simp) ?_
  refine AllReady.cons (o := ⟨some 43, _, _, _, _, _⟩) rfl (fun K hK => ?_) AllReady.nil
  with_reducible refine step_callW (o := ⟨some 43, _, _, _, _, _⟩) _ _ (.bool true) (hp2.out _ (HL3.out.und (by repeat (first | exact Und.refl _ | assumption | refine Und.under ?_ _ | refine Und.alloc ?_ _ | refine Und.drew ?_ | refine Und.drewN ?_ _)))) ?_ ?_ ?_
  · rfl
  · go_simp
  intro w6 hu6
  have hx6 := ((by repeat (first | exact Und.refl _ | assumption | refine Und.under ?_ _ | refine Und.alloc ?_ _ | refine Und.drew ?_ | refine Und.drewN ?_ _)) : Und w3 _).trans hu6
  clear hu6
  try go_simp
  refine hK _ _ ?_
  clear hK K
  conv => arg 7; simp only [Act.put, List.setIfInBounds_toArray, List.set_cons_succ, List.set_cons_zero]
  refine rg_norm (l' := #[true, true, true, true, true, true, true, true, true, true, true, true, false, false, false, false, false, false, false, false, false, false, false, false, false, false, false, false, false, false, false, false, false, false, false, false, false]) (by kernel_rfl) ?_
  refine wpAny_take (i := 12) (oi := ⟨some 44, _, _, _, _, _⟩) (v := ?_) rfl (by kernel_rfl) (by kernel_rfl) (by kernel_rfl) (fun _ _ _ h => h) (Or.inl ⟨by rfl, ?_⟩) ?_
  rotate_left 1
  · (intro W9; go_simp; try with_reducible rfl)
  conv => arg 7; simp only [Act.put, List.setIfInBounds_toArray, List.set_cons_succ, List.set_cons_zero]
  refine rg_norm (l' := #[true, true, true, true, true, true, true, true, true, true, true, true, true, false, false, false, false, false, false, false, false, false, false, false, false, false, false, false, false, false, false, false, false, false, false, false, false]) (by kernel_rfl) ?_
  refine wpAny_take (i := 13) (oi := ⟨some 45, _, _, _, _, _⟩) (v := ?_) rfl (by kernel_rfl) (by kernel_rfl) (by kernel_rfl) (fun _ _ _ h => h) (Or.inl ⟨by rfl, ?_⟩) ?_
  rotate_left 1
  · (intro W9; go_simp; try with_reducible rfl)
  conv => arg 7; simp only [Act.put, List.setIfInBounds_toArray, List.set_cons_succ, List.set_cons_zero]
  refine rg_norm (l' := #[true, true, true, true, true, true, true, true, true, true, true, true, true, true, false, false, false, false, false, false, false, false, false, false, false, false, false, false, false, false, false, false, false, false, false, false, false]) (by kernel_rfl) ?_
  refine wpAny_take (i := 14) (oi := ⟨some 46, _, _, _, _, _⟩) (v := ?_) rfl (by kernel_rfl) (by kernel_rfl) (by kernel_rfl) (fun _ _ _ h => h) (Or.inl ⟨by rfl, ?_⟩) ?_
  rotate_left 1
  · (intro W9; go_simp; try with_reducible rfl)
  conv => arg 7; simp only [Act.put, List.setIfInBounds_toArray, List.set_cons_succ, List.set_cons_zero]
  refine rg_norm (l' := #[true, true, true, true, true, true, true, true, true, true, true, true, true, true, true, false, false, false, false, false, false, false, false, false, false, false, false, false, false, false, false, false, false, false, false, false, false]) (by kernel_rfl) ?_
  refine wpAny_take (i := 15) (oi := ⟨some 47, _, _, _, _, _⟩) (v := ?_) rfl (by kernel_rfl) (by kernel_rfl) (by kernel_rfl) (fun _ _ _ h => h) (Or.inl ⟨by rfl, ?_⟩) ?_
  rotate_left 1
  · (intro W9; go_simp; try with_reducible rfl)
  conv => arg 7; simp only [Act.put, List.setIfInBounds_toArray, List.set_cons_succ, List.set_cons_zero]
  refine rg_norm (l' := #[true, true, true, true, true, true, true, true, true, true, true, true, true, true, true, true, false, false, false, false, false, false, false, false, false, false, false, false, false, false, false, false, false, false, false, false, false]) (by kernel_rfl) ?_
  refine wpAny_take (i := 16) (oi := ⟨some 48, _, _, _, _, _⟩) (v := ?_) rfl (by kernel_rfl) (by kernel_rfl) (by kernel_rfl) (fun _ _ _ h => h) (Or.inl ⟨by rfl, ?_⟩) ?_
  rotate_left 1
  · (intro W9; go_simp; try with_reducible rfl)
  conv => arg 7; simp only [Act.put, List.setIfInBounds_toArray, List.set_cons_succ, List.set_cons_zero]
  refine rg_norm (l' := #[true, true, true, true, true, true, true, true, true, true, true, true, true, true, true, true, true, false, false, false, false, false, false, false, false, false, false, false, false, false, false, false, false, false, false, false, false]) (by kernel_rfl) ?_
  refine wpAny_take (i := 17) (oi := ⟨some 49, _, _, _, _, _⟩) (v := ?_) rfl (by kernel_rfl) (by kernel_rfl) (by kernel_rfl) (fun _ _ _ h => h) (Or.inl ⟨by rfl, ?_⟩) ?_
  rotate_left 1
  · (intro W9; go_simp; try with_reducible rfl)
  conv => arg 7; simp only [Act.put, List.setIfInBounds_toArray, List.set_cons_succ, List.set_cons_zero]
  refine rg_norm (l' := #[true, true, true, true, true, true, true, true, true, true, true, true, true, true, true, true, true, true, false, false, false, false, false, false, false, false, false, false, false, false, false, false, false, false, false, false, false]) (by kernel_rfl) ?_
  refine wpAny_take (i := 21) (oi := ⟨some 53, _, _, _, _, _⟩) (v := ?_) rfl (by kernel_rfl) (by kernel_rfl) (by kernel_rfl) (fun _ _ _ h => h) (Or.inl ⟨by rfl, ?_⟩) ?_
  rotate_left 1
  · (intro W9; go_simp; try with_reducible rfl)
  conv => arg 7; simp only [Act.put, List.setIfInBounds_toArray, List.set_cons_succ, List.set_cons_zero]
  refine rg_norm (l' := #[true, true, true, true, true, true, true, true, true, true, true, true, true, true, true, true, true, true, false, false, false, true, false, false, false, false, false, false, false, false, false, false, false, false, false, false, false]) (by kernel_rfl) ?_
  refine wpAny_take (i := 22) (oi := ⟨some 54, _, _, _, _, _⟩) (v := ?_) rfl (by kernel_rfl) (by kernel_rfl) (by kernel_rfl) (fun _ _ _ h => h) (Or.inl ⟨by rfl, ?_⟩) ?_
  rotate_left 1
  · (intro W9; go_simp; try with_reducible rfl)
  conv => arg 7; simp only [Act.put, List.setIfInBounds_toArray, List.set_cons_succ, List.set_cons_zero]
  refine rg_norm (l' := #[true, true, true, true, true, true, true, true, true, true, true, true, true, true, true, true, true, true, false, false, false, true, true, false, false, false, false, false, false, false, false, false, false, false, false, false, false]) (by kernel_rfl) ?_
  refine wpAny_take (i := 23) (oi := ⟨some 55, _, _, _, _, _⟩) (v := ?_) rfl (by kernel_rfl) (by kernel_rfl) (by kernel_rfl) (fun _ _ _ h => h) (Or.inl ⟨by rfl, ?_⟩) ?_
  rotate_left 1
  · (intro W9; go_simp; try with_reducible rfl)
  conv => arg 7; simp only [Act.put, List.setIfInBounds_toArray, List.set_cons_succ, List.set_cons_zero]
  refine rg_norm (l' := #[true, true, true, true, true, true, true, true, true, true, true, true, true, true, true, true, true, true, false, false, false, true, true, true, false, false, false, false, false, false, false, false, false, false, false, false, false]) (by kernel_rfl) ?_
  refine wpAny_ready (rs := [18]) (by kernel_rfl) (by simp) ?_
  refine AllReady.cons (o := ⟨some 50, _, _, _, _, _⟩) rfl (fun K hK => ?_) AllReady.nil
  go_simp
  refine hK _ _ ?_
  clear hK K
  conv => arg 7; simp only [Act.put, List.setIfInBounds_toArray, List.set_cons_succ, List.set_cons_zero]
  refine rg_norm (l' := #[true, true, true, true, true, true, true, true, true, true, true, true, true, true, true, true, true, true, true, false, false, true, true, true, false, false, false, false, false, false, false, false, false, false, false, false, false]) (by kernel_rfl) ?_
  refine wpAny_ready (rs := [19]) (by kernel_rfl) (by simp) ?_
  refine AllReady.cons (o := ⟨some 51, _, _, _, _, _⟩) rfl (fun K hK => ?_) AllReady.nil
  go_simp
  refine hK _ _ ?_
  clear hK K
  conv => arg 7; simp only [Act.put, List.setIfInBounds_toArray, List.set_cons_succ, List.set_cons_zero]
  refine rg_norm (l' := #[true, true, true, true, true, true, true, true, true, true, true, true, true, true, true, true, true, true, true, true, false, true, true, true, false, false, false, false, false, false, false, false, false, false, false, false, false]) (by kernel_rfl) ?_
  refine wpAny_take (i := 20) (oi := ⟨some 52, _, _, _, _, _⟩) (v := ?_) rfl (by kernel_rfl) (by kernel_rfl) (by kernel_rfl) (fun _ _ _ h => h) (Or.inl ⟨by rfl, ?_⟩) ?_
  rotate_left 1
  · (intro W9; go_simp; try with_reducible rfl)
  conv => arg 7; simp only [Act.put, List.setIfInBounds_toArray, List.set_cons_succ, List.set_cons_zero]
  refine rg_norm (l' := #[true, true, true, true, true, true, true, true, true, true, true, true, true, true, true, true, true, true, true, true, true, true, true, true, false, false, false, false, false, false, false, false, false, false, false, false, false]) (by kernel_rfl) ?_
  refine wpAny_take (i := 24) (oi := ⟨some 56, _, _, _, _, _⟩) (v := ?_) rfl (by kernel_rfl) (by kernel_rfl) (by kernel_rfl) (fun _ _ _ h => h) (Or.inl ⟨by rfl, ?_⟩) ?_
  rotate_left 1
  · (intro W9; go_simp; try with_reducible rfl)
  conv => arg 7; simp only [Act.put, List.setIfInBounds_toArray, List.set_cons_succ, List.set_cons_zero]
  refine rg_norm (l' := #[true, true, true, true, true, true, true, true, true, true, true, true, true, true, true, true, true, true, true, true, true, true, true, true, true, false, false, false, false, false, false, false, false, false, false, false, false]) (by kernel_rfl) ?_
  refine wpAny_ready (rs := [25]) (by kernel_rfl) (by simp) ?_
  refine AllReady.cons (o := ⟨some 57, _, _, _, _, _⟩) rfl (fun K hK => ?_) AllReady.nil
  with_reducible refine step_callW (o := ⟨some 57, _, _, _, _, _⟩) _ _ (.bool true) (hp3.out _ (HL3.out.und (by repeat (first | exact Und.refl _ | assumption | refine Und.under ?_ _ | refine Und.alloc ?_ _ | refine Und.drew ?_ | refine Und.drewN ?_ _)))) ?_ ?_ ?_
  · rfl
  · go_simp
  intro w7 hu7
  have hx7 := ((by repeat (first | exact Und.refl _ | assumption | refine Und.under ?_ _ | refine Und.alloc ?_ _ | refine Und.drew ?_ | refine Und.drewN ?_ _)) : Und w3 _).trans hu7
  clear hu7
  try go_simp
  refine hK _ _ ?_
  clear hK K
  conv => arg 7; simp only [Act.put, List.setIfInBounds_toArray, List.set_cons_succ, List.set_cons_zero]
  refine rg_norm (l' := #[true, true, true, true, true, true, true, true, true, true, true, true, true, true, true, true, true, true, true, true, true, true, true, true, true, true, false, false, false, false, false, false, false, false, false, false, false]) (by kernel_rfl) ?_
  refine wpAny_take (i := 26) (oi := ⟨some 58, _, _, _, _, _⟩) (v := ?_) rfl (by kernel_rfl) (by kernel_rfl) (by kernel_rfl) (fun _ _ _ h => h) (Or.inl ⟨by rfl, ?_⟩) ?_
  rotate_left 1
  · (intro W9; go_simp; try with_reducible rfl)
  conv => arg 7; simp only [Act.put, List.setIfInBounds_toArray, List.set_cons_succ, List.set_cons_zero]
  refine rg_norm (l' := #[true, true, true, true, true, true, true, true, true, true, true, true, true, true, true, true, true, true, true, true, true, true, true, true, true, true, true, false, false, false, false, false, false, false, false, false, false]) (by kernel_rfl) ?_
  refine wpAny_take (i := 27) (oi := ⟨some 59, _, _, _, _, _⟩) (v := ?_) rfl (by kernel_rfl) (by kernel_rfl) (by kernel_rfl) (fun _ _ _ h => h) (Or.inl ⟨by rfl, ?_⟩) ?_
  rotate_left 1
  · (intro W9; go_simp; try with_reducible rfl)
  conv => arg 7; simp only [Act.put, List.setIfInBounds_toArray, List.set_cons_succ, List.set_cons_zero]
  refine rg_norm (l' := #[true, true, true, true, true, true, true, true, true, true, true, true, true, true, true, true, true, true, true, true, true, true, true, true, true, true, true, true, false, false, false, false, false, false, false, false, false]) (by kernel_rfl) ?_
  refine wpAny_take (i := 28) (oi := ⟨some 60, _, _, _, _, _⟩) (v := ?_) rfl (by kernel_rfl) (by kernel_rfl) (by kernel_rfl) (fun _ _ _ h => h) (Or.inl ⟨by rfl, ?_⟩) ?_
  rotate_left 1
  · (intro W9; go_simp; try with_reducible rfl)
  conv => arg 7; simp only [Act.put, List.setIfInBounds_toArray, List.set_cons_succ, List.set_cons_zero]
  refine rg_norm (l' := #[true, true, true, true, true, true, true, true, true, true, true, true, true, true, true, true, true, true, true, true, true, true, true, true, true, true, true, true, true, false, false, false, false, false, false, false, false]) (by kernel_rfl) ?_
  refine wpAny_take (i := 29) (oi := ⟨some 61, _, _, _, _, _⟩) (v := ?_) rfl (by kernel_rfl) (by kernel_rfl) (by kernel_rfl) (fun _ _ _ h => h) (Or.inl ⟨by rfl, ?_⟩) ?_
  rotate_left 1
  · (intro W9; go_simp; try with_reducible rfl)
  conv => arg 7; simp only [Act.put, List.setIfInBounds_toArray, List.set_cons_succ, List.set_cons_zero]
  refine rg_norm (l' := #[true, true, true, true, true, true, true, true, true, true, true, true, true, true, true, true, true, true, true, true, true, true, true, true, true, true, true, true, true, true, false, false, false, false, false, false, false]) (by kernel_rfl) ?_
  refine wpAny_take (i := 30) (oi := ⟨some 62, _, _, _, _, _⟩) (v := ?_) rfl (by kernel_rfl) (by kernel_rfl) (by kernel_rfl) (fun _ _ _ h => h) (Or.inl ⟨by rfl, ?_⟩) ?_
  rotate_left 1
  · (intro W9; go_simp; try with_reducible rfl)
  conv => arg 7; simp only [Act.put, List.setIfInBounds_toArray, List.set_cons_succ, List.set_cons_zero]
  refine rg_norm (l' := #[true, true, true, true, true, true, true, true, true, true, true, true, true, true, true, true, true, true, true, true, true, true, true, true, true, true, true, true, true, true, true, false, false, false, false, false, false]) (by kernel_rfl) ?_
  refine wpAny_ready (rs := [31]) (by kernel_rfl) (by simp) ?_
  refine AllReady.cons (o := ⟨some 63, _, _, _, _, _⟩) rfl (fun K hK => ?_) AllReady.nil
  with_reducible refine step_callW (o := ⟨some 63, _, _, _, _, _⟩) _ _ (.bool true) (hp4.out _ (HL3.out.und (by repeat (first | exact Und.refl _ | assumption | refine Und.under ?_ _ | refine Und.alloc ?_ _ | refine Und.drew ?_ | refine Und.drewN ?_ _)))) ?_ ?_ ?_
  · rfl
  · go_simp
  intro w8 hu8
  have hx8 := ((by repeat (first | exact Und.refl _ | assumption | refine Und.under ?_ _ | refine Und.alloc ?_ _ | refine Und.drew ?_ | refine Und.drewN ?_ _)) : Und w3 _).trans hu8
  clear hu8
  try go_simp
  refine hK _ _ ?_
  clear hK K
  conv => arg 7; simp only [Act.put, List.setIfInBounds_toArray, List.set_cons_succ, List.set_cons_zero]
  refine rg_norm (l' := #[true, true, true, true, true, true, true, true, true, true, true, true, true, true, true, true, true, true, true, true, true, true, true, true, true, true, true, true, true, true, true, true, false, false, false, false, false]) (by kernel_rfl) ?_
  refine wpAny_take (i := 32) (oi := ⟨some 64, _, _, _, _, _⟩) (v := ?_) rfl (by kernel_rfl) (by kernel_rfl) (by kernel_rfl) (fun _ _ _ h => h) (Or.inl ⟨by rfl, ?_⟩) ?_
  rotate_left 1
  · (intro W9; go_simp; try with_reducible rfl)
  conv => arg 7; simp only [Act.put, List.setIfInBounds_toArray, List.set_cons_succ, List.set_cons_zero]
  refine rg_norm (l' := #[true, true, true, true, true, true, true, true, true, true, true, true, true, true, true, true, true, true, true, true, true, true, true, true, true, true, true, true, true, true, true, true, true, false, false, false, false]) (by kernel_rfl) ?_
  refine wpAny_take (i := 33) (oi := ⟨some 65, _, _, _, _, _⟩) (v := ?_) rfl (by kernel_rfl) (by kernel_rfl) (by kernel_rfl) (fun _ _ _ h => h) (Or.inl ⟨by rfl, ?_⟩) ?_
  rotate_left 1
  · (intro W9; go_simp; try with_reducible rfl)
  conv => arg 7; simp only [Act.put, List.setIfInBounds_toArray, List.set_cons_succ, List.set_cons_zero]
  refine rg_norm (l' := #[true, true, true, true, true, true, true, true, true, true, true, true, true, true, true, true, true, true, true, true, true, true, true, true, true, true, true, true, true, true, true, true, true, true, false, false, false]) (by kernel_rfl) ?_
  refine wpAny_ready (rs := [34]) (by kernel_rfl) (by simp) ?_
  refine AllReady.cons (o := ⟨some 66, _, _, _, _, _⟩) rfl (fun K hK => ?_) AllReady.nil
  with_reducible refine step_callW (o := ⟨some 66, _, _, _, _, _⟩) _ _ (.bool true) (hkn.out _ (by repeat (first | exact Und.refl _ | assumption | refine Und.under ?_ _ | refine Und.alloc ?_ _ | refine Und.drew ?_ | refine Und.drewN ?_ _))) ?_ ?_ ?_
  · rfl
  · go_simp
  intro w9 hu9
  have hx9 := ((by repeat (first | exact Und.refl _ | assumption | refine Und.under ?_ _ | refine Und.alloc ?_ _ | refine Und.drew ?_ | refine Und.drewN ?_ _)) : Und w3 _).trans hu9
  clear hu9
  try go_simp
  refine hK _ _ ?_
  clear hK K
  conv => arg 7; simp only [Act.put, List.setIfInBounds_toArray, List.set_cons_succ, List.set_cons_zero]
  refine rg_norm (l' := #[true, true, true, true, true, true, true, true, true, true, true, true, true, true, true, true, true, true, true, true, true, true, true, true, true, true, true, true, true, true, true, true, true, true, true, false, false]) (by kernel_rfl) ?_
  refine wpAny_take (i := 35) (oi := ⟨some 67, _, _, _, _, _⟩) (v := ?_) rfl (by kernel_rfl) (by kernel_rfl) (by kernel_rfl) (fun _ _ _ h => h) (Or.inl ⟨by rfl, ?_⟩) ?_
  rotate_left 1
  · (intro W9; go_simp; try with_reducible rfl)
  conv => arg 7; simp only [Act.put, List.setIfInBounds_toArray, List.set_cons_succ, List.set_cons_zero]
  refine rg_norm (l' := #[true, true, true, true, true, true, true, true, true, true, true, true, true, true, true, true, true, true, true, true, true, true, true, true, true, true, true, true, true, true, true, true, true, true, true, true, false]) (by kernel_rfl) ?_
  refine wpAny_take (i := 36) (oi := ⟨some 8, _, _, _, _, _⟩) (v := ?_) rfl (by kernel_rfl) (by kernel_rfl) (by kernel_rfl) (fun _ _ _ h => h) (Or.inl ⟨by rfl, ?_⟩) ?_
  rotate_left 1
  · (intro W9; go_simp; try with_reducible rfl)
  conv => arg 7; simp only [Act.put, List.setIfInBounds_toArray, List.set_cons_succ, List.set_cons_zero]
  refine rg_norm (l' := #[true, true, true, true, true, true, true, true, true, true, true, true, true, true, true, true, true, true, true, true, true, true, true, true, true, true, true, true, true, true, true, true, true, true, true, true, true]) (by kernel_rfl) ?_
  refine wpAny_done (by kernel_rfl) ?_ _
  go_wp2
  go_ret
  exact ⟨rfl, HW3.out.trans hx9⟩
end Go.Proofs.YthgmlkeojhfijaaDoor
