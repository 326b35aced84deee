/- The law DocumentLimits: walk. Condition: the library's tables lie at their places. -/
import Derived.Test.YthoemdibbldndaaGreatDoorDocQ0
set_option linter.unusedVariables false
set_option linter.unusedSimpArgs false
namespace Go.Proofs.YthoemdibbldndaaGreatDoor
open Go.RowKit

theorem RD.und' {a b : World} (h : RD a.heap.size a.drew b) : Und a b := ((Und.refl a).drew).trans (RD.und (a := a.drew) h)
set_option maxRecDepth 20000 in
set_option maxHeartbeats 12800000 in
theorem doclim_any (n : Int) (w : World) (hL : Mk.LibAt w) : Calls Tryz.prog 3 #[.int .i64 n] w fun e w' => e = .returned (.bool true) ∧ Und w w' := by
  have HLB := hid hL
  clear hL
  obtain ⟨i0, hi, hz0, hz1, hz2⟩ := info_parts info_byte
  have hp1 := fun W => place_any n 4 W (by omega) (by omega)
  have a1 := Int.emod_nonneg n (show (4 : Int) ≠ 0 by omega)
  have b1 := Int.emod_lt_of_pos n (show (0 : Int) < 4 by omega)
  generalize n % 4 = p1 at hp1 a1 b1
  obtain ⟨p, rfl⟩ : ∃ k : Nat, p1 = k := ⟨p1.toNat, by omega⟩
  have HP1 := hid hp1
  clear hp1 a1
  have hcv0 := hid (fun (W : World) (C : Array Value) (n c : Nat) => Lib.run_convert_bytes_const (P := Tryz.prog) W 22 5 C n c Tryz.underlying22 Tryz.underlying5)
  have hcv1 := hcv0.out
  go_enter Tryz.func3, Tryz.ntmps3
  go_wp2_with fail
  go_loopw [3] (fun s3 wr => LgRel w 65524 s3 wr) (fun s3 _ => 65532 - lenV s3)
  case atStart =>
    refine ⟨(by repeat (first | exact Und.refl _ | assumption | refine Und.under ?_ _ | refine Und.alloc ?_ _ | refine Und.drew ?_ | refine Und.drewN ?_ _)), .inl ⟨rfl, by simp, fun j u hj => ?_⟩⟩
    rw [show (⟨w.heap.size, 0, none⟩ : Addr).add j = ⟨w.heap.size, j, none⟩ by unfold Addr.add; split <;> simp_all, World.cell?_alloc_mark]
    have hb : Lib.byteCells (St.longM 0) = [.int .u8 60, .int .u8 112, .int .u8 62, .int .u8 97, .int .u8 60, .int .u8 47, .int .u8 112, .int .u8 62] := rfl
    rw [hb] at hj
    simpa using hj
  case round =>
    obtain ⟨hu, ⟨rfl, hbs, hcs⟩ | ⟨k, hk, hown⟩⟩ := hrel
    · have HU := hid hu
      have HC := hid hcs
      have hsz := hu.size
      clear hu hcs
      go_wp2_with (at_builtin; refine wpList_append_full rfl _ _ 22 rfl w.heap.size 5 i0 (.int .u8 0) 1 1 Tryz.underlying22 hi hz0 hz1 hz2 rfl w.heap.size 8 (Lib.byteCells (St.longM 0)) rfl rfl ?_ _ 1 1 [.int .u8 120] rfl rfl ?_ (by omega) (by unfold maxLen; omega) (by omega) ?_ ?_)
      · intro j u hj
        have := HC.out j u hj
        rw [show (⟨w.heap.size, 0, none⟩ : Addr).add j = ⟨w.heap.size, j, none⟩ by unfold Addr.add; split <;> simp_all] at this ⊢
        exact (((Und.refl wr).alloc _).cell (p := ⟨w.heap.size, j, none⟩) hbs).trans this
      · exact side1b _ _ _
      · simp <;> omega
      · intro v' w4 hown' hu4
        have hrel : LgRel w 65524 v' w4 := by
          refine ⟨(HU.out.alloc _).trans hu4, .inr ⟨1, by omega, ?_⟩⟩
          have e : St.longM 1 = St.longM 0 ++ [120] := longM_snoc 0
          rw [e, bytes_snoc]
          exact hown'
        obtain ⟨A', c', rfl, _⟩ := own_slice hown'
        have HREL := hid hrel
        clear hown' hu4 hrel
        go_wp2
        exact ⟨HREL.out, by simp [lenV] <;> omega⟩
    have HU := hid hu
    have HO := hid hown
    obtain ⟨A, c, rfl, _⟩ := own_slice hown
    have hsz := hu.size
    clear hown hu
    by_cases hlt : k < 65524
    · have y1 : (k : Int) + 8 < 65532 := by omega
      go_wp2_with (at_builtin; refine wpList_append_own _ rfl _ _ 22 rfl w.heap.size 5 i0 (.int .u8 0) 1 1 Tryz.underlying22 hi hz0 hz1 hz2 rfl (by decide) (.slice A (k + 8) c) (k + 8) _ rfl (HO.out.alloc _) _ 1 1 [.int .u8 120] rfl rfl ?_ ?_ (by unfold maxLen; omega) (by omega) ?_ ?_)
      · exact side1b _ _ _
      · intro u hu'; simp at hu'; subst hu'; rfl
      · simp; omega
      · intro v' w4 hown' hgrow _
        have hrel : LgRel w 65524 v' w4 := by
          refine ⟨((HU.out.alloc _)).grown hgrow (fun g hg => owns_block HO.out g hg), .inr ⟨k + 1, by omega, ?_⟩⟩
          rw [longM_snoc, bytes_snoc]
          have := hown'
          try rw [show k + 8 + 1 = k + 1 + 8 by omega] at this
          exact this
        obtain ⟨A', c', rfl, _⟩ := own_slice hown'
        have HREL := hid hrel
        clear hown' hgrow hrel
        go_wp2
        exact ⟨HREL.out, by simp [lenV]; omega⟩
    · obtain ⟨N, hN⟩ : ∃ N : Nat, N = k + 8 := ⟨_, rfl⟩
      have hk2 : k = 65524 := by omega
      have hN2 : (N : Int) = 65532 := by omega
      rw [← hN] at HO ⊢
      have y1 : ¬ ((N : Int) < 65532) := by omega
      have hcv : ∀ W, Und wr W → (convert 22 9 (.slice A N c)).run Tryz.prog W = .ok (.string ⟨(St.longM k).toArray⟩) W := fun W hW => conv_own (own_und hW HO.out) (by omega)
      obtain ⟨d, hd⟩ : ∃ d : ByteArray, d = ⟨(St.longM k).toArray⟩ := ⟨_, rfl⟩
      rw [← hd] at hcv
      have hdl : d.data.toList = St.longM 65524 := by rw [hd, hk2]
      have hpa := fun W (hW : Und w W) => lim_parse d hdl W (HLB.out.und hW)
      have HPA := hid hpa
      have HCV := hid hcv
      clear hpa hcv hd hdl hlt hk hk2 hN HO
      have hcv2 := HCV.out _ (Und.refl _)
      go_wp2_with fail
      refine (HPA.out _ HU.out).mono ?_
      rintro e w5 ⟨A1, c1, rfl, hP, hc1, hc2, hu5⟩
      have HU5 := hid (HU.out.trans hu5)
      have HP := hid hP
      have hcv3 := HCV.out _ hu5
      clear hcv2 hu5 hP HPA
      go_wp2_with fail
      refine (HP1.out _).mono ?_
      rintro e wx ⟨rfl, hx⟩
      have hx1 : Und w5 wx := hx ▸ (Und.refl w5).alloc _
      have hx2 : wx.heap[w5.heap.size]? = some (.cells #[.int .i64 1, .slice A1 3 c1] 25) := hx ▸ heap_alloc_new w5 _
      have HX := hid (HU5.out.trans hx1)
      have HD := hid hx2
      have HPX := hid (HP.out.und hx1)
      generalize w5.heap.size = gd at HD ⊢
      clear hx hx1 hx2 HU5 HP
      go_wp2_with fail
      obtain ⟨R, hR⟩ : ∃ R, R = limR p := ⟨_, rfl⟩
      have hcall := fun W (hW : RD wx.heap.size wx.drew W) B C hB hC => lim_call p (by omega) A1 B C c1 W (HLB.out.und (HX.out.trans hW.und')) (HPX.out.und hW.und') hc1 hc2 hB hC
      rw [← hR] at hcall
      have HCALL := hid hcall
      have HRR := hid hR
      clear hcall hR
      obtain ⟨s, hsl, hs⟩ := lim_text p (by omega)
      have HSL := hid hsl
      have HS := hid hs
      clear hs hsl
      refine wp_region_factsR (RD wx.heap.size) (IDoc wx.heap.size 10 12 13) (limFs A1 c1 p s R) (RD.refl _) (fun a b c h k => h.trans k) (by kernel_rfl) (by rfl) (by kernel_rfl) (by kernel_rfl) ?fq ?hfq ?hI ?hob ?hend
      case hfq =>
        intro ρ
        simp only [putAll, Act.put, List.setIfInBounds_toArray, List.set_cons_succ, List.set_cons_zero, Nat.zero_add, Nat.reduceAdd]
        exact rfl
      case hI => exact fun ρ => ⟨Nat.le_refl _, fun h => by cases h⟩
      case hob =>
        unfold limFs
        refine ObsG.cons (fun ρ L W hR hI hL hD hO hF K hK => ?_) ?_
        · skip
          have hd2 : W.heap[gd]? = _ := (hR.und'.below.block gd (lt_of_heap HD.out)).trans HD.out
          clear hF hD hO hL
          simp only [Act.put, List.setIfInBounds_toArray, List.set_cons_succ, List.set_cons_zero] at hK ⊢
          haveI : LtW gd W := LtW.of (lt_of_heap hd2)
          have d0 : W.cell? ⟨gd, 0, none⟩ = some (.int .i64 1) := by rw [Lib.cell_of_heap hd2]; rfl
          have d1 : W.cell? ⟨gd, 1, none⟩ = some (.slice A1 3 c1) := by rw [Lib.cell_of_heap hd2]; rfl
          go_simp
          refine hK _ _ (RD.refl _ W) (hI.keep (Und.refl W) 0 _ (by decide) (by decide) (.inl (by decide))) (fun W2 h2 => rfl)
        refine ObsG.cons (fun ρ L W hR hI hL hD hO hF K hK => ?_) ?_
        · skip
          clear hF hD hO hL
          simp only [Act.put, List.setIfInBounds_toArray, List.set_cons_succ, List.set_cons_zero] at hK ⊢
          go_simp
          refine hK _ _ (RD.refl _ W) (hI.keep (Und.refl W) 1 _ (by decide) (by decide) (.inl (by decide))) (fun W2 h2 => rfl)
        refine ObsG.cons (fun ρ L W hR hI hL hD hO hF K hK => ?_) ?_
        · skip
          have f1 := allF_get hF (j := 1) (by decide)
          clear hF hD hO hL
          simp only [Act.put, List.setIfInBounds_toArray, List.set_cons_succ, List.set_cons_zero] at hK ⊢
          have e1 : ρ 1 = .agg #[.int .i64 0, .int .i64 1] := f1
          rw [e1] at hK ⊢
          go_simp
          refine hK _ _ (RD.of ((Und.refl W).alloc _) hI.1) (hI.keep ((Und.refl W).alloc _) 2 _ (by decide) (by decide) (.inl (by decide))) (fun W2 h2 => ⟨W.heap.size, rfl, h2.at (heap_alloc_new W _) (by rintro ⟨_, _, _, _, h⟩; simp at h)⟩)
        refine ObsG.cons (fun ρ L W hR hI hL hD hO hF K hK => ?_) ?_
        · skip
          clear hF hD hO hL
          simp only [Act.put, List.setIfInBounds_toArray, List.set_cons_succ, List.set_cons_zero] at hK ⊢
          go_simp
          refine hK _ _ (RD.refl _ W) (hI.keep (Und.refl W) 3 _ (by decide) (by decide) (.inl (by decide))) (fun W2 h2 => rfl)
        refine ObsG.cons (fun ρ L W hR hI hL hD hO hF K hK => ?_) ?_
        · skip
          have f3 := allF_get hF (j := 3) (by decide)
          clear hF hD hO hL
          simp only [Act.put, List.setIfInBounds_toArray, List.set_cons_succ, List.set_cons_zero] at hK ⊢
          have e3 : ρ 3 = .int .i64 (4 + (p : Int)) := f3
          rw [e3] at hK ⊢
          have hs := HS.out
          rcases (show p = 0 ∨ p = 1 ∨ p = 2 ∨ p = 3 by omega) with rfl | rfl | rfl | rfl <;> subst hs <;>
            (go_simp; refine hK _ _ (RD.refl _ W) (hI.keep (Und.refl W) 4 _ (by decide) (by decide) (.inl (by decide))) (fun W2 h2 => by first | rfl | decide))
        refine ObsG.cons (fun ρ L W hR hI hL hD hO hF K hK => ?_) ?_
        · skip
          have f4 := allF_get hF (j := 4) (by decide)
          clear hF hD hO hL
          simp only [Act.put, List.setIfInBounds_toArray, List.set_cons_succ, List.set_cons_zero] at hK ⊢
          have e4 : ρ 4 = .string s := f4
          rw [e4] at hK ⊢
          go_simp
          refine hK _ _ (RD.refl _ W) (hI.keep (Und.refl W) 5 _ (by decide) (by decide) (.inl (by decide))) (fun W2 h2 => rfl)
        refine ObsG.cons (fun ρ L W hR hI hL hD hO hF K hK => ?_) ?_
        · skip
          have f5 := allF_get hF (j := 5) (by decide)
          clear hF hD hO hL
          simp only [Act.put, List.setIfInBounds_toArray, List.set_cons_succ, List.set_cons_zero] at hK ⊢
          have e5 : ρ 5 = .agg #[.int .i64 1, .string s, .int .i64 0] := f5
          rw [e5] at hK ⊢
          go_simp
          refine hK _ _ (RD.of ((Und.refl W).alloc _) hI.1) (hI.keep ((Und.refl W).alloc _) 6 _ (by decide) (by decide) (.inl (by decide))) (fun W2 h2 => ⟨W.heap.size, rfl, h2.at (heap_alloc_new W _) (by rintro ⟨_, _, _, _, h⟩; simp at h)⟩)
        refine ObsG.cons (fun ρ L W hR hI hL hD hO hF K hK => ?_) ?_
        · skip
          have f6 := allF_get hF (j := 6) (by decide)
          clear hF hD hO hL
          simp only [Act.put, List.setIfInBounds_toArray, List.set_cons_succ, List.set_cons_zero] at hK ⊢
          obtain ⟨g2, e6, hg2⟩ := f6
          rw [e6] at hK ⊢
          go_simp
          refine hK _ _ (RD.of ((Und.refl W).alloc _) hI.1) (hI.keep ((Und.refl W).alloc _) 7 _ (by decide) (by decide) (.inl (by decide))) (fun W2 h2 => ⟨W.heap.size, g2, rfl, h2.at (heap_alloc_new W _) (by rintro ⟨_, _, _, _, h⟩; simp at h), h2.at (((Und.refl W).alloc _).below.block g2 (lt_of_heap hg2) |>.trans hg2) (by rintro ⟨_, _, _, _, h⟩; simp at h)⟩)
        refine ObsG.cons (fun ρ L W hR hI hL hD hO hF K hK => ?_) ?_
        · skip
          have f0 := allF_get hF (j := 0) (by decide)
          have f2 := allF_get hF (j := 2) (by decide)
          have f7 := allF_get hF (j := 7) (by decide)
          clear hF hD hO hL
          simp only [Act.put, List.setIfInBounds_toArray, List.set_cons_succ, List.set_cons_zero] at hK ⊢
          have e0 : ρ 0 = .agg #[.int .i64 1, .slice A1 3 c1] := f0
          obtain ⟨g, e2, hg⟩ := f2
          obtain ⟨g3, g4, e7, hg3, hg4⟩ := f7
          rw [e0, e2, e7] at hK ⊢
          have hcc := HCALL.out W hR (some ⟨g, 0, none⟩) (some ⟨g3, 0, none⟩) (ranges_one (by rw [Lib.cell_of_heap hg]; rfl) (by rw [Lib.cell_of_heap hg]; rfl)) (by
            rw [← HSL.out]
            exact targs_one (g2 := g4) (s := s) (by rw [Lib.cell_of_heap hg3]; rfl) (by rw [Lib.cell_of_heap hg4]; rfl) (by rw [Lib.cell_of_heap hg4]; rfl) (by rw [Lib.cell_of_heap hg4]; rfl))
          refine step_callX (o := ⟨some 36, _, _, _, _, _⟩) rfl 16 #[.agg #[.int .i64 1, .slice A1 3 c1], .int .i64 1, .slice (some ⟨g, 0, none⟩) 1 1, .slice (some ⟨g3, 0, none⟩) 1 1] _ hcc ?_ ?_
          · go_simp; done
          rintro e w' ⟨A', c', rfl, hP', _, _, hu⟩
          exact ⟨_, rfl, hK _ _ (RD.of hu hI.1) (hI.keep hu 8 _ (by decide) (by decide) (.inl (by decide))) (fun W2 h2 => ⟨A', c', rfl, h2.parts hP'⟩)⟩
        refine ObsG.cons (fun ρ L W hR hI hL hD hO hF K hK => ?_) ?_
        · skip
          have f8 := allF_get hF (j := 8) (by decide)
          clear hF hD hO hL
          simp only [Act.put, List.setIfInBounds_toArray, List.set_cons_succ, List.set_cons_zero] at hK ⊢
          obtain ⟨A1, c1, e8, hP1⟩ := f8
          rw [e8] at hK ⊢
          go_simp
          refine hK _ _ (RD.refl _ W) (hI.keep (Und.refl W) 9 _ (by decide) (by decide) (.inl (by decide))) (fun W2 h2 => ⟨A1, c1, rfl, h2.parts hP1⟩)
        refine ObsG.cons (fun ρ L W hR hI hL hD hO hF K hK => ?_) ?_
        · skip
          have f9 := allF_get hF (j := 9) (by decide)
          have h13 : L 13 = false := hD.not (p := 13) rfl (by decide) hL
          clear hF hD hO hL
          simp only [Act.put, List.setIfInBounds_toArray, List.set_cons_succ, List.set_cons_zero] at hK ⊢
          obtain ⟨A1, c1, e9, hP1⟩ := f9
          rw [e9] at hK ⊢
          go_simp
          refine hK _ _ (RD.refl _ W) (hI.keep (Und.refl W) 10 _ (by decide) (by decide) (.inr h13)) (fun W2 h2 => ⟨A1, c1, rfl, h2.parts hP1⟩)
        refine ObsG.cons (fun ρ L W hR hI hL hD hO hF K hK => ?_) ?_
        · skip
          have f9 := allF_get hF (j := 9) (by decide)
          clear hF hD hO hL
          simp only [Act.put, List.setIfInBounds_toArray, List.set_cons_succ, List.set_cons_zero] at hK ⊢
          obtain ⟨A1, c1, e9, hP1⟩ := f9
          rw [e9] at hK ⊢
          go_simp
          refine hK _ _ (RD.refl _ W) (hI.keep (Und.refl W) 11 _ (by decide) (by decide) (.inl (by decide))) (fun W2 h2 => rfl)
        refine ObsG.cons (fun ρ L W hR hI hL hD hO hF K hK => ?_) ?_
        · skip
          have h13 : L 13 = false := hD.not (p := 13) rfl (by decide) hL
          clear hF hD hO hL
          simp only [Act.put, List.setIfInBounds_toArray, List.set_cons_succ, List.set_cons_zero] at hK ⊢
          go_simp
          refine hK _ _ (RD.of ((Und.refl W).alloc _) hI.1) (hI.alloc h13 (by decide) 0 none 0 0) (fun W2 h2 => ⟨_, rfl⟩)
        refine ObsG.cons (fun ρ L W hR hI hL hD hO hF K hK => ?_) ?_
        · skip
          have f10 := allF_get hF (j := 10) (by decide)
          have f12 := allF_get hF (j := 12) (by decide)
          have h12 : L 12 = true := by
            cases hq : L 12 with
            | true => rfl
            | false =>
              obtain ⟨g, hg⟩ := f12
              have := hO 12 _ 7 rfl rfl hq
              rw [hg] at this; cases this
          clear hF hD hO hL
          simp only [Act.put, List.setIfInBounds_toArray, List.set_cons_succ, List.set_cons_zero] at hK ⊢
          obtain ⟨A1, c1, e10, hP1⟩ := f10
          obtain ⟨g, i, a, n', c', e12, hBg, hdoc, _⟩ := hI.2 h12
          rw [e10, e12] at hK ⊢
          haveI : LtW g W := LtW.of (lt_of_heap hdoc)
          have d0 : W.cell? ⟨g, 0, none⟩ = some (.int .i64 i) := by rw [Lib.cell_of_heap hdoc]; rfl
          have d1 : W.cell? ⟨g, 1, none⟩ = some (.slice a n' c') := by rw [Lib.cell_of_heap hdoc]; rfl
          have f0 : W.frozen? ⟨g, 0, none⟩ = false := Lib.frozen_of_heap hdoc 0
          have f1 : W.frozen? ⟨g, 1, none⟩ = false := Lib.frozen_of_heap hdoc 1
          go_simp
          refine hK undef _ (RD.store _ _ hBg ⟨_, _, _, _, hdoc⟩) (hI.store (by decide) (by decide) undef e12 hBg ⟨_, _, _, _, hdoc⟩ e10) (fun _ _ => trivial)
        refine ObsG.cons (fun ρ L W hR hI hL hD hO hF K hK => ?_) ?_
        · skip
          have f11 := allF_get hF (j := 11) (by decide)
          clear hF hD hO hL
          simp only [Act.put, List.setIfInBounds_toArray, List.set_cons_succ, List.set_cons_zero] at hK ⊢
          have e11 : ρ 11 = .int .i64 R.2 := f11
          rw [e11] at hK ⊢
          go_simp
          refine hK _ _ (RD.refl _ W) (hI.keep (Und.refl W) 14 _ (by decide) (by decide) (.inl (by decide))) (fun W2 h2 => rfl)
        exact ObsG.nil
      case hend =>
        intro ρ L W hR hI hL hF
        obtain ⟨_, _, _, _, _, _, _, _, _, _, e10, _, _, _, e14, _⟩ := hF
        obtain ⟨A1, c1, e10, hP1⟩ := e10
        have e14 : ρ 14 = .int .i64 R.2 := e14
        obtain ⟨g, i, a, n', c', e12, hBg, hdoc, hst⟩ := hI.2 (hL 12 (by decide))
        have hst := hst (hL 13 (by decide))
        rw [e10] at hst
        simp only [Value.agg.injEq, Array.mk.injEq, List.cons.injEq, Value.int.injEq, Value.slice.injEq, true_and, and_true] at hst
        obtain ⟨rfl, rfl, rfl, rfl⟩ := hst
        have HU4 := hid (HX.out.trans hR.und')
        have HP4 := hid hP1
        have HDOC := hid hdoc
        rw [e12, e14]
        clear hR hI hL e10 e14 hP1
        clear hst hdoc HPX HD HCALL HSL HS
        have HKN := hid (fun W' (hW : Und W W') => known10_any W' (HLB.out.und (HU4.out.trans hW)))
        obtain ⟨⟨f1, ps⟩, er⟩ := R
        haveI : LtW g W := LtW.of (lt_of_heap HDOC.out)
        have d0 : W.cell? ⟨g, 0, none⟩ = some (.int .i64 f1) := by rw [Lib.cell_of_heap HDOC.out]; rfl
        have d1 : W.cell? ⟨g, 1, none⟩ = some (.slice a ps.length c') := by rw [Lib.cell_of_heap HDOC.out]; rfl
        have hRR := HRR.out
        by_cases hp1 : p ≤ 1
        · obtain ⟨rfl, hpl, hraw⟩ := limR_lo p hp1 hRR
          have hb := hid (fun W' (hW : Und W W') => dbytes_any f1 a ps.length c' ps W' rfl (HP4.out.und hW) (by omega) (by omega))
          obtain ⟨bz, hbz⟩ : ∃ bz : ByteArray, bz = ⟨(St.rawP ps).toArray⟩ := ⟨_, rfl⟩
          rw [← hbz] at hb
          have hbs : (bz.size : Int) = 65535 + (p : Int) := by
            rw [hbz]; show (((St.rawP ps).toArray.size : Nat) : Int) = _
            rw [List.size_toArray, hraw]; omega
          have y2 : 4 + (p : Int) ≤ 5 := by omega
          have y3 : (65535 + (p : Int) == 65532 + (4 + (p : Int)) - 1) = true := by simp; omega
          clear hraw hbz hpl hRR HRR HP4 HDOC
          go_wp2_with fail
          refine (hb.out _ (by repeat (first | exact Und.refl _ | assumption | refine Und.under ?_ _ | refine Und.alloc ?_ _ | refine Und.drew ?_ | refine Und.drewN ?_ _))).mono ?_
          rintro e w7 ⟨rfl, hu7⟩
          have HU7 := hid hu7
          clear hu7 hb
          go_wp2_with fail
          refine (HKN.out _ (Und.trans (by repeat (first | exact Und.refl _ | assumption | refine Und.under ?_ _ | refine Und.alloc ?_ _ | refine Und.drew ?_ | refine Und.drewN ?_ _)) HU7.out)).mono ?_
          rintro e w8 ⟨rfl, hu8⟩
          have HU8 := hid (HU4.out.trans (Und.trans (Und.trans (by repeat (first | exact Und.refl _ | assumption | refine Und.under ?_ _ | refine Und.alloc ?_ _ | refine Und.drew ?_ | refine Und.drewN ?_ _)) HU7.out) hu8))
          clear hu8
          go_wp2
          go_ret
          exact ⟨rfl, HU8.out⟩
        · obtain ⟨rfl, rfl⟩ := limR_hi p hp1 hRR
          have y2 : ¬ 4 + (p : Int) ≤ 5 := by omega
          clear hRR HRR HP4 HDOC
          go_wp2_with fail
          refine (HKN.out _ (by repeat (first | exact Und.refl _ | assumption | refine Und.under ?_ _ | refine Und.alloc ?_ _ | refine Und.drew ?_ | refine Und.drewN ?_ _))).mono ?_
          rintro e w8 ⟨rfl, hu8⟩
          have HU8 := hid (HU4.out.trans (Und.trans (by repeat (first | exact Und.refl _ | assumption | refine Und.under ?_ _ | refine Und.alloc ?_ _ | refine Und.drew ?_ | refine Und.drewN ?_ _)) hu8))
          clear hu8
          go_wp2
          go_ret
          exact ⟨rfl, HU8.out⟩
end Go.Proofs.YthoemdibbldndaaGreatDoor
