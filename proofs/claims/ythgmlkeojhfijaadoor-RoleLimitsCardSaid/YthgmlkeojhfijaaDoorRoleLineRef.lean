/- The contract of the reference's line: the user of any line. Conditions: the line is shorter than the library's search bears. -/
import Derived.Test.YthgmlkeojhfijaaDoorRoleReadAny
import Derived.Test.YthgmlkeojhfijaaDoorRoleWords
import Derived.Deep.CutBlock
namespace Go.Proofs.YthgmlkeojhfijaaDoor
open Go.RowKit

theorem refroles_any (w : World) : Calls Tryd.prog 31 #[] w fun e w' => e = .returned (.slice (some ⟨w.heap.size, 0, none⟩) 4 4) ∧ w' = w.alloc (.cells #[.string sReader, .string sTranslator, .string sReviewer, .string sManager] 9) := by
  go_enter Tryd.func31, Tryd.ntmps31
  go_wp2
  go_ret
  exact ⟨rfl, rfl⟩
def CutR (w1 : World) (U : Nat) (a : ByteArray) (r : Int) (wx : World) : Prop := BoxU wx U a r (.slice none 0 0) ∧ Und w1 wx
def LdRel (w3 : World) (U : Nat) (nm : ByteArray) (r : Int) (cs : List ByteArray) (s51 : Value) (wr : World) : Prop :=
  ∃ (k : Nat) (ds : List Int) (v : Value), s51 = .int .i64 k ∧ k ≤ cs.length ∧ ds.length = k ∧ Ln.docs (cs.map (·.data.toList)) = (Ln.docs ((cs.drop k).map (·.data.toList))).map (ds ++ ·) ∧
    BoxU wr U nm r v ∧ wr.ownsRow w3.heap.size 3 1 v k (ds.map (Value.int .i64)) ∧ w3.grownBy wr (some U)

set_option maxRecDepth 20000 in
set_option maxHeartbeats 6400000 in
theorem line_any (s : ByteArray) (w : World) (hs : s.size < 4294967281) : Calls Tryd.prog 47 #[.string s] w (ReadEnd s w) := by
  obtain ⟨ii, hi, hz0, hz1, hz2⟩ := info_parts info_int
  have hR := ResBox.made w
  go_enter Tryd.func47, Tryd.ntmps47
  go_wp2_with fail
  refine (words_any s _ hs).mono ?_
  rintro e w1 ⟨ws, B, n, c, rfl, hws, hn, hnc, hc63, hB, hns, hS, hu⟩
  have hR1 := hR.und hu
  have HU1 := hid (((by repeat (first | exact Und.refl _ | assumption | refine Und.under ?_ _ | refine Und.alloc ?_ _ | refine Und.drew ?_ | refine Und.drewN ?_ _)) : Und w _).trans hu)
  have hBR : w.heap.size < B := Nat.lt_of_lt_of_le (by simp) hB
  have hRl : w.heap.size < w1.heap.size := World.block_lt_of_cell? _ _ hR1.1
  haveI : LtW w.heap.size w1 := LtW.of hRl
  have HR1 := hid hR1
  have HW := hid hws
  clear hR hR1 hu hws hB
  obtain ⟨q0, q1, q2, q3, q4, q5⟩ := HR1.out
  match ws, hn with
  | [], hn => exact absurd HW.out.symm (Ln.words_ne _)
  | [a], hn =>
    subst hn
    have HN : Hid (Ln.user s.data.toList = none) := hid (by unfold Ln.user; rw [← HW.out]; rfl)
    clear hS
    go_wp2
    refine bodyPost_ret (v := .tuple #[zeroU, .bool false]) (by simp [results, Tryd.results47, go_sem, q0, q1, q2]; rfl) rfl ⟨?_, ?_⟩
    · exact ((HU1.out.setCell (Nat.le_refl _) _).setCell (Nat.le_refl _) _).setCell (Nat.le_refl _) _
    · rw [HN.out]; rfl
  | a :: b :: cs, hn =>
    obtain ⟨m, rfl⟩ : ∃ m, n = m + 2 := ⟨cs.length, by rw [← hn]; rfl⟩
    have hm : cs.length = m := by simpa using hn
    have c0 : w1.cell? ⟨B, 0, none⟩ = some (.string a) := by simpa using hS 0 a rfl
    have c1 : w1.cell? ⟨B, 1, none⟩ = some (.string b) := by simpa using hS 1 b rfl
    have hSc : StrsAt w1 B 2 cs := fun j x hx => by have := hS (j + 2) x (by simpa using hx); rw [show 0 + (j + 2) = 2 + j by omega] at this; exact this
    have HSc := hid hSc
    have HM := hid hm
    have hBl : B < w1.heap.size := World.block_lt_of_cell? _ _ c0
    haveI : LtW B w1 := LtW.of hBl
    have hm63 : m ≤ 4294967285 := by omega
    clear hS hn hSc hm
    have hus : Ln.user s.data.toList = if a.data.toList = [] then none else if Ln.role b.data.toList = 0 then none else (Ln.docs (cs.map (·.data.toList))).map fun z => (⟨a.data.toList.toArray⟩, Ln.role b.data.toList, z) := by
      unfold Ln.user; rw [← HW.out]; rfl
    by_cases ha : a.toList.isEmpty = true
    · have HN : Hid (Ln.user s.data.toList = none) := hid (by rw [hus, if_pos (by rw [Lib.toList_data] at ha; exact List.isEmpty_iff.1 ha)])
      clear hus
      go_wp2
      refine bodyPost_ret (v := .tuple #[zeroU, .bool false]) (by simp [results, Tryd.results47, go_sem, q0, q1, q2]; rfl) rfl ⟨?_, ?_⟩
      · exact ((HU1.out.setCell (Nat.le_refl _) _).setCell (Nat.le_refl _) _).setCell (Nat.le_refl _) _
      · rw [HN.out]; rfl
    · have ha' : a.toList.isEmpty = false := by simpa using ha
      have hane : ¬ a.data.toList = [] := by intro h; rw [Lib.toList_data, h] at ha'; cases ha'
      rw [if_neg hane] at hus
      have hna : (⟨a.data.toList.toArray⟩ : ByteArray) = a := by simp
      rw [hna] at hus
      have hro := role_of b
      generalize hrr : Ln.role b.data.toList = r at hus hro
      have HUS := hid hus
      have HRO := hid hro
      have HRR := hid hrr
      clear ha hane hna hus hro hrr
      go_upto_block 0 with (go_at_call 31; refine (refroles_any _).mono ?_; rintro e w' ⟨rfl, rfl⟩)
      go_cut [] from 30 (fun wx => CutR w1 w1.heap.size a r wx)
      case first =>
        have eRea : (sReader.toList == sReader.toList) = true := beq_self_eq_true _
        have eReaTra : (sReader.toList == sTranslator.toList) = false := by rw [Lib.toList_data, Lib.toList_data]; decide
        have eReaRev : (sReader.toList == sReviewer.toList) = false := by rw [Lib.toList_data, Lib.toList_data]; decide
        have eReaMan : (sReader.toList == sManager.toList) = false := by rw [Lib.toList_data, Lib.toList_data]; decide
        have eTraRea : (sTranslator.toList == sReader.toList) = false := by rw [Lib.toList_data, Lib.toList_data]; decide
        have eTra : (sTranslator.toList == sTranslator.toList) = true := beq_self_eq_true _
        have eTraRev : (sTranslator.toList == sReviewer.toList) = false := by rw [Lib.toList_data, Lib.toList_data]; decide
        have eTraMan : (sTranslator.toList == sManager.toList) = false := by rw [Lib.toList_data, Lib.toList_data]; decide
        have eRevRea : (sReviewer.toList == sReader.toList) = false := by rw [Lib.toList_data, Lib.toList_data]; decide
        have eRevTra : (sReviewer.toList == sTranslator.toList) = false := by rw [Lib.toList_data, Lib.toList_data]; decide
        have eRev : (sReviewer.toList == sReviewer.toList) = true := beq_self_eq_true _
        have eRevMan : (sReviewer.toList == sManager.toList) = false := by rw [Lib.toList_data, Lib.toList_data]; decide
        have eManRea : (sManager.toList == sReader.toList) = false := by rw [Lib.toList_data, Lib.toList_data]; decide
        have eManTra : (sManager.toList == sTranslator.toList) = false := by rw [Lib.toList_data, Lib.toList_data]; decide
        have eManRev : (sManager.toList == sReviewer.toList) = false := by rw [Lib.toList_data, Lib.toList_data]; decide
        have eMan : (sManager.toList == sManager.toList) = true := beq_self_eq_true _
        rcases HRO.out with ⟨rfl, hr⟩ | ⟨rfl, hr⟩ | ⟨rfl, hr⟩ | ⟨rfl, hr⟩ | ⟨⟨x0, x1, x2, x3⟩, hr⟩
        all_goals
          have HR := hid hr
          clear hr
          go_wp2_with fail
          refine wp_loop_rounds 5 ?_
          rw [rounds_succ]
          go_wp2
          rw [rounds_succ]
          go_wp2
          rw [rounds_succ]
          go_wp2
          rw [rounds_succ]
          go_wp2
          rw [rounds_succ]
          go_wp2
          go_meet
          rw [HR.out]
          refine ⟨⟨by go_simp, by go_simp, by go_simp, by go_simp⟩, ?_⟩
          exact (by repeat (first | exact Und.refl _ | assumption | refine Und.under ?_ _ | refine Und.alloc ?_ _ | refine Und.drew ?_ | refine Und.drewN ?_ _))
      case rest =>
        obtain ⟨hBx, hu⟩ := hcut
        have HB3 := hid hBx
        have HUW := hid (HU1.out.trans hu)
        have HR2 := hid (HR1.out.und hu)
        have HS2 := hid (HSc.out.und hu)
        obtain ⟨b0, b1, b2, b3⟩ := hBx
        have hUl : w1.heap.size < wc.heap.size := World.block_lt_of_cell? _ _ b0
        haveI : LtW B wc := LtW.of (by omega)
        haveI : LtW w.heap.size wc := LtW.of (by omega)
        clear hu c0 c1 q0 q1 q2 q3 q4 q5 HR1 HSc
        obtain ⟨q0, q1, q2, q3, q4, q5⟩ := HR2.out
        have hrr : r = 0 ∨ (1 ≤ r ∧ r ≤ 4) := by rcases HRO.out with ⟨_, h⟩ | ⟨_, h⟩ | ⟨_, h⟩ | ⟨_, h⟩ | ⟨_, h⟩ <;> rw [h] <;> omega
        rcases hrr with rfl | ⟨r1, r4⟩
        · have HN : Hid (Ln.user s.data.toList = none) := hid (by rw [HUS.out, if_pos rfl])
          go_wp2
          refine bodyPost_ret (v := .tuple #[zeroU, .bool false]) (by simp [results, Tryd.results47, go_sem, q0, q1, q2]; rfl) rfl ⟨?_, ?_⟩
          · exact ((HUW.out.setCell (Nat.le_refl _) _).setCell (Nat.le_refl _) _).setCell (Nat.le_refl _) _
          · rw [HN.out]; rfl
        · have hr0 : ¬ r = 0 := by omega
          have hr0b : (r == 0) = false := by simpa using hr0
          have HUS2 : Hid (Ln.user s.data.toList = (Ln.docs (cs.map (·.data.toList))).map fun z => (a, r, z)) := hid (by rw [HUS.out, if_neg hr0])
          clear HUS hr0
          have hmm : m = 0 ∨ 0 < m := by omega
          have hxs : ∀ k (h : k < cs.length), cs[k].size ≤ s.size := by
            intro k h
            have h1 := Ln.words_le s.data.toList cs[k].data.toList (by rw [← HW.out]; simp only [List.map_cons]; exact List.mem_cons_of_mem _ (List.mem_cons_of_mem _ (List.mem_map_of_mem (List.getElem_mem h))))
            simpa using h1
          have HXS := hid hxs
          clear hxs
          rcases hmm with rfl | hm1
          · have hcs : cs = [] := List.eq_nil_of_length_eq_zero HM.out
            subst hcs
            have HN : Hid (Ln.user s.data.toList = some (a, r, [])) := hid (by rw [HUS2.out]; rfl)
            have hox : wc.ownsRow (w.heap.size + 1) 3 1 (.slice none 0 0) 0 [] := World.ownsRow_nil _ _ _ _
            have HOX := hid hox
            clear hox
            rcases (show c = 2 ∨ 2 < c by omega) with rfl | hc2
            all_goals
              go_wp2
              refine wp_loop_rounds 1 ?_
              rw [rounds_succ]
              go_wp2
              refine bodyPost_ret (v := .tuple #[.agg #[.string a, .int .i64 r, .slice none 0 0], .bool true]) (by simp [results, Tryd.results47, go_sem, q0, q1, q2, b0, b1, b2]) rfl ⟨?_, ?_⟩
              · exact ((HUW.out.setCell (Nat.le_refl _) _).setCell (Nat.le_refl _) _).setCell (Nat.le_refl _) _
              · rw [HN.out]
                refine ⟨_, rfl, ?_⟩
                exact own_low (ownsRow_setCell_below (ownsRow_setCell_below (ownsRow_setCell_below HOX.out (by show w.heap.size < _; omega) _) (by show w.heap.size < _; omega) _) (by show w.heap.size < _; omega) _) (by omega)
          · have hc2 : 2 < c := by omega
            go_wp2
            go_loopw [51] (fun s51 wr => LdRel wc w1.heap.size a r cs s51 wr) (fun s51 _ => cs.length + 1 - (intOf s51).toNat)
            case atStart => exact ⟨0, [], _, rfl, by omega, rfl, by simp, HB3.out, World.ownsRow_nil _ _ _ _, gb_refl _ _⟩
            case round =>
              obtain ⟨k, ds, v, rfl, hk, hds, hdocs, hBx, hown, hgb⟩ := hrel
              have hUR := HUW.out.of_gb hgb (fun g e => by cases e; omega)
              have hR4 := HR2.out.gb hgb (by simp; omega)
              have hS4 := HS2.out.gb hgb (by simp; omega)
              have HUR := hid hUR
              have HR4 := hid hR4
              have HD := hid hdocs
              have HDS := hid hds
              have HO := hid hown
              have HGB := hid hgb
              have HBX := hid hBx
              clear b0 b1 b2 b3 q0 q1 q2 q3 q4 q5
              obtain ⟨b0, b1, b2, b3⟩ := hBx
              obtain ⟨q0, q1, q2, q3, q4, q5⟩ := hR4
              have hcl : cs.length ≤ 4294967285 := by have := HM.out; omega
              have hrl : w.heap.size < wr.heap.size := World.block_lt_of_cell? _ _ q0
              haveI : LtW w.heap.size wr := LtW.of hrl
              have hU2 : w1.heap.size < wr.heap.size := World.block_lt_of_cell? _ _ b0
              clear hUR hdocs hds hown hgb
              by_cases hlt : k < cs.length
              · have hlt' : k < m := HM.out ▸ hlt
                have hxc : wr.cell? ⟨B, 2 + k, none⟩ = some (.string cs[k]) := hS4 k _ (List.getElem?_eq_getElem hlt)
                have hxs := HXS.out k hlt
                have hdrop : (cs.drop k).map (·.data.toList) = cs[k].data.toList :: (cs.drop (k + 1)).map (·.data.toList) := by rw [List.drop_eq_getElem_cons hlt, List.map_cons]
                generalize cs[k] = x at hxc hxs hdrop
                have hat := fun W => number_any x W (by omega)
                have hno : Ln.num x.data.toList = none → Ln.user s.data.toList = none := fun h => by
                  rw [HUS2.out, HD.out, hdrop, Ln.docs_none _ _ h]; rfl
                have HNO := hid hno
                have HDR := hid hdrop
                have HAT := hid hat
                clear hno hdrop hat hxs hS4
                go_wp2_with fail
                refine (HAT.out _).mono ?_
                rintro e w5 ⟨v5, bb, rfl, rfl, hev⟩
                rcases hev with ⟨rfl, n, rfl, hn⟩ | ⟨rfl, hn⟩
                · have HNUM := hid hn
                  clear hn
                  go_wp2_with (at_builtin; refine wpList_append_own _ rfl _ _ 23 rfl wc.heap.size 3 ii (.int .i64 0) 1 8 Tryd.underlying23 hi hz0 hz1 hz2 rfl (by decide) v k _ rfl (HO.out.alloc _) _ 1 1 [.int .i64 n] rfl rfl ?_ (by simp; rfl) (by unfold maxLen; omega) (by omega) ?_ ?_)
                  · exact side1i _ _
                  · have := HGB.out.size; simp; omega
                  · intro v1 w7 hown7 hgrow7 hnil7
                    obtain ⟨A7, c7, rfl, _, _⟩ := own_slice hown7
                    have hB7 : BoxU w7 w1.heap.size a r v := (HBX.out.gb (World.grownBy_alloc _ _ none) (by simp)).gb hgrow7 (row_ne HO.out (by omega))
                    have hgb7 : wc.grownBy w7 (some w1.heap.size) := gb_trans (gb_und HGB.out ((Und.refl _).alloc _)) hgrow7 (fun g hg => Or.inr (owns_block HO.out g hg))
                    have HB7 := hid hB7
                    have HGB7 := hid (gb_setCell hgb7 ⟨w1.heap.size, 2, none⟩ (.slice A7 (k + 1) c7) (Or.inl rfl))
                    have HO7 := hid (ownsRow_setCell_below hown7 (a := ⟨w1.heap.size, 2, none⟩) (by show w1.heap.size < wc.heap.size; omega) (.slice A7 (k + 1) c7))
                    clear b0 b1 b2 b3 q0 q1 q2 q3 q4 q5
                    obtain ⟨b0, b1, b2, b3⟩ := HB7.out
                    clear hB7 hgb7 hown7 hgrow7 hnil7
                    go_wp2
                    refine ⟨⟨k + 1, ds ++ [(n : Int)], .slice A7 (k + 1) c7, rfl, by omega, by have := HDS.out; simp; omega, ?_, HB7.out.set _, by simpa using HO7.out, HGB7.out⟩, by simp [intOf]; omega⟩
                    rw [HD.out, HDR.out, Ln.docs_some _ _ n HNUM.out, Option.map_map]
                    congr 1
                    funext z
                    simp
                · have HN := hid (HNO.out hn)
                  clear hn
                  go_wp2
                  refine bodyPost_ret (v := .tuple #[zeroU, .bool false]) (by simp [results, Tryd.results47, go_sem, q0, q1, q2]; rfl) rfl ⟨?_, ?_⟩
                  · exact ((HUR.out.setCell (Nat.le_refl _) _).setCell (Nat.le_refl _) _).setCell (Nat.le_refl _) _
                  · rw [HN.out]; rfl
              · have hk' : k = cs.length := by omega
                have hkm : k = m := by rw [hk']; exact HM.out
                have HN : Hid (Ln.user s.data.toList = some (a, r, ds)) := hid (by rw [HUS2.out, HD.out, hk', List.drop_length]; simp [Ln.docs])
                have hdl : ds.length = k := HDS.out
                have HDL := hid hdl
                obtain ⟨Av, cv, rfl, _, _⟩ := own_slice HO.out
                have hkm2 : ¬ k < m := by omega
                clear hlt hk' hdl hkm hS4
                go_wp2
                refine bodyPost_ret (v := .tuple #[.agg #[.string a, .int .i64 r, .slice Av k cv], .bool true]) (by simp [results, Tryd.results47, go_sem, q0, q1, q2, b0, b1, b2]) rfl ⟨?_, ?_⟩
                · exact ((HUR.out.setCell (Nat.le_refl _) _).setCell (Nat.le_refl _) _).setCell (Nat.le_refl _) _
                · rw [HN.out]
                  refine ⟨_, rfl, ?_⟩
                  rw [HDL.out]
                  exact own_low (ownsRow_setCell_below (ownsRow_setCell_below (ownsRow_setCell_below HO.out (by show w.heap.size < _; omega) _) (by show w.heap.size < _; omega) _) (by show w.heap.size < _; omega) _) (by omega)
end Go.Proofs.YthgmlkeojhfijaaDoor
