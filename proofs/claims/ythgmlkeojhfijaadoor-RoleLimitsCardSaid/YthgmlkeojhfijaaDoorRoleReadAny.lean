/- The contract of role's read: the user of any line. Conditions: the line is shorter than the library's search bears, and the library's variables lie in memory. -/
import Derived.Test.YthgmlkeojhfijaaDoorRoleLine
import Derived.Deep.Cut
namespace Go.Proofs.YthgmlkeojhfijaaDoor
open Go.RowKit

def zeroU : Value := .agg #[.string ⟨#[]⟩, .int .i64 0, .slice none 0 0]
/-- What read returns, by the user of the line. -/
def ReadAs (o : Option UserD) (base : Nat) (e : Ending) (w' : World) : Prop :=
  match o with
  | none => e = .returned (.tuple #[zeroU, .bool false])
  | some u => ∃ v, e = .returned (.tuple #[.agg #[.string u.1, .int .i64 u.2.1, v], .bool true]) ∧ w'.ownsRow base 3 1 v u.2.2.length (u.2.2.map (Value.int .i64))
def ReadEnd (s : ByteArray) (w : World) (e : Ending) (w' : World) : Prop := Und w w' ∧ ReadAs (Ln.user s.data.toList) w.heap.size e w'
def CutI (w1 : World) (r : Int) (s : Value) (wx : World) : Prop := s = .int .i64 (r - 1) ∧ Und w1 wx

def RdRel (w1 : World) (B U R : Nat) (nm : ByteArray) (r : Int) (cs : List ByteArray) (s40 : Value) (wr : World) : Prop :=
  ∃ (k : Nat) (ds : List Int) (v : Value), s40 = .int .i64 k ∧ k ≤ cs.length ∧ ds.length = k ∧ Ln.docs (cs.map (·.data.toList)) = (Ln.docs ((cs.drop k).map (·.data.toList))).map (ds ++ ·) ∧
    BoxU wr U nm r v ∧ wr.ownsRow (U + 1) 3 1 v k (ds.map (Value.int .i64)) ∧ w1.grownBy wr (some U)

set_option maxRecDepth 20000 in
set_option maxHeartbeats 6400000 in
theorem read_any (s : ByteArray) (w : World) (hs : s.size < 4294967281) (hL : LibAt w) : Calls Tryd.prog 41 #[.string s] w (ReadEnd s w) := by
  have HL := hid hL
  clear hL
  obtain ⟨ii, hi, hz0, hz1, hz2⟩ := info_parts info_int
  have hR := ResBox.made w
  go_enter Tryd.func41, Tryd.ntmps41
  go_wp2_with fail
  refine (split_any s _ hs (HL.out.und (by repeat (first | exact Und.refl _ | assumption | refine Und.under ?_ _ | refine Und.alloc ?_ _ | refine Und.drew ?_ | refine Und.drewN ?_ _)))).mono ?_
  rintro e w1 ⟨ws, B, n, rfl, hws, hn, hB, hns, hS, hu⟩
  have hR1 := hR.und hu
  have HU1 := hid (((by repeat (first | exact Und.refl _ | assumption | refine Und.under ?_ _ | refine Und.alloc ?_ _ | refine Und.drew ?_ | refine Und.drewN ?_ _)) : Und w _).trans hu)
  have hBR : w.heap.size < B := Nat.lt_of_lt_of_le (by simp) hB
  have hRl : w.heap.size < w1.heap.size := World.block_lt_of_cell? _ _ hR1.1
  haveI : LtW w.heap.size w1 := LtW.of hRl
  have HR1 := hid hR1
  have HW := hid hws
  clear hR hR1 hu hws hB
  obtain ⟨q0, q1, q2, q3, q4, q5⟩ := HR1.out
  match ws, hn with
  | [], hn => exact absurd HW.out.symm (Ln.words_ne _)
  | [a], hn =>
    subst hn
    have HN : Hid (Ln.user s.data.toList = none) := hid (by unfold Ln.user; rw [← HW.out]; rfl)
    clear hS
    go_wp2
    refine bodyPost_ret (v := .tuple #[zeroU, .bool false]) (by simp [results, Tryd.results41, go_sem, q0, q1, q2]; rfl) rfl ⟨?_, ?_⟩
    · exact ((HU1.out.setCell (Nat.le_refl _) _).setCell (Nat.le_refl _) _).setCell (Nat.le_refl _) _
    · rw [HN.out]; rfl
  | a :: b :: cs, hn =>
    obtain ⟨m, rfl⟩ : ∃ m, n = m + 2 := ⟨cs.length, by rw [← hn]; rfl⟩
    have hm : cs.length = m := by simpa using hn
    have c0 : w1.cell? ⟨B, 0, none⟩ = some (.string a) := by simpa using hS 0 a rfl
    have c1 : w1.cell? ⟨B, 1, none⟩ = some (.string b) := by simpa using hS 1 b rfl
    have hSc : StrsAt w1 B 2 cs := fun j x hx => by have := hS (j + 2) x (by simpa using hx); rw [show 0 + (j + 2) = 2 + j by omega] at this; exact this
    have HSc := hid hSc
    have HM := hid hm
    have hBl : B < w1.heap.size := World.block_lt_of_cell? _ _ c0
    haveI : LtW B w1 := LtW.of hBl
    have hm63 : m ≤ 4294967285 := by omega
    clear hS hn hSc hm
    have hus : Ln.user s.data.toList = if a.data.toList = [] then none else if Ln.role b.data.toList = 0 then none else (Ln.docs (cs.map (·.data.toList))).map fun z => (⟨a.data.toList.toArray⟩, Ln.role b.data.toList, z) := by
      unfold Ln.user; rw [← HW.out]; rfl
    by_cases ha : a.toList.isEmpty = true
    · have HN : Hid (Ln.user s.data.toList = none) := hid (by rw [hus, if_pos (by rw [Lib.toList_data] at ha; exact List.isEmpty_iff.1 ha)])
      clear hus
      go_wp2
      refine bodyPost_ret (v := .tuple #[zeroU, .bool false]) (by simp [results, Tryd.results41, go_sem, q0, q1, q2]; rfl) rfl ⟨?_, ?_⟩
      · exact ((HU1.out.setCell (Nat.le_refl _) _).setCell (Nat.le_refl _) _).setCell (Nat.le_refl _) _
      · rw [HN.out]; rfl
    · have ha' : a.toList.isEmpty = false := by simpa using ha
      have hane : ¬ a.data.toList = [] := by intro h; rw [Lib.toList_data, h] at ha'; cases ha'
      rw [if_neg hane] at hus
      have hir := fun W B2 h0 h1 h2 h3 => index_role b B2 W h0 h1 h2 h3
      have hrr : Ln.role b.data.toList = 0 ∨ (1 ≤ Ln.role b.data.toList ∧ Ln.role b.data.toList ≤ 4) := by rcases role_of b with ⟨_, h⟩ | ⟨_, h⟩ | ⟨_, h⟩ | ⟨_, h⟩ | ⟨_, h⟩ <;> rw [h] <;> omega
      generalize Ln.role b.data.toList = r at hus hir hrr
      have hna : (⟨a.data.toList.toArray⟩ : ByteArray) = a := by simp
      rw [hna] at hus
      have HUS := hid hus
      have HIR := hid hir
      clear ha hane hna hus hir
      go_wp2_with fail
      go_cut [5] from 23 (fun s5 wx => CutI w1 r s5 wx)
      case first =>
        go_region_with (first | (go_at_call 37; refine (roles_any _).mono ?_; rintro e w' ⟨rfl, rfl⟩) | (go_at_call 54; refine (HIR.out _ _ ?_ ?_ ?_ ?_).mono ?_; (· go_simp; done); (· go_simp; done); (· go_simp; done); (· go_simp; done); rintro e w' ⟨rfl, rfl⟩))
        all_goals
          go_wp2_with fail
          go_meet
          exact ⟨rfl, (by repeat (first | exact Und.refl _ | assumption | refine Und.under ?_ _ | refine Und.alloc ?_ _ | refine Und.drew ?_ | refine Und.drewN ?_ _))⟩
      case rest =>
        obtain ⟨rfl, hu⟩ := hcut
        have HU2 := hid hu
        have HUW := hid (HU1.out.trans hu)
        have HR2 := hid (HR1.out.und hu)
        have HS2 := hid (HSc.out.und hu)
        have c0' := (hu.cell (p := ⟨B, 0, none⟩) hBl).trans c0
        have hBl2 : B < wc.heap.size := World.block_lt_of_cell? _ _ c0'
        haveI : LtW B wc := LtW.of hBl2
        haveI : LtW w.heap.size wc := LtW.of (by omega)
        clear hu c0 c1 q0 q1 q2 q3 q4 q5 HR1 HSc
        obtain ⟨q0, q1, q2, q3, q4, q5⟩ := HR2.out
        rcases hrr with rfl | ⟨r1, r4⟩
        · have HN : Hid (Ln.user s.data.toList = none) := hid (by rw [HUS.out, if_pos rfl])
          go_wp2
          refine bodyPost_ret (v := .tuple #[zeroU, .bool false]) (by simp [results, Tryd.results41, go_sem, q0, q1, q2]; rfl) rfl ⟨?_, ?_⟩
          · exact ((HUW.out.setCell (Nat.le_refl _) _).setCell (Nat.le_refl _) _).setCell (Nat.le_refl _) _
          · rw [HN.out]; rfl
        · have hr0 : ¬ r = 0 := by omega
          have HUS2 : Hid (Ln.user s.data.toList = (Ln.docs (cs.map (·.data.toList))).map fun z => (a, r, z)) := hid (by rw [HUS.out, if_neg hr0])
          clear HUS HIR hr0
          have hmm : m = 0 ∨ 0 < m := by omega
          have hxs : ∀ k (h : k < cs.length), cs[k].size ≤ s.size := by
            intro k h
            have h1 := Ln.words_le s.data.toList cs[k].data.toList (by rw [← HW.out]; simp only [List.map_cons]; exact List.mem_cons_of_mem _ (List.mem_cons_of_mem _ (List.mem_map_of_mem (List.getElem_mem h))))
            simpa using h1
          have HXS := hid hxs
          clear hxs
          rcases hmm with rfl | hm1
          · have hcs : cs = [] := List.eq_nil_of_length_eq_zero HM.out
            subst hcs
            have HN : Hid (Ln.user s.data.toList = some (a, r, [])) := hid (by rw [HUS2.out]; rfl)
            go_wp2
            have hB3 : BoxU (wc.alloc (.cells #[.string a, .int .i64 (1 + (r - 1)), .slice none 0 0] 40)) wc.heap.size a (1 + (r - 1)) (.slice none 0 0) := ⟨by go_simp, by go_simp, by go_simp, by go_simp⟩
            have hR3 := HR2.out.und ((Und.refl wc).alloc (.cells #[.string a, .int .i64 (1 + (r - 1)), .slice none 0 0] 40))
            have hS3 := HS2.out.und ((Und.refl wc).alloc (.cells #[.string a, .int .i64 (1 + (r - 1)), .slice none 0 0] 40))
            have hUW3 := HUW.out.alloc (.cells #[.string a, .int .i64 (1 + (r - 1)), .slice none 0 0] 40)
            have hRU : w.heap.size < wc.heap.size := by omega
            generalize wc.alloc (.cells #[.string a, .int .i64 (1 + (r - 1)), .slice none 0 0] 40) = w3 at hB3 hR3 hS3 hUW3 ⊢
            generalize wc.heap.size = U at hB3 hBl2 hRU ⊢
            have HB3 := hid hB3
            have HR3 := hid hR3
            have HS3 := hid hS3
            have HUW3 := hid hUW3
            clear hB3 hR3 hS3 hUW3 q0 q1 q2 q3 q4 q5 c0'
            obtain ⟨b0, b1, b2, b3⟩ := HB3.out
            obtain ⟨q0, q1, q2, q3, q4, q5⟩ := HR3.out
            have hrl : w.heap.size < w3.heap.size := World.block_lt_of_cell? _ _ q0
            haveI : LtW w.heap.size w3 := LtW.of hrl
            have hox : w3.ownsRow (U + 1) 3 1 (.slice none 0 0) 0 [] := World.ownsRow_nil _ _ _ _
            have HOX := hid hox
            clear hox
            refine wp_loop_rounds 1 ?_
            rw [rounds_succ]
            go_wp2
            refine bodyPost_ret (v := .tuple #[.agg #[.string a, .int .i64 (1 + (r - 1)), .slice none 0 0], .bool true]) (by simp [results, Tryd.results41, go_sem, q0, q1, q2, b0, b1, b2]) rfl ⟨?_, ?_⟩
            · exact ((HUW3.out.setCell (Nat.le_refl _) _).setCell (Nat.le_refl _) _).setCell (Nat.le_refl _) _
            · rw [HN.out]
              refine ⟨_, by rw [show 1 + (r - 1) = r by omega], ?_⟩
              exact own_low (ownsRow_setCell_below (ownsRow_setCell_below (ownsRow_setCell_below HOX.out (by show w.heap.size < _; omega) _) (by show w.heap.size < _; omega) _) (by show w.heap.size < _; omega) _) (by omega)
          · go_wp2
            have hB3 : BoxU (wc.alloc (.cells #[.string a, .int .i64 (1 + (r - 1)), .slice none 0 0] 40)) wc.heap.size a (1 + (r - 1)) (.slice none 0 0) := ⟨by go_simp, by go_simp, by go_simp, by go_simp⟩
            have hR3 := HR2.out.und ((Und.refl wc).alloc (.cells #[.string a, .int .i64 (1 + (r - 1)), .slice none 0 0] 40))
            have hS3 := HS2.out.und ((Und.refl wc).alloc (.cells #[.string a, .int .i64 (1 + (r - 1)), .slice none 0 0] 40))
            have hUW3 := HUW.out.alloc (.cells #[.string a, .int .i64 (1 + (r - 1)), .slice none 0 0] 40)
            have hRU : w.heap.size < wc.heap.size := by omega
            have hw3 : (wc.alloc (.cells #[.string a, .int .i64 (1 + (r - 1)), .slice none 0 0] 40)).heap.size ≤ wc.heap.size + 1 := by simp
            generalize wc.alloc (.cells #[.string a, .int .i64 (1 + (r - 1)), .slice none 0 0] 40) = w3 at hB3 hR3 hS3 hUW3 hw3 ⊢
            generalize wc.heap.size = U at hB3 hBl2 hRU hw3 ⊢
            have HB3 := hid hB3
            have HR3 := hid hR3
            have HS3 := hid hS3
            have HUW3 := hid hUW3
            clear hB3 hR3 hS3 hUW3 q0 q1 q2 q3 q4 q5 c0'
            go_loopw [40] (fun s40 wr => RdRel w3 B U w.heap.size a (1 + (r - 1)) cs s40 wr) (fun s40 _ => cs.length + 1 - (intOf s40).toNat)
            case atStart => exact ⟨0, [], _, rfl, by omega, rfl, by simp, HB3.out, World.ownsRow_nil _ _ _ _, gb_refl _ _⟩
            case round =>
              obtain ⟨k, ds, v, rfl, hk, hds, hdocs, hBx, hown, hgb⟩ := hrel
              have hUR := HUW3.out.of_gb hgb (fun g e => by cases e; omega)
              have hR4 := HR3.out.gb hgb (by simp; omega)
              have hS4 := HS3.out.gb hgb (by simp; omega)
              have HUR := hid hUR
              have HR4 := hid hR4
              have HS4 := hid hS4
              have HD := hid hdocs
              have HDS := hid hds
              have HO := hid hown
              have HGB := hid hgb
              have HBX := hid hBx
              obtain ⟨b0, b1, b2, b3⟩ := hBx
              obtain ⟨q0, q1, q2, q3, q4, q5⟩ := hR4
              have hS4' := hS4
              clear hUR hS4 hdocs hds hown hgb
              have hcl : cs.length ≤ 4294967285 := by have := HM.out; omega
              by_cases hlt : k < cs.length
              · have hlt' : k < m := HM.out ▸ hlt
                have hxc : wr.cell? ⟨B, 2 + k, none⟩ = some (.string cs[k]) := hS4' k _ (List.getElem?_eq_getElem hlt)
                have hxs := HXS.out k hlt
                have hdrop : (cs.drop k).map (·.data.toList) = cs[k].data.toList :: (cs.drop (k + 1)).map (·.data.toList) := by rw [List.drop_eq_getElem_cons hlt, List.map_cons]
                generalize cs[k] = x at hxc hxs hdrop
                have hat := fun W h => atoi_any x W (by omega) h
                have hlx : x.data.toList.length = x.size := by simp
                have hno : Ln.num x.data.toList = none → Ln.user s.data.toList = none := fun h => by
                  rw [HUS2.out, HD.out, hdrop, Ln.docs_none _ _ h]; rfl
                have HNO := hid hno
                have HDR := hid hdrop
                have HLX := hid hlx
                have HAT := hid hat
                have hrl : w.heap.size < wr.heap.size := World.block_lt_of_cell? _ _ q0
                haveI : LtW w.heap.size wr := LtW.of hrl
                clear hno hdrop hlx hat hxs
                go_wp2_with fail
                refine (HAT.out _ (HL.out.und HUR.out)).mono ?_
                rintro e w5 ⟨v5, ev, rfl, hu5, hev⟩
                have HEV := hid hev
                have HUF := hid (HUR.out.trans hu5)
                have HR5 := hid (HR4.out.und hu5)
                have HB5 := hid (HBX.out.gb (hu5.gb none) (by simp))
                have HO5 := hid (owns_und HO.out hu5)
                have HGB5 := hid (gb_und HGB.out hu5)
                clear hev hu5 b0 b1 b2 b3 q0 q1 q2 q3 q4 q5 HR4 HBX HO HGB hxc
                obtain ⟨b0, b1, b2, b3⟩ := HB5.out
                obtain ⟨q0, q1, q2, q3, q4, q5⟩ := HR5.out
                have hrl5 : w.heap.size < w5.heap.size := World.block_lt_of_cell? _ _ q0
                haveI : LtW w.heap.size w5 := LtW.of hrl5
                rcases HEV.out with ⟨ho, rfl⟩ | ⟨hne, nn, rfl⟩
                · by_cases h2 : x.size ≤ 2
                  · rcases Ln.atoi_num x.data.toList (by have := HLX.out; omega) with ⟨n, hn, h100, ho2, hdg⟩ | ⟨hnone, hsy | ⟨v6, hv6, hvv⟩⟩
                    · have hv5 : v5 = n := by rw [ho2] at ho; cases ho; rfl
                      subst hv5
                      have hxs : (⟨(Lib.itoa (n : Int)).toArray⟩ : ByteArray) = x := bytes_ext _ _ (by unfold Lib.itoa; rw [if_neg (by omega)]; simpa using hdg)
                      have hit := fun W h => itoa_all (n : Int) W (by omega) (by omega) h
                      rw [hxs] at hit
                      have HIT := hid hit
                      have HNUM := hid hn
                      have HX2 := hid h2
                      have h2' : ¬ 2 < (x.size : Int) := by omega
                      have hxx : (x.toList == x.toList) = true := beq_self_eq_true _
                      clear ho hn ho2 hdg hxs hit h2
                      go_wp2_with fail
                      refine (HIT.out _ (HL.out.und HUF.out).tab).mono ?_
                      rintro e w6 ⟨rfl, hu6⟩
                      have HU6 := hid (HUF.out.trans hu6)
                      have HB6 := hid (HB5.out.gb (hu6.gb none) (by simp))
                      have HO6 := hid (owns_und HO5.out hu6)
                      have HGB6 := hid (gb_und HGB5.out hu6)
                      clear hu6 b0 b1 b2 b3 q0 q1 q2 q3 q4 q5
                      obtain ⟨b0, b1, b2, b3⟩ := HB6.out
                      have hUl : U < w6.heap.size := World.block_lt_of_cell? _ _ b0
                      have hkk : k ≤ 4294967285 := by omega
                      go_wp2_with (at_builtin; refine wpList_append_own _ rfl _ _ 23 rfl (U + 1) 3 ii (.int .i64 0) 1 8 Tryd.underlying23 hi hz0 hz1 hz2 rfl (by decide) v k _ rfl (HO6.out.alloc _) _ 1 1 [.int .i64 n] rfl rfl ?_ (by simp; rfl) (by unfold maxLen; omega) (by omega) ?_ ?_)
                      · exact side1i _ _
                      · simp; omega
                      · intro v1 w7 hown7 hgrow7 hnil7
                        obtain ⟨A7, c7, rfl, _, _⟩ := own_slice hown7
                        have hB7 : BoxU w7 U a (1 + (r - 1)) v := (HB6.out.gb (World.grownBy_alloc _ _ none) (by simp)).gb hgrow7 (row_ne HO6.out (by omega))
                        have hgb7 : w3.grownBy w7 (some U) := gb_trans (gb_und HGB6.out ((Und.refl _).alloc _)) hgrow7 (fun g hg => Or.inr (by have := owns_block HO6.out g hg; have := HGB6.out.size; omega))
                        have HB7 := hid hB7
                        have HGB7 := hid (gb_setCell hgb7 ⟨U, 2, none⟩ (.slice A7 (k + 1) c7) (Or.inl rfl))
                        have HO7 := hid (ownsRow_setCell_below hown7 (a := ⟨U, 2, none⟩) (by show U < U + 1; omega) (.slice A7 (k + 1) c7))
                        clear b0 b1 b2 b3
                        obtain ⟨b0, b1, b2, b3⟩ := HB7.out
                        clear hB7 hgb7 hown7 hgrow7 hnil7
                        go_wp2
                        refine ⟨⟨k + 1, ds ++ [(n : Int)], .slice A7 (k + 1) c7, rfl, by omega, by have := HDS.out; simp; omega, ?_, HB7.out.set _, by simpa using HO7.out, HGB7.out⟩, by simp [intOf]; omega⟩
                        rw [HD.out, HDR.out, Ln.docs_some _ _ n HNUM.out, Option.map_map]
                        congr 1
                        funext z
                        simp
                    · exact absurd (hsy.symm.trans ho) (Ln.badI_ne _)
                    · have hv5 : v6 = v5 := by rw [hv6] at ho; cases ho; rfl
                      subst hv5
                      have HN := hid (HNO.out hnone)
                      have h2' : ¬ 2 < (x.size : Int) := by omega
                      have HX2 := hid h2
                      rcases hvv with ⟨v0, v9⟩ | ⟨n, rfl, n100, hdg⟩
                      · have hit := fun W h => itoa_all v6 W (by omega) (by omega) h
                        generalize (⟨(Lib.itoa v6).toArray⟩ : ByteArray) = y at hit
                        have HIT := hid hit
                        clear ho hit hv6 hnone h2
                        cases hxx : (y.toList == x.toList)
                        all_goals
                          go_wp2_with fail
                          refine (HIT.out _ (HL.out.und HUF.out).tab).mono ?_
                          rintro e w6 ⟨rfl, hu6⟩
                          have HU6 := hid (HUF.out.trans hu6)
                          have HR6 := hid (HR5.out.und hu6)
                          clear hu6 b0 b1 b2 b3 q0 q1 q2 q3 q4 q5
                          obtain ⟨q0, q1, q2, q3, q4, q5⟩ := HR6.out
                          haveI : LtW w.heap.size w6 := LtW.of (World.block_lt_of_cell? _ _ q0)
                          go_wp2
                          refine bodyPost_ret (v := .tuple #[zeroU, .bool false]) (by simp [results, Tryd.results41, go_sem, q0, q1, q2]; rfl) rfl ⟨?_, ?_⟩
                          · exact ((HU6.out.setCell (Nat.le_refl _) _).setCell (Nat.le_refl _) _).setCell (Nat.le_refl _) _
                          · rw [HN.out]; rfl
                      · have hxy : (⟨(Lib.itoa (n : Int)).toArray⟩ : ByteArray).data.toList ≠ x.data.toList := by unfold Lib.itoa; rw [if_neg (by omega)]; simpa using hdg
                        have hit := fun W h => itoa_all (n : Int) W (by omega) (by omega) h
                        generalize (⟨(Lib.itoa (n : Int)).toArray⟩ : ByteArray) = y at hit hxy
                        have hxx : (y.toList == x.toList) = false := by rw [Lib.toList_data, Lib.toList_data]; exact beq_eq_false_iff_ne.2 hxy
                        have HIT := hid hit
                        clear ho hit hv6 hnone h2 hxy hdg
                        go_wp2_with fail
                        refine (HIT.out _ (HL.out.und HUF.out).tab).mono ?_
                        rintro e w6 ⟨rfl, hu6⟩
                        have HU6 := hid (HUF.out.trans hu6)
                        have HR6 := hid (HR5.out.und hu6)
                        clear hu6 b0 b1 b2 b3 q0 q1 q2 q3 q4 q5
                        obtain ⟨q0, q1, q2, q3, q4, q5⟩ := HR6.out
                        haveI : LtW w.heap.size w6 := LtW.of (World.block_lt_of_cell? _ _ q0)
                        go_wp2
                        refine bodyPost_ret (v := .tuple #[zeroU, .bool false]) (by simp [results, Tryd.results41, go_sem, q0, q1, q2]; rfl) rfl ⟨?_, ?_⟩
                        · exact ((HU6.out.setCell (Nat.le_refl _) _).setCell (Nat.le_refl _) _).setCell (Nat.le_refl _) _
                        · rw [HN.out]; rfl
                  · have HN := hid (HNO.out (Ln.num_long _ (by have := HLX.out; omega)))
                    have h2' : 2 < (x.size : Int) := by omega
                    clear ho h2
                    go_wp2
                    refine bodyPost_ret (v := .tuple #[zeroU, .bool false]) (by simp [results, Tryd.results41, go_sem, q0, q1, q2]; rfl) rfl ⟨?_, ?_⟩
                    · exact ((HUF.out.setCell (Nat.le_refl _) _).setCell (Nat.le_refl _) _).setCell (Nat.le_refl _) _
                    · rw [HN.out]; rfl
                · have hnum : Ln.num x.data.toList = none := by
                    by_cases h2 : x.size ≤ 2
                    · rcases Ln.atoi_num x.data.toList (by have := HLX.out; omega) with ⟨n, _, _, ho2, _⟩ | ⟨hnone, _⟩
                      · exact absurd ho2 (hne _)
                      · exact hnone
                    · exact Ln.num_long _ (by have := HLX.out; omega)
                  have HN := hid (HNO.out hnum)
                  clear hne hnum
                  go_wp2
                  refine bodyPost_ret (v := .tuple #[zeroU, .bool false]) (by simp [results, Tryd.results41, go_sem, q0, q1, q2]; rfl) rfl ⟨?_, ?_⟩
                  · exact ((HUF.out.setCell (Nat.le_refl _) _).setCell (Nat.le_refl _) _).setCell (Nat.le_refl _) _
                  · rw [HN.out]; rfl
              · have hk' : k = cs.length := by omega
                have hkm : k = m := by rw [hk']; exact HM.out
                have HN : Hid (Ln.user s.data.toList = some (a, r, ds)) := hid (by rw [HUS2.out, HD.out, hk', List.drop_length]; simp [Ln.docs])
                have hdl : ds.length = k := HDS.out
                have HDL := hid hdl
                have HK := hid hk'
                obtain ⟨Av, cv, rfl, _, _⟩ := own_slice HO.out
                have hrl : w.heap.size < wr.heap.size := World.block_lt_of_cell? _ _ q0
                haveI : LtW w.heap.size wr := LtW.of hrl
                have hkm2 : ¬ k < m := by omega
                clear hlt hk' hdl hkm
                go_wp2
                refine bodyPost_ret (v := .tuple #[.agg #[.string a, .int .i64 (1 + (r - 1)), .slice Av k cv], .bool true]) (by simp [results, Tryd.results41, go_sem, q0, q1, q2, b0, b1, b2]) rfl ⟨?_, ?_⟩
                · exact ((HUR.out.setCell (Nat.le_refl _) _).setCell (Nat.le_refl _) _).setCell (Nat.le_refl _) _
                · rw [HN.out]
                  refine ⟨_, by rw [show 1 + (r - 1) = r by omega], ?_⟩
                  rw [HDL.out]
                  exact own_low (ownsRow_setCell_below (ownsRow_setCell_below (ownsRow_setCell_below HO.out (by show w.heap.size < _; omega) _) (by show w.heap.size < _; omega) _) (by show w.heap.size < _; omega) _) (by omega)
end Go.Proofs.YthgmlkeojhfijaaDoor
