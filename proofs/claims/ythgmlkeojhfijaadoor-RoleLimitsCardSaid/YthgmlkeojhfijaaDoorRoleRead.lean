/- The contracts of role's read at the two lines of the laws' example. -/
import Derived.Test.YthgmlkeojhfijaaDoorRoleUser
import Derived.Test.YthgmlkeojhfijaaDoorSteps
import Derived.Test.YthgmlkeojhfijaaDoorShelf
import Derived.KernelRfl
namespace Go.Proofs.YthgmlkeojhfijaaDoor
open Go.RowKit

def sLine1 : ByteArray := ⟨#[97, 110, 110, 32, 114, 101, 118, 105, 101, 119, 101, 114, 32, 48, 32, 50]⟩
def sLine2 : ByteArray := ⟨#[98, 111, 98, 32, 114, 101, 97, 100, 101, 114]⟩
def sD0 : ByteArray := ⟨#[48]⟩
def sD2 : ByteArray := ⟨#[50]⟩
def sBlank : ByteArray := ⟨#[32]⟩

theorem split_ann (m : Int) (w : World) (hm : w.cell? ⟨0, 0, none⟩ = some (.int .i64 m)) :
    Calls Tryd.prog 53 #[.string sLine1, .string sBlank] w fun e w' => e = .returned (.slice (some ⟨w.heap.size, 0, none⟩) 4 4) ∧ w' = w.alloc (.cells #[.string sAnn, .string sReviewer, .string sD0, .string sD2] 9) := by
  have h := Tryd.strings_Split sLine1 sBlank m w (by decide) hm (by decide)
  rw [show Lib.countB sLine1 sBlank = 3 by kernel_rfl, show Lib.splitB sBlank 0 3 sLine1 = [sAnn, sReviewer, sD0, sD2] by kernel_rfl] at h
  exact h
theorem split_bob (m : Int) (w : World) (hm : w.cell? ⟨0, 0, none⟩ = some (.int .i64 m)) :
    Calls Tryd.prog 53 #[.string sLine2, .string sBlank] w fun e w' => e = .returned (.slice (some ⟨w.heap.size, 0, none⟩) 2 2) ∧ w' = w.alloc (.cells #[.string sBob, .string sReader] 9) := by
  have h := Tryd.strings_Split sLine2 sBlank m w (by decide) hm (by decide)
  rw [show Lib.countB sLine2 sBlank = 1 by kernel_rfl, show Lib.splitB sBlank 0 1 sLine2 = [sBob, sReader] by kernel_rfl] at h
  exact h
theorem itoa0 (w : World) : Calls Tryd.prog 38 #[.int .i64 0] w fun e w' => e = .returned (.string sD0) ∧ w = w' := by
  refine (Tryd.strconv_Itoa_small 0 (by decide) w).mono ?_
  rintro e w' ⟨rfl, rfl⟩
  exact ⟨by rw [show (⟨(Lib.decDigits 0).toArray⟩ : ByteArray) = sD0 by kernel_rfl], rfl⟩
theorem itoa2 (w : World) : Calls Tryd.prog 38 #[.int .i64 2] w fun e w' => e = .returned (.string sD2) ∧ w = w' := by
  refine (Tryd.strconv_Itoa_small 2 (by decide) w).mono ?_
  rintro e w' ⟨rfl, rfl⟩
  exact ⟨by rw [show (⟨(Lib.decDigits 2).toArray⟩ : ByteArray) = sD2 by kernel_rfl], rfl⟩

theorem empty_list : (⟨#[]⟩ : ByteArray).toList = [] := by rw [Lib.toList_data]

set_option maxHeartbeats 3200000 in
theorem read_bob (m : Int) (w : World) (hm : w.cell? ⟨0, 0, none⟩ = some (.int .i64 m)) :
    Calls Tryd.prog 41 #[.string sLine2] w fun e w' => e = .returned (.tuple #[.agg #[.string sBob, .int .i64 1, .slice none 0 0], .bool true]) ∧ Und w w' := by
  have e1 : sBob.toList.isEmpty = false := by rw [Lib.toList_data]; rfl
  have hb := World.block_lt_of_cell? _ _ hm
  haveI : LtW 0 w := LtW.of hb
  go_enter Tryd.func41, Tryd.ntmps41
  go_wp2_with (first | (go_at_call 53; refine (split_bob m _ (by rw [World.cell?_alloc_past _ _ _ hb]; exact hm)).mono ?_; rintro e w' ⟨rfl, rfl⟩))
  go_region_with (first | (go_at_call 37; refine (roles_any _).mono ?_; rintro e w' ⟨rfl, rfl⟩) | (go_at_call 54; refine (index_reader _ _ ?_).mono ?_; (· go_simp; done); rintro e w' ⟨rfl, rfl⟩))
  all_goals go_wp2
  all_goals refine wp_loop_rounds 1 ?_
  all_goals rw [rounds_succ]
  all_goals go_wp2
  all_goals exact bodyPost_ret (v := .tuple #[.agg #[.string sBob, .int .i64 1, .slice none 0 0], .bool true]) (by simp [results, Tryd.results41, go_sem]) rfl ⟨rfl, (by repeat (first | exact Und.refl _ | assumption | refine Und.under ?_ _ | refine Und.alloc ?_ _ | refine Und.drew ?_ | refine Und.drewN ?_ _))⟩

theorem side1i (w2 : World) (x : Value) : ∀ j u, [x][j]? = some u → (w2.alloc (.cells #[x] 3)).cell? ((⟨w2.heap.size, 0, none⟩ : Addr).add j) = some u := by
  intro j u hj
  match j, hj with
  | 0, hj => simp at hj; subst hj; simp [Addr.add]
  | j + 1, hj => simp at hj
theorem own_form {w : World} {base e size n : Nat} {v : Value} {xs : List Value} (h : w.ownsRow base e size v n xs) (hn : 0 < n) : ∃ g cap, v = .slice (some ⟨g, 0, none⟩) n cap ∧ base ≤ g := by
  rcases h.2 with ⟨_, h0⟩ | ⟨g, cap, cur, hv, hb, _⟩
  · omega
  · exact ⟨g, cap, hv, hb⟩
theorem own_mono {w : World} {base base' e size n : Nat} {v : Value} {xs : List Value} (h : w.ownsRow base e size v n xs) (hb : base' ≤ base) : w.ownsRow base' e size v n xs :=
  ⟨h.1, h.2.imp id fun ⟨g, cap, cur, h1, h2, h3⟩ => ⟨g, cap, cur, h1, Nat.le_trans hb h2, h3⟩⟩
theorem info_int : (Tryd.prog.info? 3).map (fun i => (i.zero, i.size, i.bytes)) = some (some (.int .i64 0), 1, 8) := by kernel_rfl

set_option maxRecDepth 20000 in
set_option maxHeartbeats 3200000 in
theorem read_ann (m : Int) (w : World) (hm : w.cell? ⟨0, 0, none⟩ = some (.int .i64 m)) :
    Calls Tryd.prog 41 #[.string sLine1] w fun e w' => ∃ v, e = .returned (.tuple #[.agg #[.string sAnn, .int .i64 3, v], .bool true]) ∧ w'.ownsRow w.heap.size 3 1 v 2 [.int .i64 0, .int .i64 2] ∧ Und w w' := by
  have e1 : sAnn.toList.isEmpty = false := by rw [Lib.toList_data]; rfl
  have e2 : sD0.size = 1 := rfl
  have e3 : sD2.size = 1 := rfl
  have e4 : (sD0.toList == sD0.toList) = true := beq_self_eq_true _
  have e5 : (sD2.toList == sD2.toList) = true := beq_self_eq_true _
  have hb := World.block_lt_of_cell? _ _ hm
  haveI : LtW 0 w := LtW.of hb
  obtain ⟨i0, hi, hz0, hz1, hz2⟩ := info_parts info_int
  go_enter Tryd.func41, Tryd.ntmps41
  go_wp2_with (first | (go_at_call 53; refine (split_ann m _ (by rw [World.cell?_alloc_past _ _ _ hb]; exact hm)).mono ?_; rintro e w' ⟨rfl, rfl⟩))
  go_region_with (first | (go_at_call 37; refine (roles_any _).mono ?_; rintro e w' ⟨rfl, rfl⟩) | (go_at_call 54; refine (index_reviewer _ _ ?_ ?_ ?_).mono ?_; (· go_simp; done); (· go_simp; done); (· go_simp; done); rintro e w' ⟨rfl, rfl⟩))
  all_goals go_wp2
  all_goals
    refine wp_loop_rounds 3 ?_
    rw [rounds_succ]
    go_wp2_with (first | (go_at_call 55; refine (atoi1 48 _ (by decide) (by decide) : Calls Tryd.prog 55 #[.string sD0] _ fun e w' => e = .returned (.tuple #[.int .i64 0, .nilIface]) ∧ Und _ w').mono ?_; rintro e w' ⟨rfl, X, rfl⟩) | (go_at_call 38; refine (itoa0 _).mono ?_; rintro e w' ⟨rfl, rfl⟩) | (at_builtin; refine wpList_append_own _ rfl _ _ 23 rfl (w.heap.size + 4) 3 i0 (.int .i64 0) 1 8 Tryd.underlying23 hi hz0 hz1 hz2 rfl (by decide) _ 0 [] rfl (World.ownsRow_nil _ _ _ _) _ 1 1 [.int .i64 0] rfl rfl ?_ (by simp; rfl) (by unfold maxLen; omega) (by omega) ?_ ?_))
    · exact side1i _ _
    · refine Nat.le_trans ?_ (Nat.le_trans (size_under _ X) (by simp; exact Nat.le_succ _))
      simp
    · intro v1 w1 hown1 hgrow1 hnil1
      have hU1 : Und (((((w.alloc (.cells #[.string ⟨#[]⟩, .int .i64 0, .slice none 0 0] 40)).alloc (.cells #[.string sAnn, .string sReviewer, .string sD0, .string sD2] 9)).alloc (.cells #[.string sReader, .string sTranslator, .string sReviewer, .string sManager] 9)).alloc (.cells #[.string sAnn, .int .i64 3, .slice none 0 0] 40)).drew) w1 := Und.grown (by repeat (first | exact Und.refl _ | assumption | refine Und.under ?_ _ | refine Und.alloc ?_ _ | refine Und.drew ?_ | refine Und.drewN ?_ _)) hgrow1 (fun g h => by simp [Value.ownBlock] at h)
      obtain ⟨X1, rfl⟩ := hU1
      obtain ⟨g, cap, rfl, hg⟩ := own_form hown1 (by omega)
      have HO := hid hown1
      clear hown1 hgrow1 hnil1
      go_wp2
      have hown2 : (under (((((w.alloc (.cells #[.string ⟨#[]⟩, .int .i64 0, .slice none 0 0] 40)).alloc (.cells #[.string sAnn, .string sReviewer, .string sD0, .string sD2] 9)).alloc (.cells #[.string sReader, .string sTranslator, .string sReviewer, .string sManager] 9)).alloc (.cells #[.string sAnn, .int .i64 3, .slice (some ⟨g, 0, none⟩) 1 cap] 40)).drew) (stored (((((w.alloc (.cells #[.string ⟨#[]⟩, .int .i64 0, .slice none 0 0] 40)).alloc (.cells #[.string sAnn, .string sReviewer, .string sD0, .string sD2] 9)).alloc (.cells #[.string sReader, .string sTranslator, .string sReviewer, .string sManager] 9)).alloc (.cells #[.string sAnn, .int .i64 3, .slice none 0 0] 40)).drew) X1 ⟨w.heap.size + 1 + 1 + 1, 2, none⟩ (.slice (some ⟨g, 0, none⟩) 1 cap))).ownsRow (w.heap.size + 4) 3 1 (.slice (some ⟨g, 0, none⟩) 1 cap) 1 [.int .i64 0] := by
        have h := ownsRow_setCell_below HO.out (a := ⟨w.heap.size + 1 + 1 + 1, 2, none⟩) (by show w.heap.size + 1 + 1 + 1 < w.heap.size + 4; omega) (.slice (some ⟨g, 0, none⟩) 1 cap)
        rw [setCell_under'] at h
        have e : (((((w.alloc (.cells #[.string ⟨#[]⟩, .int .i64 0, .slice none 0 0] 40)).alloc (.cells #[.string sAnn, .string sReviewer, .string sD0, .string sD2] 9)).alloc (.cells #[.string sReader, .string sTranslator, .string sReviewer, .string sManager] 9)).alloc (.cells #[.string sAnn, .int .i64 3, .slice none 0 0] 40)).drew).setCell ⟨w.heap.size + 1 + 1 + 1, 2, none⟩ (.slice (some ⟨g, 0, none⟩) 1 cap) = ((((w.alloc (.cells #[.string ⟨#[]⟩, .int .i64 0, .slice none 0 0] 40)).alloc (.cells #[.string sAnn, .string sReviewer, .string sD0, .string sD2] 9)).alloc (.cells #[.string sReader, .string sTranslator, .string sReviewer, .string sManager] 9)).alloc (.cells #[.string sAnn, .int .i64 3, .slice (some ⟨g, 0, none⟩) 1 cap] 40)).drew := by go_simp
        rw [e] at h
        exact h
      have HO2 := hid hown2
      clear hown2 HO
      generalize stored _ X1 _ _ = S1 at HO2 ⊢
      rw [rounds_succ]
      go_wp2_with (first | (go_at_call 55; refine (atoi1 50 _ (by decide) (by decide) : Calls Tryd.prog 55 #[.string sD2] _ fun e w' => e = .returned (.tuple #[.int .i64 2, .nilIface]) ∧ Und _ w').mono ?_; rintro e w' ⟨rfl, u2⟩; have HO3 := hid (owns_und HO2.out u2); obtain ⟨X2, rfl⟩ := u2; rw [under_under] at HO3 ⊢; generalize twiceX _ _ _ = S2 at HO3 ⊢) | (go_at_call 38; refine (itoa2 _).mono ?_; rintro e w' ⟨rfl, rfl⟩) | (at_builtin; refine wpList_append_own _ rfl _ _ 23 rfl (w.heap.size + 4) 3 i0 (.int .i64 0) 1 8 Tryd.underlying23 hi hz0 hz1 hz2 rfl (by decide) _ 1 [.int .i64 0] rfl (HO3.out.alloc _) _ 1 1 [.int .i64 2] rfl rfl ?_ (by simp; rfl) (by unfold maxLen; omega) (by omega) ?_ ?_))
      · exact side1i _ _
      · refine Nat.le_trans ?_ (Nat.le_trans (size_under _ S2) (by simp; exact Nat.le_succ _))
        simp
      · intro v2 w3 hown3 hgrow3 hnil3
        have hU3 : Und (((((w.alloc (.cells #[.string ⟨#[]⟩, .int .i64 0, .slice none 0 0] 40)).alloc (.cells #[.string sAnn, .string sReviewer, .string sD0, .string sD2] 9)).alloc (.cells #[.string sReader, .string sTranslator, .string sReviewer, .string sManager] 9)).alloc (.cells #[.string sAnn, .int .i64 3, .slice (some ⟨g, 0, none⟩) 1 cap] 40)).drew) w3 := Und.grown (by repeat (first | exact Und.refl _ | assumption | refine Und.under ?_ _ | refine Und.alloc ?_ _ | refine Und.drew ?_ | refine Und.drewN ?_ _)) hgrow3 (fun g' h => by simp [Value.ownBlock] at h ⊢; omega)
        obtain ⟨X3, rfl⟩ := hU3
        obtain ⟨g2, cap2, rfl, hg2⟩ := own_form hown3 (by omega)
        have HO4 := hid hown3
        clear hown3 hgrow3 hnil3
        go_wp2
        have hown4 : (under (((((w.alloc (.cells #[.string ⟨#[]⟩, .int .i64 0, .slice none 0 0] 40)).alloc (.cells #[.string sAnn, .string sReviewer, .string sD0, .string sD2] 9)).alloc (.cells #[.string sReader, .string sTranslator, .string sReviewer, .string sManager] 9)).alloc (.cells #[.string sAnn, .int .i64 3, .slice (some ⟨g2, 0, none⟩) 2 cap2] 40)).drew) (stored (((((w.alloc (.cells #[.string ⟨#[]⟩, .int .i64 0, .slice none 0 0] 40)).alloc (.cells #[.string sAnn, .string sReviewer, .string sD0, .string sD2] 9)).alloc (.cells #[.string sReader, .string sTranslator, .string sReviewer, .string sManager] 9)).alloc (.cells #[.string sAnn, .int .i64 3, .slice (some ⟨g, 0, none⟩) 1 cap] 40)).drew) X3 ⟨w.heap.size + 1 + 1 + 1, 2, none⟩ (.slice (some ⟨g2, 0, none⟩) 2 cap2))).ownsRow (w.heap.size + 4) 3 1 (.slice (some ⟨g2, 0, none⟩) 2 cap2) 2 [.int .i64 0, .int .i64 2] := by
          have h := ownsRow_setCell_below HO4.out (a := ⟨w.heap.size + 1 + 1 + 1, 2, none⟩) (by show w.heap.size + 1 + 1 + 1 < w.heap.size + 4; omega) (.slice (some ⟨g2, 0, none⟩) 2 cap2)
          rw [setCell_under'] at h
          have e : (((((w.alloc (.cells #[.string ⟨#[]⟩, .int .i64 0, .slice none 0 0] 40)).alloc (.cells #[.string sAnn, .string sReviewer, .string sD0, .string sD2] 9)).alloc (.cells #[.string sReader, .string sTranslator, .string sReviewer, .string sManager] 9)).alloc (.cells #[.string sAnn, .int .i64 3, .slice (some ⟨g, 0, none⟩) 1 cap] 40)).drew).setCell ⟨w.heap.size + 1 + 1 + 1, 2, none⟩ (.slice (some ⟨g2, 0, none⟩) 2 cap2) = ((((w.alloc (.cells #[.string ⟨#[]⟩, .int .i64 0, .slice none 0 0] 40)).alloc (.cells #[.string sAnn, .string sReviewer, .string sD0, .string sD2] 9)).alloc (.cells #[.string sReader, .string sTranslator, .string sReviewer, .string sManager] 9)).alloc (.cells #[.string sAnn, .int .i64 3, .slice (some ⟨g2, 0, none⟩) 2 cap2] 40)).drew := by go_simp
          rw [e] at h
          exact h
        have HO5 := hid hown4
        clear hown4 HO4 HO3 HO2
        generalize stored _ X3 _ _ = S3 at HO5 ⊢
        have hU4 : Und w (under (((((w.alloc (.cells #[.string ⟨#[]⟩, .int .i64 0, .slice none 0 0] 40)).alloc (.cells #[.string sAnn, .string sReviewer, .string sD0, .string sD2] 9)).alloc (.cells #[.string sReader, .string sTranslator, .string sReviewer, .string sManager] 9)).alloc (.cells #[.string sAnn, .int .i64 3, .slice (some ⟨g2, 0, none⟩) 2 cap2] 40)).drew) S3) := (by repeat (first | exact Und.refl _ | assumption | refine Und.under ?_ _ | refine Und.alloc ?_ _ | refine Und.drew ?_ | refine Und.drewN ?_ _))
        have b0 : (under (((((w.alloc (.cells #[.string ⟨#[]⟩, .int .i64 0, .slice none 0 0] 40)).alloc (.cells #[.string sAnn, .string sReviewer, .string sD0, .string sD2] 9)).alloc (.cells #[.string sReader, .string sTranslator, .string sReviewer, .string sManager] 9)).alloc (.cells #[.string sAnn, .int .i64 3, .slice (some ⟨g2, 0, none⟩) 2 cap2] 40)).drew) S3).cell? ⟨w.heap.size + 1 + 1 + 1, 0, none⟩ = some (.string sAnn) := by go_simp
        have b1 : (under (((((w.alloc (.cells #[.string ⟨#[]⟩, .int .i64 0, .slice none 0 0] 40)).alloc (.cells #[.string sAnn, .string sReviewer, .string sD0, .string sD2] 9)).alloc (.cells #[.string sReader, .string sTranslator, .string sReviewer, .string sManager] 9)).alloc (.cells #[.string sAnn, .int .i64 3, .slice (some ⟨g2, 0, none⟩) 2 cap2] 40)).drew) S3).cell? ⟨w.heap.size + 1 + 1 + 1, 1, none⟩ = some (.int .i64 3) := by go_simp
        have b2 : (under (((((w.alloc (.cells #[.string ⟨#[]⟩, .int .i64 0, .slice none 0 0] 40)).alloc (.cells #[.string sAnn, .string sReviewer, .string sD0, .string sD2] 9)).alloc (.cells #[.string sReader, .string sTranslator, .string sReviewer, .string sManager] 9)).alloc (.cells #[.string sAnn, .int .i64 3, .slice (some ⟨g2, 0, none⟩) 2 cap2] 40)).drew) S3).cell? ⟨w.heap.size + 1 + 1 + 1, 2, none⟩ = some (.slice (some ⟨g2, 0, none⟩) 2 cap2) := by go_simp
        have r0 : (under (((((w.alloc (.cells #[.string ⟨#[]⟩, .int .i64 0, .slice none 0 0] 40)).alloc (.cells #[.string sAnn, .string sReviewer, .string sD0, .string sD2] 9)).alloc (.cells #[.string sReader, .string sTranslator, .string sReviewer, .string sManager] 9)).alloc (.cells #[.string sAnn, .int .i64 3, .slice (some ⟨g2, 0, none⟩) 2 cap2] 40)).drew) S3).cell? ⟨w.heap.size, 0, none⟩ = some (.string ⟨#[]⟩) := by go_simp
        have r1 : (under (((((w.alloc (.cells #[.string ⟨#[]⟩, .int .i64 0, .slice none 0 0] 40)).alloc (.cells #[.string sAnn, .string sReviewer, .string sD0, .string sD2] 9)).alloc (.cells #[.string sReader, .string sTranslator, .string sReviewer, .string sManager] 9)).alloc (.cells #[.string sAnn, .int .i64 3, .slice (some ⟨g2, 0, none⟩) 2 cap2] 40)).drew) S3).cell? ⟨w.heap.size, 1, none⟩ = some (.int .i64 0) := by go_simp
        have r2 : (under (((((w.alloc (.cells #[.string ⟨#[]⟩, .int .i64 0, .slice none 0 0] 40)).alloc (.cells #[.string sAnn, .string sReviewer, .string sD0, .string sD2] 9)).alloc (.cells #[.string sReader, .string sTranslator, .string sReviewer, .string sManager] 9)).alloc (.cells #[.string sAnn, .int .i64 3, .slice (some ⟨g2, 0, none⟩) 2 cap2] 40)).drew) S3).cell? ⟨w.heap.size, 2, none⟩ = some (.slice none 0 0) := by go_simp
        have f0 : (under (((((w.alloc (.cells #[.string ⟨#[]⟩, .int .i64 0, .slice none 0 0] 40)).alloc (.cells #[.string sAnn, .string sReviewer, .string sD0, .string sD2] 9)).alloc (.cells #[.string sReader, .string sTranslator, .string sReviewer, .string sManager] 9)).alloc (.cells #[.string sAnn, .int .i64 3, .slice (some ⟨g2, 0, none⟩) 2 cap2] 40)).drew) S3).frozen? ⟨w.heap.size, 0, none⟩ = false := by go_simp
        have f1 : (under (((((w.alloc (.cells #[.string ⟨#[]⟩, .int .i64 0, .slice none 0 0] 40)).alloc (.cells #[.string sAnn, .string sReviewer, .string sD0, .string sD2] 9)).alloc (.cells #[.string sReader, .string sTranslator, .string sReviewer, .string sManager] 9)).alloc (.cells #[.string sAnn, .int .i64 3, .slice (some ⟨g2, 0, none⟩) 2 cap2] 40)).drew) S3).frozen? ⟨w.heap.size, 1, none⟩ = false := by go_simp
        have f2 : (under (((((w.alloc (.cells #[.string ⟨#[]⟩, .int .i64 0, .slice none 0 0] 40)).alloc (.cells #[.string sAnn, .string sReviewer, .string sD0, .string sD2] 9)).alloc (.cells #[.string sReader, .string sTranslator, .string sReviewer, .string sManager] 9)).alloc (.cells #[.string sAnn, .int .i64 3, .slice (some ⟨g2, 0, none⟩) 2 cap2] 40)).drew) S3).frozen? ⟨w.heap.size, 2, none⟩ = false := by go_simp
        generalize under (((((w.alloc (.cells #[.string ⟨#[]⟩, .int .i64 0, .slice none 0 0] 40)).alloc (.cells #[.string sAnn, .string sReviewer, .string sD0, .string sD2] 9)).alloc (.cells #[.string sReader, .string sTranslator, .string sReviewer, .string sManager] 9)).alloc (.cells #[.string sAnn, .int .i64 3, .slice (some ⟨g2, 0, none⟩) 2 cap2] 40)).drew) S3 = wr at *
        have HU := hid hU4
        clear hU4
        rw [rounds_succ]
        go_wp2
        refine bodyPost_ret (v := .tuple #[.agg #[.string sAnn, .int .i64 3, .slice (some ⟨g2, 0, none⟩) 2 cap2], .bool true]) (by simp [results, Tryd.results41, go_sem, r0, r1, r2]) rfl ⟨_, rfl, ?_, ?_⟩
        · exact own_mono (ownsRow_setCell_below (ownsRow_setCell_below (ownsRow_setCell_below HO5.out (by show w.heap.size < _; omega) _) (by show w.heap.size < _; omega) _) (by show w.heap.size < _; omega) _) (by omega)
        · exact ((HU.out.setCell (Nat.le_refl _) _).setCell (Nat.le_refl _) _).setCell (Nat.le_refl _) _
end Go.Proofs.YthgmlkeojhfijaaDoor
