/- The contracts of role's Validate and of its reference: the first error of any list of users. Conditions: the list is one that memory can hold. -/
import Derived.Test.YthgmlkeojhfijaaDoorRoleRef
namespace Go.Proofs.YthgmlkeojhfijaaDoor
open Go.RowKit

abbrev UserD := ByteArray × Int × List Int
/-- One user at block b from cell o on. -/
def UserAt (w : World) (b o : Nat) (u : UserD) : Prop :=
  ∃ (D : Option Addr) (c : Nat), w.cell? ⟨b, o, none⟩ = some (.string u.1) ∧ w.cell? ⟨b, o + 1, none⟩ = some (.int .i64 u.2.1) ∧ w.cell? ⟨b, o + 2, none⟩ = some (.slice D u.2.2.length c) ∧
    IntsAt w D u.2.2 ∧ u.1.size ≤ 9223372036854775807 ∧ u.2.2.length ≤ 9223372036854775807
theorem UserAt.und {w w' : World} {b o : Nat} {x : UserD} (h : UserAt w b o x) (u : Und w w') : UserAt w' b o x := by
  obtain ⟨D, c, h1, h2, h3, h4, h5, h6⟩ := h
  have hb : b < w.heap.size := World.block_lt_of_cell? _ _ h1
  exact ⟨D, c, by rw [u.cell hb]; exact h1, by rw [u.cell hb]; exact h2, by rw [u.cell hb]; exact h3, h4.und u, h5, h6⟩
def UsersAt (w : World) (A : Option Addr) (us : List UserD) : Prop :=
  us.length > 0 → ∃ b off, A = some ⟨b, off, none⟩ ∧ b < w.heap.size ∧ ∀ i (h : i < us.length), UserAt w b (off + i * 3) us[i]
theorem UsersAt.und {w w' : World} {A : Option Addr} {us : List UserD} (h : UsersAt w A us) (u : Und w w') : UsersAt w' A us := by
  intro h0
  obtain ⟨b, off, hA, hb, hc⟩ := h h0
  exact ⟨b, off, hA, Nat.lt_of_lt_of_le hb u.size, fun i hi => (hc i hi).und u⟩
theorem UsersAt.names {w : World} {A : Option Addr} {us : List UserD} (h : UsersAt w A us) (k : Nat) (hk : k ≤ us.length) : NamesAt w A ((us.take k).map (·.1)) := by
  intro h0
  have h0' : us.length > 0 := by simp at h0; omega
  obtain ⟨b, off, hA, hb, hc⟩ := h h0'
  refine ⟨b, off, hA, hb, fun i hi => ?_⟩
  have hi' : i < us.length := by simp at hi; omega
  obtain ⟨D, c, h1, h2, h3, _⟩ := hc i hi'
  refine ⟨_, D, _, c, ?_, h2, h3⟩
  rw [h1]
  have : i < k := by simp at hi; omega
  simp [List.getD_eq_getElem?_getD, hi', this]

noncomputable def valRest : List ByteArray → List UserD → Int
  | _, [] => 0
  | pre, u :: l => if userE pre u.1 u.2.1 u.2.2 = 0 then valRest (pre ++ [u.1]) l else userE pre u.1 u.2.1 u.2.2
/-- The error of a list of users. -/
noncomputable def validE (us : List UserD) : Int := if 32 < us.length then 3 else valRest [] us

def ValRel (w : World) (us : List UserD) (i : Value) (wr : World) : Prop :=
  ∃ k : Nat, k ≤ us.length ∧ i = .int .i64 k ∧ valRest [] us = valRest ((us.take k).map (·.1)) (us.drop k) ∧ Und w wr

set_option maxHeartbeats 3200000 in
theorem validate_any (A : Option Addr) (n c : Nat) (us : List UserD) (w : World) (hn : us.length = n) (hnc : n ≤ c) (hc63 : c ≤ 9223372036854775807) (h : UsersAt w A us) :
    Calls Tryd.prog 20 #[.slice A n c] w fun e w' => e = .returned (.int .i64 (validE us)) ∧ Und w w' := by
  have H := hid h
  clear h
  unfold validE
  by_cases h32 : 32 < us.length
  · rw [if_pos h32]
    have h32' : 32 < n := by omega
    go_enter Tryd.func20, Tryd.ntmps20
    go_wp2
    go_ret
    exact ⟨rfl, (by repeat (first | exact Und.refl _ | assumption | refine Und.under ?_ _ | refine Und.alloc ?_ _ | refine Und.drew ?_ | refine Und.drewN ?_ _))⟩
  · rw [if_neg h32]
    have h32' : ¬ 32 < n := by omega
    obtain ⟨res, hres⟩ : ∃ v, v = valRest [] us := ⟨_, rfl⟩
    rw [← hres]
    have HR := hid hres
    clear hres h32
    go_enter Tryd.func20, Tryd.ntmps20
    go_wp2
    go_loopw [3, 11] (fun _ i wr => ValRel w us i wr) (fun _ i _ => n + 1 - (intOf i).toNat)
    case atStart => exact ⟨0, by omega, rfl, by simp, Und.refl _⟩
    case round =>
      obtain ⟨k, hk, rfl, he, u⟩ := hrel
      have HE := hid he
      clear he
      by_cases hlt : k < n
      · obtain ⟨b, off, rfl, hb, hcs⟩ := (H.out.und u) (by omega)
        obtain ⟨D, c2, h1, h2, h3, h4, h5, h6⟩ := hcs k (by omega)
        have hd : us.drop k = us[k]'(by omega) :: us.drop (k + 1) := List.drop_eq_getElem_cons (by omega)
        have ht : (us.take (k + 1)).map (·.1) = (us.take k).map (·.1) ++ [(us[k]'(by omega)).1] := by rw [List.take_add_one, List.getElem?_eq_getElem (by omega), List.map_append]; rfl
        generalize us[k]'(by omega) = x at h1 h2 h3 h4 h5 h6 hd ht
        obtain ⟨nm, r, zs⟩ := x
        have HN := hid ((H.out.und u).names k (by omega))
        have HD := hid hd
        have HT := hid ht
        have H4 := hid h4
        have U := hid u
        have hl : ((us.take k).map (·.1)).length = k := by simp; omega
        have HL := hid hl
        clear hcs hd ht h4 u hl
        simp only at h1 h2 h3 h5 h6
        have kc : k ≤ c := by omega
        haveI : LtW b wr := LtW.of hb
        have key := fun W hN hZ => user_any (some ⟨b, off, none⟩) D k c zs.length c2 r nm ((us.take k).map (·.1)) zs W h5 HL.out (by omega) hN rfl h6 hZ
        have HK := hid key
        clear key
        obtain ⟨q, hq⟩ : ∃ q, q = userE ((us.take k).map (·.1)) nm r zs := ⟨_, rfl⟩
        rw [← hq] at HK
        have HQ := hid hq
        clear hq
        by_cases hq0 : q = 0
        · subst hq0
          go_wp2_with fail
          first | refine wp_region_under2 (by kernel_rfl) (by kernel_rfl) ?_ | refine wp_region_under (by kernel_rfl) (by kernel_rfl) ?_
          repeat (go_big_quiet_step (first | (go_at_call 34; exact Calls.under_of (HK.out _ (HN.out.und (by repeat (first | exact Und.refl _ | assumption | refine Und.under ?_ _ | refine Und.alloc ?_ _ | refine Und.drew ?_ | refine Und.drewN ?_ _))) (H4.out.und (by repeat (first | exact Und.refl _ | assumption | refine Und.under ?_ _ | refine Und.alloc ?_ _ | refine Und.drew ?_ | refine Und.drewN ?_ _)))))))
          refine wpQuiet_nil ?_
          rintro _ ⟨X, rfl⟩
          go_wp2
          refine ⟨⟨k + 1, by omega, rfl, ?_, U.out.trans (by repeat (first | exact Und.refl _ | assumption | refine Und.under ?_ _ | refine Und.alloc ?_ _ | refine Und.drew ?_ | refine Und.drewN ?_ _))⟩, by simp [intOf]; omega⟩
          rw [HE.out, HD.out, valRest, ← HQ.out, if_pos rfl, HT.out]
        · have HZ := hid hq0
          go_wp2_with fail
          first | refine wp_region_under2 (by kernel_rfl) (by kernel_rfl) ?_ | refine wp_region_under (by kernel_rfl) (by kernel_rfl) ?_
          repeat (go_big_quiet_step (first | (go_at_call 34; exact Calls.under_of (HK.out _ (HN.out.und (by repeat (first | exact Und.refl _ | assumption | refine Und.under ?_ _ | refine Und.alloc ?_ _ | refine Und.drew ?_ | refine Und.drewN ?_ _))) (H4.out.und (by repeat (first | exact Und.refl _ | assumption | refine Und.under ?_ _ | refine Und.alloc ?_ _ | refine Und.drew ?_ | refine Und.drewN ?_ _)))))))
          refine wpQuiet_nil ?_
          rintro _ ⟨X, rfl⟩
          go_wp2
          go_ret
          refine ⟨ret_int ?_, U.out.trans (by repeat (first | exact Und.refl _ | assumption | refine Und.under ?_ _ | refine Und.alloc ?_ _ | refine Und.drew ?_ | refine Und.drewN ?_ _))⟩
          rw [HR.out, HE.out, HD.out, valRest, ← HQ.out, if_neg HZ.out]
      · have hk' : k = n := by omega
        subst hk'
        go_wp2
        go_ret
        refine ⟨ret_int ?_, u⟩
        rw [HR.out, HE.out, List.drop_of_length_le (by omega)]
        rfl

set_option maxHeartbeats 3200000 in
theorem rvalidate_any (A : Option Addr) (n c : Nat) (us : List UserD) (w : World) (hn : us.length = n) (hnc : n ≤ c) (hc63 : c ≤ 9223372036854775807) (h : UsersAt w A us) :
    Calls Tryd.prog 21 #[.slice A n c] w fun e w' => e = .returned (.int .i64 (validE us)) ∧ Und w w' := by
  have H := hid h
  clear h
  unfold validE
  by_cases h32 : 32 < us.length
  · rw [if_pos h32]
    have h32' : 32 < n := by omega
    go_enter Tryd.func21, Tryd.ntmps21
    go_wp2
    go_ret
    exact ⟨rfl, (by repeat (first | exact Und.refl _ | assumption | refine Und.under ?_ _ | refine Und.alloc ?_ _ | refine Und.drew ?_ | refine Und.drewN ?_ _))⟩
  · rw [if_neg h32]
    have h32' : ¬ 32 < n := by omega
    obtain ⟨res, hres⟩ : ∃ v, v = valRest [] us := ⟨_, rfl⟩
    rw [← hres]
    have HR := hid hres
    clear hres h32
    go_enter Tryd.func21, Tryd.ntmps21
    go_wp2
    go_loopw [3, 11] (fun _ i wr => ValRel w us i wr) (fun _ i _ => n + 1 - (intOf i).toNat)
    case atStart => exact ⟨0, by omega, rfl, by simp, Und.refl _⟩
    case round =>
      obtain ⟨k, hk, rfl, he, u⟩ := hrel
      have HE := hid he
      clear he
      by_cases hlt : k < n
      · obtain ⟨b, off, rfl, hb, hcs⟩ := (H.out.und u) (by omega)
        obtain ⟨D, c2, h1, h2, h3, h4, h5, h6⟩ := hcs k (by omega)
        have hd : us.drop k = us[k]'(by omega) :: us.drop (k + 1) := List.drop_eq_getElem_cons (by omega)
        have ht : (us.take (k + 1)).map (·.1) = (us.take k).map (·.1) ++ [(us[k]'(by omega)).1] := by rw [List.take_add_one, List.getElem?_eq_getElem (by omega), List.map_append]; rfl
        generalize us[k]'(by omega) = x at h1 h2 h3 h4 h5 h6 hd ht
        obtain ⟨nm, r, zs⟩ := x
        have HN := hid ((H.out.und u).names k (by omega))
        have HD := hid hd
        have HT := hid ht
        have H4 := hid h4
        have U := hid u
        have hl : ((us.take k).map (·.1)).length = k := by simp; omega
        have HL := hid hl
        clear hcs hd ht h4 u hl
        simp only at h1 h2 h3 h5 h6
        have kc : k ≤ c := by omega
        haveI : LtW b wr := LtW.of hb
        have key := fun W hN hZ => ruser_any (some ⟨b, off, none⟩) D k c zs.length c2 r nm ((us.take k).map (·.1)) zs W h5 HL.out (by omega) hN rfl h6 hZ
        have HK := hid key
        clear key
        obtain ⟨q, hq⟩ : ∃ q, q = userE ((us.take k).map (·.1)) nm r zs := ⟨_, rfl⟩
        rw [← hq] at HK
        have HQ := hid hq
        clear hq
        by_cases hq0 : q = 0
        · subst hq0
          go_wp2_with fail
          first | refine wp_region_under2 (by kernel_rfl) (by kernel_rfl) ?_ | refine wp_region_under (by kernel_rfl) (by kernel_rfl) ?_
          repeat (go_big_quiet_step (first | (go_at_call 35; exact Calls.under_of (HK.out _ (HN.out.und (by repeat (first | exact Und.refl _ | assumption | refine Und.under ?_ _ | refine Und.alloc ?_ _ | refine Und.drew ?_ | refine Und.drewN ?_ _))) (H4.out.und (by repeat (first | exact Und.refl _ | assumption | refine Und.under ?_ _ | refine Und.alloc ?_ _ | refine Und.drew ?_ | refine Und.drewN ?_ _)))))))
          refine wpQuiet_nil ?_
          rintro _ ⟨X, rfl⟩
          go_wp2
          refine ⟨⟨k + 1, by omega, rfl, ?_, U.out.trans (by repeat (first | exact Und.refl _ | assumption | refine Und.under ?_ _ | refine Und.alloc ?_ _ | refine Und.drew ?_ | refine Und.drewN ?_ _))⟩, by simp [intOf]; omega⟩
          rw [HE.out, HD.out, valRest, ← HQ.out, if_pos rfl, HT.out]
        · have HZ := hid hq0
          go_wp2_with fail
          first | refine wp_region_under2 (by kernel_rfl) (by kernel_rfl) ?_ | refine wp_region_under (by kernel_rfl) (by kernel_rfl) ?_
          repeat (go_big_quiet_step (first | (go_at_call 35; exact Calls.under_of (HK.out _ (HN.out.und (by repeat (first | exact Und.refl _ | assumption | refine Und.under ?_ _ | refine Und.alloc ?_ _ | refine Und.drew ?_ | refine Und.drewN ?_ _))) (H4.out.und (by repeat (first | exact Und.refl _ | assumption | refine Und.under ?_ _ | refine Und.alloc ?_ _ | refine Und.drew ?_ | refine Und.drewN ?_ _)))))))
          refine wpQuiet_nil ?_
          rintro _ ⟨X, rfl⟩
          go_wp2
          go_ret
          refine ⟨ret_int ?_, U.out.trans (by repeat (first | exact Und.refl _ | assumption | refine Und.under ?_ _ | refine Und.alloc ?_ _ | refine Und.drew ?_ | refine Und.drewN ?_ _))⟩
          rw [HR.out, HE.out, HD.out, valRest, ← HQ.out, if_neg HZ.out]
      · have hk' : k = n := by omega
        subst hk'
        go_wp2
        go_ret
        refine ⟨ret_int ?_, u⟩
        rw [HR.out, HE.out, List.drop_of_length_le (by omega)]
        rfl
end Go.Proofs.YthgmlkeojhfijaaDoor
