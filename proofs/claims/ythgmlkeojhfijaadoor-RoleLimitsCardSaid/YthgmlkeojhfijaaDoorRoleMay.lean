/- The contracts of role's May and of its reference for any list of users. Conditions: the list is one that memory can hold. -/
import Derived.Test.YthgmlkeojhfijaaDoorRoleValid
import Derived.Test.YthgmlkeojhfijaaDoorRoleAllowed
namespace Go.Proofs.YthgmlkeojhfijaaDoor
open Go.RowKit

def FndRel (zs : List Int) (x : Int) (w : World) (i : Value) : Prop := ∃ k : Nat, k ≤ zs.length ∧ i = .int .i64 k ∧ Hid (∀ j, j < k → zs.getD j 0 ≠ x)
theorem mem_at (zs : List Int) (x : Int) (k : Nat) (hk : k < zs.length) (h : zs.getD k 0 = x) : x ∈ zs := by
  rw [List.getD_eq_getElem?_getD, List.getElem?_eq_getElem hk] at h
  simp at h
  rw [← h]; exact List.getElem_mem hk
theorem not_mem (zs : List Int) (x : Int) (h : ∀ j, j < zs.length → zs.getD j 0 ≠ x) : ¬ x ∈ zs := by
  intro hm
  obtain ⟨j, hj, e⟩ := List.mem_iff_getElem.1 hm
  apply h j hj
  rw [List.getD_eq_getElem?_getD, List.getElem?_eq_getElem hj]
  simpa using e

set_option maxHeartbeats 1600000 in
theorem index_any (A : Option Addr) (c n : Nat) (x : Int) (zs : List Int) (w : World) (hn : zs.length = n) (h63 : n ≤ 9223372036854775807) (h : IntsAt w A zs) :
    Calls Tryd.prog 44 #[.slice A n c, .int .i64 x] w fun e w' => ∃ i : Int, e = .returned (.int .i64 i) ∧ (0 ≤ i ↔ x ∈ zs) ∧ w = w' := by
  have H := hid h
  clear h
  go_enter Tryd.func44, Tryd.ntmps44
  go_wp2
  go_loop [5, 8] (fun _ i => FndRel zs x w i) (fun _ i => n + 1 - (intOf i).toNat)
  case atStart => exact ⟨0, by omega, rfl, hid (fun j hj => by omega)⟩
  case round =>
    obtain ⟨k, hk, rfl, HA⟩ := hrel
    by_cases hlt : k < n
    · obtain ⟨b, off, rfl, hb, hc⟩ := H.out (by omega)
      have hck := hc k (by omega)
      generalize hz : zs.getD k 0 = z at hck
      have HZ := hid hz
      clear hz hc
      by_cases hq : x = z
      · have e : (x == z) = true := by simpa using hq
        have HQ := hid hq
        clear hq
        go_wp2
        go_ret
        exact ⟨_, rfl, ⟨fun _ => mem_at zs x k (by omega) (by rw [HZ.out, HQ.out]), fun _ => by omega⟩, rfl⟩
      · have e : (x == z) = false := by simpa using hq
        have HQ := hid hq
        clear hq
        go_wp2
        refine ⟨⟨k + 1, by omega, rfl, hid (fun j hj => ?_)⟩, by simp [intOf]; omega⟩
        by_cases hjk : j = k
        · subst hjk; rw [HZ.out]; exact fun h => HQ.out h.symm
        · exact HA.out j (by omega)
    · have hk' : k = n := by omega
      subst hk'
      go_wp2
      go_ret
      exact ⟨_, rfl, ⟨fun h => absurd h (by decide), fun h => absurd h (not_mem zs x (fun j hj => HA.out j (by omega)))⟩, rfl⟩

theorem contains_any (A : Option Addr) (c n : Nat) (x : Int) (zs : List Int) (w : World) (hn : zs.length = n) (h63 : n ≤ 9223372036854775807) (h : IntsAt w A zs) :
    Calls Tryd.prog 29 #[.slice A n c, .int .i64 x] w fun e w' => e = .returned (.bool (decide (x ∈ zs))) ∧ w = w' := by
  have H := hid h
  clear h
  go_enter Tryd.func29, Tryd.ntmps29
  go_wp2_with (go_at_call 44; refine (index_any A c n x zs _ hn h63 H.out).mono ?_; rintro e w' ⟨i, rfl, hi, rfl⟩; have HI := hid hi; clear hi)
  go_ret
  exact ⟨ret_bool (by rw [decide_eq_decide]; exact HI.out), rfl⟩

theorem idx_bound (x : ByteArray) : ∀ (l : List ByteArray) (k : Nat), idxFrom x k l = -1 ∨ ∃ j, j < l.length ∧ idxFrom x k l = ((k + j : Nat) : Int)
  | [], k => Or.inl rfl
  | y :: l, k => by
    unfold idxFrom
    by_cases h : (y.toList == x.toList) = true
    · rw [if_pos h]; exact Or.inr ⟨0, by simp, by simp⟩
    · rw [if_neg h]
      rcases idx_bound x l (k + 1) with e | ⟨j, hj, e⟩
      · exact Or.inl e
      · exact Or.inr ⟨j + 1, by simp; omega, by rw [e]; congr 1; omega⟩

def mayU (u : UserD) (k doc : Int) : Int :=
  if Ro.allowedI u.2.1 k = false then 10 else if doc < 0 then 0 else if u.2.2.length = 0 then 0 else if doc ∈ u.2.2 then 0 else 10
/-- The error of a user who does an act on a document. -/
def mayE (us : List UserD) (x : ByteArray) (k doc : Int) : Int :=
  if idxFrom x 0 (us.map (·.1)) = -1 then 4 else mayU (us.getD (idxFrom x 0 (us.map (·.1))).toNat (⟨#[]⟩, 0, [])) k doc

set_option maxHeartbeats 3200000 in
theorem may_any (A : Option Addr) (n c : Nat) (us : List UserD) (x : ByteArray) (act doc : Int) (w : World) (hn : us.length = n) (hnc : n ≤ c) (hc63 : c ≤ 9223372036854775807) (h : UsersAt w A us) :
    Calls Tryd.prog 16 #[.slice A n c, .string x, .int .i64 act, .int .i64 doc] w fun e w' => e = .returned (.int .i64 (mayE us x act doc)) ∧ Und w w' := by
  have H := hid h
  have hN := h.names n (by omega)
  rw [← hn, List.take_length] at hN
  have HN := hid hN
  clear h hN
  have hf := find_any A c n x (us.map (·.1)) w (by simpa using hn) (by omega) HN.out
  unfold mayE
  rcases idx_bound x (us.map (·.1)) 0 with e | ⟨j, hj, e⟩
  · rw [e] at hf
    rw [if_pos e]
    clear e
    go_enter Tryd.func16, Tryd.ntmps16
    go_wp2_with fail
    refine hf.mono ?_
    rintro e w' ⟨rfl, X, rfl⟩
    go_wp2
    go_ret
    exact ⟨rfl, (by repeat (first | exact Und.refl _ | assumption | refine Und.under ?_ _ | refine Und.alloc ?_ _ | refine Und.drew ?_ | refine Und.drewN ?_ _))⟩
  · rw [e] at hf
    rw [if_neg (by rw [e]; omega), e]
    clear e
    have hj' : j < us.length := by simpa using hj
    obtain ⟨b, off, rfl, hb, hcs⟩ := H.out (by omega)
    obtain ⟨D, c2, h1, h2, h3, h4, h5, h6⟩ := hcs j hj'
    rw [show us.getD ((0 + j : Nat) : Int).toNat (⟨#[]⟩, 0, []) = us[j] by simp [List.getD_eq_getElem?_getD, hj']]
    simp only [Nat.zero_add] at hf
    generalize us[j] = v at h1 h2 h3 h4 h5 h6
    obtain ⟨nm, r, zs⟩ := v
    have HC := hid (fun W => contains_any D c2 zs.length doc zs W rfl h6)
    have H4 := hid h4
    clear hcs h4 hj
    simp only at h1 h2 h3 h5 h6
    haveI : LtW b w := LtW.of hb
    have hjn : j < n := by omega
    unfold mayU
    simp only
    have ha := fun W => allowed_any r act W
    generalize Ro.allowedI r act = al at ha
    cases al
    · rw [if_pos rfl]
      go_enter Tryd.func16, Tryd.ntmps16
      go_wp2_with fail
      refine hf.mono ?_
      rintro e w' ⟨rfl, X, rfl⟩
      go_wp2_with fail
      refine (ha _).mono ?_
      rintro e w' ⟨rfl, X2, rfl⟩
      go_wp2
      go_ret
      exact ⟨rfl, (by repeat (first | exact Und.refl _ | assumption | refine Und.under ?_ _ | refine Und.alloc ?_ _ | refine Und.drew ?_ | refine Und.drewN ?_ _))⟩
    · rw [if_neg (by simp)]
      by_cases hd : doc < 0
      · rw [if_pos hd]
        go_enter Tryd.func16, Tryd.ntmps16
        go_wp2_with fail
        refine hf.mono ?_
        rintro e w' ⟨rfl, X, rfl⟩
        go_wp2_with fail
        refine (ha _).mono ?_
        rintro e w' ⟨rfl, X2, rfl⟩
        go_wp2
        go_ret
        exact ⟨rfl, (by repeat (first | exact Und.refl _ | assumption | refine Und.under ?_ _ | refine Und.alloc ?_ _ | refine Und.drew ?_ | refine Und.drewN ?_ _))⟩
      · rw [if_neg hd]
        by_cases hl : zs.length = 0
        · rw [if_pos hl]
          have hl' : ¬ 0 < zs.length := by omega
          clear hl
          go_enter Tryd.func16, Tryd.ntmps16
          go_wp2_with fail
          refine hf.mono ?_
          rintro e w' ⟨rfl, X, rfl⟩
          go_wp2_with fail
          refine (ha _).mono ?_
          rintro e w' ⟨rfl, X2, rfl⟩
          go_wp2
          go_ret
          exact ⟨rfl, (by repeat (first | exact Und.refl _ | assumption | refine Und.under ?_ _ | refine Und.alloc ?_ _ | refine Und.drew ?_ | refine Und.drewN ?_ _))⟩
        · rw [if_neg hl]
          have hl' : 0 < zs.length := by omega
          by_cases hm : doc ∈ zs
          · rw [if_pos hm]
            have MM : decide (doc ∈ zs) = true := decide_eq_true hm
            clear hm
            go_enter Tryd.func16, Tryd.ntmps16
            go_wp2_with fail
            refine hf.mono ?_
            rintro e w' ⟨rfl, X, rfl⟩
            go_wp2_with fail
            refine (ha _).mono ?_
            rintro e w' ⟨rfl, X2, rfl⟩
            go_wp2_with fail
            refine (HC.out _ (H4.out.und (by repeat (first | exact Und.refl _ | assumption | refine Und.under ?_ _ | refine Und.alloc ?_ _ | refine Und.drew ?_ | refine Und.drewN ?_ _)))).mono ?_
            rw [MM]
            rintro e w' ⟨rfl, rfl⟩
            go_wp2
            go_ret
            exact ⟨rfl, (by repeat (first | exact Und.refl _ | assumption | refine Und.under ?_ _ | refine Und.alloc ?_ _ | refine Und.drew ?_ | refine Und.drewN ?_ _))⟩
          · rw [if_neg hm]
            have MM : decide (doc ∈ zs) = false := decide_eq_false hm
            clear hm
            go_enter Tryd.func16, Tryd.ntmps16
            go_wp2_with fail
            refine hf.mono ?_
            rintro e w' ⟨rfl, X, rfl⟩
            go_wp2_with fail
            refine (ha _).mono ?_
            rintro e w' ⟨rfl, X2, rfl⟩
            go_wp2_with fail
            refine (HC.out _ (H4.out.und (by repeat (first | exact Und.refl _ | assumption | refine Und.under ?_ _ | refine Und.alloc ?_ _ | refine Und.drew ?_ | refine Und.drewN ?_ _)))).mono ?_
            rw [MM]
            rintro e w' ⟨rfl, rfl⟩
            go_wp2
            go_ret
            exact ⟨rfl, (by repeat (first | exact Und.refl _ | assumption | refine Und.under ?_ _ | refine Und.alloc ?_ _ | refine Und.drew ?_ | refine Und.drewN ?_ _))⟩
set_option maxHeartbeats 3200000 in
theorem rmay_any (A : Option Addr) (n c : Nat) (us : List UserD) (x : ByteArray) (act doc : Int) (w : World) (hn : us.length = n) (hnc : n ≤ c) (hc63 : c ≤ 9223372036854775807) (h : UsersAt w A us) :
    Calls Tryd.prog 17 #[.slice A n c, .string x, .int .i64 act, .int .i64 doc] w fun e w' => e = .returned (.int .i64 (mayE us x act doc)) ∧ Und w w' := by
  have H := hid h
  have hN := h.names n (by omega)
  rw [← hn, List.take_length] at hN
  have HN := hid hN
  clear h hN
  have hf := named_any A c n x (us.map (·.1)) w (by simpa using hn) (by omega) HN.out
  unfold mayE
  rcases idx_bound x (us.map (·.1)) 0 with e | ⟨j, hj, e⟩
  · rw [e] at hf
    rw [if_pos e]
    clear e
    go_enter Tryd.func17, Tryd.ntmps17
    go_wp2_with fail
    refine hf.mono ?_
    rintro e w' ⟨rfl, X, rfl⟩
    go_wp2
    go_ret
    exact ⟨rfl, (by repeat (first | exact Und.refl _ | assumption | refine Und.under ?_ _ | refine Und.alloc ?_ _ | refine Und.drew ?_ | refine Und.drewN ?_ _))⟩
  · rw [e] at hf
    rw [if_neg (by rw [e]; omega), e]
    clear e
    have hj' : j < us.length := by simpa using hj
    obtain ⟨b, off, rfl, hb, hcs⟩ := H.out (by omega)
    obtain ⟨D, c2, h1, h2, h3, h4, h5, h6⟩ := hcs j hj'
    rw [show us.getD ((0 + j : Nat) : Int).toNat (⟨#[]⟩, 0, []) = us[j] by simp [List.getD_eq_getElem?_getD, hj']]
    simp only [Nat.zero_add] at hf
    generalize us[j] = v at h1 h2 h3 h4 h5 h6
    obtain ⟨nm, r, zs⟩ := v
    have H4 := hid h4
    clear hcs h4 hj
    simp only at h1 h2 h3 h5 h6
    haveI : LtW b w := LtW.of hb
    have hjn : j < n := by omega
    unfold mayU
    simp only
    have ha := fun W => refallowed_any r act W
    generalize Ro.allowedI r act = al at ha
    cases al
    · rw [if_pos rfl]
      go_enter Tryd.func17, Tryd.ntmps17
      go_wp2_with fail
      refine hf.mono ?_
      rintro e w' ⟨rfl, X, rfl⟩
      go_wp2_with fail
      refine (ha _).mono ?_
      rintro e w' ⟨rfl, rfl⟩
      go_wp2
      go_ret
      exact ⟨rfl, (by repeat (first | exact Und.refl _ | assumption | refine Und.under ?_ _ | refine Und.alloc ?_ _ | refine Und.drew ?_ | refine Und.drewN ?_ _))⟩
    · rw [if_neg (by simp)]
      by_cases hd : doc < 0
      · rw [if_pos hd]
        go_enter Tryd.func17, Tryd.ntmps17
        go_wp2_with fail
        refine hf.mono ?_
        rintro e w' ⟨rfl, X, rfl⟩
        go_wp2_with fail
        refine (ha _).mono ?_
        rintro e w' ⟨rfl, rfl⟩
        go_wp2
        go_ret
        exact ⟨rfl, (by repeat (first | exact Und.refl _ | assumption | refine Und.under ?_ _ | refine Und.alloc ?_ _ | refine Und.drew ?_ | refine Und.drewN ?_ _))⟩
      · rw [if_neg hd]
        by_cases hl : zs.length = 0
        · rw [if_pos hl]
          have hl' : ((zs.length : Int) == 0) = true := by simpa using hl
          have HL := hid hl
          clear hl
          go_enter Tryd.func17, Tryd.ntmps17
          go_wp2_with fail
          refine hf.mono ?_
          rintro e w' ⟨rfl, X, rfl⟩
          go_wp2_with fail
          refine (ha _).mono ?_
          rintro e w' ⟨rfl, rfl⟩
          go_wp2
          go_ret
          exact ⟨rfl, (by repeat (first | exact Und.refl _ | assumption | refine Und.under ?_ _ | refine Und.alloc ?_ _ | refine Und.drew ?_ | refine Und.drewN ?_ _))⟩
        · rw [if_neg hl]
          have hl' : ((zs.length : Int) == 0) = false := by simpa using hl
          obtain ⟨res, hres⟩ : ∃ v : Int, v = if doc ∈ zs then 0 else 10 := ⟨_, rfl⟩
          rw [← hres]
          have HR := hid hres
          have HL := hid hl
          clear hres hl
          go_enter Tryd.func17, Tryd.ntmps17
          go_wp2_with fail
          refine hf.mono ?_
          rintro e w' ⟨rfl, X, rfl⟩
          go_wp2_with fail
          refine (ha _).mono ?_
          rintro e w' ⟨rfl, rfl⟩
          go_wp2
          go_loop [11, 42] (fun _ i => FndRel zs doc w i) (fun _ i => zs.length + 1 - (intOf i).toNat)
          case atStart => exact ⟨0, by omega, rfl, hid (fun j hj => by omega)⟩
          case round =>
            obtain ⟨k, hk, rfl, HA⟩ := hrel
            by_cases hlt : k < zs.length
            · obtain ⟨b3, off3, rfl, hb3, hc3⟩ := H4.out.und ((Und.refl w).under X) (by show 0 < zs.length; omega)
              have hck := hc3 k hlt
              generalize hz : zs.getD k 0 = z at hck
              have HZ := hid hz
              clear hz hc3
              by_cases hq : z = doc
              · have e : (z == doc) = true := by simpa using hq
                have HQ := hid hq
                clear hq
                go_wp2
                go_ret
                exact ⟨ret_int (by rw [HR.out, if_pos (mem_at zs doc k hlt (by rw [HZ.out, HQ.out]))]), (by repeat (first | exact Und.refl _ | assumption | refine Und.under ?_ _ | refine Und.alloc ?_ _ | refine Und.drew ?_ | refine Und.drewN ?_ _))⟩
              · have e : (z == doc) = false := by simpa using hq
                have HQ := hid hq
                clear hq
                go_wp2
                refine ⟨⟨k + 1, by omega, rfl, hid (fun j hj => ?_)⟩, by simp [intOf]; omega⟩
                by_cases hjk : j = k
                · subst hjk; rw [HZ.out]; exact HQ.out
                · exact HA.out j (by omega)
            · have hk' : k = zs.length := by omega
              subst hk'
              go_wp2
              go_ret
              exact ⟨ret_int (by rw [HR.out, if_neg (not_mem zs doc (fun j hj => HA.out j hj))]), (by repeat (first | exact Und.refl _ | assumption | refine Und.under ?_ _ | refine Und.alloc ?_ _ | refine Und.drew ?_ | refine Und.drewN ?_ _))⟩
end Go.Proofs.YthgmlkeojhfijaaDoor
