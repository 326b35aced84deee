/- The contracts of the reference's named and user (package bitextref28): the same as role's find and user. Conditions: lists whose lengths are lists' lengths. -/
import Derived.Test.YthgmlkeojhfijaaDoorRoleUser
namespace Go.Proofs.YthgmlkeojhfijaaDoor
open Go.RowKit

set_option maxHeartbeats 1600000 in
theorem named_any (A : Option Addr) (c n : Nat) (x : ByteArray) (ns : List ByteArray) (w : World) (hn : ns.length = n) (h63 : n ≤ 9223372036854775807) (h : NamesAt w A ns) :
    Calls Tryd.prog 30 #[.slice A n c, .string x] w fun e w' => e = .returned (.int .i64 (idxFrom x 0 ns)) ∧ Und w w' := by
  have H := hid h
  clear h
  go_enter Tryd.func30, Tryd.ntmps30
  go_wp2
  go_loopw [5, 9] (fun _ i wr => IdxRel w x ns i wr) (fun _ i _ => n + 1 - (intOf i).toNat)
  case atStart => exact ⟨0, by omega, rfl, by simp, Und.refl _⟩
  case round =>
    obtain ⟨k, hk, rfl, he, u⟩ := hrel
    have HE := hid he
    clear he
    by_cases hlt : k < n
    · obtain ⟨b2, off, rfl, hb2, hc⟩ := (H.out.und u) (by omega)
      obtain ⟨r, D, m', c', h1, h2, h3⟩ := hc k (by omega)
      generalize hy : ns.getD k ByteArray.empty = y at h1
      have hd : ns.drop k = y :: ns.drop (k + 1) := by
        rw [List.drop_eq_getElem_cons (by omega), ← hy]; simp [List.getD_eq_getElem?_getD, List.getElem?_eq_getElem (show k < ns.length by omega)]
      have HD := hid hd
      have U := hid u
      clear hd hy hc u
      cases hq : (y.toList == x.toList)
      · have HQ := hid hq
        go_wp2
        refine ⟨⟨k + 1, by omega, rfl, ?_, U.out.trans (by repeat (first | exact Und.refl _ | assumption | refine Und.under ?_ _ | refine Und.alloc ?_ _ | refine Und.drew ?_ | refine Und.drewN ?_ _))⟩, by simp [intOf]; omega⟩
        rw [HE.out, HD.out, idxFrom, HQ.out, if_neg (by simp)]
      · have HQ := hid hq
        go_wp2
        go_ret
        refine ⟨ret_int ?_, U.out.trans (by repeat (first | exact Und.refl _ | assumption | refine Und.under ?_ _ | refine Und.alloc ?_ _ | refine Und.drew ?_ | refine Und.drewN ?_ _))⟩
        rw [HE.out, HD.out, idxFrom, HQ.out, if_pos rfl]
    · have hk' : k = n := by omega
      subst hk'
      go_wp2
      go_ret
      refine ⟨ret_int ?_, u⟩
      rw [HE.out, List.drop_of_length_le (by omega)]
      rfl

set_option maxHeartbeats 3200000 in
theorem ruser_any (A D : Option Addr) (n c m c2 : Nat) (r : Int) (nm : ByteArray) (ns : List ByteArray) (zs : List Int) (w : World) (hs : nm.size ≤ 9223372036854775807) (hn : ns.length = n) (h63 : n ≤ 9223372036854775807) (h : NamesAt w A ns)
    (hz : zs.length = m) (hm63 : m ≤ 9223372036854775807) (hD : IntsAt w D zs) :
    Calls Tryd.prog 35 #[.slice A n c, .agg #[.string nm, .int .i64 r, .slice D m c2]] w fun e w' => e = .returned (.int .i64 (userE ns nm r zs)) ∧ Und w w' := by
  have H := hid h
  have HD := hid hD
  clear h hD
  unfold userE
  by_cases h1 : St.isNameL nm.data.toList = false
  · rw [if_pos h1]
    go_enter Tryd.func35, Tryd.ntmps35
    go_wp2_with (go_at_call 49; refine (risname_any _ _ hs).mono ?_; rintro e w' ⟨rfl, rfl⟩)
    go_ret
    exact ⟨rfl, (by repeat (first | exact Und.refl _ | assumption | refine Und.under ?_ _ | refine Und.alloc ?_ _ | refine Und.drew ?_ | refine Und.drewN ?_ _))⟩
  · rw [if_neg h1]
    have h1' : St.isNameL nm.data.toList = true := by simpa using h1
    clear h1
    have hf := fun w' => named_any A c n nm ns w' hn h63
    generalize idxFrom nm 0 ns = q at hf ⊢
    by_cases h2 : 0 ≤ q
    · rw [if_pos h2]
      have H2 := hid h2
      go_enter Tryd.func35, Tryd.ntmps35
      go_wp2_with (go_at_call 49; refine (risname_any _ _ hs).mono ?_; rintro e w' ⟨rfl, rfl⟩)
      refine (hf _ (H.out.und ((Und.refl w).alloc _))).mono ?_
      rintro e w' ⟨rfl, X, rfl⟩
      go_wp2
      go_ret
      exact ⟨rfl, (by repeat (first | exact Und.refl _ | assumption | refine Und.under ?_ _ | refine Und.alloc ?_ _ | refine Und.drew ?_ | refine Und.drewN ?_ _))⟩
    · rw [if_neg h2]
      by_cases h3 : r < 1 ∨ 4 < r ∨ 16 < zs.length
      · rw [if_pos h3]
        have H3 := hid h3
        have key : ∀ (p1 : Bool), Bool → True := fun _ _ => trivial
        rcases h3 with h3 | h3
        · go_enter Tryd.func35, Tryd.ntmps35
          go_wp2_with (go_at_call 49; refine (risname_any _ _ hs).mono ?_; rintro e w' ⟨rfl, rfl⟩)
          refine (hf _ (H.out.und ((Und.refl w).alloc _))).mono ?_
          rintro e w' ⟨rfl, X, rfl⟩
          go_wp2
          go_ret
          exact ⟨rfl, (by repeat (first | exact Und.refl _ | assumption | refine Und.under ?_ _ | refine Und.alloc ?_ _ | refine Und.drew ?_ | refine Und.drewN ?_ _))⟩
        · by_cases h4 : r < 1
          · go_enter Tryd.func35, Tryd.ntmps35
            go_wp2_with (go_at_call 49; refine (risname_any _ _ hs).mono ?_; rintro e w' ⟨rfl, rfl⟩)
            refine (hf _ (H.out.und ((Und.refl w).alloc _))).mono ?_
            rintro e w' ⟨rfl, X, rfl⟩
            go_wp2
            go_ret
            exact ⟨rfl, (by repeat (first | exact Und.refl _ | assumption | refine Und.under ?_ _ | refine Und.alloc ?_ _ | refine Und.drew ?_ | refine Und.drewN ?_ _))⟩
          · by_cases h5 : 4 < r
            · go_enter Tryd.func35, Tryd.ntmps35
              go_wp2_with (go_at_call 49; refine (risname_any _ _ hs).mono ?_; rintro e w' ⟨rfl, rfl⟩)
              refine (hf _ (H.out.und ((Und.refl w).alloc _))).mono ?_
              rintro e w' ⟨rfl, X, rfl⟩
              go_wp2
              go_ret
              exact ⟨rfl, (by repeat (first | exact Und.refl _ | assumption | refine Und.under ?_ _ | refine Und.alloc ?_ _ | refine Und.drew ?_ | refine Und.drewN ?_ _))⟩
            · have h6 : 16 < m := by omega
              go_enter Tryd.func35, Tryd.ntmps35
              go_wp2_with (go_at_call 49; refine (risname_any _ _ hs).mono ?_; rintro e w' ⟨rfl, rfl⟩)
              refine (hf _ (H.out.und ((Und.refl w).alloc _))).mono ?_
              rintro e w' ⟨rfl, X, rfl⟩
              go_wp2
              go_ret
              exact ⟨rfl, (by repeat (first | exact Und.refl _ | assumption | refine Und.under ?_ _ | refine Und.alloc ?_ _ | refine Und.drew ?_ | refine Und.drewN ?_ _))⟩
      · rw [if_neg h3]
        have h4 : ¬ r < 1 := by omega
        have h5 : ¬ 4 < r := by omega
        have h6 : ¬ 16 < m := by omega
        clear h3
        obtain ⟨res, hres⟩ : ∃ v : Int, v = if DocsOk zs then 0 else 1 := ⟨_, rfl⟩
        rw [← hres]
        have HR := hid hres
        clear hres
        go_enter Tryd.func35, Tryd.ntmps35
        go_wp2_with (go_at_call 49; refine (risname_any _ _ hs).mono ?_; rintro e w' ⟨rfl, rfl⟩)
        refine (hf _ (H.out.und ((Und.refl w).alloc _))).mono ?_
        rintro e w' ⟨rfl, X, rfl⟩
        go_wp2
        have HD2 := hid (HD.out.und (((Und.refl w).alloc (.cells #[.string nm, .int .i64 r, .slice D m c2] 40)).under X))
        go_loopw [5, 6, 33] (fun _ _ i wr => DocsRel (under (w.alloc (.cells #[.string nm, .int .i64 r, .slice D m c2] 40)) X) zs i wr) (fun _ _ i _ => m + 1 - (intOf i).toNat)
        case atStart => exact ⟨0, by omega, rfl, fun j hj => by omega, rfl⟩
        case round =>
          obtain ⟨k, hk, rfl, hall, rfl⟩ := hrel
          have HA := hid hall
          clear hall
          by_cases hlt : k < m
          · obtain ⟨b, off, rfl, hb, hc⟩ := HD2.out (by omega)
            have hck := hc k (by omega)
            have HC := hid hc
            generalize hzk : zs.getD k 0 = z at hck
            have HZ := hid hzk
            clear hzk hc
            by_cases h7 : z < 0
            · go_wp2
              go_ret
              refine ⟨ret_int ?_, (by repeat (first | exact Und.refl _ | assumption | refine Und.under ?_ _ | refine Und.alloc ?_ _ | refine Und.drew ?_ | refine Und.drewN ?_ _))⟩
              rw [HR.out, if_neg]
              intro hd
              have := (hd k (by omega)).1
              rw [HZ.out] at this; omega
            · by_cases h8 : 16 ≤ z
              · go_wp2
                go_ret
                refine ⟨ret_int ?_, (by repeat (first | exact Und.refl _ | assumption | refine Und.under ?_ _ | refine Und.alloc ?_ _ | refine Und.drew ?_ | refine Und.drewN ?_ _))⟩
                rw [HR.out, if_neg]
                intro hd
                have := (hd k (by omega)).2.1
                rw [HZ.out] at this; omega
              · by_cases h9 : k = 0
                · have z0 : ¬ (0 : Int) < (k : Int) := by omega
                  have h9' := hid h9
                  clear h9
                  go_wp2
                  refine ⟨⟨k + 1, by omega, rfl, fun j hj => ?_, rfl⟩, by simp [intOf]; omega⟩
                  by_cases hjk : j = k
                  · subst hjk; rw [HZ.out]; exact ⟨by omega, by omega, fun h => by omega⟩
                  · exact HA.out j (by omega)
                · have z0 : (0 : Int) < (k : Int) := by omega
                  have hcp := HC.out (k - 1) (by omega)
                  generalize hzp : zs.getD (k - 1) 0 = y at hcp
                  have HY := hid hzp
                  clear hzp
                  have z1 : ((k : Int) - 1).toNat = k - 1 := by omega
                  by_cases h10 : z ≤ y
                  · go_wp2
                    go_ret
                    refine ⟨ret_int ?_, (by repeat (first | exact Und.refl _ | assumption | refine Und.under ?_ _ | refine Und.alloc ?_ _ | refine Und.drew ?_ | refine Und.drewN ?_ _))⟩
                    rw [HR.out, if_neg]
                    intro hd
                    have := (hd k (by omega)).2.2 (by omega)
                    rw [HZ.out, HY.out] at this; omega
                  · go_wp2
                    refine ⟨⟨k + 1, by omega, rfl, fun j hj => ?_, rfl⟩, by simp [intOf]; omega⟩
                    by_cases hjk : j = k
                    · subst hjk; rw [HZ.out, HY.out]; exact ⟨by omega, by omega, fun h => by omega⟩
                    · exact HA.out j (by omega)
          · have hk' : k = m := by omega
            subst hk'
            go_wp2
            go_ret
            refine ⟨ret_int ?_, (by repeat (first | exact Und.refl _ | assumption | refine Und.under ?_ _ | refine Und.alloc ?_ _ | refine Und.drew ?_ | refine Und.drewN ?_ _))⟩
            rw [HR.out, if_pos]
            intro j hj
            exact HA.out j (by omega)
end Go.Proofs.YthgmlkeojhfijaaDoor
