/- The contracts of the reference's SameUsers at two lists of the same users, and of the laws' parses: it returns true for any text. Conditions: the library's variables lie in memory. -/
import Derived.Test.YthgmlkeojhfijaaDoorRoleParseRef
namespace Go.Proofs.YthgmlkeojhfijaaDoor
open Go.RowKit

def SmRel (w : World) (n : Nat) (i : Value) (wr : World) : Prop := ∃ k : Nat, k ≤ n ∧ i = .int .i64 k ∧ Und w wr

set_option maxHeartbeats 6400000 in
theorem same_any (A B : Option Addr) (n c1 c2 : Nat) (us : List UserD) (w : World) (hn : us.length = n) (hc1 : n ≤ c1) (hc2 : n ≤ c2) (h63 : c1 ≤ 9223372036854775807) (h63' : c2 ≤ 9223372036854775807) (hA : UsersAt w A us) (hB : UsersAt w B us) :
    Calls Tryd.prog 24 #[.slice A n c1, .slice B n c2] w fun e w' => e = .returned (.bool true) ∧ Und w w' := by
  have HA := hid hA
  have HB := hid hB
  have HN := hid hn
  clear hA hB hn
  go_enter Tryd.func24, Tryd.ntmps24
  go_wp2
  go_loopw [14] (fun i wr => SmRel w n i wr) (fun i _ => n + 1 - (intOf i).toNat)
  case atStart => exact ⟨0, by omega, rfl, Und.refl _⟩
  case round =>
    obtain ⟨k, hk, rfl, hu⟩ := hrel
    have HU := hid hu
    clear hu
    by_cases hlt : k < n
    · have hlt2 : k < us.length := by rw [HN.out]; exact hlt
      obtain ⟨b, o, rfl, hb, hc⟩ := (HA.out.und HU.out) (by omega)
      obtain ⟨b', o', rfl, hb', hc'⟩ := (HB.out.und HU.out) (by omega)
      obtain ⟨D, d, h1, h2, h3, h4, h5, h6⟩ := hc k hlt2
      obtain ⟨D', d', h1', h2', h3', h4', s5, s6⟩ := hc' k hlt2
      clear s5 s6
      generalize us[k] = u at h1 h2 h3 h4 h5 h6 h1' h2' h3' h4'
      obtain ⟨nm, r, zs⟩ := u
      simp only at h1 h2 h3 h4 h5 h6 h1' h2' h3' h4'
      have H4 := hid h4
      have H4' := hid h4'
      haveI : LtW b wr := LtW.of hb
      haveI : LtW b' wr := LtW.of hb'
      have hnn : (nm.toList == nm.toList) = true := beq_self_eq_true _
      generalize hzl : zs.length = m at h3 h3' h6
      have HZL := hid hzl
      clear hc hc' h4 h4' hlt2 hzl
      obtain ⟨wo, rfl⟩ : ∃ wo : World, wo = wr := ⟨_, rfl⟩
      go_wp2_with fail
      first | refine wp_region_under2 (by kernel_rfl) (by kernel_rfl) ?_ | refine wp_region_under (by kernel_rfl) (by kernel_rfl) ?_
      repeat (go_big_quiet_step (first | (fail)))
      refine wpQuiet_nil ?_
      rintro _ ⟨X, rfl⟩
      go_wp2_with fail
      go_loopw [62] (fun i wi => SmRel wo m i wi) (fun i _ => m + 1 - (intOf i).toNat)
      case atStart => exact ⟨0, by omega, rfl, (by repeat (first | exact Und.refl _ | assumption | refine Und.under ?_ _ | refine Und.alloc ?_ _ | refine Und.drew ?_ | refine Und.drewN ?_ _))⟩
      case round =>
        obtain ⟨j, hj, rfl, hu⟩ := hrel
        have HU2 := hid hu
        have g1 := (hu.cell (p := ⟨b, o + k * 3 + 2, none⟩) hb).trans h3
        have g1' := (hu.cell (p := ⟨b', o' + k * 3 + 2, none⟩) hb').trans h3'
        have hbw : b < wr.heap.size := Nat.lt_of_lt_of_le hb hu.size
        have hbw' : b' < wr.heap.size := Nat.lt_of_lt_of_le hb' hu.size
        haveI : LtW b wr := LtW.of hbw
        haveI : LtW b' wr := LtW.of hbw'
        clear hu h1 h2 h3 h1' h2' h3'
        by_cases hjl : j < m
        · obtain ⟨x, p, rfl, hx, hxc⟩ := (H4.out.und HU2.out) (by have := HZL.out; omega)
          obtain ⟨x', p', rfl, hx', hxc'⟩ := (H4'.out.und HU2.out) (by have := HZL.out; omega)
          have e1 := hxc j (by have := HZL.out; omega)
          have e1' := hxc' j (by have := HZL.out; omega)
          generalize zs.getD j 0 = z at e1 e1'
          haveI : LtW x wr := LtW.of hx
          haveI : LtW x' wr := LtW.of hx'
          clear hxc hxc'
          go_wp2_with fail
          first | refine wp_region_under2 (by kernel_rfl) (by kernel_rfl) ?_ | refine wp_region_under (by kernel_rfl) (by kernel_rfl) ?_
          repeat (go_big_quiet_step (first | (fail)))
          refine wpQuiet_nil ?_
          rintro _ ⟨X, rfl⟩
          go_wp2
          refine ⟨⟨j + 1, by omega, rfl, HU2.out.trans (by repeat (first | exact Und.refl _ | assumption | refine Und.under ?_ _ | refine Und.alloc ?_ _ | refine Und.drew ?_ | refine Und.drewN ?_ _))⟩, by simp [intOf]; omega⟩
        · obtain rfl : j = m := by omega
          clear hjl
          go_wp2
          refine ⟨⟨k + 1, by omega, rfl, HU.out.trans HU2.out⟩, by simp [intOf]; omega⟩
    · obtain rfl : k = n := by omega
      clear hlt
      go_wp2
      go_ret
      exact ⟨rfl, HU.out⟩

set_option maxHeartbeats 3200000 in
theorem parses_any (s : ByteArray) (w : World) (hs : s.size ≤ 9223372036854775807) (hL : LibAt w) : Calls Tryd.prog 19 #[.string s] w fun e w' => e = .returned (.bool true) ∧ Und w w' := by
  have HL := hid hL
  clear hL
  go_enter Tryd.func19, Tryd.ntmps19
  go_wp2_with fail
  refine (parse_any s _ hs HL.out).mono ?_
  rintro e w1 ⟨us, n, er, A, c, hp, rfl, hU, h1, h2, hu⟩
  have HP := hid hp
  have HU := hid hU
  have HX := hid hu
  clear hp hU hu
  go_wp2_with fail
  refine (rparse_any s _ hs).mono ?_
  rintro e w2 ⟨us', n', er', B, c', hp', rfl, hU', h1', h2', hu'⟩
  rw [HP.out] at hp'
  simp only [Prod.mk.injEq] at hp'
  obtain ⟨rfl, rfl, rfl⟩ := hp'
  have HU' := hid hU'
  have HX' := hid hu'
  clear hU' hu'
  go_wp2_with fail
  refine (same_any A B us.length c c' us _ rfl h1 h1' h2 h2' (HU.out.und HX'.out) HU'.out).mono ?_
  rintro e w' ⟨rfl, X, rfl⟩
  go_wp2
  go_ret
  exact ⟨rfl, HX.out.trans (HX'.out.trans (by repeat (first | exact Und.refl _ | assumption | refine Und.under ?_ _ | refine Und.alloc ?_ _ | refine Und.drew ?_ | refine Und.drewN ?_ _)))⟩
end Go.Proofs.YthgmlkeojhfijaaDoor
