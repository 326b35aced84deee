/- The walk of MarkupEncodes. Conditions: the lists lie in memory and are no longer than the form's reach, the library's table of powers of ten stands. -/
import Derived.Test.YtiifjfbfkhhpeaaGreatDoorMkEnc
import Derived.Test.YtiifjfbfkhhpeaaGreatDoorRdsB
import Derived.Test.YtiifjfbfkhhpeaaGreatDoorFew7
import Derived.Test.YtiifjfbfkhhpeaaGreatDoorRdsA
set_option linter.unusedVariables false
set_option linter.unusedSimpArgs false
namespace Go.Proofs.YtiifjfbfkhhpeaaGreatDoor
open Go.RowKit

set_option maxRecDepth 20000 in
set_option maxHeartbeats 6400000 in
theorem eslaw_any (A B : Option Addr) (n c m d : Nat) (f : List St.It) (zs : List Int) (w : World) (hL : Mk.LibAt w) (hn : f.length = n) (hnc : n ≤ c) (hc32 : c * 32 ≤ 140737488355327) (hA : A = none → c = 0) (h : ItemsAt w A f) (hsz : ∀ y ∈ f, y.2.1.length ≤ 140737488355327) (hz : zs.length = m) (hm : m ≤ 9223372036854775807) (hI : IntsAt w B zs) :
    Calls Tryz.prog 3 #[.slice A n c, .slice B m d] w fun e w' => e = .returned (.bool true) ∧ Und w w' := by

  have HKN := hid (fun W (hW : Und w W) => Mk.known_any W (hL.und hW))
  have hfew := few_any A n c f w hn h (by omega)
  have hft := fun h1 h2 => few_true (f := f) (n := n) hn h1 h2 hsz
  have HG := hid (GenP.fresh (c := d) (T := 29) hm hz hI)
  have H := hid h
  have HN := hid hn
  have HA := hid hA
  clear hI h hn hsz hA hL
  obtain ⟨b, hb⟩ : ∃ b, (decide (n ≤ 30) && decide (wrap64 (tot f : Nat) ≤ 500)) = b := ⟨_, rfl⟩
  rw [hb] at hfew
  have hbt : b = true → n ≤ 30 ∧ tot f ≤ 500 := by
    intro e
    rw [e] at hb
    have h1 := of_decide_eq_true (Bool.and_eq_true_iff.1 hb).1
    have h2 := of_decide_eq_true (Bool.and_eq_true_iff.1 hb).2
    exact ⟨h1, hft h1 h2⟩
  have HFEW := hid hfew
  clear hfew hb hft
  cases b
  · go_enter Tryz.func3, Tryz.ntmps3
    go_wp2_with fail
    refine HFEW.out.mono ?_
    rintro e w2 ⟨rfl, rfl⟩
    go_wp2_with fail
    refine (HKN.out _ (Und.refl _)).mono ?_
    rintro e w2 ⟨rfl, hu⟩
    have HU := hid hu
    clear hu
    go_wp2
    go_ret
    exact ⟨rfl, HU.out⟩
  obtain ⟨hn30, htf⟩ := hbt rfl
  clear hbt
  by_cases q1 : 100 < m
  · have z1 : (100 : Int) < (m : Int) := by omega
    go_enter Tryz.func3, Tryz.ntmps3
    go_wp2_with fail
    refine HFEW.out.mono ?_
    rintro e w2 ⟨rfl, rfl⟩
    go_wp2_with fail
    refine (HKN.out _ (Und.refl _)).mono ?_
    rintro e w2 ⟨rfl, hu⟩
    have HU := hid hu
    clear hu
    go_wp2
    go_ret
    exact ⟨rfl, HU.out⟩
  have z1 : ¬ (100 : Int) < (m : Int) := by omega
  go_enter Tryz.func3, Tryz.ntmps3
  go_wp2_with fail
  refine HFEW.out.mono ?_
  rintro e w2 ⟨rfl, rfl⟩
  go_wp2_with fail
  refine (fragt_gen (w.heap.size + 1) w.heap.size 0 8 _ HG.out (by omega) (by omega)).mono ?_
  rintro e w2 ⟨v, g, op, c', rfl, ho, hgen, hgl, hgt, hG2, hk⟩
  obtain ⟨A2, c2, rfl, h21, h22, h23⟩ := own_slice' ho
  have hu2 : Und w w2 := ((Und.refl w).alloc _).of_gb hk (fun x e => by cases e; exact Nat.le_refl _)
  have hIg := items_own ho rfl
  have hcm : c ≤ 9223372036854775807 := by omega
  have h1 := fun (W : World) (hW : Und w W) => mencode_any A n c f W HN.out hnc hcm (H.out.und hW) (by omega) (by omega)
  have h2 := fun (W : World) (hW : Und w W) => rencode_any 1 A n c f W HN.out hnc hcm HA.out (H.out.und hW) (by omega) (by omega)
  have h3 := fun (W : World) (hW : Und w2 W) => mencode_any A2 g.length c2 g W rfl h21 (by unfold maxLen at h22; omega) (hIg.und hW) (by omega) (by omega)
  have h4 := fun (W : World) (hW : Und w2 W) => rencode_any 1 A2 g.length c2 g W rfl h21 (by unfold maxLen at h22; omega) h23 (hIg.und hW) (by omega) (by omega)
  generalize (⟨(St.encS 1 f).1.toArray⟩ : ByteArray) = s1 at h1 h2
  generalize (St.encS 1 f).2 = e1 at h1 h2
  generalize (⟨(St.encS 1 g).1.toArray⟩ : ByteArray) = s2 at h3 h4
  generalize (St.encS 1 g).2 = e2 at h3 h4
  have H1 := hid h1
  have H2 := hid h2
  have H3 := hid h3
  have H4 := hid h4
  have HU2 := hid hu2
  have y1 : (s1.toList == s1.toList) = true := beq_self_eq_true _
  have y2 : (s2.toList == s2.toList) = true := beq_self_eq_true _
  have y3 : (e1 == e1) = true := beq_self_eq_true _
  have y4 : (e2 == e2) = true := beq_self_eq_true _
  clear h1 h2 h3 h4 hu2 ho hgen hG2 hk hIg HG HFEW
  go_wp2_with fail
  refine (H1.out _ HU2.out).mono ?_
  rintro e w3 ⟨rfl, hu3⟩
  have HU3 := hid hu3
  clear hu3
  go_wp2_with fail
  refine (H2.out _ (HU2.out.trans HU3.out)).mono ?_
  rintro e w4 ⟨rfl, hu4⟩
  have HU4 := hid (HU3.out.trans hu4)
  clear hu4 HU3
  go_wp2_with fail
  refine (H3.out _ HU4.out).mono ?_
  rintro e w5 ⟨rfl, hu5⟩
  have HU5 := hid (HU4.out.trans hu5)
  clear hu5 HU4
  go_wp2_with fail
  refine (H4.out _ HU5.out).mono ?_
  rintro e w6 ⟨rfl, hu6⟩
  have HU6 := hid (HU2.out.trans (HU5.out.trans hu6))
  clear hu6 HU5
  go_wp2_with fail
  refine (HKN.out _ HU6.out).mono ?_
  rintro e w7 ⟨rfl, hu7⟩
  have HU7 := hid (HU6.out.trans hu7)
  clear hu7
  go_wp2
  go_ret
  exact ⟨rfl, HU7.out⟩
end Go.Proofs.YtiifjfbfkhhpeaaGreatDoor
