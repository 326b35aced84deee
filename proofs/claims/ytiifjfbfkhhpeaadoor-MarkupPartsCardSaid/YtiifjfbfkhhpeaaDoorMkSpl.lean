/- The law MarkupSplits: walk. Condition: the library's tables lie at their places. -/
import Derived.Test.YtiifjfbfkhhpeaaDoorMakeData7
import Derived.Test.YtiifjfbfkhhpeaaDoorRMkSpl
import Derived.Test.YtiifjfbfkhhpeaaDoorRdsC
set_option linter.unusedVariables false
set_option linter.unusedSimpArgs false
namespace Go.Proofs.YtiifjfbfkhhpeaaDoor
open Go.RowKit

def BzRel (w : World) (m : Nat) (i : Value) (wr : World) : Prop := ∃ k : Nat, k ≤ m ∧ i = .int .i64 k ∧ Und w wr
/-- Data by a maker of the call's own. -/
theorem data7_own (A : Option Addr) (n c : Nat) (zs : List Int) (w : World) (hz : zs.length = n) (hn : n ≤ 9223372036854775807) (hI : IntsAt w A zs) (T : TypeId) :
    Calls Tryd.prog 12 #[.pointer (some ⟨w.heap.size, 0, none⟩), .int .i64 1, .int .i64 4] (w.alloc (.cells #[.slice A n c, .int .i64 0] T)) fun e w' => ∃ data : ByteArray, e = .returned (.string data) ∧ DataOf7 4 data ∧ data.size ≤ 24013 ∧ Und w w' := by
  refine (data7_gen (w.heap.size + 1) w.heap.size 0 4 _ (GenP.fresh hn hz hI) (by omega) (by omega)).mono ?_
  rintro e w2 ⟨data, rfl, hD, hs, _, hk⟩
  exact ⟨data, rfl, hD, by omega, ((Und.refl w).alloc _).of_gb hk (fun g e => by cases e; exact Nat.le_refl _)⟩

set_option maxRecDepth 20000 in
set_option maxHeartbeats 12800000 in
theorem spllaw_any (s : ByteArray) (at' by' : Int) (A : Option Addr) (n c : Nat) (zs : List Int) (w : World) (hL : Mk.LibAt w) (hs : s.size ≤ 9223372036854775807) (hz : zs.length = n) (hn : n ≤ 9223372036854775807) (hI : IntsAt w A zs) :
    Calls Tryd.prog 4 #[.string s, .slice A n c, .int .i64 at', .int .u8 by'] w fun e w' => e = .returned (.bool true) ∧ Und w w' := by
  have HLB := hid hL
  have HKN := hid (fun W (hW : Und w W) => Mk.known_any W (HLB.out.und hW))
  have HDA := hid (data7_own A n c zs w hz hn hI 35)
  clear hI hL
  by_cases q0 : 400 < s.size
  · have z0 : (400 : Int) < (s.size : Int) := by omega
    go_enter Tryd.func4, Tryd.ntmps4
    go_wp2_with fail
    refine (HKN.out _ (Und.refl _)).mono ?_
    rintro e w2 ⟨rfl, hu⟩
    have HU := hid hu
    clear hu
    go_wp2
    go_ret
    exact ⟨rfl, HU.out⟩
  have z0 : ¬ (400 : Int) < (s.size : Int) := by omega
  by_cases q1 : 200 < n
  · have z1 : (200 : Int) < (n : Int) := by omega
    go_enter Tryd.func4, Tryd.ntmps4
    go_wp2_with fail
    refine (HKN.out _ (Und.refl _)).mono ?_
    rintro e w2 ⟨rfl, hu⟩
    have HU := hid hu
    clear hu
    go_wp2
    go_ret
    exact ⟨rfl, HU.out⟩
  have z1 : ¬ (200 : Int) < (n : Int) := by omega
  go_enter Tryd.func4, Tryd.ntmps4
  go_wp2_with fail
  refine HDA.out.mono ?_
  rintro e w2 ⟨raw, rfl, _, hrs, hu⟩
  have HU := hid hu
  clear hu HDA
  go_wp2_with fail
  refine (changed_any raw at' by' w2 (by omega)).mono ?_
  rintro e w3 ⟨u, rfl, hus, hu3⟩
  have HU3 := hid (HU.out.trans hu3)
  clear hu3 HU
  go_wp2_with fail
  go_loopw [38] (fun i wr => BzRel w 3 i wr) (fun i _ => 4 - (intOf i).toNat)
  case atStart => exact ⟨0, by omega, rfl, HU3.out⟩
  case round =>
    obtain ⟨k, hk, rfl, hu⟩ := hrel
    have HU := hid hu
    clear hu HU3
    obtain ⟨ia, ib, ic⟩ := ix3 s raw u wr
    rcases (show k = 0 ∨ k = 1 ∨ k = 2 ∨ k = 3 by omega) with rfl | rfl | rfl | rfl
    · have hx : s.size ≤ 100000 := by omega
      have HSP := hid (fun W (hW : Und w W) => Mk.msplit_any s W (HLB.out.und hW) (by omega))
      have HRS := hid (fun W => Mk.rsplit_any s W (by omega))
      generalize Mk.mkT s = R at HSP HRS
      obtain ⟨f1, at1, er1⟩ := R
      go_wp2_with fail
      refine (HSP.out _ HU.out).mono ?_
      rintro e w4 ⟨A3, c3, rfl, hI3, h31, h32, hu4⟩
      have HI3 := hid hI3
      have HU4 := hid (HU.out.trans hu4)
      clear hI3 hu4 HSP HU
      go_wp2_with fail
      refine (HRS.out _).mono ?_
      rintro e w5 ⟨A4, c4, rfl, hI4, h41, h42, hu5⟩
      simp only at hI4 h31 h41 ⊢
      have hs := fun W (hW : Und w5 W) => sameParts_any A3 A4 f1.length f1.length c3 c4 f1 f1 W rfl rfl h31 h41 h32 h42 ((HI3.out.und hu5).und hW) (hI4.und hW)
      rw [decide_eq_true rfl] at hs
      have HS := hid hs
      have HU5 := hid (HU4.out.trans hu5)
      have v1 : (er1 == er1) = true := beq_self_eq_true _
      have v2 : ((at1 : Int) == (at1 : Int)) = true := beq_self_eq_true _
      clear hs hI4 hu5 HRS HU4 HI3
      go_wp2_with fail
      refine (HS.out _ (Und.refl _)).mono ?_
      rintro e w7 ⟨rfl, hu7⟩
      have HU7 := hid (HU5.out.trans hu7)
      clear hu7 HS HU5
      go_wp2
      exact ⟨⟨1, by omega, rfl, HU7.out⟩, by simp [intOf]⟩
    · have hx : raw.size ≤ 100000 := by omega
      have HSP := hid (fun W (hW : Und w W) => Mk.msplit_any raw W (HLB.out.und hW) (by omega))
      have HRS := hid (fun W => Mk.rsplit_any raw W (by omega))
      generalize Mk.mkT raw = R at HSP HRS
      obtain ⟨f1, at1, er1⟩ := R
      go_wp2_with fail
      refine (HSP.out _ HU.out).mono ?_
      rintro e w4 ⟨A3, c3, rfl, hI3, h31, h32, hu4⟩
      have HI3 := hid hI3
      have HU4 := hid (HU.out.trans hu4)
      clear hI3 hu4 HSP HU
      go_wp2_with fail
      refine (HRS.out _).mono ?_
      rintro e w5 ⟨A4, c4, rfl, hI4, h41, h42, hu5⟩
      simp only at hI4 h31 h41 ⊢
      have hs := fun W (hW : Und w5 W) => sameParts_any A3 A4 f1.length f1.length c3 c4 f1 f1 W rfl rfl h31 h41 h32 h42 ((HI3.out.und hu5).und hW) (hI4.und hW)
      rw [decide_eq_true rfl] at hs
      have HS := hid hs
      have HU5 := hid (HU4.out.trans hu5)
      have v1 : (er1 == er1) = true := beq_self_eq_true _
      have v2 : ((at1 : Int) == (at1 : Int)) = true := beq_self_eq_true _
      clear hs hI4 hu5 HRS HU4 HI3
      go_wp2_with fail
      refine (HS.out _ (Und.refl _)).mono ?_
      rintro e w7 ⟨rfl, hu7⟩
      have HU7 := hid (HU5.out.trans hu7)
      clear hu7 HS HU5
      go_wp2
      exact ⟨⟨2, by omega, rfl, HU7.out⟩, by simp [intOf]⟩
    · have hx : u.size ≤ 100000 := by omega
      have HSP := hid (fun W (hW : Und w W) => Mk.msplit_any u W (HLB.out.und hW) (by omega))
      have HRS := hid (fun W => Mk.rsplit_any u W (by omega))
      generalize Mk.mkT u = R at HSP HRS
      obtain ⟨f1, at1, er1⟩ := R
      go_wp2_with fail
      refine (HSP.out _ HU.out).mono ?_
      rintro e w4 ⟨A3, c3, rfl, hI3, h31, h32, hu4⟩
      have HI3 := hid hI3
      have HU4 := hid (HU.out.trans hu4)
      clear hI3 hu4 HSP HU
      go_wp2_with fail
      refine (HRS.out _).mono ?_
      rintro e w5 ⟨A4, c4, rfl, hI4, h41, h42, hu5⟩
      simp only at hI4 h31 h41 ⊢
      have hs := fun W (hW : Und w5 W) => sameParts_any A3 A4 f1.length f1.length c3 c4 f1 f1 W rfl rfl h31 h41 h32 h42 ((HI3.out.und hu5).und hW) (hI4.und hW)
      rw [decide_eq_true rfl] at hs
      have HS := hid hs
      have HU5 := hid (HU4.out.trans hu5)
      have v1 : (er1 == er1) = true := beq_self_eq_true _
      have v2 : ((at1 : Int) == (at1 : Int)) = true := beq_self_eq_true _
      clear hs hI4 hu5 HRS HU4 HI3
      go_wp2_with fail
      refine (HS.out _ (Und.refl _)).mono ?_
      rintro e w7 ⟨rfl, hu7⟩
      have HU7 := hid (HU5.out.trans hu7)
      clear hu7 HS HU5
      go_wp2
      exact ⟨⟨3, by omega, rfl, HU7.out⟩, by simp [intOf]⟩
    · go_wp2_with fail
      refine (HKN.out _ HU.out).mono ?_
      rintro e w5 ⟨rfl, hu5⟩
      have HU5 := hid (HU.out.trans hu5)
      clear hu5
      go_wp2
      go_ret
      exact ⟨rfl, HU5.out⟩
end Go.Proofs.YtiifjfbfkhhpeaaDoor
