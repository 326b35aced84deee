/- The contracts of the law package's made, raws and changed. Conditions: the lists lie in memory. -/
import Derived.Test.YtdchoobekngehaaGreatDoorMakeRaws
import Derived.Lib.ConvBytes
namespace Go.Proofs.YtdchoobekngehaaGreatDoor
open Go.RowKit

/-- A fragment in memory. -/
def FragAt (w : World) (A : Option Addr) (c : Nat) (f : List St.It) (n : Nat) : Prop := ItemsAt w A f ∧ GoodF f ∧ f.length ≤ n ∧ tot f ≤ 18 * n ∧ f.length ≤ c ∧ c ≤ 9223372036854775807 ∧ ∀ b off, A = some ⟨b, off, none⟩ → b < w.heap.size
theorem FragAt.und {w w' : World} {A : Option Addr} {c : Nat} {f : List St.It} {n : Nat} (h : FragAt w A c f n) (u : Und w w') : FragAt w' A c f n := by
  obtain ⟨h1, h2, h3, h4, h5, h6, h7⟩ := h
  exact ⟨h1.und u, h2, h3, h4, h5, h6, fun b off e => Nat.lt_of_lt_of_le (h7 b off e) u.size⟩
theorem own_block_lt {w : World} {B n c : Nat} {A : Option Addr} {e : TypeId} {size : Nat} {xs : List Value} (h : w.ownsRow B e size (.slice A n c) n xs) : ∀ b off, A = some ⟨b, off, none⟩ → b < w.heap.size := by
  intro b off e'
  subst e'
  exact (h.lt b rfl).2
set_option maxHeartbeats 3200000 in
theorem made_any (A : Option Addr) (n c : Nat) (zs : List Int) (w : World) (hz : zs.length = n) (hn : n ≤ 9223372036854775807) (hI : IntsAt w A zs) :
    Calls Tryz.prog 13 #[.slice A n c] w fun e w' => ∃ A2 c2 f, e = .returned (.slice A2 f.length c2) ∧ FragAt w' A2 c2 f 8 ∧ Und w w' := by
  have HG := hid (GenP.fresh (c := c) (T := 29) hn hz hI)
  clear hI
  go_enter Tryz.func13, Tryz.ntmps13
  go_wp2_with fail
  refine (frag_gen (w.heap.size + 1) w.heap.size 0 8 _ HG.out (by omega) (by omega)).mono ?_
  rintro e w2 ⟨v, f, rfl, ho, hgd, hfl, hft, hG2, hk⟩
  obtain ⟨A2, c2, rfl, h1, h2, _⟩ := own_slice' ho
  have hu : Und w w2 := ((Und.refl w).alloc _).of_gb hk (fun g e => by cases e; exact Nat.le_refl _)
  have hF : FragAt w2 A2 c2 f 8 := ⟨items_own ho rfl, hgd, hfl, hft, h1, by unfold maxLen at h2; omega, own_block_lt ho⟩
  have HE := hid (And.intro hF hu)
  clear ho hgd hG2 hk hu hF
  go_wp2
  go_ret
  exact ⟨A2, c2, f, rfl, HE.out.1, HE.out.2⟩
set_option maxHeartbeats 3200000 in
theorem raws_any (A B : Option Addr) (n c m d : Nat) (zs ys : List Int) (w : World) (hz : zs.length = n) (hn : n ≤ 9223372036854775807) (hI : IntsAt w A zs) (hy : ys.length = m) (hm : m ≤ 9223372036854775807) (hJ : IntsAt w B ys) :
    Calls Tryz.prog 18 #[.slice A n c, .slice B m d] w fun e w' => ∃ raw A2 c2 f, e = .returned (.tuple #[.string raw, .slice A2 f.length c2]) ∧ FragAt w' A2 c2 f 8 ∧ RawsOf 3 f raw ∧ raw.size ≤ 6080 ∧ Und w w' := by
  have HM := hid (made_any A n c zs w hz hn hI)
  have HJ := hid hJ
  clear hI hJ
  go_enter Tryz.func18, Tryz.ntmps18
  go_wp2_with fail
  refine HM.out.mono ?_
  rintro e w2 ⟨A2, c2, f, rfl, hF, hu⟩
  have HG := hid (GenP.fresh (c := d) (T := 29) hm hy (HJ.out.und hu))
  have HF := hid hF
  have HU := hid hu
  clear hF hu HM
  go_wp2_with fail
  refine (raws_gen 3 long_sheet (w2.heap.size + 1) w2.heap.size 0 A2 f.length c2 f _ HG.out (by omega) rfl HF.out.2.2.2.2.1 HF.out.2.2.2.2.2.1 (HF.out.1.und ((Und.refl _).alloc _)) (fun b off e => by have := HF.out.2.2.2.2.2.2 b off e; omega) (by have := HF.out.2.2.1; omega) (by have := HF.out.2.2.2.1; omega) HF.out.2.1).mono ?_
  rintro e w3 ⟨raw, rfl, hR, hrs, hG3, hk⟩
  have hu3 : Und w2 w3 := ((Und.refl w2).alloc _).of_gb hk (fun g e => by cases e; exact Nat.le_refl _)
  have hb1 := HF.out.2.2.1
  have hb2 := HF.out.2.2.2.1
  have HE := hid (And.intro (HF.out.und hu3) (And.intro hR (HU.out.trans hu3)))
  clear hR hG3 hk hu3 HF HU HG
  go_wp2
  go_ret2
  exact ⟨raw, A2, c2, f, rfl, HE.out.1, HE.out.2.1, by omega, HE.out.2.2⟩
end Go.Proofs.YtdchoobekngehaaGreatDoor
