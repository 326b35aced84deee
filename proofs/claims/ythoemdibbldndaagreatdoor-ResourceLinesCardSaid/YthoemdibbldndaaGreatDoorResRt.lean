/- The walk of ResourceRoundTrips. Conditions: the list lies in memory. -/
import Derived.Test.YthoemdibbldndaaGreatDoorResEnc
import Derived.Test.YthoemdibbldndaaGreatDoorGoodPl
import Derived.Test.YthoemdibbldndaaGreatDoorRefNum
import Derived.Test.YthoemdibbldndaaGreatDoorRsB
import Derived.Test.YthoemdibbldndaaGreatDoorRsA
import Derived.Test.YthoemdibbldndaaGreatDoorRefSame
set_option linter.unusedVariables false
set_option linter.unusedSimpArgs false
namespace Go.Proofs.YthoemdibbldndaaGreatDoor
open Go.RowKit

set_option maxHeartbeats 3200000 in
theorem made2_any (A : Option Addr) (n c : Nat) (zs : List Int) (w : World) (hz : zs.length = n) (hn : n ≤ 9223372036854775807) (hI : IntsAt w A zs) :
    Calls Tryz.prog 41 #[.slice A n c] w fun e w' => ∃ A2 c2 f, e = .returned (.slice A2 f.length c2) ∧ FragAt w' A2 c2 f 8 ∧ (A2 = none → c2 = 0) ∧ Und w w' := by
  have HG := hid (GenP.fresh (c := c) (T := 61) hn hz hI)
  clear hI
  go_enter Tryz.func41, Tryz.ntmps41
  go_wp2_with fail
  refine (frag_gen (w.heap.size + 1) w.heap.size 0 8 _ HG.out (by omega) (by omega)).mono ?_
  rintro e w2 ⟨v, f, rfl, ho, hgd, hfl, hft, hG2, hk⟩
  obtain ⟨A2, c2, rfl, h1, h2, h3⟩ := own_slice' ho
  have hu : Und w w2 := ((Und.refl w).alloc _).of_gb hk (fun g e => by cases e; exact Nat.le_refl _)
  have hF : FragAt w2 A2 c2 f 8 := ⟨items_own ho rfl, hgd, hfl, hft, h1, by unfold maxLen at h2; omega, own_block_lt ho⟩
  have HE := hid (And.intro hF (And.intro h3 hu))
  clear ho hgd hG2 hk hu hF
  go_wp2
  go_ret
  exact ⟨A2, c2, f, rfl, HE.out.1, HE.out.2.1, HE.out.2.2⟩
theorem encI_bound (fmt : Int) (x : St.It) : (St.encI fmt x).length ≤ 5 * x.2.1.length + 5 := by
  have := enc_sz fmt x.2.1
  unfold St.encI
  repeat' split
  all_goals (try simp only [List.length_append, List.length_cons, List.length_nil])
  all_goals omega
theorem encF_bound (fmt : Int) (f : List St.It) : (f.flatMap (St.encI fmt)).length ≤ 5 * tot f + 5 * f.length := by
  induction f with
  | nil => simp
  | cons x f ih =>
    have := encI_bound fmt x
    rw [List.flatMap_cons, List.length_append, List.length_cons]
    have e : tot (x :: f) = x.2.1.length + tot f := by simp [tot]
    rw [e]; omega
theorem tagless_good {f : List St.It} (h : GoodF f) : Tagless f := by
  intro x hx
  obtain ⟨_, h1 | ⟨h1, _⟩⟩ := h.2 x hx
  · rw [h1]; rfl
  · rw [h1]; rfl
/-- The encoding of a joined list is a raw content of its pieces. -/
theorem raws_enc (fmt : Int) {f : List St.It} : RawsOf fmt f ⟨(f.flatMap (St.encI fmt)).toArray⟩ := by
  refine ⟨(St.posI f).map (fun p => (St.encI fmt p, p)), ?_, ?_, ?_⟩
  · show (f.flatMap (St.encI fmt)).toArray.toList = _
    rw [St.enc_pos]
    unfold St.flatP
    rw [List.flatMap_map]
  · unfold St.itsP
    rw [List.map_map]
    show (St.posI f).map (fun p => p) = _
    simp
  · intro p hp
    obtain ⟨q, _, rfl⟩ := List.mem_map.1 hp
    exact .inl rfl
end Go.Proofs.YthoemdibbldndaaGreatDoor
