/- Plain: how long an encoding may be; fragments with one more text; the law package's made once more. -/
import Derived.Test.YtiifjfbfkhhpeaaGreatDoorMkEnc
import Derived.Test.YtiifjfbfkhhpeaaGreatDoorRdsC
import Derived.Test.YtiifjfbfkhhpeaaGreatDoorRefNumT
set_option linter.unusedVariables false
set_option linter.unusedSimpArgs false
namespace Go.Proofs.YtiifjfbfkhhpeaaGreatDoor
open Go.RowKit

theorem encI_bound (fmt : Int) (x : St.It) : (St.encI fmt x).length ≤ 5 * x.2.1.length + 5 := by
  have := enc_sz fmt x.2.1
  unfold St.encI
  repeat' split
  all_goals (try simp only [List.length_append, List.length_cons, List.length_nil])
  all_goals omega
theorem encF_bound (fmt : Int) (f : List St.It) : (f.flatMap (St.encI fmt)).length ≤ 5 * tot f + 5 * f.length := by
  induction f with
  | nil => simp
  | cons x f ih =>
    have := encI_bound fmt x
    rw [List.flatMap_cons, List.length_append, List.length_cons]
    have e : tot (x :: f) = x.2.1.length + tot f := by simp [tot]
    rw [e]; omega
/-- A fragment with one more text. -/
theorem good_addT {f : List St.It} (h : St.GoodT f) (t : List UInt8) : St.GoodT (St.addI f (1, t, 0)) := by
  obtain ⟨c, hc⟩ := h.ok
  refine ⟨St.nm_add h.nm _, fun x hx => ?_, St.noclash_text h.clash t, c, ?_⟩
  · rcases St.mem_addI hx with hx | rfl | ⟨h1, h2, _⟩
    · exact h.items x hx
    · exact .inl ⟨rfl, rfl⟩
    · exact .inl ⟨h1, h2⟩
  · rw [St.posI_text, St.okT_append _ _ _ _ hc]; exact St.okT_bytes _ _ _
/-- The encoding of a fragment is a raw content of its pieces. -/
theorem raws_encT (f : List St.It) : RawsT f ⟨(f.flatMap (St.encI 1)).toArray⟩ := by
  refine ⟨St.encT (St.posI f), ?_, St.encT_its _, fun p hp => ?_⟩
  · show (f.flatMap (St.encI 1)).toArray.toList = _
    rw [St.encT_flat, ← St.enc_pos']
  · unfold St.encT at hp
    obtain ⟨q, _, rfl⟩ := List.mem_map.1 hp
    exact .inl rfl
set_option maxHeartbeats 3200000 in
theorem made2T_any (A : Option Addr) (n c : Nat) (zs : List Int) (w : World) (hz : zs.length = n) (hn : n ≤ 9223372036854775807) (hI : IntsAt w A zs) :
    Calls Tryz.prog 14 #[.slice A n c] w fun e w' => ∃ A2 c2 f, e = .returned (.slice A2 f.length c2) ∧ FragAtT w' A2 c2 f 8 ∧ (A2 = none → c2 = 0) ∧ Und w w' := by
  have HG := hid (GenP.fresh (c := c) (T := 29) hn hz hI)
  clear hI
  go_enter Tryz.func14, Tryz.ntmps14
  go_wp2_with fail
  refine (fragn_gen (w.heap.size + 1) w.heap.size 0 8 _ HG.out (by omega) (by omega)).mono ?_
  rintro e w2 ⟨v, f, cc, rfl, ho, hgt, hfl, hft, hcn, hG2, hk⟩
  have hgd : St.GoodT f ∧ ∀ x ∈ f, x.1 ≠ 1 → x.2.1.length ≤ 24 := ⟨St.genT_good hgt (by omega), genT_small hgt⟩
  obtain ⟨A2, c2, rfl, h1, h2, h3⟩ := own_slice' ho
  have hu : Und w w2 := ((Und.refl w).alloc _).of_gb hk (fun g e => by cases e; exact Nat.le_refl _)
  have hF : FragAtT w2 A2 c2 f 8 := ⟨items_own ho rfl, hgd, hfl, hft, h1, by unfold maxLen at h2; omega, own_block_lt ho⟩
  have HE := hid (And.intro hF (And.intro h3 hu))
  clear ho hgd hG2 hk hu hF
  go_wp2
  go_ret
  exact ⟨A2, c2, f, rfl, HE.out.1, HE.out.2.1, HE.out.2.2⟩
/-- What reading has numbered is left as it is. -/
theorem good_renum {f : List St.It} (h : St.GoodT f) : ∃ q, St.numL f = St.upL q ∧ UpTags f q := by
  obtain ⟨c, hc⟩ := h.ok
  obtain ⟨h1, _⟩ := St.renum_ok hc
  refine ⟨c, h1, fun x hx ht => ?_⟩
  obtain ⟨_, _, _, h4⟩ := St.okT_num _ _ _ hc fun o ho => by cases ho
  have hne : x.1 ≠ 1 := fun e => by rw [e] at ht; simp [St.isTagK] at ht
  exact h4 x (by unfold St.posI; exact List.mem_flatMap.2 ⟨x, hx, by rw [if_neg hne]; simp⟩) ht
end Go.Proofs.YtiifjfbfkhhpeaaGreatDoor
