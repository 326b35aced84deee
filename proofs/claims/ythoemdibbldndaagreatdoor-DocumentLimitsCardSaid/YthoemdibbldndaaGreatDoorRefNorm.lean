/- The contract of the reference's Normalize: what it gives is St.normL. Condition: the list lies in memory, its texts are no longer than texts can be. -/
import Derived.Test.YthoemdibbldndaaGreatDoorItems
import Derived.Test.YthoemdibbldndaaGreatDoorBas
import Derived.Laws.OwnMore
set_option linter.unusedVariables false
set_option linter.unusedSimpArgs false
namespace Go.Proofs.YthoemdibbldndaaGreatDoor
open Go.RowKit

theorem cells_len (f : List St.It) : (cellsIt f).length = f.length * 3 := by
  induction f with
  | nil => rfl
  | cons x f ih => simp [cellsIt] at ih ⊢; omega
def NoRel (w : World) (f : List St.It) (s3 s9 : Value) (wr : World) : Prop :=
  ∃ k : Nat, k ≤ f.length ∧ s9 = .int .i64 k ∧ wr.ownsRow w.heap.size 36 3 s3 (St.normL (f.take k)).length (cellsIt (St.normL (f.take k))) ∧ tot (St.normL (f.take k)) ≤ tot (f.take k) ∧ Und w wr
/-- The last item of a row is written anew. -/
theorem own_last {w : World} {B g n c : Nat} {o : List St.It} {y z : St.It} (h : w.ownsRow B 36 3 (.slice (some ⟨g, 0, none⟩) n c) n (cellsIt (o ++ [y]))) (hn : o.length + 1 = n) :
    (((w.setCell ⟨g, o.length * 3, none⟩ (.int .i64 z.1)).setCell ⟨g, o.length * 3 + 1, none⟩ (.string ⟨z.2.1.toArray⟩)).setCell ⟨g, o.length * 3 + 2, none⟩ (.int .i64 z.2.2)).ownsRow B 36 3 (.slice (some ⟨g, 0, none⟩) n c) n (cellsIt (o ++ [z])) ∧
    w.grownBy (((w.setCell ⟨g, o.length * 3, none⟩ (.int .i64 z.1)).setCell ⟨g, o.length * 3 + 1, none⟩ (.string ⟨z.2.1.toArray⟩)).setCell ⟨g, o.length * 3 + 2, none⟩ (.int .i64 z.2.2)) (some g) := by
  have h1 := h.stored (o.length * 3) (.int .i64 z.1)
  have h2 := h1.1.stored (o.length * 3 + 1) (.string ⟨z.2.1.toArray⟩)
  have h3 := h2.1.stored (o.length * 3 + 2) (.int .i64 z.2.2)
  refine ⟨?_, gb_trans (gb_trans h1.2 h2.2 (fun g e => Or.inl e)) h3.2 (fun g e => Or.inl e)⟩
  have e : cellsIt (o ++ [z]) = ((((cellsIt (o ++ [y])).set (o.length * 3) (.int .i64 z.1)).set (o.length * 3 + 1) (.string ⟨z.2.1.toArray⟩)).set (o.length * 3 + 2) (.int .i64 z.2.2)) := by
    rw [cellsIt_snoc, cellsIt_snoc]
    have hl := cells_len o
    rw [List.set_append_right _ _ (by omega), List.set_append_right _ _ (by omega), List.set_append_right _ _ (by omega)]
    congr 1
    rw [show o.length * 3 - (cellsIt o).length = 0 by omega, show o.length * 3 + 1 - (cellsIt o).length = 1 by omega, show o.length * 3 + 2 - (cellsIt o).length = 2 by omega]
    rfl
  rw [e]; exact h3.1

set_option maxRecDepth 20000 in
set_option maxHeartbeats 6400000 in
theorem normalize_any (A : Option Addr) (n c : Nat) (f : List St.It) (w : World) (hn : f.length = n) (h : ItemsAt w A f) (hl : n ≤ 100000) (ht : tot f ≤ 4611686018427387904) :
    Calls Tryz.prog 83 #[.slice A n c] w fun e w' => ∃ v, e = .returned v ∧ w'.ownsRow w.heap.size 36 3 v (St.normL f).length (cellsIt (St.normL f)) ∧ Und w w' := by
  have H := hid h
  have HN := hid hn
  have HTT := hid ht
  obtain ⟨i0, hi, hz0, hz1, hz2⟩ := info_parts info_item
  clear h hn ht
  go_enter Tryz.func83, Tryz.ntmps83
  go_wp2
  go_loopw [3, 9] (fun s3 s9 wr => NoRel w f s3 s9 wr) (fun _ s9 _ => n + 1 - (intOf s9).toNat)
  case atStart => exact ⟨0, by omega, rfl, World.ownsRow_nil _ _ _ _, by simp [St.normL, tot], Und.refl _⟩
  case round =>
    obtain ⟨k, hk, rfl, hown, htt, hu⟩ := hrel
    have HU := hid hu
    have hsz := hu.size
    by_cases hlt : k < n
    · have hlt2 : k < f.length := by rw [HN.out]; exact hlt
      obtain ⟨b, off, rfl, hb, hc⟩ := (H.out.und HU.out) (by omega)
      obtain ⟨c0, c1, c2⟩ := hc k hlt2
      have hnt := norm_take f k hlt2
      have htk := tot_take f k hlt2
      have hle := tot_le f (k + 1)
      have holen : (St.normL (f.take k)).length ≤ 100000 := by
        have := St.normL_len (f.take k)
        simp at this; omega
      generalize f[k] = x at c0 c1 c2 hnt htk
      obtain ⟨kd, tx, id⟩ := x
      simp only at c0 c1 c2 htk
      have hta := tot_add (St.normL (f.take k)) (kd, tx, id)
      generalize hO : St.normL (f.take k) = O at hown htt hnt holen hta
      obtain ⟨AO, cO, rfl, _⟩ := own_slice hown
      have HOW := hid hown
      have HNT := hid hnt
      have HTA := hid hta
      have HTK := hid htk
      have HLE := hid hle
      have HT2 := hid htt
      haveI : LtW b wr := LtW.of hb
      generalize hol : O.length = m at hown HOW holen ⊢
      clear hc hown hu hnt hta htk hle htt hO
      by_cases hkd : kd = 1
      · subst hkd
        by_cases htx : tx = []
        · subst htx
          have hadd : St.addI O (1, [], id) = O := by unfold St.addI; simp
          have hrel : NoRel w f (.slice AO m cO) (.int .i64 ((k + 1 : Nat) : Int)) (wr.alloc (.cells #[.int .i64 1, .string ⟨#[]⟩, .int .i64 id] 36)) := by
            refine ⟨k + 1, by omega, rfl, ?_, ?_, HU.out.alloc _⟩
            · rw [HNT.out, hadd, hol]; exact HOW.out.alloc _
            · rw [HNT.out]; have h1 := HTA.out; have h2 := HTK.out; have := HT2.out; simp only [List.length_nil] at h1 h2; omega
          have HREL := hid hrel
          clear hadd hrel
          go_wp2
          exact ⟨by simpa using HREL.out, by simp [intOf]; omega⟩
        · have hne : ((⟨tx.toArray⟩ : ByteArray).toList == []) = false := by
            rw [Lib.toList_data]
            simpa using htx
          have hne2 : tx.isEmpty = false := by simpa using htx
          rcases St.snoc_cases O with hO | ⟨o, y, hO⟩
          · subst hO
            have hm0 : m = 0 := by rw [← hol]; rfl
            subst hm0
            have HADD := hid (show St.addI [] (1, tx, id) = [] ++ [(1, tx, 0)] by rw [St.addI_nil]; simp [htx])
            clear htx
            go_wp2_with (at_builtin; refine wpList_append_own _ rfl _ _ 37 rfl w.heap.size 36 i0 (.agg #[.int .i64 0, .string ⟨#[]⟩, .int .i64 0]) 3 32 Tryz.underlying37 hi hz0 hz1 hz2 rfl (by decide) (.slice AO 0 cO) 0 _ rfl ((HOW.out.alloc _).alloc _) _ 1 1 [.int .i64 1, .string ⟨tx.toArray⟩, .int .i64 0] rfl rfl ?_ (item_one _ _ _) (by unfold maxLen; omega) (by omega) ?_ ?_)
            · omega
            · intro v' w4 hown' hgrow _
              have hrel : NoRel w f v' (.int .i64 ((k + 1 : Nat) : Int)) w4 := by
                refine ⟨k + 1, by omega, rfl, ?_, ?_, ((HU.out.alloc _).alloc _).grown hgrow (fun g hg => owns_block HOW.out g hg)⟩
                · rw [HNT.out, HADD.out, cellsIt_snoc, List.length_append, List.length_singleton, hol]; exact hown'
                · rw [HNT.out]; have := HTA.out; have := HTK.out; have := HT2.out; omega
              have HREL := hid hrel
              clear hown' hgrow hrel
              go_wp2
              exact ⟨by simpa using HREL.out, by simp [intOf]; omega⟩
          · subst hO
            obtain ⟨l, rfl⟩ : ∃ l, m = l + 1 := ⟨o.length, by rw [← hol]; simp⟩
            have hol' : o.length = l := by simpa using hol
            obtain ⟨g, rfl, hg1, hg2, hgc⟩ := own_cell HOW.out (by omega)
            obtain ⟨d0, d1, d2⟩ := cellsIt_at (o ++ [y]) l (by simp; omega)
            have hy : (o ++ [y])[l]'(by simp; omega) = y := by simp [hol']
            rw [hy] at d0 d1 d2
            have q0 := hgc _ _ d0
            have q1 := hgc _ _ d1
            have q2 := hgc _ _ d2
            have r0 := HOW.out.frozenAt (l * 3)
            have r1 := HOW.out.frozenAt (l * 3 + 1)
            have r2 := HOW.out.frozenAt (l * 3 + 2)
            haveI : LtW g wr := LtW.of hg2
            have hl1 : ((l + 1 : Nat) : Int) - 1 = (l : Int) := by omega
            obtain ⟨yk, yt, yi⟩ := y
            simp only at q0 q1 q2
            clear d0 d1 d2 hgc hy
            by_cases hyk : yk = 1
            · subst hyk
              have HADD := hid (show St.addI (o ++ [(1, yt, yi)]) (1, tx, id) = o ++ [(1, yt ++ tx, 0)] by rw [St.addI_snoc]; simp [htx])
              have hcat : ((⟨yt.toArray⟩ : ByteArray) ++ (⟨tx.toArray⟩ : ByteArray)) = ⟨(yt ++ tx).toArray⟩ := by apply ByteArray.ext; simp
              have hsz9 : ¬ 9223372036854775807 < yt.length + tx.length := by
                have h1 := HT2.out
                have h2 := HTK.out
                have h3 := HLE.out
                have h4 := HTT.out
                rw [tot_snoc] at h1
                simp only at h1 h2
                omega
              have hlast := own_last (z := (1, yt ++ tx, 0)) HOW.out (by omega)
              have hrel0 : ∀ W : World, (W.ownsRow w.heap.size 36 3 (.slice (some ⟨g, 0, none⟩) (l + 1) cO) (l + 1) (cellsIt (o ++ [(1, yt ++ tx, 0)])) ∧ wr.grownBy W (some g)) → NoRel w f (.slice (some ⟨g, 0, none⟩) (l + 1) cO) (.int .i64 ((k + 1 : Nat) : Int)) W := by
                intro W hW
                refine ⟨k + 1, by omega, rfl, ?_, ?_, HU.out.grown hW.2 (fun g' e => by cases e; exact hg1)⟩
                · rw [HNT.out, HADD.out, List.length_append, List.length_singleton, hol']; exact hW.1
                · rw [HNT.out]; have h1 := HTA.out; have h2 := HTK.out; have := HT2.out; simp only at h1 h2; omega
              have hrel := hrel0 _ ⟨own_und ((Und.refl _).alloc (.cells #[.int .i64 1, .string ⟨tx.toArray⟩, .int .i64 id] 36)).drew hlast.1, gb_und hlast.2 ((Und.refl _).alloc (.cells #[.int .i64 1, .string ⟨tx.toArray⟩, .int .i64 id] 36)).drew⟩
              rw [hol'] at hrel
              have HREL := hid hrel
              clear hrel hrel0 hlast htx hol'
              go_wp2_with fail
              go_region
              all_goals
                go_wp2
                exact ⟨by simpa using HREL.out, by simp [intOf]; omega⟩
            · have hykb : (yk == 1) = false := by simpa using hyk
              have HADD := hid (show St.addI (o ++ [(yk, yt, yi)]) (1, tx, id) = (o ++ [(yk, yt, yi)]) ++ [(1, tx, 0)] by rw [St.addI_snoc]; simp [htx, hyk])
              clear htx hyk
              go_wp2_with (at_builtin; refine wpList_append_own _ rfl _ _ 37 rfl w.heap.size 36 i0 (.agg #[.int .i64 0, .string ⟨#[]⟩, .int .i64 0]) 3 32 Tryz.underlying37 hi hz0 hz1 hz2 rfl (by decide) (.slice (some ⟨g, 0, none⟩) (l + 1) cO) (l + 1) _ rfl ((HOW.out.alloc _).alloc _) _ 1 1 [.int .i64 1, .string ⟨tx.toArray⟩, .int .i64 0] rfl rfl ?_ (item_one _ _ _) (by unfold maxLen; omega) (by omega) ?_ ?_)
              · omega
              · intro v' w4 hown' hgrow _
                have hrel : NoRel w f v' (.int .i64 ((k + 1 : Nat) : Int)) w4 := by
                  refine ⟨k + 1, by omega, rfl, ?_, ?_, ((HU.out.alloc _).alloc _).grown hgrow (fun g hg => owns_block HOW.out g hg)⟩
                  · rw [HNT.out, HADD.out, cellsIt_snoc, List.length_append, List.length_singleton, hol]; exact hown'
                  · rw [HNT.out]; have := HTA.out; have := HTK.out; have := HT2.out; omega
                have HREL := hid hrel
                clear hown' hgrow hrel
                go_wp2
                exact ⟨by simpa using HREL.out, by simp [intOf]; omega⟩
      · have hkb : (kd == 1) = false := by simpa using hkd
        have hadd : St.addI O (kd, tx, id) = O ++ [(kd, tx, id)] := by unfold St.addI; rw [if_neg hkd]
        have HADD := hid hadd
        clear hkd hadd
        go_wp2_with (at_builtin; refine wpList_append_own _ rfl _ _ 37 rfl w.heap.size 36 i0 (.agg #[.int .i64 0, .string ⟨#[]⟩, .int .i64 0]) 3 32 Tryz.underlying37 hi hz0 hz1 hz2 rfl (by decide) (.slice AO m cO) m _ rfl ((HOW.out.alloc _).alloc _) _ 1 1 [.int .i64 kd, .string ⟨tx.toArray⟩, .int .i64 id] rfl rfl ?_ (item_one _ _ _) (by unfold maxLen; omega) (by omega) ?_ ?_)
        · omega
        · intro v' w4 hown' hgrow _
          have hrel : NoRel w f v' (.int .i64 ((k + 1 : Nat) : Int)) w4 := by
            refine ⟨k + 1, by omega, rfl, ?_, ?_, ((HU.out.alloc _).alloc _).grown hgrow (fun g hg => owns_block HOW.out g hg)⟩
            · rw [HNT.out, HADD.out, cellsIt_snoc, List.length_append, List.length_singleton, hol]; exact hown'
            · rw [HNT.out]; have := HTA.out; have := HTK.out; have := HT2.out; omega
          have HREL := hid hrel
          clear hown' hgrow hrel
          go_wp2
          exact ⟨by simpa using HREL.out, by simp [intOf]; omega⟩
    · have hkn : k = n := by have := HN.out; omega
      subst hkn
      have hfk : f.take k = f := List.take_of_length_le (by have := HN.out; omega)
      rw [hfk] at hown
      have HOW := hid hown
      clear hown hu hlt hfk htt
      go_wp2
      go_ret
      exact ⟨_, rfl, HOW.out, HU.out⟩
end Go.Proofs.YthoemdibbldndaaGreatDoor
