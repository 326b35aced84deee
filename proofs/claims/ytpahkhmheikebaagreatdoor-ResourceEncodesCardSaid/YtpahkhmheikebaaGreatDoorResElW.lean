/- The contract of resource's element: what it gives is St.resL, behind the builder's limits. Condition: the text is no longer than a text can be. -/
import Derived.Test.YtpahkhmheikebaaGreatDoorResEl
import Derived.Test.YtpahkhmheikebaaGreatDoorFacts
import Derived.Test.YtpahkhmheikebaaGreatDoorNames
namespace Go.Proofs.YtpahkhmheikebaaGreatDoor
open Go.RowKit

theorem step_callE2 {P : Program} {ops : Array Oper} {o : Oper} {a : Act} {w : World} {K : Act → World → Prop} {Q : Exit → Act → World → Prop} {E : Prop}
    (hg : o.guard = none) (f : FuncId) (args : Array Value) (Post : Ending → World → Prop) (hc : Calls P f args w Post)
    (hrun : (execOp a.eval o).run P w = .ok (.enter f args) w) (hK : ∀ e w', Post e w' → ∃ v, e = .returned v ∧ K (a.put o.dst v) w') :
    if Region.wanted o (yielded ops a.tmps) = true then Oper.wp P o a w K Q else E := by
  have hw : Region.wanted o (yielded ops a.tmps) = true := by simp [Region.wanted, hg]
  rw [if_pos hw]
  unfold Oper.wp
  rw [hrun]
  refine hc.mono ?_
  intro e w' h
  obtain ⟨v, rfl, hk⟩ := hK e w' h
  exact hk
theorem blank_any (c : UInt8) (w : World) : Calls Tryz.prog 71 #[.int .u8 (c.toNat : Int)] w fun e w' => e = .returned (.bool (St.blkC c)) ∧ w = w' := by
  by_cases h : c.toNat = 32
  · have hb : St.blkC c = true := decide_eq_true (Or.inl h)
    have e1 : ((c.toNat : Int) == 32) = true := by simp; omega
    rw [hb]
    clear h hb
    go_enter Tryz.func71, Tryz.ntmps71
    go_wp2
    go_ret
    exact ⟨rfl, rfl⟩
  · have e1 : ((c.toNat : Int) == 32) = false := by simp; omega
    have hb : St.blkC c = ((c.toNat : Int) == 9) := by
      unfold St.blkC
      rw [Bool.eq_iff_iff]; simp; omega
    rw [hb]
    cases hq : ((c.toNat : Int) == 9)
    all_goals
      clear h hb
      go_enter Tryz.func71, Tryz.ntmps71
      go_wp2
      go_ret
      exact ⟨rfl, rfl⟩
def BkRel (w : World) (raw : ByteArray) (a : Nat) (s10 : Value) (wr : World) : Prop := ∃ k : Nat, s10 = .int .i64 k ∧ a + 2 ≤ k ∧ k ≤ raw.size ∧ a + 2 + St.blkN (raw.data.toList.drop (a + 2)) = k + St.blkN (raw.data.toList.drop k) ∧ wr = w

set_option maxRecDepth 20000 in
set_option maxHeartbeats 12800000 in
theorem element_any (w : World) (B b : Nat) (its : List St.It) (tx : List UInt8) (cuts : List Nat) (d : Nat) (raw : ByteArray) (a : Nat) (h : BAt (mo2 d) w B b its tx cuts) (hN : St.NoTxt its) (h1 : its.length ≤ 512) (h2 : cuts.length ≤ 1024) (h3 : tx.length ≤ cuts.length) (hBw : B ≤ w.heap.size)
    (ha : a < raw.size) (hr : raw.size ≤ 4611686018427387904) :
    Calls Tryz.prog 56 #[.pointer (some ⟨b, 0, none⟩), .string raw, .int .i64 a] w (RElEnd w B b its tx cuts d (raw.data.toList.drop a) a) := by
  obtain ⟨s, hE⟩ : ∃ s, raw.extract a raw.size = s := ⟨_, rfl⟩
  have hsz : s.size = raw.size - a := by rw [← hE]; simp
  have hs0 : 0 < s.size := by omega
  have hl : s.data.toList = raw.data.toList.drop a := by rw [← hE]; simp; exact List.take_of_length_le (by simp)
  have hcr : s.data.toList = s[0] :: s.data.toList.drop 1 := St.list_zero s hs0
  have ha1 : (a : Int) ≤ raw.size := by omega
  have ha2 : ¬ raw.size < a := by omega
  have hN' := hid hN
  obtain ⟨g3, g4, gf3, gf4, hblt, hBb0⟩ := h.at
  haveI : LtW b w := LtW.of hblt
  have HB0 := hid (show Below B w w.drew from (Below.refl B w).drew)
  have hby0 := hid (fun c => byte_any w.drew B b its tx cuts c d (h.und (Und.refl w).drew) (by omega) (by omega) (by omega) (by simpa using hBw))
  have hit0 := hid (fun x => item_any w.drew B b its tx cuts 5 0 x d (h.und (Und.refl w).drew) (by omega) (by omega) (by omega) (by simpa using hBw))
  have H := hid h
  clear h hN
  by_cases c10 : s[0].toNat = 10
  · have HSL := hid (St.res_10 (r := s.data.toList.drop 1) c10)
    rw [← hcr, hl] at HSL
    have e10 : ((s[0].toNat : Int) == 10) = true := by simp; omega
    clear hcr hl
    go_enter Tryz.func56, Tryz.ntmps56
    go_wp2
    go_ret2
    exact rel_err HSL.out (Below.refl _ _)
  have e10 : ((s[0].toNat : Int) == 10) = false := by simp; omega
  by_cases c92 : s[0].toNat = 92
  · have e92 : ((s[0].toNat : Int) == 92) = true := by simp; omega
    by_cases z1 : s.size = 1
    · have hnil : s.data.toList.drop 1 = [] := List.drop_of_length_le (by simp; omega)
      have hsl := St.res_end c92
      rw [hnil] at hcr
      rw [← hcr, hl] at hsl
      have HSL := hid hsl
      have y1 : ¬ (1 : Int) < s.size := by omega
      have y2 : (s.size : Int) < 2 := by omega
      clear hcr hl hnil hsl
      go_enter Tryz.func56, Tryz.ntmps56
      go_wp2
      go_ret2
      exact rel_err HSL.out (Below.refl _ _)
    have hs1 : 1 < s.size := by omega
    have hcr1 : s.data.toList.drop 1 = s[1] :: s.data.toList.drop 2 := St.drop_at s 1 hs1
    have y1 : (1 : Int) < s.size := by omega
    have y2 : ¬ (s.size : Int) < 2 := by omega
    rw [hcr1] at hcr
    by_cases d10 : s[1].toNat = 10
    · have f10 : ((s[1].toNat : Int) == 10) = true := by simp; omega
      have hsl := St.res_cont (r := s.data.toList.drop 2) c92 d10
      rw [← hcr, hl] at hsl
      have hdd : (raw.data.toList.drop a).drop 2 = raw.data.toList.drop (a + 2) := by rw [List.drop_drop]
      rw [hdd] at hsl
      have HSL := hid hsl
      have hrs : a + 2 ≤ raw.size := by omega
      clear hcr hcr1 hl hdd hsl
      go_enter Tryz.func56, Tryz.ntmps56
      go_wp2_with fail
      go_loopw [10] (fun s10 wr => BkRel w raw a s10 wr) (fun s10 _ => raw.size - (intOf s10).toNat)
      case atStart => exact ⟨a + 2, congrArg (Value.int .i64) (by omega), by omega, hrs, rfl, rfl⟩
      case round =>
        obtain ⟨k, rfl, hk1, hk2, hk3, rfl⟩ := hrel
        have HK := hid hk3
        clear hk3
        by_cases hlt : k < raw.size
        · have z : (k : Int) < raw.size := by omega
          have hcons := St.drop_at raw k hlt
          have hbk := fun W => blank_any raw[k] W
          cases hq : St.blkC raw[k]
          · have hn : St.blkN (raw.data.toList.drop k) = 0 := by rw [hcons]; unfold St.blkN; rw [List.takeWhile_cons_of_neg (by simp [hq])]; rfl
            rw [hq] at hbk
            have HBK := hid hbk
            have HE := hid (show a + 2 + St.blkN (raw.data.toList.drop (a + 2)) = k by rw [HK.out, hn]; omega)
            clear hcons hbk hq hn
            go_wp2_with (go_at_call 71; refine (HBK.out _).mono ?_; rintro e w' ⟨rfl, rfl⟩)
            go_ret2
            exact rel_cont HSL.out (Below.refl _ _) H.out _ (by have := HE.out; omega)
          · have hn : St.blkN (raw.data.toList.drop k) = 1 + St.blkN (raw.data.toList.drop (k + 1)) := by rw [hcons]; unfold St.blkN; rw [List.takeWhile_cons_of_pos hq]; simp; omega
            rw [hq] at hbk
            have HBK := hid hbk
            have HE := hid hn
            clear hcons hbk hq hn
            go_wp2_with (go_at_call 71; refine (HBK.out _).mono ?_; rintro e w' ⟨rfl, rfl⟩)
            exact ⟨⟨k + 1, congrArg (Value.int .i64) (by omega), by omega, by omega, by rw [HK.out, HE.out]; omega, rfl⟩, by simp [intOf]; omega⟩
        · obtain rfl : k = raw.size := by omega
          have hn : St.blkN (raw.data.toList.drop raw.size) = 0 := by rw [List.drop_of_length_le (by simp)]; rfl
          have HE := hid (show a + 2 + St.blkN (raw.data.toList.drop (a + 2)) = raw.size by rw [HK.out, hn]; omega)
          clear hn hlt
          go_wp2
          go_ret2
          exact rel_cont HSL.out (Below.refl _ _) H.out _ (by have := HE.out; omega)
    · have f10 : ((s[1].toNat : Int) == 10) = false := by simp; omega
      have hsl := St.res_esc (r := s.data.toList.drop 2) c92 d10
      rw [← hcr, hl] at hsl
      have hesc := fun W => escape_any s[1] W
      unfold escV at hesc
      cases hq : St.escL s[1] with
      | none =>
        rw [hq] at hsl hesc
        have HSL := hid hsl
        have HES := hid hesc
        clear hcr hcr1 hl hsl hesc hq
        go_enter Tryz.func56, Tryz.ntmps56
        go_wp2_with (go_at_call 72; refine (HES.out _).mono ?_; rintro e w' ⟨rfl, rfl⟩)
        go_ret2
        exact rel_err HSL.out (Below.refl _ _)
      | some c =>
        rw [hq] at hsl hesc
        simp only [Option.map_some] at hsl
        have HSL := hid hsl
        have HES := hid hesc
        have HBY := hid (hby0.out c)
        clear hcr hcr1 hl hsl hesc hq
        go_enter Tryz.func56, Tryz.ntmps56
        go_wp2_with (go_at_call 72; refine (HES.out _).mono ?_; rintro e w' ⟨rfl, rfl⟩)
        refine wp_region_facts (fun _ _ => True) (fun L W => if L 8 = true then (St.fullB its.length tx.length cuts.length true = false → BAt (mo2 d) W B b its (tx ++ [c]) (cuts ++ [d])) ∧ Below B w.drew W else W = w.drew) ([fun v _ => v = .pointer (some ⟨b, 0, none⟩), fun v _ => v = .pointer (some ⟨b, 0, none⟩), fun v _ => v = .pointer (some ⟨b, 0, none⟩), fun v _ => v = .int .u8 (c.toNat : Int), fun v _ => v = .pointer (some ⟨b, 0, none⟩), fun v _ => v = .pointer (some ⟨b, 0, none⟩), fun v _ => v = .pointer (some ⟨b, 3, none⟩), fun v _ => v = .int .i64 d, fun v _ => v = .bool (!St.fullB its.length tx.length cuts.length true), fun v _ => v = .int .i64 a, fun v _ => v = .int .i64 ((a : Int) + 2), fun v _ => v = .bool (!St.fullB its.length tx.length cuts.length true), fun v _ => v = .int .i64 ((a : Int) + 2)]) (fun _ => trivial) (fun _ _ _ _ _ => trivial) (by kernel_rfl) (by rfl) (by kernel_rfl) (by kernel_rfl) ?frA ?hfrA ?hIA ?hobA ?hendA
        case hfrA =>
          intro ρ
          simp only [putAll, Act.put, List.setIfInBounds_toArray, List.set_cons_succ, List.set_cons_zero, Nat.zero_add, Nat.reduceAdd]
          exact rfl
        case hIA => simp
        case hobA =>
          refine ObsF.cons (fun ρ L W hR hI hL hD hO hF K hK => ?_) ?_
          · skip
            clear hF hD hO hR
            simp only [Act.put, List.setIfInBounds_toArray, List.set_cons_succ, List.set_cons_zero] at hK ⊢
            go_simp
            refine hK _ _ trivial (by simpa [updB] using hI) (fun _ _ => ?_)
            rfl
          refine ObsF.cons (fun ρ L W hR hI hL hD hO hF K hK => ?_) ?_
          · skip
            have f0 := allF_get hF (j := 0) (by decide)
            clear hF hD hO hR
            simp only [Act.put, List.setIfInBounds_toArray, List.set_cons_succ, List.set_cons_zero] at hK ⊢
            have e0 : ρ 0 = .pointer (some ⟨b, 0, none⟩) := f0
            rw [e0] at hK ⊢
            go_simp
            refine hK _ _ trivial (by simpa [updB] using hI) (fun _ _ => ?_)
            rfl
          refine ObsF.cons (fun ρ L W hR hI hL hD hO hF K hK => ?_) ?_
          · skip
            have f1 := allF_get hF (j := 1) (by decide)
            clear hF hD hO hR
            simp only [Act.put, List.setIfInBounds_toArray, List.set_cons_succ, List.set_cons_zero] at hK ⊢
            have e1 : ρ 1 = .pointer (some ⟨b, 0, none⟩) := f1
            rw [e1] at hK ⊢
            go_simp
            refine hK _ _ trivial (by simpa [updB] using hI) (fun _ _ => ?_)
            rfl
          refine ObsF.cons (fun ρ L W hR hI hL hD hO hF K hK => ?_) ?_
          · skip
            clear hF hD hO hR
            simp only [Act.put, List.setIfInBounds_toArray, List.set_cons_succ, List.set_cons_zero] at hK ⊢
            go_simp
            refine hK _ _ trivial (by simpa [updB] using hI) (fun _ _ => ?_)
            rfl
          refine ObsF.cons (fun ρ L W hR hI hL hD hO hF K hK => ?_) ?_
          · skip
            clear hF hD hO hR
            simp only [Act.put, List.setIfInBounds_toArray, List.set_cons_succ, List.set_cons_zero] at hK ⊢
            go_simp
            refine hK _ _ trivial (by simpa [updB] using hI) (fun _ _ => ?_)
            rfl
          refine ObsF.cons (fun ρ L W hR hI hL hD hO hF K hK => ?_) ?_
          · skip
            have f4 := allF_get hF (j := 4) (by decide)
            clear hF hD hO hR
            simp only [Act.put, List.setIfInBounds_toArray, List.set_cons_succ, List.set_cons_zero] at hK ⊢
            have e4 : ρ 4 = .pointer (some ⟨b, 0, none⟩) := f4
            rw [e4] at hK ⊢
            go_simp
            refine hK _ _ trivial (by simpa [updB] using hI) (fun _ _ => ?_)
            rfl
          refine ObsF.cons (fun ρ L W hR hI hL hD hO hF K hK => ?_) ?_
          · skip
            have f5 := allF_get hF (j := 5) (by decide)
            clear hF hD hO hR
            simp only [Act.put, List.setIfInBounds_toArray, List.set_cons_succ, List.set_cons_zero] at hK ⊢
            have e5 : ρ 5 = .pointer (some ⟨b, 0, none⟩) := f5
            rw [e5] at hK ⊢
            go_simp
            refine hK _ _ trivial (by simpa [updB] using hI) (fun _ _ => ?_)
            rfl
          refine ObsF.cons (fun ρ L W hR hI hL hD hO hF K hK => ?_) ?_
          · skip
            have f6 := allF_get hF (j := 6) (by decide)
            have hLc : L 8 = false := hD.not (p := 8) rfl (by decide) hL
            rw [if_neg (by rw [hLc]; decide)] at hI
            subst hI
            clear hF hD hO hR
            simp only [Act.put, List.setIfInBounds_toArray, List.set_cons_succ, List.set_cons_zero] at hK ⊢
            have e6 : ρ 6 = .pointer (some ⟨b, 3, none⟩) := f6
            rw [e6] at hK ⊢
            go_simp
            refine hK _ _ trivial (by simp [updB, hLc]) (fun _ _ => ?_)
            rfl
          refine ObsF.cons (fun ρ L W hR hI hL hD hO hF K hK => ?_) ?_
          · skip
            have f2 := allF_get hF (j := 2) (by decide)
            have f3 := allF_get hF (j := 3) (by decide)
            have f7 := allF_get hF (j := 7) (by decide)
            rw [if_neg (by rw [hL]; decide)] at hI
            subst hI
            clear hF hD hO hR
            simp only [Act.put, List.setIfInBounds_toArray, List.set_cons_succ, List.set_cons_zero] at hK ⊢
            have e2 : ρ 2 = .pointer (some ⟨b, 0, none⟩) := f2
            have e3 : ρ 3 = .int .u8 (c.toNat : Int) := f3
            have e7 : ρ 7 = .int .i64 d := f7
            rw [e2, e3, e7] at hK ⊢
            refine step_callE2 (o := ⟨some 88, _, _, _, _, _⟩) rfl 73 #[.pointer (some ⟨b, 0, none⟩), .int .u8 c.toNat, .int .i64 d] _ HBY.out ?_ ?_
            · go_simp
            rintro e W2 ⟨rfl, h1, h2⟩
            exact ⟨_, rfl, hK _ _ trivial (by simp only [updB, if_true]; exact ⟨h1, h2⟩) (fun _ _ => rfl)⟩
          refine ObsF.cons (fun ρ L W hR hI hL hD hO hF K hK => ?_) ?_
          · skip
            clear hF hD hO hR
            simp only [Act.put, List.setIfInBounds_toArray, List.set_cons_succ, List.set_cons_zero] at hK ⊢
            go_simp
            refine hK _ _ trivial (by simpa [updB] using hI) (fun _ _ => ?_)
            rfl
          refine ObsF.cons (fun ρ L W hR hI hL hD hO hF K hK => ?_) ?_
          · skip
            have f9 := allF_get hF (j := 9) (by decide)
            clear hF hD hO hR
            simp only [Act.put, List.setIfInBounds_toArray, List.set_cons_succ, List.set_cons_zero] at hK ⊢
            have e9 : ρ 9 = .int .i64 a := f9
            rw [e9] at hK ⊢
            go_simp
            refine hK _ _ trivial (by simpa [updB] using hI) (fun _ _ => ?_)
            exact congrArg (Value.int .i64) ((IntWalk.i64_in _ (by omega)).trans (by omega))
          refine ObsF.cons (fun ρ L W hR hI hL hD hO hF K hK => ?_) ?_
          · skip
            have f8 := allF_get hF (j := 8) (by decide)
            clear hF hD hO hR
            simp only [Act.put, List.setIfInBounds_toArray, List.set_cons_succ, List.set_cons_zero] at hK ⊢
            have e8 : ρ 8 = .bool (!St.fullB its.length tx.length cuts.length true) := f8
            rw [e8] at hK ⊢
            go_simp
            refine hK _ _ trivial (by simpa [updB] using hI) (fun _ _ => ?_)
            rfl
          refine ObsF.cons (fun ρ L W hR hI hL hD hO hF K hK => ?_) ?_
          · skip
            have f10 := allF_get hF (j := 10) (by decide)
            clear hF hD hO hR
            simp only [Act.put, List.setIfInBounds_toArray, List.set_cons_succ, List.set_cons_zero] at hK ⊢
            have e10 : ρ 10 = .int .i64 ((a : Int) + 2) := f10
            rw [e10] at hK ⊢
            go_simp
            refine hK _ _ trivial (by simpa [updB] using hI) (fun _ _ => ?_)
            rfl
          exact ObsF.nil
        case hendA =>
          intro ρ L W hR hI hL hF
          rw [if_pos (hL 8 (by decide))] at hI
          obtain ⟨_, _, _, _, _, _, _, _, _, _, _, g11, g12, _⟩ := hF
          have g11 : ρ 11 = .bool (!St.fullB its.length tx.length cuts.length true) := g11
          have g12 : ρ 12 = .int .i64 ((a : Int) + 2) := g12
          rw [g11, g12]
          clear g11 g12 hR hL
          obtain ⟨hba, hbl⟩ := hI
          have hbl2 : Below B w W := Below.trans HB0.out hbl
          have HBL := hid hbl2
          have HBA := hid hba
          clear hba hbl hbl2
          cases hfu : St.fullB its.length tx.length cuts.length true
          · obtain ⟨c3, c4, f3, f4, hlt, hBb⟩ := (HBA.out hfu).at
            haveI : LtW b W := LtW.of hlt
            have HBN := hid ((HBA.out hfu).mo (a + 2) ((a : Int) + 2) ((a : Int) + 2) (by omega) (by omega))
            have HBB := hid hBb
            have HFU := hid hfu
            clear hfu hBb
            go_wp2
            go_ret2
            exact rel_byte HSL.out hN'.out HFU.out ((HBL.out.setCell (p := ⟨b, 3, none⟩) HBB.out _).setCell (p := ⟨b, 4, none⟩) HBB.out _) HBN.out h3 _ (by omega)
          · have HFU := hid hfu
            clear hfu
            go_wp2
            go_ret2
            exact rel_full HSL.out hN'.out HFU.out HBL.out
  have e92 : ((s[0].toNat : Int) == 92) = false := by simp; omega
  by_cases c123 : s[0].toNat = 123
  · have e123 : ((s[0].toNat : Int) == 123) = true := by simp; omega
    have hsl := St.res_123 (r := s.data.toList.drop 1) c123
    rw [← hcr] at hsl
    have hix := fun W => Tryz.strings_IndexByte s 125 W
    have h125 : (125 : Int).toNat.toUInt8 = 125 := rfl
    rw [h125, hcr] at hix
    rcases St.slot_of (r := s.data.toList.drop 1) c123 with ⟨hi, hs⟩ | ⟨n, hi, hn, htw, hs⟩
    · rw [hi] at hix
      rw [← hcr] at hs
      rw [hs, hl] at hsl
      have HSL := hid hsl
      have HIX := hid hix
      clear hsl hcr hl hix hi hs h125
      go_enter Tryz.func56, Tryz.ntmps56
      go_wp2_with fail
      refine (HIX.out _).mono ?_
      rintro e w' ⟨rfl, rfl⟩
      go_wp2
      go_ret2
      exact rel_err HSL.out (Below.refl _ _)
    · rw [hi] at hix
      have hns : n + 1 < s.size := by rw [← hcr] at hn; simpa using hn
      obtain ⟨x, hX⟩ : ∃ x, s.extract 1 (n + 1) = x := ⟨_, rfl⟩
      have hxl : x.data.toList = (s.data.toList.drop 1).take n := by rw [← hX]; simp
      have hxs : x.size ≤ s.size := by rw [← hX]; simp; omega
      have hnm := fun W => isname_any x W (by omega)
      rw [← hcr, ← hxl] at hs
      have z1 : (1 : Int) ≤ (n : Int) + 1 := by omega
      have z2 : (n : Int) + 1 ≤ s.size := by omega
      have z3 : ¬ (n : Int) + 1 < 0 := by omega
      cases hnb : St.isNameL x.data.toList
      · rw [hnb] at hs hnm
        simp only [Bool.false_eq_true, if_false] at hs
        rw [hs, hl] at hsl
        have HSL := hid hsl
        have HIX := hid hix
        have HNM := hid hnm
        clear hsl hcr hl hix hi hs h125 hn htw hnm hnb hxl
        go_enter Tryz.func56, Tryz.ntmps56
        go_wp2_with fail
        refine (HIX.out _).mono ?_
        rintro e w' ⟨rfl, rfl⟩
        go_wp2_with fail
        refine (HNM.out _).mono ?_
        rintro e w' ⟨rfl, rfl⟩
        go_wp2
        go_ret2
        exact rel_err HSL.out (Below.refl _ _)
      · rw [hnb] at hs hnm
        simp only [if_true] at hs
        rw [hs, hl] at hsl
        simp only [Option.map_some] at hsl
        have HSL := hid hsl
        have HIX := hid hix
        have HNM := hid hnm
        have HIT := hid (hit0.out x)
        clear hsl hcr hl hix hi hs h125 hn htw hnm hnb hxl
        go_enter Tryz.func56, Tryz.ntmps56
        go_wp2_with fail
        refine (HIX.out _).mono ?_
        rintro e w ⟨rfl, rfl⟩
        go_wp2_with fail
        refine (HNM.out _).mono ?_
        rintro e w ⟨rfl, rfl⟩
        go_wp2_with fail
        refine wp_region_facts (fun _ _ => True) (fun L W => if L 11 = true then (St.fullB its.length tx.length cuts.length false = false → BAt (mo2 d) W B b (its ++ St.txt tx ++ [(5, x.data.toList, 0)]) [] (cuts ++ [d])) ∧ Below B w.drew W else W = w.drew) ([fun v _ => v = .pointer (some ⟨b, 0, none⟩), fun v _ => v = .pointer (some ⟨b, 0, none⟩), fun v _ => v = .pointer (some ⟨b, 0, none⟩), fun v _ => v = .string s, fun v _ => v = .int .i64 ((n + 1 : Nat) : Int), fun v _ => v = .string x, fun v _ => v = .agg #[.int .i64 5, .string x, .int .i64 0], fun v _ => v = .pointer (some ⟨b, 0, none⟩), fun v _ => v = .pointer (some ⟨b, 0, none⟩), fun v _ => v = .pointer (some ⟨b, 3, none⟩), fun v _ => v = .int .i64 d, fun v _ => v = .bool (!St.fullB its.length tx.length cuts.length false), fun v _ => v = .int .i64 a, fun v _ => v = .int .i64 ((n + 1 : Nat) : Int), fun v _ => v = .int .i64 ((a : Int) + ((n + 1 : Nat) : Int)), fun v _ => v = .int .i64 ((a : Int) + ((n + 1 : Nat) : Int) + 1), fun v _ => v = .bool (!St.fullB its.length tx.length cuts.length false), fun v _ => v = .int .i64 ((a : Int) + ((n + 1 : Nat) : Int) + 1)]) (fun _ => trivial) (fun _ _ _ _ _ => trivial) (by kernel_rfl) (by rfl) (by kernel_rfl) (by kernel_rfl) ?frC ?hfrC ?hIC ?hobC ?hendC
        case hfrC =>
          intro ρ
          simp only [putAll, Act.put, List.setIfInBounds_toArray, List.set_cons_succ, List.set_cons_zero, Nat.zero_add, Nat.reduceAdd]
          exact rfl
        case hIC => simp
        case hobC =>
          refine ObsF.cons (fun ρ L W hR hI hL hD hO hF K hK => ?_) ?_
          · skip
            clear hF hD hO hR
            simp only [Act.put, List.setIfInBounds_toArray, List.set_cons_succ, List.set_cons_zero] at hK ⊢
            go_simp
            refine hK _ _ trivial (by simpa [updB] using hI) (fun _ _ => ?_)
            rfl
          refine ObsF.cons (fun ρ L W hR hI hL hD hO hF K hK => ?_) ?_
          · skip
            have f0 := allF_get hF (j := 0) (by decide)
            clear hF hD hO hR
            simp only [Act.put, List.setIfInBounds_toArray, List.set_cons_succ, List.set_cons_zero] at hK ⊢
            have e0 : ρ 0 = .pointer (some ⟨b, 0, none⟩) := f0
            rw [e0] at hK ⊢
            go_simp
            refine hK _ _ trivial (by simpa [updB] using hI) (fun _ _ => ?_)
            rfl
          refine ObsF.cons (fun ρ L W hR hI hL hD hO hF K hK => ?_) ?_
          · skip
            have f1 := allF_get hF (j := 1) (by decide)
            clear hF hD hO hR
            simp only [Act.put, List.setIfInBounds_toArray, List.set_cons_succ, List.set_cons_zero] at hK ⊢
            have e1 : ρ 1 = .pointer (some ⟨b, 0, none⟩) := f1
            rw [e1] at hK ⊢
            go_simp
            refine hK _ _ trivial (by simpa [updB] using hI) (fun _ _ => ?_)
            rfl
          refine ObsF.cons (fun ρ L W hR hI hL hD hO hF K hK => ?_) ?_
          · skip
            clear hF hD hO hR
            simp only [Act.put, List.setIfInBounds_toArray, List.set_cons_succ, List.set_cons_zero] at hK ⊢
            go_simp
            refine hK _ _ trivial (by simpa [updB] using hI) (fun _ _ => ?_)
            rfl
          refine ObsF.cons (fun ρ L W hR hI hL hD hO hF K hK => ?_) ?_
          · skip
            clear hF hD hO hR
            simp only [Act.put, List.setIfInBounds_toArray, List.set_cons_succ, List.set_cons_zero] at hK ⊢
            go_simp
            refine hK _ _ trivial (by simpa [updB] using hI) (fun _ _ => ?_)
            rfl
          refine ObsF.cons (fun ρ L W hR hI hL hD hO hF K hK => ?_) ?_
          · skip
            have f3 := allF_get hF (j := 3) (by decide)
            have f4 := allF_get hF (j := 4) (by decide)
            clear hF hD hO hR
            simp only [Act.put, List.setIfInBounds_toArray, List.set_cons_succ, List.set_cons_zero] at hK ⊢
            have e3 : ρ 3 = .string s := f3
            have e4 : ρ 4 = .int .i64 ((n + 1 : Nat) : Int) := f4
            rw [e3, e4] at hK ⊢
            go_simp
            refine hK _ _ trivial (by simpa [updB] using hI) (fun _ _ => ?_)
            rfl
          refine ObsF.cons (fun ρ L W hR hI hL hD hO hF K hK => ?_) ?_
          · skip
            have f5 := allF_get hF (j := 5) (by decide)
            clear hF hD hO hR
            simp only [Act.put, List.setIfInBounds_toArray, List.set_cons_succ, List.set_cons_zero] at hK ⊢
            have e5 : ρ 5 = .string x := f5
            rw [e5] at hK ⊢
            go_simp
            refine hK _ _ trivial (by simpa [updB] using hI) (fun _ _ => ?_)
            rfl
          refine ObsF.cons (fun ρ L W hR hI hL hD hO hF K hK => ?_) ?_
          · skip
            clear hF hD hO hR
            simp only [Act.put, List.setIfInBounds_toArray, List.set_cons_succ, List.set_cons_zero] at hK ⊢
            go_simp
            refine hK _ _ trivial (by simpa [updB] using hI) (fun _ _ => ?_)
            rfl
          refine ObsF.cons (fun ρ L W hR hI hL hD hO hF K hK => ?_) ?_
          · skip
            have f7 := allF_get hF (j := 7) (by decide)
            clear hF hD hO hR
            simp only [Act.put, List.setIfInBounds_toArray, List.set_cons_succ, List.set_cons_zero] at hK ⊢
            have e7 : ρ 7 = .pointer (some ⟨b, 0, none⟩) := f7
            rw [e7] at hK ⊢
            go_simp
            refine hK _ _ trivial (by simpa [updB] using hI) (fun _ _ => ?_)
            rfl
          refine ObsF.cons (fun ρ L W hR hI hL hD hO hF K hK => ?_) ?_
          · skip
            have f8 := allF_get hF (j := 8) (by decide)
            clear hF hD hO hR
            simp only [Act.put, List.setIfInBounds_toArray, List.set_cons_succ, List.set_cons_zero] at hK ⊢
            have e8 : ρ 8 = .pointer (some ⟨b, 0, none⟩) := f8
            rw [e8] at hK ⊢
            go_simp
            refine hK _ _ trivial (by simpa [updB] using hI) (fun _ _ => ?_)
            rfl
          refine ObsF.cons (fun ρ L W hR hI hL hD hO hF K hK => ?_) ?_
          · skip
            have f9 := allF_get hF (j := 9) (by decide)
            have hLc : L 11 = false := hD.not (p := 11) rfl (by decide) hL
            rw [if_neg (by rw [hLc]; decide)] at hI
            subst hI
            clear hF hD hO hR
            simp only [Act.put, List.setIfInBounds_toArray, List.set_cons_succ, List.set_cons_zero] at hK ⊢
            have e9 : ρ 9 = .pointer (some ⟨b, 3, none⟩) := f9
            rw [e9] at hK ⊢
            go_simp
            refine hK _ _ trivial (by simp [updB, hLc]) (fun _ _ => ?_)
            rfl
          refine ObsF.cons (fun ρ L W hR hI hL hD hO hF K hK => ?_) ?_
          · skip
            have f2 := allF_get hF (j := 2) (by decide)
            have f6 := allF_get hF (j := 6) (by decide)
            have f10 := allF_get hF (j := 10) (by decide)
            rw [if_neg (by rw [hL]; decide)] at hI
            subst hI
            clear hF hD hO hR
            simp only [Act.put, List.setIfInBounds_toArray, List.set_cons_succ, List.set_cons_zero] at hK ⊢
            have e2 : ρ 2 = .pointer (some ⟨b, 0, none⟩) := f2
            have e6 : ρ 6 = .agg #[.int .i64 5, .string x, .int .i64 0] := f6
            have e10 : ρ 10 = .int .i64 d := f10
            rw [e2, e6, e10] at hK ⊢
            refine step_callE2 (o := ⟨some 118, _, _, _, _, _⟩) rfl 75 #[.pointer (some ⟨b, 0, none⟩), .agg #[.int .i64 5, .string x, .int .i64 0], .int .i64 d] _ HIT.out ?_ ?_
            · go_simp
            rintro e W2 ⟨rfl, h1, h2⟩
            exact ⟨_, rfl, hK _ _ trivial (by simp only [updB, if_true]; exact ⟨h1, h2⟩) (fun _ _ => rfl)⟩
          refine ObsF.cons (fun ρ L W hR hI hL hD hO hF K hK => ?_) ?_
          · skip
            clear hF hD hO hR
            simp only [Act.put, List.setIfInBounds_toArray, List.set_cons_succ, List.set_cons_zero] at hK ⊢
            go_simp
            refine hK _ _ trivial (by simpa [updB] using hI) (fun _ _ => ?_)
            rfl
          refine ObsF.cons (fun ρ L W hR hI hL hD hO hF K hK => ?_) ?_
          · skip
            clear hF hD hO hR
            simp only [Act.put, List.setIfInBounds_toArray, List.set_cons_succ, List.set_cons_zero] at hK ⊢
            go_simp
            refine hK _ _ trivial (by simpa [updB] using hI) (fun _ _ => ?_)
            rfl
          refine ObsF.cons (fun ρ L W hR hI hL hD hO hF K hK => ?_) ?_
          · skip
            have f12 := allF_get hF (j := 12) (by decide)
            have f13 := allF_get hF (j := 13) (by decide)
            clear hF hD hO hR
            simp only [Act.put, List.setIfInBounds_toArray, List.set_cons_succ, List.set_cons_zero] at hK ⊢
            have e12 : ρ 12 = .int .i64 a := f12
            have e13 : ρ 13 = .int .i64 ((n + 1 : Nat) : Int) := f13
            rw [e12, e13] at hK ⊢
            go_simp
            refine hK _ _ trivial (by simpa [updB] using hI) (fun _ _ => ?_)
            exact congrArg (Value.int .i64) ((IntWalk.i64_in _ (by omega)).trans (by omega))
          refine ObsF.cons (fun ρ L W hR hI hL hD hO hF K hK => ?_) ?_
          · skip
            have f14 := allF_get hF (j := 14) (by decide)
            clear hF hD hO hR
            simp only [Act.put, List.setIfInBounds_toArray, List.set_cons_succ, List.set_cons_zero] at hK ⊢
            have e14 : ρ 14 = .int .i64 ((a : Int) + ((n + 1 : Nat) : Int)) := f14
            rw [e14] at hK ⊢
            go_simp
            refine hK _ _ trivial (by simpa [updB] using hI) (fun _ _ => ?_)
            exact congrArg (Value.int .i64) ((IntWalk.i64_in _ (by omega)).trans (by omega))
          refine ObsF.cons (fun ρ L W hR hI hL hD hO hF K hK => ?_) ?_
          · skip
            have f11 := allF_get hF (j := 11) (by decide)
            clear hF hD hO hR
            simp only [Act.put, List.setIfInBounds_toArray, List.set_cons_succ, List.set_cons_zero] at hK ⊢
            have e11 : ρ 11 = .bool (!St.fullB its.length tx.length cuts.length false) := f11
            rw [e11] at hK ⊢
            go_simp
            refine hK _ _ trivial (by simpa [updB] using hI) (fun _ _ => ?_)
            rfl
          refine ObsF.cons (fun ρ L W hR hI hL hD hO hF K hK => ?_) ?_
          · skip
            have f15 := allF_get hF (j := 15) (by decide)
            clear hF hD hO hR
            simp only [Act.put, List.setIfInBounds_toArray, List.set_cons_succ, List.set_cons_zero] at hK ⊢
            have e15 : ρ 15 = .int .i64 ((a : Int) + ((n + 1 : Nat) : Int) + 1) := f15
            rw [e15] at hK ⊢
            go_simp
            refine hK _ _ trivial (by simpa [updB] using hI) (fun _ _ => ?_)
            rfl
          exact ObsF.nil
        case hendC =>
          intro ρ L W hR hI hL hF
          rw [if_pos (hL 11 (by decide))] at hI
          obtain ⟨_, _, _, _, _, _, _, _, _, _, _, _, _, _, _, _, g16, g17, _⟩ := hF
          have g16 : ρ 16 = .bool (!St.fullB its.length tx.length cuts.length false) := g16
          have g17 : ρ 17 = .int .i64 ((a : Int) + ((n + 1 : Nat) : Int) + 1) := g17
          rw [g16, g17]
          clear g16 g17 hR hL
          obtain ⟨hba, hbl⟩ := hI
          have hbl2 : Below B w W := Below.trans HB0.out hbl
          have HBL := hid hbl2
          have HBA := hid hba
          clear hba hbl hbl2
          cases hfu : St.fullB its.length tx.length cuts.length false
          · obtain ⟨c3, c4, f3, f4, hlt, hBb⟩ := (HBA.out hfu).at
            haveI : LtW b W := LtW.of hlt
            have HBN := hid ((HBA.out hfu).mo (a + (n + 2)) ((a : Int) + ((n + 1 : Nat) : Int) + 1) ((a : Int) + ((n + 1 : Nat) : Int) + 1) (by omega) (by omega))
            have HBB := hid hBb
            have HFU := hid hfu
            clear hfu hBb
            go_wp2
            go_ret2
            exact rel_item HSL.out HFU.out ((HBL.out.setCell (p := ⟨b, 3, none⟩) HBB.out _).setCell (p := ⟨b, 4, none⟩) HBB.out _) HBN.out _ (by omega)
          · have HFU := hid hfu
            clear hfu
            go_wp2
            go_ret2
            exact rel_full5 HSL.out HFU.out HBL.out
  · have e123 : ((s[0].toNat : Int) == 123) = false := by simp; omega
    have hsl := St.res_else (r := s.data.toList.drop 1) c10 c92 c123
    rw [← hcr, hl] at hsl
    obtain ⟨c, hc⟩ : ∃ c, s[0] = c := ⟨_, rfl⟩
    rw [hc] at hsl e10 e92 e123
    have HSL := hid hsl
    have HBY := hid (hby0.out c)
    clear hcr hl hsl c10 c92 c123
    go_enter Tryz.func56, Tryz.ntmps56
    go_wp2_with fail
    refine wp_region_facts (fun _ _ => True) (fun L W => if L 9 = true then (St.fullB its.length tx.length cuts.length true = false → BAt (mo2 d) W B b its (tx ++ [c]) (cuts ++ [d])) ∧ Below B w.drew W else W = w.drew) ([fun v _ => v = .pointer (some ⟨b, 0, none⟩), fun v _ => v = .pointer (some ⟨b, 0, none⟩), fun v _ => v = .pointer (some ⟨b, 0, none⟩), fun v _ => v = .string s, fun v _ => v = .int .u8 (c.toNat : Int), fun v _ => v = .pointer (some ⟨b, 0, none⟩), fun v _ => v = .pointer (some ⟨b, 0, none⟩), fun v _ => v = .pointer (some ⟨b, 3, none⟩), fun v _ => v = .int .i64 d, fun v _ => v = .bool (!St.fullB its.length tx.length cuts.length true), fun v _ => v = .bool (!St.fullB its.length tx.length cuts.length true)]) (fun _ => trivial) (fun _ _ _ _ _ => trivial) (by kernel_rfl) (by rfl) (by kernel_rfl) (by kernel_rfl) ?frD ?hfrD ?hID ?hobD ?hendD
    case hfrD =>
      intro ρ
      simp only [putAll, Act.put, List.setIfInBounds_toArray, List.set_cons_succ, List.set_cons_zero, Nat.zero_add, Nat.reduceAdd]
      exact rfl
    case hID => simp
    case hobD =>
      refine ObsF.cons (fun ρ L W hR hI hL hD hO hF K hK => ?_) ?_
      · skip
        clear hF hD hO hR
        simp only [Act.put, List.setIfInBounds_toArray, List.set_cons_succ, List.set_cons_zero] at hK ⊢
        go_simp
        refine hK _ _ trivial (by simpa [updB] using hI) (fun _ _ => ?_)
        rfl
      refine ObsF.cons (fun ρ L W hR hI hL hD hO hF K hK => ?_) ?_
      · skip
        have f0 := allF_get hF (j := 0) (by decide)
        clear hF hD hO hR
        simp only [Act.put, List.setIfInBounds_toArray, List.set_cons_succ, List.set_cons_zero] at hK ⊢
        have e0 : ρ 0 = .pointer (some ⟨b, 0, none⟩) := f0
        rw [e0] at hK ⊢
        go_simp
        refine hK _ _ trivial (by simpa [updB] using hI) (fun _ _ => ?_)
        rfl
      refine ObsF.cons (fun ρ L W hR hI hL hD hO hF K hK => ?_) ?_
      · skip
        have f1 := allF_get hF (j := 1) (by decide)
        clear hF hD hO hR
        simp only [Act.put, List.setIfInBounds_toArray, List.set_cons_succ, List.set_cons_zero] at hK ⊢
        have e1 : ρ 1 = .pointer (some ⟨b, 0, none⟩) := f1
        rw [e1] at hK ⊢
        go_simp
        refine hK _ _ trivial (by simpa [updB] using hI) (fun _ _ => ?_)
        rfl
      refine ObsF.cons (fun ρ L W hR hI hL hD hO hF K hK => ?_) ?_
      · skip
        clear hF hD hO hR
        simp only [Act.put, List.setIfInBounds_toArray, List.set_cons_succ, List.set_cons_zero] at hK ⊢
        go_simp
        refine hK _ _ trivial (by simpa [updB] using hI) (fun _ _ => ?_)
        rfl
      refine ObsF.cons (fun ρ L W hR hI hL hD hO hF K hK => ?_) ?_
      · skip
        have f3 := allF_get hF (j := 3) (by decide)
        clear hF hD hO hR
        simp only [Act.put, List.setIfInBounds_toArray, List.set_cons_succ, List.set_cons_zero] at hK ⊢
        have e3 : ρ 3 = .string s := f3
        rw [e3] at hK ⊢
        have y0 : 0 < raw.size - a := by omega
        go_simp
        refine hK _ _ trivial (by simpa [updB] using hI) (fun _ _ => ?_)
        rfl
      refine ObsF.cons (fun ρ L W hR hI hL hD hO hF K hK => ?_) ?_
      · skip
        clear hF hD hO hR
        simp only [Act.put, List.setIfInBounds_toArray, List.set_cons_succ, List.set_cons_zero] at hK ⊢
        go_simp
        refine hK _ _ trivial (by simpa [updB] using hI) (fun _ _ => ?_)
        rfl
      refine ObsF.cons (fun ρ L W hR hI hL hD hO hF K hK => ?_) ?_
      · skip
        have f5 := allF_get hF (j := 5) (by decide)
        clear hF hD hO hR
        simp only [Act.put, List.setIfInBounds_toArray, List.set_cons_succ, List.set_cons_zero] at hK ⊢
        have e5 : ρ 5 = .pointer (some ⟨b, 0, none⟩) := f5
        rw [e5] at hK ⊢
        go_simp
        refine hK _ _ trivial (by simpa [updB] using hI) (fun _ _ => ?_)
        rfl
      refine ObsF.cons (fun ρ L W hR hI hL hD hO hF K hK => ?_) ?_
      · skip
        have f6 := allF_get hF (j := 6) (by decide)
        clear hF hD hO hR
        simp only [Act.put, List.setIfInBounds_toArray, List.set_cons_succ, List.set_cons_zero] at hK ⊢
        have e6 : ρ 6 = .pointer (some ⟨b, 0, none⟩) := f6
        rw [e6] at hK ⊢
        go_simp
        refine hK _ _ trivial (by simpa [updB] using hI) (fun _ _ => ?_)
        rfl
      refine ObsF.cons (fun ρ L W hR hI hL hD hO hF K hK => ?_) ?_
      · skip
        have f7 := allF_get hF (j := 7) (by decide)
        have hLc : L 9 = false := hD.not (p := 9) rfl (by decide) hL
        rw [if_neg (by rw [hLc]; decide)] at hI
        subst hI
        clear hF hD hO hR
        simp only [Act.put, List.setIfInBounds_toArray, List.set_cons_succ, List.set_cons_zero] at hK ⊢
        have e7 : ρ 7 = .pointer (some ⟨b, 3, none⟩) := f7
        rw [e7] at hK ⊢
        go_simp
        refine hK _ _ trivial (by simp [updB, hLc]) (fun _ _ => ?_)
        rfl
      refine ObsF.cons (fun ρ L W hR hI hL hD hO hF K hK => ?_) ?_
      · skip
        have f2 := allF_get hF (j := 2) (by decide)
        have f4 := allF_get hF (j := 4) (by decide)
        have f8 := allF_get hF (j := 8) (by decide)
        rw [if_neg (by rw [hL]; decide)] at hI
        subst hI
        clear hF hD hO hR
        simp only [Act.put, List.setIfInBounds_toArray, List.set_cons_succ, List.set_cons_zero] at hK ⊢
        have e2 : ρ 2 = .pointer (some ⟨b, 0, none⟩) := f2
        have e4 : ρ 4 = .int .u8 (c.toNat : Int) := f4
        have e8 : ρ 8 = .int .i64 d := f8
        rw [e2, e4, e8] at hK ⊢
        refine step_callE2 (o := ⟨some 28, _, _, _, _, _⟩) rfl 73 #[.pointer (some ⟨b, 0, none⟩), .int .u8 c.toNat, .int .i64 d] _ HBY.out ?_ ?_
        · go_simp
        rintro e W2 ⟨rfl, h1, h2⟩
        exact ⟨_, rfl, hK _ _ trivial (by simp only [updB, if_true]; exact ⟨h1, h2⟩) (fun _ _ => rfl)⟩
      refine ObsF.cons (fun ρ L W hR hI hL hD hO hF K hK => ?_) ?_
      · skip
        have f9 := allF_get hF (j := 9) (by decide)
        clear hF hD hO hR
        simp only [Act.put, List.setIfInBounds_toArray, List.set_cons_succ, List.set_cons_zero] at hK ⊢
        have e9 : ρ 9 = .bool (!St.fullB its.length tx.length cuts.length true) := f9
        rw [e9] at hK ⊢
        go_simp
        refine hK _ _ trivial (by simpa [updB] using hI) (fun _ _ => ?_)
        rfl
      exact ObsF.nil
    case hendD =>
      intro ρ L W hR hI hL hF
      rw [if_pos (hL 9 (by decide))] at hI
      obtain ⟨_, _, _, _, _, _, _, _, _, _, g10, _⟩ := hF
      have g10 : ρ 10 = .bool (!St.fullB its.length tx.length cuts.length true) := g10
      rw [g10]
      clear g10 hR hL
      obtain ⟨hba, hbl⟩ := hI
      have hbl2 : Below B w W := Below.trans HB0.out hbl
      have HBL := hid hbl2
      have HBA := hid hba
      clear hba hbl hbl2
      cases hfu : St.fullB its.length tx.length cuts.length true
      · obtain ⟨c3, c4, f3, f4, hlt, hBb⟩ := (HBA.out hfu).at
        haveI : LtW b W := LtW.of hlt
        have HBN := hid ((HBA.out hfu).mo (a + 1) ((a : Int) + 1) ((a : Int) + 1) (by omega) (by omega))
        have HBB := hid hBb
        have HFU := hid hfu
        clear hfu hBb
        go_wp2
        go_ret2
        exact rel_byte HSL.out hN'.out HFU.out ((HBL.out.setCell (p := ⟨b, 3, none⟩) HBB.out _).setCell (p := ⟨b, 4, none⟩) HBB.out _) HBN.out h3 _ (by omega)
      · have HFU := hid hfu
        clear hfu
        go_wp2
        go_ret2
        exact rel_full HSL.out hN'.out HFU.out HBL.out
end Go.Proofs.YtpahkhmheikebaaGreatDoor
