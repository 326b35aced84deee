/- The law RoleFormats: walk. Condition: the lists lie in memory, and the library's own variables too. -/
import Derived.Test.YthgmlkeojhfijaaDoorRoleFormat
import Derived.Test.YthgmlkeojhfijaaDoorRoleRound
import Derived.LoopN
namespace Go.Proofs.YthgmlkeojhfijaaDoor
open Go.RowKit

theorem docs_len : ∀ (ds : List Int), (∀ d ∈ ds, 0 ≤ d ∧ d < 16) → (fmtDocs ds).length ≤ 3 * ds.length
  | [], _ => by simp [fmtDocs]
  | d :: ds, h => by
    have h1 := docs_len ds (fun x hx => h x (List.mem_cons_of_mem _ hx))
    have h2 := dec_len d.toNat (by have := h d (List.mem_cons_self ..); omega)
    unfold fmtDocs at h1 ⊢
    rw [List.flatMap_cons, List.length_append, List.length_cons, List.length_cons]
    omega
theorem fmtU_len {u : UserD} (h : GoodU u) : (fmtU u).length ≤ 200 := by
  obtain ⟨h1, h2, h3, h4, h5⟩ := h
  have hd := docs_len u.2.2 (docsOk_mem h5)
  have hrl : (roleW u.2.1).length ≤ 10 := by
    rcases (show u.2.1 = 1 ∨ u.2.1 = 2 ∨ u.2.1 = 3 ∨ u.2.1 = 4 by omega) with e | e | e | e <;> rw [e] <;> decide
  have hl := St.len_list u.1
  unfold fmtU
  simp only [List.length_append, List.length_cons, List.length_nil]
  omega
theorem fmt_len : ∀ (us : List UserD), (∀ u ∈ us, GoodU u) → (fmtL us).length ≤ 200 * us.length
  | [], _ => by simp [fmtL]
  | u :: us, h => by
    have h1 := fmt_len us (fun x hx => h x (List.mem_cons_of_mem _ hx))
    have h2 := fmtU_len (h u (List.mem_cons_self ..))
    unfold fmtL at h1 ⊢
    rw [List.flatMap_cons, List.length_append, List.length_cons]
    omega
noncomputable def FE (us : List UserD) : ByteArray × Int := if validE us = 0 then (⟨(fmtL us).toArray⟩, 0) else (⟨#[]⟩, validE us)
theorem format_all (A : Option Addr) (n c : Nat) (us : List UserD) (w : World) (hn : us.length = n) (hnc : n ≤ c) (hc63 : c ≤ 9223372036854775807) (h : UsersAt w A us) (ht : Tab w) :
    Calls Tryd.prog 22 #[.slice A n c] w fun e w' => e = .returned (.tuple #[.string (FE us).1, .int .i64 (FE us).2]) ∧ Und w w' := by
  by_cases hv : validE us = 0
  · refine (format_ok A n c us w hn hnc hc63 h hv ht).mono fun e w' ⟨he, hu⟩ => ⟨?_, hu⟩
    rw [he, FE, if_pos hv]
  · refine (format_bad A n c us w hn hnc hc63 h hv).mono fun e w' ⟨he, hu⟩ => ⟨?_, hu⟩
    rw [he, FE, if_neg hv]
theorem rformat_all (A : Option Addr) (n c : Nat) (us : List UserD) (w : World) (hn : us.length = n) (hnc : n ≤ c) (hc63 : c ≤ 9223372036854775807) (h : UsersAt w A us) :
    Calls Tryd.prog 18 #[.slice A n c] w fun e w' => e = .returned (.tuple #[.string (FE us).1, .int .i64 (FE us).2]) ∧ Und w w' := by
  by_cases hv : validE us = 0
  · refine (rformat_ok A n c us w hn hnc hc63 h hv).mono fun e w' ⟨he, hu, _⟩ => ⟨?_, hu⟩
    rw [he, FE, if_pos hv]
  · refine (rformat_bad A n c us w hn hnc hc63 h hv).mono fun e w' ⟨he, hu⟩ => ⟨?_, hu⟩
    rw [he, FE, if_neg hv]

set_option maxRecDepth 20000 in
set_option maxHeartbeats 6400000 in
theorem formatslaw_any (A A2 : Option Addr) (n c n2 c2 : Nat) (us : List UserD) (zs : List Int) (w : World) (hL : LibAt w)
    (hn : us.length = n) (hnc : n ≤ c) (hc63 : c ≤ 9223372036854775807) (hU : UsersAt w A us) (hz : zs.length = n2) (hn2 : n2 ≤ 9223372036854775807) (hI : IntsAt w A2 zs) :
    Calls Tryd.prog 8 #[.slice A n c, .slice A2 n2 c2] w fun e w' => e = .returned (.bool true) ∧ Und w w' := by
  have HL := hid hL
  have HU := hid hU
  have HI := hid hI
  obtain ⟨m, hm⟩ := hL.len
  have HM := hid hm
  have hb := World.block_lt_of_cell? _ _ hm
  simp only at hb
  have hl := fun W h => long_any A2 n2 c2 w.heap.size W hn2 h
  clear hL hU hI hm
  by_cases h160 : 160 < n2
  · simp only [decide_eq_true h160] at hl
    have HLo := hid hl
    clear hl h160
    go_enter Tryd.func8, Tryd.ntmps8
    go_wp2_with (first | (go_at_call 13; refine (HLo.out _ ?_).mono ?_; (· go_simp; done); rintro e w' ⟨rfl, rfl⟩) | (go_at_call 12; refine (known_any m _ ((Und.cell (by repeat (first | exact Und.refl _ | assumption | refine Und.under ?_ _ | refine Und.alloc ?_ _ | refine Und.drew ?_ | refine Und.drewN ?_ _)) hb).trans HM.out)).mono ?_; rintro e w' ⟨rfl, X9, rfl⟩))
    go_ret
    exact ⟨rfl, (by repeat (first | exact Und.refl _ | assumption | refine Und.under ?_ _ | refine Und.alloc ?_ _ | refine Und.drew ?_ | refine Und.drewN ?_ _))⟩
  · simp only [decide_eq_false h160] at hl
    have HLo := hid hl
    clear hl h160
    go_enter Tryd.func8, Tryd.ntmps8
    go_wp2_with fail
    refine (HLo.out _ ?_).mono ?_
    · go_simp
    rintro e w' ⟨rfl, rfl⟩
    go_wp2_with fail
    refine (big_any A n c us _ hn hnc hc63 (HU.out.und (by repeat (first | exact Und.refl _ | assumption | refine Und.under ?_ _ | refine Und.alloc ?_ _ | refine Und.drew ?_ | refine Und.drewN ?_ _)))).mono ?_
    rintro e w' ⟨r, rfl, X, rfl⟩
    cases r
    · go_wp2_with fail
      refine (users_any A2 n2 c2 zs _ hz (HI.out.und (by repeat (first | exact Und.refl _ | assumption | refine Und.under ?_ _ | refine Und.alloc ?_ _ | refine Und.drew ?_ | refine Und.drewN ?_ _)))).mono ?_
      rintro e w2 ⟨i0, us2, A3, cap, rfl, h1, h2, h3, h4, hMade, hU2, hund, _⟩
      have hww : Und w w2 := ((by repeat (first | exact Und.refl _ | assumption | refine Und.under ?_ _ | refine Und.alloc ?_ _ | refine Und.drew ?_ | refine Und.drewN ?_ _)) : Und w _).trans hund
      have HUA := hid (HU.out.und hww)
      have HUB := hid hU2
      have HL2 := hid (HL.out.und hww)
      have HM2 := hid ((Und.cell hww hb).trans HM.out)
      have HWW := hid hww
      have hb2 : 0 < w2.heap.size := Nat.lt_of_lt_of_le hb hww.size
      have hv := made_valid h2 h1 hMade
      have HV := hid hv
      have h3 : i0 ≤ cap := by omega
      clear hU2 hund hMade hv hww
      have hf1 := hid (fun W (hW : Und w2 W) => format_all A n c us W hn hnc hc63 (HUA.out.und hW) (HL2.out.tab.und hW))
      have hf2 := hid (fun W (hW : Und w2 W) => rformat_all A n c us W hn hnc hc63 (HUA.out.und hW))
      have hf3 := hid (fun W (hW : Und w2 W) => format_all A3 i0 cap us2 W h1 h3 h4 (HUB.out.und hW) (HL2.out.tab.und hW))
      have hf4 := hid (fun W (hW : Und w2 W) => rformat_all A3 i0 cap us2 W h1 h3 h4 (HUB.out.und hW))
      have hfe : FE us2 = (⟨(fmtL us2).toArray⟩, 0) := by rw [FE, if_pos HV.out]
      have HFE := hid hfe
      clear hfe
      generalize FE us = f1 at hf1 hf2
      generalize FE us2 = f2 at hf3 hf4 HFE
      obtain ⟨t1, x1⟩ := f1
      obtain ⟨t2, x2⟩ := f2
      have hft := HFE.out
      simp only [Prod.mk.injEq] at hft
      obtain ⟨hft, rfl⟩ := hft
      have HFT := hid hft
      clear hft HFE
      simp only at hf1 hf2 hf3 hf4
      go_wp2_with fail
      refine wp_loop_rounds 3 ?_
      rw [rounds_succ]
      go_wp2_with (first | (go_at_call 22; refine (hf1.out _ (by repeat (first | exact Und.refl _ | assumption | refine Und.under ?_ _ | refine Und.alloc ?_ _ | refine Und.drew ?_ | refine Und.drewN ?_ _))).mono ?_; rintro e w' ⟨rfl, X1, rfl⟩) | (go_at_call 18; refine (hf2.out _ (by repeat (first | exact Und.refl _ | assumption | refine Und.under ?_ _ | refine Und.alloc ?_ _ | refine Und.drew ?_ | refine Und.drewN ?_ _))).mono ?_; rintro e w' ⟨rfl, X2, rfl⟩))
      rw [rounds_succ]
      go_wp2_with (first | (go_at_call 22; refine (hf3.out _ (by repeat (first | exact Und.refl _ | assumption | refine Und.under ?_ _ | refine Und.alloc ?_ _ | refine Und.drew ?_ | refine Und.drewN ?_ _))).mono ?_; rintro e w' ⟨rfl, X3, rfl⟩) | (go_at_call 18; refine (hf4.out _ (by repeat (first | exact Und.refl _ | assumption | refine Und.under ?_ _ | refine Und.alloc ?_ _ | refine Und.drew ?_ | refine Und.drewN ?_ _))).mono ?_; rintro e w' ⟨rfl, X4, rfl⟩))
      rw [rounds_succ]
      go_wp2_with (first | (go_at_call 22; refine (hf3.out _ (by repeat (first | exact Und.refl _ | assumption | refine Und.under ?_ _ | refine Und.alloc ?_ _ | refine Und.drew ?_ | refine Und.drewN ?_ _))).mono ?_; rintro e w' ⟨rfl, X5, rfl⟩) | (go_at_call 18; refine (hf4.out _ (by repeat (first | exact Und.refl _ | assumption | refine Und.under ?_ _ | refine Und.alloc ?_ _ | refine Und.drew ?_ | refine Und.drewN ?_ _))).mono ?_; rintro e w' ⟨rfl, X4, rfl⟩))
      have hfl : (fmtL us2).length ≤ 6400 := by
        have hg := valid_good HV.out
        have := fmt_len us2 hg.2
        omega
      have hsz : t2.size ≤ 6400 := by rw [HFT.out]; show (fmtL us2).toArray.size ≤ _; simpa using hfl
      refine (parse_any t2 _ (by omega) (HL2.out.und (by repeat (first | exact Und.refl _ | assumption | refine Und.under ?_ _ | refine Und.alloc ?_ _ | refine Und.drew ?_ | refine Und.drewN ?_ _)))).mono ?_
      rintro e w7 ⟨us', n', er', A7, c7, hp7, rfl, hU7, k1, k2, hu7⟩
      rw [HFT.out, parseT_fmt HV.out (by omega)] at hp7
      simp only [Prod.mk.injEq] at hp7
      obtain ⟨rfl, rfl, rfl⟩ := hp7
      have hu8 := ((by repeat (first | exact Und.refl _ | assumption | refine Und.under ?_ _ | refine Und.alloc ?_ _ | refine Und.drew ?_ | refine Und.drewN ?_ _)) : Und w2 _).trans hu7
      have HU8 := hid hu8
      have HU7 := hid hU7
      have k3 : i0 ≤ c7 := by omega
      clear hu7 hU7 hu8 hfl hsz
      go_wp2_with (first | (go_at_call 24; refine (same_any A3 A7 i0 cap c7 us2 _ h1 h3 k3 h4 k2 ((HUB.out.und HU8.out).und (by repeat (first | exact Und.refl _ | assumption | refine Und.under ?_ _ | refine Und.alloc ?_ _ | refine Und.drew ?_ | refine Und.drewN ?_ _))) (HU7.out.und (by repeat (first | exact Und.refl _ | assumption | refine Und.under ?_ _ | refine Und.alloc ?_ _ | refine Und.drew ?_ | refine Und.drewN ?_ _)))).mono ?_; rintro e w' ⟨rfl, X8, rfl⟩) | (go_at_call 12; refine (known_any m _ ((Und.cell (HU8.out.trans (by repeat (first | exact Und.refl _ | assumption | refine Und.under ?_ _ | refine Und.alloc ?_ _ | refine Und.drew ?_ | refine Und.drewN ?_ _))) hb2).trans HM2.out)).mono ?_; rintro e w' ⟨rfl, X9, rfl⟩))
      go_ret
      exact ⟨rfl, HWW.out.trans (HU8.out.trans (by repeat (first | exact Und.refl _ | assumption | refine Und.under ?_ _ | refine Und.alloc ?_ _ | refine Und.drew ?_ | refine Und.drewN ?_ _)))⟩
    · go_wp2_with (go_at_call 12; refine (known_any m _ ((Und.cell (by repeat (first | exact Und.refl _ | assumption | refine Und.under ?_ _ | refine Und.alloc ?_ _ | refine Und.drew ?_ | refine Und.drewN ?_ _)) hb).trans HM.out)).mono ?_; rintro e w' ⟨rfl, X9, rfl⟩)
      go_ret
      exact ⟨rfl, (by repeat (first | exact Und.refl _ | assumption | refine Und.under ?_ _ | refine Und.alloc ?_ _ | refine Und.drew ?_ | refine Und.drewN ?_ _))⟩
end Go.Proofs.YthgmlkeojhfijaaDoor
