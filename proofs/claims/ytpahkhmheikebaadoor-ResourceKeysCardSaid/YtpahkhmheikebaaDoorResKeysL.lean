/- The law ResourceKeys: walk. No condition. -/
import Derived.Test.YtpahkhmheikebaaDoorResKeysPl
import Derived.Test.YtpahkhmheikebaaDoorResKnown
import Derived.Test.YtpahkhmheikebaaDoorFacts
import Derived.Test.YtpahkhmheikebaaDoorItemBox
import Derived.IntWalk
namespace Go.Proofs.YtpahkhmheikebaaDoor
open Go.RowKit

def KsRel (w : World) (N : Nat) (s7 s8 : Value) (wr : World) : Prop := ∃ (k : Nat) (b : ByteArray), k ≤ N ∧ s8 = .int .i64 k ∧ s7 = .string b ∧ b.data.toList = List.replicate k 107 ∧ w = wr
theorem dE_v : (dE [118]).2 = 0 := by rw [show ([118] : List UInt8) = (⟨#[118]⟩ : ByteArray).data.toList from rfl, dE_of]; rfl
def outC (c : UInt8) : Prop := c.toNat = 10 ∨ c.toNat = 61 ∨ c.toNat = 35 ∨ c.toNat = 32 ∨ c.toNat = 9
theorem rep_key (k : Nat) (c : UInt8) (h : St.keyC c = true) : ∀ x ∈ List.replicate (k - 1) 107 ++ [c], St.keyC x = true := by
  intro x hx
  rcases List.mem_append.1 hx with hx | hx
  · rw [(List.mem_replicate.1 hx).2]; rfl
  · simp at hx; subst hx; exact h
/-- What the law's file gives. -/
theorem keys_bad {k : Nat} {c : UInt8} {kd dd R : ByteArray} (hkl : kd.data.toList = List.replicate (k - 1) 107 ++ [c]) (hk : k < 70) (hd : dd.data.toList = kd.data.toList ++ 61 :: R.data.toList) (hR : R.size ≤ 1000) (h : (St.keyC c = false ∧ ¬ outC c) ∨ (64 < k ∧ St.keyC c = true)) : resT dd = ([], 0, 2) := by
  unfold resT
  rw [hd, hkl]
  have hRl : R.data.toList.length ≤ 1000 := by rw [St.len_list]; exact hR
  rcases h with ⟨h1, h2⟩ | ⟨h1, h2⟩
  · rw [List.append_assoc]
    exact St.bad_last (by simp; omega) h1 (by unfold outC at h2; omega)
  · exact St.bad_long (by simp; omega) (rep_key k c h2) (by simp; omega)
theorem keys_one {k : Nat} {c : UInt8} {kd dd : ByteArray} (hkl : kd.data.toList = List.replicate (k - 1) 107 ++ [c]) (h0 : 0 < k) (hk : k ≤ 64) (hd : dd.data.toList = kd.data.toList ++ [61, 118, 10]) (h : St.keyC c = true) : ∃ x y, resT dd = ([(false, [], x), (true, kd.data.toList, [118]), (false, [], y)], 0, 0) := by
  unfold resT
  rw [hd]
  exact St.one_ok dE_v (by rw [hkl]; exact rep_key k c h) (by rw [hkl]; simp) (by rw [hkl]; simp; omega)
theorem keys_two {k : Nat} {c : UInt8} {kd dd : ByteArray} (hkl : kd.data.toList = List.replicate (k - 1) 107 ++ [c]) (h0 : 0 < k) (hk : k ≤ 64) (hd : dd.data.toList = (kd.data.toList ++ [61, 118, 10]) ++ (kd.data.toList ++ [61, 118, 10])) (h : St.keyC c = true) : resT dd = ([], k + 3, 5) := by
  unfold resT
  rw [hd]
  have := St.two_dup (dE := dE) dE_v (K := kd.data.toList) (by rw [hkl]; exact rep_key k c h) (by rw [hkl]; simp) (by rw [hkl]; simp; omega)
  have hl : kd.data.toList.length = k := by rw [hkl]; simp; omega
  rw [hl] at this
  exact this
theorem keys_zero {dd : ByteArray} {R : List UInt8} (hd : dd.data.toList = 61 :: R) (hs : dd.size ≤ 60000) : resT dd = ([], 0, 2) := by
  unfold resT
  have hk : St.keyN (61 :: R) = 0 := by unfold St.keyN; rw [List.takeWhile_cons_of_neg (by decide)]; rfl
  refine St.bad_zero (by rw [hd]; simp) (by rw [St.len_list]; omega) (by rw [hd]; exact St.skip_first (by decide)) (.inl (by rw [hd]; exact hk))

set_option maxRecDepth 20000 in
set_option maxHeartbeats 12800000 in
theorem keyslaw_any (n : Int) (c : UInt8) (tw : Bool) (w : World) : Calls Tryd.prog 3 #[.int .i64 n, .int .u8 (c.toNat : Int), .bool tw] w fun e w' => e = .returned (.bool true) ∧ Und w w' := by
  have hcl := c.toNat_lt
  obtain ⟨N, hN70, hN⟩ : ∃ N : Nat, N < 70 ∧ wrap64 ((IntKind.u64.wrap n).tmod 70) = (N : Int) := by
    have h0 : 0 ≤ IntKind.u64.wrap n := by rw [IntKind.wrap_u64]; omega
    rw [Int.tmod_eq_emod_of_nonneg h0, IntWalk.wrap64_in _ (by omega)]
    exact ⟨(IntKind.u64.wrap n % 70).toNat, by omega, by omega⟩
  go_enter Tryd.func3, Tryd.ntmps3
  go_wp2_with fail
  try rw [hN]
  clear hN
  go_loopw [7, 8] (fun s7 s8 wr => KsRel w N s7 s8 wr) (fun _ s8 _ => N + 1 - (intOf s8).toNat)
  case atStart => exact ⟨0, ⟨#[]⟩, by omega, rfl, rfl, rfl, rfl⟩
  case round =>
    obtain ⟨k, kb, hk, rfl, rfl, hbl, rfl⟩ := hrel
    have hbs : kb.size = k := by rw [← St.len_list, hbl]; simp
    by_cases hlt : k < N
    · have z1 : (k : Int) < (N : Int) := by omega
      have y1 : ¬ 9223372036854775807 < kb.size + 1 := by omega
      have HB := hid hbl
      clear hbl hbs
      go_wp2
      exact ⟨⟨k + 1, _, by omega, congrArg (Value.int .i64) (by omega), rfl, by rw [ByteArray.data_append, Array.toList_append, HB.out, List.replicate_succ'], rfl⟩, by simp [intOf]; omega⟩
    · obtain rfl : k = N := by omega
      have z9 : ¬ (k : Int) < (k : Int) := by omega
      clear hlt hk
      rcases (show (97 ≤ c.toNat ∧ c.toNat ≤ 122) ∨ (122 < c.toNat) ∨ (48 ≤ c.toNat ∧ c.toNat ≤ 57) ∨ (95 ≤ c.toNat ∧ c.toNat ≤ 95) ∨ (46 ≤ c.toNat ∧ c.toNat ≤ 46) ∨ (45 ≤ c.toNat ∧ c.toNat ≤ 45) ∨ (58 ≤ c.toNat ∧ c.toNat ≤ 96 ∧ c.toNat ≠ 95) ∨ (c.toNat ≤ 47 ∧ c.toNat ≠ 46 ∧ c.toNat ≠ 45) by omega) with hc | hc | hc | hc | hc | hc | hc | hc
      · have p97 : (97 : Int) ≤ (c.toNat : Int) := by omega
        have r122 : (c.toNat : Int) ≤ (122 : Int) := by omega
        have hkc : St.keyC c = true := by unfold St.keyC; exact decide_eq_true (by omega)
        by_cases hk0 : k = 0
        · have z0 : ¬ (0 : Int) < (k : Int) := by omega
          have z1 : (k : Int) < 1 := by omega
          have HU := hid (Und.refl w)
          cases tw
          · obtain ⟨dd, hdd⟩ : ∃ dd : ByteArray, kb ++ (⟨#[61, 118, 10]⟩ : ByteArray) = dd := ⟨_, rfl⟩
            have hdl : dd.data.toList = [61, 118, 10] := by rw [← hdd]; rw [ByteArray.data_append, Array.toList_append, hbl, hk0]; rfl
            have hds : dd.size = k + 3 := by rw [← St.len_list, hdl]; try simp [hk0]
            have hr := keys_zero (dd := dd) (R := [118, 10]) (by first | exact hdl | (rw [hd2l, hdl]; rfl) | rw [hd2l, hdl]) (by omega)
            have hsp := fun W => xsplit_any dd W (by omega)
            rw [hr] at hsp
            clear hr
            have HSP := hid hsp
            clear hsp hdl
            go_wp2_with fail
            refine (HSP.out _).mono ?_
            rintro e w4 ⟨A4, c4, rfl, hpa, h41, h42, hu4⟩
            have HU4 := hid (HU.out.trans hu4)
            clear hpa hu4
            go_wp2_with fail
            refine (xknown_any _).mono ?_
            rintro e w5 ⟨rfl, hu5⟩
            have HU5 := hid (HU4.out.trans hu5)
            clear hu5
            go_wp2
            go_ret
            exact ⟨rfl, HU5.out⟩
          · obtain ⟨dd, hdd⟩ : ∃ dd : ByteArray, kb ++ (⟨#[61, 118, 10]⟩ : ByteArray) = dd := ⟨_, rfl⟩
            have hdl : dd.data.toList = [61, 118, 10] := by rw [← hdd]; rw [ByteArray.data_append, Array.toList_append, hbl, hk0]; rfl
            have hds : dd.size = k + 3 := by rw [← St.len_list, hdl]; try simp [hk0]
            have y2 : ¬ 9223372036854775807 < dd.size + dd.size := by omega
            obtain ⟨d2, hdd2⟩ : ∃ d2 : ByteArray, dd ++ dd = d2 := ⟨_, rfl⟩
            have hd2l : d2.data.toList = dd.data.toList ++ dd.data.toList := by rw [← hdd2]; simp
            have hd2s : d2.size = 2 * (k + 3) := by rw [← St.len_list, hd2l]; simp [hds]; omega
            have hr := keys_zero (dd := d2) (R := [118, 10, 61, 118, 10]) (by first | exact hdl | (rw [hd2l, hdl]; rfl) | rw [hd2l, hdl]) (by omega)
            have hsp := fun W => xsplit_any d2 W (by omega)
            rw [hr] at hsp
            clear hr
            have HSP := hid hsp
            clear hsp hdl hd2l
            go_wp2_with fail
            refine (HSP.out _).mono ?_
            rintro e w4 ⟨A4, c4, rfl, hpa, h41, h42, hu4⟩
            have HU4 := hid (HU.out.trans hu4)
            clear hpa hu4
            go_wp2_with fail
            refine (xknown_any _).mono ?_
            rintro e w5 ⟨rfl, hu5⟩
            have HU5 := hid (HU4.out.trans hu5)
            clear hu5
            go_wp2
            go_ret
            exact ⟨rfl, HU5.out⟩
        · have z0 : (0 : Int) < (k : Int) := by omega
          have z1 : ¬ (k : Int) < 1 := by omega
          obtain ⟨kx, hkx⟩ : ∃ kx : ByteArray, kb.extract 0 (k - 1) = kx := ⟨_, rfl⟩
          have hkxl : kx.data.toList = List.replicate (k - 1) 107 := by rw [← hkx, Lib.extract_data, hbl]; simp
          have hkxs : kx.size = k - 1 := by rw [← St.len_list, hkxl]; simp
          have hkbs : kb.size = k := by rw [← St.len_list, hbl]; simp
          go_wp2_with fail
          refine wp_region_facts (fun a b => Und a b) (fun _ _ => True) [fun v _ => v = .string kb, fun v _ => v = .int .i64 k, fun v _ => v = .int .i64 ((k - 1 : Nat) : Int), fun v _ => v = .string kx, fun v _ => v = .int .u8 (c.toNat : Int), fun v W => ∃ b, v = .slice (some ⟨b, 0, none⟩) 1 1 ∧ b < W.heap.size ∧ W.cell? ⟨b, 0, none⟩ = some (.int .u8 (c.toNat : Int)), fun v _ => v = .string ⟨#[c]⟩, fun v _ => v = .string (kx ++ ⟨#[c]⟩), fun v _ => v = .string (kx ++ ⟨#[c]⟩)] Und.refl (fun a b c h k => Und.trans h k) (by kernel_rfl) (by rfl) (by kernel_rfl) (by kernel_rfl) ?frD0 ?hfr ?hI ?hob ?hend
          case hfr =>
            intro ρ
            simp only [putAll, Act.put, List.setIfInBounds_toArray, List.set_cons_succ, List.set_cons_zero, Nat.zero_add, Nat.reduceAdd]
            exact rfl
          case hI => trivial
          case hob =>
            refine ObsF.cons (fun ρ L W hR hI hL hD hO hF K hK => ?_) ?_
            · skip
              have eo : ρ 8 = .string kb := hO 8 _ 7 rfl rfl (hD.not (p := 8) rfl (by decide) hL)
              clear hF hD hO hI hL hR
              simp only [Act.put, List.setIfInBounds_toArray, List.set_cons_succ, List.set_cons_zero] at hK ⊢
              rw [eo] at hK ⊢
              go_simp
              refine hK _ _ (Und.refl _) trivial (fun W2 h2 => ?_)
              rfl
            refine ObsF.cons (fun ρ L W hR hI hL hD hO hF K hK => ?_) ?_
            · skip
              clear hF hD hO hI hL hR
              simp only [Act.put, List.setIfInBounds_toArray, List.set_cons_succ, List.set_cons_zero] at hK ⊢
              go_simp
              refine hK _ _ (Und.refl _) trivial (fun W2 h2 => ?_)
              rfl
            refine ObsF.cons (fun ρ L W hR hI hL hD hO hF K hK => ?_) ?_
            · skip
              have f1 := allF_get hF (j := 1) (by decide)
              clear hF hD hO hI hL hR
              simp only [Act.put, List.setIfInBounds_toArray, List.set_cons_succ, List.set_cons_zero] at hK ⊢
              have e1 : ρ 1 = .int .i64 k := f1
              rw [e1] at hK ⊢
              go_simp
              refine hK _ _ (Und.refl _) trivial (fun W2 h2 => ?_)
              first | exact congrArg (Value.int .i64) (by omega) | exact congrArg (Value.int .i64) ((IntWalk.i64_in _ (by omega)).trans (by omega))
            refine ObsF.cons (fun ρ L W hR hI hL hD hO hF K hK => ?_) ?_
            · skip
              have f0 := allF_get hF (j := 0) (by decide)
              have f2 := allF_get hF (j := 2) (by decide)
              clear hF hD hO hI hL hR
              simp only [Act.put, List.setIfInBounds_toArray, List.set_cons_succ, List.set_cons_zero] at hK ⊢
              have e0 : ρ 0 = .string kb := f0
              have e2 : ρ 2 = .int .i64 ((k - 1 : Nat) : Int) := f2
              rw [e0, e2] at hK ⊢
              have y1 : ((k - 1 : Nat) : Int) ≤ kb.size := by omega
              have y2 : (((k - 1 : Nat) : Int)).toNat = k - 1 := by omega
              have y3 : k - 1 ≤ kb.size := by omega
              go_simp
              refine hK _ _ (Und.refl _) trivial (fun W2 h2 => ?_)
              first | rfl | exact congrArg Value.string hkx
            refine ObsF.cons (fun ρ L W hR hI hL hD hO hF K hK => ?_) ?_
            · skip
              clear hF hD hO hI hL hR
              simp only [Act.put, List.setIfInBounds_toArray, List.set_cons_succ, List.set_cons_zero] at hK ⊢
              go_simp
              refine hK _ _ (Und.refl _) trivial (fun W2 h2 => ?_)
              rfl
            refine ObsF.cons (fun ρ L W hR hI hL hD hO hF K hK => ?_) ?_
            · skip
              have f4 := allF_get hF (j := 4) (by decide)
              clear hF hD hO hI hL hR
              simp only [Act.put, List.setIfInBounds_toArray, List.set_cons_succ, List.set_cons_zero] at hK ⊢
              have e4 : ρ 4 = .int .u8 (c.toNat : Int) := f4
              rw [e4] at hK ⊢
              go_simp
              refine hK _ _ ((Und.refl W).alloc _) trivial (fun W2 h2 => ⟨W.heap.size, rfl, by have := h2.size; simp at this; omega, ?_⟩)
              rw [h2.cell (p := ⟨W.heap.size, 0, none⟩) (by simp)]
              simp
            refine ObsF.cons (fun ρ L W hR hI hL hD hO hF K hK => ?_) ?_
            · skip
              have f5 := allF_get hF (j := 5) (by decide)
              clear hF hD hO hI hL hR
              simp only [Act.put, List.setIfInBounds_toArray, List.set_cons_succ, List.set_cons_zero] at hK ⊢
              obtain ⟨b, e5, hb2, hc⟩ := f5
              rw [e5] at hK ⊢
              haveI : LtW b W := LtW.of hb2
              go_simp
              refine hK _ _ (Und.refl _) trivial (fun W2 h2 => ?_)
              first | rfl | simp
            refine ObsF.cons (fun ρ L W hR hI hL hD hO hF K hK => ?_) ?_
            · skip
              have f3 := allF_get hF (j := 3) (by decide)
              have f6 := allF_get hF (j := 6) (by decide)
              clear hF hD hO hI hL hR
              simp only [Act.put, List.setIfInBounds_toArray, List.set_cons_succ, List.set_cons_zero] at hK ⊢
              have e3 : ρ 3 = .string kx := f3
              have e6 : ρ 6 = .string ⟨#[c]⟩ := f6
              rw [e3, e6] at hK ⊢
              have y1 : ¬ 9223372036854775807 < kx.size + 1 := by omega
              have y2 : ¬ 9223372036854775807 < k - 1 + 1 := by omega
              go_simp
              refine hK _ _ (Und.refl _) trivial (fun W2 h2 => ?_)
              rfl
            refine ObsF.cons (fun ρ L W hR hI hL hD hO hF K hK => ?_) ?_
            · skip
              have f7 := allF_get hF (j := 7) (by decide)
              clear hF hD hO hI hL hR
              simp only [Act.put, List.setIfInBounds_toArray, List.set_cons_succ, List.set_cons_zero] at hK ⊢
              have e7 : ρ 7 = .string (kx ++ ⟨#[c]⟩) := f7
              rw [e7] at hK ⊢
              go_simp
              refine hK _ _ (Und.refl _) trivial (fun W2 h2 => ?_)
              rfl
            exact ObsF.nil
          case hend =>
            intro ρ L W hR hI hL hF
            obtain ⟨_, _, _, _, _, _, _, _, e8, _⟩ := hF
            have e8 : ρ 8 = .string (kx ++ ⟨#[c]⟩) := e8
            rw [e8]
            have HU := hid (show Und w W from (Und.refl w).drew.trans hR)
            clear hI hL hR e8
            obtain ⟨kd, hkd⟩ : ∃ kd : ByteArray, kx ++ ⟨#[c]⟩ = kd := ⟨_, rfl⟩
            rw [hkd]
            have hkl : kd.data.toList = List.replicate (k - 1) 107 ++ [c] := by rw [← hkd, ByteArray.data_append, Array.toList_append, hkxl]
            have hks : kd.size = k := by rw [← St.len_list, hkl]; simp; omega
            clear hkd
            by_cases h64 : 64 < k
            · have z2 : (64 : Int) < (k : Int) := by omega
              cases tw
              · have y1 : ¬ 9223372036854775807 < kd.size + 3 := by omega
                obtain ⟨dd, hdd⟩ : ∃ dd : ByteArray, kd ++ (⟨#[61, 118, 10]⟩ : ByteArray) = dd := ⟨_, rfl⟩
                have hdl : dd.data.toList = kd.data.toList ++ [61, 118, 10] := by rw [← hdd]; simp
                have hds : dd.size = k + 3 := by rw [← St.len_list, hdl]; simp [hks]
                have e10 : ((c.toNat : Int) == 10) = false := beq_eq_false_iff_ne.2 (by omega)
                have e61 : ((c.toNat : Int) == 61) = false := beq_eq_false_iff_ne.2 (by omega)
                have e35 : ((c.toNat : Int) == 35) = false := beq_eq_false_iff_ne.2 (by omega)
                have e32 : ((c.toNat : Int) == 32) = false := beq_eq_false_iff_ne.2 (by omega)
                have e9 : ((c.toNat : Int) == 9) = false := beq_eq_false_iff_ne.2 (by omega)
                have hr := keys_bad (R := ⟨#[118, 10]⟩) hkl (by omega) (by exact hdl) (by decide) (.inr ⟨h64, hkc⟩)
                have hsp := fun W => xsplit_any dd W (by omega)
                rw [hr] at hsp
                clear hr
                have HSP := hid hsp
                clear hsp hdl hkl
                go_wp2_with fail
                refine (HSP.out _).mono ?_
                rintro e w4 ⟨A4, c4, rfl, hpa, h41, h42, hu4⟩
                have HU4 := hid (HU.out.trans hu4)
                clear hpa hu4
                go_wp2_with fail
                refine (xknown_any _).mono ?_
                rintro e w5 ⟨rfl, hu5⟩
                have HU5 := hid (HU4.out.trans hu5)
                clear hu5
                go_wp2
                go_ret
                exact ⟨rfl, HU5.out⟩
              · have y1 : ¬ 9223372036854775807 < kd.size + 3 := by omega
                obtain ⟨dd, hdd⟩ : ∃ dd : ByteArray, kd ++ (⟨#[61, 118, 10]⟩ : ByteArray) = dd := ⟨_, rfl⟩
                have hdl : dd.data.toList = kd.data.toList ++ [61, 118, 10] := by rw [← hdd]; simp
                have hds : dd.size = k + 3 := by rw [← St.len_list, hdl]; simp [hks]
                have y2 : ¬ 9223372036854775807 < dd.size + dd.size := by omega
                obtain ⟨d2, hdd2⟩ : ∃ d2 : ByteArray, dd ++ dd = d2 := ⟨_, rfl⟩
                have hd2l : d2.data.toList = dd.data.toList ++ dd.data.toList := by rw [← hdd2]; simp
                have hd2s : d2.size = 2 * (k + 3) := by rw [← St.len_list, hd2l]; simp [hds]; omega
                have e10 : ((c.toNat : Int) == 10) = false := beq_eq_false_iff_ne.2 (by omega)
                have e61 : ((c.toNat : Int) == 61) = false := beq_eq_false_iff_ne.2 (by omega)
                have e35 : ((c.toNat : Int) == 35) = false := beq_eq_false_iff_ne.2 (by omega)
                have e32 : ((c.toNat : Int) == 32) = false := beq_eq_false_iff_ne.2 (by omega)
                have e9 : ((c.toNat : Int) == 9) = false := beq_eq_false_iff_ne.2 (by omega)
                have hr := keys_bad (R := (⟨#[118, 10]⟩ : ByteArray) ++ dd) hkl (by omega) (by rw [hd2l]; exact (congrArg (· ++ dd.data.toList) hdl).trans (by simp)) (by rw [ByteArray.size_append]; show 2 + _ ≤ _; omega) (.inr ⟨h64, hkc⟩)
                have hsp := fun W => xsplit_any d2 W (by omega)
                rw [hr] at hsp
                clear hr
                have HSP := hid hsp
                clear hsp hdl hd2l hkl
                go_wp2_with fail
                refine (HSP.out _).mono ?_
                rintro e w4 ⟨A4, c4, rfl, hpa, h41, h42, hu4⟩
                have HU4 := hid (HU.out.trans hu4)
                clear hpa hu4
                go_wp2_with fail
                refine (xknown_any _).mono ?_
                rintro e w5 ⟨rfl, hu5⟩
                have HU5 := hid (HU4.out.trans hu5)
                clear hu5
                go_wp2
                go_ret
                exact ⟨rfl, HU5.out⟩
            · have z2 : ¬ (64 : Int) < (k : Int) := by omega
              cases tw
              · have y1 : ¬ 9223372036854775807 < kd.size + 3 := by omega
                obtain ⟨dd, hdd⟩ : ∃ dd : ByteArray, kd ++ (⟨#[61, 118, 10]⟩ : ByteArray) = dd := ⟨_, rfl⟩
                have hdl : dd.data.toList = kd.data.toList ++ [61, 118, 10] := by rw [← hdd]; simp
                have hds : dd.size = k + 3 := by rw [← St.len_list, hdl]; simp [hks]
                have e10 : ((c.toNat : Int) == 10) = false := beq_eq_false_iff_ne.2 (by omega)
                have e61 : ((c.toNat : Int) == 61) = false := beq_eq_false_iff_ne.2 (by omega)
                have e35 : ((c.toNat : Int) == 35) = false := beq_eq_false_iff_ne.2 (by omega)
                have e32 : ((c.toNat : Int) == 32) = false := beq_eq_false_iff_ne.2 (by omega)
                have e9 : ((c.toNat : Int) == 9) = false := beq_eq_false_iff_ne.2 (by omega)
                obtain ⟨x, y, hr⟩ := keys_one hkl (by omega) (by omega) hdl hkc
                have hsp := fun W => xsplit_any dd W (by omega)
                rw [hr] at hsp
                clear hr
                have HSP := hid hsp
                clear hsp hdl hkl
                go_wp2_with fail
                refine (HSP.out _).mono ?_
                rintro e w4 ⟨A4, c4, rfl, hpa, h41, h42, hu4⟩
                have HU4 := hid (HU.out.trans hu4)
                obtain ⟨b, o, rfl, hb, hcl⟩ := hpa (by simp)
                have k1 := (hcl 1 (by simp)).2.1
                simp only [List.getElem_cons_zero, List.getElem_cons_succ, ba_eta] at k1
                haveI : LtW b w4 := LtW.of hb
                clear hcl hpa hu4
                simp only [List.length_cons, List.length_nil]
                have kk : (kd.toList == kd.toList) = true := beq_self_eq_true _
                simp only [List.length_cons, List.length_nil] at h41
                go_wp2_with fail
                refine (xknown_any _).mono ?_
                rintro e w5 ⟨rfl, hu5⟩
                have HU5 := hid (HU4.out.trans hu5)
                clear hu5
                go_wp2
                go_ret
                exact ⟨rfl, HU5.out⟩
              · have y1 : ¬ 9223372036854775807 < kd.size + 3 := by omega
                obtain ⟨dd, hdd⟩ : ∃ dd : ByteArray, kd ++ (⟨#[61, 118, 10]⟩ : ByteArray) = dd := ⟨_, rfl⟩
                have hdl : dd.data.toList = kd.data.toList ++ [61, 118, 10] := by rw [← hdd]; simp
                have hds : dd.size = k + 3 := by rw [← St.len_list, hdl]; simp [hks]
                have y2 : ¬ 9223372036854775807 < dd.size + dd.size := by omega
                obtain ⟨d2, hdd2⟩ : ∃ d2 : ByteArray, dd ++ dd = d2 := ⟨_, rfl⟩
                have hd2l : d2.data.toList = dd.data.toList ++ dd.data.toList := by rw [← hdd2]; simp
                have hd2s : d2.size = 2 * (k + 3) := by rw [← St.len_list, hd2l]; simp [hds]; omega
                have e10 : ((c.toNat : Int) == 10) = false := beq_eq_false_iff_ne.2 (by omega)
                have e61 : ((c.toNat : Int) == 61) = false := beq_eq_false_iff_ne.2 (by omega)
                have e35 : ((c.toNat : Int) == 35) = false := beq_eq_false_iff_ne.2 (by omega)
                have e32 : ((c.toNat : Int) == 32) = false := beq_eq_false_iff_ne.2 (by omega)
                have e9 : ((c.toNat : Int) == 9) = false := beq_eq_false_iff_ne.2 (by omega)
                have hr := keys_two hkl (by omega) (by omega) (by rw [hd2l, hdl]) hkc
                have hq : ((d2.size : Int).tdiv 2) = ((k + 3 : Nat) : Int) := by rw [show (d2.size : Int) = 2 * ((k + 3 : Nat) : Int) by omega]; exact Int.mul_tdiv_cancel_left _ (by decide)
                have hsp := fun W => xsplit_any d2 W (by omega)
                rw [hr] at hsp
                clear hr
                have HSP := hid hsp
                clear hsp hdl hd2l hkl
                go_wp2_with fail
                refine (HSP.out _).mono ?_
                rintro e w4 ⟨A4, c4, rfl, hpa, h41, h42, hu4⟩
                have HU4 := hid (HU.out.trans hu4)
                clear hpa hu4
                go_wp2_with fail
                refine (xknown_any _).mono ?_
                rintro e w5 ⟨rfl, hu5⟩
                have HU5 := hid (HU4.out.trans hu5)
                clear hu5
                go_wp2
                go_ret
                exact ⟨rfl, HU5.out⟩
      · have p97 : (97 : Int) ≤ (c.toNat : Int) := by omega
        have r122 : ¬ (c.toNat : Int) ≤ (122 : Int) := by omega
        have p48 : (48 : Int) ≤ (c.toNat : Int) := by omega
        have r57 : ¬ (c.toNat : Int) ≤ (57 : Int) := by omega
        have e46 : ((c.toNat : Int) == 46) = false := beq_eq_false_iff_ne.2 (by omega)
        have e95 : ((c.toNat : Int) == 95) = false := beq_eq_false_iff_ne.2 (by omega)
        have e45 : ((c.toNat : Int) == 45) = false := beq_eq_false_iff_ne.2 (by omega)
        have hkc : St.keyC c = false := by unfold St.keyC; exact decide_eq_false (by omega)
        by_cases hk0 : k = 0
        · have z0 : ¬ (0 : Int) < (k : Int) := by omega
          have z1 : (k : Int) < 1 := by omega
          have HU := hid (Und.refl w)
          cases tw
          · obtain ⟨dd, hdd⟩ : ∃ dd : ByteArray, kb ++ (⟨#[61, 118, 10]⟩ : ByteArray) = dd := ⟨_, rfl⟩
            have hdl : dd.data.toList = [61, 118, 10] := by rw [← hdd]; rw [ByteArray.data_append, Array.toList_append, hbl, hk0]; rfl
            have hds : dd.size = k + 3 := by rw [← St.len_list, hdl]; try simp [hk0]
            have hr := keys_zero (dd := dd) (R := [118, 10]) (by first | exact hdl | (rw [hd2l, hdl]; rfl) | rw [hd2l, hdl]) (by omega)
            have hsp := fun W => xsplit_any dd W (by omega)
            rw [hr] at hsp
            clear hr
            have HSP := hid hsp
            clear hsp hdl
            go_wp2_with fail
            refine (HSP.out _).mono ?_
            rintro e w4 ⟨A4, c4, rfl, hpa, h41, h42, hu4⟩
            have HU4 := hid (HU.out.trans hu4)
            clear hpa hu4
            go_wp2_with fail
            refine (xknown_any _).mono ?_
            rintro e w5 ⟨rfl, hu5⟩
            have HU5 := hid (HU4.out.trans hu5)
            clear hu5
            go_wp2
            go_ret
            exact ⟨rfl, HU5.out⟩
          · obtain ⟨dd, hdd⟩ : ∃ dd : ByteArray, kb ++ (⟨#[61, 118, 10]⟩ : ByteArray) = dd := ⟨_, rfl⟩
            have hdl : dd.data.toList = [61, 118, 10] := by rw [← hdd]; rw [ByteArray.data_append, Array.toList_append, hbl, hk0]; rfl
            have hds : dd.size = k + 3 := by rw [← St.len_list, hdl]; try simp [hk0]
            have y2 : ¬ 9223372036854775807 < dd.size + dd.size := by omega
            obtain ⟨d2, hdd2⟩ : ∃ d2 : ByteArray, dd ++ dd = d2 := ⟨_, rfl⟩
            have hd2l : d2.data.toList = dd.data.toList ++ dd.data.toList := by rw [← hdd2]; simp
            have hd2s : d2.size = 2 * (k + 3) := by rw [← St.len_list, hd2l]; simp [hds]; omega
            have hr := keys_zero (dd := d2) (R := [118, 10, 61, 118, 10]) (by first | exact hdl | (rw [hd2l, hdl]; rfl) | rw [hd2l, hdl]) (by omega)
            have hsp := fun W => xsplit_any d2 W (by omega)
            rw [hr] at hsp
            clear hr
            have HSP := hid hsp
            clear hsp hdl hd2l
            go_wp2_with fail
            refine (HSP.out _).mono ?_
            rintro e w4 ⟨A4, c4, rfl, hpa, h41, h42, hu4⟩
            have HU4 := hid (HU.out.trans hu4)
            clear hpa hu4
            go_wp2_with fail
            refine (xknown_any _).mono ?_
            rintro e w5 ⟨rfl, hu5⟩
            have HU5 := hid (HU4.out.trans hu5)
            clear hu5
            go_wp2
            go_ret
            exact ⟨rfl, HU5.out⟩
        · have z0 : (0 : Int) < (k : Int) := by omega
          have z1 : ¬ (k : Int) < 1 := by omega
          obtain ⟨kx, hkx⟩ : ∃ kx : ByteArray, kb.extract 0 (k - 1) = kx := ⟨_, rfl⟩
          have hkxl : kx.data.toList = List.replicate (k - 1) 107 := by rw [← hkx, Lib.extract_data, hbl]; simp
          have hkxs : kx.size = k - 1 := by rw [← St.len_list, hkxl]; simp
          have hkbs : kb.size = k := by rw [← St.len_list, hbl]; simp
          go_wp2_with fail
          refine wp_region_facts (fun a b => Und a b) (fun _ _ => True) [fun v _ => v = .string kb, fun v _ => v = .int .i64 k, fun v _ => v = .int .i64 ((k - 1 : Nat) : Int), fun v _ => v = .string kx, fun v _ => v = .int .u8 (c.toNat : Int), fun v W => ∃ b, v = .slice (some ⟨b, 0, none⟩) 1 1 ∧ b < W.heap.size ∧ W.cell? ⟨b, 0, none⟩ = some (.int .u8 (c.toNat : Int)), fun v _ => v = .string ⟨#[c]⟩, fun v _ => v = .string (kx ++ ⟨#[c]⟩), fun v _ => v = .string (kx ++ ⟨#[c]⟩)] Und.refl (fun a b c h k => Und.trans h k) (by kernel_rfl) (by rfl) (by kernel_rfl) (by kernel_rfl) ?frD1 ?hfr ?hI ?hob ?hend
          case hfr =>
            intro ρ
            simp only [putAll, Act.put, List.setIfInBounds_toArray, List.set_cons_succ, List.set_cons_zero, Nat.zero_add, Nat.reduceAdd]
            exact rfl
          case hI => trivial
          case hob =>
            refine ObsF.cons (fun ρ L W hR hI hL hD hO hF K hK => ?_) ?_
            · skip
              have eo : ρ 8 = .string kb := hO 8 _ 7 rfl rfl (hD.not (p := 8) rfl (by decide) hL)
              clear hF hD hO hI hL hR
              simp only [Act.put, List.setIfInBounds_toArray, List.set_cons_succ, List.set_cons_zero] at hK ⊢
              rw [eo] at hK ⊢
              go_simp
              refine hK _ _ (Und.refl _) trivial (fun W2 h2 => ?_)
              rfl
            refine ObsF.cons (fun ρ L W hR hI hL hD hO hF K hK => ?_) ?_
            · skip
              clear hF hD hO hI hL hR
              simp only [Act.put, List.setIfInBounds_toArray, List.set_cons_succ, List.set_cons_zero] at hK ⊢
              go_simp
              refine hK _ _ (Und.refl _) trivial (fun W2 h2 => ?_)
              rfl
            refine ObsF.cons (fun ρ L W hR hI hL hD hO hF K hK => ?_) ?_
            · skip
              have f1 := allF_get hF (j := 1) (by decide)
              clear hF hD hO hI hL hR
              simp only [Act.put, List.setIfInBounds_toArray, List.set_cons_succ, List.set_cons_zero] at hK ⊢
              have e1 : ρ 1 = .int .i64 k := f1
              rw [e1] at hK ⊢
              go_simp
              refine hK _ _ (Und.refl _) trivial (fun W2 h2 => ?_)
              first | exact congrArg (Value.int .i64) (by omega) | exact congrArg (Value.int .i64) ((IntWalk.i64_in _ (by omega)).trans (by omega))
            refine ObsF.cons (fun ρ L W hR hI hL hD hO hF K hK => ?_) ?_
            · skip
              have f0 := allF_get hF (j := 0) (by decide)
              have f2 := allF_get hF (j := 2) (by decide)
              clear hF hD hO hI hL hR
              simp only [Act.put, List.setIfInBounds_toArray, List.set_cons_succ, List.set_cons_zero] at hK ⊢
              have e0 : ρ 0 = .string kb := f0
              have e2 : ρ 2 = .int .i64 ((k - 1 : Nat) : Int) := f2
              rw [e0, e2] at hK ⊢
              have y1 : ((k - 1 : Nat) : Int) ≤ kb.size := by omega
              have y2 : (((k - 1 : Nat) : Int)).toNat = k - 1 := by omega
              have y3 : k - 1 ≤ kb.size := by omega
              go_simp
              refine hK _ _ (Und.refl _) trivial (fun W2 h2 => ?_)
              first | rfl | exact congrArg Value.string hkx
            refine ObsF.cons (fun ρ L W hR hI hL hD hO hF K hK => ?_) ?_
            · skip
              clear hF hD hO hI hL hR
              simp only [Act.put, List.setIfInBounds_toArray, List.set_cons_succ, List.set_cons_zero] at hK ⊢
              go_simp
              refine hK _ _ (Und.refl _) trivial (fun W2 h2 => ?_)
              rfl
            refine ObsF.cons (fun ρ L W hR hI hL hD hO hF K hK => ?_) ?_
            · skip
              have f4 := allF_get hF (j := 4) (by decide)
              clear hF hD hO hI hL hR
              simp only [Act.put, List.setIfInBounds_toArray, List.set_cons_succ, List.set_cons_zero] at hK ⊢
              have e4 : ρ 4 = .int .u8 (c.toNat : Int) := f4
              rw [e4] at hK ⊢
              go_simp
              refine hK _ _ ((Und.refl W).alloc _) trivial (fun W2 h2 => ⟨W.heap.size, rfl, by have := h2.size; simp at this; omega, ?_⟩)
              rw [h2.cell (p := ⟨W.heap.size, 0, none⟩) (by simp)]
              simp
            refine ObsF.cons (fun ρ L W hR hI hL hD hO hF K hK => ?_) ?_
            · skip
              have f5 := allF_get hF (j := 5) (by decide)
              clear hF hD hO hI hL hR
              simp only [Act.put, List.setIfInBounds_toArray, List.set_cons_succ, List.set_cons_zero] at hK ⊢
              obtain ⟨b, e5, hb2, hc⟩ := f5
              rw [e5] at hK ⊢
              haveI : LtW b W := LtW.of hb2
              go_simp
              refine hK _ _ (Und.refl _) trivial (fun W2 h2 => ?_)
              first | rfl | simp
            refine ObsF.cons (fun ρ L W hR hI hL hD hO hF K hK => ?_) ?_
            · skip
              have f3 := allF_get hF (j := 3) (by decide)
              have f6 := allF_get hF (j := 6) (by decide)
              clear hF hD hO hI hL hR
              simp only [Act.put, List.setIfInBounds_toArray, List.set_cons_succ, List.set_cons_zero] at hK ⊢
              have e3 : ρ 3 = .string kx := f3
              have e6 : ρ 6 = .string ⟨#[c]⟩ := f6
              rw [e3, e6] at hK ⊢
              have y1 : ¬ 9223372036854775807 < kx.size + 1 := by omega
              have y2 : ¬ 9223372036854775807 < k - 1 + 1 := by omega
              go_simp
              refine hK _ _ (Und.refl _) trivial (fun W2 h2 => ?_)
              rfl
            refine ObsF.cons (fun ρ L W hR hI hL hD hO hF K hK => ?_) ?_
            · skip
              have f7 := allF_get hF (j := 7) (by decide)
              clear hF hD hO hI hL hR
              simp only [Act.put, List.setIfInBounds_toArray, List.set_cons_succ, List.set_cons_zero] at hK ⊢
              have e7 : ρ 7 = .string (kx ++ ⟨#[c]⟩) := f7
              rw [e7] at hK ⊢
              go_simp
              refine hK _ _ (Und.refl _) trivial (fun W2 h2 => ?_)
              rfl
            exact ObsF.nil
          case hend =>
            intro ρ L W hR hI hL hF
            obtain ⟨_, _, _, _, _, _, _, _, e8, _⟩ := hF
            have e8 : ρ 8 = .string (kx ++ ⟨#[c]⟩) := e8
            rw [e8]
            have HU := hid (show Und w W from (Und.refl w).drew.trans hR)
            clear hI hL hR e8
            obtain ⟨kd, hkd⟩ : ∃ kd : ByteArray, kx ++ ⟨#[c]⟩ = kd := ⟨_, rfl⟩
            rw [hkd]
            have hkl : kd.data.toList = List.replicate (k - 1) 107 ++ [c] := by rw [← hkd, ByteArray.data_append, Array.toList_append, hkxl]
            have hks : kd.size = k := by rw [← St.len_list, hkl]; simp; omega
            clear hkd
            have e10 : ((c.toNat : Int) == 10) = false := beq_eq_false_iff_ne.2 (by omega)
            have e61 : ((c.toNat : Int) == 61) = false := beq_eq_false_iff_ne.2 (by omega)
            have e35 : ((c.toNat : Int) == 35) = false := beq_eq_false_iff_ne.2 (by omega)
            have e32 : ((c.toNat : Int) == 32) = false := beq_eq_false_iff_ne.2 (by omega)
            have e9 : ((c.toNat : Int) == 9) = false := beq_eq_false_iff_ne.2 (by omega)
            have hno : ¬ outC c := by unfold outC; omega
            by_cases h64 : 64 < k
            · have z2 : (64 : Int) < (k : Int) := by omega
              cases tw
              · have y1 : ¬ 9223372036854775807 < kd.size + 3 := by omega
                obtain ⟨dd, hdd⟩ : ∃ dd : ByteArray, kd ++ (⟨#[61, 118, 10]⟩ : ByteArray) = dd := ⟨_, rfl⟩
                have hdl : dd.data.toList = kd.data.toList ++ [61, 118, 10] := by rw [← hdd]; simp
                have hds : dd.size = k + 3 := by rw [← St.len_list, hdl]; simp [hks]
                have hr := keys_bad (R := ⟨#[118, 10]⟩) hkl (by omega) (by exact hdl) (by decide) (.inl ⟨hkc, hno⟩)
                have hsp := fun W => xsplit_any dd W (by omega)
                rw [hr] at hsp
                clear hr
                have HSP := hid hsp
                clear hsp hdl hkl
                go_wp2_with fail
                refine (HSP.out _).mono ?_
                rintro e w4 ⟨A4, c4, rfl, hpa, h41, h42, hu4⟩
                have HU4 := hid (HU.out.trans hu4)
                clear hpa hu4
                go_wp2_with fail
                refine (xknown_any _).mono ?_
                rintro e w5 ⟨rfl, hu5⟩
                have HU5 := hid (HU4.out.trans hu5)
                clear hu5
                go_wp2
                go_ret
                exact ⟨rfl, HU5.out⟩
              · have y1 : ¬ 9223372036854775807 < kd.size + 3 := by omega
                obtain ⟨dd, hdd⟩ : ∃ dd : ByteArray, kd ++ (⟨#[61, 118, 10]⟩ : ByteArray) = dd := ⟨_, rfl⟩
                have hdl : dd.data.toList = kd.data.toList ++ [61, 118, 10] := by rw [← hdd]; simp
                have hds : dd.size = k + 3 := by rw [← St.len_list, hdl]; simp [hks]
                have y2 : ¬ 9223372036854775807 < dd.size + dd.size := by omega
                obtain ⟨d2, hdd2⟩ : ∃ d2 : ByteArray, dd ++ dd = d2 := ⟨_, rfl⟩
                have hd2l : d2.data.toList = dd.data.toList ++ dd.data.toList := by rw [← hdd2]; simp
                have hd2s : d2.size = 2 * (k + 3) := by rw [← St.len_list, hd2l]; simp [hds]; omega
                have hr := keys_bad (R := (⟨#[118, 10]⟩ : ByteArray) ++ dd) hkl (by omega) (by rw [hd2l]; exact (congrArg (· ++ dd.data.toList) hdl).trans (by simp)) (by rw [ByteArray.size_append]; show 2 + _ ≤ _; omega) (.inl ⟨hkc, hno⟩)
                have hsp := fun W => xsplit_any d2 W (by omega)
                rw [hr] at hsp
                clear hr
                have HSP := hid hsp
                clear hsp hdl hd2l hkl
                go_wp2_with fail
                refine (HSP.out _).mono ?_
                rintro e w4 ⟨A4, c4, rfl, hpa, h41, h42, hu4⟩
                have HU4 := hid (HU.out.trans hu4)
                clear hpa hu4
                go_wp2_with fail
                refine (xknown_any _).mono ?_
                rintro e w5 ⟨rfl, hu5⟩
                have HU5 := hid (HU4.out.trans hu5)
                clear hu5
                go_wp2
                go_ret
                exact ⟨rfl, HU5.out⟩
            · have z2 : ¬ (64 : Int) < (k : Int) := by omega
              cases tw
              · have y1 : ¬ 9223372036854775807 < kd.size + 3 := by omega
                obtain ⟨dd, hdd⟩ : ∃ dd : ByteArray, kd ++ (⟨#[61, 118, 10]⟩ : ByteArray) = dd := ⟨_, rfl⟩
                have hdl : dd.data.toList = kd.data.toList ++ [61, 118, 10] := by rw [← hdd]; simp
                have hds : dd.size = k + 3 := by rw [← St.len_list, hdl]; simp [hks]
                have hr := keys_bad (R := ⟨#[118, 10]⟩) hkl (by omega) (by exact hdl) (by decide) (.inl ⟨hkc, hno⟩)
                have hsp := fun W => xsplit_any dd W (by omega)
                rw [hr] at hsp
                clear hr
                have HSP := hid hsp
                clear hsp hdl hkl
                go_wp2_with fail
                refine (HSP.out _).mono ?_
                rintro e w4 ⟨A4, c4, rfl, hpa, h41, h42, hu4⟩
                have HU4 := hid (HU.out.trans hu4)
                clear hpa hu4
                go_wp2_with fail
                refine (xknown_any _).mono ?_
                rintro e w5 ⟨rfl, hu5⟩
                have HU5 := hid (HU4.out.trans hu5)
                clear hu5
                go_wp2
                go_ret
                exact ⟨rfl, HU5.out⟩
              · have y1 : ¬ 9223372036854775807 < kd.size + 3 := by omega
                obtain ⟨dd, hdd⟩ : ∃ dd : ByteArray, kd ++ (⟨#[61, 118, 10]⟩ : ByteArray) = dd := ⟨_, rfl⟩
                have hdl : dd.data.toList = kd.data.toList ++ [61, 118, 10] := by rw [← hdd]; simp
                have hds : dd.size = k + 3 := by rw [← St.len_list, hdl]; simp [hks]
                have y2 : ¬ 9223372036854775807 < dd.size + dd.size := by omega
                obtain ⟨d2, hdd2⟩ : ∃ d2 : ByteArray, dd ++ dd = d2 := ⟨_, rfl⟩
                have hd2l : d2.data.toList = dd.data.toList ++ dd.data.toList := by rw [← hdd2]; simp
                have hd2s : d2.size = 2 * (k + 3) := by rw [← St.len_list, hd2l]; simp [hds]; omega
                have hr := keys_bad (R := (⟨#[118, 10]⟩ : ByteArray) ++ dd) hkl (by omega) (by rw [hd2l]; exact (congrArg (· ++ dd.data.toList) hdl).trans (by simp)) (by rw [ByteArray.size_append]; show 2 + _ ≤ _; omega) (.inl ⟨hkc, hno⟩)
                have hsp := fun W => xsplit_any d2 W (by omega)
                rw [hr] at hsp
                clear hr
                have HSP := hid hsp
                clear hsp hdl hd2l hkl
                go_wp2_with fail
                refine (HSP.out _).mono ?_
                rintro e w4 ⟨A4, c4, rfl, hpa, h41, h42, hu4⟩
                have HU4 := hid (HU.out.trans hu4)
                clear hpa hu4
                go_wp2_with fail
                refine (xknown_any _).mono ?_
                rintro e w5 ⟨rfl, hu5⟩
                have HU5 := hid (HU4.out.trans hu5)
                clear hu5
                go_wp2
                go_ret
                exact ⟨rfl, HU5.out⟩
      · have p97 : ¬ (97 : Int) ≤ (c.toNat : Int) := by omega
        have p48 : (48 : Int) ≤ (c.toNat : Int) := by omega
        have r57 : (c.toNat : Int) ≤ (57 : Int) := by omega
        have hkc : St.keyC c = true := by unfold St.keyC; exact decide_eq_true (by omega)
        by_cases hk0 : k = 0
        · have z0 : ¬ (0 : Int) < (k : Int) := by omega
          have z1 : (k : Int) < 1 := by omega
          have HU := hid (Und.refl w)
          cases tw
          · obtain ⟨dd, hdd⟩ : ∃ dd : ByteArray, kb ++ (⟨#[61, 118, 10]⟩ : ByteArray) = dd := ⟨_, rfl⟩
            have hdl : dd.data.toList = [61, 118, 10] := by rw [← hdd]; rw [ByteArray.data_append, Array.toList_append, hbl, hk0]; rfl
            have hds : dd.size = k + 3 := by rw [← St.len_list, hdl]; try simp [hk0]
            have hr := keys_zero (dd := dd) (R := [118, 10]) (by first | exact hdl | (rw [hd2l, hdl]; rfl) | rw [hd2l, hdl]) (by omega)
            have hsp := fun W => xsplit_any dd W (by omega)
            rw [hr] at hsp
            clear hr
            have HSP := hid hsp
            clear hsp hdl
            go_wp2_with fail
            refine (HSP.out _).mono ?_
            rintro e w4 ⟨A4, c4, rfl, hpa, h41, h42, hu4⟩
            have HU4 := hid (HU.out.trans hu4)
            clear hpa hu4
            go_wp2_with fail
            refine (xknown_any _).mono ?_
            rintro e w5 ⟨rfl, hu5⟩
            have HU5 := hid (HU4.out.trans hu5)
            clear hu5
            go_wp2
            go_ret
            exact ⟨rfl, HU5.out⟩
          · obtain ⟨dd, hdd⟩ : ∃ dd : ByteArray, kb ++ (⟨#[61, 118, 10]⟩ : ByteArray) = dd := ⟨_, rfl⟩
            have hdl : dd.data.toList = [61, 118, 10] := by rw [← hdd]; rw [ByteArray.data_append, Array.toList_append, hbl, hk0]; rfl
            have hds : dd.size = k + 3 := by rw [← St.len_list, hdl]; try simp [hk0]
            have y2 : ¬ 9223372036854775807 < dd.size + dd.size := by omega
            obtain ⟨d2, hdd2⟩ : ∃ d2 : ByteArray, dd ++ dd = d2 := ⟨_, rfl⟩
            have hd2l : d2.data.toList = dd.data.toList ++ dd.data.toList := by rw [← hdd2]; simp
            have hd2s : d2.size = 2 * (k + 3) := by rw [← St.len_list, hd2l]; simp [hds]; omega
            have hr := keys_zero (dd := d2) (R := [118, 10, 61, 118, 10]) (by first | exact hdl | (rw [hd2l, hdl]; rfl) | rw [hd2l, hdl]) (by omega)
            have hsp := fun W => xsplit_any d2 W (by omega)
            rw [hr] at hsp
            clear hr
            have HSP := hid hsp
            clear hsp hdl hd2l
            go_wp2_with fail
            refine (HSP.out _).mono ?_
            rintro e w4 ⟨A4, c4, rfl, hpa, h41, h42, hu4⟩
            have HU4 := hid (HU.out.trans hu4)
            clear hpa hu4
            go_wp2_with fail
            refine (xknown_any _).mono ?_
            rintro e w5 ⟨rfl, hu5⟩
            have HU5 := hid (HU4.out.trans hu5)
            clear hu5
            go_wp2
            go_ret
            exact ⟨rfl, HU5.out⟩
        · have z0 : (0 : Int) < (k : Int) := by omega
          have z1 : ¬ (k : Int) < 1 := by omega
          obtain ⟨kx, hkx⟩ : ∃ kx : ByteArray, kb.extract 0 (k - 1) = kx := ⟨_, rfl⟩
          have hkxl : kx.data.toList = List.replicate (k - 1) 107 := by rw [← hkx, Lib.extract_data, hbl]; simp
          have hkxs : kx.size = k - 1 := by rw [← St.len_list, hkxl]; simp
          have hkbs : kb.size = k := by rw [← St.len_list, hbl]; simp
          go_wp2_with fail
          refine wp_region_facts (fun a b => Und a b) (fun _ _ => True) [fun v _ => v = .string kb, fun v _ => v = .int .i64 k, fun v _ => v = .int .i64 ((k - 1 : Nat) : Int), fun v _ => v = .string kx, fun v _ => v = .int .u8 (c.toNat : Int), fun v W => ∃ b, v = .slice (some ⟨b, 0, none⟩) 1 1 ∧ b < W.heap.size ∧ W.cell? ⟨b, 0, none⟩ = some (.int .u8 (c.toNat : Int)), fun v _ => v = .string ⟨#[c]⟩, fun v _ => v = .string (kx ++ ⟨#[c]⟩), fun v _ => v = .string (kx ++ ⟨#[c]⟩)] Und.refl (fun a b c h k => Und.trans h k) (by kernel_rfl) (by rfl) (by kernel_rfl) (by kernel_rfl) ?frD2 ?hfr ?hI ?hob ?hend
          case hfr =>
            intro ρ
            simp only [putAll, Act.put, List.setIfInBounds_toArray, List.set_cons_succ, List.set_cons_zero, Nat.zero_add, Nat.reduceAdd]
            exact rfl
          case hI => trivial
          case hob =>
            refine ObsF.cons (fun ρ L W hR hI hL hD hO hF K hK => ?_) ?_
            · skip
              have eo : ρ 8 = .string kb := hO 8 _ 7 rfl rfl (hD.not (p := 8) rfl (by decide) hL)
              clear hF hD hO hI hL hR
              simp only [Act.put, List.setIfInBounds_toArray, List.set_cons_succ, List.set_cons_zero] at hK ⊢
              rw [eo] at hK ⊢
              go_simp
              refine hK _ _ (Und.refl _) trivial (fun W2 h2 => ?_)
              rfl
            refine ObsF.cons (fun ρ L W hR hI hL hD hO hF K hK => ?_) ?_
            · skip
              clear hF hD hO hI hL hR
              simp only [Act.put, List.setIfInBounds_toArray, List.set_cons_succ, List.set_cons_zero] at hK ⊢
              go_simp
              refine hK _ _ (Und.refl _) trivial (fun W2 h2 => ?_)
              rfl
            refine ObsF.cons (fun ρ L W hR hI hL hD hO hF K hK => ?_) ?_
            · skip
              have f1 := allF_get hF (j := 1) (by decide)
              clear hF hD hO hI hL hR
              simp only [Act.put, List.setIfInBounds_toArray, List.set_cons_succ, List.set_cons_zero] at hK ⊢
              have e1 : ρ 1 = .int .i64 k := f1
              rw [e1] at hK ⊢
              go_simp
              refine hK _ _ (Und.refl _) trivial (fun W2 h2 => ?_)
              first | exact congrArg (Value.int .i64) (by omega) | exact congrArg (Value.int .i64) ((IntWalk.i64_in _ (by omega)).trans (by omega))
            refine ObsF.cons (fun ρ L W hR hI hL hD hO hF K hK => ?_) ?_
            · skip
              have f0 := allF_get hF (j := 0) (by decide)
              have f2 := allF_get hF (j := 2) (by decide)
              clear hF hD hO hI hL hR
              simp only [Act.put, List.setIfInBounds_toArray, List.set_cons_succ, List.set_cons_zero] at hK ⊢
              have e0 : ρ 0 = .string kb := f0
              have e2 : ρ 2 = .int .i64 ((k - 1 : Nat) : Int) := f2
              rw [e0, e2] at hK ⊢
              have y1 : ((k - 1 : Nat) : Int) ≤ kb.size := by omega
              have y2 : (((k - 1 : Nat) : Int)).toNat = k - 1 := by omega
              have y3 : k - 1 ≤ kb.size := by omega
              go_simp
              refine hK _ _ (Und.refl _) trivial (fun W2 h2 => ?_)
              first | rfl | exact congrArg Value.string hkx
            refine ObsF.cons (fun ρ L W hR hI hL hD hO hF K hK => ?_) ?_
            · skip
              clear hF hD hO hI hL hR
              simp only [Act.put, List.setIfInBounds_toArray, List.set_cons_succ, List.set_cons_zero] at hK ⊢
              go_simp
              refine hK _ _ (Und.refl _) trivial (fun W2 h2 => ?_)
              rfl
            refine ObsF.cons (fun ρ L W hR hI hL hD hO hF K hK => ?_) ?_
            · skip
              have f4 := allF_get hF (j := 4) (by decide)
              clear hF hD hO hI hL hR
              simp only [Act.put, List.setIfInBounds_toArray, List.set_cons_succ, List.set_cons_zero] at hK ⊢
              have e4 : ρ 4 = .int .u8 (c.toNat : Int) := f4
              rw [e4] at hK ⊢
              go_simp
              refine hK _ _ ((Und.refl W).alloc _) trivial (fun W2 h2 => ⟨W.heap.size, rfl, by have := h2.size; simp at this; omega, ?_⟩)
              rw [h2.cell (p := ⟨W.heap.size, 0, none⟩) (by simp)]
              simp
            refine ObsF.cons (fun ρ L W hR hI hL hD hO hF K hK => ?_) ?_
            · skip
              have f5 := allF_get hF (j := 5) (by decide)
              clear hF hD hO hI hL hR
              simp only [Act.put, List.setIfInBounds_toArray, List.set_cons_succ, List.set_cons_zero] at hK ⊢
              obtain ⟨b, e5, hb2, hc⟩ := f5
              rw [e5] at hK ⊢
              haveI : LtW b W := LtW.of hb2
              go_simp
              refine hK _ _ (Und.refl _) trivial (fun W2 h2 => ?_)
              first | rfl | simp
            refine ObsF.cons (fun ρ L W hR hI hL hD hO hF K hK => ?_) ?_
            · skip
              have f3 := allF_get hF (j := 3) (by decide)
              have f6 := allF_get hF (j := 6) (by decide)
              clear hF hD hO hI hL hR
              simp only [Act.put, List.setIfInBounds_toArray, List.set_cons_succ, List.set_cons_zero] at hK ⊢
              have e3 : ρ 3 = .string kx := f3
              have e6 : ρ 6 = .string ⟨#[c]⟩ := f6
              rw [e3, e6] at hK ⊢
              have y1 : ¬ 9223372036854775807 < kx.size + 1 := by omega
              have y2 : ¬ 9223372036854775807 < k - 1 + 1 := by omega
              go_simp
              refine hK _ _ (Und.refl _) trivial (fun W2 h2 => ?_)
              rfl
            refine ObsF.cons (fun ρ L W hR hI hL hD hO hF K hK => ?_) ?_
            · skip
              have f7 := allF_get hF (j := 7) (by decide)
              clear hF hD hO hI hL hR
              simp only [Act.put, List.setIfInBounds_toArray, List.set_cons_succ, List.set_cons_zero] at hK ⊢
              have e7 : ρ 7 = .string (kx ++ ⟨#[c]⟩) := f7
              rw [e7] at hK ⊢
              go_simp
              refine hK _ _ (Und.refl _) trivial (fun W2 h2 => ?_)
              rfl
            exact ObsF.nil
          case hend =>
            intro ρ L W hR hI hL hF
            obtain ⟨_, _, _, _, _, _, _, _, e8, _⟩ := hF
            have e8 : ρ 8 = .string (kx ++ ⟨#[c]⟩) := e8
            rw [e8]
            have HU := hid (show Und w W from (Und.refl w).drew.trans hR)
            clear hI hL hR e8
            obtain ⟨kd, hkd⟩ : ∃ kd : ByteArray, kx ++ ⟨#[c]⟩ = kd := ⟨_, rfl⟩
            rw [hkd]
            have hkl : kd.data.toList = List.replicate (k - 1) 107 ++ [c] := by rw [← hkd, ByteArray.data_append, Array.toList_append, hkxl]
            have hks : kd.size = k := by rw [← St.len_list, hkl]; simp; omega
            clear hkd
            by_cases h64 : 64 < k
            · have z2 : (64 : Int) < (k : Int) := by omega
              cases tw
              · have y1 : ¬ 9223372036854775807 < kd.size + 3 := by omega
                obtain ⟨dd, hdd⟩ : ∃ dd : ByteArray, kd ++ (⟨#[61, 118, 10]⟩ : ByteArray) = dd := ⟨_, rfl⟩
                have hdl : dd.data.toList = kd.data.toList ++ [61, 118, 10] := by rw [← hdd]; simp
                have hds : dd.size = k + 3 := by rw [← St.len_list, hdl]; simp [hks]
                have e10 : ((c.toNat : Int) == 10) = false := beq_eq_false_iff_ne.2 (by omega)
                have e61 : ((c.toNat : Int) == 61) = false := beq_eq_false_iff_ne.2 (by omega)
                have e35 : ((c.toNat : Int) == 35) = false := beq_eq_false_iff_ne.2 (by omega)
                have e32 : ((c.toNat : Int) == 32) = false := beq_eq_false_iff_ne.2 (by omega)
                have e9 : ((c.toNat : Int) == 9) = false := beq_eq_false_iff_ne.2 (by omega)
                have hr := keys_bad (R := ⟨#[118, 10]⟩) hkl (by omega) (by exact hdl) (by decide) (.inr ⟨h64, hkc⟩)
                have hsp := fun W => xsplit_any dd W (by omega)
                rw [hr] at hsp
                clear hr
                have HSP := hid hsp
                clear hsp hdl hkl
                go_wp2_with fail
                refine (HSP.out _).mono ?_
                rintro e w4 ⟨A4, c4, rfl, hpa, h41, h42, hu4⟩
                have HU4 := hid (HU.out.trans hu4)
                clear hpa hu4
                go_wp2_with fail
                refine (xknown_any _).mono ?_
                rintro e w5 ⟨rfl, hu5⟩
                have HU5 := hid (HU4.out.trans hu5)
                clear hu5
                go_wp2
                go_ret
                exact ⟨rfl, HU5.out⟩
              · have y1 : ¬ 9223372036854775807 < kd.size + 3 := by omega
                obtain ⟨dd, hdd⟩ : ∃ dd : ByteArray, kd ++ (⟨#[61, 118, 10]⟩ : ByteArray) = dd := ⟨_, rfl⟩
                have hdl : dd.data.toList = kd.data.toList ++ [61, 118, 10] := by rw [← hdd]; simp
                have hds : dd.size = k + 3 := by rw [← St.len_list, hdl]; simp [hks]
                have y2 : ¬ 9223372036854775807 < dd.size + dd.size := by omega
                obtain ⟨d2, hdd2⟩ : ∃ d2 : ByteArray, dd ++ dd = d2 := ⟨_, rfl⟩
                have hd2l : d2.data.toList = dd.data.toList ++ dd.data.toList := by rw [← hdd2]; simp
                have hd2s : d2.size = 2 * (k + 3) := by rw [← St.len_list, hd2l]; simp [hds]; omega
                have e10 : ((c.toNat : Int) == 10) = false := beq_eq_false_iff_ne.2 (by omega)
                have e61 : ((c.toNat : Int) == 61) = false := beq_eq_false_iff_ne.2 (by omega)
                have e35 : ((c.toNat : Int) == 35) = false := beq_eq_false_iff_ne.2 (by omega)
                have e32 : ((c.toNat : Int) == 32) = false := beq_eq_false_iff_ne.2 (by omega)
                have e9 : ((c.toNat : Int) == 9) = false := beq_eq_false_iff_ne.2 (by omega)
                have hr := keys_bad (R := (⟨#[118, 10]⟩ : ByteArray) ++ dd) hkl (by omega) (by rw [hd2l]; exact (congrArg (· ++ dd.data.toList) hdl).trans (by simp)) (by rw [ByteArray.size_append]; show 2 + _ ≤ _; omega) (.inr ⟨h64, hkc⟩)
                have hsp := fun W => xsplit_any d2 W (by omega)
                rw [hr] at hsp
                clear hr
                have HSP := hid hsp
                clear hsp hdl hd2l hkl
                go_wp2_with fail
                refine (HSP.out _).mono ?_
                rintro e w4 ⟨A4, c4, rfl, hpa, h41, h42, hu4⟩
                have HU4 := hid (HU.out.trans hu4)
                clear hpa hu4
                go_wp2_with fail
                refine (xknown_any _).mono ?_
                rintro e w5 ⟨rfl, hu5⟩
                have HU5 := hid (HU4.out.trans hu5)
                clear hu5
                go_wp2
                go_ret
                exact ⟨rfl, HU5.out⟩
            · have z2 : ¬ (64 : Int) < (k : Int) := by omega
              cases tw
              · have y1 : ¬ 9223372036854775807 < kd.size + 3 := by omega
                obtain ⟨dd, hdd⟩ : ∃ dd : ByteArray, kd ++ (⟨#[61, 118, 10]⟩ : ByteArray) = dd := ⟨_, rfl⟩
                have hdl : dd.data.toList = kd.data.toList ++ [61, 118, 10] := by rw [← hdd]; simp
                have hds : dd.size = k + 3 := by rw [← St.len_list, hdl]; simp [hks]
                have e10 : ((c.toNat : Int) == 10) = false := beq_eq_false_iff_ne.2 (by omega)
                have e61 : ((c.toNat : Int) == 61) = false := beq_eq_false_iff_ne.2 (by omega)
                have e35 : ((c.toNat : Int) == 35) = false := beq_eq_false_iff_ne.2 (by omega)
                have e32 : ((c.toNat : Int) == 32) = false := beq_eq_false_iff_ne.2 (by omega)
                have e9 : ((c.toNat : Int) == 9) = false := beq_eq_false_iff_ne.2 (by omega)
                obtain ⟨x, y, hr⟩ := keys_one hkl (by omega) (by omega) hdl hkc
                have hsp := fun W => xsplit_any dd W (by omega)
                rw [hr] at hsp
                clear hr
                have HSP := hid hsp
                clear hsp hdl hkl
                go_wp2_with fail
                refine (HSP.out _).mono ?_
                rintro e w4 ⟨A4, c4, rfl, hpa, h41, h42, hu4⟩
                have HU4 := hid (HU.out.trans hu4)
                obtain ⟨b, o, rfl, hb, hcl⟩ := hpa (by simp)
                have k1 := (hcl 1 (by simp)).2.1
                simp only [List.getElem_cons_zero, List.getElem_cons_succ, ba_eta] at k1
                haveI : LtW b w4 := LtW.of hb
                clear hcl hpa hu4
                simp only [List.length_cons, List.length_nil]
                have kk : (kd.toList == kd.toList) = true := beq_self_eq_true _
                simp only [List.length_cons, List.length_nil] at h41
                go_wp2_with fail
                refine (xknown_any _).mono ?_
                rintro e w5 ⟨rfl, hu5⟩
                have HU5 := hid (HU4.out.trans hu5)
                clear hu5
                go_wp2
                go_ret
                exact ⟨rfl, HU5.out⟩
              · have y1 : ¬ 9223372036854775807 < kd.size + 3 := by omega
                obtain ⟨dd, hdd⟩ : ∃ dd : ByteArray, kd ++ (⟨#[61, 118, 10]⟩ : ByteArray) = dd := ⟨_, rfl⟩
                have hdl : dd.data.toList = kd.data.toList ++ [61, 118, 10] := by rw [← hdd]; simp
                have hds : dd.size = k + 3 := by rw [← St.len_list, hdl]; simp [hks]
                have y2 : ¬ 9223372036854775807 < dd.size + dd.size := by omega
                obtain ⟨d2, hdd2⟩ : ∃ d2 : ByteArray, dd ++ dd = d2 := ⟨_, rfl⟩
                have hd2l : d2.data.toList = dd.data.toList ++ dd.data.toList := by rw [← hdd2]; simp
                have hd2s : d2.size = 2 * (k + 3) := by rw [← St.len_list, hd2l]; simp [hds]; omega
                have e10 : ((c.toNat : Int) == 10) = false := beq_eq_false_iff_ne.2 (by omega)
                have e61 : ((c.toNat : Int) == 61) = false := beq_eq_false_iff_ne.2 (by omega)
                have e35 : ((c.toNat : Int) == 35) = false := beq_eq_false_iff_ne.2 (by omega)
                have e32 : ((c.toNat : Int) == 32) = false := beq_eq_false_iff_ne.2 (by omega)
                have e9 : ((c.toNat : Int) == 9) = false := beq_eq_false_iff_ne.2 (by omega)
                have hr := keys_two hkl (by omega) (by omega) (by rw [hd2l, hdl]) hkc
                have hq : ((d2.size : Int).tdiv 2) = ((k + 3 : Nat) : Int) := by rw [show (d2.size : Int) = 2 * ((k + 3 : Nat) : Int) by omega]; exact Int.mul_tdiv_cancel_left _ (by decide)
                have hsp := fun W => xsplit_any d2 W (by omega)
                rw [hr] at hsp
                clear hr
                have HSP := hid hsp
                clear hsp hdl hd2l hkl
                go_wp2_with fail
                refine (HSP.out _).mono ?_
                rintro e w4 ⟨A4, c4, rfl, hpa, h41, h42, hu4⟩
                have HU4 := hid (HU.out.trans hu4)
                clear hpa hu4
                go_wp2_with fail
                refine (xknown_any _).mono ?_
                rintro e w5 ⟨rfl, hu5⟩
                have HU5 := hid (HU4.out.trans hu5)
                clear hu5
                go_wp2
                go_ret
                exact ⟨rfl, HU5.out⟩
      · have p97 : ¬ (97 : Int) ≤ (c.toNat : Int) := by omega
        have p48 : (48 : Int) ≤ (c.toNat : Int) := by omega
        have r57 : ¬ (c.toNat : Int) ≤ (57 : Int) := by omega
        have e46 : ((c.toNat : Int) == 46) = false := beq_eq_false_iff_ne.2 (by omega)
        have e95 : ((c.toNat : Int) == 95) = true := beq_iff_eq.2 (by omega)
        have hkc : St.keyC c = true := by unfold St.keyC; exact decide_eq_true (by omega)
        by_cases hk0 : k = 0
        · have z0 : ¬ (0 : Int) < (k : Int) := by omega
          have z1 : (k : Int) < 1 := by omega
          have HU := hid (Und.refl w)
          cases tw
          · obtain ⟨dd, hdd⟩ : ∃ dd : ByteArray, kb ++ (⟨#[61, 118, 10]⟩ : ByteArray) = dd := ⟨_, rfl⟩
            have hdl : dd.data.toList = [61, 118, 10] := by rw [← hdd]; rw [ByteArray.data_append, Array.toList_append, hbl, hk0]; rfl
            have hds : dd.size = k + 3 := by rw [← St.len_list, hdl]; try simp [hk0]
            have hr := keys_zero (dd := dd) (R := [118, 10]) (by first | exact hdl | (rw [hd2l, hdl]; rfl) | rw [hd2l, hdl]) (by omega)
            have hsp := fun W => xsplit_any dd W (by omega)
            rw [hr] at hsp
            clear hr
            have HSP := hid hsp
            clear hsp hdl
            go_wp2_with fail
            refine (HSP.out _).mono ?_
            rintro e w4 ⟨A4, c4, rfl, hpa, h41, h42, hu4⟩
            have HU4 := hid (HU.out.trans hu4)
            clear hpa hu4
            go_wp2_with fail
            refine (xknown_any _).mono ?_
            rintro e w5 ⟨rfl, hu5⟩
            have HU5 := hid (HU4.out.trans hu5)
            clear hu5
            go_wp2
            go_ret
            exact ⟨rfl, HU5.out⟩
          · obtain ⟨dd, hdd⟩ : ∃ dd : ByteArray, kb ++ (⟨#[61, 118, 10]⟩ : ByteArray) = dd := ⟨_, rfl⟩
            have hdl : dd.data.toList = [61, 118, 10] := by rw [← hdd]; rw [ByteArray.data_append, Array.toList_append, hbl, hk0]; rfl
            have hds : dd.size = k + 3 := by rw [← St.len_list, hdl]; try simp [hk0]
            have y2 : ¬ 9223372036854775807 < dd.size + dd.size := by omega
            obtain ⟨d2, hdd2⟩ : ∃ d2 : ByteArray, dd ++ dd = d2 := ⟨_, rfl⟩
            have hd2l : d2.data.toList = dd.data.toList ++ dd.data.toList := by rw [← hdd2]; simp
            have hd2s : d2.size = 2 * (k + 3) := by rw [← St.len_list, hd2l]; simp [hds]; omega
            have hr := keys_zero (dd := d2) (R := [118, 10, 61, 118, 10]) (by first | exact hdl | (rw [hd2l, hdl]; rfl) | rw [hd2l, hdl]) (by omega)
            have hsp := fun W => xsplit_any d2 W (by omega)
            rw [hr] at hsp
            clear hr
            have HSP := hid hsp
            clear hsp hdl hd2l
            go_wp2_with fail
            refine (HSP.out _).mono ?_
            rintro e w4 ⟨A4, c4, rfl, hpa, h41, h42, hu4⟩
            have HU4 := hid (HU.out.trans hu4)
            clear hpa hu4
            go_wp2_with fail
            refine (xknown_any _).mono ?_
            rintro e w5 ⟨rfl, hu5⟩
            have HU5 := hid (HU4.out.trans hu5)
            clear hu5
            go_wp2
            go_ret
            exact ⟨rfl, HU5.out⟩
        · have z0 : (0 : Int) < (k : Int) := by omega
          have z1 : ¬ (k : Int) < 1 := by omega
          obtain ⟨kx, hkx⟩ : ∃ kx : ByteArray, kb.extract 0 (k - 1) = kx := ⟨_, rfl⟩
          have hkxl : kx.data.toList = List.replicate (k - 1) 107 := by rw [← hkx, Lib.extract_data, hbl]; simp
          have hkxs : kx.size = k - 1 := by rw [← St.len_list, hkxl]; simp
          have hkbs : kb.size = k := by rw [← St.len_list, hbl]; simp
          go_wp2_with fail
          refine wp_region_facts (fun a b => Und a b) (fun _ _ => True) [fun v _ => v = .string kb, fun v _ => v = .int .i64 k, fun v _ => v = .int .i64 ((k - 1 : Nat) : Int), fun v _ => v = .string kx, fun v _ => v = .int .u8 (c.toNat : Int), fun v W => ∃ b, v = .slice (some ⟨b, 0, none⟩) 1 1 ∧ b < W.heap.size ∧ W.cell? ⟨b, 0, none⟩ = some (.int .u8 (c.toNat : Int)), fun v _ => v = .string ⟨#[c]⟩, fun v _ => v = .string (kx ++ ⟨#[c]⟩), fun v _ => v = .string (kx ++ ⟨#[c]⟩)] Und.refl (fun a b c h k => Und.trans h k) (by kernel_rfl) (by rfl) (by kernel_rfl) (by kernel_rfl) ?frD3 ?hfr ?hI ?hob ?hend
          case hfr =>
            intro ρ
            simp only [putAll, Act.put, List.setIfInBounds_toArray, List.set_cons_succ, List.set_cons_zero, Nat.zero_add, Nat.reduceAdd]
            exact rfl
          case hI => trivial
          case hob =>
            refine ObsF.cons (fun ρ L W hR hI hL hD hO hF K hK => ?_) ?_
            · skip
              have eo : ρ 8 = .string kb := hO 8 _ 7 rfl rfl (hD.not (p := 8) rfl (by decide) hL)
              clear hF hD hO hI hL hR
              simp only [Act.put, List.setIfInBounds_toArray, List.set_cons_succ, List.set_cons_zero] at hK ⊢
              rw [eo] at hK ⊢
              go_simp
              refine hK _ _ (Und.refl _) trivial (fun W2 h2 => ?_)
              rfl
            refine ObsF.cons (fun ρ L W hR hI hL hD hO hF K hK => ?_) ?_
            · skip
              clear hF hD hO hI hL hR
              simp only [Act.put, List.setIfInBounds_toArray, List.set_cons_succ, List.set_cons_zero] at hK ⊢
              go_simp
              refine hK _ _ (Und.refl _) trivial (fun W2 h2 => ?_)
              rfl
            refine ObsF.cons (fun ρ L W hR hI hL hD hO hF K hK => ?_) ?_
            · skip
              have f1 := allF_get hF (j := 1) (by decide)
              clear hF hD hO hI hL hR
              simp only [Act.put, List.setIfInBounds_toArray, List.set_cons_succ, List.set_cons_zero] at hK ⊢
              have e1 : ρ 1 = .int .i64 k := f1
              rw [e1] at hK ⊢
              go_simp
              refine hK _ _ (Und.refl _) trivial (fun W2 h2 => ?_)
              first | exact congrArg (Value.int .i64) (by omega) | exact congrArg (Value.int .i64) ((IntWalk.i64_in _ (by omega)).trans (by omega))
            refine ObsF.cons (fun ρ L W hR hI hL hD hO hF K hK => ?_) ?_
            · skip
              have f0 := allF_get hF (j := 0) (by decide)
              have f2 := allF_get hF (j := 2) (by decide)
              clear hF hD hO hI hL hR
              simp only [Act.put, List.setIfInBounds_toArray, List.set_cons_succ, List.set_cons_zero] at hK ⊢
              have e0 : ρ 0 = .string kb := f0
              have e2 : ρ 2 = .int .i64 ((k - 1 : Nat) : Int) := f2
              rw [e0, e2] at hK ⊢
              have y1 : ((k - 1 : Nat) : Int) ≤ kb.size := by omega
              have y2 : (((k - 1 : Nat) : Int)).toNat = k - 1 := by omega
              have y3 : k - 1 ≤ kb.size := by omega
              go_simp
              refine hK _ _ (Und.refl _) trivial (fun W2 h2 => ?_)
              first | rfl | exact congrArg Value.string hkx
            refine ObsF.cons (fun ρ L W hR hI hL hD hO hF K hK => ?_) ?_
            · skip
              clear hF hD hO hI hL hR
              simp only [Act.put, List.setIfInBounds_toArray, List.set_cons_succ, List.set_cons_zero] at hK ⊢
              go_simp
              refine hK _ _ (Und.refl _) trivial (fun W2 h2 => ?_)
              rfl
            refine ObsF.cons (fun ρ L W hR hI hL hD hO hF K hK => ?_) ?_
            · skip
              have f4 := allF_get hF (j := 4) (by decide)
              clear hF hD hO hI hL hR
              simp only [Act.put, List.setIfInBounds_toArray, List.set_cons_succ, List.set_cons_zero] at hK ⊢
              have e4 : ρ 4 = .int .u8 (c.toNat : Int) := f4
              rw [e4] at hK ⊢
              go_simp
              refine hK _ _ ((Und.refl W).alloc _) trivial (fun W2 h2 => ⟨W.heap.size, rfl, by have := h2.size; simp at this; omega, ?_⟩)
              rw [h2.cell (p := ⟨W.heap.size, 0, none⟩) (by simp)]
              simp
            refine ObsF.cons (fun ρ L W hR hI hL hD hO hF K hK => ?_) ?_
            · skip
              have f5 := allF_get hF (j := 5) (by decide)
              clear hF hD hO hI hL hR
              simp only [Act.put, List.setIfInBounds_toArray, List.set_cons_succ, List.set_cons_zero] at hK ⊢
              obtain ⟨b, e5, hb2, hc⟩ := f5
              rw [e5] at hK ⊢
              haveI : LtW b W := LtW.of hb2
              go_simp
              refine hK _ _ (Und.refl _) trivial (fun W2 h2 => ?_)
              first | rfl | simp
            refine ObsF.cons (fun ρ L W hR hI hL hD hO hF K hK => ?_) ?_
            · skip
              have f3 := allF_get hF (j := 3) (by decide)
              have f6 := allF_get hF (j := 6) (by decide)
              clear hF hD hO hI hL hR
              simp only [Act.put, List.setIfInBounds_toArray, List.set_cons_succ, List.set_cons_zero] at hK ⊢
              have e3 : ρ 3 = .string kx := f3
              have e6 : ρ 6 = .string ⟨#[c]⟩ := f6
              rw [e3, e6] at hK ⊢
              have y1 : ¬ 9223372036854775807 < kx.size + 1 := by omega
              have y2 : ¬ 9223372036854775807 < k - 1 + 1 := by omega
              go_simp
              refine hK _ _ (Und.refl _) trivial (fun W2 h2 => ?_)
              rfl
            refine ObsF.cons (fun ρ L W hR hI hL hD hO hF K hK => ?_) ?_
            · skip
              have f7 := allF_get hF (j := 7) (by decide)
              clear hF hD hO hI hL hR
              simp only [Act.put, List.setIfInBounds_toArray, List.set_cons_succ, List.set_cons_zero] at hK ⊢
              have e7 : ρ 7 = .string (kx ++ ⟨#[c]⟩) := f7
              rw [e7] at hK ⊢
              go_simp
              refine hK _ _ (Und.refl _) trivial (fun W2 h2 => ?_)
              rfl
            exact ObsF.nil
          case hend =>
            intro ρ L W hR hI hL hF
            obtain ⟨_, _, _, _, _, _, _, _, e8, _⟩ := hF
            have e8 : ρ 8 = .string (kx ++ ⟨#[c]⟩) := e8
            rw [e8]
            have HU := hid (show Und w W from (Und.refl w).drew.trans hR)
            clear hI hL hR e8
            obtain ⟨kd, hkd⟩ : ∃ kd : ByteArray, kx ++ ⟨#[c]⟩ = kd := ⟨_, rfl⟩
            rw [hkd]
            have hkl : kd.data.toList = List.replicate (k - 1) 107 ++ [c] := by rw [← hkd, ByteArray.data_append, Array.toList_append, hkxl]
            have hks : kd.size = k := by rw [← St.len_list, hkl]; simp; omega
            clear hkd
            by_cases h64 : 64 < k
            · have z2 : (64 : Int) < (k : Int) := by omega
              cases tw
              · have y1 : ¬ 9223372036854775807 < kd.size + 3 := by omega
                obtain ⟨dd, hdd⟩ : ∃ dd : ByteArray, kd ++ (⟨#[61, 118, 10]⟩ : ByteArray) = dd := ⟨_, rfl⟩
                have hdl : dd.data.toList = kd.data.toList ++ [61, 118, 10] := by rw [← hdd]; simp
                have hds : dd.size = k + 3 := by rw [← St.len_list, hdl]; simp [hks]
                have e10 : ((c.toNat : Int) == 10) = false := beq_eq_false_iff_ne.2 (by omega)
                have e61 : ((c.toNat : Int) == 61) = false := beq_eq_false_iff_ne.2 (by omega)
                have e35 : ((c.toNat : Int) == 35) = false := beq_eq_false_iff_ne.2 (by omega)
                have e32 : ((c.toNat : Int) == 32) = false := beq_eq_false_iff_ne.2 (by omega)
                have e9 : ((c.toNat : Int) == 9) = false := beq_eq_false_iff_ne.2 (by omega)
                have hr := keys_bad (R := ⟨#[118, 10]⟩) hkl (by omega) (by exact hdl) (by decide) (.inr ⟨h64, hkc⟩)
                have hsp := fun W => xsplit_any dd W (by omega)
                rw [hr] at hsp
                clear hr
                have HSP := hid hsp
                clear hsp hdl hkl
                go_wp2_with fail
                refine (HSP.out _).mono ?_
                rintro e w4 ⟨A4, c4, rfl, hpa, h41, h42, hu4⟩
                have HU4 := hid (HU.out.trans hu4)
                clear hpa hu4
                go_wp2_with fail
                refine (xknown_any _).mono ?_
                rintro e w5 ⟨rfl, hu5⟩
                have HU5 := hid (HU4.out.trans hu5)
                clear hu5
                go_wp2
                go_ret
                exact ⟨rfl, HU5.out⟩
              · have y1 : ¬ 9223372036854775807 < kd.size + 3 := by omega
                obtain ⟨dd, hdd⟩ : ∃ dd : ByteArray, kd ++ (⟨#[61, 118, 10]⟩ : ByteArray) = dd := ⟨_, rfl⟩
                have hdl : dd.data.toList = kd.data.toList ++ [61, 118, 10] := by rw [← hdd]; simp
                have hds : dd.size = k + 3 := by rw [← St.len_list, hdl]; simp [hks]
                have y2 : ¬ 9223372036854775807 < dd.size + dd.size := by omega
                obtain ⟨d2, hdd2⟩ : ∃ d2 : ByteArray, dd ++ dd = d2 := ⟨_, rfl⟩
                have hd2l : d2.data.toList = dd.data.toList ++ dd.data.toList := by rw [← hdd2]; simp
                have hd2s : d2.size = 2 * (k + 3) := by rw [← St.len_list, hd2l]; simp [hds]; omega
                have e10 : ((c.toNat : Int) == 10) = false := beq_eq_false_iff_ne.2 (by omega)
                have e61 : ((c.toNat : Int) == 61) = false := beq_eq_false_iff_ne.2 (by omega)
                have e35 : ((c.toNat : Int) == 35) = false := beq_eq_false_iff_ne.2 (by omega)
                have e32 : ((c.toNat : Int) == 32) = false := beq_eq_false_iff_ne.2 (by omega)
                have e9 : ((c.toNat : Int) == 9) = false := beq_eq_false_iff_ne.2 (by omega)
                have hr := keys_bad (R := (⟨#[118, 10]⟩ : ByteArray) ++ dd) hkl (by omega) (by rw [hd2l]; exact (congrArg (· ++ dd.data.toList) hdl).trans (by simp)) (by rw [ByteArray.size_append]; show 2 + _ ≤ _; omega) (.inr ⟨h64, hkc⟩)
                have hsp := fun W => xsplit_any d2 W (by omega)
                rw [hr] at hsp
                clear hr
                have HSP := hid hsp
                clear hsp hdl hd2l hkl
                go_wp2_with fail
                refine (HSP.out _).mono ?_
                rintro e w4 ⟨A4, c4, rfl, hpa, h41, h42, hu4⟩
                have HU4 := hid (HU.out.trans hu4)
                clear hpa hu4
                go_wp2_with fail
                refine (xknown_any _).mono ?_
                rintro e w5 ⟨rfl, hu5⟩
                have HU5 := hid (HU4.out.trans hu5)
                clear hu5
                go_wp2
                go_ret
                exact ⟨rfl, HU5.out⟩
            · have z2 : ¬ (64 : Int) < (k : Int) := by omega
              cases tw
              · have y1 : ¬ 9223372036854775807 < kd.size + 3 := by omega
                obtain ⟨dd, hdd⟩ : ∃ dd : ByteArray, kd ++ (⟨#[61, 118, 10]⟩ : ByteArray) = dd := ⟨_, rfl⟩
                have hdl : dd.data.toList = kd.data.toList ++ [61, 118, 10] := by rw [← hdd]; simp
                have hds : dd.size = k + 3 := by rw [← St.len_list, hdl]; simp [hks]
                have e10 : ((c.toNat : Int) == 10) = false := beq_eq_false_iff_ne.2 (by omega)
                have e61 : ((c.toNat : Int) == 61) = false := beq_eq_false_iff_ne.2 (by omega)
                have e35 : ((c.toNat : Int) == 35) = false := beq_eq_false_iff_ne.2 (by omega)
                have e32 : ((c.toNat : Int) == 32) = false := beq_eq_false_iff_ne.2 (by omega)
                have e9 : ((c.toNat : Int) == 9) = false := beq_eq_false_iff_ne.2 (by omega)
                obtain ⟨x, y, hr⟩ := keys_one hkl (by omega) (by omega) hdl hkc
                have hsp := fun W => xsplit_any dd W (by omega)
                rw [hr] at hsp
                clear hr
                have HSP := hid hsp
                clear hsp hdl hkl
                go_wp2_with fail
                refine (HSP.out _).mono ?_
                rintro e w4 ⟨A4, c4, rfl, hpa, h41, h42, hu4⟩
                have HU4 := hid (HU.out.trans hu4)
                obtain ⟨b, o, rfl, hb, hcl⟩ := hpa (by simp)
                have k1 := (hcl 1 (by simp)).2.1
                simp only [List.getElem_cons_zero, List.getElem_cons_succ, ba_eta] at k1
                haveI : LtW b w4 := LtW.of hb
                clear hcl hpa hu4
                simp only [List.length_cons, List.length_nil]
                have kk : (kd.toList == kd.toList) = true := beq_self_eq_true _
                simp only [List.length_cons, List.length_nil] at h41
                go_wp2_with fail
                refine (xknown_any _).mono ?_
                rintro e w5 ⟨rfl, hu5⟩
                have HU5 := hid (HU4.out.trans hu5)
                clear hu5
                go_wp2
                go_ret
                exact ⟨rfl, HU5.out⟩
              · have y1 : ¬ 9223372036854775807 < kd.size + 3 := by omega
                obtain ⟨dd, hdd⟩ : ∃ dd : ByteArray, kd ++ (⟨#[61, 118, 10]⟩ : ByteArray) = dd := ⟨_, rfl⟩
                have hdl : dd.data.toList = kd.data.toList ++ [61, 118, 10] := by rw [← hdd]; simp
                have hds : dd.size = k + 3 := by rw [← St.len_list, hdl]; simp [hks]
                have y2 : ¬ 9223372036854775807 < dd.size + dd.size := by omega
                obtain ⟨d2, hdd2⟩ : ∃ d2 : ByteArray, dd ++ dd = d2 := ⟨_, rfl⟩
                have hd2l : d2.data.toList = dd.data.toList ++ dd.data.toList := by rw [← hdd2]; simp
                have hd2s : d2.size = 2 * (k + 3) := by rw [← St.len_list, hd2l]; simp [hds]; omega
                have e10 : ((c.toNat : Int) == 10) = false := beq_eq_false_iff_ne.2 (by omega)
                have e61 : ((c.toNat : Int) == 61) = false := beq_eq_false_iff_ne.2 (by omega)
                have e35 : ((c.toNat : Int) == 35) = false := beq_eq_false_iff_ne.2 (by omega)
                have e32 : ((c.toNat : Int) == 32) = false := beq_eq_false_iff_ne.2 (by omega)
                have e9 : ((c.toNat : Int) == 9) = false := beq_eq_false_iff_ne.2 (by omega)
                have hr := keys_two hkl (by omega) (by omega) (by rw [hd2l, hdl]) hkc
                have hq : ((d2.size : Int).tdiv 2) = ((k + 3 : Nat) : Int) := by rw [show (d2.size : Int) = 2 * ((k + 3 : Nat) : Int) by omega]; exact Int.mul_tdiv_cancel_left _ (by decide)
                have hsp := fun W => xsplit_any d2 W (by omega)
                rw [hr] at hsp
                clear hr
                have HSP := hid hsp
                clear hsp hdl hd2l hkl
                go_wp2_with fail
                refine (HSP.out _).mono ?_
                rintro e w4 ⟨A4, c4, rfl, hpa, h41, h42, hu4⟩
                have HU4 := hid (HU.out.trans hu4)
                clear hpa hu4
                go_wp2_with fail
                refine (xknown_any _).mono ?_
                rintro e w5 ⟨rfl, hu5⟩
                have HU5 := hid (HU4.out.trans hu5)
                clear hu5
                go_wp2
                go_ret
                exact ⟨rfl, HU5.out⟩
      · have p97 : ¬ (97 : Int) ≤ (c.toNat : Int) := by omega
        have p48 : ¬ (48 : Int) ≤ (c.toNat : Int) := by omega
        have e46 : ((c.toNat : Int) == 46) = true := beq_iff_eq.2 (by omega)
        have hkc : St.keyC c = true := by unfold St.keyC; exact decide_eq_true (by omega)
        by_cases hk0 : k = 0
        · have z0 : ¬ (0 : Int) < (k : Int) := by omega
          have z1 : (k : Int) < 1 := by omega
          have HU := hid (Und.refl w)
          cases tw
          · obtain ⟨dd, hdd⟩ : ∃ dd : ByteArray, kb ++ (⟨#[61, 118, 10]⟩ : ByteArray) = dd := ⟨_, rfl⟩
            have hdl : dd.data.toList = [61, 118, 10] := by rw [← hdd]; rw [ByteArray.data_append, Array.toList_append, hbl, hk0]; rfl
            have hds : dd.size = k + 3 := by rw [← St.len_list, hdl]; try simp [hk0]
            have hr := keys_zero (dd := dd) (R := [118, 10]) (by first | exact hdl | (rw [hd2l, hdl]; rfl) | rw [hd2l, hdl]) (by omega)
            have hsp := fun W => xsplit_any dd W (by omega)
            rw [hr] at hsp
            clear hr
            have HSP := hid hsp
            clear hsp hdl
            go_wp2_with fail
            refine (HSP.out _).mono ?_
            rintro e w4 ⟨A4, c4, rfl, hpa, h41, h42, hu4⟩
            have HU4 := hid (HU.out.trans hu4)
            clear hpa hu4
            go_wp2_with fail
            refine (xknown_any _).mono ?_
            rintro e w5 ⟨rfl, hu5⟩
            have HU5 := hid (HU4.out.trans hu5)
            clear hu5
            go_wp2
            go_ret
            exact ⟨rfl, HU5.out⟩
          · obtain ⟨dd, hdd⟩ : ∃ dd : ByteArray, kb ++ (⟨#[61, 118, 10]⟩ : ByteArray) = dd := ⟨_, rfl⟩
            have hdl : dd.data.toList = [61, 118, 10] := by rw [← hdd]; rw [ByteArray.data_append, Array.toList_append, hbl, hk0]; rfl
            have hds : dd.size = k + 3 := by rw [← St.len_list, hdl]; try simp [hk0]
            have y2 : ¬ 9223372036854775807 < dd.size + dd.size := by omega
            obtain ⟨d2, hdd2⟩ : ∃ d2 : ByteArray, dd ++ dd = d2 := ⟨_, rfl⟩
            have hd2l : d2.data.toList = dd.data.toList ++ dd.data.toList := by rw [← hdd2]; simp
            have hd2s : d2.size = 2 * (k + 3) := by rw [← St.len_list, hd2l]; simp [hds]; omega
            have hr := keys_zero (dd := d2) (R := [118, 10, 61, 118, 10]) (by first | exact hdl | (rw [hd2l, hdl]; rfl) | rw [hd2l, hdl]) (by omega)
            have hsp := fun W => xsplit_any d2 W (by omega)
            rw [hr] at hsp
            clear hr
            have HSP := hid hsp
            clear hsp hdl hd2l
            go_wp2_with fail
            refine (HSP.out _).mono ?_
            rintro e w4 ⟨A4, c4, rfl, hpa, h41, h42, hu4⟩
            have HU4 := hid (HU.out.trans hu4)
            clear hpa hu4
            go_wp2_with fail
            refine (xknown_any _).mono ?_
            rintro e w5 ⟨rfl, hu5⟩
            have HU5 := hid (HU4.out.trans hu5)
            clear hu5
            go_wp2
            go_ret
            exact ⟨rfl, HU5.out⟩
        · have z0 : (0 : Int) < (k : Int) := by omega
          have z1 : ¬ (k : Int) < 1 := by omega
          obtain ⟨kx, hkx⟩ : ∃ kx : ByteArray, kb.extract 0 (k - 1) = kx := ⟨_, rfl⟩
          have hkxl : kx.data.toList = List.replicate (k - 1) 107 := by rw [← hkx, Lib.extract_data, hbl]; simp
          have hkxs : kx.size = k - 1 := by rw [← St.len_list, hkxl]; simp
          have hkbs : kb.size = k := by rw [← St.len_list, hbl]; simp
          go_wp2_with fail
          refine wp_region_facts (fun a b => Und a b) (fun _ _ => True) [fun v _ => v = .string kb, fun v _ => v = .int .i64 k, fun v _ => v = .int .i64 ((k - 1 : Nat) : Int), fun v _ => v = .string kx, fun v _ => v = .int .u8 (c.toNat : Int), fun v W => ∃ b, v = .slice (some ⟨b, 0, none⟩) 1 1 ∧ b < W.heap.size ∧ W.cell? ⟨b, 0, none⟩ = some (.int .u8 (c.toNat : Int)), fun v _ => v = .string ⟨#[c]⟩, fun v _ => v = .string (kx ++ ⟨#[c]⟩), fun v _ => v = .string (kx ++ ⟨#[c]⟩)] Und.refl (fun a b c h k => Und.trans h k) (by kernel_rfl) (by rfl) (by kernel_rfl) (by kernel_rfl) ?frD4 ?hfr ?hI ?hob ?hend
          case hfr =>
            intro ρ
            simp only [putAll, Act.put, List.setIfInBounds_toArray, List.set_cons_succ, List.set_cons_zero, Nat.zero_add, Nat.reduceAdd]
            exact rfl
          case hI => trivial
          case hob =>
            refine ObsF.cons (fun ρ L W hR hI hL hD hO hF K hK => ?_) ?_
            · skip
              have eo : ρ 8 = .string kb := hO 8 _ 7 rfl rfl (hD.not (p := 8) rfl (by decide) hL)
              clear hF hD hO hI hL hR
              simp only [Act.put, List.setIfInBounds_toArray, List.set_cons_succ, List.set_cons_zero] at hK ⊢
              rw [eo] at hK ⊢
              go_simp
              refine hK _ _ (Und.refl _) trivial (fun W2 h2 => ?_)
              rfl
            refine ObsF.cons (fun ρ L W hR hI hL hD hO hF K hK => ?_) ?_
            · skip
              clear hF hD hO hI hL hR
              simp only [Act.put, List.setIfInBounds_toArray, List.set_cons_succ, List.set_cons_zero] at hK ⊢
              go_simp
              refine hK _ _ (Und.refl _) trivial (fun W2 h2 => ?_)
              rfl
            refine ObsF.cons (fun ρ L W hR hI hL hD hO hF K hK => ?_) ?_
            · skip
              have f1 := allF_get hF (j := 1) (by decide)
              clear hF hD hO hI hL hR
              simp only [Act.put, List.setIfInBounds_toArray, List.set_cons_succ, List.set_cons_zero] at hK ⊢
              have e1 : ρ 1 = .int .i64 k := f1
              rw [e1] at hK ⊢
              go_simp
              refine hK _ _ (Und.refl _) trivial (fun W2 h2 => ?_)
              first | exact congrArg (Value.int .i64) (by omega) | exact congrArg (Value.int .i64) ((IntWalk.i64_in _ (by omega)).trans (by omega))
            refine ObsF.cons (fun ρ L W hR hI hL hD hO hF K hK => ?_) ?_
            · skip
              have f0 := allF_get hF (j := 0) (by decide)
              have f2 := allF_get hF (j := 2) (by decide)
              clear hF hD hO hI hL hR
              simp only [Act.put, List.setIfInBounds_toArray, List.set_cons_succ, List.set_cons_zero] at hK ⊢
              have e0 : ρ 0 = .string kb := f0
              have e2 : ρ 2 = .int .i64 ((k - 1 : Nat) : Int) := f2
              rw [e0, e2] at hK ⊢
              have y1 : ((k - 1 : Nat) : Int) ≤ kb.size := by omega
              have y2 : (((k - 1 : Nat) : Int)).toNat = k - 1 := by omega
              have y3 : k - 1 ≤ kb.size := by omega
              go_simp
              refine hK _ _ (Und.refl _) trivial (fun W2 h2 => ?_)
              first | rfl | exact congrArg Value.string hkx
            refine ObsF.cons (fun ρ L W hR hI hL hD hO hF K hK => ?_) ?_
            · skip
              clear hF hD hO hI hL hR
              simp only [Act.put, List.setIfInBounds_toArray, List.set_cons_succ, List.set_cons_zero] at hK ⊢
              go_simp
              refine hK _ _ (Und.refl _) trivial (fun W2 h2 => ?_)
              rfl
            refine ObsF.cons (fun ρ L W hR hI hL hD hO hF K hK => ?_) ?_
            · skip
              have f4 := allF_get hF (j := 4) (by decide)
              clear hF hD hO hI hL hR
              simp only [Act.put, List.setIfInBounds_toArray, List.set_cons_succ, List.set_cons_zero] at hK ⊢
              have e4 : ρ 4 = .int .u8 (c.toNat : Int) := f4
              rw [e4] at hK ⊢
              go_simp
              refine hK _ _ ((Und.refl W).alloc _) trivial (fun W2 h2 => ⟨W.heap.size, rfl, by have := h2.size; simp at this; omega, ?_⟩)
              rw [h2.cell (p := ⟨W.heap.size, 0, none⟩) (by simp)]
              simp
            refine ObsF.cons (fun ρ L W hR hI hL hD hO hF K hK => ?_) ?_
            · skip
              have f5 := allF_get hF (j := 5) (by decide)
              clear hF hD hO hI hL hR
              simp only [Act.put, List.setIfInBounds_toArray, List.set_cons_succ, List.set_cons_zero] at hK ⊢
              obtain ⟨b, e5, hb2, hc⟩ := f5
              rw [e5] at hK ⊢
              haveI : LtW b W := LtW.of hb2
              go_simp
              refine hK _ _ (Und.refl _) trivial (fun W2 h2 => ?_)
              first | rfl | simp
            refine ObsF.cons (fun ρ L W hR hI hL hD hO hF K hK => ?_) ?_
            · skip
              have f3 := allF_get hF (j := 3) (by decide)
              have f6 := allF_get hF (j := 6) (by decide)
              clear hF hD hO hI hL hR
              simp only [Act.put, List.setIfInBounds_toArray, List.set_cons_succ, List.set_cons_zero] at hK ⊢
              have e3 : ρ 3 = .string kx := f3
              have e6 : ρ 6 = .string ⟨#[c]⟩ := f6
              rw [e3, e6] at hK ⊢
              have y1 : ¬ 9223372036854775807 < kx.size + 1 := by omega
              have y2 : ¬ 9223372036854775807 < k - 1 + 1 := by omega
              go_simp
              refine hK _ _ (Und.refl _) trivial (fun W2 h2 => ?_)
              rfl
            refine ObsF.cons (fun ρ L W hR hI hL hD hO hF K hK => ?_) ?_
            · skip
              have f7 := allF_get hF (j := 7) (by decide)
              clear hF hD hO hI hL hR
              simp only [Act.put, List.setIfInBounds_toArray, List.set_cons_succ, List.set_cons_zero] at hK ⊢
              have e7 : ρ 7 = .string (kx ++ ⟨#[c]⟩) := f7
              rw [e7] at hK ⊢
              go_simp
              refine hK _ _ (Und.refl _) trivial (fun W2 h2 => ?_)
              rfl
            exact ObsF.nil
          case hend =>
            intro ρ L W hR hI hL hF
            obtain ⟨_, _, _, _, _, _, _, _, e8, _⟩ := hF
            have e8 : ρ 8 = .string (kx ++ ⟨#[c]⟩) := e8
            rw [e8]
            have HU := hid (show Und w W from (Und.refl w).drew.trans hR)
            clear hI hL hR e8
            obtain ⟨kd, hkd⟩ : ∃ kd : ByteArray, kx ++ ⟨#[c]⟩ = kd := ⟨_, rfl⟩
            rw [hkd]
            have hkl : kd.data.toList = List.replicate (k - 1) 107 ++ [c] := by rw [← hkd, ByteArray.data_append, Array.toList_append, hkxl]
            have hks : kd.size = k := by rw [← St.len_list, hkl]; simp; omega
            clear hkd
            by_cases h64 : 64 < k
            · have z2 : (64 : Int) < (k : Int) := by omega
              cases tw
              · have y1 : ¬ 9223372036854775807 < kd.size + 3 := by omega
                obtain ⟨dd, hdd⟩ : ∃ dd : ByteArray, kd ++ (⟨#[61, 118, 10]⟩ : ByteArray) = dd := ⟨_, rfl⟩
                have hdl : dd.data.toList = kd.data.toList ++ [61, 118, 10] := by rw [← hdd]; simp
                have hds : dd.size = k + 3 := by rw [← St.len_list, hdl]; simp [hks]
                have e10 : ((c.toNat : Int) == 10) = false := beq_eq_false_iff_ne.2 (by omega)
                have e61 : ((c.toNat : Int) == 61) = false := beq_eq_false_iff_ne.2 (by omega)
                have e35 : ((c.toNat : Int) == 35) = false := beq_eq_false_iff_ne.2 (by omega)
                have e32 : ((c.toNat : Int) == 32) = false := beq_eq_false_iff_ne.2 (by omega)
                have e9 : ((c.toNat : Int) == 9) = false := beq_eq_false_iff_ne.2 (by omega)
                have hr := keys_bad (R := ⟨#[118, 10]⟩) hkl (by omega) (by exact hdl) (by decide) (.inr ⟨h64, hkc⟩)
                have hsp := fun W => xsplit_any dd W (by omega)
                rw [hr] at hsp
                clear hr
                have HSP := hid hsp
                clear hsp hdl hkl
                go_wp2_with fail
                refine (HSP.out _).mono ?_
                rintro e w4 ⟨A4, c4, rfl, hpa, h41, h42, hu4⟩
                have HU4 := hid (HU.out.trans hu4)
                clear hpa hu4
                go_wp2_with fail
                refine (xknown_any _).mono ?_
                rintro e w5 ⟨rfl, hu5⟩
                have HU5 := hid (HU4.out.trans hu5)
                clear hu5
                go_wp2
                go_ret
                exact ⟨rfl, HU5.out⟩
              · have y1 : ¬ 9223372036854775807 < kd.size + 3 := by omega
                obtain ⟨dd, hdd⟩ : ∃ dd : ByteArray, kd ++ (⟨#[61, 118, 10]⟩ : ByteArray) = dd := ⟨_, rfl⟩
                have hdl : dd.data.toList = kd.data.toList ++ [61, 118, 10] := by rw [← hdd]; simp
                have hds : dd.size = k + 3 := by rw [← St.len_list, hdl]; simp [hks]
                have y2 : ¬ 9223372036854775807 < dd.size + dd.size := by omega
                obtain ⟨d2, hdd2⟩ : ∃ d2 : ByteArray, dd ++ dd = d2 := ⟨_, rfl⟩
                have hd2l : d2.data.toList = dd.data.toList ++ dd.data.toList := by rw [← hdd2]; simp
                have hd2s : d2.size = 2 * (k + 3) := by rw [← St.len_list, hd2l]; simp [hds]; omega
                have e10 : ((c.toNat : Int) == 10) = false := beq_eq_false_iff_ne.2 (by omega)
                have e61 : ((c.toNat : Int) == 61) = false := beq_eq_false_iff_ne.2 (by omega)
                have e35 : ((c.toNat : Int) == 35) = false := beq_eq_false_iff_ne.2 (by omega)
                have e32 : ((c.toNat : Int) == 32) = false := beq_eq_false_iff_ne.2 (by omega)
                have e9 : ((c.toNat : Int) == 9) = false := beq_eq_false_iff_ne.2 (by omega)
                have hr := keys_bad (R := (⟨#[118, 10]⟩ : ByteArray) ++ dd) hkl (by omega) (by rw [hd2l]; exact (congrArg (· ++ dd.data.toList) hdl).trans (by simp)) (by rw [ByteArray.size_append]; show 2 + _ ≤ _; omega) (.inr ⟨h64, hkc⟩)
                have hsp := fun W => xsplit_any d2 W (by omega)
                rw [hr] at hsp
                clear hr
                have HSP := hid hsp
                clear hsp hdl hd2l hkl
                go_wp2_with fail
                refine (HSP.out _).mono ?_
                rintro e w4 ⟨A4, c4, rfl, hpa, h41, h42, hu4⟩
                have HU4 := hid (HU.out.trans hu4)
                clear hpa hu4
                go_wp2_with fail
                refine (xknown_any _).mono ?_
                rintro e w5 ⟨rfl, hu5⟩
                have HU5 := hid (HU4.out.trans hu5)
                clear hu5
                go_wp2
                go_ret
                exact ⟨rfl, HU5.out⟩
            · have z2 : ¬ (64 : Int) < (k : Int) := by omega
              cases tw
              · have y1 : ¬ 9223372036854775807 < kd.size + 3 := by omega
                obtain ⟨dd, hdd⟩ : ∃ dd : ByteArray, kd ++ (⟨#[61, 118, 10]⟩ : ByteArray) = dd := ⟨_, rfl⟩
                have hdl : dd.data.toList = kd.data.toList ++ [61, 118, 10] := by rw [← hdd]; simp
                have hds : dd.size = k + 3 := by rw [← St.len_list, hdl]; simp [hks]
                have e10 : ((c.toNat : Int) == 10) = false := beq_eq_false_iff_ne.2 (by omega)
                have e61 : ((c.toNat : Int) == 61) = false := beq_eq_false_iff_ne.2 (by omega)
                have e35 : ((c.toNat : Int) == 35) = false := beq_eq_false_iff_ne.2 (by omega)
                have e32 : ((c.toNat : Int) == 32) = false := beq_eq_false_iff_ne.2 (by omega)
                have e9 : ((c.toNat : Int) == 9) = false := beq_eq_false_iff_ne.2 (by omega)
                obtain ⟨x, y, hr⟩ := keys_one hkl (by omega) (by omega) hdl hkc
                have hsp := fun W => xsplit_any dd W (by omega)
                rw [hr] at hsp
                clear hr
                have HSP := hid hsp
                clear hsp hdl hkl
                go_wp2_with fail
                refine (HSP.out _).mono ?_
                rintro e w4 ⟨A4, c4, rfl, hpa, h41, h42, hu4⟩
                have HU4 := hid (HU.out.trans hu4)
                obtain ⟨b, o, rfl, hb, hcl⟩ := hpa (by simp)
                have k1 := (hcl 1 (by simp)).2.1
                simp only [List.getElem_cons_zero, List.getElem_cons_succ, ba_eta] at k1
                haveI : LtW b w4 := LtW.of hb
                clear hcl hpa hu4
                simp only [List.length_cons, List.length_nil]
                have kk : (kd.toList == kd.toList) = true := beq_self_eq_true _
                simp only [List.length_cons, List.length_nil] at h41
                go_wp2_with fail
                refine (xknown_any _).mono ?_
                rintro e w5 ⟨rfl, hu5⟩
                have HU5 := hid (HU4.out.trans hu5)
                clear hu5
                go_wp2
                go_ret
                exact ⟨rfl, HU5.out⟩
              · have y1 : ¬ 9223372036854775807 < kd.size + 3 := by omega
                obtain ⟨dd, hdd⟩ : ∃ dd : ByteArray, kd ++ (⟨#[61, 118, 10]⟩ : ByteArray) = dd := ⟨_, rfl⟩
                have hdl : dd.data.toList = kd.data.toList ++ [61, 118, 10] := by rw [← hdd]; simp
                have hds : dd.size = k + 3 := by rw [← St.len_list, hdl]; simp [hks]
                have y2 : ¬ 9223372036854775807 < dd.size + dd.size := by omega
                obtain ⟨d2, hdd2⟩ : ∃ d2 : ByteArray, dd ++ dd = d2 := ⟨_, rfl⟩
                have hd2l : d2.data.toList = dd.data.toList ++ dd.data.toList := by rw [← hdd2]; simp
                have hd2s : d2.size = 2 * (k + 3) := by rw [← St.len_list, hd2l]; simp [hds]; omega
                have e10 : ((c.toNat : Int) == 10) = false := beq_eq_false_iff_ne.2 (by omega)
                have e61 : ((c.toNat : Int) == 61) = false := beq_eq_false_iff_ne.2 (by omega)
                have e35 : ((c.toNat : Int) == 35) = false := beq_eq_false_iff_ne.2 (by omega)
                have e32 : ((c.toNat : Int) == 32) = false := beq_eq_false_iff_ne.2 (by omega)
                have e9 : ((c.toNat : Int) == 9) = false := beq_eq_false_iff_ne.2 (by omega)
                have hr := keys_two hkl (by omega) (by omega) (by rw [hd2l, hdl]) hkc
                have hq : ((d2.size : Int).tdiv 2) = ((k + 3 : Nat) : Int) := by rw [show (d2.size : Int) = 2 * ((k + 3 : Nat) : Int) by omega]; exact Int.mul_tdiv_cancel_left _ (by decide)
                have hsp := fun W => xsplit_any d2 W (by omega)
                rw [hr] at hsp
                clear hr
                have HSP := hid hsp
                clear hsp hdl hd2l hkl
                go_wp2_with fail
                refine (HSP.out _).mono ?_
                rintro e w4 ⟨A4, c4, rfl, hpa, h41, h42, hu4⟩
                have HU4 := hid (HU.out.trans hu4)
                clear hpa hu4
                go_wp2_with fail
                refine (xknown_any _).mono ?_
                rintro e w5 ⟨rfl, hu5⟩
                have HU5 := hid (HU4.out.trans hu5)
                clear hu5
                go_wp2
                go_ret
                exact ⟨rfl, HU5.out⟩
      · have p97 : ¬ (97 : Int) ≤ (c.toNat : Int) := by omega
        have p48 : ¬ (48 : Int) ≤ (c.toNat : Int) := by omega
        have e46 : ((c.toNat : Int) == 46) = false := beq_eq_false_iff_ne.2 (by omega)
        have e95 : ((c.toNat : Int) == 95) = false := beq_eq_false_iff_ne.2 (by omega)
        have e45 : ((c.toNat : Int) == 45) = true := beq_iff_eq.2 (by omega)
        have hkc : St.keyC c = true := by unfold St.keyC; exact decide_eq_true (by omega)
        by_cases hk0 : k = 0
        · have z0 : ¬ (0 : Int) < (k : Int) := by omega
          have z1 : (k : Int) < 1 := by omega
          have HU := hid (Und.refl w)
          cases tw
          · obtain ⟨dd, hdd⟩ : ∃ dd : ByteArray, kb ++ (⟨#[61, 118, 10]⟩ : ByteArray) = dd := ⟨_, rfl⟩
            have hdl : dd.data.toList = [61, 118, 10] := by rw [← hdd]; rw [ByteArray.data_append, Array.toList_append, hbl, hk0]; rfl
            have hds : dd.size = k + 3 := by rw [← St.len_list, hdl]; try simp [hk0]
            have hr := keys_zero (dd := dd) (R := [118, 10]) (by first | exact hdl | (rw [hd2l, hdl]; rfl) | rw [hd2l, hdl]) (by omega)
            have hsp := fun W => xsplit_any dd W (by omega)
            rw [hr] at hsp
            clear hr
            have HSP := hid hsp
            clear hsp hdl
            go_wp2_with fail
            refine (HSP.out _).mono ?_
            rintro e w4 ⟨A4, c4, rfl, hpa, h41, h42, hu4⟩
            have HU4 := hid (HU.out.trans hu4)
            clear hpa hu4
            go_wp2_with fail
            refine (xknown_any _).mono ?_
            rintro e w5 ⟨rfl, hu5⟩
            have HU5 := hid (HU4.out.trans hu5)
            clear hu5
            go_wp2
            go_ret
            exact ⟨rfl, HU5.out⟩
          · obtain ⟨dd, hdd⟩ : ∃ dd : ByteArray, kb ++ (⟨#[61, 118, 10]⟩ : ByteArray) = dd := ⟨_, rfl⟩
            have hdl : dd.data.toList = [61, 118, 10] := by rw [← hdd]; rw [ByteArray.data_append, Array.toList_append, hbl, hk0]; rfl
            have hds : dd.size = k + 3 := by rw [← St.len_list, hdl]; try simp [hk0]
            have y2 : ¬ 9223372036854775807 < dd.size + dd.size := by omega
            obtain ⟨d2, hdd2⟩ : ∃ d2 : ByteArray, dd ++ dd = d2 := ⟨_, rfl⟩
            have hd2l : d2.data.toList = dd.data.toList ++ dd.data.toList := by rw [← hdd2]; simp
            have hd2s : d2.size = 2 * (k + 3) := by rw [← St.len_list, hd2l]; simp [hds]; omega
            have hr := keys_zero (dd := d2) (R := [118, 10, 61, 118, 10]) (by first | exact hdl | (rw [hd2l, hdl]; rfl) | rw [hd2l, hdl]) (by omega)
            have hsp := fun W => xsplit_any d2 W (by omega)
            rw [hr] at hsp
            clear hr
            have HSP := hid hsp
            clear hsp hdl hd2l
            go_wp2_with fail
            refine (HSP.out _).mono ?_
            rintro e w4 ⟨A4, c4, rfl, hpa, h41, h42, hu4⟩
            have HU4 := hid (HU.out.trans hu4)
            clear hpa hu4
            go_wp2_with fail
            refine (xknown_any _).mono ?_
            rintro e w5 ⟨rfl, hu5⟩
            have HU5 := hid (HU4.out.trans hu5)
            clear hu5
            go_wp2
            go_ret
            exact ⟨rfl, HU5.out⟩
        · have z0 : (0 : Int) < (k : Int) := by omega
          have z1 : ¬ (k : Int) < 1 := by omega
          obtain ⟨kx, hkx⟩ : ∃ kx : ByteArray, kb.extract 0 (k - 1) = kx := ⟨_, rfl⟩
          have hkxl : kx.data.toList = List.replicate (k - 1) 107 := by rw [← hkx, Lib.extract_data, hbl]; simp
          have hkxs : kx.size = k - 1 := by rw [← St.len_list, hkxl]; simp
          have hkbs : kb.size = k := by rw [← St.len_list, hbl]; simp
          go_wp2_with fail
          refine wp_region_facts (fun a b => Und a b) (fun _ _ => True) [fun v _ => v = .string kb, fun v _ => v = .int .i64 k, fun v _ => v = .int .i64 ((k - 1 : Nat) : Int), fun v _ => v = .string kx, fun v _ => v = .int .u8 (c.toNat : Int), fun v W => ∃ b, v = .slice (some ⟨b, 0, none⟩) 1 1 ∧ b < W.heap.size ∧ W.cell? ⟨b, 0, none⟩ = some (.int .u8 (c.toNat : Int)), fun v _ => v = .string ⟨#[c]⟩, fun v _ => v = .string (kx ++ ⟨#[c]⟩), fun v _ => v = .string (kx ++ ⟨#[c]⟩)] Und.refl (fun a b c h k => Und.trans h k) (by kernel_rfl) (by rfl) (by kernel_rfl) (by kernel_rfl) ?frD5 ?hfr ?hI ?hob ?hend
          case hfr =>
            intro ρ
            simp only [putAll, Act.put, List.setIfInBounds_toArray, List.set_cons_succ, List.set_cons_zero, Nat.zero_add, Nat.reduceAdd]
            exact rfl
          case hI => trivial
          case hob =>
            refine ObsF.cons (fun ρ L W hR hI hL hD hO hF K hK => ?_) ?_
            · skip
              have eo : ρ 8 = .string kb := hO 8 _ 7 rfl rfl (hD.not (p := 8) rfl (by decide) hL)
              clear hF hD hO hI hL hR
              simp only [Act.put, List.setIfInBounds_toArray, List.set_cons_succ, List.set_cons_zero] at hK ⊢
              rw [eo] at hK ⊢
              go_simp
              refine hK _ _ (Und.refl _) trivial (fun W2 h2 => ?_)
              rfl
            refine ObsF.cons (fun ρ L W hR hI hL hD hO hF K hK => ?_) ?_
            · skip
              clear hF hD hO hI hL hR
              simp only [Act.put, List.setIfInBounds_toArray, List.set_cons_succ, List.set_cons_zero] at hK ⊢
              go_simp
              refine hK _ _ (Und.refl _) trivial (fun W2 h2 => ?_)
              rfl
            refine ObsF.cons (fun ρ L W hR hI hL hD hO hF K hK => ?_) ?_
            · skip
              have f1 := allF_get hF (j := 1) (by decide)
              clear hF hD hO hI hL hR
              simp only [Act.put, List.setIfInBounds_toArray, List.set_cons_succ, List.set_cons_zero] at hK ⊢
              have e1 : ρ 1 = .int .i64 k := f1
              rw [e1] at hK ⊢
              go_simp
              refine hK _ _ (Und.refl _) trivial (fun W2 h2 => ?_)
              first | exact congrArg (Value.int .i64) (by omega) | exact congrArg (Value.int .i64) ((IntWalk.i64_in _ (by omega)).trans (by omega))
            refine ObsF.cons (fun ρ L W hR hI hL hD hO hF K hK => ?_) ?_
            · skip
              have f0 := allF_get hF (j := 0) (by decide)
              have f2 := allF_get hF (j := 2) (by decide)
              clear hF hD hO hI hL hR
              simp only [Act.put, List.setIfInBounds_toArray, List.set_cons_succ, List.set_cons_zero] at hK ⊢
              have e0 : ρ 0 = .string kb := f0
              have e2 : ρ 2 = .int .i64 ((k - 1 : Nat) : Int) := f2
              rw [e0, e2] at hK ⊢
              have y1 : ((k - 1 : Nat) : Int) ≤ kb.size := by omega
              have y2 : (((k - 1 : Nat) : Int)).toNat = k - 1 := by omega
              have y3 : k - 1 ≤ kb.size := by omega
              go_simp
              refine hK _ _ (Und.refl _) trivial (fun W2 h2 => ?_)
              first | rfl | exact congrArg Value.string hkx
            refine ObsF.cons (fun ρ L W hR hI hL hD hO hF K hK => ?_) ?_
            · skip
              clear hF hD hO hI hL hR
              simp only [Act.put, List.setIfInBounds_toArray, List.set_cons_succ, List.set_cons_zero] at hK ⊢
              go_simp
              refine hK _ _ (Und.refl _) trivial (fun W2 h2 => ?_)
              rfl
            refine ObsF.cons (fun ρ L W hR hI hL hD hO hF K hK => ?_) ?_
            · skip
              have f4 := allF_get hF (j := 4) (by decide)
              clear hF hD hO hI hL hR
              simp only [Act.put, List.setIfInBounds_toArray, List.set_cons_succ, List.set_cons_zero] at hK ⊢
              have e4 : ρ 4 = .int .u8 (c.toNat : Int) := f4
              rw [e4] at hK ⊢
              go_simp
              refine hK _ _ ((Und.refl W).alloc _) trivial (fun W2 h2 => ⟨W.heap.size, rfl, by have := h2.size; simp at this; omega, ?_⟩)
              rw [h2.cell (p := ⟨W.heap.size, 0, none⟩) (by simp)]
              simp
            refine ObsF.cons (fun ρ L W hR hI hL hD hO hF K hK => ?_) ?_
            · skip
              have f5 := allF_get hF (j := 5) (by decide)
              clear hF hD hO hI hL hR
              simp only [Act.put, List.setIfInBounds_toArray, List.set_cons_succ, List.set_cons_zero] at hK ⊢
              obtain ⟨b, e5, hb2, hc⟩ := f5
              rw [e5] at hK ⊢
              haveI : LtW b W := LtW.of hb2
              go_simp
              refine hK _ _ (Und.refl _) trivial (fun W2 h2 => ?_)
              first | rfl | simp
            refine ObsF.cons (fun ρ L W hR hI hL hD hO hF K hK => ?_) ?_
            · skip
              have f3 := allF_get hF (j := 3) (by decide)
              have f6 := allF_get hF (j := 6) (by decide)
              clear hF hD hO hI hL hR
              simp only [Act.put, List.setIfInBounds_toArray, List.set_cons_succ, List.set_cons_zero] at hK ⊢
              have e3 : ρ 3 = .string kx := f3
              have e6 : ρ 6 = .string ⟨#[c]⟩ := f6
              rw [e3, e6] at hK ⊢
              have y1 : ¬ 9223372036854775807 < kx.size + 1 := by omega
              have y2 : ¬ 9223372036854775807 < k - 1 + 1 := by omega
              go_simp
              refine hK _ _ (Und.refl _) trivial (fun W2 h2 => ?_)
              rfl
            refine ObsF.cons (fun ρ L W hR hI hL hD hO hF K hK => ?_) ?_
            · skip
              have f7 := allF_get hF (j := 7) (by decide)
              clear hF hD hO hI hL hR
              simp only [Act.put, List.setIfInBounds_toArray, List.set_cons_succ, List.set_cons_zero] at hK ⊢
              have e7 : ρ 7 = .string (kx ++ ⟨#[c]⟩) := f7
              rw [e7] at hK ⊢
              go_simp
              refine hK _ _ (Und.refl _) trivial (fun W2 h2 => ?_)
              rfl
            exact ObsF.nil
          case hend =>
            intro ρ L W hR hI hL hF
            obtain ⟨_, _, _, _, _, _, _, _, e8, _⟩ := hF
            have e8 : ρ 8 = .string (kx ++ ⟨#[c]⟩) := e8
            rw [e8]
            have HU := hid (show Und w W from (Und.refl w).drew.trans hR)
            clear hI hL hR e8
            obtain ⟨kd, hkd⟩ : ∃ kd : ByteArray, kx ++ ⟨#[c]⟩ = kd := ⟨_, rfl⟩
            rw [hkd]
            have hkl : kd.data.toList = List.replicate (k - 1) 107 ++ [c] := by rw [← hkd, ByteArray.data_append, Array.toList_append, hkxl]
            have hks : kd.size = k := by rw [← St.len_list, hkl]; simp; omega
            clear hkd
            by_cases h64 : 64 < k
            · have z2 : (64 : Int) < (k : Int) := by omega
              cases tw
              · have y1 : ¬ 9223372036854775807 < kd.size + 3 := by omega
                obtain ⟨dd, hdd⟩ : ∃ dd : ByteArray, kd ++ (⟨#[61, 118, 10]⟩ : ByteArray) = dd := ⟨_, rfl⟩
                have hdl : dd.data.toList = kd.data.toList ++ [61, 118, 10] := by rw [← hdd]; simp
                have hds : dd.size = k + 3 := by rw [← St.len_list, hdl]; simp [hks]
                have e10 : ((c.toNat : Int) == 10) = false := beq_eq_false_iff_ne.2 (by omega)
                have e61 : ((c.toNat : Int) == 61) = false := beq_eq_false_iff_ne.2 (by omega)
                have e35 : ((c.toNat : Int) == 35) = false := beq_eq_false_iff_ne.2 (by omega)
                have e32 : ((c.toNat : Int) == 32) = false := beq_eq_false_iff_ne.2 (by omega)
                have e9 : ((c.toNat : Int) == 9) = false := beq_eq_false_iff_ne.2 (by omega)
                have hr := keys_bad (R := ⟨#[118, 10]⟩) hkl (by omega) (by exact hdl) (by decide) (.inr ⟨h64, hkc⟩)
                have hsp := fun W => xsplit_any dd W (by omega)
                rw [hr] at hsp
                clear hr
                have HSP := hid hsp
                clear hsp hdl hkl
                go_wp2_with fail
                refine (HSP.out _).mono ?_
                rintro e w4 ⟨A4, c4, rfl, hpa, h41, h42, hu4⟩
                have HU4 := hid (HU.out.trans hu4)
                clear hpa hu4
                go_wp2_with fail
                refine (xknown_any _).mono ?_
                rintro e w5 ⟨rfl, hu5⟩
                have HU5 := hid (HU4.out.trans hu5)
                clear hu5
                go_wp2
                go_ret
                exact ⟨rfl, HU5.out⟩
              · have y1 : ¬ 9223372036854775807 < kd.size + 3 := by omega
                obtain ⟨dd, hdd⟩ : ∃ dd : ByteArray, kd ++ (⟨#[61, 118, 10]⟩ : ByteArray) = dd := ⟨_, rfl⟩
                have hdl : dd.data.toList = kd.data.toList ++ [61, 118, 10] := by rw [← hdd]; simp
                have hds : dd.size = k + 3 := by rw [← St.len_list, hdl]; simp [hks]
                have y2 : ¬ 9223372036854775807 < dd.size + dd.size := by omega
                obtain ⟨d2, hdd2⟩ : ∃ d2 : ByteArray, dd ++ dd = d2 := ⟨_, rfl⟩
                have hd2l : d2.data.toList = dd.data.toList ++ dd.data.toList := by rw [← hdd2]; simp
                have hd2s : d2.size = 2 * (k + 3) := by rw [← St.len_list, hd2l]; simp [hds]; omega
                have e10 : ((c.toNat : Int) == 10) = false := beq_eq_false_iff_ne.2 (by omega)
                have e61 : ((c.toNat : Int) == 61) = false := beq_eq_false_iff_ne.2 (by omega)
                have e35 : ((c.toNat : Int) == 35) = false := beq_eq_false_iff_ne.2 (by omega)
                have e32 : ((c.toNat : Int) == 32) = false := beq_eq_false_iff_ne.2 (by omega)
                have e9 : ((c.toNat : Int) == 9) = false := beq_eq_false_iff_ne.2 (by omega)
                have hr := keys_bad (R := (⟨#[118, 10]⟩ : ByteArray) ++ dd) hkl (by omega) (by rw [hd2l]; exact (congrArg (· ++ dd.data.toList) hdl).trans (by simp)) (by rw [ByteArray.size_append]; show 2 + _ ≤ _; omega) (.inr ⟨h64, hkc⟩)
                have hsp := fun W => xsplit_any d2 W (by omega)
                rw [hr] at hsp
                clear hr
                have HSP := hid hsp
                clear hsp hdl hd2l hkl
                go_wp2_with fail
                refine (HSP.out _).mono ?_
                rintro e w4 ⟨A4, c4, rfl, hpa, h41, h42, hu4⟩
                have HU4 := hid (HU.out.trans hu4)
                clear hpa hu4
                go_wp2_with fail
                refine (xknown_any _).mono ?_
                rintro e w5 ⟨rfl, hu5⟩
                have HU5 := hid (HU4.out.trans hu5)
                clear hu5
                go_wp2
                go_ret
                exact ⟨rfl, HU5.out⟩
            · have z2 : ¬ (64 : Int) < (k : Int) := by omega
              cases tw
              · have y1 : ¬ 9223372036854775807 < kd.size + 3 := by omega
                obtain ⟨dd, hdd⟩ : ∃ dd : ByteArray, kd ++ (⟨#[61, 118, 10]⟩ : ByteArray) = dd := ⟨_, rfl⟩
                have hdl : dd.data.toList = kd.data.toList ++ [61, 118, 10] := by rw [← hdd]; simp
                have hds : dd.size = k + 3 := by rw [← St.len_list, hdl]; simp [hks]
                have e10 : ((c.toNat : Int) == 10) = false := beq_eq_false_iff_ne.2 (by omega)
                have e61 : ((c.toNat : Int) == 61) = false := beq_eq_false_iff_ne.2 (by omega)
                have e35 : ((c.toNat : Int) == 35) = false := beq_eq_false_iff_ne.2 (by omega)
                have e32 : ((c.toNat : Int) == 32) = false := beq_eq_false_iff_ne.2 (by omega)
                have e9 : ((c.toNat : Int) == 9) = false := beq_eq_false_iff_ne.2 (by omega)
                obtain ⟨x, y, hr⟩ := keys_one hkl (by omega) (by omega) hdl hkc
                have hsp := fun W => xsplit_any dd W (by omega)
                rw [hr] at hsp
                clear hr
                have HSP := hid hsp
                clear hsp hdl hkl
                go_wp2_with fail
                refine (HSP.out _).mono ?_
                rintro e w4 ⟨A4, c4, rfl, hpa, h41, h42, hu4⟩
                have HU4 := hid (HU.out.trans hu4)
                obtain ⟨b, o, rfl, hb, hcl⟩ := hpa (by simp)
                have k1 := (hcl 1 (by simp)).2.1
                simp only [List.getElem_cons_zero, List.getElem_cons_succ, ba_eta] at k1
                haveI : LtW b w4 := LtW.of hb
                clear hcl hpa hu4
                simp only [List.length_cons, List.length_nil]
                have kk : (kd.toList == kd.toList) = true := beq_self_eq_true _
                simp only [List.length_cons, List.length_nil] at h41
                go_wp2_with fail
                refine (xknown_any _).mono ?_
                rintro e w5 ⟨rfl, hu5⟩
                have HU5 := hid (HU4.out.trans hu5)
                clear hu5
                go_wp2
                go_ret
                exact ⟨rfl, HU5.out⟩
              · have y1 : ¬ 9223372036854775807 < kd.size + 3 := by omega
                obtain ⟨dd, hdd⟩ : ∃ dd : ByteArray, kd ++ (⟨#[61, 118, 10]⟩ : ByteArray) = dd := ⟨_, rfl⟩
                have hdl : dd.data.toList = kd.data.toList ++ [61, 118, 10] := by rw [← hdd]; simp
                have hds : dd.size = k + 3 := by rw [← St.len_list, hdl]; simp [hks]
                have y2 : ¬ 9223372036854775807 < dd.size + dd.size := by omega
                obtain ⟨d2, hdd2⟩ : ∃ d2 : ByteArray, dd ++ dd = d2 := ⟨_, rfl⟩
                have hd2l : d2.data.toList = dd.data.toList ++ dd.data.toList := by rw [← hdd2]; simp
                have hd2s : d2.size = 2 * (k + 3) := by rw [← St.len_list, hd2l]; simp [hds]; omega
                have e10 : ((c.toNat : Int) == 10) = false := beq_eq_false_iff_ne.2 (by omega)
                have e61 : ((c.toNat : Int) == 61) = false := beq_eq_false_iff_ne.2 (by omega)
                have e35 : ((c.toNat : Int) == 35) = false := beq_eq_false_iff_ne.2 (by omega)
                have e32 : ((c.toNat : Int) == 32) = false := beq_eq_false_iff_ne.2 (by omega)
                have e9 : ((c.toNat : Int) == 9) = false := beq_eq_false_iff_ne.2 (by omega)
                have hr := keys_two hkl (by omega) (by omega) (by rw [hd2l, hdl]) hkc
                have hq : ((d2.size : Int).tdiv 2) = ((k + 3 : Nat) : Int) := by rw [show (d2.size : Int) = 2 * ((k + 3 : Nat) : Int) by omega]; exact Int.mul_tdiv_cancel_left _ (by decide)
                have hsp := fun W => xsplit_any d2 W (by omega)
                rw [hr] at hsp
                clear hr
                have HSP := hid hsp
                clear hsp hdl hd2l hkl
                go_wp2_with fail
                refine (HSP.out _).mono ?_
                rintro e w4 ⟨A4, c4, rfl, hpa, h41, h42, hu4⟩
                have HU4 := hid (HU.out.trans hu4)
                clear hpa hu4
                go_wp2_with fail
                refine (xknown_any _).mono ?_
                rintro e w5 ⟨rfl, hu5⟩
                have HU5 := hid (HU4.out.trans hu5)
                clear hu5
                go_wp2
                go_ret
                exact ⟨rfl, HU5.out⟩
      · have p97 : ¬ (97 : Int) ≤ (c.toNat : Int) := by omega
        have p48 : (48 : Int) ≤ (c.toNat : Int) := by omega
        have r57 : ¬ (c.toNat : Int) ≤ (57 : Int) := by omega
        have e46 : ((c.toNat : Int) == 46) = false := beq_eq_false_iff_ne.2 (by omega)
        have e95 : ((c.toNat : Int) == 95) = false := beq_eq_false_iff_ne.2 (by omega)
        have e45 : ((c.toNat : Int) == 45) = false := beq_eq_false_iff_ne.2 (by omega)
        have hkc : St.keyC c = false := by unfold St.keyC; exact decide_eq_false (by omega)
        by_cases hk0 : k = 0
        · have z0 : ¬ (0 : Int) < (k : Int) := by omega
          have z1 : (k : Int) < 1 := by omega
          have HU := hid (Und.refl w)
          cases tw
          · obtain ⟨dd, hdd⟩ : ∃ dd : ByteArray, kb ++ (⟨#[61, 118, 10]⟩ : ByteArray) = dd := ⟨_, rfl⟩
            have hdl : dd.data.toList = [61, 118, 10] := by rw [← hdd]; rw [ByteArray.data_append, Array.toList_append, hbl, hk0]; rfl
            have hds : dd.size = k + 3 := by rw [← St.len_list, hdl]; try simp [hk0]
            have hr := keys_zero (dd := dd) (R := [118, 10]) (by first | exact hdl | (rw [hd2l, hdl]; rfl) | rw [hd2l, hdl]) (by omega)
            have hsp := fun W => xsplit_any dd W (by omega)
            rw [hr] at hsp
            clear hr
            have HSP := hid hsp
            clear hsp hdl
            go_wp2_with fail
            refine (HSP.out _).mono ?_
            rintro e w4 ⟨A4, c4, rfl, hpa, h41, h42, hu4⟩
            have HU4 := hid (HU.out.trans hu4)
            clear hpa hu4
            go_wp2_with fail
            refine (xknown_any _).mono ?_
            rintro e w5 ⟨rfl, hu5⟩
            have HU5 := hid (HU4.out.trans hu5)
            clear hu5
            go_wp2
            go_ret
            exact ⟨rfl, HU5.out⟩
          · obtain ⟨dd, hdd⟩ : ∃ dd : ByteArray, kb ++ (⟨#[61, 118, 10]⟩ : ByteArray) = dd := ⟨_, rfl⟩
            have hdl : dd.data.toList = [61, 118, 10] := by rw [← hdd]; rw [ByteArray.data_append, Array.toList_append, hbl, hk0]; rfl
            have hds : dd.size = k + 3 := by rw [← St.len_list, hdl]; try simp [hk0]
            have y2 : ¬ 9223372036854775807 < dd.size + dd.size := by omega
            obtain ⟨d2, hdd2⟩ : ∃ d2 : ByteArray, dd ++ dd = d2 := ⟨_, rfl⟩
            have hd2l : d2.data.toList = dd.data.toList ++ dd.data.toList := by rw [← hdd2]; simp
            have hd2s : d2.size = 2 * (k + 3) := by rw [← St.len_list, hd2l]; simp [hds]; omega
            have hr := keys_zero (dd := d2) (R := [118, 10, 61, 118, 10]) (by first | exact hdl | (rw [hd2l, hdl]; rfl) | rw [hd2l, hdl]) (by omega)
            have hsp := fun W => xsplit_any d2 W (by omega)
            rw [hr] at hsp
            clear hr
            have HSP := hid hsp
            clear hsp hdl hd2l
            go_wp2_with fail
            refine (HSP.out _).mono ?_
            rintro e w4 ⟨A4, c4, rfl, hpa, h41, h42, hu4⟩
            have HU4 := hid (HU.out.trans hu4)
            clear hpa hu4
            go_wp2_with fail
            refine (xknown_any _).mono ?_
            rintro e w5 ⟨rfl, hu5⟩
            have HU5 := hid (HU4.out.trans hu5)
            clear hu5
            go_wp2
            go_ret
            exact ⟨rfl, HU5.out⟩
        · have z0 : (0 : Int) < (k : Int) := by omega
          have z1 : ¬ (k : Int) < 1 := by omega
          obtain ⟨kx, hkx⟩ : ∃ kx : ByteArray, kb.extract 0 (k - 1) = kx := ⟨_, rfl⟩
          have hkxl : kx.data.toList = List.replicate (k - 1) 107 := by rw [← hkx, Lib.extract_data, hbl]; simp
          have hkxs : kx.size = k - 1 := by rw [← St.len_list, hkxl]; simp
          have hkbs : kb.size = k := by rw [← St.len_list, hbl]; simp
          go_wp2_with fail
          refine wp_region_facts (fun a b => Und a b) (fun _ _ => True) [fun v _ => v = .string kb, fun v _ => v = .int .i64 k, fun v _ => v = .int .i64 ((k - 1 : Nat) : Int), fun v _ => v = .string kx, fun v _ => v = .int .u8 (c.toNat : Int), fun v W => ∃ b, v = .slice (some ⟨b, 0, none⟩) 1 1 ∧ b < W.heap.size ∧ W.cell? ⟨b, 0, none⟩ = some (.int .u8 (c.toNat : Int)), fun v _ => v = .string ⟨#[c]⟩, fun v _ => v = .string (kx ++ ⟨#[c]⟩), fun v _ => v = .string (kx ++ ⟨#[c]⟩)] Und.refl (fun a b c h k => Und.trans h k) (by kernel_rfl) (by rfl) (by kernel_rfl) (by kernel_rfl) ?frD6 ?hfr ?hI ?hob ?hend
          case hfr =>
            intro ρ
            simp only [putAll, Act.put, List.setIfInBounds_toArray, List.set_cons_succ, List.set_cons_zero, Nat.zero_add, Nat.reduceAdd]
            exact rfl
          case hI => trivial
          case hob =>
            refine ObsF.cons (fun ρ L W hR hI hL hD hO hF K hK => ?_) ?_
            · skip
              have eo : ρ 8 = .string kb := hO 8 _ 7 rfl rfl (hD.not (p := 8) rfl (by decide) hL)
              clear hF hD hO hI hL hR
              simp only [Act.put, List.setIfInBounds_toArray, List.set_cons_succ, List.set_cons_zero] at hK ⊢
              rw [eo] at hK ⊢
              go_simp
              refine hK _ _ (Und.refl _) trivial (fun W2 h2 => ?_)
              rfl
            refine ObsF.cons (fun ρ L W hR hI hL hD hO hF K hK => ?_) ?_
            · skip
              clear hF hD hO hI hL hR
              simp only [Act.put, List.setIfInBounds_toArray, List.set_cons_succ, List.set_cons_zero] at hK ⊢
              go_simp
              refine hK _ _ (Und.refl _) trivial (fun W2 h2 => ?_)
              rfl
            refine ObsF.cons (fun ρ L W hR hI hL hD hO hF K hK => ?_) ?_
            · skip
              have f1 := allF_get hF (j := 1) (by decide)
              clear hF hD hO hI hL hR
              simp only [Act.put, List.setIfInBounds_toArray, List.set_cons_succ, List.set_cons_zero] at hK ⊢
              have e1 : ρ 1 = .int .i64 k := f1
              rw [e1] at hK ⊢
              go_simp
              refine hK _ _ (Und.refl _) trivial (fun W2 h2 => ?_)
              first | exact congrArg (Value.int .i64) (by omega) | exact congrArg (Value.int .i64) ((IntWalk.i64_in _ (by omega)).trans (by omega))
            refine ObsF.cons (fun ρ L W hR hI hL hD hO hF K hK => ?_) ?_
            · skip
              have f0 := allF_get hF (j := 0) (by decide)
              have f2 := allF_get hF (j := 2) (by decide)
              clear hF hD hO hI hL hR
              simp only [Act.put, List.setIfInBounds_toArray, List.set_cons_succ, List.set_cons_zero] at hK ⊢
              have e0 : ρ 0 = .string kb := f0
              have e2 : ρ 2 = .int .i64 ((k - 1 : Nat) : Int) := f2
              rw [e0, e2] at hK ⊢
              have y1 : ((k - 1 : Nat) : Int) ≤ kb.size := by omega
              have y2 : (((k - 1 : Nat) : Int)).toNat = k - 1 := by omega
              have y3 : k - 1 ≤ kb.size := by omega
              go_simp
              refine hK _ _ (Und.refl _) trivial (fun W2 h2 => ?_)
              first | rfl | exact congrArg Value.string hkx
            refine ObsF.cons (fun ρ L W hR hI hL hD hO hF K hK => ?_) ?_
            · skip
              clear hF hD hO hI hL hR
              simp only [Act.put, List.setIfInBounds_toArray, List.set_cons_succ, List.set_cons_zero] at hK ⊢
              go_simp
              refine hK _ _ (Und.refl _) trivial (fun W2 h2 => ?_)
              rfl
            refine ObsF.cons (fun ρ L W hR hI hL hD hO hF K hK => ?_) ?_
            · skip
              have f4 := allF_get hF (j := 4) (by decide)
              clear hF hD hO hI hL hR
              simp only [Act.put, List.setIfInBounds_toArray, List.set_cons_succ, List.set_cons_zero] at hK ⊢
              have e4 : ρ 4 = .int .u8 (c.toNat : Int) := f4
              rw [e4] at hK ⊢
              go_simp
              refine hK _ _ ((Und.refl W).alloc _) trivial (fun W2 h2 => ⟨W.heap.size, rfl, by have := h2.size; simp at this; omega, ?_⟩)
              rw [h2.cell (p := ⟨W.heap.size, 0, none⟩) (by simp)]
              simp
            refine ObsF.cons (fun ρ L W hR hI hL hD hO hF K hK => ?_) ?_
            · skip
              have f5 := allF_get hF (j := 5) (by decide)
              clear hF hD hO hI hL hR
              simp only [Act.put, List.setIfInBounds_toArray, List.set_cons_succ, List.set_cons_zero] at hK ⊢
              obtain ⟨b, e5, hb2, hc⟩ := f5
              rw [e5] at hK ⊢
              haveI : LtW b W := LtW.of hb2
              go_simp
              refine hK _ _ (Und.refl _) trivial (fun W2 h2 => ?_)
              first | rfl | simp
            refine ObsF.cons (fun ρ L W hR hI hL hD hO hF K hK => ?_) ?_
            · skip
              have f3 := allF_get hF (j := 3) (by decide)
              have f6 := allF_get hF (j := 6) (by decide)
              clear hF hD hO hI hL hR
              simp only [Act.put, List.setIfInBounds_toArray, List.set_cons_succ, List.set_cons_zero] at hK ⊢
              have e3 : ρ 3 = .string kx := f3
              have e6 : ρ 6 = .string ⟨#[c]⟩ := f6
              rw [e3, e6] at hK ⊢
              have y1 : ¬ 9223372036854775807 < kx.size + 1 := by omega
              have y2 : ¬ 9223372036854775807 < k - 1 + 1 := by omega
              go_simp
              refine hK _ _ (Und.refl _) trivial (fun W2 h2 => ?_)
              rfl
            refine ObsF.cons (fun ρ L W hR hI hL hD hO hF K hK => ?_) ?_
            · skip
              have f7 := allF_get hF (j := 7) (by decide)
              clear hF hD hO hI hL hR
              simp only [Act.put, List.setIfInBounds_toArray, List.set_cons_succ, List.set_cons_zero] at hK ⊢
              have e7 : ρ 7 = .string (kx ++ ⟨#[c]⟩) := f7
              rw [e7] at hK ⊢
              go_simp
              refine hK _ _ (Und.refl _) trivial (fun W2 h2 => ?_)
              rfl
            exact ObsF.nil
          case hend =>
            intro ρ L W hR hI hL hF
            obtain ⟨_, _, _, _, _, _, _, _, e8, _⟩ := hF
            have e8 : ρ 8 = .string (kx ++ ⟨#[c]⟩) := e8
            rw [e8]
            have HU := hid (show Und w W from (Und.refl w).drew.trans hR)
            clear hI hL hR e8
            obtain ⟨kd, hkd⟩ : ∃ kd : ByteArray, kx ++ ⟨#[c]⟩ = kd := ⟨_, rfl⟩
            rw [hkd]
            have hkl : kd.data.toList = List.replicate (k - 1) 107 ++ [c] := by rw [← hkd, ByteArray.data_append, Array.toList_append, hkxl]
            have hks : kd.size = k := by rw [← St.len_list, hkl]; simp; omega
            clear hkd
            by_cases o61 : c.toNat = 61
            · have o612 : 61 ≤ c.toNat ∧ c.toNat ≤ 61 := by omega
              clear o61
              have e10 : ((c.toNat : Int) == 10) = false := beq_eq_false_iff_ne.2 (by omega)
              have e61 : ((c.toNat : Int) == 61) = true := beq_iff_eq.2 (by omega)
              cases tw
              · have y1 : ¬ 9223372036854775807 < kd.size + 3 := by omega
                obtain ⟨dd, hdd⟩ : ∃ dd : ByteArray, kd ++ (⟨#[61, 118, 10]⟩ : ByteArray) = dd := ⟨_, rfl⟩
                have hdl : dd.data.toList = kd.data.toList ++ [61, 118, 10] := by rw [← hdd]; simp
                have hds : dd.size = k + 3 := by rw [← St.len_list, hdl]; simp [hks]
                have hsp := fun W => xsplit_any dd W (by omega)
                have HSP := hid hsp
                clear hsp hdl hkl
                go_wp2_with fail
                refine (HSP.out _).mono ?_
                rintro e w4 ⟨A4, c4, rfl, hpa, h41, h42, hu4⟩
                have HU4 := hid (HU.out.trans hu4)
                clear hpa hu4
                go_wp2_with fail
                refine (xknown_any _).mono ?_
                rintro e w5 ⟨rfl, hu5⟩
                have HU5 := hid (HU4.out.trans hu5)
                clear hu5
                go_wp2
                go_ret
                exact ⟨rfl, HU5.out⟩
              · have y1 : ¬ 9223372036854775807 < kd.size + 3 := by omega
                obtain ⟨dd, hdd⟩ : ∃ dd : ByteArray, kd ++ (⟨#[61, 118, 10]⟩ : ByteArray) = dd := ⟨_, rfl⟩
                have hdl : dd.data.toList = kd.data.toList ++ [61, 118, 10] := by rw [← hdd]; simp
                have hds : dd.size = k + 3 := by rw [← St.len_list, hdl]; simp [hks]
                have y2 : ¬ 9223372036854775807 < dd.size + dd.size := by omega
                obtain ⟨d2, hdd2⟩ : ∃ d2 : ByteArray, dd ++ dd = d2 := ⟨_, rfl⟩
                have hd2l : d2.data.toList = dd.data.toList ++ dd.data.toList := by rw [← hdd2]; simp
                have hd2s : d2.size = 2 * (k + 3) := by rw [← St.len_list, hd2l]; simp [hds]; omega
                have hsp := fun W => xsplit_any d2 W (by omega)
                have HSP := hid hsp
                clear hsp hdl hd2l hkl
                go_wp2_with fail
                refine (HSP.out _).mono ?_
                rintro e w4 ⟨A4, c4, rfl, hpa, h41, h42, hu4⟩
                have HU4 := hid (HU.out.trans hu4)
                clear hpa hu4
                go_wp2_with fail
                refine (xknown_any _).mono ?_
                rintro e w5 ⟨rfl, hu5⟩
                have HU5 := hid (HU4.out.trans hu5)
                clear hu5
                go_wp2
                go_ret
                exact ⟨rfl, HU5.out⟩
            have e10 : ((c.toNat : Int) == 10) = false := beq_eq_false_iff_ne.2 (by omega)
            have e61 : ((c.toNat : Int) == 61) = false := beq_eq_false_iff_ne.2 (by omega)
            have e35 : ((c.toNat : Int) == 35) = false := beq_eq_false_iff_ne.2 (by omega)
            have e32 : ((c.toNat : Int) == 32) = false := beq_eq_false_iff_ne.2 (by omega)
            have e9 : ((c.toNat : Int) == 9) = false := beq_eq_false_iff_ne.2 (by omega)
            have hno : ¬ outC c := by unfold outC; omega
            by_cases h64 : 64 < k
            · have z2 : (64 : Int) < (k : Int) := by omega
              cases tw
              · have y1 : ¬ 9223372036854775807 < kd.size + 3 := by omega
                obtain ⟨dd, hdd⟩ : ∃ dd : ByteArray, kd ++ (⟨#[61, 118, 10]⟩ : ByteArray) = dd := ⟨_, rfl⟩
                have hdl : dd.data.toList = kd.data.toList ++ [61, 118, 10] := by rw [← hdd]; simp
                have hds : dd.size = k + 3 := by rw [← St.len_list, hdl]; simp [hks]
                have hr := keys_bad (R := ⟨#[118, 10]⟩) hkl (by omega) (by exact hdl) (by decide) (.inl ⟨hkc, hno⟩)
                have hsp := fun W => xsplit_any dd W (by omega)
                rw [hr] at hsp
                clear hr
                have HSP := hid hsp
                clear hsp hdl hkl
                go_wp2_with fail
                refine (HSP.out _).mono ?_
                rintro e w4 ⟨A4, c4, rfl, hpa, h41, h42, hu4⟩
                have HU4 := hid (HU.out.trans hu4)
                clear hpa hu4
                go_wp2_with fail
                refine (xknown_any _).mono ?_
                rintro e w5 ⟨rfl, hu5⟩
                have HU5 := hid (HU4.out.trans hu5)
                clear hu5
                go_wp2
                go_ret
                exact ⟨rfl, HU5.out⟩
              · have y1 : ¬ 9223372036854775807 < kd.size + 3 := by omega
                obtain ⟨dd, hdd⟩ : ∃ dd : ByteArray, kd ++ (⟨#[61, 118, 10]⟩ : ByteArray) = dd := ⟨_, rfl⟩
                have hdl : dd.data.toList = kd.data.toList ++ [61, 118, 10] := by rw [← hdd]; simp
                have hds : dd.size = k + 3 := by rw [← St.len_list, hdl]; simp [hks]
                have y2 : ¬ 9223372036854775807 < dd.size + dd.size := by omega
                obtain ⟨d2, hdd2⟩ : ∃ d2 : ByteArray, dd ++ dd = d2 := ⟨_, rfl⟩
                have hd2l : d2.data.toList = dd.data.toList ++ dd.data.toList := by rw [← hdd2]; simp
                have hd2s : d2.size = 2 * (k + 3) := by rw [← St.len_list, hd2l]; simp [hds]; omega
                have hr := keys_bad (R := (⟨#[118, 10]⟩ : ByteArray) ++ dd) hkl (by omega) (by rw [hd2l]; exact (congrArg (· ++ dd.data.toList) hdl).trans (by simp)) (by rw [ByteArray.size_append]; show 2 + _ ≤ _; omega) (.inl ⟨hkc, hno⟩)
                have hsp := fun W => xsplit_any d2 W (by omega)
                rw [hr] at hsp
                clear hr
                have HSP := hid hsp
                clear hsp hdl hd2l hkl
                go_wp2_with fail
                refine (HSP.out _).mono ?_
                rintro e w4 ⟨A4, c4, rfl, hpa, h41, h42, hu4⟩
                have HU4 := hid (HU.out.trans hu4)
                clear hpa hu4
                go_wp2_with fail
                refine (xknown_any _).mono ?_
                rintro e w5 ⟨rfl, hu5⟩
                have HU5 := hid (HU4.out.trans hu5)
                clear hu5
                go_wp2
                go_ret
                exact ⟨rfl, HU5.out⟩
            · have z2 : ¬ (64 : Int) < (k : Int) := by omega
              cases tw
              · have y1 : ¬ 9223372036854775807 < kd.size + 3 := by omega
                obtain ⟨dd, hdd⟩ : ∃ dd : ByteArray, kd ++ (⟨#[61, 118, 10]⟩ : ByteArray) = dd := ⟨_, rfl⟩
                have hdl : dd.data.toList = kd.data.toList ++ [61, 118, 10] := by rw [← hdd]; simp
                have hds : dd.size = k + 3 := by rw [← St.len_list, hdl]; simp [hks]
                have hr := keys_bad (R := ⟨#[118, 10]⟩) hkl (by omega) (by exact hdl) (by decide) (.inl ⟨hkc, hno⟩)
                have hsp := fun W => xsplit_any dd W (by omega)
                rw [hr] at hsp
                clear hr
                have HSP := hid hsp
                clear hsp hdl hkl
                go_wp2_with fail
                refine (HSP.out _).mono ?_
                rintro e w4 ⟨A4, c4, rfl, hpa, h41, h42, hu4⟩
                have HU4 := hid (HU.out.trans hu4)
                clear hpa hu4
                go_wp2_with fail
                refine (xknown_any _).mono ?_
                rintro e w5 ⟨rfl, hu5⟩
                have HU5 := hid (HU4.out.trans hu5)
                clear hu5
                go_wp2
                go_ret
                exact ⟨rfl, HU5.out⟩
              · have y1 : ¬ 9223372036854775807 < kd.size + 3 := by omega
                obtain ⟨dd, hdd⟩ : ∃ dd : ByteArray, kd ++ (⟨#[61, 118, 10]⟩ : ByteArray) = dd := ⟨_, rfl⟩
                have hdl : dd.data.toList = kd.data.toList ++ [61, 118, 10] := by rw [← hdd]; simp
                have hds : dd.size = k + 3 := by rw [← St.len_list, hdl]; simp [hks]
                have y2 : ¬ 9223372036854775807 < dd.size + dd.size := by omega
                obtain ⟨d2, hdd2⟩ : ∃ d2 : ByteArray, dd ++ dd = d2 := ⟨_, rfl⟩
                have hd2l : d2.data.toList = dd.data.toList ++ dd.data.toList := by rw [← hdd2]; simp
                have hd2s : d2.size = 2 * (k + 3) := by rw [← St.len_list, hd2l]; simp [hds]; omega
                have hr := keys_bad (R := (⟨#[118, 10]⟩ : ByteArray) ++ dd) hkl (by omega) (by rw [hd2l]; exact (congrArg (· ++ dd.data.toList) hdl).trans (by simp)) (by rw [ByteArray.size_append]; show 2 + _ ≤ _; omega) (.inl ⟨hkc, hno⟩)
                have hsp := fun W => xsplit_any d2 W (by omega)
                rw [hr] at hsp
                clear hr
                have HSP := hid hsp
                clear hsp hdl hd2l hkl
                go_wp2_with fail
                refine (HSP.out _).mono ?_
                rintro e w4 ⟨A4, c4, rfl, hpa, h41, h42, hu4⟩
                have HU4 := hid (HU.out.trans hu4)
                clear hpa hu4
                go_wp2_with fail
                refine (xknown_any _).mono ?_
                rintro e w5 ⟨rfl, hu5⟩
                have HU5 := hid (HU4.out.trans hu5)
                clear hu5
                go_wp2
                go_ret
                exact ⟨rfl, HU5.out⟩
      · have p97 : ¬ (97 : Int) ≤ (c.toNat : Int) := by omega
        have p48 : ¬ (48 : Int) ≤ (c.toNat : Int) := by omega
        have e46 : ((c.toNat : Int) == 46) = false := beq_eq_false_iff_ne.2 (by omega)
        have e95 : ((c.toNat : Int) == 95) = false := beq_eq_false_iff_ne.2 (by omega)
        have e45 : ((c.toNat : Int) == 45) = false := beq_eq_false_iff_ne.2 (by omega)
        have hkc : St.keyC c = false := by unfold St.keyC; exact decide_eq_false (by omega)
        by_cases hk0 : k = 0
        · have z0 : ¬ (0 : Int) < (k : Int) := by omega
          have z1 : (k : Int) < 1 := by omega
          have HU := hid (Und.refl w)
          cases tw
          · obtain ⟨dd, hdd⟩ : ∃ dd : ByteArray, kb ++ (⟨#[61, 118, 10]⟩ : ByteArray) = dd := ⟨_, rfl⟩
            have hdl : dd.data.toList = [61, 118, 10] := by rw [← hdd]; rw [ByteArray.data_append, Array.toList_append, hbl, hk0]; rfl
            have hds : dd.size = k + 3 := by rw [← St.len_list, hdl]; try simp [hk0]
            have hr := keys_zero (dd := dd) (R := [118, 10]) (by first | exact hdl | (rw [hd2l, hdl]; rfl) | rw [hd2l, hdl]) (by omega)
            have hsp := fun W => xsplit_any dd W (by omega)
            rw [hr] at hsp
            clear hr
            have HSP := hid hsp
            clear hsp hdl
            go_wp2_with fail
            refine (HSP.out _).mono ?_
            rintro e w4 ⟨A4, c4, rfl, hpa, h41, h42, hu4⟩
            have HU4 := hid (HU.out.trans hu4)
            clear hpa hu4
            go_wp2_with fail
            refine (xknown_any _).mono ?_
            rintro e w5 ⟨rfl, hu5⟩
            have HU5 := hid (HU4.out.trans hu5)
            clear hu5
            go_wp2
            go_ret
            exact ⟨rfl, HU5.out⟩
          · obtain ⟨dd, hdd⟩ : ∃ dd : ByteArray, kb ++ (⟨#[61, 118, 10]⟩ : ByteArray) = dd := ⟨_, rfl⟩
            have hdl : dd.data.toList = [61, 118, 10] := by rw [← hdd]; rw [ByteArray.data_append, Array.toList_append, hbl, hk0]; rfl
            have hds : dd.size = k + 3 := by rw [← St.len_list, hdl]; try simp [hk0]
            have y2 : ¬ 9223372036854775807 < dd.size + dd.size := by omega
            obtain ⟨d2, hdd2⟩ : ∃ d2 : ByteArray, dd ++ dd = d2 := ⟨_, rfl⟩
            have hd2l : d2.data.toList = dd.data.toList ++ dd.data.toList := by rw [← hdd2]; simp
            have hd2s : d2.size = 2 * (k + 3) := by rw [← St.len_list, hd2l]; simp [hds]; omega
            have hr := keys_zero (dd := d2) (R := [118, 10, 61, 118, 10]) (by first | exact hdl | (rw [hd2l, hdl]; rfl) | rw [hd2l, hdl]) (by omega)
            have hsp := fun W => xsplit_any d2 W (by omega)
            rw [hr] at hsp
            clear hr
            have HSP := hid hsp
            clear hsp hdl hd2l
            go_wp2_with fail
            refine (HSP.out _).mono ?_
            rintro e w4 ⟨A4, c4, rfl, hpa, h41, h42, hu4⟩
            have HU4 := hid (HU.out.trans hu4)
            clear hpa hu4
            go_wp2_with fail
            refine (xknown_any _).mono ?_
            rintro e w5 ⟨rfl, hu5⟩
            have HU5 := hid (HU4.out.trans hu5)
            clear hu5
            go_wp2
            go_ret
            exact ⟨rfl, HU5.out⟩
        · have z0 : (0 : Int) < (k : Int) := by omega
          have z1 : ¬ (k : Int) < 1 := by omega
          obtain ⟨kx, hkx⟩ : ∃ kx : ByteArray, kb.extract 0 (k - 1) = kx := ⟨_, rfl⟩
          have hkxl : kx.data.toList = List.replicate (k - 1) 107 := by rw [← hkx, Lib.extract_data, hbl]; simp
          have hkxs : kx.size = k - 1 := by rw [← St.len_list, hkxl]; simp
          have hkbs : kb.size = k := by rw [← St.len_list, hbl]; simp
          go_wp2_with fail
          refine wp_region_facts (fun a b => Und a b) (fun _ _ => True) [fun v _ => v = .string kb, fun v _ => v = .int .i64 k, fun v _ => v = .int .i64 ((k - 1 : Nat) : Int), fun v _ => v = .string kx, fun v _ => v = .int .u8 (c.toNat : Int), fun v W => ∃ b, v = .slice (some ⟨b, 0, none⟩) 1 1 ∧ b < W.heap.size ∧ W.cell? ⟨b, 0, none⟩ = some (.int .u8 (c.toNat : Int)), fun v _ => v = .string ⟨#[c]⟩, fun v _ => v = .string (kx ++ ⟨#[c]⟩), fun v _ => v = .string (kx ++ ⟨#[c]⟩)] Und.refl (fun a b c h k => Und.trans h k) (by kernel_rfl) (by rfl) (by kernel_rfl) (by kernel_rfl) ?frD7 ?hfr ?hI ?hob ?hend
          case hfr =>
            intro ρ
            simp only [putAll, Act.put, List.setIfInBounds_toArray, List.set_cons_succ, List.set_cons_zero, Nat.zero_add, Nat.reduceAdd]
            exact rfl
          case hI => trivial
          case hob =>
            refine ObsF.cons (fun ρ L W hR hI hL hD hO hF K hK => ?_) ?_
            · skip
              have eo : ρ 8 = .string kb := hO 8 _ 7 rfl rfl (hD.not (p := 8) rfl (by decide) hL)
              clear hF hD hO hI hL hR
              simp only [Act.put, List.setIfInBounds_toArray, List.set_cons_succ, List.set_cons_zero] at hK ⊢
              rw [eo] at hK ⊢
              go_simp
              refine hK _ _ (Und.refl _) trivial (fun W2 h2 => ?_)
              rfl
            refine ObsF.cons (fun ρ L W hR hI hL hD hO hF K hK => ?_) ?_
            · skip
              clear hF hD hO hI hL hR
              simp only [Act.put, List.setIfInBounds_toArray, List.set_cons_succ, List.set_cons_zero] at hK ⊢
              go_simp
              refine hK _ _ (Und.refl _) trivial (fun W2 h2 => ?_)
              rfl
            refine ObsF.cons (fun ρ L W hR hI hL hD hO hF K hK => ?_) ?_
            · skip
              have f1 := allF_get hF (j := 1) (by decide)
              clear hF hD hO hI hL hR
              simp only [Act.put, List.setIfInBounds_toArray, List.set_cons_succ, List.set_cons_zero] at hK ⊢
              have e1 : ρ 1 = .int .i64 k := f1
              rw [e1] at hK ⊢
              go_simp
              refine hK _ _ (Und.refl _) trivial (fun W2 h2 => ?_)
              first | exact congrArg (Value.int .i64) (by omega) | exact congrArg (Value.int .i64) ((IntWalk.i64_in _ (by omega)).trans (by omega))
            refine ObsF.cons (fun ρ L W hR hI hL hD hO hF K hK => ?_) ?_
            · skip
              have f0 := allF_get hF (j := 0) (by decide)
              have f2 := allF_get hF (j := 2) (by decide)
              clear hF hD hO hI hL hR
              simp only [Act.put, List.setIfInBounds_toArray, List.set_cons_succ, List.set_cons_zero] at hK ⊢
              have e0 : ρ 0 = .string kb := f0
              have e2 : ρ 2 = .int .i64 ((k - 1 : Nat) : Int) := f2
              rw [e0, e2] at hK ⊢
              have y1 : ((k - 1 : Nat) : Int) ≤ kb.size := by omega
              have y2 : (((k - 1 : Nat) : Int)).toNat = k - 1 := by omega
              have y3 : k - 1 ≤ kb.size := by omega
              go_simp
              refine hK _ _ (Und.refl _) trivial (fun W2 h2 => ?_)
              first | rfl | exact congrArg Value.string hkx
            refine ObsF.cons (fun ρ L W hR hI hL hD hO hF K hK => ?_) ?_
            · skip
              clear hF hD hO hI hL hR
              simp only [Act.put, List.setIfInBounds_toArray, List.set_cons_succ, List.set_cons_zero] at hK ⊢
              go_simp
              refine hK _ _ (Und.refl _) trivial (fun W2 h2 => ?_)
              rfl
            refine ObsF.cons (fun ρ L W hR hI hL hD hO hF K hK => ?_) ?_
            · skip
              have f4 := allF_get hF (j := 4) (by decide)
              clear hF hD hO hI hL hR
              simp only [Act.put, List.setIfInBounds_toArray, List.set_cons_succ, List.set_cons_zero] at hK ⊢
              have e4 : ρ 4 = .int .u8 (c.toNat : Int) := f4
              rw [e4] at hK ⊢
              go_simp
              refine hK _ _ ((Und.refl W).alloc _) trivial (fun W2 h2 => ⟨W.heap.size, rfl, by have := h2.size; simp at this; omega, ?_⟩)
              rw [h2.cell (p := ⟨W.heap.size, 0, none⟩) (by simp)]
              simp
            refine ObsF.cons (fun ρ L W hR hI hL hD hO hF K hK => ?_) ?_
            · skip
              have f5 := allF_get hF (j := 5) (by decide)
              clear hF hD hO hI hL hR
              simp only [Act.put, List.setIfInBounds_toArray, List.set_cons_succ, List.set_cons_zero] at hK ⊢
              obtain ⟨b, e5, hb2, hc⟩ := f5
              rw [e5] at hK ⊢
              haveI : LtW b W := LtW.of hb2
              go_simp
              refine hK _ _ (Und.refl _) trivial (fun W2 h2 => ?_)
              first | rfl | simp
            refine ObsF.cons (fun ρ L W hR hI hL hD hO hF K hK => ?_) ?_
            · skip
              have f3 := allF_get hF (j := 3) (by decide)
              have f6 := allF_get hF (j := 6) (by decide)
              clear hF hD hO hI hL hR
              simp only [Act.put, List.setIfInBounds_toArray, List.set_cons_succ, List.set_cons_zero] at hK ⊢
              have e3 : ρ 3 = .string kx := f3
              have e6 : ρ 6 = .string ⟨#[c]⟩ := f6
              rw [e3, e6] at hK ⊢
              have y1 : ¬ 9223372036854775807 < kx.size + 1 := by omega
              have y2 : ¬ 9223372036854775807 < k - 1 + 1 := by omega
              go_simp
              refine hK _ _ (Und.refl _) trivial (fun W2 h2 => ?_)
              rfl
            refine ObsF.cons (fun ρ L W hR hI hL hD hO hF K hK => ?_) ?_
            · skip
              have f7 := allF_get hF (j := 7) (by decide)
              clear hF hD hO hI hL hR
              simp only [Act.put, List.setIfInBounds_toArray, List.set_cons_succ, List.set_cons_zero] at hK ⊢
              have e7 : ρ 7 = .string (kx ++ ⟨#[c]⟩) := f7
              rw [e7] at hK ⊢
              go_simp
              refine hK _ _ (Und.refl _) trivial (fun W2 h2 => ?_)
              rfl
            exact ObsF.nil
          case hend =>
            intro ρ L W hR hI hL hF
            obtain ⟨_, _, _, _, _, _, _, _, e8, _⟩ := hF
            have e8 : ρ 8 = .string (kx ++ ⟨#[c]⟩) := e8
            rw [e8]
            have HU := hid (show Und w W from (Und.refl w).drew.trans hR)
            clear hI hL hR e8
            obtain ⟨kd, hkd⟩ : ∃ kd : ByteArray, kx ++ ⟨#[c]⟩ = kd := ⟨_, rfl⟩
            rw [hkd]
            have hkl : kd.data.toList = List.replicate (k - 1) 107 ++ [c] := by rw [← hkd, ByteArray.data_append, Array.toList_append, hkxl]
            have hks : kd.size = k := by rw [← St.len_list, hkl]; simp; omega
            clear hkd
            by_cases o10 : c.toNat = 10
            · have o102 : 10 ≤ c.toNat ∧ c.toNat ≤ 10 := by omega
              clear o10
              have e10 : ((c.toNat : Int) == 10) = true := beq_iff_eq.2 (by omega)
              cases tw
              · have y1 : ¬ 9223372036854775807 < kd.size + 3 := by omega
                obtain ⟨dd, hdd⟩ : ∃ dd : ByteArray, kd ++ (⟨#[61, 118, 10]⟩ : ByteArray) = dd := ⟨_, rfl⟩
                have hdl : dd.data.toList = kd.data.toList ++ [61, 118, 10] := by rw [← hdd]; simp
                have hds : dd.size = k + 3 := by rw [← St.len_list, hdl]; simp [hks]
                have hsp := fun W => xsplit_any dd W (by omega)
                have HSP := hid hsp
                clear hsp hdl hkl
                go_wp2_with fail
                refine (HSP.out _).mono ?_
                rintro e w4 ⟨A4, c4, rfl, hpa, h41, h42, hu4⟩
                have HU4 := hid (HU.out.trans hu4)
                clear hpa hu4
                go_wp2_with fail
                refine (xknown_any _).mono ?_
                rintro e w5 ⟨rfl, hu5⟩
                have HU5 := hid (HU4.out.trans hu5)
                clear hu5
                go_wp2
                go_ret
                exact ⟨rfl, HU5.out⟩
              · have y1 : ¬ 9223372036854775807 < kd.size + 3 := by omega
                obtain ⟨dd, hdd⟩ : ∃ dd : ByteArray, kd ++ (⟨#[61, 118, 10]⟩ : ByteArray) = dd := ⟨_, rfl⟩
                have hdl : dd.data.toList = kd.data.toList ++ [61, 118, 10] := by rw [← hdd]; simp
                have hds : dd.size = k + 3 := by rw [← St.len_list, hdl]; simp [hks]
                have y2 : ¬ 9223372036854775807 < dd.size + dd.size := by omega
                obtain ⟨d2, hdd2⟩ : ∃ d2 : ByteArray, dd ++ dd = d2 := ⟨_, rfl⟩
                have hd2l : d2.data.toList = dd.data.toList ++ dd.data.toList := by rw [← hdd2]; simp
                have hd2s : d2.size = 2 * (k + 3) := by rw [← St.len_list, hd2l]; simp [hds]; omega
                have hsp := fun W => xsplit_any d2 W (by omega)
                have HSP := hid hsp
                clear hsp hdl hd2l hkl
                go_wp2_with fail
                refine (HSP.out _).mono ?_
                rintro e w4 ⟨A4, c4, rfl, hpa, h41, h42, hu4⟩
                have HU4 := hid (HU.out.trans hu4)
                clear hpa hu4
                go_wp2_with fail
                refine (xknown_any _).mono ?_
                rintro e w5 ⟨rfl, hu5⟩
                have HU5 := hid (HU4.out.trans hu5)
                clear hu5
                go_wp2
                go_ret
                exact ⟨rfl, HU5.out⟩
            by_cases o35 : c.toNat = 35
            · have o352 : 35 ≤ c.toNat ∧ c.toNat ≤ 35 := by omega
              clear o35
              have e10 : ((c.toNat : Int) == 10) = false := beq_eq_false_iff_ne.2 (by omega)
              have e61 : ((c.toNat : Int) == 61) = false := beq_eq_false_iff_ne.2 (by omega)
              have e35 : ((c.toNat : Int) == 35) = true := beq_iff_eq.2 (by omega)
              cases tw
              · have y1 : ¬ 9223372036854775807 < kd.size + 3 := by omega
                obtain ⟨dd, hdd⟩ : ∃ dd : ByteArray, kd ++ (⟨#[61, 118, 10]⟩ : ByteArray) = dd := ⟨_, rfl⟩
                have hdl : dd.data.toList = kd.data.toList ++ [61, 118, 10] := by rw [← hdd]; simp
                have hds : dd.size = k + 3 := by rw [← St.len_list, hdl]; simp [hks]
                have hsp := fun W => xsplit_any dd W (by omega)
                have HSP := hid hsp
                clear hsp hdl hkl
                go_wp2_with fail
                refine (HSP.out _).mono ?_
                rintro e w4 ⟨A4, c4, rfl, hpa, h41, h42, hu4⟩
                have HU4 := hid (HU.out.trans hu4)
                clear hpa hu4
                go_wp2_with fail
                refine (xknown_any _).mono ?_
                rintro e w5 ⟨rfl, hu5⟩
                have HU5 := hid (HU4.out.trans hu5)
                clear hu5
                go_wp2
                go_ret
                exact ⟨rfl, HU5.out⟩
              · have y1 : ¬ 9223372036854775807 < kd.size + 3 := by omega
                obtain ⟨dd, hdd⟩ : ∃ dd : ByteArray, kd ++ (⟨#[61, 118, 10]⟩ : ByteArray) = dd := ⟨_, rfl⟩
                have hdl : dd.data.toList = kd.data.toList ++ [61, 118, 10] := by rw [← hdd]; simp
                have hds : dd.size = k + 3 := by rw [← St.len_list, hdl]; simp [hks]
                have y2 : ¬ 9223372036854775807 < dd.size + dd.size := by omega
                obtain ⟨d2, hdd2⟩ : ∃ d2 : ByteArray, dd ++ dd = d2 := ⟨_, rfl⟩
                have hd2l : d2.data.toList = dd.data.toList ++ dd.data.toList := by rw [← hdd2]; simp
                have hd2s : d2.size = 2 * (k + 3) := by rw [← St.len_list, hd2l]; simp [hds]; omega
                have hsp := fun W => xsplit_any d2 W (by omega)
                have HSP := hid hsp
                clear hsp hdl hd2l hkl
                go_wp2_with fail
                refine (HSP.out _).mono ?_
                rintro e w4 ⟨A4, c4, rfl, hpa, h41, h42, hu4⟩
                have HU4 := hid (HU.out.trans hu4)
                clear hpa hu4
                go_wp2_with fail
                refine (xknown_any _).mono ?_
                rintro e w5 ⟨rfl, hu5⟩
                have HU5 := hid (HU4.out.trans hu5)
                clear hu5
                go_wp2
                go_ret
                exact ⟨rfl, HU5.out⟩
            by_cases o32 : c.toNat = 32
            · have o322 : 32 ≤ c.toNat ∧ c.toNat ≤ 32 := by omega
              clear o32
              have e10 : ((c.toNat : Int) == 10) = false := beq_eq_false_iff_ne.2 (by omega)
              have e61 : ((c.toNat : Int) == 61) = false := beq_eq_false_iff_ne.2 (by omega)
              have e35 : ((c.toNat : Int) == 35) = false := beq_eq_false_iff_ne.2 (by omega)
              have e32 : ((c.toNat : Int) == 32) = true := beq_iff_eq.2 (by omega)
              cases tw
              · have y1 : ¬ 9223372036854775807 < kd.size + 3 := by omega
                obtain ⟨dd, hdd⟩ : ∃ dd : ByteArray, kd ++ (⟨#[61, 118, 10]⟩ : ByteArray) = dd := ⟨_, rfl⟩
                have hdl : dd.data.toList = kd.data.toList ++ [61, 118, 10] := by rw [← hdd]; simp
                have hds : dd.size = k + 3 := by rw [← St.len_list, hdl]; simp [hks]
                have hsp := fun W => xsplit_any dd W (by omega)
                have HSP := hid hsp
                clear hsp hdl hkl
                go_wp2_with fail
                refine (HSP.out _).mono ?_
                rintro e w4 ⟨A4, c4, rfl, hpa, h41, h42, hu4⟩
                have HU4 := hid (HU.out.trans hu4)
                clear hpa hu4
                go_wp2_with fail
                refine (xknown_any _).mono ?_
                rintro e w5 ⟨rfl, hu5⟩
                have HU5 := hid (HU4.out.trans hu5)
                clear hu5
                go_wp2
                go_ret
                exact ⟨rfl, HU5.out⟩
              · have y1 : ¬ 9223372036854775807 < kd.size + 3 := by omega
                obtain ⟨dd, hdd⟩ : ∃ dd : ByteArray, kd ++ (⟨#[61, 118, 10]⟩ : ByteArray) = dd := ⟨_, rfl⟩
                have hdl : dd.data.toList = kd.data.toList ++ [61, 118, 10] := by rw [← hdd]; simp
                have hds : dd.size = k + 3 := by rw [← St.len_list, hdl]; simp [hks]
                have y2 : ¬ 9223372036854775807 < dd.size + dd.size := by omega
                obtain ⟨d2, hdd2⟩ : ∃ d2 : ByteArray, dd ++ dd = d2 := ⟨_, rfl⟩
                have hd2l : d2.data.toList = dd.data.toList ++ dd.data.toList := by rw [← hdd2]; simp
                have hd2s : d2.size = 2 * (k + 3) := by rw [← St.len_list, hd2l]; simp [hds]; omega
                have hsp := fun W => xsplit_any d2 W (by omega)
                have HSP := hid hsp
                clear hsp hdl hd2l hkl
                go_wp2_with fail
                refine (HSP.out _).mono ?_
                rintro e w4 ⟨A4, c4, rfl, hpa, h41, h42, hu4⟩
                have HU4 := hid (HU.out.trans hu4)
                clear hpa hu4
                go_wp2_with fail
                refine (xknown_any _).mono ?_
                rintro e w5 ⟨rfl, hu5⟩
                have HU5 := hid (HU4.out.trans hu5)
                clear hu5
                go_wp2
                go_ret
                exact ⟨rfl, HU5.out⟩
            by_cases o9 : c.toNat = 9
            · have o92 : 9 ≤ c.toNat ∧ c.toNat ≤ 9 := by omega
              clear o9
              have e10 : ((c.toNat : Int) == 10) = false := beq_eq_false_iff_ne.2 (by omega)
              have e61 : ((c.toNat : Int) == 61) = false := beq_eq_false_iff_ne.2 (by omega)
              have e35 : ((c.toNat : Int) == 35) = false := beq_eq_false_iff_ne.2 (by omega)
              have e32 : ((c.toNat : Int) == 32) = false := beq_eq_false_iff_ne.2 (by omega)
              have e9 : ((c.toNat : Int) == 9) = true := beq_iff_eq.2 (by omega)
              cases tw
              · have y1 : ¬ 9223372036854775807 < kd.size + 3 := by omega
                obtain ⟨dd, hdd⟩ : ∃ dd : ByteArray, kd ++ (⟨#[61, 118, 10]⟩ : ByteArray) = dd := ⟨_, rfl⟩
                have hdl : dd.data.toList = kd.data.toList ++ [61, 118, 10] := by rw [← hdd]; simp
                have hds : dd.size = k + 3 := by rw [← St.len_list, hdl]; simp [hks]
                have hsp := fun W => xsplit_any dd W (by omega)
                have HSP := hid hsp
                clear hsp hdl hkl
                go_wp2_with fail
                refine (HSP.out _).mono ?_
                rintro e w4 ⟨A4, c4, rfl, hpa, h41, h42, hu4⟩
                have HU4 := hid (HU.out.trans hu4)
                clear hpa hu4
                go_wp2_with fail
                refine (xknown_any _).mono ?_
                rintro e w5 ⟨rfl, hu5⟩
                have HU5 := hid (HU4.out.trans hu5)
                clear hu5
                go_wp2
                go_ret
                exact ⟨rfl, HU5.out⟩
              · have y1 : ¬ 9223372036854775807 < kd.size + 3 := by omega
                obtain ⟨dd, hdd⟩ : ∃ dd : ByteArray, kd ++ (⟨#[61, 118, 10]⟩ : ByteArray) = dd := ⟨_, rfl⟩
                have hdl : dd.data.toList = kd.data.toList ++ [61, 118, 10] := by rw [← hdd]; simp
                have hds : dd.size = k + 3 := by rw [← St.len_list, hdl]; simp [hks]
                have y2 : ¬ 9223372036854775807 < dd.size + dd.size := by omega
                obtain ⟨d2, hdd2⟩ : ∃ d2 : ByteArray, dd ++ dd = d2 := ⟨_, rfl⟩
                have hd2l : d2.data.toList = dd.data.toList ++ dd.data.toList := by rw [← hdd2]; simp
                have hd2s : d2.size = 2 * (k + 3) := by rw [← St.len_list, hd2l]; simp [hds]; omega
                have hsp := fun W => xsplit_any d2 W (by omega)
                have HSP := hid hsp
                clear hsp hdl hd2l hkl
                go_wp2_with fail
                refine (HSP.out _).mono ?_
                rintro e w4 ⟨A4, c4, rfl, hpa, h41, h42, hu4⟩
                have HU4 := hid (HU.out.trans hu4)
                clear hpa hu4
                go_wp2_with fail
                refine (xknown_any _).mono ?_
                rintro e w5 ⟨rfl, hu5⟩
                have HU5 := hid (HU4.out.trans hu5)
                clear hu5
                go_wp2
                go_ret
                exact ⟨rfl, HU5.out⟩
            have e10 : ((c.toNat : Int) == 10) = false := beq_eq_false_iff_ne.2 (by omega)
            have e61 : ((c.toNat : Int) == 61) = false := beq_eq_false_iff_ne.2 (by omega)
            have e35 : ((c.toNat : Int) == 35) = false := beq_eq_false_iff_ne.2 (by omega)
            have e32 : ((c.toNat : Int) == 32) = false := beq_eq_false_iff_ne.2 (by omega)
            have e9 : ((c.toNat : Int) == 9) = false := beq_eq_false_iff_ne.2 (by omega)
            have hno : ¬ outC c := by unfold outC; omega
            by_cases h64 : 64 < k
            · have z2 : (64 : Int) < (k : Int) := by omega
              cases tw
              · have y1 : ¬ 9223372036854775807 < kd.size + 3 := by omega
                obtain ⟨dd, hdd⟩ : ∃ dd : ByteArray, kd ++ (⟨#[61, 118, 10]⟩ : ByteArray) = dd := ⟨_, rfl⟩
                have hdl : dd.data.toList = kd.data.toList ++ [61, 118, 10] := by rw [← hdd]; simp
                have hds : dd.size = k + 3 := by rw [← St.len_list, hdl]; simp [hks]
                have hr := keys_bad (R := ⟨#[118, 10]⟩) hkl (by omega) (by exact hdl) (by decide) (.inl ⟨hkc, hno⟩)
                have hsp := fun W => xsplit_any dd W (by omega)
                rw [hr] at hsp
                clear hr
                have HSP := hid hsp
                clear hsp hdl hkl
                go_wp2_with fail
                refine (HSP.out _).mono ?_
                rintro e w4 ⟨A4, c4, rfl, hpa, h41, h42, hu4⟩
                have HU4 := hid (HU.out.trans hu4)
                clear hpa hu4
                go_wp2_with fail
                refine (xknown_any _).mono ?_
                rintro e w5 ⟨rfl, hu5⟩
                have HU5 := hid (HU4.out.trans hu5)
                clear hu5
                go_wp2
                go_ret
                exact ⟨rfl, HU5.out⟩
              · have y1 : ¬ 9223372036854775807 < kd.size + 3 := by omega
                obtain ⟨dd, hdd⟩ : ∃ dd : ByteArray, kd ++ (⟨#[61, 118, 10]⟩ : ByteArray) = dd := ⟨_, rfl⟩
                have hdl : dd.data.toList = kd.data.toList ++ [61, 118, 10] := by rw [← hdd]; simp
                have hds : dd.size = k + 3 := by rw [← St.len_list, hdl]; simp [hks]
                have y2 : ¬ 9223372036854775807 < dd.size + dd.size := by omega
                obtain ⟨d2, hdd2⟩ : ∃ d2 : ByteArray, dd ++ dd = d2 := ⟨_, rfl⟩
                have hd2l : d2.data.toList = dd.data.toList ++ dd.data.toList := by rw [← hdd2]; simp
                have hd2s : d2.size = 2 * (k + 3) := by rw [← St.len_list, hd2l]; simp [hds]; omega
                have hr := keys_bad (R := (⟨#[118, 10]⟩ : ByteArray) ++ dd) hkl (by omega) (by rw [hd2l]; exact (congrArg (· ++ dd.data.toList) hdl).trans (by simp)) (by rw [ByteArray.size_append]; show 2 + _ ≤ _; omega) (.inl ⟨hkc, hno⟩)
                have hsp := fun W => xsplit_any d2 W (by omega)
                rw [hr] at hsp
                clear hr
                have HSP := hid hsp
                clear hsp hdl hd2l hkl
                go_wp2_with fail
                refine (HSP.out _).mono ?_
                rintro e w4 ⟨A4, c4, rfl, hpa, h41, h42, hu4⟩
                have HU4 := hid (HU.out.trans hu4)
                clear hpa hu4
                go_wp2_with fail
                refine (xknown_any _).mono ?_
                rintro e w5 ⟨rfl, hu5⟩
                have HU5 := hid (HU4.out.trans hu5)
                clear hu5
                go_wp2
                go_ret
                exact ⟨rfl, HU5.out⟩
            · have z2 : ¬ (64 : Int) < (k : Int) := by omega
              cases tw
              · have y1 : ¬ 9223372036854775807 < kd.size + 3 := by omega
                obtain ⟨dd, hdd⟩ : ∃ dd : ByteArray, kd ++ (⟨#[61, 118, 10]⟩ : ByteArray) = dd := ⟨_, rfl⟩
                have hdl : dd.data.toList = kd.data.toList ++ [61, 118, 10] := by rw [← hdd]; simp
                have hds : dd.size = k + 3 := by rw [← St.len_list, hdl]; simp [hks]
                have hr := keys_bad (R := ⟨#[118, 10]⟩) hkl (by omega) (by exact hdl) (by decide) (.inl ⟨hkc, hno⟩)
                have hsp := fun W => xsplit_any dd W (by omega)
                rw [hr] at hsp
                clear hr
                have HSP := hid hsp
                clear hsp hdl hkl
                go_wp2_with fail
                refine (HSP.out _).mono ?_
                rintro e w4 ⟨A4, c4, rfl, hpa, h41, h42, hu4⟩
                have HU4 := hid (HU.out.trans hu4)
                clear hpa hu4
                go_wp2_with fail
                refine (xknown_any _).mono ?_
                rintro e w5 ⟨rfl, hu5⟩
                have HU5 := hid (HU4.out.trans hu5)
                clear hu5
                go_wp2
                go_ret
                exact ⟨rfl, HU5.out⟩
              · have y1 : ¬ 9223372036854775807 < kd.size + 3 := by omega
                obtain ⟨dd, hdd⟩ : ∃ dd : ByteArray, kd ++ (⟨#[61, 118, 10]⟩ : ByteArray) = dd := ⟨_, rfl⟩
                have hdl : dd.data.toList = kd.data.toList ++ [61, 118, 10] := by rw [← hdd]; simp
                have hds : dd.size = k + 3 := by rw [← St.len_list, hdl]; simp [hks]
                have y2 : ¬ 9223372036854775807 < dd.size + dd.size := by omega
                obtain ⟨d2, hdd2⟩ : ∃ d2 : ByteArray, dd ++ dd = d2 := ⟨_, rfl⟩
                have hd2l : d2.data.toList = dd.data.toList ++ dd.data.toList := by rw [← hdd2]; simp
                have hd2s : d2.size = 2 * (k + 3) := by rw [← St.len_list, hd2l]; simp [hds]; omega
                have hr := keys_bad (R := (⟨#[118, 10]⟩ : ByteArray) ++ dd) hkl (by omega) (by rw [hd2l]; exact (congrArg (· ++ dd.data.toList) hdl).trans (by simp)) (by rw [ByteArray.size_append]; show 2 + _ ≤ _; omega) (.inl ⟨hkc, hno⟩)
                have hsp := fun W => xsplit_any d2 W (by omega)
                rw [hr] at hsp
                clear hr
                have HSP := hid hsp
                clear hsp hdl hd2l hkl
                go_wp2_with fail
                refine (HSP.out _).mono ?_
                rintro e w4 ⟨A4, c4, rfl, hpa, h41, h42, hu4⟩
                have HU4 := hid (HU.out.trans hu4)
                clear hpa hu4
                go_wp2_with fail
                refine (xknown_any _).mono ?_
                rintro e w5 ⟨rfl, hu5⟩
                have HU5 := hid (HU4.out.trans hu5)
                clear hu5
                go_wp2
                go_ret
                exact ⟨rfl, HU5.out⟩
theorem keyslaw_int (n m : Int) (tw : Bool) (w : World) (hm : 0 ≤ m ∧ m ≤ 255) : Calls Tryd.prog 3 #[.int .i64 n, .int .u8 m, .bool tw] w fun e w' => e = .returned (.bool true) ∧ Und w w' := by
  have h := keyslaw_any n (UInt8.ofNat m.toNat) tw w
  have e : ((UInt8.ofNat m.toNat).toNat : Int) = m := by rw [UInt8.toNat_ofNat_of_lt' (by show m.toNat < 256; omega)]; omega
  rw [e] at h
  exact h
end Go.Proofs.YtpahkhmheikebaaDoor
