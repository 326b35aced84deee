/- The text of users, and the contract of the reference's FormatUsers for any list of users. Conditions: the list is one that memory can hold. -/
import Derived.Test.YthgmlkeojhfijaaDoorRoleSame
import Derived.Test.YthgmlkeojhfijaaDoorRefDec
import Derived.Deep.RegionWith
namespace Go.Proofs.YthgmlkeojhfijaaDoor
open Go.RowKit

def fmtDocs (ds : List Int) : List UInt8 := ds.flatMap fun d => 32 :: Lib.decDigits d.toNat
def roleW (r : Int) : List UInt8 := if r = 1 then Ln.wReader else if r = 2 then Ln.wTranslator else if r = 3 then Ln.wReviewer else Ln.wManager
def fmtU (u : UserD) : List UInt8 := u.1.data.toList ++ 32 :: (roleW u.2.1 ++ (fmtDocs u.2.2 ++ [10]))
def fmtL (us : List UserD) : List UInt8 := us.flatMap fmtU
def GoodU (u : UserD) : Prop := u.1.size ≤ 24 ∧ 1 ≤ u.2.1 ∧ u.2.1 ≤ 4 ∧ u.2.2.length ≤ 16 ∧ DocsOk u.2.2

theorem userE_good {ns : List ByteArray} {u : UserD} (h : userE ns u.1 u.2.1 u.2.2 = 0) : GoodU u := by
  unfold userE at h
  split at h
  · cases h
  · rename_i h1
    split at h
    · cases h
    · split at h
      · cases h
      · rename_i h3
        split at h
        · rename_i h4
          refine ⟨?_, by omega, by omega, by omega, h4⟩
          rcases Nat.lt_or_ge 24 u.1.size with h | h
          · exact absurd (St.name_long _ h) h1
          · exact h
        · cases h
theorem valRest_good : ∀ (us : List UserD) (pre : List ByteArray), valRest pre us = 0 → ∀ u ∈ us, GoodU u
  | [], _, _, u, hu => by cases hu
  | x :: us, pre, h, u, hu => by
    unfold valRest at h
    split at h
    · rename_i h0
      rcases List.mem_cons.1 hu with rfl | hu
      · exact userE_good h0
      · exact valRest_good us _ h u hu
    · rename_i h0; exact absurd h h0
theorem valid_good {us : List UserD} (h : validE us = 0) : us.length ≤ 32 ∧ ∀ u ∈ us, GoodU u := by
  unfold validE at h
  split at h
  · cases h
  · exact ⟨by omega, valRest_good us [] h⟩

theorem Decimal_any (n : Nat) (w : World) (hn : n ≤ 4611686018427387904) : Calls Tryd.prog 32 #[.int .i64 n] w fun e w' => e = .returned (.string ⟨(Lib.decDigits n).toArray⟩) ∧ Und w w' := by
  have h0 : ¬ (n : Int) < 0 := by omega
  go_enter Tryd.func32, Tryd.ntmps32
  go_wp2_with (go_at_call 45; refine (decimal_any n _ hn).mono ?_; rintro e w' ⟨rfl, X, rfl⟩)
  go_ret
  exact ⟨rfl, (by repeat (first | exact Und.refl _ | assumption | refine Und.under ?_ _ | refine Und.alloc ?_ _ | refine Und.drew ?_ | refine Und.drewN ?_ _))⟩

theorem bs_eq (t : ByteArray) (l : List UInt8) (h : t.data.toList = l) : t = ⟨l.toArray⟩ := bytes_ext _ _ (by simpa using h)
theorem role_cell (q : Nat) (hq : q < 4) (W : World) : ∃ rb : ByteArray, (W.alloc (.cells #[.string sReader, .string sTranslator, .string sReviewer, .string sManager] 9)).cell? ⟨W.heap.size, q, none⟩ = some (.string rb) ∧ rb.data.toList = roleW ((q : Int) + 1) ∧ rb.size ≤ 10 := by
  rcases (show q = 0 ∨ q = 1 ∨ q = 2 ∨ q = 3 by omega) with rfl | rfl | rfl | rfl
  · exact ⟨sReader, by go_simp, rfl, by show 6 ≤ 10; omega⟩
  · exact ⟨sTranslator, by go_simp, rfl, by show 10 ≤ 10; omega⟩
  · exact ⟨sReviewer, by go_simp, rfl, by show 8 ≤ 10; omega⟩
  · exact ⟨sManager, by go_simp, rfl, by show 7 ≤ 10; omega⟩
def CutF (w : World) (l : List UInt8) (B : Nat) (s5 : Value) (wx : World) : Prop := ∃ t : ByteArray, s5 = .string t ∧ t.data.toList = l ∧ t.size ≤ B ∧ Und w wx
def FoRel (w : World) (us : List UserD) (s5 s17 : Value) (wr : World) : Prop := ∃ (k : Nat) (t : ByteArray), k ≤ us.length ∧ s17 = .int .i64 k ∧ s5 = .string t ∧ t.data.toList = fmtL (us.take k) ∧ t.size ≤ 200 * k ∧ Und w wr
def FiRel (w : World) (l : List UInt8) (B : Nat) (ds : List Int) (s5 s36 : Value) (wr : World) : Prop := ∃ (k : Nat) (t : ByteArray), k ≤ ds.length ∧ s36 = .int .i64 k ∧ s5 = .string t ∧ t.data.toList = l ++ fmtDocs (ds.take k) ∧ t.size ≤ B + 8 * k ∧ Und w wr
theorem size_app (a b : ByteArray) : (a ++ b).size = a.size + b.size := ByteArray.size_append
theorem dec_len (z : Nat) (h : z < 100) : (Lib.decDigits z).length ≤ 2 := by
  by_cases h10 : z < 10
  · rw [Ln.dec1 z h10]; simp
  · rw [Ln.dec2 z h10 h]; simp
theorem Decimal_sm (z : Nat) (w : World) (hz : z < 100) : Calls Tryd.prog 32 #[.int .i64 z] w fun e w' => ∃ y : ByteArray, e = .returned (.string y) ∧ y.data.toList = Lib.decDigits z ∧ y.size ≤ 2 ∧ Und w w' :=
  (Decimal_any z w (by omega)).mono fun e w' ⟨he, hu⟩ => ⟨_, he, by simp, by show (Lib.decDigits z).toArray.size ≤ 2; simpa using dec_len z hz, hu⟩
theorem fmt_docs_snoc (ds : List Int) (k : Nat) (h : k < ds.length) : fmtDocs (ds.take (k + 1)) = fmtDocs (ds.take k) ++ 32 :: Lib.decDigits (ds.getD k 0).toNat := by
  unfold fmtDocs
  rw [List.take_add_one, List.getElem?_eq_getElem h, List.flatMap_append, List.getD_eq_getElem?_getD, List.getElem?_eq_getElem h]
  simp
theorem fmt_snoc (us : List UserD) (k : Nat) (h : k < us.length) : fmtL (us.take (k + 1)) = fmtL (us.take k) ++ fmtU us[k] := by
  unfold fmtL
  rw [List.take_add_one, List.getElem?_eq_getElem h, List.flatMap_append]
  simp

set_option maxHeartbeats 6400000 in
theorem rformat_bad (A : Option Addr) (n c : Nat) (us : List UserD) (w : World) (hn : us.length = n) (hnc : n ≤ c) (hc63 : c ≤ 9223372036854775807) (h : UsersAt w A us) (hv : ¬ validE us = 0) :
    Calls Tryd.prog 18 #[.slice A n c] w fun e w' => e = .returned (.tuple #[.string ⟨#[]⟩, .int .i64 (validE us)]) ∧ Und w w' := by
  have hr := fun W hU => rvalidate_any A n c us W hn hnc hc63 hU
  generalize validE us = e at hr hv
  have HR := hid hr
  have H := hid h
  have hvb : (e == 0) = false := by simpa using hv
  clear hr h
  go_enter Tryd.func18, Tryd.ntmps18
  go_wp2_with fail
  refine (HR.out _ H.out).mono ?_
  rintro e w' ⟨rfl, X, rfl⟩
  go_wp2
  go_ret2
  exact ⟨rfl, (by repeat (first | exact Und.refl _ | assumption | refine Und.under ?_ _ | refine Und.alloc ?_ _ | refine Und.drew ?_ | refine Und.drewN ?_ _))⟩

set_option maxRecDepth 20000 in
set_option maxHeartbeats 6400000 in
theorem rformat_ok (A : Option Addr) (n c : Nat) (us : List UserD) (w : World) (hn : us.length = n) (hnc : n ≤ c) (hc63 : c ≤ 9223372036854775807) (h : UsersAt w A us) (hv : validE us = 0) :
    Calls Tryd.prog 18 #[.slice A n c] w fun e w' => e = .returned (.tuple #[.string ⟨(fmtL us).toArray⟩, .int .i64 0]) ∧ Und w w' ∧ (fmtL us).length ≤ 6400 := by
  have hr := fun W hU => rvalidate_any A n c us W hn hnc hc63 hU
  obtain ⟨h32, hg⟩ := valid_good hv
  rw [hv] at hr
  have HR := hid hr
  have H := hid h
  have HG := hid hg
  have HN := hid hn
  clear hr h hg hn
  go_enter Tryd.func18, Tryd.ntmps18
  go_wp2_with fail
  refine (HR.out _ H.out).mono ?_
  rintro e w' ⟨rfl, X, rfl⟩
  go_wp2
  go_loopw [5, 17] (fun s5 s17 wr => FoRel w us s5 s17 wr) (fun _ s17 _ => n + 1 - (intOf s17).toNat)
  case atStart => exact ⟨0, ⟨#[]⟩, by omega, rfl, rfl, rfl, by show 0 ≤ _; omega, (by repeat (first | exact Und.refl _ | assumption | refine Und.under ?_ _ | refine Und.alloc ?_ _ | refine Und.drew ?_ | refine Und.drewN ?_ _))⟩
  case round =>
    obtain ⟨k, t0, hk, rfl, rfl, ht0, hts, hu⟩ := hrel
    have HU := hid hu
    have HT0 := hid ht0
    clear hu ht0
    by_cases hlt : k < n
    · have hlt2 : k < us.length := by rw [HN.out]; exact hlt
      obtain ⟨b, o, rfl, hb, hc⟩ := (H.out.und HU.out) (by omega)
      obtain ⟨D, d, h1, h2, h3, h4, h5, h6⟩ := hc k hlt2
      have hg := HG.out us[k] (List.getElem_mem hlt2)
      have hsn := fmt_snoc us k hlt2
      generalize us[k] = u at h1 h2 h3 h4 h5 h6 hg hsn
      obtain ⟨nm, r, zs⟩ := u
      obtain ⟨hn24, r1, r4, hz16, hok⟩ := hg
      simp only at h1 h2 h3 h4 h5 h6 hn24 r1 r4 hz16 hok
      have H4 := hid h4
      have HOK := hid hok
      have HSN := hid hsn
      haveI : LtW b wr := LtW.of hb
      have hk32 : k < 32 := by omega
      generalize hzl : zs.length = m at h3 h6 hz16
      have HZL := hid hzl
      clear hc h4 hok hsn hlt2 hzl
      obtain ⟨wo, rfl⟩ : ∃ wo : World, wo = wr := ⟨_, rfl⟩
      go_wp2_with fail
      go_cut [5] from 18 to 47 (fun s5 wx => CutF (wo.alloc (.cells #[.string nm, .int .i64 r, .slice D m d] 40)) (fmtL (us.take k) ++ nm.data.toList ++ 32 :: roleW r) (200 * k + 40) s5 wx)
      case first =>
        obtain ⟨q, rfl⟩ : ∃ q : Nat, r = (q : Int) + 1 := ⟨(r - 1).toNat, by omega⟩
        have hq4 : q < 4 := by omega
        have hrw := role_cell q hq4 (wo.alloc (.cells #[.string nm, .int .i64 ((q : Int) + 1), .slice D m d] 40))
        obtain ⟨rb, hrb, hrl, hrs⟩ := hrw
        have hrb' : ((wo.alloc (.cells #[.string nm, .int .i64 ((q : Int) + 1), .slice D m d] 40)).alloc (.cells #[.string sReader, .string sTranslator, .string sReviewer, .string sManager] 9)).cell? ⟨wo.heap.size + 1, q, none⟩ = some (.string rb) := by simpa using hrb
        have HRL := hid hrl
        have hw8 : IntKind.i64.wrap (q : Int) = (q : Int) := IntWalk.i64_in _ (by omega)
        have hw9 : IntKind.i64.wrap ((q : Int) + 1 - 1) = (q : Int) := by rw [show (q : Int) + 1 - 1 = q by omega]; exact hw8
        have hq5 : (q : Int) < 4 := by omega
        clear hrb hrl
        go_region_with (go_at_call 31; refine (refroles_any _).mono ?_; rintro e w' ⟨rfl, rfl⟩)
        all_goals
          go_wp2_with fail
          go_meet
          refine ⟨_, rfl, ?_, ?_, (by repeat (first | exact Und.refl _ | assumption | refine Und.under ?_ _ | refine Und.alloc ?_ _ | refine Und.drew ?_ | refine Und.drewN ?_ _))⟩
          · rw [← HT0.out, ← HRL.out]; simp
          · rw [size_app, size_app, size_app]
            have e1 : (⟨#[32]⟩ : ByteArray).size = 1 := rfl
            clear hw8 hw9
            omega
      case rest =>
        obtain ⟨t1, rfl, ht1, hts1, hu⟩ := hcut
        have g0 := (hu.cell (p := ⟨wo.heap.size, 2, none⟩) (by simp)).trans (show (wo.alloc (.cells #[.string nm, .int .i64 r, .slice D m d] 40)).cell? ⟨wo.heap.size, 2, none⟩ = some (.slice D m d) by go_simp)
        have hwu : Und wo wc := ((by repeat (first | exact Und.refl _ | assumption | refine Und.under ?_ _ | refine Und.alloc ?_ _ | refine Und.drew ?_ | refine Und.drewN ?_ _)) : Und wo (wo.alloc (.cells #[.string nm, .int .i64 r, .slice D m d] 40))).trans hu
        have HWU := hid hwu
        have H5 := hid (H4.out.und hwu)
        have hUl : wo.heap.size < wc.heap.size := World.block_lt_of_cell? _ _ g0
        haveI : LtW wo.heap.size wc := LtW.of hUl
        generalize hl1 : fmtL (us.take k) ++ nm.data.toList ++ 32 :: roleW r = l1 at ht1
        have HL1 := hid hl1
        have HT1 := hid ht1
        clear hu hwu h1 h2 h3 hl1 ht1
        go_wp2_with fail
        go_loopw [5, 36] (fun s5 s36 wi => FiRel wc l1 (200 * k + 40) zs s5 s36 wi) (fun _ s36 _ => m + 1 - (intOf s36).toNat)
        case atStart => exact ⟨0, t1, by omega, rfl, rfl, by rw [HT1.out]; simp [fmtDocs], by omega, Und.refl _⟩
        case round =>
          obtain ⟨j, t2, hj, rfl, rfl, ht2, hts2, hu⟩ := hrel
          have HU2 := hid hu
          have HT2 := hid ht2
          have hj16 : j ≤ 16 := by have := HZL.out; omega
          clear hu ht2
          by_cases hjl : j < m
          · obtain ⟨x, p, rfl, hx, hxc⟩ := (H5.out.und HU2.out) (by have := HZL.out; omega)
            have e1 := hxc j (by have := HZL.out; omega)
            have hsn := fmt_docs_snoc zs j (by have := HZL.out; omega)
            have hz := HOK.out j (by have := HZL.out; omega)
            generalize zs.getD j 0 = z at e1 hsn hz
            obtain ⟨z0, z1, _⟩ := hz
            obtain ⟨z, rfl⟩ : ∃ z' : Nat, z = z' := ⟨z.toNat, by omega⟩
            haveI : LtW x wr := LtW.of hx
            have hdc := fun W => Decimal_sm z W (by omega)
            have HDC := hid hdc
            have HSN2 := hid hsn
            clear hxc hsn hdc
            go_wp2_with fail
            refine (HDC.out _).mono ?_
            rintro e w' ⟨y, rfl, hy, hys, X2, rfl⟩
            have HY := hid hy
            clear hy
            go_wp2
            refine ⟨⟨j + 1, _, by have := HZL.out; omega, rfl, rfl, ?_, ?_, HU2.out.trans (by repeat (first | exact Und.refl _ | assumption | refine Und.under ?_ _ | refine Und.alloc ?_ _ | refine Und.drew ?_ | refine Und.drewN ?_ _))⟩, by simp [intOf]; omega⟩
            · rw [HSN2.out]; simp [HT2.out, HY.out]
            · rw [size_app, size_app]
              have e1 : (⟨#[32]⟩ : ByteArray).size = 1 := rfl
              omega
          · have hjm : j = m := by have := HZL.out; omega
            have hlast : fmtDocs (zs.take j) = fmtDocs zs := by rw [List.take_of_length_le (by have := HZL.out; omega)]
            have HLA := hid hlast
            subst hjm
            clear hjl hlast
            go_wp2
            refine ⟨⟨k + 1, _, by have := HN.out; omega, rfl, rfl, ?_, ?_, HU.out.trans (HWU.out.trans HU2.out)⟩, by simp [intOf]; omega⟩
            · rw [HSN.out]; simp [HT2.out, HLA.out, fmtU, ← HL1.out]
            · rw [size_app]
              have e1 : (⟨#[10]⟩ : ByteArray).size = 1 := rfl
              omega
    · have hkn : k = n := by have := HN.out; omega
      subst hkn
      clear hlt
      have hlast : us.take k = us := List.take_of_length_le (by have := HN.out; omega)
      have HLA := hid hlast
      clear hlast
      go_wp2
      go_ret2
      have hb := bs_eq t0 _ (HT0.out.trans (congrArg fmtL HLA.out))
      subst hb
      exact ⟨rfl, HU.out, by have h : (fmtL us).toArray.size ≤ 200 * k := hts
                             simp at h; omega⟩
end Go.Proofs.YthgmlkeojhfijaaDoor
