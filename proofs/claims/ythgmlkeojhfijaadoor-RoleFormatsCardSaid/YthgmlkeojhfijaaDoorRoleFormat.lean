/- The contract of role's Format: the text of valid users. Conditions: the list lies in memory, and the library's own table too. -/
import Derived.Test.YthgmlkeojhfijaaDoorRoleFmt
import Derived.Test.YthgmlkeojhfijaaDoorSBuild
import Derived.Test.YthgmlkeojhfijaaDoorRoleMany
namespace Go.Proofs.YthgmlkeojhfijaaDoor
open Go.RowKit

theorem Itoa_sm (z : Nat) (w : World) (hz : z < 100) (t : Tab w) : Calls Tryd.prog 38 #[.int .i64 z] w fun e w' => ∃ y : ByteArray, e = .returned (.string y) ∧ y.data.toList = Lib.decDigits z ∧ y.size ≤ 2 ∧ Und w w' := by
  refine (itoa_all z w (by omega) (by omega) t).mono ?_
  rintro e w' ⟨rfl, hu⟩
  have hz0 : Lib.itoa (z : Int) = Lib.decDigits z := by simp [Lib.itoa]
  rw [hz0]
  exact ⟨_, rfl, by simp, by show (Lib.decDigits z).toArray.size ≤ 2; simpa using dec_len z hz, hu⟩
theorem Tab.und' {w w' : World} (h : Tab w) (u : Und w w') : Tab w' := h.und u

theorem format_bad (A : Option Addr) (n c : Nat) (us : List UserD) (w : World) (hn : us.length = n) (hnc : n ≤ c) (hc63 : c ≤ 9223372036854775807) (h : UsersAt w A us) (hv : ¬ validE us = 0) :
    Calls Tryd.prog 22 #[.slice A n c] w fun e w' => e = .returned (.tuple #[.string ⟨#[]⟩, .int .i64 (validE us)]) ∧ Und w w' := by
  have hr := fun W hU => validate_any A n c us W hn hnc hc63 hU
  generalize validE us = e at hr hv
  have HR := hid hr
  have H := hid h
  have hvb : (e == 0) = false := by simpa using hv
  clear hr h
  go_enter Tryd.func22, Tryd.ntmps22
  go_wp2_with fail
  refine (HR.out _ H.out).mono ?_
  rintro e w' ⟨rfl, X, rfl⟩
  go_wp2
  go_ret2
  exact ⟨rfl, (by repeat (first | exact Und.refl _ | assumption | refine Und.under ?_ _ | refine Und.alloc ?_ _ | refine Und.drew ?_ | refine Und.drewN ?_ _))⟩

/-- The builder's block before a byte was written. -/
def SBNew (b : Nat) (w : World) : Prop := w.heap[b]? = some (.cells #[.pointer none, .slice none 0 0] 62 (0, 0))
def FpRel (wv : World) (us : List UserD) (s17 : Value) (wr : World) : Prop := ∃ k : Nat, k ≤ us.length ∧ s17 = .int .i64 k ∧ SB wv.heap.size wv.heap.size (fmtL (us.take k)) wr ∧ (fmtL (us.take k)).length ≤ 200 * k ∧ (k = 0 → SBNew wv.heap.size wr) ∧ Und wv wr
def CutP (wv w0 : World) (l : List UInt8) (wx : World) : Prop := SB wv.heap.size wv.heap.size l wx ∧ Und wv wx ∧ TKept sbT w0 wx
def FqRel (wv : World) (l : List UInt8) (ds : List Int) (s35 : Value) (wr : World) : Prop := ∃ k : Nat, k ≤ ds.length ∧ s35 = .int .i64 k ∧ (l ++ fmtDocs (ds.take k)).length ≤ l.length + 3 * k ∧ SB wv.heap.size wv.heap.size (l ++ fmtDocs (ds.take k)) wr ∧ Und wv wr

set_option maxRecDepth 20000 in
set_option maxHeartbeats 6400000 in
theorem format_ok (A : Option Addr) (n c : Nat) (us : List UserD) (w : World) (hn : us.length = n) (hnc : n ≤ c) (hc63 : c ≤ 9223372036854775807) (h : UsersAt w A us) (hv : validE us = 0) (ht : Tab w) :
    Calls Tryd.prog 22 #[.slice A n c] w fun e w' => e = .returned (.tuple #[.string ⟨(fmtL us).toArray⟩, .int .i64 0]) ∧ Und w w' := by
  have hr := fun W hU => validate_any A n c us W hn hnc hc63 hU
  obtain ⟨h32, hg⟩ := valid_good hv
  rw [hv] at hr
  have HR := hid hr
  have H0 := hid h
  have HT := hid ht
  have HG := hid hg
  have HN := hid hn
  clear hr h hg hn ht
  go_enter Tryd.func22, Tryd.ntmps22
  go_wp2_with fail
  refine (HR.out _ H0.out).mono ?_
  rintro e wv ⟨rfl, huv⟩
  have H := hid (H0.out.und huv)
  have HTV := hid (HT.out.und huv)
  have HUV := hid huv
  clear huv
  have hs0 := SB.fresh wv
  have hn0 : SBNew wv.heap.size (wv.alloc (.cells #[.pointer none, .slice none 0 0] 62)) := heap_alloc_new wv _
  have hu0 : Und wv (wv.alloc (.cells #[.pointer none, .slice none 0 0] 62)) := (by repeat (first | exact Und.refl _ | assumption | refine Und.under ?_ _ | refine Und.alloc ?_ _ | refine Und.drew ?_ | refine Und.drewN ?_ _))
  have HS0 := hid (And.intro hs0 (And.intro hn0 hu0))
  clear hs0 hn0 hu0
  go_wp2
  go_loopw [17] (fun s17 wr => FpRel wv us s17 wr) (fun s17 _ => n + 1 - (intOf s17).toNat)
  case atStart => exact ⟨0, by omega, rfl, HS0.out.1, by simp [fmtL], fun _ => HS0.out.2.1, HS0.out.2.2⟩
  case round =>
    clear HS0
    obtain ⟨k, hk, rfl, hsb, hl2, hnew, hu⟩ := hrel
    have HU := hid hu
    have HSB := hid hsb
    have HNEW := hid hnew
    have hsz : wv.heap.size ≤ wr.heap.size := hu.size
    clear hu hsb hnew
    by_cases hlt : k < n
    · have hlt2 : k < us.length := by rw [HN.out]; exact hlt
      obtain ⟨b, o, rfl, hb, hc⟩ := H.out (by omega)
      obtain ⟨D, d, h1, h2, h3, h4, h5, h6⟩ := hc k hlt2
      have hg := HG.out us[k] (List.getElem_mem hlt2)
      have hsn := fmt_snoc us k hlt2
      generalize us[k] = u at h1 h2 h3 h4 h5 h6 hg hsn
      obtain ⟨nm, r, zs⟩ := u
      obtain ⟨hn24, r1, r4, hz16, hok⟩ := hg
      simp only at h1 h2 h3 h4 h5 h6 hn24 r1 r4 hz16 hok
      have H4 := hid h4
      have HOK := hid hok
      have HSN := hid hsn
      have hbr : b < wr.heap.size := by omega
      haveI : LtW b wr := LtW.of hbr
      have hk32 : k < 32 := by omega
      have g1 := (HU.out.cell hb).trans h1
      have g2 := (HU.out.cell hb).trans h2
      have g3 := (HU.out.cell hb).trans h3
      generalize hzl : zs.length = m at g3 h3 h6 hz16
      have HZL := hid hzl
      clear hc h4 hok hsn hlt2 hzl h1 h2 h3
      obtain ⟨wo, rfl⟩ : ∃ wo : World, wo = wr := ⟨_, rfl⟩
      go_wp2_with fail
      go_cut [] from 18 to 31 (fun wx => CutP wv (wo.alloc (.cells #[.string nm, .int .i64 r, .slice D m d] 40)) (fmtL (us.take k) ++ nm.data.toList ++ 32 :: roleW r) wx)
      case first =>
        obtain ⟨q, rfl⟩ : ∃ q : Nat, r = (q : Int) + 1 := ⟨(r - 1).toNat, by omega⟩
        have hq4 : q < 4 := by omega
        have hrw := role_cell q hq4 (wo.alloc (.cells #[.string nm, .int .i64 ((q : Int) + 1), .slice D m d] 40))
        obtain ⟨rb, hrb, hrl, hrs⟩ := hrw
        have hrb' : ((wo.alloc (.cells #[.string nm, .int .i64 ((q : Int) + 1), .slice D m d] 40)).alloc (.cells #[.string sReader, .string sTranslator, .string sReviewer, .string sManager] 9)).cell? ⟨wo.heap.size + 1, q, none⟩ = some (.string rb) := by simpa using hrb
        have HRL := hid hrl
        have hw8 : IntKind.i64.wrap (q : Int) = (q : Int) := IntWalk.i64_in _ (by omega)
        have hw9 : IntKind.i64.wrap ((q : Int) + 1 - 1) = (q : Int) := by rw [show (q : Int) + 1 - 1 = q by omega]; exact hw8
        have hq5 : (q : Int) < 4 := by omega
        have hes : (nm ++ (⟨#[32]⟩ : ByteArray) ++ rb).size ≤ 40 := by
          rw [size_app, size_app]
          have e1 : (⟨#[32]⟩ : ByteArray).size = 1 := rfl
          clear hw8 hw9; omega
        have hws := hid (fun W (hW : Und wo W) => writeString_any wv.heap.size wv.heap.size (fmtL (us.take k)) (nm ++ (⟨#[32]⟩ : ByteArray) ++ rb) W (HSB.out.und hW) (by clear hw8 hw9; omega) (Nat.le_trans hsz hW.size))
        have hl0 : fmtL (us.take k) ++ (nm ++ (⟨#[32]⟩ : ByteArray) ++ rb).data.toList = fmtL (us.take k) ++ nm.data.toList ++ 32 :: roleW ((q : Int) + 1) := by rw [← HRL.out]; simp
        have HL0 := hid hl0
        clear hrb hrl hl0 hes
        go_region_with (first | (go_at_call 37; refine (roles_any _).mono ?_; rintro e w' ⟨rfl, rfl⟩) | (go_at_call 36; refine (hws.out _ (by repeat (first | exact Und.refl _ | assumption | refine Und.under ?_ _ | refine Und.alloc ?_ _ | refine Und.drew ?_ | refine Und.drewN ?_ _))).mono ?_; rintro e w' ⟨rfl, hs1, hb1, hk1⟩))
        all_goals
          go_wp2_with fail
          go_meet
          rw [HL0.out] at hs1
          refine ⟨hs1, Und.of_below (Below.trans (HU.out.trans (by repeat (first | exact Und.refl _ | assumption | refine Und.under ?_ _ | refine Und.alloc ?_ _ | refine Und.drew ?_ | refine Und.drewN ?_ _))).below hb1), (Und.tk (by repeat (first | exact Und.refl _ | assumption | refine Und.under ?_ _ | refine Und.alloc ?_ _ | refine Und.drew ?_ | refine Und.drewN ?_ _)) sbT).trans hk1⟩
      case rest =>
        obtain ⟨hs1, hu1, hk1⟩ := hcut
        have g0 := hk1.cell (heap_alloc_new wo (.cells #[.string nm, .int .i64 r, .slice D m d] 40)) (by simp [sbT]) 2
        simp only [List.getElem?_toArray, List.getElem?_cons_succ, List.getElem?_cons_zero] at g0
        have HU1 := hid hu1
        have HS1 := hid hs1
        have hrl : (roleW r).length ≤ 10 := by
          rcases (show r = 1 ∨ r = 2 ∨ r = 3 ∨ r = 4 by omega) with rfl | rfl | rfl | rfl <;> decide
        have hll : (fmtL (us.take k) ++ nm.data.toList ++ 32 :: roleW r).length ≤ 200 * k + 40 := by
          have : nm.data.toList.length = nm.size := by simp
          simp only [List.length_append, List.length_cons, this]; omega
        have hszc : wv.heap.size ≤ wc.heap.size := hu1.size
        have hUl : wo.heap.size < wc.heap.size := World.block_lt_of_cell? _ _ g0
        haveI : LtW wo.heap.size wc := LtW.of hUl
        generalize hl1 : fmtL (us.take k) ++ nm.data.toList ++ 32 :: roleW r = l1 at HS1 hll
        have HL1 := hid hl1
        clear hs1 hu1 hk1 hl1 g1 g2 g3
        go_wp2_with fail
        go_loopw [35] (fun s35 wi => FqRel wv l1 zs s35 wi) (fun s35 _ => m + 1 - (intOf s35).toNat)
        case atStart => exact ⟨0, by omega, rfl, by simp [fmtDocs], by simpa [fmtDocs] using HS1.out, HU1.out⟩
        case round =>
          obtain ⟨j, hj, rfl, hl3, hs2, hu2⟩ := hrel
          have HU2 := hid hu2
          have HS2 := hid hs2
          have hj16 : j ≤ 16 := by have := HZL.out; omega
          have hsz2 : wv.heap.size ≤ wr.heap.size := hu2.size
          clear hs2 hu2
          by_cases hjl : j < m
          · obtain ⟨x, p, rfl, hx, hxc⟩ := (H4.out.und HU2.out) (by have := HZL.out; omega)
            have e1 := hxc j (by have := HZL.out; omega)
            have hsn := fmt_docs_snoc zs j (by have := HZL.out; omega)
            have hz := HOK.out j (by have := HZL.out; omega)
            generalize zs.getD j 0 = z at e1 hsn hz
            obtain ⟨z0, z1, _⟩ := hz
            obtain ⟨z, rfl⟩ : ∃ z' : Nat, z = z' := ⟨z.toNat, by omega⟩
            haveI : LtW x wr := LtW.of hx
            have HDC := hid (Itoa_sm z wr (by omega) (HTV.out.und HU2.out))
            have HSN2 := hid hsn
            clear hxc hsn
            go_wp2_with fail
            refine HDC.out.mono ?_
            rintro e w' ⟨y, rfl, hy, hys, X2, rfl⟩
            have HY := hid hy
            have hes : ((⟨#[32]⟩ : ByteArray) ++ y).size ≤ 3 := by
              rw [size_app]
              have e1 : (⟨#[32]⟩ : ByteArray).size = 1 := rfl
              omega
            have hws := hid (writeString_any wv.heap.size wv.heap.size (l1 ++ fmtDocs (zs.take j)) ((⟨#[32]⟩ : ByteArray) ++ y) (under wr X2) (HS2.out.und (by repeat (first | exact Und.refl _ | assumption | refine Und.under ?_ _ | refine Und.alloc ?_ _ | refine Und.drew ?_ | refine Und.drewN ?_ _))) (by omega) (Nat.le_trans hsz2 (size_under wr X2)))
            clear hy
            go_wp2_with fail
            refine hws.out.mono ?_
            rintro e w3 ⟨rfl, hs3, hb3, hk3⟩
            have HS3 := hid hs3
            have HU3 := hid (Und.of_below (Below.trans (HU2.out.trans (by repeat (first | exact Und.refl _ | assumption | refine Und.under ?_ _ | refine Und.alloc ?_ _ | refine Und.drew ?_ | refine Und.drewN ?_ _))).below hb3))
            clear hs3 hb3 hk3
            go_wp2
            have hnl : l1 ++ fmtDocs (zs.take (j + 1)) = l1 ++ fmtDocs (zs.take j) ++ ((⟨#[32]⟩ : ByteArray) ++ y).data.toList := by rw [HSN2.out]; simp [HY.out]
            refine ⟨⟨j + 1, by have := HZL.out; omega, rfl, ?_, ?_, HU3.out⟩, by simp [intOf]; omega⟩
            · rw [hnl, List.length_append]
              have := St.len_list ((⟨#[32]⟩ : ByteArray) ++ y)
              omega
            · rw [hnl]; exact HS3.out
          · have hjm : j = m := by have := HZL.out; omega
            have hlast : fmtDocs (zs.take j) = fmtDocs zs := by rw [List.take_of_length_le (by have := HZL.out; omega)]
            have HLA := hid hlast
            have hws := hid (writeString_any wv.heap.size wv.heap.size (l1 ++ fmtDocs (zs.take j)) (⟨#[10]⟩ : ByteArray) wr HS2.out (by have e1 : (⟨#[10]⟩ : ByteArray).size = 1 := rfl; omega) hsz2)
            subst hjm
            clear hjl hlast
            go_wp2_with fail
            refine hws.out.mono ?_
            rintro e w3 ⟨rfl, hs3, hb3, hk3⟩
            have HS3 := hid hs3
            have HU3 := hid (Und.of_below (Below.trans HU2.out.below hb3))
            clear hs3 hb3 hk3
            go_wp2
            have hnl : fmtL (us.take (k + 1)) = l1 ++ fmtDocs (zs.take j) ++ (⟨#[10]⟩ : ByteArray).data.toList := by rw [HSN.out, HLA.out, ← HL1.out]; simp [fmtU]
            refine ⟨⟨k + 1, by have := HN.out; omega, rfl, ?_, ?_, fun h => absurd h (by omega), HU3.out⟩, by simp [intOf]; omega⟩
            · rw [hnl]; exact HS3.out
            · rw [hnl, List.length_append]
              have : (⟨#[10]⟩ : ByteArray).data.toList.length = 1 := rfl
              omega
    · have hkn : k = n := by have := HN.out; omega
      subst hkn
      clear hlt
      have hlast : us.take k = us := List.take_of_length_le (by have := HN.out; omega)
      have hsv := HSB.out
      rw [hlast] at hsv
      by_cases h0 : us = []
      · have hk0 : k = 0 := by rw [← HN.out, h0]; rfl
        have hstr := hid (sbString_nil wv.heap.size wv.heap.size _ wr (HNEW.out hk0))
        have hfe : fmtL us = [] := by rw [h0]; rfl
        have HFE := hid hfe
        clear hlast hsv hk0 hfe h0
        go_wp2_with fail
        refine hstr.out.mono ?_
        rintro e w' ⟨rfl, hb⟩
        go_wp2
        go_ret2
        exact ⟨by rw [HFE.out]; rfl, HUV.out.trans (Und.of_below (Below.trans HU.out.below hb))⟩
      · have hfe : fmtL us ≠ [] := by
          cases us with
          | nil => exact absurd rfl h0
          | cons a r => simp [fmtL, fmtU]
        have hstr := hid (sbString_any wv.heap.size wv.heap.size _ wr hsv hfe)
        clear hlast hsv hfe h0
        go_wp2_with fail
        refine hstr.out.mono ?_
        rintro e w' ⟨rfl, hb⟩
        go_wp2
        go_ret2
        exact ⟨rfl, HUV.out.trans (Und.of_below (Below.trans HU.out.below hb))⟩
end Go.Proofs.YthgmlkeojhfijaaDoor
