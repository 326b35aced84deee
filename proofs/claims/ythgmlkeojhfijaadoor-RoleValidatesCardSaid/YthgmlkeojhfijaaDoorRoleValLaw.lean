/- The law RoleValidates: walk. Condition: the lists lie in memory, and the library's own variable at the head of memory holds some integer. -/
import Derived.Test.YthgmlkeojhfijaaDoorRoleValLong
namespace Go.Proofs.YthgmlkeojhfijaaDoor
open Go.RowKit

def ManyRel (w : World) (t : Nat) (v i : Value) (wr : World) : Prop :=
  ∃ (k : Nat) (us : List UserD), i = .int .i64 k ∧ us.length + k = t ∧ t ≤ 40 ∧ OwnU w wr w.heap.size v us ∧ Und w wr
def CutV (w : World) (A B C : Option Addr) (n1 c1 n2 c2 n3 c3 : Nat) (us : List UserD) (s61 s62 s63 : Value) (wx : World) : Prop :=
  ∃ (g : Nat) (M : Option Addr) (cm : Nat), s61 = .slice (some ⟨g, 0, none⟩) 4 4 ∧ s62 = .int .i64 4 ∧ s63 = .int .i64 0 ∧ wx.cell? ⟨g, 0, none⟩ = some (.slice A n1 c1) ∧ wx.cell? ⟨g, 1, none⟩ = some (.slice B n2 c2) ∧
    wx.cell? ⟨g, 2, none⟩ = some (.slice M us.length cm) ∧ wx.cell? ⟨g, 3, none⟩ = some (.slice C n3 c3) ∧ UsersAt wx M us ∧ us.length ≤ cm ∧ cm ≤ 9223372036854775807 ∧ Und w wx
def CutB (w : World) (s : Value) (wx : World) : Prop := ∃ r : Bool, s = .bool r ∧ Und w wx

set_option maxRecDepth 20000 in
set_option maxHeartbeats 6400000 in
theorem vallaw_core (A A2 D : Option Addr) (n c n2 c2 k kc : Nat) (us : List UserD) (nm : ByteArray) (r q m : Int) (ds zs : List Int) (w : World) (hm : w.cell? ⟨0, 0, none⟩ = some (.int .i64 m))
    (hn : us.length = n) (hnc : n ≤ c) (hc63 : c * 48 ≤ 140737488351232) (hA : A = none → c = 0) (hU : UsersAt w A us) (hz : zs.length = n2) (hn2 : n2 ≤ 9223372036854775807) (hI : IntsAt w A2 zs)
    (hk : ds.length = k) (hk63 : k ≤ 9223372036854775807) (hD : IntsAt w D ds) (hs : nm.size ≤ 9223372036854775807) (h160 : ¬ 160 < n2) :
    Calls Tryd.prog 7 #[.slice A n c, .slice A2 n2 c2, .agg #[.string nm, .int .i64 r, .slice D k kc], .int .i64 q] w fun e w' => e = .returned (.bool true) ∧ Und w w' := by
  have HM := hid hm
  have hb := World.block_lt_of_cell? _ _ hm
  have HU := hid hU
  have HI := hid hI
  have HD := hid hD
  clear hm hU hI hD
  have hl := fun W h => long_any A2 n2 c2 (w.heap.size + 1) W hn2 h
  simp only [decide_eq_false h160] at hl
  have HL := hid hl
  clear hl h160
  have HSu : Hid (SrcU (w.alloc (.cells #[.string nm, .int .i64 r, .slice D k kc] 40)) (w.alloc (.cells #[.string nm, .int .i64 r, .slice D k kc] 40)) A us) := hid (HU.out.und (by repeat (first | exact Und.refl _ | assumption | refine Und.under ?_ _ | refine Und.alloc ?_ _ | refine Und.drew ?_ | refine Und.drewN ?_ _))).src
  have HDb : Hid (IntsAt (w.alloc (.cells #[.string nm, .int .i64 r, .slice D k kc] 40)) D ds) := hid (HD.out.und (by repeat (first | exact Und.refl _ | assumption | refine Und.under ?_ _ | refine Und.alloc ?_ _ | refine Und.drew ?_ | refine Und.drewN ?_ _)))
  have bx0 : (w.alloc (.cells #[.string nm, .int .i64 r, .slice D k kc] 40)).cell? ⟨w.heap.size, 0, none⟩ = some (.string nm) := by go_simp
  have bx1 : (w.alloc (.cells #[.string nm, .int .i64 r, .slice D k kc] 40)).cell? ⟨w.heap.size, 1, none⟩ = some (.int .i64 r) := by go_simp
  have bx2 : (w.alloc (.cells #[.string nm, .int .i64 r, .slice D k kc] 40)).cell? ⟨w.heap.size, 2, none⟩ = some (.slice D k kc) := by go_simp
  go_enter Tryd.func7, Tryd.ntmps7
  go_wp2_with fail
  go_cut [25] from 14 (fun s25 wx => CutB (w.alloc (.cells #[.string nm, .int .i64 r, .slice D k kc] 40)) s25 wx)
  case first =>
    first | go_region_law (first
      | (refine step_call rfl _ _ (.bool false) ((HL.out _ ?_).mono fun e w' ⟨h1, h2⟩ => ⟨h1, h2 ▸ Und.refl _⟩) ?_ ?_; (· go_simp; done); (· go_simp; done); intro w2 hu2; have hu3 := ((by repeat (first | exact Und.refl _ | assumption | refine Und.under ?_ _ | refine Und.alloc ?_ _ | refine Und.drew ?_ | refine Und.drewN ?_ _)) : Und (w.alloc (.cells #[.string nm, .int .i64 r, .slice D k kc] 40)) _).trans hu2; haveI : LtW w.heap.size w2 := LtW.of (Nat.lt_of_lt_of_le (by simp) hu3.size); have hbx0 := (hu3.cell (p := ⟨w.heap.size, 0, none⟩) (by simp)).trans bx0; have hbx1 := (hu3.cell (p := ⟨w.heap.size, 1, none⟩) (by simp)).trans bx1; have hbx2 := (hu3.cell (p := ⟨w.heap.size, 2, none⟩) (by simp)).trans bx2)
      | (refine step_append_us (.tmp 18) (.tmp 19) rfl (w.alloc (.cells #[.string nm, .int .i64 r, .slice D k kc] 40)) (w.alloc (.cells #[.string nm, .int .i64 r, .slice D k kc] 40)).heap.size (.slice (some ⟨w2.heap.size, 0, none⟩) 0 0) [] rfl ((OwnU.empty' _ w2 hu3.size rfl).und ((Und.refl _).alloc (.cells #[.string nm, .int .i64 r, .slice D k kc] 40))) A n c us rfl hA hn (HSu.out.und (by repeat (first | exact Und.refl _ | assumption | refine Und.under ?_ _ | refine Und.alloc ?_ _ | refine Und.drew ?_ | refine Und.drewN ?_ _))) (by simp; omega) (by repeat (first | exact Und.refl _ | assumption | refine Und.under ?_ _ | refine Und.alloc ?_ _ | refine Und.drew ?_ | refine Und.drewN ?_ _)) (Nat.le_refl _) (Und.size (a := (w.alloc (.cells #[.string nm, .int .i64 r, .slice D k kc] 40))) (by repeat (first | exact Und.refl _ | assumption | refine Und.under ?_ _ | refine Und.alloc ?_ _ | refine Und.drew ?_ | refine Und.drewN ?_ _))) ?_ ?_; (· go_simp; done); intro v4 w4 ho4 hu4 hg4; haveI : LtW w.heap.size w4 := LtW.of (Nat.lt_of_lt_of_le (by simp) hu4.size); have hbx0 := (hu4.cell (p := ⟨w.heap.size, 0, none⟩) (by simp)).trans bx0; have hbx1 := (hu4.cell (p := ⟨w.heap.size, 1, none⟩) (by simp)).trans bx1; have hbx2 := (hu4.cell (p := ⟨w.heap.size, 2, none⟩) (by simp)).trans bx2; have hS := srcOneGb (nm := nm) (r := r) (D := D) (k := k) (kc := kc) (B := w2.heap.size + 1) hg4 (by simp [Value.ownBlock]) (by go_simp) (by go_simp) (by go_simp) HDb.out hk hk63 hs)
      | (refine step_append_us (.tmp 18) (.tmp 19) rfl (w.alloc (.cells #[.string nm, .int .i64 r, .slice D k kc] 40)) (w.alloc (.cells #[.string nm, .int .i64 r, .slice D k kc] 40)).heap.size (.slice (some ⟨w2.heap.size, 0, none⟩) 0 0) [] rfl (OwnU.empty' _ w2 hu3.size rfl) A n c us rfl hA hn (HSu.out.und (by repeat (first | exact Und.refl _ | assumption | refine Und.under ?_ _ | refine Und.alloc ?_ _ | refine Und.drew ?_ | refine Und.drewN ?_ _))) (by simp; omega) (by repeat (first | exact Und.refl _ | assumption | refine Und.under ?_ _ | refine Und.alloc ?_ _ | refine Und.drew ?_ | refine Und.drewN ?_ _)) (Nat.le_refl _) (Und.size (a := (w.alloc (.cells #[.string nm, .int .i64 r, .slice D k kc] 40))) (by repeat (first | exact Und.refl _ | assumption | refine Und.under ?_ _ | refine Und.alloc ?_ _ | refine Und.drew ?_ | refine Und.drewN ?_ _))) ?_ ?_; (· go_simp; done); intro v4 w4 ho4 hu4 hg4; haveI : LtW w.heap.size w4 := LtW.of (Nat.lt_of_lt_of_le (by simp) hu4.size); have hbx0 := (hu4.cell (p := ⟨w.heap.size, 0, none⟩) (by simp)).trans bx0; have hbx1 := (hu4.cell (p := ⟨w.heap.size, 1, none⟩) (by simp)).trans bx1; have hbx2 := (hu4.cell (p := ⟨w.heap.size, 2, none⟩) (by simp)).trans bx2)
      | (refine step_append_us (.tmp 18) (.tmp 19) rfl (w.alloc (.cells #[.string nm, .int .i64 r, .slice D k kc] 40)) (w.alloc (.cells #[.string nm, .int .i64 r, .slice D k kc] 40)).heap.size (.slice (some ⟨w2.heap.size + 1, 0, none⟩) 0 0) [] rfl (OwnU.empty' _ (w2.alloc (.cells #[.string nm, .int .i64 r, .slice D k kc] 40)) (Nat.le_trans hu3.size (by simp)) (by simp)) A n c us rfl hA hn (HSu.out.und (by repeat (first | exact Und.refl _ | assumption | refine Und.under ?_ _ | refine Und.alloc ?_ _ | refine Und.drew ?_ | refine Und.drewN ?_ _))) (by simp; omega) (by repeat (first | exact Und.refl _ | assumption | refine Und.under ?_ _ | refine Und.alloc ?_ _ | refine Und.drew ?_ | refine Und.drewN ?_ _)) (Nat.le_refl _) (Und.size (a := (w.alloc (.cells #[.string nm, .int .i64 r, .slice D k kc] 40))) (by repeat (first | exact Und.refl _ | assumption | refine Und.under ?_ _ | refine Und.alloc ?_ _ | refine Und.drew ?_ | refine Und.drewN ?_ _))) ?_ ?_; (· go_simp; done); intro v4 w4 ho4 hu4 hg4; haveI : LtW w.heap.size w4 := LtW.of (Nat.lt_of_lt_of_le (by simp) hu4.size); have hbx0 := (hu4.cell (p := ⟨w.heap.size, 0, none⟩) (by simp)).trans bx0; have hbx1 := (hu4.cell (p := ⟨w.heap.size, 1, none⟩) (by simp)).trans bx1; have hbx2 := (hu4.cell (p := ⟨w.heap.size, 2, none⟩) (by simp)).trans bx2; have hS := srcOneGb (nm := nm) (r := r) (D := D) (k := k) (kc := kc) (B := w2.heap.size) hg4 (by simp [Value.ownBlock]) (by go_simp) (by go_simp) (by go_simp) HDb.out hk hk63 hs)
      | (refine step_append_us (.tmp 20) (.tmp 22) rfl (w.alloc (.cells #[.string nm, .int .i64 r, .slice D k kc] 40)) (w.alloc (.cells #[.string nm, .int .i64 r, .slice D k kc] 40)).heap.size _ _ rfl (by first | exact ho4 | exact ho4.und (by repeat (first | exact Und.refl _ | assumption | refine Und.under ?_ _ | refine Und.alloc ?_ _ | refine Und.drew ?_ | refine Und.drewN ?_ _))) _ 1 1 [(nm, r, ds)] rfl (by simp) rfl (by first | exact hS | exact srcOne (kc := kc) (by go_simp; done) (by go_simp; done) (by go_simp; done) HDb.out hk hk63 hs) (by simp; omega) (by repeat (first | exact Und.refl _ | assumption | refine Und.under ?_ _ | refine Und.alloc ?_ _ | refine Und.drew ?_ | refine Und.drewN ?_ _)) (Nat.le_refl _) (Und.size (a := (w.alloc (.cells #[.string nm, .int .i64 r, .slice D k kc] 40))) (by repeat (first | exact Und.refl _ | assumption | refine Und.under ?_ _ | refine Und.alloc ?_ _ | refine Und.drew ?_ | refine Und.drewN ?_ _))) ?_ ?_; (· go_simp; done); intro v5 w5 ho5 hu5 hg5; obtain ⟨A7, c7, rfl, hc7, hc8⟩ := ho5.form)
      | (refine step_bool (big_any A7 _ c7 _ _ rfl hc7 (by unfold maxLen at hc8; omega) (ho5.users rfl hu5)) ?_ ?_ ?_; (· go_simp; done); (· go_simp; done); intro r8 w8 hu8)) | fail
    all_goals
      go_wp2_with fail
      go_meet
      exact ⟨r8, rfl, hu5.trans hu8⟩
  case rest =>
    obtain ⟨r8, rfl, hund⟩ := hcut
    have hwu : Und w wc := ((by repeat (first | exact Und.refl _ | assumption | refine Und.under ?_ _ | refine Und.alloc ?_ _ | refine Und.drew ?_ | refine Und.drewN ?_ _)) : Und w (w.alloc (.cells #[.string nm, .int .i64 r, .slice D k kc] 40))).trans hund
    have HWB := hid hund
    have HWU := hid hwu
    clear hund hwu bx0 bx1 bx2
    cases r8
    · go_wp2_with fail
      refine (users_any A2 n2 c2 zs _ hz (HI.out.und HWU.out)).mono ?_
      rintro e w2 ⟨i0, us2, A3, cap, rfl, h1, h2, h3, h4, hMade, hU2, hund2, hA3⟩
      have HWU2 := hid (HWU.out.trans hund2)
      have HWB2 := hid (HWB.out.trans hund2)
      have HUB := hid hU2
      have h3' : i0 ≤ cap := by omega
      have q0 : 0 ≤ q % 3 := by omega
      have q1 : q % 3 < 3 := by omega
      have HA3 := hid hA3
      clear hMade hU2 hund2 hA3
      go_wp2_with (go_at_call 9; refine (place_any _ _ _ (by omega) (by omega)).mono ?_; rintro e w' ⟨rfl, rfl⟩)
      go_loopw [10, 11] (fun v i wr => ManyRel w2 (q % 3 + 31).toNat v i wr) (fun _ i _ => (intOf i).toNat)
      case atStart => exact ⟨(q % 3 + 31).toNat, [], congrArg (Value.int .i64) (by omega), by simp, by omega, OwnU.nil _ _ _, Und.refl _⟩
      case round =>
        obtain ⟨k9, us9, rfl, ht, ht40, hO, hU9⟩ := hrel
        have HT := hid ht
        have HO := hid hO
        have HU9 := hid hU9
        clear ht hO hU9
        by_cases hk0 : k9 = 0
        · subst hk0
          obtain ⟨A4, cap4, rfl, g1, g2⟩ := HO.out.form
          have HUC := hid (HO.out.users rfl HU9.out)
          have HB9 := hid (HWB2.out.trans HU9.out)
          have hxb : w.heap.size < wr.heap.size := Nat.lt_of_lt_of_le (by simp) HB9.out.size
          haveI : LtW w.heap.size wr := LtW.of hxb
          have bx0 := (HB9.out.cell (p := ⟨w.heap.size, 0, none⟩) (by simp)).trans (show (w.alloc (.cells #[.string nm, .int .i64 r, .slice D k kc] 40)).cell? ⟨w.heap.size, 0, none⟩ = some (.string nm) by go_simp)
          have bx1 := (HB9.out.cell (p := ⟨w.heap.size, 1, none⟩) (by simp)).trans (show (w.alloc (.cells #[.string nm, .int .i64 r, .slice D k kc] 40)).cell? ⟨w.heap.size, 1, none⟩ = some (.int .i64 r) by go_simp)
          have bx2 := (HB9.out.cell (p := ⟨w.heap.size, 2, none⟩) (by simp)).trans (show (w.alloc (.cells #[.string nm, .int .i64 r, .slice D k kc] 40)).cell? ⟨w.heap.size, 2, none⟩ = some (.slice D k kc) by go_simp)
          have HSm : Hid (SrcU wr wr A3 us2) := hid (HUB.out.und HU9.out).src
          have HDr : Hid (IntsAt wr D ds) := hid (HD.out.und (HWU2.out.trans HU9.out))
          have G1 := hid g1
          have G2 := hid g2
          have H2 := hid h2
          clear g1 g2
          go_wp2_with fail
          go_cut [61, 62, 63] from 52 (fun s61 s62 s63 wx => CutV wr A A3 A4 n c i0 cap us9.length cap4 (us2 ++ [(nm, r, ds)]) s61 s62 s63 wx)
          case first =>
            first | go_region_law (first
              | (refine step_append_us (.tmp 54) (.tmp 55) rfl wr wr.heap.size (.slice (some ⟨wr.heap.size, 0, none⟩) 0 0) [] rfl ((OwnU.empty' _ wr (Nat.le_refl _) rfl).und (((Und.refl _).alloc (.cells #[.string nm, .int .i64 r, .slice D k kc] 40)).drew)) A3 i0 cap us2 rfl HA3.out h1 (HSm.out.und (by repeat (first | exact Und.refl _ | assumption | refine Und.under ?_ _ | refine Und.alloc ?_ _ | refine Und.drew ?_ | refine Und.drewN ?_ _))) (by have := H2.out; simp; omega) (by repeat (first | exact Und.refl _ | assumption | refine Und.under ?_ _ | refine Und.alloc ?_ _ | refine Und.drew ?_ | refine Und.drewN ?_ _)) (Nat.le_refl _) (Und.size (a := wr) (by repeat (first | exact Und.refl _ | assumption | refine Und.under ?_ _ | refine Und.alloc ?_ _ | refine Und.drew ?_ | refine Und.drewN ?_ _))) ?_ ?_; (· go_simp; done); intro v4 w4 ho4 hu4 hg4; haveI : LtW w.heap.size w4 := LtW.of (Nat.lt_of_lt_of_le hxb hu4.size); have cx0 := (hu4.cell (p := ⟨w.heap.size, 0, none⟩) hxb).trans bx0; have cx1 := (hu4.cell (p := ⟨w.heap.size, 1, none⟩) hxb).trans bx1; have cx2 := (hu4.cell (p := ⟨w.heap.size, 2, none⟩) hxb).trans bx2; have hS := srcOneGb (nm := nm) (r := r) (D := D) (k := k) (kc := kc) (B := wr.heap.size + 1) hg4 (by simp [Value.ownBlock]) (by go_simp) (by go_simp) (by go_simp) HDr.out hk hk63 hs)
              | (refine step_append_us (.tmp 54) (.tmp 55) rfl wr wr.heap.size (.slice (some ⟨wr.heap.size, 0, none⟩) 0 0) [] rfl ((OwnU.empty' _ wr (Nat.le_refl _) rfl).und ((Und.refl _).drew)) A3 i0 cap us2 rfl HA3.out h1 (HSm.out.und (by repeat (first | exact Und.refl _ | assumption | refine Und.under ?_ _ | refine Und.alloc ?_ _ | refine Und.drew ?_ | refine Und.drewN ?_ _))) (by have := H2.out; simp; omega) (by repeat (first | exact Und.refl _ | assumption | refine Und.under ?_ _ | refine Und.alloc ?_ _ | refine Und.drew ?_ | refine Und.drewN ?_ _)) (Nat.le_refl _) (Und.size (a := wr) (by repeat (first | exact Und.refl _ | assumption | refine Und.under ?_ _ | refine Und.alloc ?_ _ | refine Und.drew ?_ | refine Und.drewN ?_ _))) ?_ ?_; (· go_simp; done); intro v4 w4 ho4 hu4 hg4; haveI : LtW w.heap.size w4 := LtW.of (Nat.lt_of_lt_of_le hxb hu4.size); have cx0 := (hu4.cell (p := ⟨w.heap.size, 0, none⟩) hxb).trans bx0; have cx1 := (hu4.cell (p := ⟨w.heap.size, 1, none⟩) hxb).trans bx1; have cx2 := (hu4.cell (p := ⟨w.heap.size, 2, none⟩) hxb).trans bx2)
              | (refine step_append_us (.tmp 54) (.tmp 55) rfl wr wr.heap.size (.slice (some ⟨wr.heap.size + 1, 0, none⟩) 0 0) [] rfl ((OwnU.empty' _ (wr.alloc (.cells #[.string nm, .int .i64 r, .slice D k kc] 40)) (by simp) (by simp)).und ((Und.refl _).drew)) A3 i0 cap us2 rfl HA3.out h1 (HSm.out.und (by repeat (first | exact Und.refl _ | assumption | refine Und.under ?_ _ | refine Und.alloc ?_ _ | refine Und.drew ?_ | refine Und.drewN ?_ _))) (by have := H2.out; simp; omega) (by repeat (first | exact Und.refl _ | assumption | refine Und.under ?_ _ | refine Und.alloc ?_ _ | refine Und.drew ?_ | refine Und.drewN ?_ _)) (Nat.le_refl _) (Und.size (a := wr) (by repeat (first | exact Und.refl _ | assumption | refine Und.under ?_ _ | refine Und.alloc ?_ _ | refine Und.drew ?_ | refine Und.drewN ?_ _))) ?_ ?_; (· go_simp; done); intro v4 w4 ho4 hu4 hg4; haveI : LtW w.heap.size w4 := LtW.of (Nat.lt_of_lt_of_le hxb hu4.size); have cx0 := (hu4.cell (p := ⟨w.heap.size, 0, none⟩) hxb).trans bx0; have cx1 := (hu4.cell (p := ⟨w.heap.size, 1, none⟩) hxb).trans bx1; have cx2 := (hu4.cell (p := ⟨w.heap.size, 2, none⟩) hxb).trans bx2; have hS := srcOneGb (nm := nm) (r := r) (D := D) (k := k) (kc := kc) (B := wr.heap.size) hg4 (by simp [Value.ownBlock]) (by go_simp) (by go_simp) (by go_simp) HDr.out hk hk63 hs)
              | (refine step_append_us (.tmp 56) (.tmp 58) rfl wr wr.heap.size _ _ rfl (by first | exact ho4 | exact ho4.und (by repeat (first | exact Und.refl _ | assumption | refine Und.under ?_ _ | refine Und.alloc ?_ _ | refine Und.drew ?_ | refine Und.drewN ?_ _))) _ 1 1 [(nm, r, ds)] rfl (by simp) rfl (by first | exact hS | exact srcOne (kc := kc) (by go_simp; done) (by go_simp; done) (by go_simp; done) HDr.out hk hk63 hs) (by have := H2.out; simp; omega) (by repeat (first | exact Und.refl _ | assumption | refine Und.under ?_ _ | refine Und.alloc ?_ _ | refine Und.drew ?_ | refine Und.drewN ?_ _)) (Nat.le_refl _) (Und.size (a := wr) (by repeat (first | exact Und.refl _ | assumption | refine Und.under ?_ _ | refine Und.alloc ?_ _ | refine Und.drew ?_ | refine Und.drewN ?_ _))) ?_ ?_; (· go_simp; done); intro v5 w5 ho5 hu5 hg5; obtain ⟨A7, c7, rfl, hc7, hc8⟩ := ho5.form)) | fail
            all_goals
              go_wp2_with fail
              go_meet
              refine ⟨_, A7, c7, rfl, rfl, rfl, by go_simp, by go_simp, ?_, by go_simp, (ho5.users rfl hu5).und ((Und.refl _).alloc _), hc7, by unfold maxLen at hc8; omega, (by repeat (first | exact Und.refl _ | assumption | refine Und.under ?_ _ | refine Und.alloc ?_ _ | refine Und.drew ?_ | refine Und.drewN ?_ _))⟩
              go_simp
          case rest =>
            obtain ⟨g, M, cm, rfl, rfl, rfl, d0, d1, d2, d3, hUM, hcm1, hcm2, hUx⟩ := hcut
            have hgl := World.block_lt_of_cell? _ _ d0
            simp only at hgl
            haveI : LtW g wc := LtW.of hgl
            have hw9 := HWU2.out.trans HU9.out
            have HU1 := hid (HU.out.und (hw9.trans hUx))
            have HU2 := hid (HUB.out.und (HU9.out.trans hUx))
            have HU3 := hid hUM
            have HU4 := hid (HUC.out.und hUx)
            have HUX := hid (hw9.trans hUx)
            have HM2 := hid ((Und.cell HUX.out hb).trans HM.out)
            have hb2 : 0 < wc.heap.size := Nat.lt_of_lt_of_le hb HUX.out.size
            have hg1 := G1.out
            have hl3 : (us2 ++ [(nm, r, ds)]).length = i0 + 1 := by simp [h1]
            have hcm1' : i0 + 1 ≤ cm := by omega
            have hg2 : cap4 ≤ 9223372036854775807 := by have := G2.out; unfold maxLen at this; omega
            clear hUM hw9 hUx bx0 bx1 bx2
            go_wp2_with fail
            refine wp_loop_rounds 5 ?_
            rw [rounds_succ]
            go_wp2_with (first | (go_at_call 20; (with_reducible refine (validate_any A n c us _ hn hnc (by omega) (HU1.out.und (by repeat (first | exact Und.refl _ | assumption | refine Und.under ?_ _ | refine Und.alloc ?_ _ | refine Und.drew ?_ | refine Und.drewN ?_ _)))).mono ?_); rintro e w' ⟨rfl, X, rfl⟩) | (go_at_call 20; (with_reducible refine (validate_any A3 i0 cap us2 _ h1 h3' h4 (HU2.out.und (by repeat (first | exact Und.refl _ | assumption | refine Und.under ?_ _ | refine Und.alloc ?_ _ | refine Und.drew ?_ | refine Und.drewN ?_ _)))).mono ?_); rintro e w' ⟨rfl, X, rfl⟩) | (go_at_call 20; (with_reducible refine (validate_any M (i0 + 1) cm (us2 ++ [(nm, r, ds)]) _ hl3 hcm1' hcm2 (HU3.out.und (by repeat (first | exact Und.refl _ | assumption | refine Und.under ?_ _ | refine Und.alloc ?_ _ | refine Und.drew ?_ | refine Und.drewN ?_ _)))).mono ?_); rintro e w' ⟨rfl, X, rfl⟩) | (go_at_call 20; (with_reducible refine (validate_any A4 _ cap4 us9 _ rfl hg1 hg2 (HU4.out.und (by repeat (first | exact Und.refl _ | assumption | refine Und.under ?_ _ | refine Und.alloc ?_ _ | refine Und.drew ?_ | refine Und.drewN ?_ _)))).mono ?_); rintro e w' ⟨rfl, X, rfl⟩) | (go_at_call 21; (with_reducible refine (rvalidate_any A n c us _ hn hnc (by omega) (HU1.out.und (by repeat (first | exact Und.refl _ | assumption | refine Und.under ?_ _ | refine Und.alloc ?_ _ | refine Und.drew ?_ | refine Und.drewN ?_ _)))).mono ?_); rintro e w' ⟨rfl, X, rfl⟩) | (go_at_call 21; (with_reducible refine (rvalidate_any A3 i0 cap us2 _ h1 h3' h4 (HU2.out.und (by repeat (first | exact Und.refl _ | assumption | refine Und.under ?_ _ | refine Und.alloc ?_ _ | refine Und.drew ?_ | refine Und.drewN ?_ _)))).mono ?_); rintro e w' ⟨rfl, X, rfl⟩) | (go_at_call 21; (with_reducible refine (rvalidate_any M (i0 + 1) cm (us2 ++ [(nm, r, ds)]) _ hl3 hcm1' hcm2 (HU3.out.und (by repeat (first | exact Und.refl _ | assumption | refine Und.under ?_ _ | refine Und.alloc ?_ _ | refine Und.drew ?_ | refine Und.drewN ?_ _)))).mono ?_); rintro e w' ⟨rfl, X, rfl⟩) | (go_at_call 21; (with_reducible refine (rvalidate_any A4 _ cap4 us9 _ rfl hg1 hg2 (HU4.out.und (by repeat (first | exact Und.refl _ | assumption | refine Und.under ?_ _ | refine Und.alloc ?_ _ | refine Und.drew ?_ | refine Und.drewN ?_ _)))).mono ?_); rintro e w' ⟨rfl, X, rfl⟩))
            rw [rounds_succ]
            go_wp2_with (first | (go_at_call 20; (with_reducible refine (validate_any A n c us _ hn hnc (by omega) (HU1.out.und (by repeat (first | exact Und.refl _ | assumption | refine Und.under ?_ _ | refine Und.alloc ?_ _ | refine Und.drew ?_ | refine Und.drewN ?_ _)))).mono ?_); rintro e w' ⟨rfl, X, rfl⟩) | (go_at_call 20; (with_reducible refine (validate_any A3 i0 cap us2 _ h1 h3' h4 (HU2.out.und (by repeat (first | exact Und.refl _ | assumption | refine Und.under ?_ _ | refine Und.alloc ?_ _ | refine Und.drew ?_ | refine Und.drewN ?_ _)))).mono ?_); rintro e w' ⟨rfl, X, rfl⟩) | (go_at_call 20; (with_reducible refine (validate_any M (i0 + 1) cm (us2 ++ [(nm, r, ds)]) _ hl3 hcm1' hcm2 (HU3.out.und (by repeat (first | exact Und.refl _ | assumption | refine Und.under ?_ _ | refine Und.alloc ?_ _ | refine Und.drew ?_ | refine Und.drewN ?_ _)))).mono ?_); rintro e w' ⟨rfl, X, rfl⟩) | (go_at_call 20; (with_reducible refine (validate_any A4 _ cap4 us9 _ rfl hg1 hg2 (HU4.out.und (by repeat (first | exact Und.refl _ | assumption | refine Und.under ?_ _ | refine Und.alloc ?_ _ | refine Und.drew ?_ | refine Und.drewN ?_ _)))).mono ?_); rintro e w' ⟨rfl, X, rfl⟩) | (go_at_call 21; (with_reducible refine (rvalidate_any A n c us _ hn hnc (by omega) (HU1.out.und (by repeat (first | exact Und.refl _ | assumption | refine Und.under ?_ _ | refine Und.alloc ?_ _ | refine Und.drew ?_ | refine Und.drewN ?_ _)))).mono ?_); rintro e w' ⟨rfl, X, rfl⟩) | (go_at_call 21; (with_reducible refine (rvalidate_any A3 i0 cap us2 _ h1 h3' h4 (HU2.out.und (by repeat (first | exact Und.refl _ | assumption | refine Und.under ?_ _ | refine Und.alloc ?_ _ | refine Und.drew ?_ | refine Und.drewN ?_ _)))).mono ?_); rintro e w' ⟨rfl, X, rfl⟩) | (go_at_call 21; (with_reducible refine (rvalidate_any M (i0 + 1) cm (us2 ++ [(nm, r, ds)]) _ hl3 hcm1' hcm2 (HU3.out.und (by repeat (first | exact Und.refl _ | assumption | refine Und.under ?_ _ | refine Und.alloc ?_ _ | refine Und.drew ?_ | refine Und.drewN ?_ _)))).mono ?_); rintro e w' ⟨rfl, X, rfl⟩) | (go_at_call 21; (with_reducible refine (rvalidate_any A4 _ cap4 us9 _ rfl hg1 hg2 (HU4.out.und (by repeat (first | exact Und.refl _ | assumption | refine Und.under ?_ _ | refine Und.alloc ?_ _ | refine Und.drew ?_ | refine Und.drewN ?_ _)))).mono ?_); rintro e w' ⟨rfl, X, rfl⟩))
            rw [rounds_succ]
            go_wp2_with (first | (go_at_call 20; (with_reducible refine (validate_any A n c us _ hn hnc (by omega) (HU1.out.und (by repeat (first | exact Und.refl _ | assumption | refine Und.under ?_ _ | refine Und.alloc ?_ _ | refine Und.drew ?_ | refine Und.drewN ?_ _)))).mono ?_); rintro e w' ⟨rfl, X, rfl⟩) | (go_at_call 20; (with_reducible refine (validate_any A3 i0 cap us2 _ h1 h3' h4 (HU2.out.und (by repeat (first | exact Und.refl _ | assumption | refine Und.under ?_ _ | refine Und.alloc ?_ _ | refine Und.drew ?_ | refine Und.drewN ?_ _)))).mono ?_); rintro e w' ⟨rfl, X, rfl⟩) | (go_at_call 20; (with_reducible refine (validate_any M (i0 + 1) cm (us2 ++ [(nm, r, ds)]) _ hl3 hcm1' hcm2 (HU3.out.und (by repeat (first | exact Und.refl _ | assumption | refine Und.under ?_ _ | refine Und.alloc ?_ _ | refine Und.drew ?_ | refine Und.drewN ?_ _)))).mono ?_); rintro e w' ⟨rfl, X, rfl⟩) | (go_at_call 20; (with_reducible refine (validate_any A4 _ cap4 us9 _ rfl hg1 hg2 (HU4.out.und (by repeat (first | exact Und.refl _ | assumption | refine Und.under ?_ _ | refine Und.alloc ?_ _ | refine Und.drew ?_ | refine Und.drewN ?_ _)))).mono ?_); rintro e w' ⟨rfl, X, rfl⟩) | (go_at_call 21; (with_reducible refine (rvalidate_any A n c us _ hn hnc (by omega) (HU1.out.und (by repeat (first | exact Und.refl _ | assumption | refine Und.under ?_ _ | refine Und.alloc ?_ _ | refine Und.drew ?_ | refine Und.drewN ?_ _)))).mono ?_); rintro e w' ⟨rfl, X, rfl⟩) | (go_at_call 21; (with_reducible refine (rvalidate_any A3 i0 cap us2 _ h1 h3' h4 (HU2.out.und (by repeat (first | exact Und.refl _ | assumption | refine Und.under ?_ _ | refine Und.alloc ?_ _ | refine Und.drew ?_ | refine Und.drewN ?_ _)))).mono ?_); rintro e w' ⟨rfl, X, rfl⟩) | (go_at_call 21; (with_reducible refine (rvalidate_any M (i0 + 1) cm (us2 ++ [(nm, r, ds)]) _ hl3 hcm1' hcm2 (HU3.out.und (by repeat (first | exact Und.refl _ | assumption | refine Und.under ?_ _ | refine Und.alloc ?_ _ | refine Und.drew ?_ | refine Und.drewN ?_ _)))).mono ?_); rintro e w' ⟨rfl, X, rfl⟩) | (go_at_call 21; (with_reducible refine (rvalidate_any A4 _ cap4 us9 _ rfl hg1 hg2 (HU4.out.und (by repeat (first | exact Und.refl _ | assumption | refine Und.under ?_ _ | refine Und.alloc ?_ _ | refine Und.drew ?_ | refine Und.drewN ?_ _)))).mono ?_); rintro e w' ⟨rfl, X, rfl⟩))
            rw [rounds_succ]
            go_wp2_with (first | (go_at_call 20; (with_reducible refine (validate_any A n c us _ hn hnc (by omega) (HU1.out.und (by repeat (first | exact Und.refl _ | assumption | refine Und.under ?_ _ | refine Und.alloc ?_ _ | refine Und.drew ?_ | refine Und.drewN ?_ _)))).mono ?_); rintro e w' ⟨rfl, X, rfl⟩) | (go_at_call 20; (with_reducible refine (validate_any A3 i0 cap us2 _ h1 h3' h4 (HU2.out.und (by repeat (first | exact Und.refl _ | assumption | refine Und.under ?_ _ | refine Und.alloc ?_ _ | refine Und.drew ?_ | refine Und.drewN ?_ _)))).mono ?_); rintro e w' ⟨rfl, X, rfl⟩) | (go_at_call 20; (with_reducible refine (validate_any M (i0 + 1) cm (us2 ++ [(nm, r, ds)]) _ hl3 hcm1' hcm2 (HU3.out.und (by repeat (first | exact Und.refl _ | assumption | refine Und.under ?_ _ | refine Und.alloc ?_ _ | refine Und.drew ?_ | refine Und.drewN ?_ _)))).mono ?_); rintro e w' ⟨rfl, X, rfl⟩) | (go_at_call 20; (with_reducible refine (validate_any A4 _ cap4 us9 _ rfl hg1 hg2 (HU4.out.und (by repeat (first | exact Und.refl _ | assumption | refine Und.under ?_ _ | refine Und.alloc ?_ _ | refine Und.drew ?_ | refine Und.drewN ?_ _)))).mono ?_); rintro e w' ⟨rfl, X, rfl⟩) | (go_at_call 21; (with_reducible refine (rvalidate_any A n c us _ hn hnc (by omega) (HU1.out.und (by repeat (first | exact Und.refl _ | assumption | refine Und.under ?_ _ | refine Und.alloc ?_ _ | refine Und.drew ?_ | refine Und.drewN ?_ _)))).mono ?_); rintro e w' ⟨rfl, X, rfl⟩) | (go_at_call 21; (with_reducible refine (rvalidate_any A3 i0 cap us2 _ h1 h3' h4 (HU2.out.und (by repeat (first | exact Und.refl _ | assumption | refine Und.under ?_ _ | refine Und.alloc ?_ _ | refine Und.drew ?_ | refine Und.drewN ?_ _)))).mono ?_); rintro e w' ⟨rfl, X, rfl⟩) | (go_at_call 21; (with_reducible refine (rvalidate_any M (i0 + 1) cm (us2 ++ [(nm, r, ds)]) _ hl3 hcm1' hcm2 (HU3.out.und (by repeat (first | exact Und.refl _ | assumption | refine Und.under ?_ _ | refine Und.alloc ?_ _ | refine Und.drew ?_ | refine Und.drewN ?_ _)))).mono ?_); rintro e w' ⟨rfl, X, rfl⟩) | (go_at_call 21; (with_reducible refine (rvalidate_any A4 _ cap4 us9 _ rfl hg1 hg2 (HU4.out.und (by repeat (first | exact Und.refl _ | assumption | refine Und.under ?_ _ | refine Und.alloc ?_ _ | refine Und.drew ?_ | refine Und.drewN ?_ _)))).mono ?_); rintro e w' ⟨rfl, X, rfl⟩))
            rw [rounds_succ]
            go_wp2_with (first | (go_at_call 20; (with_reducible refine (validate_any A n c us _ hn hnc (by omega) (HU1.out.und (by repeat (first | exact Und.refl _ | assumption | refine Und.under ?_ _ | refine Und.alloc ?_ _ | refine Und.drew ?_ | refine Und.drewN ?_ _)))).mono ?_); rintro e w' ⟨rfl, X, rfl⟩) | (go_at_call 20; (with_reducible refine (validate_any A3 i0 cap us2 _ h1 h3' h4 (HU2.out.und (by repeat (first | exact Und.refl _ | assumption | refine Und.under ?_ _ | refine Und.alloc ?_ _ | refine Und.drew ?_ | refine Und.drewN ?_ _)))).mono ?_); rintro e w' ⟨rfl, X, rfl⟩) | (go_at_call 20; (with_reducible refine (validate_any M (i0 + 1) cm (us2 ++ [(nm, r, ds)]) _ hl3 hcm1' hcm2 (HU3.out.und (by repeat (first | exact Und.refl _ | assumption | refine Und.under ?_ _ | refine Und.alloc ?_ _ | refine Und.drew ?_ | refine Und.drewN ?_ _)))).mono ?_); rintro e w' ⟨rfl, X, rfl⟩) | (go_at_call 20; (with_reducible refine (validate_any A4 _ cap4 us9 _ rfl hg1 hg2 (HU4.out.und (by repeat (first | exact Und.refl _ | assumption | refine Und.under ?_ _ | refine Und.alloc ?_ _ | refine Und.drew ?_ | refine Und.drewN ?_ _)))).mono ?_); rintro e w' ⟨rfl, X, rfl⟩) | (go_at_call 21; (with_reducible refine (rvalidate_any A n c us _ hn hnc (by omega) (HU1.out.und (by repeat (first | exact Und.refl _ | assumption | refine Und.under ?_ _ | refine Und.alloc ?_ _ | refine Und.drew ?_ | refine Und.drewN ?_ _)))).mono ?_); rintro e w' ⟨rfl, X, rfl⟩) | (go_at_call 21; (with_reducible refine (rvalidate_any A3 i0 cap us2 _ h1 h3' h4 (HU2.out.und (by repeat (first | exact Und.refl _ | assumption | refine Und.under ?_ _ | refine Und.alloc ?_ _ | refine Und.drew ?_ | refine Und.drewN ?_ _)))).mono ?_); rintro e w' ⟨rfl, X, rfl⟩) | (go_at_call 21; (with_reducible refine (rvalidate_any M (i0 + 1) cm (us2 ++ [(nm, r, ds)]) _ hl3 hcm1' hcm2 (HU3.out.und (by repeat (first | exact Und.refl _ | assumption | refine Und.under ?_ _ | refine Und.alloc ?_ _ | refine Und.drew ?_ | refine Und.drewN ?_ _)))).mono ?_); rintro e w' ⟨rfl, X, rfl⟩) | (go_at_call 21; (with_reducible refine (rvalidate_any A4 _ cap4 us9 _ rfl hg1 hg2 (HU4.out.und (by repeat (first | exact Und.refl _ | assumption | refine Und.under ?_ _ | refine Und.alloc ?_ _ | refine Und.drew ?_ | refine Und.drewN ?_ _)))).mono ?_); rintro e w' ⟨rfl, X, rfl⟩))
            go_wp2_with (go_at_call 12; refine (known_any m _ ((Und.cell (by repeat (first | exact Und.refl _ | assumption | refine Und.under ?_ _ | refine Und.alloc ?_ _ | refine Und.drew ?_ | refine Und.drewN ?_ _)) hb2).trans HM2.out)).mono ?_; rintro e w' ⟨rfl, X9, rfl⟩)
            go_ret
            exact ⟨rfl, HUX.out.trans (by repeat (first | exact Und.refl _ | assumption | refine Und.under ?_ _ | refine Und.alloc ?_ _ | refine Und.drew ?_ | refine Und.drewN ?_ _))⟩
        · have hk1 : 0 < k9 := by omega
          clear hk0
          obtain ⟨vs, o1, o2, o3⟩ := HO.out
          have hl9 : us9.length ≤ 40 := by have := HT.out; omega
          have hk40 : k9 ≤ 40 := by have := HT.out; omega
          have O1 := hid o1
          have O2 := hid o2
          have O3 := hid o3
          obtain ⟨iu, hiu, hzu0, hzu1, hzu2⟩ := info_parts info_user
          clear o1 o2 o3
          go_wp2_with (at_builtin; refine wpList_append_own _ rfl _ _ 26 rfl w2.heap.size 40 iu (.agg #[.string ⟨#[]⟩, .int .i64 0, .slice none 0 0]) 3 48 Tryd.underlying26 hiu hzu0 hzu1 hzu2 rfl (by decide) u10 us9.length _ rfl ((O2.out.alloc _).alloc _) ⟨wr.heap.size + 1, 0, none⟩ 1 1 [.string _, .int .i64 1, .slice none 0 0] rfl rfl (side3' _ _ _ _ _ _ (by simp)) ?_ (by unfold maxLen; omega) (by omega) ?_ ?_)
          · intro u hu
            simp at hu
            rcases hu with rfl | rfl | rfl <;> rfl
          · exact Nat.le_trans HU9.out.size (by simp; omega)
          · intro v1 w4 hown4 hgrow4 hnil4
            have hO4 := OwnU.push O1.out O3.out hown4 (by simp [ByteArray.size])
            have hU4 : Und w2 w4 := ((HU9.out.alloc _).alloc _).grown hgrow4 (fun g hg => owns_block O2.out g hg)
            have HO4 := hid hO4
            have HU4 := hid hU4
            clear hO4 hU4 hown4 hgrow4 hnil4
            go_wp2
            exact ⟨⟨k9 - 1, _, congrArg (Value.int .i64) (by omega), by have := HT.out; simp; omega, ht40, HO4.out, HU4.out⟩, by simp [intOf]; omega⟩
    · go_wp2_with (go_at_call 12; refine (known_any m _ ((Und.cell (HWU.out.trans (by repeat (first | exact Und.refl _ | assumption | refine Und.under ?_ _ | refine Und.alloc ?_ _ | refine Und.drew ?_ | refine Und.drewN ?_ _))) hb).trans HM.out)).mono ?_; rintro e w' ⟨rfl, X9, rfl⟩)
      go_ret
      exact ⟨rfl, HWU.out.trans (by repeat (first | exact Und.refl _ | assumption | refine Und.under ?_ _ | refine Und.alloc ?_ _ | refine Und.drew ?_ | refine Und.drewN ?_ _))⟩
theorem vallaw_any (A A2 D : Option Addr) (n c n2 c2 k kc : Nat) (us : List UserD) (nm : ByteArray) (r q m : Int) (ds zs : List Int) (w : World) (hm : w.cell? ⟨0, 0, none⟩ = some (.int .i64 m))
    (hn : us.length = n) (hnc : n ≤ c) (hc63 : c * 48 ≤ 140737488351232) (hA : A = none → c = 0) (hU : UsersAt w A us) (hz : zs.length = n2) (hn2 : n2 ≤ 9223372036854775807) (hI : IntsAt w A2 zs)
    (hk : ds.length = k) (hk63 : k ≤ 9223372036854775807) (hD : IntsAt w D ds) (hs : nm.size ≤ 9223372036854775807) :
    Calls Tryd.prog 7 #[.slice A n c, .slice A2 n2 c2, .agg #[.string nm, .int .i64 r, .slice D k kc], .int .i64 q] w fun e w' => e = .returned (.bool true) ∧ Und w w' := by
  by_cases h160 : 160 < n2
  · exact val_long A A2 D n c n2 c2 k kc us nm r q m ds zs w hm hn hnc hc63 hA hU hz hn2 hI hk hk63 hD hs h160
  · exact vallaw_core A A2 D n c n2 c2 k kc us nm r q m ds zs w hm hn hnc hc63 hA hU hz hn2 hI hk hk63 hD hs h160
end Go.Proofs.YthgmlkeojhfijaaDoor
