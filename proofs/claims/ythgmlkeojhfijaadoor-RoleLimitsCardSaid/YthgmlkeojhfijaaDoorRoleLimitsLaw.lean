/- The law RoleLimits: walk. Condition: the library's own variables lie in memory. -/
import Derived.Test.YthgmlkeojhfijaaDoorRoleSame
import Derived.Test.YthgmlkeojhfijaaDoorRoleMany
import Derived.LoopN
import Derived.Test.YthgmlkeojhfijaaDoorTKept
import Derived.Lib.Builder
import Derived.Laws.MakeOwn
import Derived.Laws.Rows
namespace Go.Proofs.YthgmlkeojhfijaaDoor
open Go.RowKit

theorem size_ap (a b : ByteArray) : (a ++ b).size = a.size + b.size := ByteArray.size_append
theorem info_u8 : (Tryd.prog.info? 5).map (fun i => (i.zero, i.size, i.bytes)) = some (some (.int .u8 0), 1, 1) := by kernel_rfl
/-- A row of bytes. -/
def ByAt (w : World) (g N : Nat) : Prop := ∃ cs : Array Value, w.heap[g]? = some (Obj.cells cs 5 (0, 0)) ∧ ∃ L : List Int, L.length = N ∧ ∀ i, i < N → cs[i]? = some (.int .u8 (L.getD i 0))
theorem ByAt.set {w : World} {g N : Nat} (h : ByAt w g N) (k : Nat) (x : Int) (hk : k < N) : ByAt (w.setCell ⟨g, k, none⟩ (.int .u8 x)) g N := by
  obtain ⟨cs, h1, L, h2, h3⟩ := h
  refine ⟨_, heap_setCell_same w g k cs _ _ h1, L.set k x, by simpa using h2, fun i hi => ?_⟩
  have hks : k < cs.size := (Array.getElem?_eq_some_iff.1 (h3 k hk)).1
  by_cases hik : k = i
  · subst hik
    rw [Array.getElem?_setIfInBounds_self_of_lt hks]
    simp [List.getD_eq_getElem?_getD, h2, hi]
  · rw [Array.getElem?_setIfInBounds_ne hik, h3 i hi]
    simp [List.getD_eq_getElem?_getD, hik]
theorem ByAt.cell {w : World} {g N : Nat} (h : ByAt w g N) (k : Nat) (hk : k < N) : (∃ x, w.cell? ⟨g, k, none⟩ = some (.int .u8 x)) ∧ w.frozen? ⟨g, k, none⟩ = false ∧ g < w.heap.size := by
  obtain ⟨cs, h1, L, h2, h3⟩ := h
  exact ⟨⟨_, (Lib.cell_of_heap h1 k).trans (h3 k hk)⟩, Lib.frozen_of_heap h1 k, (Array.getElem?_eq_some_iff.1 h1).1⟩
theorem ByAt.und {w w' : World} {g N : Nat} (h : ByAt w g N) (u : Und w w') : ByAt w' g N := by
  obtain ⟨cs, h1, L⟩ := h
  exact ⟨cs, (u.below.block g (Array.getElem?_eq_some_iff.1 h1).1).trans h1, L⟩
theorem ByAt.conv {w : World} {g N : Nat} (h : ByAt w g N) : ∃ t : ByteArray, t.size = N ∧ (convert 37 9 (.slice (some ⟨g, 0, none⟩) N N)).run Tryd.prog w = .ok (.string t) w := by
  obtain ⟨cs, h1, L, h2, h3⟩ := h
  exact ⟨strOfNums L, by rw [strOfNums_size, h2], run_convert_bytes_arg w 37 5 Tryd.underlying37 Tryd.underlying5 g 0 N N L h2 (fun i hi => by rw [Nat.zero_add, Lib.cell_of_heap h1 i]; exact h3 i hi) _ Tryd.underlying9⟩
theorem make_bytes (N : Nat) (hN : N ≤ 70000) : ∃ cs : Array Value, (∀ W : World, (Instr.makeSlice 37 (.int .i64 (N : Int)) (.int .i64 (N : Int))).run Tryd.prog W = .ok (.slice (some ⟨W.heap.size, 0, none⟩) N N) (W.alloc (.cells cs 5))) ∧ ∃ L : List Int, L.length = N ∧ ∀ i, i < N → cs[i]? = some (.int .u8 (L.getD i 0)) := by
  obtain ⟨i, hi, hz0, hz1, hz2⟩ := info_parts info_u8
  refine ⟨madeCells (Value.cells (.int .u8 0)) (N * i.size), fun W => ?_, List.replicate N 0, by simp, fun j hj => ?_⟩
  · have := run_make (P := Tryd.prog) W 37 5 i (.int .u8 0) Tryd.underlying37 hi hz0 .i64 .i64 (N : Int) (N : Int) (by omega) (by omega) (by rw [hz2]; omega) (by omega)
    simpa using this
  · rw [hz1]
    simp [madeCells, Value.cells, List.getD_eq_getElem?_getD, hj, Nat.mod_one]

def dsU (k : Nat) : List Int := (List.range k).map fun (i : Nat) => (i : Int)
theorem dsU_snoc (k : Nat) : dsU (k + 1) = dsU k ++ [(k : Int)] := by simp [dsU, List.range_succ]
theorem dsU_len (k : Nat) : (dsU k).length = k := by simp [dsU]
/-- The world in which the three lists of users lie. -/
def wThree (w5 : World) (A3 : Option Addr) (j c3 p3 : Nat) (d4 : Int) : World :=
  (((((w5.alloc (Obj.cells #[Value.int IntKind.i64 d4] 3)).alloc (Obj.cells #[.string sBob, .int .i64 (1 + p3), .slice (some ⟨w5.heap.size, 0, none⟩) 1 1] 40)).alloc (Obj.cells #[.string sAnn, .int .i64 4, .slice A3 j c3] 40)).alloc (Obj.cells #[.string sBob, .int .i64 (1 + p3), .slice (some ⟨w5.heap.size, 0, none⟩) 1 1] 40)).alloc (Obj.cells #[.string sAnn, .int .i64 4, .slice A3 j c3, .string sBob, .int .i64 (1 + p3), .slice (some ⟨w5.heap.size, 0, none⟩) 1 1] 40)).alloc (Obj.cells #[.slice (some ⟨w5.heap.size + 1 + 1, 0, none⟩) 1 1, .slice (some ⟨w5.heap.size + 1 + 1 + 1, 0, none⟩) 1 1, .slice (some ⟨w5.heap.size + 1 + 1 + 1 + 1, 0, none⟩) 2 2] 26)
def uAnn (j : Nat) : UserD := (sAnn, 4, dsU j)
def uBob (p3 : Nat) (d4 : Int) : UserD := (sBob, 1 + p3, [d4])
theorem three_at (w5 : World) (A3 : Option Addr) (j c3 p3 : Nat) (d4 : Int) (hI : IntsAt w5 A3 (dsU j)) (hj : j ≤ 17) :
    Und w5 (wThree w5 A3 j c3 p3 d4) ∧ UsersAt (wThree w5 A3 j c3 p3 d4) (some ⟨w5.heap.size + 1 + 1, 0, none⟩) [uAnn j] ∧ UsersAt (wThree w5 A3 j c3 p3 d4) (some ⟨w5.heap.size + 1 + 1 + 1, 0, none⟩) [uBob p3 d4] ∧
    UsersAt (wThree w5 A3 j c3 p3 d4) (some ⟨w5.heap.size + 1 + 1 + 1 + 1, 0, none⟩) [uAnn j, uBob p3 d4] ∧
    (wThree w5 A3 j c3 p3 d4).cell? ⟨w5.heap.size + 1 + 1 + 1 + 1 + 1, 0, none⟩ = some (.slice (some ⟨w5.heap.size + 1 + 1, 0, none⟩) 1 1) ∧
    (wThree w5 A3 j c3 p3 d4).cell? ⟨w5.heap.size + 1 + 1 + 1 + 1 + 1, 1, none⟩ = some (.slice (some ⟨w5.heap.size + 1 + 1 + 1, 0, none⟩) 1 1) ∧
    (wThree w5 A3 j c3 p3 d4).cell? ⟨w5.heap.size + 1 + 1 + 1 + 1 + 1, 2, none⟩ = some (.slice (some ⟨w5.heap.size + 1 + 1 + 1 + 1, 0, none⟩) 2 2) := by
  have hu : Und w5 (wThree w5 A3 j c3 p3 d4) := (by repeat (first | exact Und.refl _ | assumption | refine Und.under ?_ _ | refine Und.alloc ?_ _ | refine Und.drew ?_ | refine Und.drewN ?_ _))
  have hs : (wThree w5 A3 j c3 p3 d4).heap.size = w5.heap.size + 6 := by simp [wThree]
  have hia := hI.und hu
  have hl : (dsU j).length = j := dsU_len j
  have a0 : (wThree w5 A3 j c3 p3 d4).cell? ⟨w5.heap.size, 0, none⟩ = some (.int .i64 d4) := by unfold wThree; go_simp
  have b0 : (wThree w5 A3 j c3 p3 d4).cell? ⟨w5.heap.size + 1 + 1, 0, none⟩ = some (.string sAnn) := by unfold wThree; go_simp
  have b1 : (wThree w5 A3 j c3 p3 d4).cell? ⟨w5.heap.size + 1 + 1, 1, none⟩ = some (.int .i64 4) := by unfold wThree; go_simp
  have b2 : (wThree w5 A3 j c3 p3 d4).cell? ⟨w5.heap.size + 1 + 1, 2, none⟩ = some (.slice A3 j c3) := by unfold wThree; go_simp
  have c0 : (wThree w5 A3 j c3 p3 d4).cell? ⟨w5.heap.size + 1 + 1 + 1, 0, none⟩ = some (.string sBob) := by unfold wThree; go_simp
  have c1 : (wThree w5 A3 j c3 p3 d4).cell? ⟨w5.heap.size + 1 + 1 + 1, 1, none⟩ = some (.int .i64 (1 + p3)) := by unfold wThree; go_simp
  have c2 : (wThree w5 A3 j c3 p3 d4).cell? ⟨w5.heap.size + 1 + 1 + 1, 2, none⟩ = some (.slice (some ⟨w5.heap.size, 0, none⟩) 1 1) := by unfold wThree; go_simp
  have d0 : (wThree w5 A3 j c3 p3 d4).cell? ⟨w5.heap.size + 1 + 1 + 1 + 1, 0, none⟩ = some (.string sAnn) := by unfold wThree; go_simp
  have d1 : (wThree w5 A3 j c3 p3 d4).cell? ⟨w5.heap.size + 1 + 1 + 1 + 1, 1, none⟩ = some (.int .i64 4) := by unfold wThree; go_simp
  have d2 : (wThree w5 A3 j c3 p3 d4).cell? ⟨w5.heap.size + 1 + 1 + 1 + 1, 2, none⟩ = some (.slice A3 j c3) := by unfold wThree; go_simp
  have d3 : (wThree w5 A3 j c3 p3 d4).cell? ⟨w5.heap.size + 1 + 1 + 1 + 1, 3, none⟩ = some (.string sBob) := by unfold wThree; go_simp
  have dd4 : (wThree w5 A3 j c3 p3 d4).cell? ⟨w5.heap.size + 1 + 1 + 1 + 1, 4, none⟩ = some (.int .i64 (1 + p3)) := by unfold wThree; go_simp
  have d5 : (wThree w5 A3 j c3 p3 d4).cell? ⟨w5.heap.size + 1 + 1 + 1 + 1, 5, none⟩ = some (.slice (some ⟨w5.heap.size, 0, none⟩) 1 1) := by unfold wThree; go_simp
  have e0 : (wThree w5 A3 j c3 p3 d4).cell? ⟨w5.heap.size + 1 + 1 + 1 + 1 + 1, 0, none⟩ = some (.slice (some ⟨w5.heap.size + 1 + 1, 0, none⟩) 1 1) := by unfold wThree; go_simp
  have e1 : (wThree w5 A3 j c3 p3 d4).cell? ⟨w5.heap.size + 1 + 1 + 1 + 1 + 1, 1, none⟩ = some (.slice (some ⟨w5.heap.size + 1 + 1 + 1, 0, none⟩) 1 1) := by unfold wThree; go_simp
  have e2 : (wThree w5 A3 j c3 p3 d4).cell? ⟨w5.heap.size + 1 + 1 + 1 + 1 + 1, 2, none⟩ = some (.slice (some ⟨w5.heap.size + 1 + 1 + 1 + 1, 0, none⟩) 2 2) := by unfold wThree; go_simp
  have hib : IntsAt (wThree w5 A3 j c3 p3 d4) (some ⟨w5.heap.size, 0, none⟩) [d4] := by
    intro _
    refine ⟨_, 0, rfl, by omega, fun i hi => ?_⟩
    obtain rfl : i = 0 := by simp at hi; omega
    exact a0
  have b2' : (wThree w5 A3 j c3 p3 d4).cell? ⟨w5.heap.size + 1 + 1, 2, none⟩ = some (.slice A3 (dsU j).length c3) := by rw [hl]; exact b2
  have d2' : (wThree w5 A3 j c3 p3 d4).cell? ⟨w5.heap.size + 1 + 1 + 1 + 1, 2, none⟩ = some (.slice A3 (dsU j).length c3) := by rw [hl]; exact d2
  refine ⟨hu, fun _ => ⟨_, 0, rfl, by omega, fun i hi => ?_⟩, fun _ => ⟨_, 0, rfl, by omega, fun i hi => ?_⟩, fun _ => ⟨_, 0, rfl, by omega, fun i hi => ?_⟩, e0, e1, e2⟩
  · obtain rfl : i = 0 := by simp at hi; omega
    exact ⟨A3, c3, b0, b1, b2', hia, by show 3 ≤ _; omega, by show (dsU j).length ≤ _; omega⟩
  · obtain rfl : i = 0 := by simp at hi; omega
    exact ⟨_, 1, c0, c1, c2, hib, by show 3 ≤ _; omega, by show 1 ≤ _; omega⟩
  · rcases (show i = 0 ∨ i = 1 by simp at hi; omega) with rfl | rfl
    · exact ⟨A3, c3, d0, d1, d2', hia, by show 3 ≤ _; omega, by show (dsU j).length ≤ _; omega⟩
    · exact ⟨_, 1, d3, dd4, d5, hib, by show 3 ≤ _; omega, by show 1 ≤ _; omega⟩

def LmRel (wm : World) (N : Nat) (s44 : Value) (wr : World) : Prop := ∃ k : Nat, k ≤ N ∧ s44 = .int .i64 k ∧ ByAt wr wm.heap.size N ∧ Und wm wr
def LuRel (wn : World) (s12 : Value) (wr : World) : Prop := ∃ (k : Nat) (v : Value), k ≤ 17 ∧ s12 = .int .i64 k ∧ BoxU wr wn.heap.size sAnn 4 v ∧ wr.ownsRow (wn.heap.size + 1) 3 1 v k ((dsU k).map (Value.int .i64)) ∧ Und wn wr
def LsRel (w : World) (s7 s8 : Value) (wr : World) : Prop := ∃ (i : Nat) (t : ByteArray), s8 = .int .i64 i ∧ s7 = .string t ∧ i ≤ 34 ∧ t.size + 11 * i ≤ 374 ∧ Und w wr

set_option maxRecDepth 20000 in
set_option maxHeartbeats 6400000 in
theorem limitslaw_any (n size document : Int) (w : World) (hL : LibAt w) :
    Calls Tryd.prog 6 #[.int .i64 n, .int .i64 size, .int .i64 document] w fun e w' => e = .returned (.bool true) ∧ Und w w' := by
  have HL := hid hL
  obtain ⟨m, hm⟩ := hL.len
  have HM := hid hm
  have hb := World.block_lt_of_cell? _ _ hm
  simp only at hb
  clear hL hm
  have hp1 := fun W => place_any n 3 W (by omega) (by omega)
  have hp2 := fun W => place_any size 3 W (by omega) (by omega)
  have hp3 := fun W => place_any size 5 W (by omega) (by omega)
  have hp4 := fun W => place_any document 4 W (by omega) (by omega)
  have a1 := Int.emod_nonneg n (show (3 : Int) ≠ 0 by omega)
  have a2 := Int.emod_nonneg size (show (3 : Int) ≠ 0 by omega)
  have a3 := Int.emod_nonneg size (show (5 : Int) ≠ 0 by omega)
  have a4 := Int.emod_nonneg document (show (4 : Int) ≠ 0 by omega)
  have b1 := Int.emod_lt_of_pos n (show (0 : Int) < 3 by omega)
  have b2 := Int.emod_lt_of_pos size (show (0 : Int) < 3 by omega)
  have b3 := Int.emod_lt_of_pos size (show (0 : Int) < 5 by omega)
  have b4 := Int.emod_lt_of_pos document (show (0 : Int) < 4 by omega)
  generalize n % 3 = p1 at hp1 a1 b1
  generalize size % 3 = p2 at hp2 a2 b2
  generalize size % 5 = p3 at hp3 a3 b3
  generalize document % 4 = p4 at hp4 a4 b4
  obtain ⟨p1, rfl⟩ : ∃ k : Nat, p1 = k := ⟨p1.toNat, by omega⟩
  obtain ⟨p2, rfl⟩ : ∃ k : Nat, p2 = k := ⟨p2.toNat, by omega⟩
  obtain ⟨p3, rfl⟩ : ∃ k : Nat, p3 = k := ⟨p3.toNat, by omega⟩
  obtain ⟨p4, rfl⟩ : ∃ k : Nat, p4 = k := ⟨p4.toNat, by omega⟩
  obtain ⟨N, hN⟩ : ∃ N : Nat, N = 65535 + p2 := ⟨_, rfl⟩
  obtain ⟨cs0, hmk, hcs⟩ := make_bytes N (by omega)
  have hN' : (65535 : Int) + (p2 : Int) = (N : Int) := by omega
  have hN1 : N ≤ 65537 := by omega
  have hN2 : 65535 ≤ N := by omega
  clear hN
  obtain ⟨d4, hd4⟩ : ∃ d : Int, (#[.int .i64 (-1), .int .i64 0, .int .i64 15, .int .i64 16] : Array Value)[p4]? = some (.int .i64 d) := by
    rcases (show p4 = 0 ∨ p4 = 1 ∨ p4 = 2 ∨ p4 = 3 by omega) with rfl | rfl | rfl | rfl
    · exact ⟨-1, rfl⟩
    · exact ⟨0, rfl⟩
    · exact ⟨15, rfl⟩
    · exact ⟨16, rfl⟩
  have HD4 := hid hd4
  obtain ⟨ii, hi, hz0, hz1, hz2⟩ := info_parts info_int
  have HII := hid (And.intro hi (And.intro hz0 (And.intro hz1 hz2)))
  have HMK := hid hmk
  have HCS := hid hcs
  clear hmk hcs hd4 hi hz0 hz1 hz2
  have HP1 := hid hp1
  have HP2 := hid hp2
  have HP3 := hid hp3
  have HP4 := hid hp4
  clear hp1 hp2 hp3 hp4 a1 a2 a3 a4
  go_enter Tryd.func6, Tryd.ntmps6
  go_wp2_with (go_at_call 9; refine (HP1.out _).mono ?_; rintro e w' ⟨rfl, rfl⟩)
  go_loopw [7, 8] (fun s7 s8 wr => LsRel w s7 s8 wr) (fun _ s8 _ => (intOf s8).toNat)
  case atStart => exact ⟨p1 + 31, ⟨#[]⟩, congrArg (Value.int .i64) (by omega), rfl, by omega, by show 0 + _ ≤ _; omega, (by repeat (first | exact Und.refl _ | assumption | refine Und.under ?_ _ | refine Und.alloc ?_ _ | refine Und.drew ?_ | refine Und.drewN ?_ _))⟩
  case round =>
    obtain ⟨i, t, rfl, rfl, hi, ht, hu⟩ := hrel
    have HU := hid hu
    clear hu
    by_cases h0 : i = 0
    · subst h0
      have hmk := HMK.out
      have hts : t.size ≤ 374 := by omega
      clear ht hi
      go_wp2_with (go_at_call 9; refine (HP2.out _).mono ?_; rintro e w' ⟨rfl, rfl⟩)
      have hba : ByAt (wr.alloc (.cells cs0 5)) wr.heap.size N := ⟨cs0, heap_alloc_new wr _, HCS.out⟩
      have HBA := hid hba
      clear hmk hba
      obtain ⟨wm, rfl⟩ : ∃ wm : World, wm = wr := ⟨_, rfl⟩
      have hwm : Und wm (wm.alloc (.cells cs0 5)) := (by repeat (first | exact Und.refl _ | assumption | refine Und.under ?_ _ | refine Und.alloc ?_ _ | refine Und.drew ?_ | refine Und.drewN ?_ _))
      have HWM := hid hwm
      clear hwm
      go_loopw [44] (fun s44 wr' => LmRel wm N s44 wr') (fun s44 _ => N + 1 - (intOf s44).toNat)
      case atStart => exact ⟨0, by omega, rfl, HBA.out, HWM.out⟩
      case round =>
        clear HBA HWM
        obtain ⟨k, hk, rfl, hB, hu2⟩ := hrel
        obtain ⟨wq, rfl⟩ : ∃ wq : World, wq = wr := ⟨_, rfl⟩
        have HB2 := hid hB
        have HU2 := hid hu2
        by_cases hkl : k < N
        · obtain ⟨⟨x, c1⟩, c2, c3⟩ := hB.cell k hkl
          haveI : LtW wm.heap.size wq := LtW.of c3
          clear hB hu2
          go_wp2_with fail
          refine ⟨⟨k + 1, by omega, rfl, HB2.out.set k 97 hkl, HU2.out.of_gb (gb_set _ _ _) (fun g e => by cases e; exact Nat.le_refl _)⟩, by simp [intOf]; omega⟩
        · have hkn : k = N := by omega
          have hgl : wm.heap.size < wq.heap.size := (hB.cell 0 (by omega)).2.2
          clear hB hu2 hkl hk
          subst hkn
          have hbx : BoxU (wq.alloc (.cells #[.string sAnn, .int .i64 4, .slice none 0 0] 40)) wq.heap.size sAnn 4 (.slice none 0 0) := ⟨by simp, by simp, by simp, Lib.frozen_of_heap (heap_alloc_new wq _) 2⟩
          have hux : Und wq (wq.alloc (.cells #[.string sAnn, .int .i64 4, .slice none 0 0] 40)) := (by repeat (first | exact Und.refl _ | assumption | refine Und.under ?_ _ | refine Und.alloc ?_ _ | refine Und.drew ?_ | refine Und.drewN ?_ _))
          have HBX := hid hbx
          have HUX := hid hux
          clear hbx hux
          go_wp2
          go_loopw [12] (fun s12 wr' => LuRel wq s12 wr') (fun s12 _ => 18 - (intOf s12).toNat)
          case atStart => exact ⟨0, _, by omega, rfl, HBX.out, by simpa [dsU] using World.ownsRow_nil _ _ _ _, HUX.out⟩
          case round =>
            clear HBX HUX
            obtain ⟨j, v, hj, rfl, hbo, hown, hu3⟩ := hrel
            obtain ⟨A3, c3, rfl, hc3, hc4⟩ := own_slice hown
            obtain ⟨b0, b1', b2', b3'⟩ := hbo
            have hUl := World.block_lt_of_cell? _ _ b0
            simp only at hUl
            haveI : LtW wq.heap.size wr := LtW.of hUl
            have HBO := hid (show BoxU wr wq.heap.size sAnn 4 (.slice A3 j c3) from ⟨b0, b1', b2', b3'⟩)
            have HOW := hid hown
            have HU3 := hid hu3
            clear hown hu3
            by_cases hjl : j < 15 + p1
            · have hjl' : (j : Int) < 15 + (p1 : Int) := by omega
              obtain ⟨hi, hz0, hz1, hz2⟩ := HII.out
              go_wp2_with (first | (go_at_call 9; refine (HP1.out _).mono ?_; rintro e w' ⟨rfl, rfl⟩) | (at_builtin; refine wpList_append_own _ rfl _ _ 23 rfl (wq.heap.size + 1) 3 ii (.int .i64 0) 1 8 Tryd.underlying23 hi hz0 hz1 hz2 rfl (by decide) (.slice A3 j c3) j _ rfl (HOW.out.alloc _) _ 1 1 [.int .i64 j] rfl rfl ?_ (by simp; rfl) (by unfold maxLen; omega) (by omega) ?_ ?_))
              · exact side1i _ _
              · simp; omega
              · intro v1 w4 hown4 hgrow4 hnil4
                obtain ⟨A4, c4, rfl, _, _⟩ := own_slice hown4
                have hB4 : BoxU w4 wq.heap.size sAnn 4 (.slice A3 j c3) := (HBO.out.gb (World.grownBy_alloc _ _ none) (by simp)).gb hgrow4 (row_ne HOW.out (by omega))
                have hU4 : Und wq w4 := (HU3.out.alloc _).grown hgrow4 (fun g hg => by have := owns_block HOW.out g hg; omega)
                have hO4 : (w4.setCell ⟨wq.heap.size, 2, none⟩ (.slice A4 (j + 1) c4)).ownsRow (wq.heap.size + 1) 3 1 (.slice A4 (j + 1) c4) (j + 1) ((dsU (j + 1)).map (Value.int .i64)) := by
                  rw [dsU_snoc, List.map_append]
                  exact ownsRow_setCell_below hown4 (a := ⟨wq.heap.size, 2, none⟩) (by show wq.heap.size < wq.heap.size + 1; omega) _
                have HB4 := hid hB4
                have HU4 := hid hU4
                have HO4 := hid hO4
                obtain ⟨e0, e1, e2, e3⟩ := hB4
                have hUl4 := World.block_lt_of_cell? _ _ e0
                simp only at hUl4
                haveI : LtW wq.heap.size w4 := LtW.of hUl4
                clear hU4 hO4 hown4 hgrow4 hnil4 HBO HOW b0 b1' b2' b3'
                go_wp2
                refine ⟨⟨j + 1, _, by omega, rfl, HB4.out.set _, HO4.out, HU4.out.of_gb (gb_set _ _ _) (fun g e => by cases e; exact Nat.le_refl _)⟩, by simp [intOf]; omega⟩
            · have hjl' : ¬ (j : Int) < 15 + (p1 : Int) := by omega
              go_wp2_with fail
              refine (HP1.out _).mono ?_
              rintro e w' ⟨rfl, rfl⟩
              go_wp2_with fail
              refine (HP3.out _).mono ?_
              rintro e w' ⟨rfl, rfl⟩
              go_wp2_with fail
              refine (HP4.out _).mono ?_
              rintro e w' ⟨rfl, rfl⟩
              have hc5 : (wr.alloc (.cells #[.int .i64 (-1), .int .i64 0, .int .i64 15, .int .i64 16] 3)).cell? ⟨wr.heap.size, p4, none⟩ = some (.int .i64 d4) := by rw [World.cell?_alloc_at _ _ _ _ rfl]; exact HD4.out
              have hu5 : Und wr (wr.alloc (.cells #[.int .i64 (-1), .int .i64 0, .int .i64 15, .int .i64 16] 3)) := (by repeat (first | exact Und.refl _ | assumption | refine Und.under ?_ _ | refine Und.alloc ?_ _ | refine Und.drew ?_ | refine Und.drewN ?_ _))
              generalize wr.alloc (.cells #[.int .i64 (-1), .int .i64 0, .int .i64 15, .int .i64 16] 3) = w5 at hc5 hu5 ⊢
              have hs5 := World.block_lt_of_cell? _ _ hc5
              simp only at hs5
              haveI : LtW wr.heap.size w5 := LtW.of hs5
              have hbo5 := HBO.out.gb (hu5.gb none) (by simp)
              have hown5 := own_und hu5 HOW.out
              have hq5 : wq.heap.size < w5.heap.size := by omega
              haveI : LtW wq.heap.size w5 := LtW.of hq5
              have HU5 := hid (HU3.out.trans hu5)
              have HOW5 := hid hown5
              have hb54 : (p4 : Int) < 4 := b4
              obtain ⟨e0, e1, e2, e3⟩ := hbo5
              have hjl3 : j ≤ 17 := by omega
              clear HBO HOW HU3 hu5 b0 b1' b2' b3' HD4
              have hid5 := ints_own hown5
              have hud := three_at w5 A3 j c3 p3 d4 hid5 hjl3
              have HUD := hid hud
              clear hid5 hown5 hud
              go_wp2_with fail
              rw [show (((((w5.alloc (Obj.cells #[Value.int IntKind.i64 d4] 3)).alloc (Obj.cells #[.string (⟨#[98, 111, 98]⟩ : ByteArray), .int .i64 (1 + p3), .slice (some ⟨w5.heap.size, 0, none⟩) 1 1] 40)).alloc (Obj.cells #[.string sAnn, .int .i64 4, .slice A3 j c3] 40)).alloc (Obj.cells #[.string (⟨#[98, 111, 98]⟩ : ByteArray), .int .i64 (1 + p3), .slice (some ⟨w5.heap.size, 0, none⟩) 1 1] 40)).alloc (Obj.cells #[.string sAnn, .int .i64 4, .slice A3 j c3, .string (⟨#[98, 111, 98]⟩ : ByteArray), .int .i64 (1 + p3), .slice (some ⟨w5.heap.size, 0, none⟩) 1 1] 40)).alloc (Obj.cells #[.slice (some ⟨w5.heap.size + 1 + 1, 0, none⟩) 1 1, .slice (some ⟨w5.heap.size + 1 + 1 + 1, 0, none⟩) 1 1, .slice (some ⟨w5.heap.size + 1 + 1 + 1 + 1, 0, none⟩) 2 2] 26) = wThree w5 A3 j c3 p3 d4 from rfl]
              obtain ⟨hu6, hA, hB6, hC, f0, f1, f2⟩ := HUD.out
              have hy6 := HB2.out.und (HU5.out.trans hu6)
              have hw6 := HU.out.trans (HU2.out.trans (HU5.out.trans hu6))
              generalize wThree w5 A3 j c3 p3 d4 = w6 at hu6 hA hB6 hC f0 f1 f2 hy6 hw6 ⊢
              clear HUD
              obtain ⟨cs6, hh6, L6, hl6, hc6⟩ := hy6
              have hconv := hid (fun W (hW : Und w6 W) => run_convert_bytes_arg (P := Tryd.prog) W 37 5 Tryd.underlying37 Tryd.underlying5 wm.heap.size 0 k k L6 hl6 (fun i hi => by rw [Nat.zero_add, Lib.cell_of_heap ((hW.below.block _ (Array.getElem?_eq_some_iff.1 hh6).1).trans hh6) i]; exact hc6 i hi) 9 Tryd.underlying9)
              have hl6s : (strOfNums L6).size ≤ 65537 := by rw [strOfNums_size, hl6]; omega
              have hv1 := hid (fun W (hW : Und w6 W) => validate_any (some ⟨w5.heap.size + 1 + 1, 0, none⟩) 1 1 [uAnn j] W rfl (by omega) (by omega) (hA.und hW))
              have hr1 := hid (fun W (hW : Und w6 W) => rvalidate_any (some ⟨w5.heap.size + 1 + 1, 0, none⟩) 1 1 [uAnn j] W rfl (by omega) (by omega) (hA.und hW))
              have hv2 := hid (fun W (hW : Und w6 W) => validate_any (some ⟨w5.heap.size + 1 + 1 + 1, 0, none⟩) 1 1 [uBob p3 d4] W rfl (by omega) (by omega) (hB6.und hW))
              have hr2 := hid (fun W (hW : Und w6 W) => rvalidate_any (some ⟨w5.heap.size + 1 + 1 + 1, 0, none⟩) 1 1 [uBob p3 d4] W rfl (by omega) (by omega) (hB6.und hW))
              have hv3 := hid (fun W (hW : Und w6 W) => validate_any (some ⟨w5.heap.size + 1 + 1 + 1 + 1, 0, none⟩) 2 2 [uAnn j, uBob p3 d4] W rfl (by omega) (by omega) (hC.und hW))
              have hr3 := hid (fun W (hW : Und w6 W) => rvalidate_any (some ⟨w5.heap.size + 1 + 1 + 1 + 1, 0, none⟩) 2 2 [uAnn j, uBob p3 d4] W rfl (by omega) (by omega) (hC.und hW))
              generalize validE [uAnn j] = x1 at hv1 hr1
              generalize validE [uBob p3 d4] = x2 at hv2 hr2
              generalize validE [uAnn j, uBob p3 d4] = x3 at hv3 hr3
              have hl0 := hid (fun W (hW : Und w6 W) => HL.out.und (hw6.trans hW))
              have hk0 := hid (fun W (hW : Und w6 W) => known_any m W ((Und.cell (hw6.trans hW) hb).trans HM.out))
              have HW6 := hid hw6
              have hq6 := World.block_lt_of_cell? _ _ f0
              simp only at hq6
              haveI : LtW (w5.heap.size + 1 + 1 + 1 + 1 + 1) w6 := LtW.of hq6
              clear hu6 hA hB6 hC hw6 hh6 hl6 hc6 HB2 HU2 HU HOW5 e0 e1 e2 e3 hc5
              refine wp_loop_rounds 4 ?_
              rw [rounds_succ]
              go_wp2_with (first | (go_at_call 20; refine (hv1.out _ (by repeat (first | exact Und.refl _ | assumption | refine Und.under ?_ _ | refine Und.alloc ?_ _ | refine Und.drew ?_ | refine Und.drewN ?_ _))).mono ?_; rintro e w' ⟨rfl, X1, rfl⟩) | (go_at_call 21; refine (hr1.out _ (by repeat (first | exact Und.refl _ | assumption | refine Und.under ?_ _ | refine Und.alloc ?_ _ | refine Und.drew ?_ | refine Und.drewN ?_ _))).mono ?_; rintro e w' ⟨rfl, X2, rfl⟩))
              rw [rounds_succ]
              go_wp2_with (first | (go_at_call 20; refine (hv2.out _ (by repeat (first | exact Und.refl _ | assumption | refine Und.under ?_ _ | refine Und.alloc ?_ _ | refine Und.drew ?_ | refine Und.drewN ?_ _))).mono ?_; rintro e w' ⟨rfl, X1, rfl⟩) | (go_at_call 21; refine (hr2.out _ (by repeat (first | exact Und.refl _ | assumption | refine Und.under ?_ _ | refine Und.alloc ?_ _ | refine Und.drew ?_ | refine Und.drewN ?_ _))).mono ?_; rintro e w' ⟨rfl, X2, rfl⟩))
              rw [rounds_succ]
              go_wp2_with (first | (go_at_call 20; refine (hv3.out _ (by repeat (first | exact Und.refl _ | assumption | refine Und.under ?_ _ | refine Und.alloc ?_ _ | refine Und.drew ?_ | refine Und.drewN ?_ _))).mono ?_; rintro e w' ⟨rfl, X1, rfl⟩) | (go_at_call 21; refine (hr3.out _ (by repeat (first | exact Und.refl _ | assumption | refine Und.under ?_ _ | refine Und.alloc ?_ _ | refine Und.drew ?_ | refine Und.drewN ?_ _))).mono ?_; rintro e w' ⟨rfl, X2, rfl⟩))
              rw [rounds_succ]
              go_wp2_with fail
              refine (parses_any t _ (by omega) (hl0.out _ (by repeat (first | exact Und.refl _ | assumption | refine Und.under ?_ _ | refine Und.alloc ?_ _ | refine Und.drew ?_ | refine Und.drewN ?_ _)))).mono ?_
              rintro e w8 ⟨rfl, hu8⟩
              have hu8' := ((by repeat (first | exact Und.refl _ | assumption | refine Und.under ?_ _ | refine Und.alloc ?_ _ | refine Und.drew ?_ | refine Und.drewN ?_ _)) : Und w6 _).trans hu8
              have HU8 := hid hu8'
              have hcv := hconv.out w8 hu8'
              clear hu8 hu8'
              go_wp2_with fail
              refine (parses_any (strOfNums L6) _ (by omega) (hl0.out _ (HU8.out.trans (by repeat (first | exact Und.refl _ | assumption | refine Und.under ?_ _ | refine Und.alloc ?_ _ | refine Und.drew ?_ | refine Und.drewN ?_ _))))).mono ?_
              rintro e w9 ⟨rfl, hu9⟩
              have HU9 := hid (HU8.out.trans (((by repeat (first | exact Und.refl _ | assumption | refine Und.under ?_ _ | refine Und.alloc ?_ _ | refine Und.drew ?_ | refine Und.drewN ?_ _)) : Und w8 _).trans hu9))
              clear hu9 hcv
              go_wp2_with (go_at_call 12; refine (hk0.out _ (HU9.out.trans (by repeat (first | exact Und.refl _ | assumption | refine Und.under ?_ _ | refine Und.alloc ?_ _ | refine Und.drew ?_ | refine Und.drewN ?_ _)))).mono ?_; rintro e w' ⟨rfl, X9, rfl⟩)
              go_ret
              exact ⟨rfl, HW6.out.trans (HU9.out.trans (by repeat (first | exact Und.refl _ | assumption | refine Und.under ?_ _ | refine Und.alloc ?_ _ | refine Und.drew ?_ | refine Und.drewN ?_ _)))⟩
    · have hi0 : 0 < i := by omega
      go_wp2_with fail
      refine ⟨⟨i - 1, _, congrArg (Value.int .i64) (by omega), rfl, by omega, ?_, HU.out.trans (by repeat (first | exact Und.refl _ | assumption | refine Und.under ?_ _ | refine Und.alloc ?_ _ | refine Und.drew ?_ | refine Und.drewN ?_ _))⟩, by simp [intOf]; omega⟩
      rw [size_ap, size_ap, size_ap]
      have e1 : (⟨#[117]⟩ : ByteArray).size = 1 := rfl
      have e2 : (⟨#[32, 114, 101, 97, 100, 101, 114, 10]⟩ : ByteArray).size = 8 := rfl
      have e3 : (⟨#[97 + UInt8.ofNat (i % 26), 97 + UInt8.ofNat (i / 26)]⟩ : ByteArray).size = 2 := rfl
      omega
end Go.Proofs.YthgmlkeojhfijaaDoor
