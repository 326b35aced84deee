/- The contracts of library functions at the fixed texts of the laws' example. -/
import Derived.Test.YthgmlkeojhfijaaDoorNames
import Derived.LoopN
import Derived.Lib.ConvBytes
import Derived.Lib.Strings
namespace Go.Proofs.YthgmlkeojhfijaaDoor
open Go.RowKit

def sAnn : ByteArray := ⟨#[97, 110, 110]⟩
def sBob : ByteArray := ⟨#[98, 111, 98]⟩
def sEve : ByteArray := ⟨#[101, 118, 101]⟩

theorem at0 (c : UInt8) (h : 0 < (⟨#[c]⟩ : ByteArray).size) : (⟨#[c]⟩ : ByteArray)[0] = c := rfl
theorem conv_s1 (c : UInt8) (w : World) : ∃ cap X, (convert 9 37 (.string ⟨#[c]⟩)).run Tryd.prog w = .ok (.slice (some ⟨w.heap.size, 0, none⟩) 1 cap) (under w X) ∧ (under w X).cell? ⟨w.heap.size, 0, none⟩ = some (.int .u8 c.toNat) := by
  have hb : Below w.heap.size w (Lib.bytesWorld w 5 ⟨#[c]⟩) := ⟨rfl, rfl, rfl, by rw [Lib.bytesWorld_size]; omega, fun k hk => Lib.bytesWorld_at_old w _ _ k hk⟩
  refine ⟨grownCap w (⟨#[c]⟩ : ByteArray).size 0 5, Lib.bytesWorld w 5 ⟨#[c]⟩, ?_, ?_⟩
  · rw [under_eq hb]
    exact Lib.run_convert_string_bytes w 9 37 5 ⟨#[c]⟩ Tryd.underlying9 Tryd.underlying37 Tryd.underlying5
  · rw [under_eq hb]
    exact Lib.bytesWorld_cell w _ ⟨#[c]⟩ 0 Nat.zero_lt_one

set_option maxRecDepth 20000 in
set_option maxHeartbeats 1600000 in
theorem iatoi1 (c : UInt8) (w : World) (h : 48 ≤ c.toNat) (h9 : c.toNat ≤ 57) : Calls Tryd.prog 62 #[.string ⟨#[c]⟩] w fun e w' => e = .returned (.tuple #[.int .i64 ((c.toNat : Int) - 48), .nilIface]) ∧ Und w w' := by
  obtain ⟨cap, X, hc, hcell⟩ := conv_s1 c w
  have f1 : ((c.toNat : Int) == 45) = false := by simp; omega
  have f2 : ((c.toNat : Int) == 43) = false := by simp; omega
  have f3 : ((c.toNat : Int) - 48) % 256 = (c.toNat : Int) - 48 := by omega
  have f4 : ¬ ((9 : Int) < (c.toNat : Int) - 48) := by omega
  have f0 := at0 c
  have f5 : (c.toNat : Int).toNat = c.toNat := by omega
  go_enter Tryd.func62, Tryd.ntmps62
  go_wp2
  refine wp_loop_rounds 2 ?_
  rw [rounds_succ]
  go_wp2
  rw [rounds_succ]
  go_wp2
  go_ret2
  exact ⟨rfl, ⟨X, rfl⟩⟩

set_option maxHeartbeats 1600000 in
theorem atoi1 (c : UInt8) (w : World) (h : 48 ≤ c.toNat) (h9 : c.toNat ≤ 57) : Calls Tryd.prog 55 #[.string ⟨#[c]⟩] w fun e w' => e = .returned (.tuple #[.int .i64 ((c.toNat : Int) - 48), .nilIface]) ∧ Und w w' := by
  go_enter Tryd.func55, Tryd.ntmps55
  go_wp2_with (go_at_call 62; refine (iatoi1 c _ h h9).mono ?_; rintro e w' ⟨rfl, X, rfl⟩)
  go_ret2
  exact ⟨rfl, (by repeat (first | exact Und.refl _ | assumption | refine Und.under ?_ _ | refine Und.alloc ?_ _ | refine Und.drew ?_ | refine Und.drewN ?_ _))⟩

/-- The words of the roles. -/
def sReader : ByteArray := ⟨#[114, 101, 97, 100, 101, 114]⟩
def sTranslator : ByteArray := ⟨#[116, 114, 97, 110, 115, 108, 97, 116, 111, 114]⟩
def sReviewer : ByteArray := ⟨#[114, 101, 118, 105, 101, 119, 101, 114]⟩
def sManager : ByteArray := ⟨#[109, 97, 110, 97, 103, 101, 114]⟩

theorem roles_any (w : World) : Calls Tryd.prog 37 #[] w fun e w' => e = .returned (.slice (some ⟨w.heap.size, 0, none⟩) 4 4) ∧ w' = w.alloc (.cells #[.string sReader, .string sTranslator, .string sReviewer, .string sManager] 9) := by
  go_enter Tryd.func37, Tryd.ntmps37
  go_wp2
  go_ret
  exact ⟨rfl, rfl⟩

set_option maxHeartbeats 1600000 in
theorem index_reviewer (b : Nat) (w : World) (h0 : w.cell? ⟨b, 0, none⟩ = some (.string sReader)) (h1 : w.cell? ⟨b, 1, none⟩ = some (.string sTranslator)) (h2 : w.cell? ⟨b, 2, none⟩ = some (.string sReviewer)) :
    Calls Tryd.prog 54 #[.slice (some ⟨b, 0, none⟩) 4 4, .string sReviewer] w fun e w' => e = .returned (.int .i64 2) ∧ w = w' := by
  have e0 : (sReviewer.toList == sReader.toList) = false := by rw [Lib.toList_data, Lib.toList_data]; decide
  have e1 : (sReviewer.toList == sTranslator.toList) = false := by rw [Lib.toList_data, Lib.toList_data]; decide
  have e2 : (sReviewer.toList == sReviewer.toList) = true := beq_self_eq_true _
  go_enter Tryd.func54, Tryd.ntmps54
  go_wp2
  refine wp_loop_rounds 3 ?_
  rw [rounds_succ]
  go_wp2
  rw [rounds_succ]
  go_wp2
  rw [rounds_succ]
  go_wp2
  go_ret
  exact ⟨rfl, rfl⟩
set_option maxHeartbeats 1600000 in
theorem index_reader (b : Nat) (w : World) (h0 : w.cell? ⟨b, 0, none⟩ = some (.string sReader)) :
    Calls Tryd.prog 54 #[.slice (some ⟨b, 0, none⟩) 4 4, .string sReader] w fun e w' => e = .returned (.int .i64 0) ∧ w = w' := by
  have e0 : (sReader.toList == sReader.toList) = true := beq_self_eq_true _
  go_enter Tryd.func54, Tryd.ntmps54
  go_wp2
  refine wp_loop_rounds 1 ?_
  rw [rounds_succ]
  go_wp2
  go_ret
  exact ⟨rfl, rfl⟩

/-- A list of users with names ns at address A: what find reads. -/
def NamesAt (w : World) (A : Option Addr) (ns : List ByteArray) : Prop :=
  ns.length > 0 → ∃ b off, A = some ⟨b, off, none⟩ ∧ b < w.heap.size ∧ ∀ i, i < ns.length → ∃ (r : Int) (D : Option Addr) (m c : Nat), w.cell? ⟨b, off + i * 3, none⟩ = some (.string (ns.getD i ByteArray.empty)) ∧ w.cell? ⟨b, off + i * 3 + 1, none⟩ = some (.int .i64 r) ∧ w.cell? ⟨b, off + i * 3 + 2, none⟩ = some (.slice D m c)

def idxFrom (x : ByteArray) : Nat → List ByteArray → Int
  | _, [] => -1
  | k, y :: l => if (y.toList == x.toList) = true then (k : Int) else idxFrom x (k + 1) l
theorem NamesAt.und {w w' : World} {A : Option Addr} {ns : List ByteArray} (h : NamesAt w A ns) (u : Und w w') : NamesAt w' A ns := by
  intro h0
  obtain ⟨b, off, hA, hb, hc⟩ := h h0
  refine ⟨b, off, hA, Nat.lt_of_lt_of_le hb u.size, fun i hi => ?_⟩
  obtain ⟨r, D, m, c, h1, h2, h3⟩ := hc i hi
  exact ⟨r, D, m, c, by rw [u.cell hb]; exact h1, by rw [u.cell hb]; exact h2, by rw [u.cell hb]; exact h3⟩

set_option maxHeartbeats 1600000 in
theorem lit_any (b : Nat) (x y : ByteArray) (r d : Value) (w : World) (hx : w.cell? ⟨b, 0, none⟩ = some (.string x)) :
    Calls Tryd.prog 43 #[.agg #[.string y, r, d], .pointer (some ⟨b, 0, none⟩)] w fun e w' => e = .returned (.bool (y.toList == x.toList)) ∧ Und w w' := by
  haveI : LtW b w := LtW.of (World.block_lt_of_cell? _ _ hx)
  go_enter Tryd.func43, Tryd.ntmps43
  go_wp2
  go_ret
  exact ⟨rfl, (by repeat (first | exact Und.refl _ | assumption | refine Und.under ?_ _ | refine Und.alloc ?_ _ | refine Und.drew ?_ | refine Und.drewN ?_ _))⟩

def IdxRel (w : World) (x : ByteArray) (ns : List ByteArray) (i : Value) (wr : World) : Prop :=
  ∃ k : Nat, k ≤ ns.length ∧ i = .int .i64 k ∧ idxFrom x 0 ns = idxFrom x k (ns.drop k) ∧ Und w wr

set_option maxHeartbeats 1600000 in
theorem indexfunc_any (A : Option Addr) (c b n : Nat) (x : ByteArray) (ns : List ByteArray) (w : World) (hn : ns.length = n) (h63 : n ≤ 9223372036854775807) (hx : w.cell? ⟨b, 0, none⟩ = some (.string x)) (h : NamesAt w A ns) :
    Calls Tryd.prog 42 #[.slice A n c, .func (.func 43) #[] #[.pointer (some ⟨b, 0, none⟩)]] w fun e w' => e = .returned (.int .i64 (idxFrom x 0 ns)) ∧ Und w w' := by
  have hxb := World.block_lt_of_cell? _ _ hx
  have H := hid h
  have HX := hid hx
  clear h hx
  go_enter Tryd.func42, Tryd.ntmps42
  go_wp2
  go_loopw [5, 8] (fun _ i wr => IdxRel w x ns i wr) (fun _ i _ => n + 1 - (intOf i).toNat)
  case atStart => exact ⟨0, by omega, rfl, by simp, Und.refl _⟩
  case round =>
    obtain ⟨k, hk, rfl, he, u⟩ := hrel
    have HE := hid he
    clear he
    by_cases hlt : k < n
    · have hx' : wr.cell? ⟨b, 0, none⟩ = some (.string x) := by rw [u.cell hxb]; exact HX.out
      obtain ⟨b2, off, rfl, hb2, hc⟩ := (H.out.und u) (by omega)
      obtain ⟨r, D, m', c', h1, h2, h3⟩ := hc k (by omega)
      generalize hy : ns.getD k ByteArray.empty = y at h1
      have hd : ns.drop k = y :: ns.drop (k + 1) := by
        rw [List.drop_eq_getElem_cons (by omega), ← hy]; simp [List.getD_eq_getElem?_getD, List.getElem?_eq_getElem (show k < ns.length by omega)]
      have HD := hid hd
      clear hd hy hc
      cases hq : (y.toList == x.toList)
      · have HQ := hid hq
        go_wp2_with (go_at_call 43; refine (lit_any b x y (.int .i64 r) (.slice D m' c') _ hx').mono ?_; rintro e w' ⟨rfl, X, rfl⟩)
        refine ⟨⟨k + 1, by omega, rfl, ?_, u.under X⟩, by simp [intOf]; omega⟩
        rw [HE.out, HD.out, idxFrom, HQ.out, if_neg (by simp)]
      · have HQ := hid hq
        go_wp2_with (go_at_call 43; refine (lit_any b x y (.int .i64 r) (.slice D m' c') _ hx').mono ?_; rintro e w' ⟨rfl, X, rfl⟩)
        go_ret
        refine ⟨ret_int ?_, u.under X⟩
        rw [HE.out, HD.out, idxFrom, HQ.out, if_pos rfl]
    · have hk' : k = n := by omega
      subst hk'
      go_wp2
      go_ret
      refine ⟨ret_int ?_, u⟩
      rw [HE.out, List.drop_of_length_le (by omega)]
      rfl

set_option maxHeartbeats 1600000 in
theorem find_any (A : Option Addr) (c n : Nat) (x : ByteArray) (ns : List ByteArray) (w : World) (hn : ns.length = n) (h63 : n ≤ 9223372036854775807) (h : NamesAt w A ns) :
    Calls Tryd.prog 28 #[.slice A n c, .string x] w fun e w' => e = .returned (.int .i64 (idxFrom x 0 ns)) ∧ Und w w' := by
  have hmf : ∀ (fn : Fn) (first cap : Array Value) (w : World), (Instr.makeFunc fn first cap).run Tryd.prog w = .ok (.func fn first cap) w := fun _ _ _ _ => rfl
  have h' := h.und ((Und.refl w).alloc (.cells #[.string x] 9))
  have H := hid h'
  clear h h'
  go_enter Tryd.func28, Tryd.ntmps28
  go_wp2_with (go_at_call 42; refine (indexfunc_any A c w.heap.size n x ns _ hn h63 (by simp) H.out).mono ?_; rintro e w' ⟨rfl, X, rfl⟩)
  go_ret
  exact ⟨rfl, (by repeat (first | exact Und.refl _ | assumption | refine Und.under ?_ _ | refine Und.alloc ?_ _ | refine Und.drew ?_ | refine Und.drewN ?_ _))⟩
end Go.Proofs.YthgmlkeojhfijaaDoor
