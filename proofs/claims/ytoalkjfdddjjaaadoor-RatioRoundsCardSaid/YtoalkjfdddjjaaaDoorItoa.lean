/- The contracts of strconv.Itoa at numbers that are not negative, and of strings.Repeat of one byte up to 64 times, over worlds of which only new memory is unknown. Condition of the first: the library's table of powers of ten lies in memory. -/
import Derived.Test.YtoalkjfdddjjaaaDoorShelf
import Derived.Test.YtoalkjfdddjjaaaDoorRows
import Derived.Test.YtoalkjfdddjjaaaDoorUnder
import Derived.WalkSmall
namespace Go.Proofs.YtoalkjfdddjjaaaDoor
open Go.RowKit

/-- The name of the table of powers of ten, as the row lists it. -/
def tabName : String := (Rows.ratioFormatsRow.named).headD "x"
def Tab (w : World) : Prop := Lib.TabIs Tryd.prog w tabName .u64 Lib.pow10Tab

theorem Tab.und {w w' : World} (h : Und w w') (t : Tab w) : Tab w' := by
  unfold Tab Lib.TabIs World.var? at t ⊢
  cases hg : Program.globalNamed Tryd.prog tabName with
  | none => rw [hg] at t; simp at t
  | some g =>
    rw [hg] at t
    simp only [Option.bind_some] at t ⊢
    have hlt : g < w.heap.size := by
      rcases Nat.lt_or_ge g w.heap.size with h | h
      · exact h
      · rw [Array.getElem?_eq_none h] at t; simp at t
    rw [h.below.block g hlt]
    exact t

theorem Und.grow {a b : World} (h : Und a b) (os : Array Obj) : Und a (Go.Sort.grow b os) := by
  refine Und.mk ⟨h.below.os, h.below.tape, h.below.output, ?_, fun k hk => ?_⟩
  · have := h.below.size; unfold Go.Sort.grow; simp; omega
  · unfold Go.Sort.grow
    have := h.below.size
    rw [Array.getElem?_append_left (by omega)]
    exact h.below.block k hk

theorem itoa_any (n : Int) (w : World) (h0 : 0 ≤ n) (h1 : n ≤ 4611686018427387904) (t : Tab w) :
    Calls Tryd.prog 11 #[.int .i64 n] w fun e w' => e = .returned (.string ⟨(Lib.decDigits n.toNat).toArray⟩) ∧ Und w w' := by
  refine (Any.strconv_Itoa Tryd.laysM171 n (by omega) (by omega) w t).mono ?_
  rintro e w' ⟨rfl, k, os, rfl⟩
  refine ⟨?_, ((Und.refl w).drewN k).grow os⟩
  unfold Lib.itoa
  rw [if_neg (by omega)]

theorem repeat_list (b : UInt8) : ∀ c : Nat, Lib.repeatL [b] c = List.replicate c b
  | 0 => rfl
  | c + 1 => by rw [Lib.repeatL, repeat_list b c, List.replicate_succ]; rfl

theorem repeat_any (b : UInt8) (c : Int) (w : World) (h0 : 0 ≤ c) (h1 : c ≤ 64) :
    Calls Tryd.prog 12 #[.string ⟨#[b]⟩, .int .i64 c] w fun e w' => e = .returned (.string ⟨(List.replicate c.toNat b).toArray⟩) ∧ Und w w' := by
  obtain ⟨n, rfl⟩ := Int.eq_ofNat_of_zero_le h0
  refine (Tryd.strings_Repeat ⟨#[b]⟩ n w (by omega) (by show 1 * n ≤ _; omega)).mono ?_
  rintro e w' ⟨rfl, h⟩
  refine ⟨?_, Und.mk h⟩
  rw [show (⟨#[b]⟩ : ByteArray).data.toList = [b] from rfl, repeat_list]
  rfl
end Go.Proofs.YtoalkjfdddjjaaaDoor
