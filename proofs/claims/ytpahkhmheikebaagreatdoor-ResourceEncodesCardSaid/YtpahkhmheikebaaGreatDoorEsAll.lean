/- The contracts of sync.Once's Do, not yet done and done already, one goroutine alone. Condition: the lock is free. The contracts of sync.Once's Do over a Replacer's buildOnce: not yet done, and done already. Condition: the lock is free. The contract of strings.NewReplacer: a Replacer that is not built yet, with the strings given. Condition: an even number of strings, at least one. The table of a byteStringReplacer in memory: what it holds, and how it grows. No function in sight. The contract of a Replacer's build, for a table of single bytes and strings of two bytes or more: what lies in memory. Condition: at least two pairs, all bytes different. A Replacer in memory, built or not yet, and the contract of its buildOnce and Do. Condition: at least two pairs of a byte and a string of two bytes or more, all bytes different. Plain: a text with some bytes replaced, and its length. No program in sight. The contract of a byteStringReplacer's Replace: every byte replaced by what the table lays for it. Condition: texts of at most 160,000 bytes. The contract of a Replacer's Replace. Conditions: a table of two to a hundred different bytes, texts of at most 160,000 bytes. The contracts of item's name and IsContent, and of the library's Cut at a blank. Condition: the text is no longer than a text can be. The contracts of item's isTag, width, Length, fits, wellFormed and Validate: what they give is St.isTagK, St.widthI, St.lenL, no clash, St.wfL, St.validL. Conditions: lists and texts lie in memory and are no longer than they can be. The contracts of item's fits, wellFormed and Validate: what they give is no clash, St.wfL, St.validL. Conditions: lists and texts lie in memory and are no longer than they can be. The contract of resource.Encode: what it gives is St.encS 2. Conditions: the list and its texts lie in memory and are no longer than they can be. Plain: fragments with tags, as they are made step by step. No program in sight. One item of any number in memory. No function in sight. The contract of the maker Fragment with tags that need not be nested: joined items, made step by step. Conditions: as MakeGen's. The contract of the law package's few: what it gives for any items. Condition: the list lies in memory. The walk of ResourceEncodes. Conditions: the lists lie in memory and are no longer than the form's reach, the library's table of powers of ten stands. -/
import Derived.Test.YtpahkhmheikebaaGreatDoorTKept
import Derived.Tactics
import Derived.Tactics2
import Derived.Defers
import Derived.Laws.Pointers
import Derived.Laws.LoneSync
import Derived.RegionTactic
import Derived.RegionCalls
import Derived.ChangeAlike
import Derived.Test.YtpahkhmheikebaaGreatDoorItems
import Derived.Test.YtpahkhmheikebaaGreatDoorItemBox
import Derived.Laws.MakeOwn
import Derived.Deep.WholeRow
import Derived.Lib.ConvBytes
import Derived.Test.YtpahkhmheikebaaGreatDoorShelf
import Derived.Test.YtpahkhmheikebaaGreatDoorFacts
import Derived.Laws.CopyRow
import Derived.Laws.CopyOwn
import Derived.Laws.OwnMore
import Derived.BigQuiet
import Derived.Lib.Bytealg
import Derived.Test.YtpahkhmheikebaaGreatDoorRefCheck
import Derived.Lib.IndexBytes
import Derived.Test.YtpahkhmheikebaaGreatDoorRefEnc
import Derived.Test.YtpahkhmheikebaaGreatDoorItemPl
import Derived.Test.YtpahkhmheikebaaGreatDoorNormPlain
import Derived.Test.YtpahkhmheikebaaGreatDoorMakeFrag
import Derived.Test.YtpahkhmheikebaaGreatDoorRefItem
import Derived.IntWalk
import Derived.Deep.RegionHeld3
import Derived.OrdersHeld
import Derived.Test.YtpahkhmheikebaaGreatDoorResKnown

namespace Go.Proofs.YtpahkhmheikebaaGreatDoor
open Go.RowKit

theorem on_disable (w : World) : (callFunc 106 #[]).run Tryz.prog w = .ok (.value (.tuple #[])) w := run_call_mark0 Tryz.func106 (by kernel_rfl) (by kernel_rfl) (by kernel_rfl) .disable (by kernel_rfl) w
theorem on_enable (w : World) : (callFunc 108 #[]).run Tryz.prog w = .ok (.value (.tuple #[])) w := run_call_mark0 Tryz.func108 (by kernel_rfl) (by kernel_rfl) (by kernel_rfl) .enable (by kernel_rfl) w
theorem on_acquire (a : Addr) (w : World) : (callFunc 109 #[.pointer (some a)]).run Tryz.prog w = .ok (.value (.tuple #[])) w := run_call_marked Tryz.func109 (by kernel_rfl) (by kernel_rfl) (by kernel_rfl) .acquire (by kernel_rfl) a w
theorem on_release (a : Addr) (w : World) : (callFunc 111 #[.pointer (some a)]).run Tryz.prog w = .ok (.value (.tuple #[])) w := run_call_marked Tryz.func111 (by kernel_rfl) (by kernel_rfl) (by kernel_rfl) .releaseMerge (by kernel_rfl) a w

set_option maxRecDepth 100000 in
set_option maxHeartbeats 1600000 in
theorem store_deferred (a : Addr) (x : Value) (u : FrameMode) (w : World) (hc : w.cell? a = some x) (hz : w.frozen? a = false) :
    CallsD Tryz.prog 85 #[.pointer (some a), .bool true] u w fun e u' w' => u' = u ∧ (e = .returned (.tuple #[]) ∧ w' = w.drew.setCell a (.int .u32 1)) := by
  have hc' : w.drew.cell? a = some x := by go_simp
  have hz' : w.drew.frozen? a = false := by go_simp
  have hst := run_call_store (P := Tryz.prog) Tryz.func96 (by kernel_rfl) (by kernel_rfl) (by kernel_rfl) (by kernel_rfl) (k := .u32) (y := 1) hc' hz'
  go_enter_d Tryz.func85, Tryz.ntmps85
  go_wp2
  go_region_calls
  all_goals (go_end0; exact ⟨rfl, rfl⟩)
set_option maxRecDepth 100000 in
set_option maxHeartbeats 1600000 in
theorem unlock_deferred (a : Addr) (u : FrameMode) (w : World) (hc : w.cell? a = some (.int .i32 1)) (hz : w.frozen? a = false) :
    CallsD Tryz.prog 84 #[.pointer (some a)] u w fun e u' w' => u' = u ∧ (e = .returned (.tuple #[]) ∧ w' = w.setCell a (.int .i32 0)) := by
  have hd := on_disable
  have he := on_enable
  have hr := on_release
  have hadd := run_call_add (P := Tryz.prog) Tryz.func112 (by kernel_rfl) (by kernel_rfl) (by kernel_rfl) .i32 (by kernel_rfl) (y := -1) (s := 0) hc hz (by simp [go_sem]; rfl)
  have hcv := run_convert_to_unsafe (P := Tryz.prog) (src := 175) (dst := 179) Tryz.underlying175 Tryz.underlying179 (by kernel_rfl) hc
  go_enter_d Tryz.func84, Tryz.ntmps84
  go_wp2
  go_end0
  go_wp2
  go_end0
  exact ⟨rfl, rfl⟩
set_option maxRecDepth 100000 in
set_option maxHeartbeats 1600000 in
theorem lock_free (a : Addr) (w : World) (hc : w.cell? a = some (.int .i32 0)) (hz : w.frozen? a = false) :
    Calls Tryz.prog 83 #[.pointer (some a)] w fun e w' => e = .returned (.tuple #[]) ∧ w' = w.setCell a (.int .i32 1) := by
  have hd := on_disable
  have he := on_enable
  have ha := on_acquire
  have hcas := run_call_cas_hit (P := Tryz.prog) Tryz.func107 (by kernel_rfl) (by kernel_rfl) (by kernel_rfl) .i32 (by kernel_rfl) (y := 1) hc hz
  have hc' : (w.setCell a (.int .i32 1)).cell? a = some (.int .i32 1) := World.cell?_setCell_same w a _ hc
  have hcv := run_convert_to_unsafe (P := Tryz.prog) (src := 175) (dst := 179) Tryz.underlying175 Tryz.underlying179 (by kernel_rfl) hc'
  go_enter Tryz.func83, Tryz.ntmps83
  go_wp2
  first | go_end0 | (simp only [Exit.inBlock, Exit.then]; refine bodyPost_ret (results_none rfl _ _ _) rfl ?_) | refine bodyPost_ret (results_none rfl _ _ _) rfl ?_
  go_wp2
  go_end0
  exact ⟨rfl, rfl⟩
end Go.Proofs.YtpahkhmheikebaaGreatDoor

namespace Go.Proofs.YtpahkhmheikebaaGreatDoor
open Go.RowKit

set_option maxRecDepth 100000 in
set_option maxHeartbeats 1600000 in
theorem slow_any (b : Nat) (w : World) (Post : World → Prop) (h0 : w.cell? ⟨b, 0, none⟩ = some (.int .u32 0)) (h1 : w.cell? ⟨b, 1, none⟩ = some (.int .i32 0)) (f0 : w.frozen? ⟨b, 0, none⟩ = false) (f1 : w.frozen? ⟨b, 1, none⟩ = false)
    (hF : Calls Tryz.prog 54 #[.pointer (some ⟨b, 0, none⟩)] (w.setCell ⟨b, 1, none⟩ (.int .i32 1)) fun e w2 => e = .returned (.tuple #[]) ∧ Post w2)
    (hP : ∀ w2, Post w2 → w2.cell? ⟨b, 0, none⟩ = some (.int .u32 0) ∧ w2.cell? ⟨b, 1, none⟩ = some (.int .i32 1) ∧ w2.frozen? ⟨b, 0, none⟩ = false ∧ w2.frozen? ⟨b, 1, none⟩ = false) :
    Calls Tryz.prog 67 #[.pointer (some ⟨b, 0, none⟩), .func (.func 54) #[.pointer (some ⟨b, 0, none⟩)] #[]] w fun e w' => e = .returned (.tuple #[]) ∧
      ∃ w2, Post w2 ∧ w' = (w2.drew.setCell ⟨b, 0, none⟩ (.int .u32 1)).setCell ⟨b, 1, none⟩ (.int .i32 0) := by
  have hl := run_call_load (P := Tryz.prog) Tryz.func82 (by kernel_rfl) (by kernel_rfl) (by kernel_rfl) .u32 (by kernel_rfl) (w := w.setCell ⟨b, 1, none⟩ (.int .i32 1)) (a := ⟨b, 0, none⟩) (x := 0) ((World.cell?_setCell_other _ ⟨b, 1, none⟩ ⟨b, 0, none⟩ _ (by simp)).trans h0)
  have hnot : ∀ (x : Bool) (w : World), (Op.unary .not (.bool x)).run Tryz.prog w = .ok (.bool (!x)) w := fun _ _ => rfl
  have HF := hid hF
  clear hF
  go_enter_defers Tryz.func67, Tryz.ntmps67
  go_wp2_with (first | (go_at_call 83; refine (lock_free ⟨b, 1, none⟩ _ (by go_simp) (by go_simp)).mono ?_; rintro e w' ⟨rfl, rfl⟩) | (go_at_call 66; go_in) | (go_at_call 54; refine HF.out.mono ?_; rintro e w2 ⟨rfl, hp⟩))
  obtain ⟨p0, p1, q0, q1⟩ := hP w2 hp
  have HPO := hid hp
  clear hp hl HF
  go_wp2
  refine leaves_cons (f := 85) (args := #[.pointer (some ⟨b, 0, none⟩), .bool true]) (by simp) (by simp [go_sem]) ?_
  refine (store_deferred ⟨b, 0, none⟩ (.int .u32 0) .returning _ p0 q0).mono ?_
  rintro e u' w'' ⟨rfl, rfl, rfl⟩
  refine leaves_cons (f := 84) (args := #[.pointer (some ⟨b, 1, none⟩)]) (by simp [settle]) (by simp [go_sem]) ?_
  refine (unlock_deferred ⟨b, 1, none⟩ _ _ ?_ (by simp [q1])).mono ?_
  · refine (World.cell?_setCell_other _ ⟨b, 0, none⟩ ⟨b, 1, none⟩ _ (by simp)).trans ?_
    rw [World.cell?_drew]
    exact p1
  rintro e u' w'' ⟨rfl, rfl, rfl⟩
  simp [Leaves, settle, results, Tryz.results67]
  exact ⟨w2, HPO.out, rfl⟩

set_option maxRecDepth 100000 in
set_option maxHeartbeats 1600000 in
theorem do_first (b : Nat) (w : World) (Post : World → Prop) (h0 : w.cell? ⟨b, 0, none⟩ = some (.int .u32 0)) (h1 : w.cell? ⟨b, 1, none⟩ = some (.int .i32 0)) (f0 : w.frozen? ⟨b, 0, none⟩ = false) (f1 : w.frozen? ⟨b, 1, none⟩ = false)
    (hF : Calls Tryz.prog 54 #[.pointer (some ⟨b, 0, none⟩)] (w.setCell ⟨b, 1, none⟩ (.int .i32 1)) fun e w2 => e = .returned (.tuple #[]) ∧ Post w2)
    (hP : ∀ w2, Post w2 → w2.cell? ⟨b, 0, none⟩ = some (.int .u32 0) ∧ w2.cell? ⟨b, 1, none⟩ = some (.int .i32 1) ∧ w2.frozen? ⟨b, 0, none⟩ = false ∧ w2.frozen? ⟨b, 1, none⟩ = false) :
    Calls Tryz.prog 53 #[.pointer (some ⟨b, 0, none⟩), .func (.func 54) #[.pointer (some ⟨b, 0, none⟩)] #[]] w fun e w' => e = .returned (.tuple #[]) ∧
      ∃ w2, Post w2 ∧ w' = (w2.drew.setCell ⟨b, 0, none⟩ (.int .u32 1)).setCell ⟨b, 1, none⟩ (.int .i32 0) := by
  have hl := run_call_load (P := Tryz.prog) Tryz.func82 (by kernel_rfl) (by kernel_rfl) (by kernel_rfl) .u32 (by kernel_rfl) h0
  have hnot : ∀ (x : Bool) (w : World), (Op.unary .not (.bool x)).run Tryz.prog w = .ok (.bool (!x)) w := fun _ _ => rfl
  have HS := hid (slow_any b w Post h0 h1 f0 f1 hF hP)
  clear hF hP
  go_enter Tryz.func53, Tryz.ntmps53
  go_wp2_with (first | (go_at_call 67; refine HS.out.mono ?_; rintro e w' ⟨rfl, hw⟩) | (go_at_call 66; go_in))
  go_end0
  exact ⟨rfl, hw⟩
theorem do_done (b : Nat) (fv : Value) (w : World) (h0 : w.cell? ⟨b, 0, none⟩ = some (.int .u32 1)) :
    Calls Tryz.prog 53 #[.pointer (some ⟨b, 0, none⟩), fv] w fun e w' => e = .returned (.tuple #[]) ∧ w' = w := by
  have hl := run_call_load (P := Tryz.prog) Tryz.func82 (by kernel_rfl) (by kernel_rfl) (by kernel_rfl) .u32 (by kernel_rfl) h0
  have hnot : ∀ (x : Bool) (w : World), (Op.unary .not (.bool x)).run Tryz.prog w = .ok (.bool (!x)) w := fun _ _ => rfl
  go_enter Tryz.func53, Tryz.ntmps53
  go_wp2
  go_end0
  exact ⟨rfl, rfl⟩
end Go.Proofs.YtpahkhmheikebaaGreatDoor

namespace Go.Proofs.YtpahkhmheikebaaGreatDoor
open Go.RowKit

theorem info_str : (Tryz.prog.info? 9).map (fun i => (i.zero, i.size, i.bytes)) = some (some (.string ⟨#[]⟩), 1, 16) := by kernel_rfl
/-- A Replacer in a block of the call's own, not built yet. -/
def RepS (st : Int) (w : World) (B rb : Nat) (os : List ByteArray) : Prop :=
  B ≤ rb ∧ ∃ v, w.heap[rb]? = some (Obj.cells #[.int .u32 0, .int .i32 st, .int .u32 0, .nilIface, v] 111 (0, 0)) ∧ w.ownsRow B 9 1 v os.length (os.map Value.string)
abbrev RepF (w : World) (B rb : Nat) (os : List ByteArray) : Prop := RepS 0 w B rb os
theorem RepF.und {a c : World} {B rb : Nat} {os : List ByteArray} (h : RepF a B rb os) (u : Und a c) : RepF c B rb os := by
  obtain ⟨h0, v, h1, h2⟩ := h
  exact ⟨h0, v, (u.below.block rb (lt_of_heap h1)).trans h1, own_und u h2⟩

set_option maxRecDepth 20000 in
set_option maxHeartbeats 3200000 in
theorem newrep_any (ab n : Nat) (os : List ByteArray) (w : World) (hn : os.length = n) (hev : n % 2 = 0) (h0 : n ≤ 1000) (hA : ∀ j u, (os.map Value.string)[j]? = some u → w.cell? ⟨ab, j, none⟩ = some u) :
    Calls Tryz.prog 28 #[.slice (some ⟨ab, 0, none⟩) n n] w fun e w' => ∃ rb, e = .returned (.pointer (some ⟨rb, 0, none⟩)) ∧ RepF w' w.heap.size rb os ∧ Und w w' := by
  obtain ⟨i0, hi, hz0, hz1, hz2⟩ := info_parts info_str
  have y1 : (((n : Int).tmod 2) == 1) = false := by
    rw [Int.tmod_eq_emod_of_nonneg (by omega)]; simp; omega
  have HA := hid hA
  clear hA
  go_enter Tryz.func28, Tryz.ntmps28
  go_wp2_with (at_builtin; refine wpList_append_own _ rfl _ _ 63 rfl w.heap.size 9 i0 (.string ⟨#[]⟩) 1 16 Tryz.underlying63 hi hz0 hz1 hz2 rfl (by decide) (.slice none 0 0) 0 [] rfl (World.ownsRow_nil _ _ _ _) ⟨ab, 0, none⟩ n n (os.map Value.string) rfl (by simp [hn]) ?_ ?_ (by unfold maxLen; omega) (by omega) ?_ ?_)
  · intro j u hj
    rw [show (⟨ab, 0, none⟩ : Addr).add j = ⟨ab, j, none⟩ by unfold Addr.add; split <;> simp_all]
    exact HA.out j u hj
  · intro u hu
    obtain ⟨s, _, rfl⟩ := List.mem_map.1 hu
    rfl
  · exact Nat.le_refl _
  · intro v' w1 hown hgr _
    have hu1 : Und w w1 := (Und.refl w).grown hgr (fun g hg => by cases hg)
    have HO := hid hown
    have HU := hid hu1
    have hsz := hu1.size
    clear hgr hown hu1
    obtain ⟨A', c', rfl, _⟩ := own_slice' HO.out
    go_wp2
    go_ret
    refine ⟨w1.heap.size, rfl, ⟨hsz, _, heap_alloc_new w1 _, ?_⟩, (HU.out).alloc _⟩
    have := HO.out
    subst hn
    exact own_und ((Und.refl w1).alloc _) (by simpa using this)
end Go.Proofs.YtpahkhmheikebaaGreatDoor

namespace Go.Proofs.YtpahkhmheikebaaGreatDoor
open Go.RowKit

@[go_sem] theorem nil_eq (W : World) : (binOp .eql 75 (.slice none 0 0) (.slice none 0 0)).run Tryz.prog W = .ok (.bool true) W := by kernel_rfl
@[go_sem] theorem nil_neq (W : World) : (binOp .neq 75 (.slice none 0 0) (.slice none 0 0)).run Tryz.prog W = .ok (.bool false) W := by kernel_rfl
@[go_sem] theorem some_neq (W : World) (a : Addr) (n c : Nat) : (binOp .neq 75 (.slice (some a) n c) (.slice none 0 0)).run Tryz.prog W = .ok (.bool true) W := by kernel_rfl
abbrev bsT : TypeId := 153
theorem z142 (w : World) : (zeroValue bsT).run Tryz.prog w = .ok (.agg ((Array.replicate 256 (.slice none 0 0)).push (.slice none 0 0))) w := by kernel_rfl
theorem i142 : (Tryz.prog.info? bsT).map (·.size) = some 257 := by kernel_rfl
theorem z_set (v : Value) : ((Array.replicate 256 (Value.slice none 0 0)).push (.slice none 0 0)).toList.set 256 v = ((Array.replicate 256 (Value.slice none 0 0)).push v).toList := by
  have : ∀ a : Array Value, a.size = 256 → (a.push (.slice none 0 0)).toList.set 256 v = (a.push v).toList := by
    intro a h
    rw [Array.toList_push, Array.toList_push, List.set_append_right _ _ (by simp [h])]
    simp [h]
  exact this _ (by simp)
def lookB : List (UInt8 × ByteArray) → UInt8 → Option ByteArray
  | [], _ => none
  | p :: r, c => if p.1 = c then some p.2 else lookB r c
theorem lookB_snoc (l : List (UInt8 × ByteArray)) (p : UInt8 × ByteArray) (c : UInt8) : lookB (l ++ [p]) c = match lookB l c with
    | some s => some s
    | none => if p.1 = c then some p.2 else none := by
  induction l with
  | nil => simp [lookB]
  | cons q l ih =>
    rw [List.cons_append, lookB, lookB]
    split
    · rfl
    · exact ih
theorem lookB_none {l : List (UInt8 × ByteArray)} {c : UInt8} (h : c ∉ l.map (·.1)) : lookB l c = none := by
  induction l with
  | nil => rfl
  | cons q l ih =>
    simp only [List.map_cons, List.mem_cons, not_or] at h
    rw [lookB, if_neg (fun e => h.1 e.symm)]
    exact ih h.2
/-- The bytes of a string in a row. -/
def RowB (w : World) (B : Nat) (v : Value) (s : ByteArray) : Prop :=
  ∃ g cap cb fr, v = .slice (some ⟨g, 0, none⟩) s.size cap ∧ B ≤ g ∧ s.size ≤ cap ∧ w.heap[g]? = some (.cells cb 5 fr) ∧ ∀ j, j < s.size → cb[j]? = some (.int .u8 ((s.data.toList.getD j 0).toNat : Int))
def bsK : List TypeId := [9, bsT]
theorem RowB.tk {a c : World} {B : Nat} {v : Value} {s : ByteArray} (h : RowB a B v s) (k : TKept bsK a c) : RowB c B v s := by
  obtain ⟨g, cap, cb, fr, h1, h2, h3, h4, h5⟩ := h
  exact ⟨g, cap, cb, fr, h1, h2, h3, (k.2 g cb _ fr h4 (by decide)).trans h4, h5⟩
/-- The table: what is laid for which byte, and the bytes laid, as strings. -/
def TbAt (w : World) (B bb : Nat) (done : List (UInt8 × ByteArray)) (strs : List UInt8) : Prop :=
  B ≤ bb ∧ ∃ cs : Array Value, w.heap[bb]? = some (.cells cs bsT (0, 0)) ∧ cs.size = 257 ∧ (∀ c : UInt8, lookB done c = none → cs[c.toNat]? = some (.slice none 0 0)) ∧
    (∀ (c : UInt8) s, lookB done c = some s → ∃ v, cs[c.toNat]? = some v ∧ RowB w B v s) ∧ ∃ v, cs[256]? = some v ∧ w.ownsRow B 9 1 v strs.length (strs.map fun a => .string ⟨#[a]⟩)
theorem TbAt.und {a c : World} {B bb : Nat} {done : List (UInt8 × ByteArray)} {strs : List UInt8} (h : TbAt a B bb done strs) (u : Und a c) : TbAt c B bb done strs := by
  obtain ⟨h0, cs, h1, h2, h3, h4, v, h5, h6⟩ := h
  refine ⟨h0, cs, (u.below.block bb (lt_of_heap h1)).trans h1, h2, h3, fun x s hx => ?_, v, h5, own_und u h6⟩
  obtain ⟨v', k1, k2⟩ := h4 x s hx
  exact ⟨v', k1, k2.tk (u.tk bsK)⟩
theorem byte_lt (c : UInt8) : c.toNat < 256 := c.toNat_lt
/-- One more string. -/
theorem TbAt.grow {w w4 : World} {B bb : Nat} {done : List (UInt8 × ByteArray)} {strs : List UInt8} {v v' : Value} {a : UInt8} (h : TbAt w B bb done strs) (hv : w.cell? ⟨bb, 256, none⟩ = some v) (hg : w.grownBy w4 v.ownBlock)
    (ho : w4.ownsRow B 9 1 v' (strs.length + 1) (strs.map (fun a => Value.string ⟨#[a]⟩) ++ [.string ⟨#[a]⟩])) : TbAt (w4.setCell ⟨bb, 256, none⟩ v') B bb done (strs ++ [a]) := by
  obtain ⟨h0, cs, h1, h2, h3, h4, v0, h5, h6⟩ := h
  obtain rfl : v0 = v := by rw [Lib.cell_of_heap h1 256, h5] at hv; simpa using hv
  have hb4 : w4.heap[bb]? = some (.cells cs bsT (0, 0)) := (hg.block bb (lt_of_heap h1) (fun e => own_ne h6 h1 (by decide) e.symm)).trans h1
  have htk : TKept bsK w (w4.setCell ⟨bb, 256, none⟩ v') := (tk_grown hg (own_type h6 _ (by simp [bsK]))).trans (tk_set (p := ⟨bb, 256, none⟩) hb4 (by simp [bsK]))
  refine ⟨h0, cs.setIfInBounds 256 v', heap_setCell_same w4 bb 256 _ _ v' hb4, by simp [h2], fun c hc => ?_, fun c s hc => ?_, v', by simp [h2], ?_⟩
  · rw [Array.getElem?_setIfInBounds_ne (by have := byte_lt c; omega)]; exact h3 c hc
  · obtain ⟨x, k1, k2⟩ := h4 c s hc
    exact ⟨x, by rw [Array.getElem?_setIfInBounds_ne (by have := byte_lt c; omega)]; exact k1, k2.tk htk⟩
  · have e : (strs ++ [a]).map (fun a => Value.string ⟨#[a]⟩) = strs.map (fun a => Value.string ⟨#[a]⟩) ++ [.string ⟨#[a]⟩] := by simp
    rw [e, List.length_append, List.length_singleton]
    exact own_set ho (own_ne ho hb4 (by decide))
/-- One more byte laid. -/
theorem TbAt.put {w : World} {B bb : Nat} {done : List (UInt8 × ByteArray)} {strs : List UInt8} {v : Value} {p : UInt8 × ByteArray} (h : TbAt w B bb done strs) (hn : lookB done p.1 = none) (hr : RowB w B v p.2) : TbAt (w.setCell ⟨bb, p.1.toNat, none⟩ v) B bb (done ++ [p]) strs := by
  obtain ⟨h0, cs, h1, h2, h3, h4, v0, h5, h6⟩ := h
  have htk : TKept bsK w (w.setCell ⟨bb, p.1.toNat, none⟩ v) := tk_set (p := ⟨bb, p.1.toNat, none⟩) h1 (by simp [bsK])
  have hlt := byte_lt p.1
  have hne : ∀ c : UInt8, p.1 ≠ c → p.1.toNat ≠ c.toNat := fun c h e => h (UInt8.toNat_inj.1 e)
  refine ⟨h0, cs.setIfInBounds p.1.toNat v, heap_setCell_same w bb p.1.toNat _ _ v h1, by simp [h2], fun c hc => ?_, fun c s hc => ?_, v0, ?_, own_set h6 (own_ne h6 h1 (by decide))⟩
  · rw [lookB_snoc] at hc
    cases hd : lookB done c with
    | some s => rw [hd] at hc; cases hc
    | none =>
      rw [hd] at hc
      by_cases e : p.1 = c
      · rw [if_pos e] at hc; cases hc
      · rw [Array.getElem?_setIfInBounds_ne (hne c e)]; exact h3 c hd
  · rw [lookB_snoc] at hc
    cases hd : lookB done c with
    | some s' =>
      rw [hd] at hc
      simp only [Option.some.injEq] at hc
      subst hc
      have e : p.1 ≠ c := fun e => by subst e; rw [hn] at hd; cases hd
      obtain ⟨x, k1, k2⟩ := h4 c s' hd
      exact ⟨x, by rw [Array.getElem?_setIfInBounds_ne (hne c e)]; exact k1, k2.tk htk⟩
    | none =>
      rw [hd] at hc
      by_cases e : p.1 = c
      · rw [if_pos e] at hc
        simp only [Option.some.injEq] at hc
        subst hc e
        exact ⟨v, by rw [Array.getElem?_setIfInBounds_self_of_lt (by omega)], hr.tk htk⟩
      · rw [if_neg e] at hc; cases hc
  · rw [Array.getElem?_setIfInBounds_ne (by omega)]; exact h5
theorem TbAt.fresh (w1 : World) (B : Nat) (hB : B ≤ w1.heap.size) (v : Value) (ho : w1.ownsRow B 9 1 v 0 []) : TbAt (w1.alloc (.cells ((Array.replicate 256 (.slice none 0 0)).push v) bsT)) B w1.heap.size [] [] := by
  refine ⟨hB, _, heap_alloc_new w1 _, by simp, fun c _ => ?_, fun c s h => (by simp [lookB] at h), v, ?_, own_und ((Und.refl w1).alloc _) ho⟩
  · have := byte_lt c
    rw [Array.getElem?_push_lt (by rw [Array.size_replicate]; exact this)]
    simp
  · have : ∀ a : Array Value, a.size = 256 → (a.push v)[256]? = some v := by
      intro a h
      rw [Array.getElem?_push, if_pos h.symm]
    exact this _ (by simp)
theorem row_bytes (w : World) (B : Nat) (s : ByteArray) (hB : B ≤ w.heap.size) (hs : s.size ≤ 1000) : RowB (Lib.bytesWorld w 5 s) B (.slice (some ⟨w.heap.size, 0, none⟩) s.size (grownCap w s.size 0 5)) s := by
  refine ⟨w.heap.size, _, _, _, rfl, hB, grownCap_ge _ _ _ _, Lib.bytesWorld_at_new w _ s, fun j hj => ?_⟩
  rw [← Lib.cell_of_heap (Lib.bytesWorld_at_new w 5 s) j]
  exact Lib.bytesWorld_cell w _ s j hj
/-- The strings of a table, one after another. -/
def osOf (tb : List (UInt8 × ByteArray)) : List ByteArray := tb.flatMap fun p => [⟨#[p.1]⟩, p.2]
theorem os_len (tb : List (UInt8 × ByteArray)) : (osOf tb).length = 2 * tb.length := by
  induction tb with
  | nil => rfl
  | cons p r ih => simp [osOf] at ih ⊢; omega
theorem os_at (tb : List (UInt8 × ByteArray)) (k : Nat) (h : k < tb.length) : (osOf tb)[2 * k]? = some ⟨#[tb[k].1]⟩ ∧ (osOf tb)[2 * k + 1]? = some tb[k].2 := by
  induction tb generalizing k with
  | nil => simp at h
  | cons p r ih =>
    match k, h with
    | 0, _ => exact ⟨rfl, rfl⟩
    | k + 1, h =>
      have := ih k (by simpa using h)
      have e1 : 2 * (k + 1) = 2 * k + 2 := by omega
      have e2 : 2 * (k + 1) + 1 = (2 * k + 1) + 2 := by omega
      rw [e2, e1]
      exact this
end Go.Proofs.YtpahkhmheikebaaGreatDoor

namespace Go.Proofs.YtpahkhmheikebaaGreatDoor
open Go.RowKit

def B1Rel (w : World) (m : Nat) (s4 s5 : Value) (wr : World) : Prop := ∃ k : Nat, s4 = .bool (decide (k = 0)) ∧ s5 = .int .i64 ((2 * k : Nat) : Int) ∧ k ≤ m ∧ w = wr
def B4Rel (w : World) (B bb : Nat) (tb : List (UInt8 × ByteArray)) (s12 : Value) (wr : World) : Prop :=
  ∃ k : Nat, s12 = .int .i64 (2 * (k : Int) - 2) ∧ k ≤ tb.length ∧ TbAt wr B bb (tb.drop k).reverse ((tb.drop k).reverse.map (·.1)) ∧ Und w wr

set_option maxRecDepth 100000 in
set_option maxHeartbeats 6400000 in
theorem build_any (B rb : Nat) (tb : List (UInt8 × ByteArray)) (w : World) (st : Int) (hR : RepS st w B rb (osOf tb)) (h2 : 2 ≤ tb.length) (h100 : tb.length ≤ 100) (hs : ∀ p ∈ tb, 2 ≤ p.2.size ∧ p.2.size ≤ 100) (hnd : (tb.map (·.1)).Nodup) :
    Calls Tryz.prog 68 #[.pointer (some ⟨rb, 0, none⟩)] w fun e w' => ∃ bb, e = .returned (.iface 154 (.pointer (some ⟨bb, 0, none⟩))) ∧ TbAt w' w.heap.size bb tb.reverse (tb.reverse.map (·.1)) ∧ Und w w' := by
  obtain ⟨_, v, hbk, hown⟩ := hR
  obtain ⟨A, c, rfl, _⟩ := own_slice hown
  have hol := os_len tb
  obtain ⟨m, hm⟩ : ∃ m, tb.length = m := ⟨_, rfl⟩
  rw [hm] at hol h2 h100
  obtain ⟨g, rfl, _, hg, hc⟩ := own_cell hown (by omega)
  have hcell : ∀ k (h : k < tb.length), w.cell? ⟨g, 2 * k, none⟩ = some (.string ⟨#[tb[k].1]⟩) ∧ w.cell? ⟨g, 2 * k + 1, none⟩ = some (.string tb[k].2) := by
    intro k h
    obtain ⟨a1, a2⟩ := os_at tb k h
    exact ⟨hc _ _ (by rw [List.getElem?_map, a1]; rfl), hc _ _ (by rw [List.getElem?_map, a2]; rfl)⟩
  rw [hol] at hown hbk
  have g4 : w.cell? ⟨rb, 4, none⟩ = some (.slice (some ⟨g, 0, none⟩) (2 * m) c) := Lib.cell_of_heap hbk 4
  haveI : LtW rb w := LtW.of (lt_of_heap hbk)
  haveI : LtW g w := LtW.of hg
  obtain ⟨i0, hi, hz0, hz1, hz2⟩ := info_parts info_str
  obtain ⟨w1, hmk, hro, hgm⟩ := run_make_own (P := Tryz.prog) w w.heap.size 63 9 i0 (.string ⟨#[]⟩) 1 Tryz.underlying63 hi hz0 hz1 .i64 .i64 m (by rw [hz2]; omega) (by unfold maxLen; omega) (Nat.le_refl _)
  have hu1 : Und w w1 := (Und.refl w).grown hgm (fun g e => by cases e)
  have hz := fun w => z142 w
  have hsc := run_storeCells_new (P := Tryz.prog) w1 bsT ((Array.replicate 256 (.slice none 0 0)).push (.slice none 0 0)) ((Array.replicate 256 (.slice none 0 0)).push (.slice (some ⟨w.heap.size, 0, none⟩) 0 m)) (by rw [Array.size_push, Array.size_replicate]; exact i142) (by simp) (by
    have : ∀ (a : Array Value) (v : Value), a.all (·.oneCell') = true → v.oneCell' = true → (a.push v).all (·.oneCell') = true := by intro a v h1 h2; simp [h1, h2]
    exact this _ _ (by rw [Array.all_eq_true]; intro i hi; rw [Array.getElem_replicate]; rfl) rfl)
  rw [← z_set] at hsc
  have HTF := hid (TbAt.fresh w1 w.heap.size hu1.size (.slice (some ⟨w.heap.size, 0, none⟩) 0 m) hro)
  obtain ⟨Z', hZ'⟩ : ∃ Z' : Array Value, Z' = (Array.replicate 256 (.slice none 0 0)).push (.slice (some ⟨w.heap.size, 0, none⟩) 0 m) := ⟨_, rfl⟩
  obtain ⟨Z, hZ⟩ : ∃ Z : Array Value, Z = (Array.replicate 256 (.slice none 0 0)).push (.slice none 0 0) := ⟨_, rfl⟩
  rw [← hZ] at hz hsc
  rw [← hZ'] at hsc HTF
  have hZs : Z.size = 257 := by rw [hZ, Array.size_push, Array.size_replicate]
  clear hZ hZ' hbk hown hc hgm hro
  have HC := hid hcell
  have HU1 := hid hu1
  have HND := hid hnd
  have HS := hid hs
  have hsz1 := hu1.size
  have yd : ((2 * m : Nat) : Int) / 2 = (m : Int) := by omega
  have y2 : (((2 * m : Nat) : Int) == 2) = false := by simp; omega
  obtain ⟨n, hn⟩ : ∃ n, n = 2 * m := ⟨_, rfl⟩
  rw [← hn] at g4 yd y2
  have HN := hid hn
  clear hcell hu1 hnd hs hol hn
  go_enter Tryz.func68, Tryz.ntmps68
  go_wp2_with fail
  go_loopw [4, 5] (fun s4 s5 wr => B1Rel w m s4 s5 wr) (fun _ s5 _ => n + 1 - (intOf s5).toNat)
  case atStart => exact ⟨0, rfl, rfl, by omega, rfl⟩
  case round =>
    obtain ⟨k, rfl, rfl, hk, rfl⟩ := hrel
    have hn := HN.out
    by_cases hkm : k < m
    · obtain ⟨e0, e1⟩ := HC.out k (by omega)
      have hps := (HS.out tb[k] (List.getElem_mem (by omega))).1
      generalize tb[k]'(by omega) = p at e0 e1 hps
      obtain ⟨so, hso⟩ : ∃ so : ByteArray, so = ⟨#[p.1]⟩ := ⟨_, rfl⟩
      rw [← hso] at e0
      have hs1 : so.size = 1 := by rw [hso]; rfl
      have z1 : ((2 * k : Nat) : Int) < n := by omega
      have z2 : (((2 * k : Nat) : Int) + 1) < n := by omega
      have z3 : (((2 * k : Nat) : Int) + 1).toNat = 2 * k + 1 := by omega
      have z4 : ((p.2.size : Int) != 1) = true := by simp; omega
      have z5 : ((p.2.size : Int) == 1) = false := by simp; omega
      obtain ⟨i2, hi2⟩ : ∃ i2, i2 = 2 * k := ⟨_, rfl⟩
      rw [← hi2] at e0 e1 z1 z2 z3 ⊢
      have HI2 := hid hi2
      clear hso hi2 hn
      go_wp2
      exact ⟨⟨k + 1, by simp, congrArg (Value.int .i64) (by have := HI2.out; omega), by omega, rfl⟩, by have := HN.out; have := HI2.out; simp [intOf]; omega⟩
    · obtain rfl : k = m := by omega
      have z1 : ¬ ((2 * k : Nat) : Int) < n := by omega
      have hk0 : decide (k = 0) = false := decide_eq_false (by omega)
      rw [hk0]
      obtain ⟨i2, hi2⟩ : ∃ i2, i2 = 2 * k := ⟨_, rfl⟩
      rw [← hi2] at z1 ⊢
      clear hi2 hn hk0
      go_wp2_with fail
      go_loopw [12] (fun s12 wr => B4Rel w w.heap.size w1.heap.size tb s12 wr) (fun s12 _ => (intOf s12 + 2).toNat)
      case atStart => exact ⟨k, congrArg (Value.int .i64) (by have := HN.out; omega), by omega, by rw [List.drop_of_length_le (by omega)]; exact HTF.out, HU1.out.alloc _⟩
      case round =>
        clear HTF hz hsc hmk z1 yd y2
        obtain ⟨k2, rfl, hk2, hT, hu⟩ := hrel
        have HT := hid hT
        have HU := hid hu
        have hszr := hu.size
        rcases Nat.eq_zero_or_pos k2 with h0 | h0
        · subst h0
          have hv12 : 2 * ((0 : Nat) : Int) - 2 = -2 := rfl
          rw [hv12]
          clear hT hu hv12
          go_wp2
          go_ret
          exact ⟨_, rfl, by simpa using HT.out, HU.out⟩
        · obtain ⟨j, rfl⟩ : ∃ j, k2 = j + 1 := ⟨k2 - 1, by omega⟩
          have hv12 : 2 * ((j + 1 : Nat) : Int) - 2 = ((2 * j : Nat) : Int) := by omega
          rw [hv12]
          obtain ⟨e0, e1⟩ := HC.out j (by omega)
          replace e0 := (hu.cell (p := ⟨g, 2 * j, none⟩) hg).trans e0
          replace e1 := (hu.cell (p := ⟨g, 2 * j + 1, none⟩) hg).trans e1
          haveI : LtW g wr := LtW.of (Nat.lt_of_lt_of_le hg hszr)
          have hps := (HS.out tb[j] (List.getElem_mem (by omega))).2
          have hdr : tb.drop j = tb[j] :: tb.drop (j + 1) := List.drop_eq_getElem_cons (by omega)
          have hnd2 : ((tb.drop j).map (·.1)).Nodup := by rw [List.map_drop]; exact HND.out.sublist (List.drop_sublist _ _)
          rw [hdr, List.map_cons, List.nodup_cons] at hnd2
          have hnone : lookB (tb.drop (j + 1)).reverse tb[j].1 = none := lookB_none (by rw [List.map_reverse, List.mem_reverse]; exact hnd2.1)
          have hrev : (tb.drop j).reverse = (tb.drop (j + 1)).reverse ++ [tb[j]] := by rw [hdr, List.reverse_cons]
          have hlen : ((tb.drop (j + 1)).reverse.map (·.1)).length ≤ 100 := by simp; omega
          have HREV := hid hrev
          generalize (tb.drop (j + 1)).reverse = done at hT HT hnone hrev HREV hlen
          generalize tb[j]'(by omega) = p at e0 e1 hps hnone hrev HREV
          obtain ⟨hB0, cs, hcs1, hcs2, hcs3, hcs4, v, hcs5, hcs6⟩ := hT
          obtain ⟨A', c', rfl, _⟩ := own_slice hcs6
          have t0 : wr.cell? ⟨w1.heap.size, p.1.toNat, none⟩ = some (.slice none 0 0) := (Lib.cell_of_heap hcs1 _).trans (hcs3 p.1 hnone)
          have t1 : wr.cell? ⟨w1.heap.size, 256, none⟩ = some (.slice A' (done.map (·.1)).length c') := (Lib.cell_of_heap hcs1 256).trans hcs5
          haveI : LtW w1.heap.size wr := LtW.of (lt_of_heap hcs1)
          obtain ⟨so, hso⟩ : ∃ so : ByteArray, so = ⟨#[p.1]⟩ := ⟨_, rfl⟩
          rw [← hso] at e0
          have hs1 : so.size = 1 := by rw [hso]; rfl
          have hs0 : so[0]'(by omega) = p.1 := by subst hso; rfl
          have zl : (p.1.toNat : Int) < 256 := by have := byte_lt p.1; omega
          have zj1 : ((2 * j : Nat) : Int) < n := by have := HN.out; omega
          have zj2 : (((2 * j : Nat) : Int) + 1) < n := by have := HN.out; omega
          have zj3 : (((2 * j : Nat) : Int) + 1).toNat = 2 * j + 1 := by omega
          obtain ⟨i2, hi2⟩ : ∃ i2, i2 = 2 * j := ⟨_, rfl⟩
          rw [← hi2] at e0 e1 zj1 zj2 zj3 ⊢
          have HI2 := hid hi2
          have hib : i2 ≤ 1000 := by omega
          have HO := hid hcs6
          have HB1 := hid hcs1
          have HC5 := hid hcs5
          have HC3 := hid hcs3
          have HNO := hid hnone
          generalize hL : (done.map (·.1)).length = L at *
          clear hu hv12 hdr hnd2 hrev hso hi2 hcs1 hcs2 hcs3 hcs4 hcs5 hcs6 hnone
          go_wp2_with (at_builtin; refine wpList_append_own _ rfl _ _ 63 rfl w.heap.size 9 i0 (.string ⟨#[]⟩) 1 16 Tryz.underlying63 hi hz0 hz1 hz2 rfl (by decide) (.slice A' L c') L _ rfl (own_und (by repeat (first | exact Und.refl _ | assumption | refine Und.under ?_ _ | refine Und.alloc ?_ _ | refine Und.drew ?_ | refine Und.drewN ?_ _)) HO.out) _ 1 1 [.string ⟨#[p.1]⟩] rfl rfl ?_ ?_ (by unfold maxLen; omega) (by omega) ?_ ?_)
          · refine side1c _ _ _ _ ?_
            simp
          · intro u hu'; simp at hu'; subst hu'; rfl
          · simp <;> omega
          · intro v' w4 ho4 hg4 _
            obtain ⟨A'', c'', rfl, _⟩ := own_slice ho4
            have hgr := gb_trans (Und.gb (show Und wr _ from (by repeat (first | exact Und.refl _ | assumption | refine Und.under ?_ _ | refine Und.alloc ?_ _ | refine Und.drew ?_ | refine Und.drewN ?_ _))) (Value.slice A' L c').ownBlock) hg4 (fun g e => Or.inl e)
            have hb4 : w4.heap[w1.heap.size]? = some (Obj.cells cs bsT (0, 0)) := (hgr.block w1.heap.size (lt_of_heap HB1.out) (fun e => own_ne HO.out HB1.out (by decide) e.symm)).trans HB1.out
            have c256 : w4.cell? ⟨w1.heap.size, 256, none⟩ = some (.slice A' L c') := (Lib.cell_of_heap hb4 256).trans HC5.out
            have f256 : w4.frozen? ⟨w1.heap.size, 256, none⟩ = false := Lib.frozen_of_heap hb4 256
            haveI : LtW w1.heap.size w4 := LtW.of (lt_of_heap hb4)
            have hT5 := TbAt.grow HT.out t1 hgr (by rw [hL, List.map_map]; exact ho4)
            have hu5 : Und w (w4.setCell ⟨w1.heap.size, 256, none⟩ (.slice A'' (L + 1) c'')) := (HU.out.of_gb hgr (fun g hg => owns_block HO.out g hg)).setCell (p := ⟨w1.heap.size, 256, none⟩) hsz1 _
            obtain ⟨w5, hw5⟩ : ∃ w5, w4.setCell ⟨w1.heap.size, 256, none⟩ (.slice A'' (L + 1) c'') = w5 := ⟨_, rfl⟩
            rw [hw5] at hT5 hu5
            have hcv := Lib.run_convert_string_bytes w5 9 75 5 p.2 Tryz.underlying9 Tryz.underlying75 Tryz.underlying5
            have hrow := row_bytes w5 w.heap.size p.2 hu5.size (by omega)
            have hb6 : Und w5 (Lib.bytesWorld w5 5 p.2) := Und.mk ⟨rfl, rfl, rfl, by rw [Lib.bytesWorld_size]; omega, fun k hk => Lib.bytesWorld_at_old w5 _ _ k hk⟩
            obtain ⟨w6, hw6⟩ : ∃ w6, Lib.bytesWorld w5 5 p.2 = w6 := ⟨_, rfl⟩
            rw [hw6] at hcv hrow hb6
            have hT6 := hT5.und hb6
            have hput := TbAt.put hT6 HNO.out hrow
            obtain ⟨_, cs6, h61, _, h63, _⟩ := hT6
            have d0 : w6.cell? ⟨w1.heap.size, p.1.toNat, none⟩ = some (.slice none 0 0) := (Lib.cell_of_heap h61 _).trans (h63 p.1 HNO.out)
            have d1 : w6.frozen? ⟨w1.heap.size, p.1.toNat, none⟩ = false := Lib.frozen_of_heap h61 _
            haveI : LtW w1.heap.size w6 := LtW.of (lt_of_heap h61)
            have hu7 := (hu5.trans hb6).setCell (p := ⟨w1.heap.size, p.1.toNat, none⟩) hsz1 (.slice (some ⟨w5.heap.size, 0, none⟩) p.2.size (grownCap w5 p.2.size 0 5))
            have HE := hid (And.intro hput hu7)
            clear hput hu7 hT5 hu5 hrow hb6 hw6 hgr hg4 ho4 hb4 h61 h63 t0 t1
            go_wp2
            refine ⟨⟨j, congrArg (Value.int .i64) (by have := HI2.out; omega), by omega, ?_, HE.out.2⟩, by have := HI2.out; simp [intOf]; omega⟩
            rw [HREV.out]
            have := HE.out.1
            rw [List.map_append]
            exact this
end Go.Proofs.YtpahkhmheikebaaGreatDoor

namespace Go.Proofs.YtpahkhmheikebaaGreatDoor
open Go.RowKit

/-- What is asked of a table. -/
def TbOk (tb : List (UInt8 × ByteArray)) : Prop := 2 ≤ tb.length ∧ tb.length ≤ 100 ∧ (∀ p ∈ tb, 2 ≤ p.2.size ∧ p.2.size ≤ 100) ∧ (tb.map (·.1)).Nodup
/-- A Replacer that is built. -/
def RepB (w : World) (B rb : Nat) (tb : List (UInt8 × ByteArray)) : Prop :=
  B ≤ rb ∧ ∃ bb, w.heap[rb]? = some (Obj.cells #[.int .u32 1, .int .i32 0, .int .u32 0, .iface 154 (.pointer (some ⟨bb, 0, none⟩)), .slice none 0 0] 111 (0, 0)) ∧ TbAt w B bb tb.reverse (tb.reverse.map (·.1))
theorem RepB.und {a c : World} {B rb : Nat} {tb : List (UInt8 × ByteArray)} (h : RepB a B rb tb) (u : Und a c) : RepB c B rb tb := by
  obtain ⟨h0, bb, h1, h2⟩ := h
  exact ⟨h0, bb, (u.below.block rb (lt_of_heap h1)).trans h1, h2.und u⟩
/-- The base of a table may be lowered. -/
theorem TbAt.low {w : World} {B B' bb : Nat} {done : List (UInt8 × ByteArray)} {strs : List UInt8} (h : TbAt w B bb done strs) (hb : B' ≤ B) : TbAt w B' bb done strs := by
  obtain ⟨h0, cs, h1, h2, h3, h4, v, h5, h6⟩ := h
  refine ⟨Nat.le_trans hb h0, cs, h1, h2, h3, fun x s hx => ?_, v, h5, own_low h6 hb⟩
  obtain ⟨v', k1, g, cap, cb, fr, e1, e2, e3⟩ := h4 x s hx
  exact ⟨v', k1, g, cap, cb, fr, e1, Nat.le_trans hb e2, e3⟩
/-- A table stays as it is where another block is written. -/
theorem TbAt.set {w : World} {B bb : Nat} {done : List (UInt8 × ByteArray)} {strs : List UInt8} (h : TbAt w B bb done strs) {q i : Nat} {u : Value} {cs : Array Value} {fr : Nat × Nat} (hq : w.heap[q]? = some (.cells cs 111 fr)) : TbAt (w.setCell ⟨q, i, none⟩ u) B bb done strs := by
  obtain ⟨h0, cs', h1, h2, h3, h4, v, h5, h6⟩ := h
  have hgb := gb_set w ⟨q, i, none⟩ u
  have hne : bb ≠ q := fun e => by
    subst e
    rw [h1] at hq
    simp only [Option.some.injEq, Obj.cells.injEq] at hq
    exact absurd hq.2.1 (by decide)
  refine ⟨h0, cs', (hgb.block bb (lt_of_heap h1) (by simpa using hne)).trans h1, h2, h3, fun x s hx => ?_, v, h5, own_set h6 (own_ne h6 hq (by decide))⟩
  obtain ⟨v', k1, g, cap, cb, fr', e1, e2, e3, e4, e5⟩ := h4 x s hx
  have hng : g ≠ q := fun e => by
    subst e
    rw [e4] at hq
    simp only [Option.some.injEq, Obj.cells.injEq] at hq
    exact absurd hq.2.1 (by decide)
  exact ⟨v', k1, g, cap, cb, fr', e1, e2, e3, (hgb.block g (lt_of_heap e4) (by simpa using hng)).trans e4, e5⟩
theorem TbAt.drew {w : World} {B bb : Nat} {done : List (UInt8 × ByteArray)} {strs : List UInt8} (h : TbAt w B bb done strs) : TbAt w.drew B bb done strs := h.und ((Und.refl w).drew)

/-- The world behind buildOnce. -/
def BoEnd (w0 : World) (B rb : Nat) (tb : List (UInt8 × ByteArray)) (w : World) : Prop :=
  ∃ bb, w.heap[rb]? = some (Obj.cells #[.int .u32 0, .int .i32 1, .int .u32 0, .iface 154 (.pointer (some ⟨bb, 0, none⟩)), .slice none 0 0] 111 (0, 0)) ∧ TbAt w B bb tb.reverse (tb.reverse.map (·.1)) ∧ Below B w0 w
set_option maxRecDepth 20000 in
set_option maxHeartbeats 3200000 in
theorem once_any (B rb : Nat) (tb : List (UInt8 × ByteArray)) (w : World) (hR : RepF w B rb (osOf tb)) (hk : TbOk tb) (hB : B ≤ w.heap.size) :
    Calls Tryz.prog 54 #[.pointer (some ⟨rb, 0, none⟩)] (w.setCell ⟨rb, 1, none⟩ (.int .i32 1)) fun e w' => e = .returned (.tuple #[]) ∧ BoEnd w B rb tb w' := by
  obtain ⟨hBr, v, hbk, hown⟩ := hR
  have hb1 : (w.setCell ⟨rb, 1, none⟩ (.int .i32 1)).heap[rb]? = some (Obj.cells #[.int .u32 0, .int .i32 1, .int .u32 0, .nilIface, v] 111 (0, 0)) := heap_setCell_same w rb 1 _ _ _ hbk
  have ho1 : (w.setCell ⟨rb, 1, none⟩ (.int .i32 1)).ownsRow B 9 1 v (osOf tb).length ((osOf tb).map Value.string) := own_set hown (own_ne hown hbk (by decide))
  have hbl1 : Below B w (w.setCell ⟨rb, 1, none⟩ (.int .i32 1)) := (Below.refl B w).setCell (p := ⟨rb, 1, none⟩) hBr _
  obtain ⟨w1, hw1⟩ : ∃ w1, w.setCell ⟨rb, 1, none⟩ (.int .i32 1) = w1 := ⟨_, rfl⟩
  rw [hw1] at hb1 ho1 hbl1 ⊢
  obtain ⟨k1, k2, k3, k4⟩ := hk
  have HBD := hid (build_any B rb tb w1 1 ⟨hBr, v, hb1, ho1⟩ k1 k2 k3 k4)
  have HB1 := hid hb1
  have HBL := hid hbl1
  have hsz1 := hbl1.size
  haveI : LtW rb w1 := LtW.of (lt_of_heap hb1)
  clear hb1 ho1 hbl1 hw1 hbk hown k3 k4
  go_enter Tryz.func54, Tryz.ntmps54
  go_wp2_with fail
  refine HBD.out.mono ?_
  rintro e w2 ⟨bb, rfl, hT, hu⟩
  have hb2 := (hu.below.block rb (lt_of_heap HB1.out)).trans HB1.out
  have c3 : w2.cell? ⟨rb, 3, none⟩ = some .nilIface := Lib.cell_of_heap hb2 3
  have f3 : w2.frozen? ⟨rb, 3, none⟩ = false := Lib.frozen_of_heap hb2 3
  have c4 : w2.cell? ⟨rb, 4, none⟩ = some v := Lib.cell_of_heap hb2 4
  have f4 : w2.frozen? ⟨rb, 4, none⟩ = false := Lib.frozen_of_heap hb2 4
  haveI : LtW rb w2 := LtW.of (lt_of_heap hb2)
  have hbl2 : Below B w w2 := Below.trans HBL.out (hu.below.mono (by omega))
  have hb3 := heap_setCell_same w2 rb 3 _ _ (.iface 154 (.pointer (some ⟨bb, 0, none⟩))) hb2
  have hb4 := heap_setCell_same _ rb 4 _ _ (.slice none 0 0) hb3
  have hT4 := ((hT.low (by omega : B ≤ w1.heap.size)).set (i := 3) (u := .iface 154 (.pointer (some ⟨bb, 0, none⟩))) hb2).set (i := 4) (u := .slice none 0 0) hb3
  have HE := hid (show BoEnd w B rb tb ((w2.setCell ⟨rb, 3, none⟩ (.iface 154 (.pointer (some ⟨bb, 0, none⟩)))).setCell ⟨rb, 4, none⟩ (.slice none 0 0)) from ⟨bb, hb4, hT4, (hbl2.setCell (p := ⟨rb, 3, none⟩) hBr _).setCell (p := ⟨rb, 4, none⟩) hBr _⟩)
  clear hT hu hb2 hbl2 hb3 hb4 hT4 HBD
  go_wp2
  go_end0
  exact ⟨rfl, HE.out⟩
/-- Do, over a Replacer that is not built yet. -/
theorem repdo_first (B rb : Nat) (tb : List (UInt8 × ByteArray)) (w : World) (hR : RepF w B rb (osOf tb)) (hk : TbOk tb) (hB : B ≤ w.heap.size) :
    Calls Tryz.prog 53 #[.pointer (some ⟨rb, 0, none⟩), .func (.func 54) #[.pointer (some ⟨rb, 0, none⟩)] #[]] w fun e w' => e = .returned (.tuple #[]) ∧ RepB w' B rb tb ∧ Below B w w' := by
  have hR0 := hR
  obtain ⟨hBr, v, hbk, hown⟩ := hR
  refine (do_first rb w (BoEnd w B rb tb) (Lib.cell_of_heap hbk 0) (Lib.cell_of_heap hbk 1) (Lib.frozen_of_heap hbk 0) (Lib.frozen_of_heap hbk 1) (once_any B rb tb w hR0 hk hB) ?_).mono ?_
  · rintro w2 ⟨bb, h, _, _⟩
    exact ⟨Lib.cell_of_heap h 0, Lib.cell_of_heap h 1, Lib.frozen_of_heap h 0, Lib.frozen_of_heap h 1⟩
  · rintro e w' ⟨rfl, w2, ⟨bb, h, hT, hb⟩, rfl⟩
    have h1 : w2.drew.heap[rb]? = _ := h
    have h2 := heap_setCell_same w2.drew rb 0 _ _ (.int .u32 1) h1
    have h3 := heap_setCell_same _ rb 1 _ _ (.int .i32 0) h2
    refine ⟨rfl, ⟨hBr, bb, h3, (hT.drew.set h1).set h2⟩, (Below.setCell (p := ⟨rb, 1, none⟩) (Below.setCell (p := ⟨rb, 0, none⟩) hb.drew hBr _) hBr _)⟩
theorem repdo_done (B rb : Nat) (tb : List (UInt8 × ByteArray)) (fv : Value) (w : World) (hR : RepB w B rb tb) :
    Calls Tryz.prog 53 #[.pointer (some ⟨rb, 0, none⟩), fv] w fun e w' => e = .returned (.tuple #[]) ∧ w' = w := by
  obtain ⟨_, bb, h, _⟩ := hR
  exact do_done rb fv w (Lib.cell_of_heap h 0)
end Go.Proofs.YtpahkhmheikebaaGreatDoor

namespace Go.Proofs.YtpahkhmheikebaaGreatDoor
open Go.RowKit

/-- What a byte is replaced by. -/
def rpB (tb : List (UInt8 × ByteArray)) (c : UInt8) : List UInt8 := match lookB tb c with
  | some t => t.data.toList
  | none => [c]
def exB (tb : List (UInt8 × ByteArray)) (c : UInt8) : Nat := (rpB tb c).length - 1
theorem rp_some {tb : List (UInt8 × ByteArray)} {c : UInt8} {t : ByteArray} (h : lookB tb c = some t) : rpB tb c = t.data.toList := by unfold rpB; rw [h]
theorem rp_none {tb : List (UInt8 × ByteArray)} {c : UInt8} (h : lookB tb c = none) : rpB tb c = [c] := by unfold rpB; rw [h]
theorem ex_some {tb : List (UInt8 × ByteArray)} {c : UInt8} {t : ByteArray} (h : lookB tb c = some t) : exB tb c = t.size - 1 := by unfold exB; rw [rp_some h]; simp
theorem ex_none {tb : List (UInt8 × ByteArray)} {c : UInt8} (h : lookB tb c = none) : exB tb c = 0 := by unfold exB; rw [rp_none h]; rfl
theorem lookB_mem {tb : List (UInt8 × ByteArray)} {c : UInt8} {t : ByteArray} (h : lookB tb c = some t) : (c, t) ∈ tb := by
  induction tb with
  | nil => cases h
  | cons p r ih =>
    rw [lookB] at h
    split at h
    · rename_i e
      simp only [Option.some.injEq] at h
      subst e h
      exact List.mem_cons_self
    · exact List.mem_cons_of_mem _ (ih h)
theorem lookB_isSome {tb : List (UInt8 × ByteArray)} {c : UInt8} (h : c ∈ tb.map (·.1)) : ∃ t, lookB tb c = some t := by
  cases e : lookB tb c with
  | some t => exact ⟨t, rfl⟩
  | none =>
    exfalso
    induction tb with
    | nil => simp at h
    | cons p r ih =>
      rw [lookB] at e
      split at e
      · cases e
      · rename_i hne
        simp only [List.map_cons, List.mem_cons] at h
        rcases h with h | h
        · exact hne h.symm
        · exact ih h e
/-- The table's strings have two bytes or more, up to a hundred. -/
def TbSz (tb : List (UInt8 × ByteArray)) : Prop := ∀ p ∈ tb, 2 ≤ p.2.size ∧ p.2.size ≤ 100
theorem rp_len {tb : List (UInt8 × ByteArray)} (h : TbSz tb) (c : UInt8) : (rpB tb c).length = exB tb c + 1 ∧ exB tb c ≤ 99 := by
  cases e : lookB tb c with
  | some t =>
    have := h _ (lookB_mem e)
    rw [rp_some e, ex_some e]
    simp at this ⊢; omega
  | none => rw [rp_none e, ex_none e]; simp
def sumE (tb : List (UInt8 × ByteArray)) (l : List UInt8) : Nat := (l.map (exB tb)).sum
theorem sumE_take {tb : List (UInt8 × ByteArray)} {l : List UInt8} {k : Nat} (h : k < l.length) : sumE tb (l.take (k + 1)) = sumE tb (l.take k) + exB tb l[k] := by
  unfold sumE
  rw [List.take_add_one, List.getElem?_eq_getElem h]
  simp only [List.map_append, List.sum_append, Option.toList_some, List.map_cons, List.map_nil, List.sum_cons, List.sum_nil, Nat.add_zero]
theorem flat_len {tb : List (UInt8 × ByteArray)} (h : TbSz tb) (l : List UInt8) : (l.flatMap (rpB tb)).length = l.length + sumE tb l := by
  induction l with
  | nil => rfl
  | cons c l ih =>
    have := (rp_len h c).1
    simp only [List.flatMap_cons, List.length_append, List.length_cons, sumE, List.map_cons, List.sum_cons] at ih ⊢
    omega
theorem sumE_le {tb : List (UInt8 × ByteArray)} (h : TbSz tb) (l : List UInt8) : sumE tb l ≤ 99 * l.length := by
  induction l with
  | nil => simp [sumE]
  | cons c l ih =>
    have := (rp_len h c).2
    simp only [sumE, List.map_cons, List.sum_cons, List.length_cons] at ih ⊢
    omega
theorem flat_same {tb : List (UInt8 × ByteArray)} {l : List UInt8} (h : ∀ c ∈ l, lookB tb c = none) : l.flatMap (rpB tb) = l := by
  induction l with
  | nil => rfl
  | cons c l ih => rw [List.flatMap_cons, rp_none (h c (by simp)), ih (fun d hd => h d (by simp [hd]))]; rfl
/-- What the bytes of a table count in a text. -/
def cntS (tb : List (UInt8 × ByteArray)) (strs l : List UInt8) : Nat := (strs.map fun a => l.count a * exB tb a).sum
theorem cntS_take {tb : List (UInt8 × ByteArray)} {strs l : List UInt8} {k : Nat} (h : k < strs.length) : cntS tb (strs.take (k + 1)) l = cntS tb (strs.take k) l + l.count strs[k] * exB tb strs[k] := by
  unfold cntS
  rw [List.take_add_one, List.getElem?_eq_getElem h]
  simp only [List.map_append, List.sum_append, Option.toList_some, List.map_cons, List.map_nil, List.sum_cons, List.sum_nil, Nat.add_zero]
theorem cntS_cons (tb : List (UInt8 × ByteArray)) (strs l : List UInt8) (c : UInt8) (hn : strs.Nodup) : cntS tb strs (c :: l) = cntS tb strs l + if c ∈ strs then exB tb c else 0 := by
  induction strs with
  | nil => simp [cntS]
  | cons a r ih =>
    have hn' := List.nodup_cons.1 hn
    have := ih hn'.2
    simp only [cntS, List.map_cons, List.sum_cons] at this ⊢
    rw [List.count_cons, this]
    by_cases e : c = a
    · subst e
      rw [if_neg hn'.1, if_pos (by simp)]
      simp [Nat.add_mul]; omega
    · have e2 : (c == a) = false := by simpa using e
      rw [e2]
      simp only [Bool.false_eq_true, if_false, Nat.add_zero, List.mem_cons, e, false_or]
      omega
theorem cntS_all {tb : List (UInt8 × ByteArray)} {strs : List UInt8} (hn : strs.Nodup) (hs : ∀ c, c ∉ strs → exB tb c = 0) (l : List UInt8) : cntS tb strs l = sumE tb l := by
  induction l with
  | nil =>
    have : ∀ s : List UInt8, (s.map fun _ => 0).sum = 0 := fun s => by induction s with
      | nil => rfl
      | cons a s ih => simpa using ih
    simpa [cntS, sumE] using this strs
  | cons c l ih =>
    rw [cntS_cons _ _ _ _ hn, ih]
    simp only [sumE, List.map_cons, List.sum_cons]
    split
    · omega
    · rename_i h; rw [hs c h]; omega
theorem cntS_le {tb : List (UInt8 × ByteArray)} (h : TbSz tb) (strs l : List UInt8) : cntS tb strs l ≤ strs.length * (l.length * 99) := by
  induction strs with
  | nil => simp [cntS]
  | cons a r ih =>
    have h1 := (rp_len h a).2
    have h2 : l.count a ≤ l.length := List.count_le_length
    have h3 : l.count a * exB tb a ≤ l.length * 99 := Nat.mul_le_mul h2 h1
    simp only [cntS, List.map_cons, List.sum_cons, List.length_cons] at ih ⊢
    rw [Nat.add_mul]
    omega
end Go.Proofs.YtpahkhmheikebaaGreatDoor

namespace Go.Proofs.YtpahkhmheikebaaGreatDoor
open Go.RowKit

def CnRel (w : World) (tb : List (UInt8 × ByteArray)) (strs l : List UInt8) (s5 s6 s32 : Value) (wr : World) : Prop :=
  ∃ j : Nat, s32 = .int .i64 j ∧ j ≤ strs.length ∧ s5 = .int .i64 ((l.length + cntS tb (strs.take j) l : Nat) : Int) ∧ s6 = .bool ((strs.take j).any fun a => decide (0 < l.count a)) ∧ Und w wr
def BtRel (w : World) (tb : List (UInt8 × ByteArray)) (l : List UInt8) (s5 s6 s10 : Value) (wr : World) : Prop :=
  ∃ k : Nat, s10 = .int .i64 k ∧ k ≤ l.length ∧ s5 = .int .i64 ((l.length + sumE tb (l.take k) : Nat) : Int) ∧ s6 = .bool ((l.take k).any fun c => (lookB tb c).isSome) ∧ Und w wr
/-- The bytes written so far, at the head of a row. -/
def WrRel (w : World) (gb N : Nat) (tb : List (UInt8 × ByteArray)) (l : List UInt8) (s13 s14 : Value) (wr : World) : Prop :=
  ∃ (k : Nat) (cur : Array Value) (rest : List Value), s14 = .int .i64 k ∧ k ≤ l.length ∧ s13 = .int .i64 (((l.take k).flatMap (rpB tb)).length : Nat) ∧ wr.heap[gb]? = some (.cells cur 5 (0, 0)) ∧ cur.size = N ∧ cur.toList = Lib.byteCells ((l.take k).flatMap (rpB tb)) ++ rest ∧ Und w wr
theorem any_take {α : Type} (l : List α) (p : α → Bool) (k : Nat) (h : k < l.length) : (l.take (k + 1)).any p = ((l.take k).any p || p l[k]) := by
  rw [List.take_add_one, List.getElem?_eq_getElem h, List.any_append]; simp
theorem flat_take {tb : List (UInt8 × ByteArray)} {l : List UInt8} {k : Nat} (h : k < l.length) : (l.take (k + 1)).flatMap (rpB tb) = (l.take k).flatMap (rpB tb) ++ rpB tb l[k] := by
  rw [List.take_add_one, List.getElem?_eq_getElem h, List.flatMap_append]; simp
theorem flat_le {tb : List (UInt8 × ByteArray)} (l : List UInt8) (k : Nat) : ((l.take k).flatMap (rpB tb)).length ≤ (l.flatMap (rpB tb)).length := by
  conv => rhs; rw [← List.take_append_drop k l, List.flatMap_append, List.length_append]
  omega
theorem cells_app (a b : List UInt8) : Lib.byteCells (a ++ b) = Lib.byteCells a ++ Lib.byteCells b := by simp [Lib.byteCells]
theorem rcells_len (a : List UInt8) : (Lib.byteCells a).length = a.length := by simp [Lib.byteCells]
theorem make_zero (N : Nat) (hN : N ≤ 16700000) : ∃ cs : Array Value, (∀ W : World, (Instr.makeSlice 75 (.int .i64 (N : Int)) (.int .i64 (N : Int))).run Tryz.prog W = .ok (.slice (some ⟨W.heap.size, 0, none⟩) N N) (W.alloc (.cells cs 5))) ∧ cs.size = N := by
  obtain ⟨i, hi, hz0, hz1, hz2⟩ := info_parts info_byte
  refine ⟨madeCells (Value.cells (.int .u8 0)) (N * i.size), fun W => ?_, ?_⟩
  · have := run_make (P := Tryz.prog) W 75 5 i (.int .u8 0) Tryz.underlying75 hi hz0 .i64 .i64 (N : Int) (N : Int) (by omega) (by omega) (by rw [hz2]; omega) (by omega)
    simpa using this
  · rw [size_madeCells, hz1, Nat.mul_one]
theorem conv_cells (W : World) (g N : Nat) (cur : Array Value) (out : List UInt8) (hg : W.heap[g]? = some (.cells cur 5 (0, 0))) (hc : cur.toList = Lib.byteCells out) (hN : out.length = N) :
    (convert 75 9 (.slice (some ⟨g, 0, none⟩) N N)).run Tryz.prog W = .ok (.string ⟨out.toArray⟩) W := by
  rw [run_convert_bytes_arg W 75 5 Tryz.underlying75 Tryz.underlying5 g 0 N N (out.map fun x => (x.toNat : Int)) (by simpa using hN) (fun i hi => by
    rw [Nat.zero_add, Lib.cell_of_heap hg i, ← Array.getElem?_toList, hc]
    have hil : i < out.length := by omega
    simp [Lib.byteCells, List.getD_eq_getElem?_getD, hil]) _ Tryz.underlying9]
  simp [strOfNums, Function.comp_def]

set_option maxRecDepth 20000 in
set_option maxHeartbeats 12800000 in
theorem run_any (B bb : Nat) (tb : List (UInt8 × ByteArray)) (s : ByteArray) (w : World) (h : TbAt w B bb tb (tb.map (·.1))) (hz : TbSz tb) (hl : tb.length ≤ 100) (hnd : (tb.map (·.1)).Nodup) (hs : s.size ≤ 160000) :
    Calls Tryz.prog 157 #[.pointer (some ⟨bb, 0, none⟩), .string s] w fun e w' => e = .returned (.string ⟨(s.data.toList.flatMap (rpB tb)).toArray⟩) ∧ Und w w' := by
  have hT := h
  obtain ⟨_, cs, h1, h2, h3, h4, v, h5, h6⟩ := h
  obtain ⟨A, c, rfl, _⟩ := own_slice h6
  have g256 : w.cell? ⟨bb, 256, none⟩ = some (.slice A (tb.map (·.1)).length c) := (Lib.cell_of_heap h1 256).trans h5
  haveI : LtW bb w := LtW.of (lt_of_heap h1)
  have hml : (tb.map (·.1)).length = tb.length := by simp
  have hlen := St.len_list s
  have HLEN := hid hlen
  have hfl := flat_len hz s.data.toList
  have hsl := sumE_le hz s.data.toList
  rw [hlen] at hfl hsl
  obtain ⟨N, hN⟩ : ∃ N, N = (s.data.toList.flatMap (rpB tb)).length := ⟨_, rfl⟩
  have HN := hid hN
  rw [← hN] at hfl
  have hN2 : N ≤ 16000000 := by omega
  have HFL := hid hfl
  have HT := hid hT
  have HZ := hid hz
  have HROW := hid h6
  obtain ⟨m, hm⟩ : ∃ m, tb.length = m := ⟨_, rfl⟩
  rw [hml, hm] at g256
  have HM := hid hm
  rw [hm] at hl
  clear h1 h2 h3 h4 h5 h6 hT hlen hfl hN hml hm
  by_cases hbr : m * 8 ≤ s.size
  · have y1 : (m : Int) * 8 ≤ (s.size : Int) := by omega
    go_enter Tryz.func157, Tryz.ntmps157
    go_wp2_with fail
    go_loopw [5, 6, 32] (fun s5 s6 s32 wr => CnRel w tb (tb.map (·.1)) s.data.toList s5 s6 s32 wr) (fun _ _ s32 _ => m + 1 - (intOf s32).toNat)
    case atStart => exact ⟨0, rfl, by omega, by simp [cntS, HLEN.out], rfl, Und.refl _⟩
    case round =>
      obtain ⟨j, rfl, hj, hs5, rfl, hu⟩ := hrel
      have HU := hid hu
      have hjl : (tb.map (·.1)).length = m := by rw [List.length_map, HM.out]
      by_cases hjm : j < m
      · obtain ⟨g, rfl, _, hg, hcells⟩ := own_cell HROW.out (by rw [hjl]; omega)
        have hcj : w.cell? ⟨g, j, none⟩ = some (.string ⟨#[(tb.map (·.1))[j]'(by omega)]⟩) := hcells j _ (by rw [List.getElem?_map, List.getElem?_eq_getElem (by omega)]; rfl)
        have cj := (hu.cell (p := ⟨g, j, none⟩) hg).trans hcj
        haveI : LtW g wr := LtW.of (Nat.lt_of_lt_of_le hg hu.size)
        have hmem : (tb.map (·.1))[j]'(by omega) ∈ tb.map (·.1) := List.getElem_mem _
        have hcs := cntS_take (tb := tb) (strs := tb.map (·.1)) (l := s.data.toList) (k := j) (by omega)
        have hany := any_take (tb.map (·.1)) (fun a => decide (0 < s.data.toList.count a)) j (by omega)
        generalize (tb.map (·.1))[j]'(by omega) = a at cj hmem hcs hany
        obtain ⟨t, ht⟩ := lookB_isSome hmem
        have hle := cntS_le HZ.out ((tb.map (·.1)).take j) s.data.toList
        rw [List.length_take, HLEN.out] at hle
        have hle2 : min j (tb.map (·.1)).length * (s.size * 99) ≤ 100 * (160000 * 99) := Nat.mul_le_mul (by omega) (by omega)
        have hcl : s.data.toList.count a ≤ s.size := by rw [← HLEN.out]; exact List.count_le_length
        have hts := (HZ.out _ (lookB_mem ht)).1
        have hts2 := (HZ.out _ (lookB_mem ht)).2
        simp only at hts hts2
        rw [ex_some ht] at hcs
        have htw := HT.out.und hu
        obtain ⟨_, cs2, k1, _, _, k4, _⟩ := htw
        obtain ⟨v2, k5, k6⟩ := k4 a t ht
        obtain ⟨g2, cap2, cb2, fr2, rfl, _, _, _, _⟩ := k6
        have ca : wr.cell? ⟨bb, a.toNat, none⟩ = some (.slice (some ⟨g2, 0, none⟩) t.size cap2) := (Lib.cell_of_heap k1 _).trans k5
        haveI : LtW bb wr := LtW.of (lt_of_heap k1)
        have zl : (a.toNat : Int) < 256 := by have := byte_lt a; omega
        have hco := hid (fun W => Tryz.strings_Count_one s a W)
        obtain ⟨so, hso⟩ : ∃ so : ByteArray, so = ⟨#[a]⟩ := ⟨_, rfl⟩
        rw [← hso] at cj hco
        have hs1 : so.size = 1 := by rw [hso]; rfl
        have hs0 : so[0]'(by omega) = a := by subst hso; rfl
        have hcb : Lib.countByte s.data.toList a = s.data.toList.count a := rfl
        rw [hcb] at hco
        obtain ⟨q, hq⟩ : ∃ q, q = s.data.toList.count a := ⟨_, rfl⟩
        rw [← hq] at hco hcs hany hcl
        obtain ⟨P0, hP0⟩ : ∃ P0, P0 = s.data.toList.length + cntS tb ((tb.map (·.1)).take j) s.data.toList := ⟨_, rfl⟩
        rw [← hP0] at hs5
        subst hs5
        have hP1 : P0 ≤ 2000000000 := by rw [hP0, HLEN.out]; omega
        have zj : (j : Int) < m := by omega
        have hqt : q * (t.size - 1) ≤ 160000 * 99 := Nat.mul_le_mul (by omega) (by omega)
        have hQ : (q : Int) * ((t.size : Int) - 1) = ((q * (t.size - 1) : Nat) : Int) := by rw [Int.natCast_mul, Int.natCast_sub (by omega)]; rfl
        have hPn : s.data.toList.length + cntS tb ((tb.map (·.1)).take (j + 1)) s.data.toList = P0 + q * (t.size - 1) := by rw [hcs, hP0]; omega
        have HPN := hid hPn
        have HANY := hid hany
        obtain ⟨Q0, hQ0⟩ : ∃ Q0, Q0 = q * (t.size - 1) := ⟨_, rfl⟩
        rw [← hQ0] at hQ HPN hqt
        have HQ0 := hid hQ0
        generalize hb0 : ((tb.map (·.1)).take j).any (fun a => decide (0 < s.data.toList.count a)) = b0 at HANY
        clear hcs hany hle hle2 hcj hcells hP0 hPn hq hso hmem k1 k4 k5 hQ0
        by_cases hq0 : q = 0
        · have zq : ((q : Int) == 0) = true := by simp; omega
          have zq2 : ((q : Int) != 0) = false := by simp; omega
          have hq00 : Q0 = 0 := by rw [HQ0.out, hq0]; simp
          have HQZ := hid (And.intro hq0 hq00)
          clear hq0 hq00
          go_wp2_with fail
          refine (hco.out _).mono ?_
          rintro e w2 ⟨rfl, rfl⟩
          go_wp2
          refine ⟨⟨j + 1, congrArg (Value.int .i64) (by omega), by omega, ?_, ?_, HU.out⟩, by simp [intOf]; omega⟩
          · rw [HPN.out, HQZ.out.2]; rfl
          · rw [HANY.out, HQZ.out.1]; simp
        · have zq : ((q : Int) == 0) = false := by simp; omega
          have zq2 : ((q : Int) != 0) = true := by simp; omega
          have HQZ := hid hq0
          clear hq0
          go_wp2_with fail
          refine (hco.out _).mono ?_
          rintro e w2 ⟨rfl, rfl⟩
          go_wp2_with fail
          go_quiet (fail)
          go_wp2
          refine ⟨⟨j + 1, congrArg (Value.int .i64) (by omega), by omega, ?_, ?_, HU.out.trans ((Und.refl _).drewN _)⟩, by simp [intOf]; omega⟩
          · rw [HPN.out]; exact congrArg (Value.int .i64) (by omega)
          · rw [HANY.out]; simp; have := HQZ.out; omega
      · obtain rfl : j = m := by omega
        have htk : (tb.map (·.1)).take j = tb.map (·.1) := List.take_of_length_le (by omega)
        rw [htk] at hs5 ⊢
        have hal := cntS_all (tb := tb) (strs := tb.map (·.1)) hnd (fun c hc => ex_none (lookB_none hc)) s.data.toList
        rw [hal, HLEN.out, ← HFL.out] at hs5
        subst hs5
        have hno : ((tb.map (·.1)).any fun a => decide (0 < s.data.toList.count a)) = false → s.data.toList.flatMap (rpB tb) = s.data.toList := by
          intro hf
          refine flat_same fun c hc => lookB_none fun hm => ?_
          have := List.any_eq_false.1 hf c hm
          simp only [decide_eq_true_eq] at this
          exact this (List.count_pos_iff.2 hc)
        have HNO := hid hno
        generalize ((tb.map (·.1)).any fun a => decide (0 < s.data.toList.count a)) = b0 at HNO ⊢
        have zj : ¬ (j : Int) < j := by omega
        clear htk hal hno hjm
        cases b0
        · have HSM := hid (HNO.out rfl)
          clear HNO
          go_wp2
          go_ret
          refine ⟨?_, HU.out⟩
          rw [HSM.out, ba_eta]
          rfl
        · clear HNO
          obtain ⟨cz, hmk, hcz⟩ := make_zero N (by omega)
          have hmk2 := hmk wr
          have hb0 := heap_alloc_new wr (.cells cz 5)
          have hu0 : Und w (wr.alloc (.cells cz 5)) := HU.out.alloc _
          obtain ⟨wq, hwq⟩ : ∃ wq, wq = wr := ⟨_, rfl⟩
          subst hwq
          have HB0 := hid hb0
          have HU0 := hid hu0
          have hszw := HU.out.size
          clear hmk hb0 hu0
          go_wp2_with fail
          go_loopw [13, 14] (fun s13 s14 wr => WrRel w wq.heap.size N tb s.data.toList s13 s14 wr) (fun _ s14 _ => s.size + 1 - (intOf s14).toNat)
          case atStart => exact ⟨0, cz, cz.toList, rfl, by omega, rfl, HB0.out, hcz, rfl, HU0.out⟩
          case round =>
            clear HB0 HU0 hmk2
            obtain ⟨k, cur, rest, rfl, hk, rfl, hbk, hcu, hcl, hux⟩ := hrel
            rw [HLEN.out] at hk
            have HUX := hid hux
            haveI : LtW wq.heap.size wr := LtW.of (lt_of_heap hbk)
            by_cases hkm : k < s.size
            · have zk : (k : Int) < s.size := by omega
              have hgk : s.data.toList[k]'(by rw [HLEN.out]; exact hkm) = s[k] := by simp; rfl
              have hft := flat_take (tb := tb) (l := s.data.toList) (k := k) (by rw [HLEN.out]; exact hkm)
              rw [hgk] at hft
              have hfle := flat_le (tb := tb) s.data.toList (k + 1)
              rw [hft, List.length_append, ← HN.out] at hfle
              have htw := HT.out.und hux
              obtain ⟨_, cs2, k1, _, k3, k4, _⟩ := htw
              haveI : LtW bb wr := LtW.of (lt_of_heap k1)
              have zl : (s[k].toNat : Int) < 256 := by have := byte_lt s[k]; omega
              have HFT := hid hft
              have hcl2 : cur.toList.length = N := by simp [hcu]
              obtain ⟨p, hp⟩ : ∃ p, p = ((s.data.toList.take k).flatMap (rpB tb)).length := ⟨_, rfl⟩
              rw [← hp] at hfle ⊢
              have hrl : rest.length = N - p := by rw [hcl, List.length_append, rcells_len, ← hp] at hcl2; omega
              have HP := hid hp
              cases hlk : lookB tb s[k] with
              | none =>
                have ca : wr.cell? ⟨bb, s[k].toNat, none⟩ = some (.slice none 0 0) := (Lib.cell_of_heap k1 _).trans (k3 _ hlk)
                rw [rp_none hlk] at hfle HFT
                simp only [List.length_singleton] at hfle
                have zp : (p : Int) < N := by omega
                obtain ⟨r0, rest', hre⟩ : ∃ r0 rest', rest = r0 :: rest' := by
                  cases rest with
                  | nil => simp at hrl; omega
                  | cons a b => exact ⟨a, b, rfl⟩
                have cp : wr.cell? ⟨wq.heap.size, p, none⟩ = some r0 := by
                  rw [Lib.cell_of_heap hbk p, ← Array.getElem?_toList, hcl, List.getElem?_append_right (by rw [rcells_len, hp]; exact Nat.le_refl _), rcells_len, ← hp, hre]; simp
                have fp : wr.frozen? ⟨wq.heap.size, p, none⟩ = false := Lib.frozen_of_heap hbk p
                have hb2 := heap_setCell_same wr wq.heap.size p _ _ (.int .u8 (s[k].toNat : Int)) hbk
                have hl2 : (cur.setIfInBounds p (.int .u8 (s[k].toNat : Int))).toList = Lib.byteCells ((s.data.toList.take (k + 1)).flatMap (rpB tb)) ++ rest' := by
                  rw [Array.toList_setIfInBounds, hcl, HFT.out, cells_app, List.set_append_right _ _ (by rw [rcells_len, hp]; exact Nat.le_refl _), rcells_len, ← hp, hre]; simp [Lib.byteCells]
                have hu2 : Und w (wr.setCell ⟨wq.heap.size, p, none⟩ (.int .u8 (s[k].toNat : Int))) := hux.setCell (p := ⟨wq.heap.size, p, none⟩) hszw _
                have HE := hid (And.intro hb2 (And.intro hl2 hu2))
                have HPF := hid (show ((s.data.toList.take (k + 1)).flatMap (rpB tb)).length = p + 1 by rw [HFT.out, List.length_append, ← hp]; rfl)
                clear hft hfle k1 k3 k4 hlk hgk hb2 hl2 hu2 hcl hbk hux hcl2 hp
                go_wp2
                exact ⟨⟨k + 1, _, rest', congrArg (Value.int .i64) (by omega), by rw [HLEN.out]; omega, by rw [HPF.out]; exact congrArg (Value.int .i64) (by omega), HE.out.1, by simp [hcu], HE.out.2.1, HE.out.2.2⟩, by simp [intOf]; omega⟩
              | some t =>
                obtain ⟨v2, k5, k6⟩ := k4 _ t hlk
                obtain ⟨g2, cap2, cb2, fr2, rfl, _, k8, k9, k10⟩ := k6
                have ca : wr.cell? ⟨bb, s[k].toNat, none⟩ = some (.slice (some ⟨g2, 0, none⟩) t.size cap2) := (Lib.cell_of_heap k1 _).trans k5
                rw [rp_some hlk] at hfle HFT
                rw [St.len_list] at hfle
                have hts1 := (HZ.out _ (lookB_mem hlk)).1
                simp only at hts1
                have zp : (p : Int) ≤ N := by omega
                have zNp : ¬ N = p := by omega
                have hts2 := (HZ.out _ (lookB_mem hlk)).2
                simp only at hts2
                have hcp0 := run_copy_row (P := Tryz.prog) wr.drew 75 75 3 5 wq.heap.size p (N - p) (N - p) ⟨g2, 0, none⟩ t.size cap2 cur 5 (Lib.byteCells t.data.toList) Tryz.underlying75 (by kernel_rfl) hbk (by rw [rcells_len, St.len_list]; exact (Nat.min_eq_left (by omega)).symm) (by
                  intro j v hj
                  have hjl : j < t.size := by
                    have := (List.getElem?_eq_some_iff.1 hj).1
                    rw [rcells_len, St.len_list] at this; exact this
                  rw [show (⟨g2, 0, none⟩ : Addr).add j = ⟨g2, j, none⟩ by unfold Addr.add; split <;> simp_all]
                  have hd : wr.drew.cell? ⟨g2, j, none⟩ = wr.cell? ⟨g2, j, none⟩ := World.cell?_drew _ _
                  rw [hd, Lib.cell_of_heap k9 j, k10 j hjl, ← hj]
                  have hjl2 : j < t.data.toList.length := by rw [St.len_list]; exact hjl
                  have hjl3 : t.data[j]? = some (t.data[j]'(by simpa using hjl2)) := Array.getElem?_eq_getElem _
                  simp [Lib.byteCells, List.getD_eq_getElem?_getD, hjl3]) (by rw [rcells_len, St.len_list]; omega) (by intro v hv; obtain ⟨x, _, rfl⟩ := List.mem_map.1 hv; rfl)
                rw [rcells_len, St.len_list] at hcp0
                have hb2 := setRow_heap wr.drew wq.heap.size cur (cur.toList.take p ++ Lib.byteCells t.data.toList ++ cur.toList.drop (p + t.size)).toArray 5 (0, 0) hbk
                have hl2 : cur.toList.take p ++ Lib.byteCells t.data.toList ++ cur.toList.drop (p + t.size) = Lib.byteCells ((s.data.toList.take (k + 1)).flatMap (rpB tb)) ++ rest.drop t.size := by
                  rw [hcl, HFT.out, cells_app, List.take_append_of_le_length (by rw [rcells_len, ← hp]; exact Nat.le_refl _), List.take_of_length_le (by rw [rcells_len, ← hp]; exact Nat.le_refl _), List.drop_append, List.drop_of_length_le (by rw [rcells_len, ← hp]; omega), rcells_len, ← hp]
                  simp
                have hsz2 : (cur.toList.take p ++ Lib.byteCells t.data.toList ++ cur.toList.drop (p + t.size)).toArray.size = N := by
                  simp [rcells_len, hcu]; omega
                obtain ⟨wc, hwc⟩ : ∃ wc, wr.drew.setRow wq.heap.size (cur.toList.take p ++ Lib.byteCells t.data.toList ++ cur.toList.drop (p + t.size)).toArray = wc := ⟨_, rfl⟩
                have hu2 : Und w wc := by rw [← hwc]; exact Und.mk (below_setRow (hux.drew).below hszw _)
                rw [hwc] at hcp0 hb2
                have hcp : (Builtin.copy_ #[75, 75] 3 #[.slice (some ⟨wq.heap.size, p, none⟩) (N - p) (N - p), .slice (some ⟨g2, 0, none⟩) t.size cap2]).run Tryz.prog wr.drew = .ok (.int .i64 (t.size : Int)) wc := hcp0
                have HE := hid (And.intro hb2 (And.intro hl2 (And.intro hu2 hsz2)))
                have HPF := hid (show ((s.data.toList.take (k + 1)).flatMap (rpB tb)).length = p + t.size by rw [HFT.out, List.length_append, ← hp, St.len_list])
                have zpn : (p : Int).toNat = p := by omega
                clear hft k1 k3 k4 k5 hlk hgk hb2 hl2 hu2 hcl hbk hux hcl2 hp hsz2 hcp0 hwc k8 k9 k10
                go_wp2_with fail
                refine wp_region_facts (fun _ _ => True) (fun L W => if L 10 = true then W = wc else W = wr.drew) [fun v _ => v = .int .i64 (p : Int), fun v _ => v = .slice (some ⟨wq.heap.size, 0, none⟩) N N, fun v _ => v = .int .i64 (p : Int), fun v _ => v = .slice (some ⟨wq.heap.size, p, none⟩) (N - p) (N - p), fun v _ => v = .pointer (some ⟨bb, 0, none⟩), fun v _ => v = .int .u8 (s[k].toNat : Int), fun v _ => v = .pointer (some ⟨bb, 0, none⟩), fun v _ => v = .pointer (some ⟨bb, 0, none⟩), fun v _ => v = .pointer (some ⟨bb, s[k].toNat, none⟩), fun v _ => v = .slice (some ⟨g2, 0, none⟩) t.size cap2, fun v _ => v = .int .i64 (t.size : Int), fun v _ => v = .int .i64 ((p : Int) + (t.size : Int)), fun v _ => v = .int .i64 ((p : Int) + (t.size : Int))] (fun _ => trivial) (fun _ _ _ _ _ => trivial) (by kernel_rfl) (by rfl) (by kernel_rfl) (by kernel_rfl) ?frA ?hfrA ?hIA ?hobA ?hendA
                case hfrA =>
                  intro ρ
                  simp only [putAll, Act.put, List.setIfInBounds_toArray, List.set_cons_succ, List.set_cons_zero, Nat.zero_add, Nat.reduceAdd]
                  exact rfl
                case hIA => simp
                case hobA =>
                  refine ObsF.cons (fun ρ L W hR hI hL hD hO hF K hK => ?_) ?_
                  · skip
                    have eo : ρ 12 = .int .i64 (p : Int) := hO 12 _ 13 rfl rfl (hD.not (p := 12) rfl (by decide) hL)
                    clear hF hD hO hR
                    simp only [Act.put, List.setIfInBounds_toArray, List.set_cons_succ, List.set_cons_zero] at hK ⊢
                    rw [eo] at hK ⊢
                    go_simp
                    refine hK _ _ trivial (by simpa [updB] using hI) (fun _ _ => ?_)
                    rfl
                  refine ObsF.cons (fun ρ L W hR hI hL hD hO hF K hK => ?_) ?_
                  · skip
                    clear hF hD hO hR
                    simp only [Act.put, List.setIfInBounds_toArray, List.set_cons_succ, List.set_cons_zero] at hK ⊢
                    go_simp
                    refine hK _ _ trivial (by simpa [updB] using hI) (fun _ _ => ?_)
                    rfl
                  refine ObsF.cons (fun ρ L W hR hI hL hD hO hF K hK => ?_) ?_
                  · skip
                    have eo : ρ 12 = .int .i64 (p : Int) := hO 12 _ 13 rfl rfl (hD.not (p := 12) rfl (by decide) hL)
                    clear hF hD hO hR
                    simp only [Act.put, List.setIfInBounds_toArray, List.set_cons_succ, List.set_cons_zero] at hK ⊢
                    rw [eo] at hK ⊢
                    go_simp
                    refine hK _ _ trivial (by simpa [updB] using hI) (fun _ _ => ?_)
                    rfl
                  refine ObsF.cons (fun ρ L W hR hI hL hD hO hF K hK => ?_) ?_
                  · skip
                    have f1 := allF_get hF (j := 1) (by decide)
                    have f2 := allF_get hF (j := 2) (by decide)
                    clear hF hD hO hR
                    simp only [Act.put, List.setIfInBounds_toArray, List.set_cons_succ, List.set_cons_zero] at hK ⊢
                    have e1 : ρ 1 = .slice (some ⟨wq.heap.size, 0, none⟩) N N := f1
                    have e2 : ρ 2 = .int .i64 (p : Int) := f2
                    rw [e1, e2] at hK ⊢
                    go_simp
                    refine hK _ _ trivial (by simpa [updB] using hI) (fun _ _ => ?_)
                    first | rfl | rw [if_neg zNp]
                  refine ObsF.cons (fun ρ L W hR hI hL hD hO hF K hK => ?_) ?_
                  · skip
                    clear hF hD hO hR
                    simp only [Act.put, List.setIfInBounds_toArray, List.set_cons_succ, List.set_cons_zero] at hK ⊢
                    go_simp
                    refine hK _ _ trivial (by simpa [updB] using hI) (fun _ _ => ?_)
                    rfl
                  refine ObsF.cons (fun ρ L W hR hI hL hD hO hF K hK => ?_) ?_
                  · skip
                    clear hF hD hO hR
                    simp only [Act.put, List.setIfInBounds_toArray, List.set_cons_succ, List.set_cons_zero] at hK ⊢
                    go_simp
                    refine hK _ _ trivial (by simpa [updB] using hI) (fun _ _ => ?_)
                    rfl
                  refine ObsF.cons (fun ρ L W hR hI hL hD hO hF K hK => ?_) ?_
                  · skip
                    have f4 := allF_get hF (j := 4) (by decide)
                    clear hF hD hO hR
                    simp only [Act.put, List.setIfInBounds_toArray, List.set_cons_succ, List.set_cons_zero] at hK ⊢
                    have e4 : ρ 4 = .pointer (some ⟨bb, 0, none⟩) := f4
                    rw [e4] at hK ⊢
                    go_simp
                    refine hK _ _ trivial (by simpa [updB] using hI) (fun _ _ => ?_)
                    rfl
                  refine ObsF.cons (fun ρ L W hR hI hL hD hO hF K hK => ?_) ?_
                  · skip
                    have f6 := allF_get hF (j := 6) (by decide)
                    clear hF hD hO hR
                    simp only [Act.put, List.setIfInBounds_toArray, List.set_cons_succ, List.set_cons_zero] at hK ⊢
                    have e6 : ρ 6 = .pointer (some ⟨bb, 0, none⟩) := f6
                    rw [e6] at hK ⊢
                    go_simp
                    refine hK _ _ trivial (by simpa [updB] using hI) (fun _ _ => ?_)
                    rfl
                  refine ObsF.cons (fun ρ L W hR hI hL hD hO hF K hK => ?_) ?_
                  · skip
                    have f5 := allF_get hF (j := 5) (by decide)
                    have f7 := allF_get hF (j := 7) (by decide)
                    clear hF hD hO hR
                    simp only [Act.put, List.setIfInBounds_toArray, List.set_cons_succ, List.set_cons_zero] at hK ⊢
                    have e5 : ρ 5 = .int .u8 (s[k].toNat : Int) := f5
                    have e7 : ρ 7 = .pointer (some ⟨bb, 0, none⟩) := f7
                    rw [e5, e7] at hK ⊢
                    go_simp
                    refine hK _ _ trivial (by simpa [updB] using hI) (fun _ _ => ?_)
                    rfl
                  refine ObsF.cons (fun ρ L W hR hI hL hD hO hF K hK => ?_) ?_
                  · skip
                    have f8 := allF_get hF (j := 8) (by decide)
                    have hLc : L 10 = false := hD.not (p := 10) rfl (by decide) hL
                    rw [if_neg (by rw [hLc]; decide)] at hI
                    subst hI
                    clear hF hD hO hR
                    simp only [Act.put, List.setIfInBounds_toArray, List.set_cons_succ, List.set_cons_zero] at hK ⊢
                    have e8 : ρ 8 = .pointer (some ⟨bb, s[k].toNat, none⟩) := f8
                    rw [e8] at hK ⊢
                    go_simp
                    refine hK _ _ trivial (by simp [updB, hLc]) (fun _ _ => ?_)
                    rfl
                  refine ObsF.cons (fun ρ L W hR hI hL hD hO hF K hK => ?_) ?_
                  · skip
                    have f3 := allF_get hF (j := 3) (by decide)
                    have f9 := allF_get hF (j := 9) (by decide)
                    rw [if_neg (by rw [hL]; decide)] at hI
                    subst hI
                    clear hF hD hO hR
                    simp only [Act.put, List.setIfInBounds_toArray, List.set_cons_succ, List.set_cons_zero] at hK ⊢
                    have e3 : ρ 3 = .slice (some ⟨wq.heap.size, p, none⟩) (N - p) (N - p) := f3
                    have e9 : ρ 9 = .slice (some ⟨g2, 0, none⟩) t.size cap2 := f9
                    rw [e3, e9] at hK ⊢
                    go_simp
                    refine hK _ _ trivial (by simp [updB]) (fun _ _ => ?_)
                    rfl
                  refine ObsF.cons (fun ρ L W hR hI hL hD hO hF K hK => ?_) ?_
                  · skip
                    have f0 := allF_get hF (j := 0) (by decide)
                    have f10 := allF_get hF (j := 10) (by decide)
                    clear hF hD hO hR
                    simp only [Act.put, List.setIfInBounds_toArray, List.set_cons_succ, List.set_cons_zero] at hK ⊢
                    have e0 : ρ 0 = .int .i64 (p : Int) := f0
                    have e10 : ρ 10 = .int .i64 (t.size : Int) := f10
                    rw [e0, e10] at hK ⊢
                    go_simp
                    refine hK _ _ trivial (by simpa [updB] using hI) (fun _ _ => ?_)
                    first | rfl | exact congrArg (Value.int .i64) (IntWalk.i64_in _ (by omega))
                  refine ObsF.cons (fun ρ L W hR hI hL hD hO hF K hK => ?_) ?_
                  · skip
                    have f11 := allF_get hF (j := 11) (by decide)
                    clear hF hD hO hR
                    simp only [Act.put, List.setIfInBounds_toArray, List.set_cons_succ, List.set_cons_zero] at hK ⊢
                    have e11 : ρ 11 = .int .i64 ((p : Int) + (t.size : Int)) := f11
                    rw [e11] at hK ⊢
                    go_simp
                    refine hK _ _ trivial (by simpa [updB] using hI) (fun _ _ => ?_)
                    rfl
                  exact ObsF.nil
                case hendA =>
                  intro ρ L W hR hI hL hF
                  rw [if_pos (hL 10 (by decide))] at hI
                  subst hI
                  obtain ⟨_, _, _, _, _, _, _, _, _, _, _, _, g12, _⟩ := hF
                  have g12 : ρ 12 = .int .i64 ((p : Int) + (t.size : Int)) := g12
                  rw [g12]
                  clear g12 hL hR
                  go_wp2
                  exact ⟨⟨k + 1, _, rest.drop t.size, congrArg (Value.int .i64) (by omega), by rw [HLEN.out]; omega, by rw [HPF.out]; exact congrArg (Value.int .i64) (by omega), HE.out.1, HE.out.2.2.2, HE.out.2.1, HE.out.2.2.1⟩, by simp [intOf]; omega⟩
            · obtain rfl : k = s.size := by omega
              have htk : s.data.toList.take s.size = s.data.toList := List.take_of_length_le (by rw [HLEN.out]; omega)
              rw [htk] at hcl ⊢
              have hcl2 : cur.toList.length = N := by simp [hcu]
              have hr0 : rest = [] := by
                rw [hcl, List.length_append, rcells_len, ← HN.out] at hcl2
                exact List.eq_nil_of_length_eq_zero (by omega)
              rw [hr0, List.append_nil] at hcl
              have hcv := conv_cells wr wq.heap.size N cur (s.data.toList.flatMap (rpB tb)) hbk hcl HN.out.symm
              have zk : ¬ (s.size : Int) < s.size := by omega
              clear hcl hcl2 hr0 htk hbk hkm
              go_wp2
              go_ret
              exact ⟨rfl, HUX.out⟩
  · have y1 : ¬ (m : Int) * 8 ≤ (s.size : Int) := by omega
    go_enter Tryz.func157, Tryz.ntmps157
    go_wp2_with fail
    go_loopw [5, 6, 10] (fun s5 s6 s10 wr => BtRel w tb s.data.toList s5 s6 s10 wr) (fun _ _ s10 _ => s.size + 1 - (intOf s10).toNat)
    case atStart => exact ⟨0, rfl, by omega, by simp [sumE, HLEN.out], rfl, Und.refl _⟩
    case round =>
      obtain ⟨j, rfl, hj, hs5, rfl, hu⟩ := hrel
      have HU := hid hu
      rw [HLEN.out] at hj
      by_cases hjm : j < s.size
      · have zj : (j : Int) < s.size := by omega
        have hgj : s.data.toList[j]'(by rw [HLEN.out]; exact hjm) = s[j] := by simp; rfl
        have hcs := sumE_take (tb := tb) (l := s.data.toList) (k := j) (by rw [HLEN.out]; exact hjm)
        have hany := any_take s.data.toList (fun c => (lookB tb c).isSome) j (by rw [HLEN.out]; exact hjm)
        rw [hgj] at hcs hany
        have hle := sumE_le HZ.out (s.data.toList.take j)
        rw [List.length_take, HLEN.out] at hle
        obtain ⟨P0, hP0⟩ : ∃ P0, P0 = s.data.toList.length + sumE tb (s.data.toList.take j) := ⟨_, rfl⟩
        rw [← hP0] at hs5
        subst hs5
        have hP1 : P0 ≤ 2000000000 := by rw [hP0, HLEN.out]; omega
        have htw := HT.out.und hu
        obtain ⟨_, cs2, k1, _, k3, k4, _⟩ := htw
        haveI : LtW bb wr := LtW.of (lt_of_heap k1)
        have zl : (s[j].toNat : Int) < 256 := by have := byte_lt s[j]; omega
        have HANY := hid hany
        generalize hb0 : (s.data.toList.take j).any (fun c => (lookB tb c).isSome) = b0 at HANY
        cases hlk : lookB tb s[j] with
        | none =>
          have ca : wr.cell? ⟨bb, s[j].toNat, none⟩ = some (.slice none 0 0) := (Lib.cell_of_heap k1 _).trans (k3 _ hlk)
          rw [ex_none hlk] at hcs
          have HPN := hid (show s.data.toList.length + sumE tb (s.data.toList.take (j + 1)) = P0 by rw [hcs, hP0]; omega)
          have HLK := hid hlk
          clear hcs hany hle k1 k3 k4 hP0 hlk hgj
          go_wp2
          exact ⟨⟨j + 1, congrArg (Value.int .i64) (by omega), by rw [HLEN.out]; omega, by rw [HPN.out], by rw [HANY.out, HLK.out]; simp, HU.out⟩, by simp [intOf]; omega⟩
        | some t =>
          obtain ⟨v2, k5, k6⟩ := k4 _ t hlk
          obtain ⟨g2, cap2, cb2, fr2, rfl, _, _, _, _⟩ := k6
          have ca : wr.cell? ⟨bb, s[j].toNat, none⟩ = some (.slice (some ⟨g2, 0, none⟩) t.size cap2) := (Lib.cell_of_heap k1 _).trans k5
          have hts := (HZ.out _ (lookB_mem hlk)).1
          have hts2 := (HZ.out _ (lookB_mem hlk)).2
          simp only at hts hts2
          rw [ex_some hlk] at hcs
          have HPN := hid (show s.data.toList.length + sumE tb (s.data.toList.take (j + 1)) = P0 + (t.size - 1) by rw [hcs, hP0]; omega)
          have HLK := hid hlk
          clear hcs hany hle k1 k3 k4 k5 hP0 hlk hgj
          go_wp2
          exact ⟨⟨j + 1, congrArg (Value.int .i64) (by omega), by rw [HLEN.out]; omega, by rw [HPN.out]; exact congrArg (Value.int .i64) (by omega), by rw [HANY.out, HLK.out]; simp, HU.out⟩, by simp [intOf]; omega⟩
      · obtain rfl : j = s.size := by omega
        have htk : s.data.toList.take s.size = s.data.toList := List.take_of_length_le (by rw [HLEN.out]; omega)
        rw [htk] at hs5 ⊢
        rw [HLEN.out, ← HFL.out] at hs5
        subst hs5
        have hno : (s.data.toList.any fun c => (lookB tb c).isSome) = false → s.data.toList.flatMap (rpB tb) = s.data.toList := by
          intro hf
          refine flat_same fun c hc => ?_
          have := List.any_eq_false.1 hf c hc
          simpa using this
        have HNO := hid hno
        generalize (s.data.toList.any fun c => (lookB tb c).isSome) = b0 at HNO ⊢
        have zj : ¬ (s.size : Int) < s.size := by omega
        clear htk hno hjm
        cases b0
        · have HSM := hid (HNO.out rfl)
          clear HNO
          go_wp2
          go_ret
          refine ⟨?_, HU.out⟩
          rw [HSM.out, ba_eta]
          rfl
        · clear HNO
          obtain ⟨cz, hmk, hcz⟩ := make_zero N (by omega)
          have hmk2 := hmk wr
          have hb0 := heap_alloc_new wr (.cells cz 5)
          have hu0 : Und w (wr.alloc (.cells cz 5)) := HU.out.alloc _
          obtain ⟨wq, hwq⟩ : ∃ wq, wq = wr := ⟨_, rfl⟩
          subst hwq
          have HB0 := hid hb0
          have HU0 := hid hu0
          have hszw := HU.out.size
          clear hmk hb0 hu0
          go_wp2_with fail
          go_loopw [13, 14] (fun s13 s14 wr => WrRel w wq.heap.size N tb s.data.toList s13 s14 wr) (fun _ s14 _ => s.size + 1 - (intOf s14).toNat)
          case atStart => exact ⟨0, cz, cz.toList, rfl, by omega, rfl, HB0.out, hcz, rfl, HU0.out⟩
          case round =>
            clear HB0 HU0 hmk2
            obtain ⟨k, cur, rest, rfl, hk, rfl, hbk, hcu, hcl, hux⟩ := hrel
            rw [HLEN.out] at hk
            have HUX := hid hux
            haveI : LtW wq.heap.size wr := LtW.of (lt_of_heap hbk)
            by_cases hkm : k < s.size
            · have zk : (k : Int) < s.size := by omega
              have hgk : s.data.toList[k]'(by rw [HLEN.out]; exact hkm) = s[k] := by simp; rfl
              have hft := flat_take (tb := tb) (l := s.data.toList) (k := k) (by rw [HLEN.out]; exact hkm)
              rw [hgk] at hft
              have hfle := flat_le (tb := tb) s.data.toList (k + 1)
              rw [hft, List.length_append, ← HN.out] at hfle
              have htw := HT.out.und hux
              obtain ⟨_, cs2, k1, _, k3, k4, _⟩ := htw
              haveI : LtW bb wr := LtW.of (lt_of_heap k1)
              have zl : (s[k].toNat : Int) < 256 := by have := byte_lt s[k]; omega
              have HFT := hid hft
              have hcl2 : cur.toList.length = N := by simp [hcu]
              obtain ⟨p, hp⟩ : ∃ p, p = ((s.data.toList.take k).flatMap (rpB tb)).length := ⟨_, rfl⟩
              rw [← hp] at hfle ⊢
              have hrl : rest.length = N - p := by rw [hcl, List.length_append, rcells_len, ← hp] at hcl2; omega
              have HP := hid hp
              cases hlk : lookB tb s[k] with
              | none =>
                have ca : wr.cell? ⟨bb, s[k].toNat, none⟩ = some (.slice none 0 0) := (Lib.cell_of_heap k1 _).trans (k3 _ hlk)
                rw [rp_none hlk] at hfle HFT
                simp only [List.length_singleton] at hfle
                have zp : (p : Int) < N := by omega
                obtain ⟨r0, rest', hre⟩ : ∃ r0 rest', rest = r0 :: rest' := by
                  cases rest with
                  | nil => simp at hrl; omega
                  | cons a b => exact ⟨a, b, rfl⟩
                have cp : wr.cell? ⟨wq.heap.size, p, none⟩ = some r0 := by
                  rw [Lib.cell_of_heap hbk p, ← Array.getElem?_toList, hcl, List.getElem?_append_right (by rw [rcells_len, hp]; exact Nat.le_refl _), rcells_len, ← hp, hre]; simp
                have fp : wr.frozen? ⟨wq.heap.size, p, none⟩ = false := Lib.frozen_of_heap hbk p
                have hb2 := heap_setCell_same wr wq.heap.size p _ _ (.int .u8 (s[k].toNat : Int)) hbk
                have hl2 : (cur.setIfInBounds p (.int .u8 (s[k].toNat : Int))).toList = Lib.byteCells ((s.data.toList.take (k + 1)).flatMap (rpB tb)) ++ rest' := by
                  rw [Array.toList_setIfInBounds, hcl, HFT.out, cells_app, List.set_append_right _ _ (by rw [rcells_len, hp]; exact Nat.le_refl _), rcells_len, ← hp, hre]; simp [Lib.byteCells]
                have hu2 : Und w (wr.setCell ⟨wq.heap.size, p, none⟩ (.int .u8 (s[k].toNat : Int))) := hux.setCell (p := ⟨wq.heap.size, p, none⟩) hszw _
                have HE := hid (And.intro hb2 (And.intro hl2 hu2))
                have HPF := hid (show ((s.data.toList.take (k + 1)).flatMap (rpB tb)).length = p + 1 by rw [HFT.out, List.length_append, ← hp]; rfl)
                clear hft hfle k1 k3 k4 hlk hgk hb2 hl2 hu2 hcl hbk hux hcl2 hp
                go_wp2
                exact ⟨⟨k + 1, _, rest', congrArg (Value.int .i64) (by omega), by rw [HLEN.out]; omega, by rw [HPF.out]; exact congrArg (Value.int .i64) (by omega), HE.out.1, by simp [hcu], HE.out.2.1, HE.out.2.2⟩, by simp [intOf]; omega⟩
              | some t =>
                obtain ⟨v2, k5, k6⟩ := k4 _ t hlk
                obtain ⟨g2, cap2, cb2, fr2, rfl, _, k8, k9, k10⟩ := k6
                have ca : wr.cell? ⟨bb, s[k].toNat, none⟩ = some (.slice (some ⟨g2, 0, none⟩) t.size cap2) := (Lib.cell_of_heap k1 _).trans k5
                rw [rp_some hlk] at hfle HFT
                rw [St.len_list] at hfle
                have hts1 := (HZ.out _ (lookB_mem hlk)).1
                simp only at hts1
                have zp : (p : Int) ≤ N := by omega
                have zNp : ¬ N = p := by omega
                have hts2 := (HZ.out _ (lookB_mem hlk)).2
                simp only at hts2
                have hcp0 := run_copy_row (P := Tryz.prog) wr.drew 75 75 3 5 wq.heap.size p (N - p) (N - p) ⟨g2, 0, none⟩ t.size cap2 cur 5 (Lib.byteCells t.data.toList) Tryz.underlying75 (by kernel_rfl) hbk (by rw [rcells_len, St.len_list]; exact (Nat.min_eq_left (by omega)).symm) (by
                  intro j v hj
                  have hjl : j < t.size := by
                    have := (List.getElem?_eq_some_iff.1 hj).1
                    rw [rcells_len, St.len_list] at this; exact this
                  rw [show (⟨g2, 0, none⟩ : Addr).add j = ⟨g2, j, none⟩ by unfold Addr.add; split <;> simp_all]
                  have hd : wr.drew.cell? ⟨g2, j, none⟩ = wr.cell? ⟨g2, j, none⟩ := World.cell?_drew _ _
                  rw [hd, Lib.cell_of_heap k9 j, k10 j hjl, ← hj]
                  have hjl2 : j < t.data.toList.length := by rw [St.len_list]; exact hjl
                  have hjl3 : t.data[j]? = some (t.data[j]'(by simpa using hjl2)) := Array.getElem?_eq_getElem _
                  simp [Lib.byteCells, List.getD_eq_getElem?_getD, hjl3]) (by rw [rcells_len, St.len_list]; omega) (by intro v hv; obtain ⟨x, _, rfl⟩ := List.mem_map.1 hv; rfl)
                rw [rcells_len, St.len_list] at hcp0
                have hb2 := setRow_heap wr.drew wq.heap.size cur (cur.toList.take p ++ Lib.byteCells t.data.toList ++ cur.toList.drop (p + t.size)).toArray 5 (0, 0) hbk
                have hl2 : cur.toList.take p ++ Lib.byteCells t.data.toList ++ cur.toList.drop (p + t.size) = Lib.byteCells ((s.data.toList.take (k + 1)).flatMap (rpB tb)) ++ rest.drop t.size := by
                  rw [hcl, HFT.out, cells_app, List.take_append_of_le_length (by rw [rcells_len, ← hp]; exact Nat.le_refl _), List.take_of_length_le (by rw [rcells_len, ← hp]; exact Nat.le_refl _), List.drop_append, List.drop_of_length_le (by rw [rcells_len, ← hp]; omega), rcells_len, ← hp]
                  simp
                have hsz2 : (cur.toList.take p ++ Lib.byteCells t.data.toList ++ cur.toList.drop (p + t.size)).toArray.size = N := by
                  simp [rcells_len, hcu]; omega
                obtain ⟨wc, hwc⟩ : ∃ wc, wr.drew.setRow wq.heap.size (cur.toList.take p ++ Lib.byteCells t.data.toList ++ cur.toList.drop (p + t.size)).toArray = wc := ⟨_, rfl⟩
                have hu2 : Und w wc := by rw [← hwc]; exact Und.mk (below_setRow (hux.drew).below hszw _)
                rw [hwc] at hcp0 hb2
                have hcp : (Builtin.copy_ #[75, 75] 3 #[.slice (some ⟨wq.heap.size, p, none⟩) (N - p) (N - p), .slice (some ⟨g2, 0, none⟩) t.size cap2]).run Tryz.prog wr.drew = .ok (.int .i64 (t.size : Int)) wc := hcp0
                have HE := hid (And.intro hb2 (And.intro hl2 (And.intro hu2 hsz2)))
                have HPF := hid (show ((s.data.toList.take (k + 1)).flatMap (rpB tb)).length = p + t.size by rw [HFT.out, List.length_append, ← hp, St.len_list])
                have zpn : (p : Int).toNat = p := by omega
                clear hft k1 k3 k4 k5 hlk hgk hb2 hl2 hu2 hcl hbk hux hcl2 hp hsz2 hcp0 hwc k8 k9 k10
                go_wp2_with fail
                refine wp_region_facts (fun _ _ => True) (fun L W => if L 10 = true then W = wc else W = wr.drew) [fun v _ => v = .int .i64 (p : Int), fun v _ => v = .slice (some ⟨wq.heap.size, 0, none⟩) N N, fun v _ => v = .int .i64 (p : Int), fun v _ => v = .slice (some ⟨wq.heap.size, p, none⟩) (N - p) (N - p), fun v _ => v = .pointer (some ⟨bb, 0, none⟩), fun v _ => v = .int .u8 (s[k].toNat : Int), fun v _ => v = .pointer (some ⟨bb, 0, none⟩), fun v _ => v = .pointer (some ⟨bb, 0, none⟩), fun v _ => v = .pointer (some ⟨bb, s[k].toNat, none⟩), fun v _ => v = .slice (some ⟨g2, 0, none⟩) t.size cap2, fun v _ => v = .int .i64 (t.size : Int), fun v _ => v = .int .i64 ((p : Int) + (t.size : Int)), fun v _ => v = .int .i64 ((p : Int) + (t.size : Int))] (fun _ => trivial) (fun _ _ _ _ _ => trivial) (by kernel_rfl) (by rfl) (by kernel_rfl) (by kernel_rfl) ?frB ?hfrB ?hIB ?hobB ?hendB
                case hfrB =>
                  intro ρ
                  simp only [putAll, Act.put, List.setIfInBounds_toArray, List.set_cons_succ, List.set_cons_zero, Nat.zero_add, Nat.reduceAdd]
                  exact rfl
                case hIB => simp
                case hobB =>
                  refine ObsF.cons (fun ρ L W hR hI hL hD hO hF K hK => ?_) ?_
                  · skip
                    have eo : ρ 12 = .int .i64 (p : Int) := hO 12 _ 13 rfl rfl (hD.not (p := 12) rfl (by decide) hL)
                    clear hF hD hO hR
                    simp only [Act.put, List.setIfInBounds_toArray, List.set_cons_succ, List.set_cons_zero] at hK ⊢
                    rw [eo] at hK ⊢
                    go_simp
                    refine hK _ _ trivial (by simpa [updB] using hI) (fun _ _ => ?_)
                    rfl
                  refine ObsF.cons (fun ρ L W hR hI hL hD hO hF K hK => ?_) ?_
                  · skip
                    clear hF hD hO hR
                    simp only [Act.put, List.setIfInBounds_toArray, List.set_cons_succ, List.set_cons_zero] at hK ⊢
                    go_simp
                    refine hK _ _ trivial (by simpa [updB] using hI) (fun _ _ => ?_)
                    rfl
                  refine ObsF.cons (fun ρ L W hR hI hL hD hO hF K hK => ?_) ?_
                  · skip
                    have eo : ρ 12 = .int .i64 (p : Int) := hO 12 _ 13 rfl rfl (hD.not (p := 12) rfl (by decide) hL)
                    clear hF hD hO hR
                    simp only [Act.put, List.setIfInBounds_toArray, List.set_cons_succ, List.set_cons_zero] at hK ⊢
                    rw [eo] at hK ⊢
                    go_simp
                    refine hK _ _ trivial (by simpa [updB] using hI) (fun _ _ => ?_)
                    rfl
                  refine ObsF.cons (fun ρ L W hR hI hL hD hO hF K hK => ?_) ?_
                  · skip
                    have f1 := allF_get hF (j := 1) (by decide)
                    have f2 := allF_get hF (j := 2) (by decide)
                    clear hF hD hO hR
                    simp only [Act.put, List.setIfInBounds_toArray, List.set_cons_succ, List.set_cons_zero] at hK ⊢
                    have e1 : ρ 1 = .slice (some ⟨wq.heap.size, 0, none⟩) N N := f1
                    have e2 : ρ 2 = .int .i64 (p : Int) := f2
                    rw [e1, e2] at hK ⊢
                    go_simp
                    refine hK _ _ trivial (by simpa [updB] using hI) (fun _ _ => ?_)
                    first | rfl | rw [if_neg zNp]
                  refine ObsF.cons (fun ρ L W hR hI hL hD hO hF K hK => ?_) ?_
                  · skip
                    clear hF hD hO hR
                    simp only [Act.put, List.setIfInBounds_toArray, List.set_cons_succ, List.set_cons_zero] at hK ⊢
                    go_simp
                    refine hK _ _ trivial (by simpa [updB] using hI) (fun _ _ => ?_)
                    rfl
                  refine ObsF.cons (fun ρ L W hR hI hL hD hO hF K hK => ?_) ?_
                  · skip
                    clear hF hD hO hR
                    simp only [Act.put, List.setIfInBounds_toArray, List.set_cons_succ, List.set_cons_zero] at hK ⊢
                    go_simp
                    refine hK _ _ trivial (by simpa [updB] using hI) (fun _ _ => ?_)
                    rfl
                  refine ObsF.cons (fun ρ L W hR hI hL hD hO hF K hK => ?_) ?_
                  · skip
                    have f4 := allF_get hF (j := 4) (by decide)
                    clear hF hD hO hR
                    simp only [Act.put, List.setIfInBounds_toArray, List.set_cons_succ, List.set_cons_zero] at hK ⊢
                    have e4 : ρ 4 = .pointer (some ⟨bb, 0, none⟩) := f4
                    rw [e4] at hK ⊢
                    go_simp
                    refine hK _ _ trivial (by simpa [updB] using hI) (fun _ _ => ?_)
                    rfl
                  refine ObsF.cons (fun ρ L W hR hI hL hD hO hF K hK => ?_) ?_
                  · skip
                    have f6 := allF_get hF (j := 6) (by decide)
                    clear hF hD hO hR
                    simp only [Act.put, List.setIfInBounds_toArray, List.set_cons_succ, List.set_cons_zero] at hK ⊢
                    have e6 : ρ 6 = .pointer (some ⟨bb, 0, none⟩) := f6
                    rw [e6] at hK ⊢
                    go_simp
                    refine hK _ _ trivial (by simpa [updB] using hI) (fun _ _ => ?_)
                    rfl
                  refine ObsF.cons (fun ρ L W hR hI hL hD hO hF K hK => ?_) ?_
                  · skip
                    have f5 := allF_get hF (j := 5) (by decide)
                    have f7 := allF_get hF (j := 7) (by decide)
                    clear hF hD hO hR
                    simp only [Act.put, List.setIfInBounds_toArray, List.set_cons_succ, List.set_cons_zero] at hK ⊢
                    have e5 : ρ 5 = .int .u8 (s[k].toNat : Int) := f5
                    have e7 : ρ 7 = .pointer (some ⟨bb, 0, none⟩) := f7
                    rw [e5, e7] at hK ⊢
                    go_simp
                    refine hK _ _ trivial (by simpa [updB] using hI) (fun _ _ => ?_)
                    rfl
                  refine ObsF.cons (fun ρ L W hR hI hL hD hO hF K hK => ?_) ?_
                  · skip
                    have f8 := allF_get hF (j := 8) (by decide)
                    have hLc : L 10 = false := hD.not (p := 10) rfl (by decide) hL
                    rw [if_neg (by rw [hLc]; decide)] at hI
                    subst hI
                    clear hF hD hO hR
                    simp only [Act.put, List.setIfInBounds_toArray, List.set_cons_succ, List.set_cons_zero] at hK ⊢
                    have e8 : ρ 8 = .pointer (some ⟨bb, s[k].toNat, none⟩) := f8
                    rw [e8] at hK ⊢
                    go_simp
                    refine hK _ _ trivial (by simp [updB, hLc]) (fun _ _ => ?_)
                    rfl
                  refine ObsF.cons (fun ρ L W hR hI hL hD hO hF K hK => ?_) ?_
                  · skip
                    have f3 := allF_get hF (j := 3) (by decide)
                    have f9 := allF_get hF (j := 9) (by decide)
                    rw [if_neg (by rw [hL]; decide)] at hI
                    subst hI
                    clear hF hD hO hR
                    simp only [Act.put, List.setIfInBounds_toArray, List.set_cons_succ, List.set_cons_zero] at hK ⊢
                    have e3 : ρ 3 = .slice (some ⟨wq.heap.size, p, none⟩) (N - p) (N - p) := f3
                    have e9 : ρ 9 = .slice (some ⟨g2, 0, none⟩) t.size cap2 := f9
                    rw [e3, e9] at hK ⊢
                    go_simp
                    refine hK _ _ trivial (by simp [updB]) (fun _ _ => ?_)
                    rfl
                  refine ObsF.cons (fun ρ L W hR hI hL hD hO hF K hK => ?_) ?_
                  · skip
                    have f0 := allF_get hF (j := 0) (by decide)
                    have f10 := allF_get hF (j := 10) (by decide)
                    clear hF hD hO hR
                    simp only [Act.put, List.setIfInBounds_toArray, List.set_cons_succ, List.set_cons_zero] at hK ⊢
                    have e0 : ρ 0 = .int .i64 (p : Int) := f0
                    have e10 : ρ 10 = .int .i64 (t.size : Int) := f10
                    rw [e0, e10] at hK ⊢
                    go_simp
                    refine hK _ _ trivial (by simpa [updB] using hI) (fun _ _ => ?_)
                    first | rfl | exact congrArg (Value.int .i64) (IntWalk.i64_in _ (by omega))
                  refine ObsF.cons (fun ρ L W hR hI hL hD hO hF K hK => ?_) ?_
                  · skip
                    have f11 := allF_get hF (j := 11) (by decide)
                    clear hF hD hO hR
                    simp only [Act.put, List.setIfInBounds_toArray, List.set_cons_succ, List.set_cons_zero] at hK ⊢
                    have e11 : ρ 11 = .int .i64 ((p : Int) + (t.size : Int)) := f11
                    rw [e11] at hK ⊢
                    go_simp
                    refine hK _ _ trivial (by simpa [updB] using hI) (fun _ _ => ?_)
                    rfl
                  exact ObsF.nil
                case hendB =>
                  intro ρ L W hR hI hL hF
                  rw [if_pos (hL 10 (by decide))] at hI
                  subst hI
                  obtain ⟨_, _, _, _, _, _, _, _, _, _, _, _, g12, _⟩ := hF
                  have g12 : ρ 12 = .int .i64 ((p : Int) + (t.size : Int)) := g12
                  rw [g12]
                  clear g12 hL hR
                  go_wp2
                  exact ⟨⟨k + 1, _, rest.drop t.size, congrArg (Value.int .i64) (by omega), by rw [HLEN.out]; omega, by rw [HPF.out]; exact congrArg (Value.int .i64) (by omega), HE.out.1, HE.out.2.2.2, HE.out.2.1, HE.out.2.2.1⟩, by simp [intOf]; omega⟩
            · obtain rfl : k = s.size := by omega
              have htk : s.data.toList.take s.size = s.data.toList := List.take_of_length_le (by rw [HLEN.out]; omega)
              rw [htk] at hcl ⊢
              have hcl2 : cur.toList.length = N := by simp [hcu]
              have hr0 : rest = [] := by
                rw [hcl, List.length_append, rcells_len, ← HN.out] at hcl2
                exact List.eq_nil_of_length_eq_zero (by omega)
              rw [hr0, List.append_nil] at hcl
              have hcv := conv_cells wr wq.heap.size N cur (s.data.toList.flatMap (rpB tb)) hbk hcl HN.out.symm
              have zk : ¬ (s.size : Int) < s.size := by omega
              clear hcl hcl2 hr0 htk hbk hkm
              go_wp2
              go_ret
              exact ⟨rfl, HUX.out⟩
end Go.Proofs.YtpahkhmheikebaaGreatDoor

namespace Go.Proofs.YtpahkhmheikebaaGreatDoor
open Go.RowKit

theorem TbOk.sz {tb : List (UInt8 × ByteArray)} (h : TbOk tb) : TbSz tb.reverse := fun p hp => h.2.2.1 p (List.mem_reverse.1 hp)
theorem RepB.low {w : World} {B B' rb : Nat} {tb : List (UInt8 × ByteArray)} (h : RepB w B rb tb) (hb : B' ≤ B) : RepB w B' rb tb := by
  obtain ⟨h0, bb, h1, h2⟩ := h
  exact ⟨Nat.le_trans hb h0, bb, h1, h2.low hb⟩
/-- A Replacer, built or not. -/
def RepAt (w : World) (B rb : Nat) (tb : List (UInt8 × ByteArray)) : Prop := RepF w B rb (osOf tb) ∨ RepB w B rb tb
theorem RepAt.und {a c : World} {B rb : Nat} {tb : List (UInt8 × ByteArray)} (h : RepAt a B rb tb) (u : Und a c) : RepAt c B rb tb := h.imp (fun h => h.und u) (fun h => h.und u)
theorem RepAt.lt {w : World} {B rb : Nat} {tb : List (UInt8 × ByteArray)} (h : RepAt w B rb tb) : rb < w.heap.size := by
  rcases h with h | h
  · obtain ⟨_, v, h, _⟩ := h
    exact lt_of_heap h
  · obtain ⟨_, v, h, _⟩ := h
    exact lt_of_heap h
set_option maxRecDepth 20000 in
set_option maxHeartbeats 3200000 in
theorem replace_any (B rb : Nat) (tb : List (UInt8 × ByteArray)) (s : ByteArray) (w : World) (hR : RepAt w B rb tb) (hk : TbOk tb) (hB : B ≤ w.heap.size) (hs : s.size ≤ 160000) :
    Calls Tryz.prog 29 #[.pointer (some ⟨rb, 0, none⟩), .string s] w fun e w' => e = .returned (.string ⟨(s.data.toList.flatMap (rpB tb.reverse)).toArray⟩) ∧ RepB w' B rb tb ∧ Below B w w' := by
  have hdo : Calls Tryz.prog 53 #[.pointer (some ⟨rb, 0, none⟩), .func (.func 54) #[.pointer (some ⟨rb, 0, none⟩)] #[]] w fun e w' => e = .returned (.tuple #[]) ∧ RepB w' B rb tb ∧ Below B w w' := by
    rcases hR with h | h
    · exact repdo_first B rb tb w h hk hB
    · refine (repdo_done B rb tb _ w h).mono ?_
      rintro e w' ⟨rfl, rfl⟩
      exact ⟨rfl, h, Below.refl _ _⟩
  have HDO := hid hdo
  have HK := hid hk
  haveI : LtW rb w := LtW.of hR.lt
  have hR1 := hid hR
  clear hdo hk hR
  go_enter Tryz.func29, Tryz.ntmps29
  go_wp2_with fail
  refine HDO.out.mono ?_
  rintro e w2 ⟨rfl, hRB, hbl⟩
  have HRB := hid hRB
  have HBL := hid hbl
  obtain ⟨hBr, bb, h1, h2⟩ := hRB
  have c1 : w2.cell? ⟨rb, 3, none⟩ = some (.iface 154 (.pointer (some ⟨bb, 0, none⟩))) := Lib.cell_of_heap h1 3
  haveI : LtW rb w2 := LtW.of (lt_of_heap h1)
  have hnd : (tb.reverse.map (·.1)).Nodup := by rw [List.map_reverse]; exact (List.reverse_perm _).nodup_iff.2 HK.out.2.2.2
  have HRUN := hid (run_any B bb tb.reverse s w2 h2 HK.out.sz (by rw [List.length_reverse]; exact HK.out.2.1) hnd hs)
  clear hbl h1 h2 hnd HDO
  go_wp2_with fail
  refine HRUN.out.mono ?_
  rintro e w3 ⟨rfl, hu⟩
  have HU := hid hu
  clear hu
  go_wp2
  go_ret
  exact ⟨rfl, HRB.out.und HU.out, HBL.out.trans (HU.out.below.mono (Nat.le_trans hB HBL.out.size))⟩
end Go.Proofs.YtpahkhmheikebaaGreatDoor

namespace Go.Proofs.YtpahkhmheikebaaGreatDoor
open Go.RowKit

namespace St
theorem index_sp : ∀ l : List UInt8, Lib.indexByte l 32 = if (nameOf l).length < l.length then ((nameOf l).length : Int) else -1
  | [] => rfl
  | c :: l => by
    unfold Lib.indexByte
    by_cases h : c.toNat = 32
    · have h2 : c = 32 := by apply UInt8.toNat_inj.1; simpa using h
      subst h2
      simp [nameOf]
    · have h2 : ¬ c = 32 := fun e => h (by rw [e]; rfl)
      have h3 : (c == 32) = false := by simpa using h2
      have e : (nameOf (c :: l)).length = (nameOf l).length + 1 := by unfold nameOf; rw [List.takeWhile_cons_of_pos (by simpa using h), List.length_cons]
      rw [h3, index_sp l, e]
      simp only [List.length_cons, Bool.false_eq_true, if_false]
      by_cases h4 : (nameOf l).length < l.length
      · rw [if_pos h4, if_neg (by simp <;> omega), if_pos (by omega)]; try simp
      · rw [if_neg h4, if_pos (by simp), if_neg (by omega)]
theorem name_pre (l : List UInt8) : nameOf l = l.take (nameOf l).length := List.prefix_iff_eq_take.1 (List.takeWhile_prefix _)
theorem name_le (l : List UInt8) : (nameOf l).length ≤ l.length := (List.takeWhile_prefix _).length_le
theorem brace_ix (c : UInt8) : Lib.indexByte [60, 62, 123, 125] c < 0 ↔ (c.toNat ≠ 60 ∧ c.toNat ≠ 62 ∧ c.toNat ≠ 123 ∧ c.toNat ≠ 125) := by
  by_cases h1 : c = 60
  · subst h1; decide
  by_cases h2 : c = 62
  · subst h2; decide
  by_cases h3 : c = 123
  · subst h3; decide
  by_cases h4 : c = 125
  · subst h4; decide
  have b1 : ((60 : UInt8) == c) = false := by simpa using fun e => h1 e.symm
  have b2 : ((62 : UInt8) == c) = false := by simpa using fun e => h2 e.symm
  have b3 : ((123 : UInt8) == c) = false := by simpa using fun e => h3 e.symm
  have b4 : ((125 : UInt8) == c) = false := by simpa using fun e => h4 e.symm
  have hi : Lib.indexByte [60, 62, 123, 125] c = -1 := by simp [Lib.indexByte, b1, b2, b3, b4]
  rw [hi]
  exact ⟨fun _ => ⟨fun e => h1 (UInt8.toNat_inj.1 e), fun e => h2 (UInt8.toNat_inj.1 e), fun e => h3 (UInt8.toNat_inj.1 e), fun e => h4 (UInt8.toNat_inj.1 e)⟩, fun _ => by decide⟩
end St
/-- What a cut at a blank gives. -/
def CutSp (s x y : ByteArray) (f : Bool) : Prop := x.data.toList = St.nameOf s.data.toList ∧ f = decide (x.size < s.size) ∧ y.size = s.size - x.size - 1
theorem cutsp0_any (s : ByteArray) (w : World) (hs : s.size ≤ 4611686018427387904) : Calls Tryz.prog 77 #[.string s, .string ⟨#[32]⟩] w fun e w' => ∃ (x y : ByteArray) (f : Bool), e = .returned (.tuple #[.string x, .string y, .bool f]) ∧ CutSp s x y f ∧ Und w w' := by
  have hix : ∀ W, Calls Tryz.prog 90 #[.string s, .string ⟨#[32]⟩] W fun e w' => e = .returned (.int .i64 (Lib.indexByte s.data.toList 32)) ∧ w' = W := fun W => Tryz.stringslite_Index_one s 32 W
  rw [St.index_sp] at hix
  have hle := St.name_le s.data.toList
  rw [St.len_list] at hle
  by_cases h : (St.nameOf s.data.toList).length < s.data.toList.length
  · rw [if_pos h] at hix
    have h2 : (St.nameOf s.data.toList).length < s.size := by rw [St.len_list] at h; exact h
    have hx : CutSp s (s.extract 0 (St.nameOf s.data.toList).length) (s.extract ((St.nameOf s.data.toList).length + 1) s.size) true := by
      refine ⟨?_, ?_, ?_⟩
      · rw [Lib.extract_data]
        conv => rhs; rw [St.name_pre]
        simp
      · rw [ByteArray.size_extract]; simp; omega
      · rw [ByteArray.size_extract, ByteArray.size_extract]; omega
    generalize (St.nameOf s.data.toList).length = n at *
    have HX := hid hx
    have HIX := hid hix
    have y1 : (n : Int) ≤ s.size := by omega
    have y2 : (n : Int) + 1 ≤ s.size := by omega
    clear hx hix h hle
    go_enter Tryz.func77, Tryz.ntmps77
    go_wp2_with (go_at_call 90; refine (HIX.out _).mono ?_; rintro e w' ⟨rfl, rfl⟩)
    go_quiet (fail)
    go_wp2
    go_ret3
    exact ⟨_, _, _, rfl, HX.out, (Und.refl _).drewN _⟩
  · rw [if_neg h] at hix
    have hx : CutSp s s ⟨#[]⟩ false := by
      refine ⟨?_, by simp, show 0 = _ by omega⟩
      conv => rhs; rw [St.name_pre]
      exact (List.take_of_length_le (by omega)).symm
    generalize (St.nameOf s.data.toList).length = n at *
    have HX := hid hx
    have HIX := hid hix
    clear hx hix h hle
    go_enter Tryz.func77, Tryz.ntmps77
    go_wp2_with (go_at_call 90; refine (HIX.out _).mono ?_; rintro e w' ⟨rfl, rfl⟩)
    go_ret3
    exact ⟨_, _, _, rfl, HX.out, Und.refl _⟩
theorem cutsp_any (s : ByteArray) (w : World) (hs : s.size ≤ 4611686018427387904) : Calls Tryz.prog 60 #[.string s, .string ⟨#[32]⟩] w fun e w' => ∃ (x y : ByteArray) (f : Bool), e = .returned (.tuple #[.string x, .string y, .bool f]) ∧ CutSp s x y f ∧ Und w w' := by
  have HC := hid (cutsp0_any s w hs)
  go_enter Tryz.func60, Tryz.ntmps60
  go_wp2_with fail
  refine HC.out.mono ?_
  rintro e w' ⟨x, y, f, rfl, hx, hu⟩
  have HX := hid hx
  have HU := hid hu
  clear hu
  clear hx
  go_wp2
  first | go_ret | go_ret3
  exact ⟨x, y, f, rfl, HX.out, HU.out⟩
theorem iname_any (t : List UInt8) (w : World) (hs : t.length ≤ 4611686018427387904) : Calls Tryz.prog 65 #[.string ⟨t.toArray⟩] w fun e w' => e = .returned (.string ⟨(St.nameOf t).toArray⟩) ∧ Und w w' := by
  have HC := hid (cutsp_any ⟨t.toArray⟩ w (by show t.toArray.size ≤ _; simpa using hs))
  go_enter Tryz.func65, Tryz.ntmps65
  go_wp2_with fail
  refine HC.out.mono ?_
  rintro e w' ⟨x, y, f, rfl, hx, hu⟩
  have HX := hid (show x = ⟨(St.nameOf t).toArray⟩ by rw [← ba_eta x, hx.1])
  have HU := hid hu
  clear hu hx
  go_wp2
  go_ret
  exact ⟨by rw [HX.out]; rfl, HU.out⟩
set_option maxHeartbeats 3200000 in
theorem icontent_any (s : ByteArray) (w : World) (hs : s.size ≤ 4611686018427387904) : Calls Tryz.prog 64 #[.string s] w fun e w' => e = .returned (.bool (St.isContentL s.data.toList)) ∧ Und w w' := by
  have HLEN := hid (St.len_list s)
  by_cases h64 : 64 < s.size
  · have z : (64 : Int) < s.size := by omega
    have hr := hid (show St.isContentL s.data.toList = false by unfold St.isContentL; rw [HLEN.out, decide_eq_false (by omega)]; rfl)
    go_enter Tryz.func64, Tryz.ntmps64
    go_wp2
    go_ret
    exact ⟨ret_bool hr.out.symm, (by repeat (first | exact Und.refl _ | assumption | refine Und.under ?_ _ | refine Und.alloc ?_ _ | refine Und.drew ?_ | refine Und.drewN ?_ _))⟩
  have z : ¬ (64 : Int) < s.size := by omega
  by_cases h0 : s.size = 0
  · have z0 : ((s.size : Int) == 0) = true := by rw [h0]; rfl
    have hr := hid (show St.isContentL s.data.toList = false by
      have : s.data.toList = [] := List.eq_nil_of_length_eq_zero (by rw [HLEN.out]; exact h0)
      rw [this]; decide)
    go_enter Tryz.func64, Tryz.ntmps64
    go_wp2
    go_ret
    exact ⟨ret_bool hr.out.symm, (by repeat (first | exact Und.refl _ | assumption | refine Und.under ?_ _ | refine Und.alloc ?_ _ | refine Und.drew ?_ | refine Und.drewN ?_ _))⟩
  have z0 : ((s.size : Int) == 0) = false := beq_eq_false_iff_ne.2 (by omega)
  obtain ⟨m, hm⟩ : ∃ m, s.size = m + 1 := ⟨s.size - 1, by omega⟩
  have hml : m < s.size := by omega
  have hlast : s.data.toList.getLast? = some s[m] := by
    rw [List.getLast?_eq_getElem?, HLEN.out, show s.size - 1 = m by omega]
    exact List.getElem?_eq_getElem (by rw [HLEN.out]; exact hml)
  have z3 : (s.size : Int) - 1 = (m : Int) := by omega
  have z4 : (m : Int) < s.size := by omega
  clear hm
  by_cases q3 : s[m].toNat = 47
  · have p3 : ((s[m].toNat : Int) == 47) = true := by simp; omega
    have hr := hid (show St.isContentL s.data.toList = false by
      have e : s[m] = 47 := by apply UInt8.toNat_inj.1; simpa using q3
      unfold St.isContentL
      rw [hlast, e]; simp)
    clear hlast
    go_enter Tryz.func64, Tryz.ntmps64
    go_wp2
    go_ret
    exact ⟨ret_bool hr.out.symm, (by repeat (first | exact Und.refl _ | assumption | refine Und.under ?_ _ | refine Und.alloc ?_ _ | refine Und.drew ?_ | refine Und.drewN ?_ _))⟩
  have p3 : ((s[m].toNat : Int) == 47) = false := by simp; omega
  have hl47 : (s.data.toList.getLast? != some 47) = true := by
    rw [hlast]
    have : s[m] ≠ 47 := fun e => q3 (by rw [e]; rfl)
    simpa using this
  have HL47 := hid hl47
  clear hl47 hlast q3
  go_enter Tryz.func64, Tryz.ntmps64
  go_wp2
  go_loopw [3] (fun i wr => CoRel s i ∧ Und w wr) (fun i _ => s.size + 1 - (intOf i).toNat)
  case atStart => exact ⟨⟨0, rfl, by omega, rfl⟩, Und.refl _⟩
  case round =>
    obtain ⟨⟨k, rfl, hk, hl⟩, hu⟩ := hrel
    have HL := hid hl
    have HU := hid hu
    clear hl hu
    by_cases hlt : k < s.size
    · have hcons := St.drop_at s k hlt
      have z1 : (k : Int) < s.size := by omega
      have hix := fun W => Tryz.strings_IndexByte ⟨#[60, 62, 123, 125]⟩ (s[k].toNat : Int) W
      have hbk : ((s[k].toNat : Int).toNat.toUInt8) = s[k] := by simp
      have hiv := St.brace_ix s[k]
      rw [hbk, show (⟨#[60, 62, 123, 125]⟩ : ByteArray).data.toList = [60, 62, 123, 125] from rfl] at hix
      generalize Lib.indexByte [60, 62, 123, 125] s[k] = v at hix hiv
      have HIX := hid hix
      cases hcc : St.contentC s[k]
      · have hr := hid (content_no (s := s.data.toList) (by rw [HL.out, hcons]; simp [hcc]))
        have hcc' := of_decide_eq_false hcc
        clear hcons hcc hix hbk
        by_cases q1 : s[k].toNat < 32
        · have p1 : (s[k].toNat : Int) < 32 := by omega
          go_wp2
          go_ret
          exact ⟨ret_bool hr.out.symm, HU.out⟩
        · have p1 : ¬ (s[k].toNat : Int) < 32 := by omega
          by_cases q2 : 126 < s[k].toNat
          · have p2 : (126 : Int) < (s[k].toNat : Int) := by omega
            go_wp2
            go_ret
            exact ⟨ret_bool hr.out.symm, HU.out⟩
          · have p2 : ¬ (126 : Int) < (s[k].toNat : Int) := by omega
            have hv : 0 ≤ v := by
              refine Int.not_lt.1 fun h => ?_
              have := hiv.1 h
              omega
            clear hiv hcc'
            go_wp2_with fail
            refine (HIX.out _).mono ?_
            rintro e w' ⟨rfl, rfl⟩
            go_wp2
            go_ret
            exact ⟨ret_bool hr.out.symm, HU.out⟩
      · have hl2 := hid (show s.data.toList.all St.contentC = (s.data.toList.drop (k + 1)).all St.contentC by rw [HL.out, hcons]; simp [hcc])
        have hcc' := of_decide_eq_true hcc
        have p1 : ¬ (s[k].toNat : Int) < 32 := by omega
        have p2 : ¬ (126 : Int) < (s[k].toNat : Int) := by omega
        have hv : ¬ 0 ≤ v := by
          have := hiv.2 ⟨hcc'.2.2.1, hcc'.2.2.2.1, hcc'.2.2.2.2.1, hcc'.2.2.2.2.2⟩
          omega
        clear hcons hcc hcc' hix hbk hiv
        go_wp2_with fail
        refine (HIX.out _).mono ?_
        rintro e w' ⟨rfl, rfl⟩
        go_wp2
        exact ⟨⟨⟨k + 1, congrArg (Value.int .i64) (by omega), by omega, hl2.out⟩, HU.out⟩, by simp [intOf]; omega⟩
    · have hke : k = s.size := by omega
      subst hke
      have hall : s.data.toList.all St.contentC = true := by rw [HL.out, List.drop_of_length_le (by simp)]; rfl
      have hr : St.isContentL s.data.toList = (St.isNameL (St.nameOf s.data.toList) && (decide ((St.nameOf s.data.toList).length = s.size) || decide ((St.nameOf s.data.toList).length + 1 < s.size))) := by
        unfold St.isContentL; rw [HLEN.out, decide_eq_true (by omega), hall, HL47.out]; simp
      have HR := hid hr
      have HC := hid (cutsp_any s wr hs)
      have y0 : ¬ (s.size : Int) < s.size := by omega
      clear hr hall hlt hk
      go_wp2_with fail
      refine HC.out.mono ?_
      rintro e w' ⟨x, y, f, rfl, ⟨hx1, hx2, hx3⟩, hu⟩
      have HU2 := hid (HU.out.trans hu)
      have hxl := St.len_list x
      rw [hx1] at hxl
      have hnl := St.name_le s.data.toList
      rw [HLEN.out, hxl] at hnl
      have hin := isname_any x w' (by omega)
      rw [hx1] at hin
      have HIN := hid hin
      rw [hxl] at HR
      clear hin hx1 hu HC hxl
      generalize St.isNameL (St.nameOf s.data.toList) = b1 at HIN HR
      cases b1
      · go_wp2_with fail
        refine HIN.out.mono ?_
        rintro e w' ⟨rfl, rfl⟩
        go_wp2
        go_ret
        exact ⟨ret_bool (by rw [HR.out]; rfl), HU2.out⟩
      · by_cases q1 : x.size = s.size
        · have hf : f = false := by rw [hx2]; exact decide_eq_false (by omega)
          subst hf
          rw [decide_eq_true q1] at HR
          clear hx2 hx3
          go_wp2_with fail
          refine HIN.out.mono ?_
          rintro e w' ⟨rfl, rfl⟩
          go_wp2
          go_ret
          exact ⟨ret_bool (by rw [HR.out]; rfl), HU2.out⟩
        · have hf : f = true := by rw [hx2]; exact decide_eq_true (by omega)
          subst hf
          rw [decide_eq_false q1] at HR
          by_cases q2 : x.size + 1 < s.size
          · have p2 : (0 : Int) < y.size := by omega
            rw [decide_eq_true q2] at HR
            clear hx2 hx3
            go_wp2_with fail
            refine HIN.out.mono ?_
            rintro e w' ⟨rfl, rfl⟩
            go_wp2
            go_ret
            exact ⟨ret_bool (by rw [HR.out, decide_eq_true (show 0 < y.size by omega)]; rfl), HU2.out⟩
          · have p2 : ¬ (0 : Int) < y.size := by omega
            rw [decide_eq_false q2] at HR
            clear hx2 hx3
            go_wp2_with fail
            refine HIN.out.mono ?_
            rintro e w' ⟨rfl, rfl⟩
            go_wp2
            go_ret
            exact ⟨ret_bool (by rw [HR.out, decide_eq_false (show ¬ 0 < y.size by omega)]; rfl), HU2.out⟩
end Go.Proofs.YtpahkhmheikebaaGreatDoor

namespace Go.Proofs.YtpahkhmheikebaaGreatDoor
open Go.RowKit

theorem itag_any (k : Int) (t : ByteArray) (i : Int) (w : World) : Calls Tryz.prog 51 #[.agg #[.int .i64 k, .string t, .int .i64 i]] w fun e w' => e = .returned (.bool (St.isTagK k)) ∧ Und w w' := by
  by_cases h2 : k = 2
  · subst h2
    go_enter Tryz.func51, Tryz.ntmps51
    go_wp2
    go_ret
    exact ⟨rfl, (by repeat (first | exact Und.refl _ | assumption | refine Und.under ?_ _ | refine Und.alloc ?_ _ | refine Und.drew ?_ | refine Und.drewN ?_ _))⟩
  · have z2 : (k == 2) = false := by simpa using h2
    by_cases h3 : k = 3
    · subst h3
      go_enter Tryz.func51, Tryz.ntmps51
      go_wp2
      go_ret
      exact ⟨rfl, (by repeat (first | exact Und.refl _ | assumption | refine Und.under ?_ _ | refine Und.alloc ?_ _ | refine Und.drew ?_ | refine Und.drewN ?_ _))⟩
    · have z3 : (k == 3) = false := by simpa using h3
      by_cases h4 : k = 4
      · subst h4
        go_enter Tryz.func51, Tryz.ntmps51
        go_wp2
        go_ret
        exact ⟨rfl, (by repeat (first | exact Und.refl _ | assumption | refine Und.under ?_ _ | refine Und.alloc ?_ _ | refine Und.drew ?_ | refine Und.drewN ?_ _))⟩
      · have z4 : (k == 4) = false := by simpa using h4
        have hr := hid (show St.isTagK k = false by unfold St.isTagK; simp [h2, h3, h4])
        clear h2 h3 h4
        go_enter Tryz.func51, Tryz.ntmps51
        go_wp2
        go_ret
        exact ⟨ret_bool hr.out.symm, (by repeat (first | exact Und.refl _ | assumption | refine Und.under ?_ _ | refine Und.alloc ?_ _ | refine Und.drew ?_ | refine Und.drewN ?_ _))⟩
theorem iwidth_any (k : Int) (t : List UInt8) (i : Int) (w : World) : Calls Tryz.prog 62 #[.agg #[.int .i64 k, .string ⟨t.toArray⟩, .int .i64 i]] w fun e w' => e = .returned (.int .i64 (St.widthI (k, t, i) : Nat)) ∧ Und w w' := by
  have htz : (⟨t.toArray⟩ : ByteArray).size = t.length := by show t.toArray.size = _; simp
  by_cases h : k = 1
  · subst h
    have hr := hid (show St.widthI (1, t, i) = t.length by unfold St.widthI; simp)
    go_enter Tryz.func62, Tryz.ntmps62
    go_wp2
    go_ret
    exact ⟨ret_int (by rw [hr.out, ← htz]), (by repeat (first | exact Und.refl _ | assumption | refine Und.under ?_ _ | refine Und.alloc ?_ _ | refine Und.drew ?_ | refine Und.drewN ?_ _))⟩
  · have z : (k == 1) = false := by simpa using h
    have hr := hid (show St.widthI (k, t, i) = 1 by unfold St.widthI; simp [h])
    clear h
    go_enter Tryz.func62, Tryz.ntmps62
    go_wp2
    go_ret
    exact ⟨ret_int (by rw [hr.out]; rfl), (by repeat (first | exact Und.refl _ | assumption | refine Und.under ?_ _ | refine Und.alloc ?_ _ | refine Und.drew ?_ | refine Und.drewN ?_ _))⟩

def IlRel (w : World) (f : List St.It) (s3 s8 : Value) (wr : World) : Prop := ∃ k : Nat, k ≤ f.length ∧ s8 = .int .i64 k ∧ s3 = .int .i64 (St.lenL (f.take k) : Nat) ∧ Und w wr
theorem lenL_le (f : List St.It) (k : Nat) : St.lenL (f.take k) ≤ St.lenL f := by
  have : St.lenL f = St.lenL (f.take k) + St.lenL (f.drop k) := by
    conv => lhs; rw [← List.take_append_drop k f]
    unfold St.lenL; rw [List.map_append, List.sum_append]
  omega
set_option maxHeartbeats 3200000 in
theorem ilength_any (A : Option Addr) (n c : Nat) (f : List St.It) (w : World) (hn : f.length = n) (h : ItemsAt w A f) (hl : n ≤ 1000000000000) (ht : tot f ≤ 4611686018427387904) :
    Calls Tryz.prog 49 #[.slice A n c] w fun e w' => e = .returned (.int .i64 (St.lenL f : Nat)) ∧ Und w w' := by
  have H := hid h
  have HN := hid hn
  have hll := lenL_tot f
  clear h hn
  go_enter Tryz.func49, Tryz.ntmps49
  go_wp2
  go_loopw [3, 8] (fun s3 s8 wr => IlRel w f s3 s8 wr) (fun _ s8 _ => n + 1 - (intOf s8).toNat)
  case atStart => exact ⟨0, by omega, rfl, rfl, Und.refl _⟩
  case round =>
    obtain ⟨k, hk, rfl, rfl, hu⟩ := hrel
    have HU := hid hu
    clear hu
    have hN := HN.out
    by_cases hlt : k < n
    · have hlt2 : k < f.length := by omega
      obtain ⟨b, off, rfl, hb, hc⟩ := (H.out.und HU.out) (by omega)
      obtain ⟨c0, c1, c2⟩ := hc k hlt2
      have hlk := lenL_take f k hlt2
      have hle := lenL_le f (k + 1)
      have hxl := tot_at f k hlt2
      have hT := tot_le f k
      generalize f[k] = x at c0 c1 c2 hlk hxl
      obtain ⟨kd, tx, id⟩ := x
      simp only at c0 c1 c2 hxl
      have hwd := hid (fun W => iwidth_any kd tx id W)
      generalize St.widthI (kd, tx, id) = wd at hwd hlk
      haveI : LtW b wr := LtW.of hb
      have hlk2 : ((St.lenL (f.take (k + 1)) : Nat) : Int) = ((St.lenL (f.take k) : Nat) : Int) + (wd : Int) := by omega
      have HLK := hid hlk2
      have hsm : St.lenL (f.take k) + wd ≤ 4611686018427387904 + 1000000000000 := by omega
      generalize St.lenL (f.take k) = m at HLK hsm ⊢
      clear hc hlt2 hlk hlk2 hle hll hxl hT
      go_wp2_with fail
      refine (hwd.out _).mono ?_
      rintro e w3 ⟨rfl, hu3⟩
      have HU3 := hid (HU.out.trans (Und.trans ((by repeat (first | exact Und.refl _ | assumption | refine Und.under ?_ _ | refine Und.alloc ?_ _ | refine Und.drew ?_ | refine Und.drewN ?_ _))) hu3))
      clear hu3 c0 c1 c2
      go_wp2
      exact ⟨⟨k + 1, by omega, congrArg (Value.int .i64) (by omega), by rw [HLK.out], HU3.out⟩, by simp [intOf]; omega⟩
    · have hkn : k = n := by omega
      subst hkn
      have hr := hid (show St.lenL (f.take k) = St.lenL f by rw [List.take_of_length_le (by omega)])
      clear hlt hll
      go_wp2
      go_ret
      exact ⟨ret_int (by rw [hr.out]), HU.out⟩
end Go.Proofs.YtpahkhmheikebaaGreatDoor

namespace Go.Proofs.YtpahkhmheikebaaGreatDoor
open Go.RowKit

set_option maxRecDepth 20000 in
set_option maxHeartbeats 6400000 in
theorem ifits_any (A : Option Addr) (n c : Nat) (f : List St.It) (k : Int) (t : List UInt8) (i : Int) (w : World) (hn : f.length = n) (h : ItemsAt w A f) (hl : n ≤ 1000000000000) (ht : tot f ≤ 4611686018427387904) :
    Calls Tryz.prog 52 #[.slice A n c, .agg #[.int .i64 k, .string ⟨t.toArray⟩, .int .i64 i]] w fun e w' => e = .returned (.bool (!(f.any (St.clash (k, t, i))))) ∧ Und w w' := by
  have H := hid h
  have HN := hid hn
  have HT := hid ht
  have HBU := hid ((Und.refl w).alloc (.cells #[.int .i64 k, .string ⟨t.toArray⟩, .int .i64 i] 38))
  clear h hn ht
  go_enter Tryz.func52, Tryz.ntmps52
  go_wp2
  go_loopw [9] (fun s9 wr => CkRel (w.alloc (.cells #[.int .i64 k, .string ⟨t.toArray⟩, .int .i64 i] 38)) f (k, t, i) n s9 wr) (fun s9 _ => n + 1 - (intOf s9).toNat)
  case atStart => exact ⟨0, by omega, rfl, by simp, (by repeat (first | exact Und.refl _ | assumption | refine Und.under ?_ _ | refine Und.alloc ?_ _ | refine Und.drew ?_ | refine Und.drewN ?_ _))⟩
  case round =>
    obtain ⟨j, hj, rfl, hcl, hu⟩ := hrel
    have HCL := hid hcl
    have HU := hid hu
    have HUB := hid (HBU.out.trans hu)
    have HT2 := HT.out
    have b0 : wr.cell? ⟨w.heap.size, 0, none⟩ = some (.int .i64 k) := (hu.cell (p := ⟨w.heap.size, 0, none⟩) (by simp)).trans (by simp)
    have b1 : wr.cell? ⟨w.heap.size, 1, none⟩ = some (.string ⟨t.toArray⟩) := (hu.cell (p := ⟨w.heap.size, 1, none⟩) (by simp)).trans (by simp)
    have b2 : wr.cell? ⟨w.heap.size, 2, none⟩ = some (.int .i64 i) := (hu.cell (p := ⟨w.heap.size, 2, none⟩) (by simp)).trans (by simp)
    haveI : LtW w.heap.size wr := LtW.of (World.block_lt_of_cell? _ _ b0)
    clear hcl hu
    by_cases hlt : j < n
    · have hlt2 : j < f.length := by rw [HN.out]; exact hlt
      obtain ⟨b, off, rfl, hb, hc⟩ := (H.out.und HUB.out) (by omega)
      obtain ⟨c0, c1, c2⟩ := hc j hlt2
      have hst := hid (ck_step HCL.out hlt2)
      have hfo := hid (ck_found (f := f) (x := (k, t, i)) hlt2)
      have hyl := hid (tot_at f j hlt2)
      generalize f[j] = y at c0 c1 c2 hst hfo hyl
      obtain ⟨yk, yt, yi⟩ := y
      simp only at c0 c1 c2
      haveI : LtW b wr := LtW.of hb
      clear hc hlt2
      go_wp2_with fail
      refine (itag_any yk ⟨yt.toArray⟩ yi _).mono ?_
      rintro e w3 ⟨rfl, hu3⟩
      have hu3' : Und wr w3 := Und.trans ((by repeat (first | exact Und.refl _ | assumption | refine Und.under ?_ _ | refine Und.alloc ?_ _ | refine Und.drew ?_ | refine Und.drewN ?_ _))) hu3
      have d0 : w3.cell? ⟨wr.heap.size, 0, none⟩ = some (.int .i64 yk) := (hu3.cell (p := ⟨wr.heap.size, 0, none⟩) (by simp)).trans (by simp)
      have d1 : w3.cell? ⟨wr.heap.size, 1, none⟩ = some (.string ⟨yt.toArray⟩) := (hu3.cell (p := ⟨wr.heap.size, 1, none⟩) (by simp)).trans (by simp)
      have d2 : w3.cell? ⟨wr.heap.size, 2, none⟩ = some (.int .i64 yi) := (hu3.cell (p := ⟨wr.heap.size, 2, none⟩) (by simp)).trans (by simp)
      have e0 : w3.cell? ⟨w.heap.size, 0, none⟩ = some (.int .i64 k) := (hu3'.cell (LtW.lt inferInstance)).trans b0
      have e1 : w3.cell? ⟨w.heap.size, 1, none⟩ = some (.string ⟨t.toArray⟩) := (hu3'.cell (LtW.lt inferInstance)).trans b1
      have e2 : w3.cell? ⟨w.heap.size, 2, none⟩ = some (.int .i64 i) := (hu3'.cell (LtW.lt inferInstance)).trans b2
      haveI : LtW w.heap.size w3 := LtW.of (World.block_lt_of_cell? _ _ e0)
      haveI : LtW wr.heap.size w3 := LtW.of (World.block_lt_of_cell? _ _ d0)
      have HU3 := hid (HU.out.trans hu3')
      clear hu3 hu3' b0 b1 b2 c0 c1 c2 HU HUB
      have hrel2 : St.clash (k, t, i) (yk, yt, yi) = false → CkRel (w.alloc (.cells #[.int .i64 k, .string ⟨t.toArray⟩, .int .i64 i] 38)) f (k, t, i) n (.int .i64 ((j : Int) + 1)) w3 := fun h => ⟨j + 1, by omega, congrArg (Value.int .i64) (by omega), hst.out h, HU3.out⟩
      have HREL2 := hid hrel2
      clear hrel2
      cases htk : St.isTagK yk
      · have hcf := hid (HREL2.out (by unfold St.clash; rw [htk]; rfl))
        clear htk HREL2
        go_wp2
        exact ⟨hcf.out, by simp [intOf]; omega⟩
      · by_cases hyi : yi = i
        · subst hyi
          have v1 : (yi == yi) = true := beq_self_eq_true _
          have v2 : (yi != yi) = false := by simp
          by_cases hk3 : k = 3
          · subst hk3
            by_cases hyk : yk = 2
            · subst hyk
              have hny := hid (fun W => iname_any yt W (Nat.le_trans hyl.out HT2))
              by_cases hnm : St.nameOf yt = t
              · have hcf := hid (HREL2.out (by unfold St.clash; simp [hnm]))
                have hb : ((⟨(St.nameOf yt).toArray⟩ : ByteArray).toList == (⟨t.toArray⟩ : ByteArray).toList) = true := by rw [hnm]; exact beq_self_eq_true _
                have hb2 : ((⟨(St.nameOf yt).toArray⟩ : ByteArray).toList != (⟨t.toArray⟩ : ByteArray).toList) = false := by rw [hnm]; simp
                clear htk HREL2
                go_wp2_with fail
                first | refine wp_region_under2 (by kernel_rfl) (by kernel_rfl) ?_ | refine wp_region_under (by kernel_rfl) (by kernel_rfl) ?_
                repeat (go_big_quiet_step (first | ((go_at_call 65; exact Calls.under_of (hny.out _)))))
                refine wpQuiet_nil ?_
                rintro _ ⟨X, rfl⟩
                go_wp2
                exact ⟨CkRel.und hcf.out (by repeat (first | exact Und.refl _ | assumption | refine Und.under ?_ _ | refine Und.alloc ?_ _ | refine Und.drew ?_ | refine Und.drewN ?_ _)), by simp [intOf]; omega⟩
              · have hct := hid (hfo.out (by unfold St.clash; simp [htk, hnm]))
                have hb3 : (St.nameOf yt == t) = false := by simpa using hnm
                have hb4 : (St.nameOf yt != t) = true := by simpa using hnm
                have hb : ((⟨(St.nameOf yt).toArray⟩ : ByteArray).toList == (⟨t.toArray⟩ : ByteArray).toList) = false := by rw [Lib.toList_data, Lib.toList_data]; simpa using hnm
                have hb2 : ((⟨(St.nameOf yt).toArray⟩ : ByteArray).toList != (⟨t.toArray⟩ : ByteArray).toList) = true := by rw [Lib.toList_data, Lib.toList_data]; simpa using hnm
                clear htk HREL2
                go_wp2_with fail
                first | refine wp_region_under2 (by kernel_rfl) (by kernel_rfl) ?_ | refine wp_region_under (by kernel_rfl) (by kernel_rfl) ?_
                repeat (go_big_quiet_step (first | ((go_at_call 65; exact Calls.under_of (hny.out _)))))
                refine wpQuiet_nil ?_
                rintro _ ⟨X, rfl⟩
                go_wp2
                go_ret
                refine ⟨ret_bool ?_, HBU.out.trans (HU3.out.trans (by repeat (first | exact Und.refl _ | assumption | refine Und.under ?_ _ | refine Und.alloc ?_ _ | refine Und.drew ?_ | refine Und.drewN ?_ _)))⟩
                rw [hct.out]; rfl
            · have v3 : (yk == 2) = false := by simpa using hyk
              have v4 : (yk != 2) = true := by simpa using hyk
              have hct := hid (hfo.out (by unfold St.clash; simp [htk, hyk]))
              clear htk HREL2 hyk
              go_wp2_with fail
              first | refine wp_region_under2 (by kernel_rfl) (by kernel_rfl) ?_ | refine wp_region_under (by kernel_rfl) (by kernel_rfl) ?_
              repeat (go_big_quiet_step (first | (fail)))
              refine wpQuiet_nil ?_
              rintro _ ⟨X, rfl⟩
              go_wp2
              go_ret
              refine ⟨ret_bool ?_, HBU.out.trans (HU3.out.trans (by repeat (first | exact Und.refl _ | assumption | refine Und.under ?_ _ | refine Und.alloc ?_ _ | refine Und.drew ?_ | refine Und.drewN ?_ _)))⟩
              rw [hct.out]; rfl
          · have v3 : (k == 3) = false := by simpa using hk3
            have v4 : (k != 3) = true := by simpa using hk3
            have hct := hid (hfo.out (by unfold St.clash; simp [htk, hk3]))
            clear htk HREL2 hk3
            go_wp2_with fail
            first | refine wp_region_under2 (by kernel_rfl) (by kernel_rfl) ?_ | refine wp_region_under (by kernel_rfl) (by kernel_rfl) ?_
            repeat (go_big_quiet_step (first | (fail)))
            refine wpQuiet_nil ?_
            rintro _ ⟨X, rfl⟩
            go_wp2
            go_ret
            refine ⟨ret_bool ?_, HBU.out.trans (HU3.out.trans (by repeat (first | exact Und.refl _ | assumption | refine Und.under ?_ _ | refine Und.alloc ?_ _ | refine Und.drew ?_ | refine Und.drewN ?_ _)))⟩
            rw [hct.out]; rfl
        · have v1 : (yi == i) = false := by simpa using hyi
          have v2 : (yi != i) = true := by simpa using hyi
          have hcf := hid (HREL2.out (by unfold St.clash; simp [hyi]))
          clear htk HREL2 hyi
          go_wp2
          exact ⟨hcf.out, by simp [intOf]; omega⟩
    · have hjn : j = n := by omega
      subst hjn
      have hnone := hid (ck_end HCL.out HN.out)
      clear hlt b0 b1 b2
      go_wp2
      go_ret
      refine ⟨ret_bool ?_, HBU.out.trans HU.out⟩
      rw [hnone.out]; rfl

/-- Has an item the fields of its kind? -/
def wfL (before : List St.It) (x : St.It) : Bool :=
  if x.1 = 1 then (!x.2.1.isEmpty && (decide (x.2.2 = 0) && (match before.getLast? with | none => true | some y => decide (y.1 ≠ 1))))
  else if x.1 = 5 then (St.isNameL x.2.1 && decide (x.2.2 = 0))
  else if x.1 = 2 ∨ x.1 = 4 then (St.isContentL x.2.1 && decide (1 ≤ x.2.2 ∧ x.2.2 ≤ 999))
  else if x.1 = 3 then (St.isNameL x.2.1 && decide (1 ≤ x.2.2 ∧ x.2.2 ≤ 999)) else false
theorem check_wf (before : List St.It) (x : St.It) : St.checkL before x = if wfL before x = true then (if (St.isTagK x.1 && before.any (St.clash x)) = true then 7 else 0) else 1 := by
  obtain ⟨k, t, i⟩ := x
  unfold St.checkL wfL
  have g1 : St.isTagK 1 = false := by decide
  have g5 : St.isTagK 5 = false := by decide
  have g2 : St.isTagK 2 = true := by decide
  have g3 : St.isTagK 3 = true := by decide
  have g4 : St.isTagK 4 = true := by decide
  by_cases k1 : k = 1
  · subst k1
    cases hg : before.getLast? with
    | none => cases t <;> by_cases hi : i = 0 <;> simp [hi, g1]
    | some y => cases t <;> by_cases hi : i = 0 <;> by_cases hy : y.1 = 1 <;> simp [hi, hy, g1]
  · by_cases k5 : k = 5
    · subst k5
      cases hb : St.isNameL t <;> by_cases hi : i = 0 <;> simp [hb, hi, g5]
    · by_cases k2 : k = 2
      · subst k2
        cases hb : St.isContentL t <;> by_cases hi : 1 ≤ i <;> by_cases hj : i ≤ 999 <;> simp [hb, hi, hj] <;> rw [g2, Bool.true_and]
      · by_cases k4 : k = 4
        · subst k4
          cases hb : St.isContentL t <;> by_cases hi : 1 ≤ i <;> by_cases hj : i ≤ 999 <;> simp [hb, hi, hj] <;> rw [g4, Bool.true_and]
        · by_cases k3 : k = 3
          · subst k3
            cases hb : St.isNameL t <;> by_cases hi : 1 ≤ i <;> by_cases hj : i ≤ 999 <;> simp [hb, hi, hj] <;> rw [g3, Bool.true_and]
          · simp [k1, k2, k3, k4, k5]
set_option maxRecDepth 20000 in
set_option maxHeartbeats 12800000 in
theorem iwf_any (b off n c j : Nat) (f : List St.It) (k : Int) (t : List UInt8) (i : Int) (w : World) (hn : f.length = n) (hj : j < n) (hx : f[j]? = some (k, t, i)) (h : ItemsAt w (some ⟨b, off, none⟩) f) (hl : n ≤ 1000000000000) (htl : t.length ≤ 4611686018427387904) :
    Calls Tryz.prog 50 #[.slice (some ⟨b, off, none⟩) n c, .int .i64 j] w fun e w' => e = .returned (.bool (wfL (f.take j) (k, t, i))) ∧ Und w w' := by
  have hj2 : j < f.length := by omega
  obtain ⟨b', off', e, hb, hc⟩ := h (by omega)
  obtain ⟨rfl, rfl⟩ : b = b' ∧ off = off' := by simp at e; exact e
  clear e
  obtain ⟨c0, c1, c2⟩ := hc j hj2
  have hfj : f[j] = (k, t, i) := by rw [List.getElem?_eq_getElem hj2] at hx; exact Option.some.inj hx
  rw [hfj] at c0 c1 c2
  simp only at c0 c1 c2
  haveI : LtW b w := LtW.of hb
  have htz : (⟨t.toArray⟩ : ByteArray).size = t.length := by show t.toArray.size = _; simp
  have hnml := hid (fun W => isname_any ⟨t.toArray⟩ W (by omega))
  have hcnt := hid (fun W => icontent_any ⟨t.toArray⟩ W (by omega))
  have HC := hid hc
  have HN := hid hn
  clear hc h hfj hx
  by_cases k1 : k = 1
  · subst k1
    by_cases t0 : t = []
    · subst t0
      have hr := hid (show wfL (f.take j) (1, [], i) = false by unfold wfL; simp)
      go_enter Tryz.func50, Tryz.ntmps50
      go_wp2
      go_ret
      exact ⟨ret_bool hr.out.symm, (by repeat (first | exact Und.refl _ | assumption | refine Und.under ?_ _ | refine Und.alloc ?_ _ | refine Und.drew ?_ | refine Und.drewN ?_ _))⟩
    · have hte : ((⟨t.toArray⟩ : ByteArray).toList == []) = false := by rw [Lib.toList_data]; simpa using t0
      have hte3 : ((⟨t.toArray⟩ : ByteArray).toList != []) = true := by rw [Lib.toList_data]; simpa using t0
      have hte2 : t.isEmpty = false := by simpa using t0
      by_cases i0 : i = 0
      · subst i0
        by_cases j0 : j = 0
        · subst j0
          have hr := hid (show wfL (f.take 0) (1, t, 0) = true by unfold wfL; simp [t0])
          clear t0
          rw [show ((0 : Nat) : Int) = 0 from rfl]
          simp only [Nat.zero_mul, Nat.add_zero] at c0 c1 c2
          go_enter Tryz.func50, Tryz.ntmps50
          go_wp2
          go_ret
          exact ⟨ret_bool hr.out.symm, (by repeat (first | exact Und.refl _ | assumption | refine Und.under ?_ _ | refine Und.alloc ?_ _ | refine Und.drew ?_ | refine Und.drewN ?_ _))⟩
        · obtain ⟨m, rfl⟩ : ∃ m, j = m + 1 := ⟨j - 1, by omega⟩
          have hm : m < f.length := by omega
          have d0 := (HC.out m hm).1
          have hlast : (f.take (m + 1)).getLast? = some f[m] := by rw [List.getLast?_eq_getElem?]; simp [Nat.min_eq_left (show m + 1 ≤ f.length by omega), hm]
          have hr : wfL (f.take (m + 1)) (1, t, 0) = decide (f[m].1 ≠ 1) := by unfold wfL; simp [t0, hlast]
          generalize f[m] = y at d0 hr
          obtain ⟨yk, yt, yi⟩ := y
          simp only at d0 hr
          have HR := hid hr
          have hm1 : ((m + 1 : Nat) : Int) - 1 = (m : Int) := by omega
          have hz1 : (((m + 1 : Nat) : Int) == 0) = false := beq_eq_false_iff_ne.2 (by omega)
          have hmn : m < n := by omega
          clear t0 hr hlast j0 hm
          by_cases hyk : yk = 1
          · subst hyk
            go_enter Tryz.func50, Tryz.ntmps50
            go_wp2
            go_ret
            exact ⟨ret_bool (by rw [HR.out]; rfl), (by repeat (first | exact Und.refl _ | assumption | refine Und.under ?_ _ | refine Und.alloc ?_ _ | refine Und.drew ?_ | refine Und.drewN ?_ _))⟩
          · have hyk2 : (yk == 1) = false := by simpa using hyk
            have hyk3 : (yk != 1) = true := by simpa using hyk
            go_enter Tryz.func50, Tryz.ntmps50
            go_wp2
            go_ret
            exact ⟨ret_bool (by rw [HR.out, decide_eq_true hyk]), (by repeat (first | exact Und.refl _ | assumption | refine Und.under ?_ _ | refine Und.alloc ?_ _ | refine Und.drew ?_ | refine Und.drewN ?_ _))⟩
      · have z1 : (i == 0) = false := by simpa using i0
        have z2 : (i != 0) = true := by simpa using i0
        have hr := hid (show wfL (f.take j) (1, t, i) = false by unfold wfL; simp [i0])
        clear t0 i0
        go_enter Tryz.func50, Tryz.ntmps50
        go_wp2
        go_ret
        exact ⟨ret_bool hr.out.symm, (by repeat (first | exact Und.refl _ | assumption | refine Und.under ?_ _ | refine Und.alloc ?_ _ | refine Und.drew ?_ | refine Und.drewN ?_ _))⟩
  · have z1 : (k == 1) = false := by simpa using k1
    by_cases k5 : k = 5
    · subst k5
      clear k1 z1
      have hr := hid (show wfL (f.take j) (5, t, i) = (St.isNameL t && decide (i = 0)) by unfold wfL; simp)
      have hnm := hnml.out
      simp only at hnm
      generalize St.isNameL t = nb at hnm hr
      have HNM := hid hnm
      clear hnm hnml
      cases nb
      · go_enter Tryz.func50, Tryz.ntmps50
        go_wp2_with (go_at_call 63; refine (HNM.out _).mono ?_; rintro e w' ⟨rfl, rfl⟩)
        go_ret
        exact ⟨ret_bool (by rw [hr.out]; rfl), (by repeat (first | exact Und.refl _ | assumption | refine Und.under ?_ _ | refine Und.alloc ?_ _ | refine Und.drew ?_ | refine Und.drewN ?_ _))⟩
      · by_cases i0 : i = 0
        · subst i0
          go_enter Tryz.func50, Tryz.ntmps50
          go_wp2_with (go_at_call 63; refine (HNM.out _).mono ?_; rintro e w' ⟨rfl, rfl⟩)
          go_ret
          exact ⟨ret_bool (by rw [hr.out]; rfl), (by repeat (first | exact Und.refl _ | assumption | refine Und.under ?_ _ | refine Und.alloc ?_ _ | refine Und.drew ?_ | refine Und.drewN ?_ _))⟩
        · have z2 : (i == 0) = false := by simpa using i0
          have hr2 := hid (show wfL (f.take j) (5, t, i) = false by rw [hr.out, decide_eq_false i0]; rfl)
          clear i0
          go_enter Tryz.func50, Tryz.ntmps50
          go_wp2_with (go_at_call 63; refine (HNM.out _).mono ?_; rintro e w' ⟨rfl, rfl⟩)
          go_ret
          exact ⟨ret_bool hr2.out.symm, (by repeat (first | exact Und.refl _ | assumption | refine Und.under ?_ _ | refine Und.alloc ?_ _ | refine Und.drew ?_ | refine Und.drewN ?_ _))⟩
    · have z5 : (k == 5) = false := by simpa using k5
      by_cases k24 : k = 2 ∨ k = 4
      · have hr := hid (show wfL (f.take j) (k, t, i) = (St.isContentL t && decide (1 ≤ i ∧ i ≤ 999)) by unfold wfL; rw [if_neg k1, if_neg k5, if_pos k24])
        have hnm := hcnt.out
        simp only at hnm
        generalize St.isContentL t = nb at hnm hr
        have HNM := hid hnm
        clear hnm hcnt hnml
        by_cases i1 : i < 1
        · have hr2 := hid (show wfL (f.take j) (k, t, i) = false by rw [hr.out, decide_eq_false (by omega)]; simp)
          have y1 : ¬ (1 : Int) ≤ i := by omega
          cases nb
          · rcases k24 with rfl | rfl
            all_goals
              go_enter Tryz.func50, Tryz.ntmps50
              go_wp2_with fail
              refine (HNM.out _).mono ?_
              rintro e w' ⟨rfl, hu⟩
              have HU := hid (Und.trans ((by repeat (first | exact Und.refl _ | assumption | refine Und.under ?_ _ | refine Und.alloc ?_ _ | refine Und.drew ?_ | refine Und.drewN ?_ _))) hu : Und w w')
              clear hu
              go_wp2
              go_ret
              exact ⟨ret_bool hr2.out.symm, HU.out⟩
          · rcases k24 with rfl | rfl
            all_goals
              go_enter Tryz.func50, Tryz.ntmps50
              go_wp2_with fail
              refine (HNM.out _).mono ?_
              rintro e w' ⟨rfl, hu⟩
              have hu0 : Und w w' := Und.trans ((by repeat (first | exact Und.refl _ | assumption | refine Und.under ?_ _ | refine Und.alloc ?_ _ | refine Und.drew ?_ | refine Und.drewN ?_ _))) hu
              have d2 : w'.cell? ⟨w.heap.size, 2, none⟩ = some (.int .i64 i) := (hu.cell (p := ⟨w.heap.size, 2, none⟩) (by simp)).trans (by simp)
              haveI : LtW w.heap.size w' := LtW.of (World.block_lt_of_cell? _ _ d2)
              have HU := hid hu0
              clear hu hu0
              go_wp2
              go_ret
              exact ⟨ret_bool hr2.out.symm, HU.out⟩
        · have y1 : (1 : Int) ≤ i := by omega
          cases nb
          · have hr2 := hid (show wfL (f.take j) (k, t, i) = false by rw [hr.out]; rfl)
            rcases k24 with rfl | rfl
            all_goals
              go_enter Tryz.func50, Tryz.ntmps50
              go_wp2_with fail
              refine (HNM.out _).mono ?_
              rintro e w' ⟨rfl, hu⟩
              have HU := hid (Und.trans ((by repeat (first | exact Und.refl _ | assumption | refine Und.under ?_ _ | refine Und.alloc ?_ _ | refine Und.drew ?_ | refine Und.drewN ?_ _))) hu : Und w w')
              clear hu
              go_wp2
              go_ret
              exact ⟨ret_bool hr2.out.symm, HU.out⟩
          · by_cases i9 : i ≤ 999
            · have hr2 := hid (show wfL (f.take j) (k, t, i) = true by rw [hr.out, decide_eq_true ⟨y1, i9⟩]; rfl)
              rcases k24 with rfl | rfl
              all_goals
                go_enter Tryz.func50, Tryz.ntmps50
                go_wp2_with fail
                refine (HNM.out _).mono ?_
                rintro e w' ⟨rfl, hu⟩
                have hu0 : Und w w' := Und.trans ((by repeat (first | exact Und.refl _ | assumption | refine Und.under ?_ _ | refine Und.alloc ?_ _ | refine Und.drew ?_ | refine Und.drewN ?_ _))) hu
                have d2 : w'.cell? ⟨w.heap.size, 2, none⟩ = some (.int .i64 i) := (hu.cell (p := ⟨w.heap.size, 2, none⟩) (by simp)).trans (by simp)
                haveI : LtW w.heap.size w' := LtW.of (World.block_lt_of_cell? _ _ d2)
                have HU := hid hu0
                clear hu hu0
                go_wp2
                go_ret
                exact ⟨ret_bool hr2.out.symm, HU.out⟩
            · have hr2 := hid (show wfL (f.take j) (k, t, i) = false by rw [hr.out, decide_eq_false (by omega)]; rfl)
              rcases k24 with rfl | rfl
              all_goals
                go_enter Tryz.func50, Tryz.ntmps50
                go_wp2_with fail
                refine (HNM.out _).mono ?_
                rintro e w' ⟨rfl, hu⟩
                have hu0 : Und w w' := Und.trans ((by repeat (first | exact Und.refl _ | assumption | refine Und.under ?_ _ | refine Und.alloc ?_ _ | refine Und.drew ?_ | refine Und.drewN ?_ _))) hu
                have d2 : w'.cell? ⟨w.heap.size, 2, none⟩ = some (.int .i64 i) := (hu.cell (p := ⟨w.heap.size, 2, none⟩) (by simp)).trans (by simp)
                haveI : LtW w.heap.size w' := LtW.of (World.block_lt_of_cell? _ _ d2)
                have HU := hid hu0
                clear hu hu0
                go_wp2
                go_ret
                exact ⟨ret_bool (by rw [hr2.out]; exact decide_eq_false (by omega)), HU.out⟩
      · have z2 : (k == 2) = false := by simpa using fun e => k24 (.inl e)
        have z4 : (k == 4) = false := by simpa using fun e => k24 (.inr e)
        by_cases k3 : k = 3
        · subst k3
          have hr := hid (show wfL (f.take j) (3, t, i) = (St.isNameL t && decide (1 ≤ i ∧ i ≤ 999)) by unfold wfL; simp)
          have hnm := hnml.out
          simp only at hnm
          generalize St.isNameL t = nb at hnm hr
          have HNM := hid hnm
          clear hnm hnml hcnt k24 k1 k5
          cases nb
          · have hr2 := hid (show wfL (f.take j) (3, t, i) = false by rw [hr.out]; rfl)
            go_enter Tryz.func50, Tryz.ntmps50
            go_wp2_with (go_at_call 63; refine (HNM.out _).mono ?_; rintro e w' ⟨rfl, rfl⟩)
            go_ret
            exact ⟨ret_bool hr2.out.symm, (by repeat (first | exact Und.refl _ | assumption | refine Und.under ?_ _ | refine Und.alloc ?_ _ | refine Und.drew ?_ | refine Und.drewN ?_ _))⟩
          · by_cases i1 : i < 1
            · have hr2 := hid (show wfL (f.take j) (3, t, i) = false by rw [hr.out, decide_eq_false (by omega)]; rfl)
              have y1 : ¬ (1 : Int) ≤ i := by omega
              go_enter Tryz.func50, Tryz.ntmps50
              go_wp2_with (go_at_call 63; refine (HNM.out _).mono ?_; rintro e w' ⟨rfl, rfl⟩)
              go_ret
              exact ⟨ret_bool hr2.out.symm, (by repeat (first | exact Und.refl _ | assumption | refine Und.under ?_ _ | refine Und.alloc ?_ _ | refine Und.drew ?_ | refine Und.drewN ?_ _))⟩
            · have y1 : (1 : Int) ≤ i := by omega
              by_cases i9 : i ≤ 999
              · have hr2 := hid (show wfL (f.take j) (3, t, i) = true by rw [hr.out, decide_eq_true ⟨y1, i9⟩]; rfl)
                go_enter Tryz.func50, Tryz.ntmps50
                go_wp2_with (go_at_call 63; refine (HNM.out _).mono ?_; rintro e w' ⟨rfl, rfl⟩)
                go_ret
                exact ⟨ret_bool hr2.out.symm, (by repeat (first | exact Und.refl _ | assumption | refine Und.under ?_ _ | refine Und.alloc ?_ _ | refine Und.drew ?_ | refine Und.drewN ?_ _))⟩
              · have hr2 := hid (show wfL (f.take j) (3, t, i) = false by rw [hr.out, decide_eq_false (by omega)]; rfl)
                go_enter Tryz.func50, Tryz.ntmps50
                go_wp2_with (go_at_call 63; refine (HNM.out _).mono ?_; rintro e w' ⟨rfl, rfl⟩)
                go_ret
                exact ⟨ret_bool (by rw [hr2.out]; exact decide_eq_false (by omega)), (by repeat (first | exact Und.refl _ | assumption | refine Und.under ?_ _ | refine Und.alloc ?_ _ | refine Und.drew ?_ | refine Und.drewN ?_ _))⟩
        · have z3 : (k == 3) = false := by simpa using k3
          have hr := hid (show wfL (f.take j) (k, t, i) = false by unfold wfL; rw [if_neg k1, if_neg k5, if_neg k24, if_neg k3])
          clear k1 k5 k24 k3
          go_enter Tryz.func50, Tryz.ntmps50
          go_wp2
          go_ret
          exact ⟨ret_bool hr.out.symm, (by repeat (first | exact Und.refl _ | assumption | refine Und.under ?_ _ | refine Und.alloc ?_ _ | refine Und.drew ?_ | refine Und.drewN ?_ _))⟩
set_option maxRecDepth 20000 in
set_option maxHeartbeats 12800000 in
theorem ivalid_any (A : Option Addr) (n c : Nat) (f : List St.It) (w : World) (hn : f.length = n) (hnc : n ≤ c) (hc63 : c ≤ 9223372036854775807) (h : ItemsAt w A f) (hl : n ≤ 1000000000000) (ht : tot f ≤ 4611686018427387904) :
    Calls Tryz.prog 27 #[.slice A n c] w fun e w' => e = .returned (.int .i64 (St.validL f)) ∧ Und w w' := by
  have H := hid h
  have HN := hid hn
  have HT := hid ht
  have hle := hid (ilength_any A n c f w hn h hl ht)
  have hll := lenL_tot f
  clear h hn
  by_cases q1 : 512 < n
  · have z : (512 : Int) < (n : Int) := by omega
    have hr := hid (show St.validL f = 3 by unfold St.validL; rw [if_pos (.inl (by rw [HN.out]; exact q1))])
    clear ht
    go_enter Tryz.func27, Tryz.ntmps27
    go_wp2
    go_ret
    exact ⟨ret_int hr.out.symm, (by repeat (first | exact Und.refl _ | assumption | refine Und.under ?_ _ | refine Und.alloc ?_ _ | refine Und.drew ?_ | refine Und.drewN ?_ _))⟩
  · have z : ¬ (512 : Int) < (n : Int) := by omega
    by_cases q2 : 1024 < St.lenL f
    · have z2 : (1024 : Int) < (St.lenL f : Nat) := by omega
      have hr := hid (show St.validL f = 3 by unfold St.validL; rw [if_pos (.inr q2)])
      clear ht
      go_enter Tryz.func27, Tryz.ntmps27
      go_wp2_with fail
      refine hle.out.mono ?_
      rintro e w' ⟨rfl, hu⟩
      have HU := hid hu
      clear hu
      go_wp2
      go_ret
      exact ⟨ret_int hr.out.symm, HU.out⟩
    · have z2 : ¬ (1024 : Int) < (St.lenL f : Nat) := by omega
      have hr := hid (show St.validL f = St.validFrom [] f by unfold St.validL; rw [if_neg (by rw [HN.out]; omega)])
      clear ht hll
      go_enter Tryz.func27, Tryz.ntmps27
      go_wp2_with fail
      refine hle.out.mono ?_
      rintro e w' ⟨rfl, hu⟩
      have HU0 := hid hu
      clear hu
      go_wp2_with fail
      go_loopw [15] (fun s15 wr => VaRel w f n s15 wr) (fun s15 _ => n + 1 - (intOf s15).toNat)
      case atStart => exact ⟨0, by omega, rfl, by simp, HU0.out⟩
      case round =>
        obtain ⟨j, hj, rfl, hv, hu⟩ := hrel
        have HV := hid hv
        have HU := hid hu
        clear hv hu
        by_cases hlt : j < n
        · have hlt2 : j < f.length := by rw [HN.out]; exact hlt
          obtain ⟨b, off, rfl, hb, hc⟩ := (H.out.und HU.out) (by omega)
          obtain ⟨c0, c1, c2⟩ := hc j hlt2
          have hdr : f.drop j = f[j] :: f.drop (j + 1) := List.drop_eq_getElem_cons hlt2
          have htk : f.take j ++ [f[j]] = f.take (j + 1) := by rw [List.take_add_one, List.getElem?_eq_getElem hlt2]; rfl
          have hv1 := fun hc => (HV.out.trans (by rw [hdr])).trans (valid_stop (f.take j) (f.drop (j + 1)) f[j] hc)
          have hv2 := fun hc => ((HV.out.trans (by rw [hdr])).trans (valid_from (f.take j) (f.drop (j + 1)) f[j] hc)).trans (by rw [htk])
          have hyl := tot_at f j hlt2
          have hT := HT.out
          have hwf := fun (W : World) (hW : Und wr W) => iwf_any b off n c j f f[j].1 f[j].2.1 f[j].2.2 W HN.out hlt (List.getElem?_eq_getElem hlt2) ((H.out.und HU.out).und hW) (by omega) (by omega)
          have hft := fun (W : World) (hW : Und wr W) => ifits_any (some ⟨b, off, none⟩) j c (f.take j) f[j].1 f[j].2.1 f[j].2.2 W (by simp; omega) (items_take ((H.out.und HU.out).und hW) j) (by omega) (Nat.le_trans (tot_le f j) HT.out)
          have hck := check_wf (f.take j) f[j]
          generalize f[j] = y at c0 c1 c2 hv1 hv2 hyl hwf hft hck
          obtain ⟨yk, yt, yi⟩ := y
          simp only at c0 c1 c2 hwf hft hck
          have hit := fun (W : World) => itag_any yk ⟨yt.toArray⟩ yi W
          generalize (f.take j).any (St.clash (yk, yt, yi)) = cb at hft hck
          generalize St.isTagK yk = tb at hit hck
          generalize wfL (f.take j) (yk, yt, yi) = wb at hwf hck
          generalize St.checkL (f.take j) (yk, yt, yi) = ec at hv1 hv2 hck
          have HV1 := hid hv1
          have HV2 := hid hv2
          have HWF := hid hwf
          have HFT := hid hft
          have HIT := hid hit
          haveI : LtW b wr := LtW.of hb
          have hjn : ¬ (j = n) := by omega
          have hjc : j ≤ c := by omega
          clear hc hdr htk hv1 hv2 hwf hft hit hlt2 hyl HV hT
          go_wp2_with fail
          refine (HWF.out _ ((by repeat (first | exact Und.refl _ | assumption | refine Und.under ?_ _ | refine Und.alloc ?_ _ | refine Und.drew ?_ | refine Und.drewN ?_ _)))).mono ?_
          rintro e w3 ⟨rfl, hu3⟩
          have hu3' : Und wr w3 := Und.trans ((by repeat (first | exact Und.refl _ | assumption | refine Und.under ?_ _ | refine Und.alloc ?_ _ | refine Und.drew ?_ | refine Und.drewN ?_ _))) hu3
          have d0 : w3.cell? ⟨wr.heap.size, 0, none⟩ = some (.int .i64 yk) := (hu3.cell (p := ⟨wr.heap.size, 0, none⟩) (by simp)).trans (by simp)
          have d1 : w3.cell? ⟨wr.heap.size, 1, none⟩ = some (.string ⟨yt.toArray⟩) := (hu3.cell (p := ⟨wr.heap.size, 1, none⟩) (by simp)).trans (by simp)
          have d2 : w3.cell? ⟨wr.heap.size, 2, none⟩ = some (.int .i64 yi) := (hu3.cell (p := ⟨wr.heap.size, 2, none⟩) (by simp)).trans (by simp)
          haveI : LtW wr.heap.size w3 := LtW.of (World.block_lt_of_cell? _ _ d0)
          haveI : LtW b w3 := LtW.of (Nat.lt_of_lt_of_le hb hu3'.size)
          have HU3 := hid hu3'
          clear hu3 hu3' c0 c1 c2
          cases wb
          · have hec : ec = 1 := by rw [hck]; rfl
            subst hec
            have hf := hid (HV1.out (by decide))
            clear hck
            go_wp2
            go_ret
            refine ⟨ret_int ?_, HU.out.trans HU3.out⟩
            rw [hr.out, hf.out]
          · cases tb
            · have hec : ec = 0 := by rw [hck]; rfl
              subst hec
              clear hck
              go_wp2_with fail
              first | refine wp_region_under2 (by kernel_rfl) (by kernel_rfl) ?_ | refine wp_region_under (by kernel_rfl) (by kernel_rfl) ?_
              repeat (go_big_quiet_step (first | ((go_at_call 51; exact Calls.under_of (HIT.out _)))))
              refine wpQuiet_nil ?_
              rintro _ ⟨X, rfl⟩
              go_wp2
              exact ⟨⟨j + 1, by omega, congrArg (Value.int .i64) (by omega), HV2.out (by trivial), HU.out.trans (HU3.out.trans (by repeat (first | exact Und.refl _ | assumption | refine Und.under ?_ _ | refine Und.alloc ?_ _ | refine Und.drew ?_ | refine Und.drewN ?_ _)))⟩, by simp [intOf]; omega⟩
            · cases cb
              · have hec : ec = 0 := by rw [hck]; rfl
                subst hec
                clear hck
                go_wp2_with fail
                first | refine wp_region_under2 (by kernel_rfl) (by kernel_rfl) ?_ | refine wp_region_under (by kernel_rfl) (by kernel_rfl) ?_
                repeat (go_big_quiet_step (first | ((go_at_call 51; exact Calls.under_of (HIT.out _))) | ((go_at_call 52; exact Calls.under_of (HFT.out _ (HU3.out.trans (by repeat (first | exact Und.refl _ | assumption | refine Und.under ?_ _ | refine Und.alloc ?_ _ | refine Und.drew ?_ | refine Und.drewN ?_ _))))))))
                refine wpQuiet_nil ?_
                rintro _ ⟨X, rfl⟩
                go_wp2
                exact ⟨⟨j + 1, by omega, congrArg (Value.int .i64) (by omega), HV2.out (by trivial), HU.out.trans (HU3.out.trans (by repeat (first | exact Und.refl _ | assumption | refine Und.under ?_ _ | refine Und.alloc ?_ _ | refine Und.drew ?_ | refine Und.drewN ?_ _)))⟩, by simp [intOf]; omega⟩
              · have hec : ec = 7 := by rw [hck]; rfl
                subst hec
                have hf := hid (HV1.out (by decide))
                clear hck
                go_wp2_with fail
                first | refine wp_region_under2 (by kernel_rfl) (by kernel_rfl) ?_ | refine wp_region_under (by kernel_rfl) (by kernel_rfl) ?_
                repeat (go_big_quiet_step (first | ((go_at_call 51; exact Calls.under_of (HIT.out _))) | ((go_at_call 52; exact Calls.under_of (HFT.out _ (HU3.out.trans (by repeat (first | exact Und.refl _ | assumption | refine Und.under ?_ _ | refine Und.alloc ?_ _ | refine Und.drew ?_ | refine Und.drewN ?_ _))))))))
                refine wpQuiet_nil ?_
                rintro _ ⟨X, rfl⟩
                go_wp2
                go_ret
                refine ⟨ret_int ?_, HU.out.trans (HU3.out.trans (by repeat (first | exact Und.refl _ | assumption | refine Und.under ?_ _ | refine Und.alloc ?_ _ | refine Und.drew ?_ | refine Und.drewN ?_ _)))⟩
                rw [hr.out, hf.out]
        · have hjn : j = n := by omega
          subst hjn
          have hf := hid (show St.validFrom [] f = 0 by rw [HV.out, List.drop_of_length_le (by rw [HN.out]; omega)]; rfl)
          clear hlt
          go_wp2
          go_ret
          exact ⟨ret_int (by rw [hr.out, hf.out]), HU.out⟩
end Go.Proofs.YtpahkhmheikebaaGreatDoor

namespace Go.Proofs.YtpahkhmheikebaaGreatDoor
open Go.RowKit

def tbR : List (UInt8 × ByteArray) := [(10, ⟨#[92, 110]⟩), (9, ⟨#[92, 116]⟩), (13, ⟨#[92, 114]⟩), (92, ⟨#[92, 92]⟩), (123, ⟨#[92, 123]⟩)]
theorem tbR_ok : TbOk tbR := ⟨by decide, by decide, by intro p hp; simp [tbR] at hp; rcases hp with rfl | rfl | rfl | rfl | rfl <;> decide, by decide⟩
theorem rpB_res (c : UInt8) : rpB tbR.reverse c = St.encB 2 c := by
  by_cases h0 : c = 10
  · subst h0; rfl
  by_cases h1 : c = 9
  · subst h1; rfl
  by_cases h2 : c = 13
  · subst h2; rfl
  by_cases h3 : c = 92
  · subst h3; rfl
  by_cases h4 : c = 123
  · subst h4; rfl
  have e0 : c.toNat ≠ 10 := fun e => h0 (UInt8.toNat_inj.1 e)
  have e1 : c.toNat ≠ 9 := fun e => h1 (UInt8.toNat_inj.1 e)
  have e2 : c.toNat ≠ 13 := fun e => h2 (UInt8.toNat_inj.1 e)
  have e3 : c.toNat ≠ 92 := fun e => h3 (UInt8.toNat_inj.1 e)
  have e4 : c.toNat ≠ 123 := fun e => h4 (UInt8.toNat_inj.1 e)
  have : lookB tbR.reverse c = none := by
    show lookB [(123, ⟨#[92, 123]⟩), (92, ⟨#[92, 92]⟩), (13, ⟨#[92, 114]⟩), (9, ⟨#[92, 116]⟩), (10, ⟨#[92, 110]⟩)] c = none
    simp [lookB, Ne.symm h0, Ne.symm h1, Ne.symm h2, Ne.symm h3, Ne.symm h4]
  rw [rp_none this]
  simp [St.encB, e0, e1, e2, e3, e4]
theorem flat_res (t : List UInt8) : t.flatMap (rpB tbR.reverse) = t.flatMap (St.encB 2) := by
  congr 1; funext c; exact rpB_res c
theorem check_kind {b : List St.It} {x : St.It} (h : St.checkL b x = 0) : x.1 = 1 ∨ x.1 = 5 ∨ St.isTagK x.1 = true := by
  by_cases k1 : x.1 = 1
  · exact .inl k1
  · by_cases k5 : x.1 = 5
    · exact .inr (.inl k5)
    · refine .inr (.inr ?_)
      unfold St.isTagK
      refine decide_eq_true ?_
      unfold St.checkL at h
      rw [if_neg k1, if_neg k5] at h
      by_cases k2 : x.1 = 2 ∨ x.1 = 4
      · omega
      · rw [if_neg k2] at h
        by_cases k3 : x.1 = 3
        · omega
        · rw [if_neg k3] at h; cases h
theorem from_kind : ∀ (f b : List St.It), St.validFrom b f = 0 → ∀ x ∈ f, x.1 = 1 ∨ x.1 = 5 ∨ St.isTagK x.1 = true
  | [], _, _ => fun x hx => by cases hx
  | y :: f, b, h => by
    intro x hx
    by_cases hc : St.checkL b y = 0
    · rw [valid_from b f y hc] at h
      rcases List.mem_cons.1 hx with rfl | hx
      · exact check_kind hc
      · exact from_kind f _ h x hx
    · rw [valid_stop b f y hc] at h
      exact absurd h hc
theorem valid_kind {f : List St.It} (h : St.validL f = 0) : ∀ x ∈ f, x.1 = 1 ∨ x.1 = 5 ∨ St.isTagK x.1 = true := by
  unfold St.validL at h
  split at h
  · cases h
  · exact from_kind f [] h
def EsRel (w0 : World) (B rb : Nat) (f : List St.It) (n : Nat) (s6 s18 : Value) (wr : World) : Prop :=
  ∃ (k : Nat) (u : ByteArray), k ≤ n ∧ s18 = .int .i64 k ∧ s6 = .string u ∧ u.data.toList = (f.take k).flatMap (St.encI 2) ∧ u.size ≤ 5 * tot (f.take k) + 5 * k ∧ (f.take k).any (St.badTag 2) = false ∧ RepAt wr B rb tbR ∧ Below B w0 wr
theorem lenL_at (f : List St.It) (j : Nat) (h : j < f.length) : f[j].1 = 1 → f[j].2.1.length ≤ St.lenL f := by
  intro h1
  have := lenL_take f j h
  have h2 := lenL_le f (j + 1)
  have h3 : St.widthI f[j] = f[j].2.1.length := by unfold St.widthI; rw [if_pos h1]
  omega
theorem Below.und {B : Nat} {a b c : World} (h : Below B a b) (hB : B ≤ b.heap.size) (u : Und b c) : Below B a c := h.trans (u.below.mono hB)
set_option maxRecDepth 20000 in
set_option maxHeartbeats 12800000 in
theorem xencode_any (A : Option Addr) (n c : Nat) (f : List St.It) (w : World) (hn : f.length = n) (hnc : n ≤ c) (hc63 : c ≤ 9223372036854775807) (h : ItemsAt w A f) (hl : n ≤ 1000000000) (ht : tot f ≤ 1000000000000) :
    Calls Tryz.prog 10 #[.slice A n c] w fun e w' => e = .returned (.tuple #[.string ⟨(St.encS 2 f).1.toArray⟩, .int .i64 (St.encS 2 f).2]) ∧ Und w w' := by
  have H := hid h
  have HN := hid hn
  have HT := hid ht
  have hv := hid (ivalid_any A n c f w hn hnc hc63 h (by omega) (by omega))
  clear h hn
  by_cases hvz : St.validL f = 0
  rotate_left 1
  · have hr := hid (show St.encS 2 f = ([], St.validL f) by unfold St.encS; rw [if_pos hvz])
    have z : (St.validL f == 0) = false := by simpa using hvz
    have z2 : (St.validL f != 0) = true := by simpa using hvz
    generalize St.validL f = ev at *
    clear hvz
    go_enter Tryz.func10, Tryz.ntmps10
    go_wp2_with fail
    refine hv.out.mono ?_
    rintro e w' ⟨rfl, hu⟩
    have HU := hid hu
    clear hu
    go_wp2
    go_ret2
    exact ⟨by rw [hr.out]; rfl, HU.out⟩
  · have hok := fun (h : f.any (St.badTag 2) = false) => show St.encS 2 f = (f.flatMap (St.encI 2), 0) by unfold St.encS; rw [if_neg (by simp [hvz]), h]; rfl
    have hbad := fun (h : f.any (St.badTag 2) = true) => show St.encS 2 f = ([], 7) by unfold St.encS; rw [if_neg (by simp [hvz]), h]; rfl
    have hlen : St.lenL f ≤ 1024 := by
      refine Nat.not_lt.1 fun e => ?_
      unfold St.validL at hvz
      rw [if_pos (.inr e)] at hvz
      cases hvz
    have hkd := valid_kind hvz
    have HKD := hid hkd
    clear hkd
    rw [hvz] at hv
    have HOK := hid hok
    have HBAD := hid hbad
    have HLEN := hid hlen
    clear hok hbad hvz ht hlen
    go_enter Tryz.func10, Tryz.ntmps10
    go_wp2_with fail
    refine hv.out.mono ?_
    rintro e w1 ⟨rfl, hu⟩
    have HU0 := hid hu
    have hsz0 := hu.size
    clear hu hv
    have hnr := fun (W : World) (ab : Nat) (hc : ∀ j u, ((osOf tbR).map Value.string)[j]? = some u → W.cell? ⟨ab, j, none⟩ = some u) => newrep_any ab 10 (osOf tbR) W rfl (by decide) (by omega) hc
    have HNR := hid hnr
    clear hnr
    go_wp2_with fail
    refine (HNR.out _ w1.heap.size ?_).mono ?_
    · intro j u hj
      match j, hj with
      | 0, hj => simp [osOf, tbR] at hj; subst hj; simp
      | 1, hj => simp [osOf, tbR] at hj; subst hj; simp
      | 2, hj => simp [osOf, tbR] at hj; subst hj; simp
      | 3, hj => simp [osOf, tbR] at hj; subst hj; simp
      | 4, hj => simp [osOf, tbR] at hj; subst hj; simp
      | 5, hj => simp [osOf, tbR] at hj; subst hj; simp
      | 6, hj => simp [osOf, tbR] at hj; subst hj; simp
      | 7, hj => simp [osOf, tbR] at hj; subst hj; simp
      | 8, hj => simp [osOf, tbR] at hj; subst hj; simp
      | 9, hj => simp [osOf, tbR] at hj; subst hj; simp
      | j + 10, hj => simp [osOf, tbR] at hj
    rintro e w2 ⟨rb, rfl, hrep, hu2⟩
    have hbel0 : Below (w1.alloc (.cells #[.string ⟨#[10]⟩, .string ⟨#[92, 110]⟩, .string ⟨#[9]⟩, .string ⟨#[92, 116]⟩, .string ⟨#[13]⟩, .string ⟨#[92, 114]⟩, .string ⟨#[92]⟩, .string ⟨#[92, 92]⟩, .string ⟨#[123]⟩, .string ⟨#[92, 123]⟩] 9)).heap.size (w1.alloc (.cells #[.string ⟨#[10]⟩, .string ⟨#[92, 110]⟩, .string ⟨#[9]⟩, .string ⟨#[92, 116]⟩, .string ⟨#[13]⟩, .string ⟨#[92, 114]⟩, .string ⟨#[92]⟩, .string ⟨#[92, 92]⟩, .string ⟨#[123]⟩, .string ⟨#[92, 123]⟩] 9)) w2 := hu2.below
    have hu01 : Und w (w1.alloc (.cells #[.string ⟨#[10]⟩, .string ⟨#[92, 110]⟩, .string ⟨#[9]⟩, .string ⟨#[92, 116]⟩, .string ⟨#[13]⟩, .string ⟨#[92, 114]⟩, .string ⟨#[92]⟩, .string ⟨#[92, 92]⟩, .string ⟨#[123]⟩, .string ⟨#[92, 123]⟩] 9)) := HU0.out.alloc _
    generalize (w1.alloc (.cells #[.string ⟨#[10]⟩, .string ⟨#[92, 110]⟩, .string ⟨#[9]⟩, .string ⟨#[92, 116]⟩, .string ⟨#[13]⟩, .string ⟨#[92, 114]⟩, .string ⟨#[92]⟩, .string ⟨#[92, 92]⟩, .string ⟨#[123]⟩, .string ⟨#[92, 123]⟩] 9)) = w1' at hrep hu2 hbel0 hu01
    have hB2 : w1'.heap.size ≤ w2.heap.size := hu2.size
    have HU01 := hid hu01
    have hrepA : RepAt w2 w1'.heap.size rb tbR := .inl hrep
    have HREP := hid hrepA
    have HBEL := hid hbel0
    clear hrep hu2 hbel0 hu01 hrepA HU0 hsz0 HNR
    generalize hB : w1'.heap.size = B at HREP HBEL hB2
    go_wp2_with fail
    go_loopw [6, 18] (fun s6 s18 wr => EsRel w1' B rb f n s6 s18 wr ∧ B ≤ wr.heap.size) (fun _ s18 _ => n + 1 - (intOf s18).toNat)
    case atStart => exact ⟨⟨0, ⟨#[]⟩, by omega, rfl, rfl, rfl, by show 0 ≤ _; omega, rfl, HREP.out, HBEL.out⟩, hB2⟩
    case round =>
      obtain ⟨⟨k, u, hk, rfl, rfl, hul, hus, hany, hrp, hbl⟩, hBr⟩ := hrel
      have HRP := hid hrp
      have HBL := hid hbl
      have hub : Und w1' wr := Und.of_below (by rw [hB]; exact hbl)
      have HU := hid (HU01.out.trans hub)
      have HUL := hid hul
      have HAN := hid hany
      clear hul hany hrp hbl hub HREP HBEL
      have hN := HN.out
      have hT := HT.out
      have hb2 := tot_le f k
      by_cases hlt : k < n
      · have hlt2 : k < f.length := by omega
        obtain ⟨b, off, rfl, hb, hc⟩ := (H.out.und HU.out) (by omega)
        obtain ⟨c0, c1, c2⟩ := hc k hlt2
        have hfl := fl_snoc 2 f k hlt2
        have hb3 := tot_le f (k + 1)
        have htk := tot_take f k hlt2
        have hwd := lenL_at f k hlt2
        have hL := HLEN.out
        have hkd := HKD.out f[k] (List.getElem_mem hlt2)
        have han2 := any_snoc (St.badTag 2) f k hlt2 HAN.out
        have hfd := any_found (St.badTag 2) f k hlt2
        generalize f[k] = x at c0 c1 c2 hfl htk han2 hfd hwd hkd
        obtain ⟨kd, tx, id⟩ := x
        simp only at c0 c1 c2 htk hwd hkd
        haveI : LtW b wr := LtW.of hb
        have hxz : (⟨tx.toArray⟩ : ByteArray).size = tx.length := by show tx.toArray.size = _; simp
        have step : ∀ (v : ByteArray) (W : World), v.data.toList = u.data.toList ++ St.encI 2 (kd, tx, id) → v.size ≤ u.size + 5 * tx.length + 5 → St.badTag 2 (kd, tx, id) = false → RepAt W B rb tbR → Below B wr W → EsRel w1' B rb f n (.string v) (.int .i64 ((k : Int) + 1)) W := fun v W h1 h2 h3 h4 h5 =>
          ⟨k + 1, v, by omega, congrArg (Value.int .i64) (by omega), rfl, by rw [h1, HUL.out, hfl], by rw [htk]; omega, han2 h3, h4, HBL.out.trans h5⟩
        have STEP := hid step
        have HFD := hid hfd
        have HTK := hid htk
        have hus2 : u.size ≤ 6000000000000 := by omega
        have htx2 : tx.length ≤ 1000000000000 := by omega
        clear step hfd hfl han2 hc hlt2
        by_cases k1 : kd = 1
        · subst k1
          have htl : tx.length ≤ 1024 := by have := hwd rfl; omega
          have hre := fun (W : World) (hR : RepAt W B rb tbR) (hB : B ≤ W.heap.size) => replace_any B rb tbR ⟨tx.toArray⟩ W hR tbR_ok hB (by omega)
          have hf2 : (⟨tx.toArray⟩ : ByteArray).data.toList.flatMap (rpB tbR.reverse) = tx.flatMap (St.encB 2) := flat_res tx
          rw [hf2] at hre
          have hesz := enc_sz 2 tx
          have hnb := hid (show St.badTag 2 (1, tx, id) = false by unfold St.badTag; rfl)
          have hei : St.encI 2 (1, tx, id) = tx.flatMap (St.encB 2) := by unfold St.encI; rfl
          have HEI := hid hei
          generalize tx.flatMap (St.encB 2) = et at hre hesz HEI
          have hez : (⟨et.toArray⟩ : ByteArray).size = et.length := by show et.toArray.size = _; simp
          have y1 : ¬ 9223372036854775807 < u.size + (⟨et.toArray⟩ : ByteArray).size := by rw [hez]; omega
          have y2 : ¬ 9223372036854775807 < u.size + et.length := by omega
          have HRE := hid hre
          have hbx : (wr.alloc (.cells #[.int .i64 1, .string ⟨tx.toArray⟩, .int .i64 id] 38)).heap.size = wr.heap.size + 1 := by simp
          clear hre hf2 hei hwd
          go_wp2_with fail
          refine (HRE.out _ (HRP.out.und ((Und.refl _).alloc _)) (by rw [hbx]; omega)).mono ?_
          rintro e w3 ⟨rfl, hr3, hb3'⟩
          have hbl3 : Below B wr w3 := (Below.und (Below.refl _ _) hBr ((Und.refl wr).alloc _)).trans hb3'
          have hfin := hid (STEP.out (u ++ (⟨et.toArray⟩ : ByteArray)) w3 (by rw [HEI.out]; simp) (by rw [ByteArray.size_append, hez]; omega) hnb.out (.inr hr3) hbl3)
          have hB3 := hbl3.size
          clear hr3 hb3' hbl3 c0 c1 c2
          go_wp2
          exact ⟨⟨hfin.out, by omega⟩, by simp [intOf]; omega⟩
        · have q1 : (kd == 1) = false := by simpa using k1
          by_cases k5 : kd = 5
          · subst k5
            have hnb := hid (show St.badTag 2 (5, tx, id) = false by unfold St.badTag St.isTagK; rfl)
            have y1 : ¬ 9223372036854775807 < 1 + tx.length := by omega
            have y2 : ¬ 9223372036854775807 < 1 + tx.length + 1 := by omega
            have y3 : ¬ 9223372036854775807 < u.size + (1 + tx.length + 1) := by omega
            have hfin := fun W (hW : Und wr W) => STEP.out (u ++ ((⟨#[123]⟩ : ByteArray) ++ (⟨tx.toArray⟩ : ByteArray) ++ (⟨#[125]⟩ : ByteArray))) W (by unfold St.encI; simp) (by simp only [ByteArray.size_append, hxz]; show _ + (1 + _ + 1) ≤ _; omega) hnb.out (HRP.out.und hW) (Below.und (Below.refl _ _) hBr hW)
            have hsz := fun W (hW : Und wr W) => Nat.le_trans hBr hW.size
            have HFIN := hid (fun W hW => And.intro (hfin W hW) (hsz W hW))
            clear hfin hwd k1 hsz
            go_wp2
            exact ⟨HFIN.out _ (by repeat (first | exact Und.refl _ | assumption | refine Und.under ?_ _ | refine Und.alloc ?_ _ | refine Und.drew ?_ | refine Und.drewN ?_ _)), by simp [intOf]; omega⟩
          · have q5 : (kd == 5) = false := by simpa using k5
            have htg : St.isTagK kd = true := by
              rcases hkd with h | h | h
              · exact absurd h k1
              · exact absurd h k5
              · exact h
            have hbt := HFD.out (show St.badTag 2 (kd, tx, id) = true by unfold St.badTag; simp [htg])
            have hr := hid (HBAD.out hbt)
            clear hbt htg hkd k1 k5 hwd
            go_wp2
            go_ret2
            exact ⟨by rw [hr.out]; rfl, HU.out.trans (by repeat (first | exact Und.refl _ | assumption | refine Und.under ?_ _ | refine Und.alloc ?_ _ | refine Und.drew ?_ | refine Und.drewN ?_ _))⟩
      · have hkn : k = n := by omega
        subst hkn
        have hft : f.take k = f := List.take_of_length_le (by omega)
        rw [hft] at HUL HAN
        have hr := hid (HOK.out HAN.out)
        have hu2 : u = ⟨(f.flatMap (St.encI 2)).toArray⟩ := by rw [← HUL.out, ba_eta]
        have HU2 := hid hu2
        clear hlt hft hu2 HAN
        go_wp2
        go_ret2
        exact ⟨by rw [hr.out, HU2.out]; rfl, HU.out⟩
end Go.Proofs.YtpahkhmheikebaaGreatDoor

namespace Go.Proofs.YtpahkhmheikebaaGreatDoor.St

def tg4 : List (List UInt8) := [[98, 114], [105, 109, 103, 32, 97]]
def tg2 : List (List UInt8) := [[98], [105], [97, 32, 104, 61, 49]]
/-- A fragment, the open tags in it, and the greatest number. ns: nested. -/
inductive GenT (ns : Bool) : List It → List It → Nat → Prop
  | nil : GenT ns [] [] 0
  | text {f op : List It} {c : Nat} (t : List UInt8) (h : GenT ns f op c) : GenT ns (addI f (1, t, 0)) op c
  | slot {f op : List It} {c : Nat} (t : List UInt8) (ht : isNameL t = true) (h : GenT ns f op c) : GenT ns (addI f (5, t, 0)) op c
  | empty {f op : List It} {c : Nat} (t : List UInt8) (ht : t ∈ tg4) (h : GenT ns f op c) : GenT ns (addI f (4, t, (c : Int) + 1)) op (c + 1)
  | opened {f op : List It} {c : Nat} (t : List UInt8) (ht : t ∈ tg2) (h : GenT ns f op c) : GenT ns (addI f (2, t, (c : Int) + 1)) (op ++ [(2, t, (c : Int) + 1)]) (c + 1)
  | closed {f op : List It} {c : Nat} (k : Nat) (hk : k < op.length) (hl : ns = true → k + 1 = op.length) (h : GenT ns f op c) : GenT ns (addI f (3, nameOf op[k].2.1, op[k].2.2)) (op.take k ++ op.drop (k + 1)) c
  | stray {f op : List It} {c : Nat} (hn : ns = false) (h : GenT ns f op c) : GenT ns (addI f (3, [98], (c : Int) + 1)) op (c + 1)
theorem GenT.nm {ns : Bool} {f op : List It} {c : Nat} (h : GenT ns f op c) : Nm f := by
  induction h with
  | nil => exact nm_nil
  | text t h ih => exact nm_add ih _
  | slot t ht h ih => exact nm_add ih _
  | empty t ht h ih => exact nm_add ih _
  | opened t ht h ih => exact nm_add ih _
  | closed k hk hl h ih => exact nm_add ih _
  | stray hn h ih => exact nm_add ih _
theorem GenT.small {ns : Bool} {f op : List It} {c : Nat} (h : GenT ns f op c) : ∀ y ∈ op, y.2.1.length ≤ 5 ∧ y.1 = 2 := by
  induction h with
  | nil => intro y hy; cases hy
  | text t h ih => exact ih
  | slot t ht h ih => exact ih
  | empty t ht h ih => exact ih
  | opened t ht h ih =>
    intro y hy
    rcases List.mem_append.1 hy with hy | hy
    · exact ih y hy
    · simp at hy; subst hy
      simp [tg2] at ht
      rcases ht with rfl | rfl | rfl <;> simp
  | closed k hk hl h ih =>
    intro y hy
    rcases List.mem_append.1 hy with hy | hy
    · exact ih y (List.mem_of_mem_take hy)
    · exact ih y (List.mem_of_mem_drop hy)
  | stray hn h ih => exact ih
theorem name_le' (l : List UInt8) : (nameOf l).length ≤ l.length := (List.takeWhile_prefix _).length_le
end Go.Proofs.YtpahkhmheikebaaGreatDoor.St

namespace Go.Proofs.YtpahkhmheikebaaGreatDoor
open Go.RowKit
theorem items_boxi (W : World) (b : Nat) (k : Int) (t : List UInt8) (i : Int) (hb : b < W.heap.size) (h0 : W.cell? ⟨b, 0, none⟩ = some (.int .i64 k)) (h1 : W.cell? ⟨b, 1, none⟩ = some (.string ⟨t.toArray⟩)) (h2 : W.cell? ⟨b, 2, none⟩ = some (.int .i64 i)) : ItemsAt W (some ⟨b, 0, none⟩) [(k, t, i)] := by
  intro _
  refine ⟨b, 0, rfl, hb, fun j hj => ?_⟩
  obtain rfl : j = 0 := by simpa using hj
  exact ⟨h0, h1, h2⟩
end Go.Proofs.YtpahkhmheikebaaGreatDoor

namespace Go.Proofs.YtpahkhmheikebaaGreatDoor
open Go.RowKit

theorem rg_norm2 {P : Program} {md : Region.Mode} {ops : Array Oper} {Q : Exit → Act → World → Prop} {fuel : Nat} {l l' : Array Bool} {a : Act} {w : World} (h : l = l') (hw : wpAny P md ops Q fuel l' a w) : wpAny P md ops Q fuel l a w := by subst h; exact hw
theorem step_append_items {ops : Array Oper} {o : Oper} {a : Act} {w : World} {K : Act → World → Prop} {Q : Exit → Act → World → Prop} {E : Prop} (hgd : o.guard = none) (s x : Operand)
    (ho : o.op = .call { callee := .builtin .append, args := #[s, x], argTypes := #[22, 22] })
    (base : Nat) (v : Value) (n : Nat) (O : List St.It) (hs : a.eval s = v) (hown : w.ownsRow base 38 3 v n (cellsIt O))
    (ad : Addr) (m c : Nat) (f : List St.It) (hx : a.eval x = .slice (some ad) m c) (hI : ItemsAt w (some ad) f) (hm : f.length = m) (h63 : n + m ≤ 200000) (hbase : base ≤ w.heap.size)
    (h : ∀ v' w', w'.ownsRow base 38 3 v' (n + m) (cellsIt (O ++ f)) → w.grownBy w' v.ownBlock → K (a.put o.dst v') w') : if Region.wanted o (yielded ops a.tmps) = true then Oper.wp Tryz.prog o a w K Q else E := by
  obtain ⟨i0, hi, hz0, hz1, hz2⟩ := info_parts info_item
  refine step_append_own hgd s x 22 ho base 38 i0 (.agg #[.int .i64 0, .string ⟨#[]⟩, .int .i64 0]) 3 32 Tryz.underlying22 hi hz0 hz1 hz2 rfl (by decide) v n _ hs hown ad m c (cellsIt f) hx (by rw [cells_len, hm]) hI.cells (cellsIt_one f) (by unfold maxLen; omega) (by omega) hbase ?_
  intro v' w' ho' hg _
  exact h v' w' (by rw [cellsIt_append]; exact ho') hg
theorem items_drop {w : World} {b off : Nat} {f : List St.It} (h : ItemsAt w (some ⟨b, off, none⟩) f) (q : Nat) : ItemsAt w (some ⟨b, off + q * 3, none⟩) (f.drop q) := by
  intro h0
  simp at h0
  obtain ⟨b', off', e, hb, hc⟩ := h (by omega)
  obtain ⟨rfl, rfl⟩ : b = b' ∧ off = off' := by simp at e; exact e
  refine ⟨b, off + q * 3, rfl, hb, fun j hj => ?_⟩
  simp at hj
  have := hc (q + j) (by omega)
  simp only [List.getElem_drop]
  rw [show off + q * 3 + j * 3 = off + (q + j) * 3 by omega]
  exact this
theorem step_callF2 {P : Program} {ops : Array Oper} {o : Oper} {a : Act} {w : World} {K : Act → World → Prop} {Q : Exit → Act → World → Prop} {E : Prop}
    (hg : o.guard = none) (f : FuncId) (args : Array Value) (Po : Ending → World → Prop) (hc : Calls P f args w Po)
    (hrun : (execOp a.eval o).run P w = .ok (.enter f args) w) (hK : ∀ e w', Po e w' → ∃ v, e = .returned v ∧ K (a.put o.dst v) w') :
    if Region.wanted o (yielded ops a.tmps) = true then Oper.wp P o a w K Q else E := by
  have hw : Region.wanted o (yielded ops a.tmps) = true := by simp [Region.wanted, hg]
  rw [if_pos hw]
  unfold Oper.wp
  rw [hrun]
  refine hc.mono ?_
  intro e w' hp
  obtain ⟨v, rfl, hk⟩ := hK e w' hp
  exact hk
theorem dis_of {W' : World} {H e e' n n' b : Nat} {v9 v10 : Value} {xs xs' : List Value} {w2 : World} (h9 : W'.ownsRow H e 3 v9 n xs) (h10 : w2.ownsRow b e' 3 v10 n' xs') (hH : w2.heap.size ≤ H) : v9.ownBlock = none ∨ v9.ownBlock ≠ v10.ownBlock := by
  cases h : v9.ownBlock with
  | none => exact .inl rfl
  | some x =>
    refine .inr fun e => ?_
    have h1 := owns_block h9 x h
    have h2 := (h10.lt x e.symm).2
    omega
def FtRel (w : World) (B g P n : Nat) (ns : Bool) (s9 s10 s11 s12 : Value) (wr : World) : Prop := ∃ (i k c : Nat) (f op : List St.It), s12 = .int .i64 i ∧ s11 = .int .i64 c ∧ k + i ≤ n ∧ wr.ownsRow w.heap.size 38 3 s9 f.length (cellsIt f) ∧ wr.ownsRow w.heap.size 38 3 s10 op.length (cellsIt op) ∧ (s9.ownBlock = none ∨ s9.ownBlock ≠ s10.ownBlock) ∧ St.GenT ns f op c ∧ f.length ≤ k ∧ op.length ≤ k ∧ c ≤ k ∧ tot f ≤ 18 * k ∧ GenP wr B g (P + 1 + 9 * k) ∧ w.grownBy wr (some g)
def FragTEnd (w : World) (B g P n : Nat) (ns : Bool) (e : Ending) (w' : World) : Prop := ∃ (v : Value) (f op : List St.It) (c : Nat), e = .returned v ∧ w'.ownsRow w.heap.size 38 3 v f.length (cellsIt f) ∧ St.GenT ns f op c ∧ f.length ≤ n ∧ tot f ≤ 18 * n ∧ GenP w' B g (P + 1 + 9 * n) ∧ w.grownBy w' (some g)

set_option maxRecDepth 20000 in
set_option maxHeartbeats 12800000 in
theorem fragt_gen (B g P n : Nat) (w : World) (hG : GenP w B g P) (hP : P ≤ 100000) (hn : n ≤ 100) :
    Calls Tryz.prog 9 #[.pointer (some ⟨g, 0, none⟩), .int .i64 n, .bool true, .bool false] w (FragTEnd w B g P n false) := by
  have HG := hid hG
  obtain ⟨hgB, hB⟩ := hG.lt
  obtain ⟨i0, hi, hz0, hz1, hz2⟩ := info_parts info_item
  clear hG
  go_enter Tryz.func9, Tryz.ntmps9
  go_wp2_with fail
  refine (next_gen B g P ((n : Int) + 1) _ HG.out (by omega) (by omega) (by omega)).mono ?_
  rintro e w2 ⟨r, rfl, hr, hG2, hk⟩
  have HG2 := hid hG2
  have HK2 := hid hk
  clear hG2 hk HG
  go_wp2_with fail
  go_loopw [9, 10, 11, 12] (fun s9 s10 s11 s12 wr => FtRel w B g P n false s9 s10 s11 s12 wr) (fun _ _ _ s12 _ => (intOf s12).toNat)
  case atStart => exact ⟨r, 0, 0, [], [], rfl, rfl, by omega, World.ownsRow_nil _ _ _ _, World.ownsRow_nil _ _ _ _, .inl rfl, .nil, by simp, by simp, by omega, by simp [tot], HG2.out, HK2.out⟩
  case round =>
    clear HG2 HK2 hr
    obtain ⟨i, k, c, f, op, rfl, rfl, hki, hown, hownp, hdis, hgen, hfl, hol, hck, hft, hG, hk⟩ := hrel
    have HG := hid hG
    have HK := hid hk
    have HO := hid hown
    have HP := hid hownp
    have HD := hid hdis
    have HGN := hid hgen
    clear hG hk hown hownp hdis hgen
    by_cases hi9 : 0 < i
    · have z : (0 : Int) < (i : Int) := by omega
      obtain ⟨wo, rfl⟩ : ∃ wo : World, wo = wr := ⟨_, rfl⟩
      go_wp2_with fail
      refine (line_gen B g _ 3 _ HG.out (by omega) (by omega)).mono ?_
      rintro e w3 ⟨t, rfl, hts, hG3, hk3⟩
      have HG3 := hid hG3
      have HK3 := hid (gb_trans HK.out hk3 (fun _ e => .inl e))
      have HO3 := hid (own_gb HO.out hk3 (by omega))
      have HP3 := hid (own_gb HP.out hk3 (by omega))
      clear hG3 hk3 HG HK HO HP
      have hsz3 := HK3.out.size
      obtain ⟨A9, c9, rfl, _, _, hA9⟩ := own_slice' HO3.out
      obtain ⟨A10, c10, rfl, h10c, h10m, hA10⟩ := own_slice' HP3.out
      have hlt3 : ∀ x, (Value.slice A9 f.length c9).ownBlock = some x → x < w3.heap.size := fun x hx => (HO3.out.lt x hx).2
      have hlt3p : ∀ x, (Value.slice A10 op.length c10).ownBlock = some x → x < w3.heap.size := fun x hx => (HP3.out.lt x hx).2
      have hcat : ∀ (W : World) (b : Nat) (x : St.It), ItemsAt W A9 f → ItemsAt W (some ⟨b, 0, none⟩) [x] → tot (f ++ [x]) ≤ 4611686018427387904 → Calls Tryz.prog 12 #[.slice A9 f.length c9, .slice (some ⟨b, 0, none⟩) 1 1] W fun e w' => ∃ v, e = .returned v ∧ w'.ownsRow W.heap.size 38 3 v (St.addI f x).length (cellsIt (St.addI f x)) ∧ Und W w' := by
        intro W b x h h' ht
        have := concat_any A9 f.length c9 f (some ⟨b, 0, none⟩) 1 1 [x] W rfl rfl (fun e => by have := hA9 e; omega) (fun e => by cases e) h h' (by omega) ht
        rw [St.normL_snoc, HGN.out.nm] at this
        exact this
      have HCAT := hid hcat
      clear hcat
      have fin : ∀ (x : St.It) (v7 v10 : Value) (w6 w7 : World) (op' : List St.It) (c' : Nat) (s11 : Value), s11 = .int .i64 (c' : Nat) → St.GenT false (St.addI f x) op' c' → x.2.1.length ≤ 18 → op'.length ≤ op.length + 1 → c' ≤ c + 1 → w7.ownsRow w6.heap.size 38 3 v7 (St.addI f x).length (cellsIt (St.addI f x)) → w6.ownsRow w.heap.size 38 3 v10 op'.length (cellsIt op') → Und w6 w7 → w.heap.size ≤ w6.heap.size → GenP w7 B g (P + 1 + 9 * (k + 1)) → w.grownBy w7 (some g) → FtRel w B g P n false v7 v10 s11 (.int .i64 ((i : Int) - 1)) w7 := by
        intro x v7 v10 w6 w7 op' c' s11 hs11 hg hx ho' hc' ho7 ho10 hu7 hwz hG hk
        have h1 := (St.addI_len f x).1
        have h2 := tot_add f x
        exact ⟨i - 1, k + 1, c', St.addI f x, op', congrArg (Value.int .i64) (by omega), hs11, by omega, own_low ho7 hwz, own_und hu7 ho10, dis_of ho7 ho10 (Nat.le_refl _), hg, by omega, by omega, by omega, by omega, hG, hk⟩
      have FIN := hid fin
      clear fin
      have hgs : g < w3.heap.size := by omega
      go_wp2_with fail
      refine (next_gen B g _ 8 _ (HG3.out.und ((Und.refl _).alloc _)) (by omega) (by omega) (by omega)).mono ?_
      rintro e w4 ⟨r, rfl, hr, hG4, hk4⟩
      have HG4 := hid hG4
      have HK4 := hid (gb_trans (gb_und HK3.out ((Und.refl _).alloc (.cells #[.int .i64 1, .string t, .int .i64 0] 38))) hk4 (fun _ e => .inl e))
      have HO4 := hid (own_gb (HO3.out.alloc (.cells #[.int .i64 1, .string t, .int .i64 0] 38)) hk4 (by omega))
      have HP4 := hid (own_gb (HP3.out.alloc (.cells #[.int .i64 1, .string t, .int .i64 0] 38)) hk4 (by omega))
      have hb4 : w4.heap[w3.heap.size]? = some (Obj.cells #[.int .i64 1, .string t, .int .i64 0] 38 (0, 0)) := (hk4.block w3.heap.size (by simp) (by simp; omega)).trans (heap_alloc_new w3 _)
      have hsz4 : w3.heap.size < w4.heap.size := lt_of_heap hb4
      have d0 : w4.cell? ⟨w3.heap.size, 0, none⟩ = some (.int .i64 1) := Lib.cell_of_heap hb4 0
      have d1 : w4.cell? ⟨w3.heap.size, 1, none⟩ = some (.string t) := Lib.cell_of_heap hb4 1
      have d2 : w4.cell? ⟨w3.heap.size, 2, none⟩ = some (.int .i64 0) := Lib.cell_of_heap hb4 2
      haveI : LtW w3.heap.size w4 := LtW.of hsz4
      have hr8 : r < 8 := by omega
      clear hG4 hk4 HG3 HK3 HO3 HP3 hr
      rcases (show r = 0 ∨ r = 1 ∨ r = 2 ∨ r = 3 ∨ r = 4 ∨ r = 5 ∨ r = 6 ∨ r = 7 by omega) with h | h | h | h | h | h | h | h
      · subst h
        clear hr8 d0 d1 d2
        go_wp2_with fail
        refine (next_gen B g _ 3 _ (HG4.out.und ((Und.refl _).alloc (.cells #[.string ⟨#[110]⟩, .string ⟨#[110, 97, 109, 101]⟩, .string ⟨#[120, 49]⟩] 9))) (by omega) (by omega) (by omega)).mono ?_
        rintro e w5 ⟨q, rfl, hq, hG5, hk5⟩
        obtain ⟨u, hu, hus, hun⟩ : ∃ u : ByteArray, (#[.string ⟨#[110]⟩, .string ⟨#[110, 97, 109, 101]⟩, .string ⟨#[120, 49]⟩] : Array Value)[q]? = some (.string u) ∧ u.size ≤ 5 ∧ St.isNameL u.data.toList = true := by
          rcases (show q = 0 ∨ q = 1 ∨ q = 2 by omega) with h | h | h <;> subst h <;> exact ⟨_, rfl, by decide, by decide⟩
        have hcell := lit_cell w4 w5 _ _ B g hk5 hgB (by omega) q _ hu
        have HG5 := hid hG5
        have HK5 := hid (gb_trans (gb_und HK4.out ((Und.refl _).alloc (.cells #[.string ⟨#[110]⟩, .string ⟨#[110, 97, 109, 101]⟩, .string ⟨#[120, 49]⟩] 9))) hk5 (fun _ e => .inl e))
        have HO5 := hid (own_gb (HO4.out.alloc (.cells #[.string ⟨#[110]⟩, .string ⟨#[110, 97, 109, 101]⟩, .string ⟨#[120, 49]⟩] 9)) hk5 (by omega))
        have HP5 := hid (own_gb (HP4.out.alloc (.cells #[.string ⟨#[110]⟩, .string ⟨#[110, 97, 109, 101]⟩, .string ⟨#[120, 49]⟩] 9)) hk5 (by omega))
        have hb5 : w5.heap[w3.heap.size]? = some (Obj.cells #[.int .i64 1, .string t, .int .i64 0] 38 (0, 0)) := (hk5.block w3.heap.size (by simp; omega) (by simp; omega)).trans ((((Und.refl w4).alloc _).below.block w3.heap.size hsz4).trans hb4)
        haveI : LtW w4.heap.size w5 := LtW.of (World.block_lt_of_cell? _ _ hcell)
        have hq3 : q < 3 := by omega
        have f0 : w5.frozen? ⟨w3.heap.size, 0, none⟩ = false := Lib.frozen_of_heap hb5 0
        have f1 : w5.frozen? ⟨w3.heap.size, 1, none⟩ = false := Lib.frozen_of_heap hb5 1
        have f2 : w5.frozen? ⟨w3.heap.size, 2, none⟩ = false := Lib.frozen_of_heap hb5 2
        have g0 : w5.cell? ⟨w3.heap.size, 0, none⟩ = some (.int .i64 1) := Lib.cell_of_heap hb5 0
        have g1 : w5.cell? ⟨w3.heap.size, 1, none⟩ = some (.string t) := Lib.cell_of_heap hb5 1
        have g2 : w5.cell? ⟨w3.heap.size, 2, none⟩ = some (.int .i64 0) := Lib.cell_of_heap hb5 2
        haveI : LtW w3.heap.size w5 := LtW.of (lt_of_heap hb5)
        have hob : (Value.slice A9 f.length c9).ownBlock ≠ some w3.heap.size := fun e => by have := hlt3 _ e; omega
        have hobp : (Value.slice A10 op.length c10).ownBlock ≠ some w3.heap.size := fun e => by have := hlt3p _ e; omega
        have hkey : ∀ W, W = ((w5.setCell ⟨w3.heap.size, 0, none⟩ (.int .i64 5)).setCell ⟨w3.heap.size, 1, none⟩ (.string u)).setCell ⟨w3.heap.size, 2, none⟩ (.int .i64 0) → W.ownsRow w.heap.size 38 3 (.slice A9 f.length c9) f.length (cellsIt f) ∧ W.ownsRow w.heap.size 38 3 (.slice A10 op.length c10) op.length (cellsIt op) ∧ GenP W B g (P + 1 + 9 * (k + 1)) ∧ w.grownBy W (some g) ∧ W.heap.size = w5.heap.size ∧ W.heap[w3.heap.size]? = some (Obj.cells #[.int .i64 5, .string u, .int .i64 0] 38 (0, 0)) := by
          intro W hW
          subst hW
          have hBb : ∀ x, some w3.heap.size = some x → B ≤ x := fun x e => by cases e; omega
          refine ⟨own_set (own_set (own_set HO5.out hob) hob) hob, own_set (own_set (own_set HP5.out hobp) hobp) hobp, ?_, gb_setCell (gb_setCell (gb_setCell HK5.out _ _ (.inr (by show w.heap.size ≤ w3.heap.size; omega))) _ _ (.inr (by show w.heap.size ≤ w3.heap.size; omega))) _ _ (.inr (by show w.heap.size ≤ w3.heap.size; omega)), by simp, heap_setCell_same _ w3.heap.size 2 _ _ _ (heap_setCell_same _ w3.heap.size 1 _ _ _ (heap_setCell_same w5 w3.heap.size 0 _ _ _ hb5))⟩
          exact (((HG5.out.gb (gb_set w5 ⟨w3.heap.size, 0, none⟩ _) hBb).gb (gb_set _ ⟨w3.heap.size, 1, none⟩ _) hBb).gb (gb_set _ ⟨w3.heap.size, 2, none⟩ _) hBb).le (by omega)
        have HKEY := hid (hkey _ rfl)
        have hne5 := HKEY.out.2.2.1.lt.2
        clear hG5 hk5 HG4 HK4 HO4 HP4 hkey hu hq
        go_wp2_with fail
        refine (HCAT.out _ _ (5, u.data.toList, 0) ?_ ?_ ?_).mono ?_
        · exact (items_own HKEY.out.1 rfl).und ((Und.refl _).alloc _)
        · rw [← ba_eta u]; exact items_box _ _ _ _ (by simp) (by rw [World.cell?_alloc_at _ _ _ _ (by simp)]; rfl) (by rw [World.cell?_alloc_at _ _ _ _ (by simp)]; rfl) (by rw [World.cell?_alloc_at _ _ _ _ (by simp)]; rfl)
        · rw [tot_snoc]; simp; omega
        rintro e w7 ⟨v7, rfl, ho7, hu7⟩
        have hrel := FIN.out (5, u.data.toList, 0) v7 _ _ w7 op c _ rfl (HGN.out.slot _ hun) (by simp; omega) (by omega) (by omega) ho7 (HKEY.out.2.1.alloc _) hu7 (by have := HKEY.out.2.2.2.1.size; simp at this ⊢; omega) ((HKEY.out.2.2.1.und ((Und.refl _).alloc _)).und hu7) (gb_und HKEY.out.2.2.2.1 (((Und.refl _).alloc _).trans hu7))
        have HREL := hid hrel
        clear hrel ho7 hu7 hcell
        go_wp2
        exact ⟨HREL.out, by simp [intOf]; omega⟩
      · subst h
        clear hr8 d0 d1 d2
        go_wp2_with fail
        refine (next_gen B g _ 3 _ (HG4.out.und ((Und.refl _).alloc (.cells #[.string ⟨#[110]⟩, .string ⟨#[110, 97, 109, 101]⟩, .string ⟨#[120, 49]⟩] 9))) (by omega) (by omega) (by omega)).mono ?_
        rintro e w5 ⟨q, rfl, hq, hG5, hk5⟩
        obtain ⟨u, hu, hus, hun⟩ : ∃ u : ByteArray, (#[.string ⟨#[110]⟩, .string ⟨#[110, 97, 109, 101]⟩, .string ⟨#[120, 49]⟩] : Array Value)[q]? = some (.string u) ∧ u.size ≤ 5 ∧ St.isNameL u.data.toList = true := by
          rcases (show q = 0 ∨ q = 1 ∨ q = 2 by omega) with h | h | h <;> subst h <;> exact ⟨_, rfl, by decide, by decide⟩
        have hcell := lit_cell w4 w5 _ _ B g hk5 hgB (by omega) q _ hu
        have HG5 := hid hG5
        have HK5 := hid (gb_trans (gb_und HK4.out ((Und.refl _).alloc (.cells #[.string ⟨#[110]⟩, .string ⟨#[110, 97, 109, 101]⟩, .string ⟨#[120, 49]⟩] 9))) hk5 (fun _ e => .inl e))
        have HO5 := hid (own_gb (HO4.out.alloc (.cells #[.string ⟨#[110]⟩, .string ⟨#[110, 97, 109, 101]⟩, .string ⟨#[120, 49]⟩] 9)) hk5 (by omega))
        have HP5 := hid (own_gb (HP4.out.alloc (.cells #[.string ⟨#[110]⟩, .string ⟨#[110, 97, 109, 101]⟩, .string ⟨#[120, 49]⟩] 9)) hk5 (by omega))
        have hb5 : w5.heap[w3.heap.size]? = some (Obj.cells #[.int .i64 1, .string t, .int .i64 0] 38 (0, 0)) := (hk5.block w3.heap.size (by simp; omega) (by simp; omega)).trans ((((Und.refl w4).alloc _).below.block w3.heap.size hsz4).trans hb4)
        haveI : LtW w4.heap.size w5 := LtW.of (World.block_lt_of_cell? _ _ hcell)
        have hq3 : q < 3 := by omega
        have f0 : w5.frozen? ⟨w3.heap.size, 0, none⟩ = false := Lib.frozen_of_heap hb5 0
        have f1 : w5.frozen? ⟨w3.heap.size, 1, none⟩ = false := Lib.frozen_of_heap hb5 1
        have f2 : w5.frozen? ⟨w3.heap.size, 2, none⟩ = false := Lib.frozen_of_heap hb5 2
        have g0 : w5.cell? ⟨w3.heap.size, 0, none⟩ = some (.int .i64 1) := Lib.cell_of_heap hb5 0
        have g1 : w5.cell? ⟨w3.heap.size, 1, none⟩ = some (.string t) := Lib.cell_of_heap hb5 1
        have g2 : w5.cell? ⟨w3.heap.size, 2, none⟩ = some (.int .i64 0) := Lib.cell_of_heap hb5 2
        haveI : LtW w3.heap.size w5 := LtW.of (lt_of_heap hb5)
        have hob : (Value.slice A9 f.length c9).ownBlock ≠ some w3.heap.size := fun e => by have := hlt3 _ e; omega
        have hobp : (Value.slice A10 op.length c10).ownBlock ≠ some w3.heap.size := fun e => by have := hlt3p _ e; omega
        have hkey : ∀ W, W = ((w5.setCell ⟨w3.heap.size, 0, none⟩ (.int .i64 5)).setCell ⟨w3.heap.size, 1, none⟩ (.string u)).setCell ⟨w3.heap.size, 2, none⟩ (.int .i64 0) → W.ownsRow w.heap.size 38 3 (.slice A9 f.length c9) f.length (cellsIt f) ∧ W.ownsRow w.heap.size 38 3 (.slice A10 op.length c10) op.length (cellsIt op) ∧ GenP W B g (P + 1 + 9 * (k + 1)) ∧ w.grownBy W (some g) ∧ W.heap.size = w5.heap.size ∧ W.heap[w3.heap.size]? = some (Obj.cells #[.int .i64 5, .string u, .int .i64 0] 38 (0, 0)) := by
          intro W hW
          subst hW
          have hBb : ∀ x, some w3.heap.size = some x → B ≤ x := fun x e => by cases e; omega
          refine ⟨own_set (own_set (own_set HO5.out hob) hob) hob, own_set (own_set (own_set HP5.out hobp) hobp) hobp, ?_, gb_setCell (gb_setCell (gb_setCell HK5.out _ _ (.inr (by show w.heap.size ≤ w3.heap.size; omega))) _ _ (.inr (by show w.heap.size ≤ w3.heap.size; omega))) _ _ (.inr (by show w.heap.size ≤ w3.heap.size; omega)), by simp, heap_setCell_same _ w3.heap.size 2 _ _ _ (heap_setCell_same _ w3.heap.size 1 _ _ _ (heap_setCell_same w5 w3.heap.size 0 _ _ _ hb5))⟩
          exact (((HG5.out.gb (gb_set w5 ⟨w3.heap.size, 0, none⟩ _) hBb).gb (gb_set _ ⟨w3.heap.size, 1, none⟩ _) hBb).gb (gb_set _ ⟨w3.heap.size, 2, none⟩ _) hBb).le (by omega)
        have HKEY := hid (hkey _ rfl)
        have hne5 := HKEY.out.2.2.1.lt.2
        clear hG5 hk5 HG4 HK4 HO4 HP4 hkey hu hq
        go_wp2_with fail
        refine (HCAT.out _ _ (5, u.data.toList, 0) ?_ ?_ ?_).mono ?_
        · exact (items_own HKEY.out.1 rfl).und ((Und.refl _).alloc _)
        · rw [← ba_eta u]; exact items_box _ _ _ _ (by simp) (by rw [World.cell?_alloc_at _ _ _ _ (by simp)]; rfl) (by rw [World.cell?_alloc_at _ _ _ _ (by simp)]; rfl) (by rw [World.cell?_alloc_at _ _ _ _ (by simp)]; rfl)
        · rw [tot_snoc]; simp; omega
        rintro e w7 ⟨v7, rfl, ho7, hu7⟩
        have hrel := FIN.out (5, u.data.toList, 0) v7 _ _ w7 op c _ rfl (HGN.out.slot _ hun) (by simp; omega) (by omega) (by omega) ho7 (HKEY.out.2.1.alloc _) hu7 (by have := HKEY.out.2.2.2.1.size; simp at this ⊢; omega) ((HKEY.out.2.2.1.und ((Und.refl _).alloc _)).und hu7) (gb_und HKEY.out.2.2.2.1 (((Und.refl _).alloc _).trans hu7))
        have HREL := hid hrel
        clear hrel ho7 hu7 hcell
        go_wp2
        exact ⟨HREL.out, by simp [intOf]; omega⟩
      · subst h
        clear hr8 d0 d1 d2
        go_wp2_with fail
        refine (next_gen B g _ 2 _ (HG4.out.und ((Und.refl _).alloc (.cells #[.string ⟨#[98, 114]⟩, .string ⟨#[105, 109, 103, 32, 97]⟩] 9))) (by omega) (by omega) (by omega)).mono ?_
        rintro e w5 ⟨q, rfl, hq, hG5, hk5⟩
        obtain ⟨u, hu, hus, hun⟩ : ∃ u : ByteArray, (#[.string ⟨#[98, 114]⟩, .string ⟨#[105, 109, 103, 32, 97]⟩] : Array Value)[q]? = some (.string u) ∧ u.size ≤ 5 ∧ u.data.toList ∈ St.tg4 := by
          rcases (show q = 0 ∨ q = 1 by omega) with h | h <;> subst h <;> exact ⟨_, rfl, by decide, by decide⟩
        have hcell := lit_cell w4 w5 _ _ B g hk5 hgB (by omega) q _ hu
        have HG5 := hid hG5
        have HK5 := hid (gb_trans (gb_und HK4.out ((Und.refl _).alloc (.cells #[.string ⟨#[98, 114]⟩, .string ⟨#[105, 109, 103, 32, 97]⟩] 9))) hk5 (fun _ e => .inl e))
        have HO5 := hid (own_gb (HO4.out.alloc (.cells #[.string ⟨#[98, 114]⟩, .string ⟨#[105, 109, 103, 32, 97]⟩] 9)) hk5 (by omega))
        have HP5 := hid (own_gb (HP4.out.alloc (.cells #[.string ⟨#[98, 114]⟩, .string ⟨#[105, 109, 103, 32, 97]⟩] 9)) hk5 (by omega))
        have hb5 : w5.heap[w3.heap.size]? = some (Obj.cells #[.int .i64 1, .string t, .int .i64 0] 38 (0, 0)) := (hk5.block w3.heap.size (by simp; omega) (by simp; omega)).trans ((((Und.refl w4).alloc _).below.block w3.heap.size hsz4).trans hb4)
        haveI : LtW w4.heap.size w5 := LtW.of (World.block_lt_of_cell? _ _ hcell)
        have hq3 : q < 2 := by omega
        have f0 : w5.frozen? ⟨w3.heap.size, 0, none⟩ = false := Lib.frozen_of_heap hb5 0
        have f1 : w5.frozen? ⟨w3.heap.size, 1, none⟩ = false := Lib.frozen_of_heap hb5 1
        have f2 : w5.frozen? ⟨w3.heap.size, 2, none⟩ = false := Lib.frozen_of_heap hb5 2
        have g0 : w5.cell? ⟨w3.heap.size, 0, none⟩ = some (.int .i64 1) := Lib.cell_of_heap hb5 0
        have g1 : w5.cell? ⟨w3.heap.size, 1, none⟩ = some (.string t) := Lib.cell_of_heap hb5 1
        have g2 : w5.cell? ⟨w3.heap.size, 2, none⟩ = some (.int .i64 0) := Lib.cell_of_heap hb5 2
        haveI : LtW w3.heap.size w5 := LtW.of (lt_of_heap hb5)
        have hob : (Value.slice A9 f.length c9).ownBlock ≠ some w3.heap.size := fun e => by have := hlt3 _ e; omega
        have hobp : (Value.slice A10 op.length c10).ownBlock ≠ some w3.heap.size := fun e => by have := hlt3p _ e; omega
        have hkey : ∀ W, W = ((w5.setCell ⟨w3.heap.size, 0, none⟩ (.int .i64 4)).setCell ⟨w3.heap.size, 1, none⟩ (.string u)).setCell ⟨w3.heap.size, 2, none⟩ (.int .i64 ((c : Int) + 1)) → W.ownsRow w.heap.size 38 3 (.slice A9 f.length c9) f.length (cellsIt f) ∧ W.ownsRow w.heap.size 38 3 (.slice A10 op.length c10) op.length (cellsIt op) ∧ GenP W B g (P + 1 + 9 * (k + 1)) ∧ w.grownBy W (some g) ∧ W.heap.size = w5.heap.size ∧ W.heap[w3.heap.size]? = some (Obj.cells #[.int .i64 4, .string u, .int .i64 ((c : Int) + 1)] 38 (0, 0)) := by
          intro W hW
          subst hW
          have hBb : ∀ x, some w3.heap.size = some x → B ≤ x := fun x e => by cases e; omega
          refine ⟨own_set (own_set (own_set HO5.out hob) hob) hob, own_set (own_set (own_set HP5.out hobp) hobp) hobp, ?_, gb_setCell (gb_setCell (gb_setCell HK5.out _ _ (.inr (by show w.heap.size ≤ w3.heap.size; omega))) _ _ (.inr (by show w.heap.size ≤ w3.heap.size; omega))) _ _ (.inr (by show w.heap.size ≤ w3.heap.size; omega)), by simp, heap_setCell_same _ w3.heap.size 2 _ _ _ (heap_setCell_same _ w3.heap.size 1 _ _ _ (heap_setCell_same w5 w3.heap.size 0 _ _ _ hb5))⟩
          exact (((HG5.out.gb (gb_set w5 ⟨w3.heap.size, 0, none⟩ _) hBb).gb (gb_set _ ⟨w3.heap.size, 1, none⟩ _) hBb).gb (gb_set _ ⟨w3.heap.size, 2, none⟩ _) hBb).le (by omega)
        have HKEY := hid (hkey _ rfl)
        have hne5 := HKEY.out.2.2.1.lt.2
        clear hG5 hk5 HG4 HK4 HO4 HP4 hkey hu hq
        go_wp2_with fail
        refine (HCAT.out _ _ (4, u.data.toList, (c : Int) + 1) ?_ ?_ ?_).mono ?_
        · exact (items_own HKEY.out.1 rfl).und ((Und.refl _).alloc _)
        · rw [← ba_eta u]; exact items_boxi _ _ _ _ _ (by simp) (by rw [World.cell?_alloc_at _ _ _ _ (by simp)]; rfl) (by rw [World.cell?_alloc_at _ _ _ _ (by simp)]; rfl) (by rw [World.cell?_alloc_at _ _ _ _ (by simp)]; rfl)
        · rw [tot_snoc]; simp; omega
        rintro e w7 ⟨v7, rfl, ho7, hu7⟩
        have hrel := FIN.out (4, u.data.toList, (c : Int) + 1) v7 _ _ w7 op (c + 1) (.int .i64 ((c : Int) + 1)) rfl (HGN.out.empty _ hun) (by simp; omega) (by omega) (by omega) ho7 (HKEY.out.2.1.alloc _) hu7 (by have := HKEY.out.2.2.2.1.size; simp at this ⊢; omega) ((HKEY.out.2.2.1.und ((Und.refl _).alloc _)).und hu7) (gb_und HKEY.out.2.2.2.1 (((Und.refl _).alloc _).trans hu7))
        have HREL := hid hrel
        clear hrel ho7 hu7 hcell
        go_wp2
        exact ⟨HREL.out, by simp [intOf]; omega⟩
      · subst h
        clear hr8 d0 d1 d2
        go_wp2_with fail
        refine (next_gen B g _ 3 _ (HG4.out.und ((Und.refl _).alloc (.cells #[.string ⟨#[98]⟩, .string ⟨#[105]⟩, .string ⟨#[97, 32, 104, 61, 49]⟩] 9))) (by omega) (by omega) (by omega)).mono ?_
        rintro e w5 ⟨q, rfl, hq, hG5, hk5⟩
        obtain ⟨u, hu, hus, hun⟩ : ∃ u : ByteArray, (#[.string ⟨#[98]⟩, .string ⟨#[105]⟩, .string ⟨#[97, 32, 104, 61, 49]⟩] : Array Value)[q]? = some (.string u) ∧ u.size ≤ 5 ∧ u.data.toList ∈ St.tg2 := by
          rcases (show q = 0 ∨ q = 1 ∨ q = 2 by omega) with h | h | h <;> subst h <;> exact ⟨_, rfl, by decide, by decide⟩
        have hcell := lit_cell w4 w5 _ _ B g hk5 hgB (by omega) q _ hu
        have HG5 := hid hG5
        have HK5 := hid (gb_trans (gb_und HK4.out ((Und.refl _).alloc (.cells #[.string ⟨#[98]⟩, .string ⟨#[105]⟩, .string ⟨#[97, 32, 104, 61, 49]⟩] 9))) hk5 (fun _ e => .inl e))
        have HO5 := hid (own_gb (HO4.out.alloc (.cells #[.string ⟨#[98]⟩, .string ⟨#[105]⟩, .string ⟨#[97, 32, 104, 61, 49]⟩] 9)) hk5 (by omega))
        have HP5 := hid (own_gb (HP4.out.alloc (.cells #[.string ⟨#[98]⟩, .string ⟨#[105]⟩, .string ⟨#[97, 32, 104, 61, 49]⟩] 9)) hk5 (by omega))
        have hb5 : w5.heap[w3.heap.size]? = some (Obj.cells #[.int .i64 1, .string t, .int .i64 0] 38 (0, 0)) := (hk5.block w3.heap.size (by simp; omega) (by simp; omega)).trans ((((Und.refl w4).alloc _).below.block w3.heap.size hsz4).trans hb4)
        haveI : LtW w4.heap.size w5 := LtW.of (World.block_lt_of_cell? _ _ hcell)
        have hq3 : q < 3 := by omega
        have f0 : w5.frozen? ⟨w3.heap.size, 0, none⟩ = false := Lib.frozen_of_heap hb5 0
        have f1 : w5.frozen? ⟨w3.heap.size, 1, none⟩ = false := Lib.frozen_of_heap hb5 1
        have f2 : w5.frozen? ⟨w3.heap.size, 2, none⟩ = false := Lib.frozen_of_heap hb5 2
        have g0 : w5.cell? ⟨w3.heap.size, 0, none⟩ = some (.int .i64 1) := Lib.cell_of_heap hb5 0
        have g1 : w5.cell? ⟨w3.heap.size, 1, none⟩ = some (.string t) := Lib.cell_of_heap hb5 1
        have g2 : w5.cell? ⟨w3.heap.size, 2, none⟩ = some (.int .i64 0) := Lib.cell_of_heap hb5 2
        haveI : LtW w3.heap.size w5 := LtW.of (lt_of_heap hb5)
        have hob : (Value.slice A9 f.length c9).ownBlock ≠ some w3.heap.size := fun e => by have := hlt3 _ e; omega
        have hobp : (Value.slice A10 op.length c10).ownBlock ≠ some w3.heap.size := fun e => by have := hlt3p _ e; omega
        have hkey : ∀ W, W = ((w5.setCell ⟨w3.heap.size, 0, none⟩ (.int .i64 2)).setCell ⟨w3.heap.size, 1, none⟩ (.string u)).setCell ⟨w3.heap.size, 2, none⟩ (.int .i64 ((c : Int) + 1)) → W.ownsRow w.heap.size 38 3 (.slice A9 f.length c9) f.length (cellsIt f) ∧ W.ownsRow w.heap.size 38 3 (.slice A10 op.length c10) op.length (cellsIt op) ∧ GenP W B g (P + 1 + 9 * (k + 1)) ∧ w.grownBy W (some g) ∧ W.heap.size = w5.heap.size ∧ W.heap[w3.heap.size]? = some (Obj.cells #[.int .i64 2, .string u, .int .i64 ((c : Int) + 1)] 38 (0, 0)) := by
          intro W hW
          subst hW
          have hBb : ∀ x, some w3.heap.size = some x → B ≤ x := fun x e => by cases e; omega
          refine ⟨own_set (own_set (own_set HO5.out hob) hob) hob, own_set (own_set (own_set HP5.out hobp) hobp) hobp, ?_, gb_setCell (gb_setCell (gb_setCell HK5.out _ _ (.inr (by show w.heap.size ≤ w3.heap.size; omega))) _ _ (.inr (by show w.heap.size ≤ w3.heap.size; omega))) _ _ (.inr (by show w.heap.size ≤ w3.heap.size; omega)), by simp, heap_setCell_same _ w3.heap.size 2 _ _ _ (heap_setCell_same _ w3.heap.size 1 _ _ _ (heap_setCell_same w5 w3.heap.size 0 _ _ _ hb5))⟩
          exact (((HG5.out.gb (gb_set w5 ⟨w3.heap.size, 0, none⟩ _) hBb).gb (gb_set _ ⟨w3.heap.size, 1, none⟩ _) hBb).gb (gb_set _ ⟨w3.heap.size, 2, none⟩ _) hBb).le (by omega)
        have HKEY := hid (hkey _ rfl)
        have hne5 := HKEY.out.2.2.1.lt.2
        clear hG5 hk5 HG4 HK4 HO4 HP4 hkey hu hq
        go_wp2_with (at_builtin; refine wpList_append_own _ rfl _ _ 22 rfl w.heap.size 38 i0 (.agg #[.int .i64 0, .string ⟨#[]⟩, .int .i64 0]) 3 32 Tryz.underlying22 hi hz0 hz1 hz2 rfl (by decide) (.slice A10 op.length c10) op.length _ rfl (HKEY.out.2.1.alloc _) _ 1 1 [.int .i64 2, .string u, .int .i64 ((c : Int) + 1)] rfl rfl ?_ (item_one _ _ _) (by unfold maxLen; omega) (by omega) ?_ ?_)
        · exact side3b _ _ _ _ _ _ (by simp)
        · have := HKEY.out.2.2.2.1.size; simp at this ⊢; omega
        intro v' w6 hown' hgrow _
        have hwk := HKEY.out.2.2.2.1.size
        have hwk2 := HKEY.out.2.2.2.2.1
        have hsz5 := lt_of_heap hb5
        have hrow : ∀ x, (Value.slice A10 op.length c10).ownBlock = some x → w.heap.size ≤ x := fun x hx => owns_block HKEY.out.2.1 x hx
        have ho9 := (HKEY.out.1.alloc (.cells #[.int .i64 2, .string u, .int .i64 ((c : Int) + 1)] 38)).kept hgrow HD.out
        have hb6 : w6.heap[w3.heap.size]? = some (Obj.cells #[.int .i64 2, .string u, .int .i64 ((c : Int) + 1)] 38 (0, 0)) := (hgrow.block w3.heap.size (by simp; omega) (fun e => hobp e.symm)).trans ((((Und.refl _).alloc _).below.block w3.heap.size (by simp; omega)).trans HKEY.out.2.2.2.2.2)
        have ho10 : w6.ownsRow w.heap.size 38 3 v' (op ++ [((2 : Int), u.data.toList, (c : Int) + 1)]).length (cellsIt (op ++ [((2 : Int), u.data.toList, (c : Int) + 1)])) := by
          rw [cellsIt_snoc]
          simp only [ba_eta, List.length_append, List.length_cons, List.length_nil]
          exact hown'
        have hg6 : GenP w6 B g (P + 1 + 9 * (k + 1)) := (HKEY.out.2.2.1.und ((Und.refl _).alloc _)).gb hgrow (fun x e => Nat.le_trans hB (hrow x e))
        have hk6 : w.grownBy w6 (some g) := gb_trans (gb_und HKEY.out.2.2.2.1 ((Und.refl _).alloc _)) hgrow (fun x e => .inr (hrow x e))
        have c0 : w6.cell? ⟨w3.heap.size, 0, none⟩ = some (.int .i64 2) := Lib.cell_of_heap hb6 0
        have c1 : w6.cell? ⟨w3.heap.size, 1, none⟩ = some (.string u) := Lib.cell_of_heap hb6 1
        have c2 : w6.cell? ⟨w3.heap.size, 2, none⟩ = some (.int .i64 ((c : Int) + 1)) := Lib.cell_of_heap hb6 2
        haveI : LtW w3.heap.size w6 := LtW.of (lt_of_heap hb6)
        obtain ⟨Av, cv, rfl, _, _, _⟩ := own_slice' ho10
        have HO9 := hid ho9
        have HO10 := hid ho10
        have HG6 := hid hg6
        have HK6 := hid hk6
        have hzz := hk6.size
        clear hown' hgrow ho9 ho10 hg6 hk6 hb6 hrow HKEY f0 f1 f2 g0 g1 g2 hcell
        go_wp2_with fail
        refine (HCAT.out _ _ (2, u.data.toList, (c : Int) + 1) ?_ ?_ ?_).mono ?_
        · exact (items_own HO9.out rfl).und ((Und.refl _).alloc _)
        · rw [← ba_eta u]; exact items_boxi _ _ _ _ _ (by simp) (by rw [World.cell?_alloc_at _ _ _ _ (by simp)]; rfl) (by rw [World.cell?_alloc_at _ _ _ _ (by simp)]; rfl) (by rw [World.cell?_alloc_at _ _ _ _ (by simp)]; rfl)
        · rw [tot_snoc]; simp; omega
        rintro e w7 ⟨v7, rfl, ho7, hu7⟩
        have hrel := FIN.out (2, u.data.toList, (c : Int) + 1) v7 _ _ w7 (op ++ [((2 : Int), u.data.toList, (c : Int) + 1)]) (c + 1) (.int .i64 ((c : Int) + 1)) rfl (HGN.out.opened _ hun) (by simp; omega) (by simp) (by omega) ho7 (HO10.out.alloc _) hu7 (by simp; omega) ((HG6.out.und ((Und.refl _).alloc _)).und hu7) (gb_und HK6.out (((Und.refl _).alloc _).trans hu7))
        have HREL := hid hrel
        clear hrel ho7 hu7
        go_wp2
        exact ⟨by have h := HREL.out; simp only [List.length_append, List.length_cons, List.length_nil, Nat.zero_add] at h; exact h, by simp [intOf]; omega⟩
      · subst h
        clear hr8 d0 d1 d2
        go_wp2_with fail
        refine (next_gen B g _ 3 _ (HG4.out.und ((Und.refl _).alloc (.cells #[.string ⟨#[98]⟩, .string ⟨#[105]⟩, .string ⟨#[97, 32, 104, 61, 49]⟩] 9))) (by omega) (by omega) (by omega)).mono ?_
        rintro e w5 ⟨q, rfl, hq, hG5, hk5⟩
        obtain ⟨u, hu, hus, hun⟩ : ∃ u : ByteArray, (#[.string ⟨#[98]⟩, .string ⟨#[105]⟩, .string ⟨#[97, 32, 104, 61, 49]⟩] : Array Value)[q]? = some (.string u) ∧ u.size ≤ 5 ∧ u.data.toList ∈ St.tg2 := by
          rcases (show q = 0 ∨ q = 1 ∨ q = 2 by omega) with h | h | h <;> subst h <;> exact ⟨_, rfl, by decide, by decide⟩
        have hcell := lit_cell w4 w5 _ _ B g hk5 hgB (by omega) q _ hu
        have HG5 := hid hG5
        have HK5 := hid (gb_trans (gb_und HK4.out ((Und.refl _).alloc (.cells #[.string ⟨#[98]⟩, .string ⟨#[105]⟩, .string ⟨#[97, 32, 104, 61, 49]⟩] 9))) hk5 (fun _ e => .inl e))
        have HO5 := hid (own_gb (HO4.out.alloc (.cells #[.string ⟨#[98]⟩, .string ⟨#[105]⟩, .string ⟨#[97, 32, 104, 61, 49]⟩] 9)) hk5 (by omega))
        have HP5 := hid (own_gb (HP4.out.alloc (.cells #[.string ⟨#[98]⟩, .string ⟨#[105]⟩, .string ⟨#[97, 32, 104, 61, 49]⟩] 9)) hk5 (by omega))
        have hb5 : w5.heap[w3.heap.size]? = some (Obj.cells #[.int .i64 1, .string t, .int .i64 0] 38 (0, 0)) := (hk5.block w3.heap.size (by simp; omega) (by simp; omega)).trans ((((Und.refl w4).alloc _).below.block w3.heap.size hsz4).trans hb4)
        haveI : LtW w4.heap.size w5 := LtW.of (World.block_lt_of_cell? _ _ hcell)
        have hq3 : q < 3 := by omega
        have f0 : w5.frozen? ⟨w3.heap.size, 0, none⟩ = false := Lib.frozen_of_heap hb5 0
        have f1 : w5.frozen? ⟨w3.heap.size, 1, none⟩ = false := Lib.frozen_of_heap hb5 1
        have f2 : w5.frozen? ⟨w3.heap.size, 2, none⟩ = false := Lib.frozen_of_heap hb5 2
        have g0 : w5.cell? ⟨w3.heap.size, 0, none⟩ = some (.int .i64 1) := Lib.cell_of_heap hb5 0
        have g1 : w5.cell? ⟨w3.heap.size, 1, none⟩ = some (.string t) := Lib.cell_of_heap hb5 1
        have g2 : w5.cell? ⟨w3.heap.size, 2, none⟩ = some (.int .i64 0) := Lib.cell_of_heap hb5 2
        haveI : LtW w3.heap.size w5 := LtW.of (lt_of_heap hb5)
        have hob : (Value.slice A9 f.length c9).ownBlock ≠ some w3.heap.size := fun e => by have := hlt3 _ e; omega
        have hobp : (Value.slice A10 op.length c10).ownBlock ≠ some w3.heap.size := fun e => by have := hlt3p _ e; omega
        have hkey : ∀ W, W = ((w5.setCell ⟨w3.heap.size, 0, none⟩ (.int .i64 2)).setCell ⟨w3.heap.size, 1, none⟩ (.string u)).setCell ⟨w3.heap.size, 2, none⟩ (.int .i64 ((c : Int) + 1)) → W.ownsRow w.heap.size 38 3 (.slice A9 f.length c9) f.length (cellsIt f) ∧ W.ownsRow w.heap.size 38 3 (.slice A10 op.length c10) op.length (cellsIt op) ∧ GenP W B g (P + 1 + 9 * (k + 1)) ∧ w.grownBy W (some g) ∧ W.heap.size = w5.heap.size ∧ W.heap[w3.heap.size]? = some (Obj.cells #[.int .i64 2, .string u, .int .i64 ((c : Int) + 1)] 38 (0, 0)) := by
          intro W hW
          subst hW
          have hBb : ∀ x, some w3.heap.size = some x → B ≤ x := fun x e => by cases e; omega
          refine ⟨own_set (own_set (own_set HO5.out hob) hob) hob, own_set (own_set (own_set HP5.out hobp) hobp) hobp, ?_, gb_setCell (gb_setCell (gb_setCell HK5.out _ _ (.inr (by show w.heap.size ≤ w3.heap.size; omega))) _ _ (.inr (by show w.heap.size ≤ w3.heap.size; omega))) _ _ (.inr (by show w.heap.size ≤ w3.heap.size; omega)), by simp, heap_setCell_same _ w3.heap.size 2 _ _ _ (heap_setCell_same _ w3.heap.size 1 _ _ _ (heap_setCell_same w5 w3.heap.size 0 _ _ _ hb5))⟩
          exact (((HG5.out.gb (gb_set w5 ⟨w3.heap.size, 0, none⟩ _) hBb).gb (gb_set _ ⟨w3.heap.size, 1, none⟩ _) hBb).gb (gb_set _ ⟨w3.heap.size, 2, none⟩ _) hBb).le (by omega)
        have HKEY := hid (hkey _ rfl)
        have hne5 := HKEY.out.2.2.1.lt.2
        clear hG5 hk5 HG4 HK4 HO4 HP4 hkey hu hq
        go_wp2_with (at_builtin; refine wpList_append_own _ rfl _ _ 22 rfl w.heap.size 38 i0 (.agg #[.int .i64 0, .string ⟨#[]⟩, .int .i64 0]) 3 32 Tryz.underlying22 hi hz0 hz1 hz2 rfl (by decide) (.slice A10 op.length c10) op.length _ rfl (HKEY.out.2.1.alloc _) _ 1 1 [.int .i64 2, .string u, .int .i64 ((c : Int) + 1)] rfl rfl ?_ (item_one _ _ _) (by unfold maxLen; omega) (by omega) ?_ ?_)
        · exact side3b _ _ _ _ _ _ (by simp)
        · have := HKEY.out.2.2.2.1.size; simp at this ⊢; omega
        intro v' w6 hown' hgrow _
        have hwk := HKEY.out.2.2.2.1.size
        have hwk2 := HKEY.out.2.2.2.2.1
        have hsz5 := lt_of_heap hb5
        have hrow : ∀ x, (Value.slice A10 op.length c10).ownBlock = some x → w.heap.size ≤ x := fun x hx => owns_block HKEY.out.2.1 x hx
        have ho9 := (HKEY.out.1.alloc (.cells #[.int .i64 2, .string u, .int .i64 ((c : Int) + 1)] 38)).kept hgrow HD.out
        have hb6 : w6.heap[w3.heap.size]? = some (Obj.cells #[.int .i64 2, .string u, .int .i64 ((c : Int) + 1)] 38 (0, 0)) := (hgrow.block w3.heap.size (by simp; omega) (fun e => hobp e.symm)).trans ((((Und.refl _).alloc _).below.block w3.heap.size (by simp; omega)).trans HKEY.out.2.2.2.2.2)
        have ho10 : w6.ownsRow w.heap.size 38 3 v' (op ++ [((2 : Int), u.data.toList, (c : Int) + 1)]).length (cellsIt (op ++ [((2 : Int), u.data.toList, (c : Int) + 1)])) := by
          rw [cellsIt_snoc]
          simp only [ba_eta, List.length_append, List.length_cons, List.length_nil]
          exact hown'
        have hg6 : GenP w6 B g (P + 1 + 9 * (k + 1)) := (HKEY.out.2.2.1.und ((Und.refl _).alloc _)).gb hgrow (fun x e => Nat.le_trans hB (hrow x e))
        have hk6 : w.grownBy w6 (some g) := gb_trans (gb_und HKEY.out.2.2.2.1 ((Und.refl _).alloc _)) hgrow (fun x e => .inr (hrow x e))
        have c0 : w6.cell? ⟨w3.heap.size, 0, none⟩ = some (.int .i64 2) := Lib.cell_of_heap hb6 0
        have c1 : w6.cell? ⟨w3.heap.size, 1, none⟩ = some (.string u) := Lib.cell_of_heap hb6 1
        have c2 : w6.cell? ⟨w3.heap.size, 2, none⟩ = some (.int .i64 ((c : Int) + 1)) := Lib.cell_of_heap hb6 2
        haveI : LtW w3.heap.size w6 := LtW.of (lt_of_heap hb6)
        obtain ⟨Av, cv, rfl, _, _, _⟩ := own_slice' ho10
        have HO9 := hid ho9
        have HO10 := hid ho10
        have HG6 := hid hg6
        have HK6 := hid hk6
        have hzz := hk6.size
        clear hown' hgrow ho9 ho10 hg6 hk6 hb6 hrow HKEY f0 f1 f2 g0 g1 g2 hcell
        go_wp2_with fail
        refine (HCAT.out _ _ (2, u.data.toList, (c : Int) + 1) ?_ ?_ ?_).mono ?_
        · exact (items_own HO9.out rfl).und ((Und.refl _).alloc _)
        · rw [← ba_eta u]; exact items_boxi _ _ _ _ _ (by simp) (by rw [World.cell?_alloc_at _ _ _ _ (by simp)]; rfl) (by rw [World.cell?_alloc_at _ _ _ _ (by simp)]; rfl) (by rw [World.cell?_alloc_at _ _ _ _ (by simp)]; rfl)
        · rw [tot_snoc]; simp; omega
        rintro e w7 ⟨v7, rfl, ho7, hu7⟩
        have hrel := FIN.out (2, u.data.toList, (c : Int) + 1) v7 _ _ w7 (op ++ [((2 : Int), u.data.toList, (c : Int) + 1)]) (c + 1) (.int .i64 ((c : Int) + 1)) rfl (HGN.out.opened _ hun) (by simp; omega) (by simp) (by omega) ho7 (HO10.out.alloc _) hu7 (by simp; omega) ((HG6.out.und ((Und.refl _).alloc _)).und hu7) (gb_und HK6.out (((Und.refl _).alloc _).trans hu7))
        have HREL := hid hrel
        clear hrel ho7 hu7
        go_wp2
        exact ⟨by have h := HREL.out; simp only [List.length_append, List.length_cons, List.length_nil, Nat.zero_add] at h; exact h, by simp [intOf]; omega⟩
      · subst h
        clear hr8
        by_cases hop : op.length = 0
        · have y1 : ¬ (0 : Int) ≤ (op.length : Int) - 1 := by omega
          have hop2 : op.length ≤ 0 := by omega
          clear hop
          have hb5 := hb4
          clear d0 d1 d2 hb4
          have f0 : w4.frozen? ⟨w3.heap.size, 0, none⟩ = false := Lib.frozen_of_heap hb5 0
          have f1 : w4.frozen? ⟨w3.heap.size, 1, none⟩ = false := Lib.frozen_of_heap hb5 1
          have f2 : w4.frozen? ⟨w3.heap.size, 2, none⟩ = false := Lib.frozen_of_heap hb5 2
          have g0 : w4.cell? ⟨w3.heap.size, 0, none⟩ = some (.int .i64 1) := Lib.cell_of_heap hb5 0
          have g1 : w4.cell? ⟨w3.heap.size, 1, none⟩ = some (.string t) := Lib.cell_of_heap hb5 1
          have g2 : w4.cell? ⟨w3.heap.size, 2, none⟩ = some (.int .i64 0) := Lib.cell_of_heap hb5 2
          haveI : LtW w3.heap.size w4 := LtW.of (lt_of_heap hb5)
          have hob : (Value.slice A9 f.length c9).ownBlock ≠ some w3.heap.size := fun e => by have := hlt3 _ e; omega
          have hobp : (Value.slice A10 op.length c10).ownBlock ≠ some w3.heap.size := fun e => by have := hlt3p _ e; omega
          have hkey : ∀ W, W = ((w4.setCell ⟨w3.heap.size, 0, none⟩ (.int .i64 3)).setCell ⟨w3.heap.size, 1, none⟩ (.string ⟨#[98]⟩)).setCell ⟨w3.heap.size, 2, none⟩ (.int .i64 ((c : Int) + 1)) → W.ownsRow w.heap.size 38 3 (.slice A9 f.length c9) f.length (cellsIt f) ∧ W.ownsRow w.heap.size 38 3 (.slice A10 op.length c10) op.length (cellsIt op) ∧ GenP W B g (P + 1 + 9 * (k + 1)) ∧ w.grownBy W (some g) ∧ W.heap.size = w4.heap.size ∧ W.heap[w3.heap.size]? = some (Obj.cells #[.int .i64 3, .string ⟨#[98]⟩, .int .i64 ((c : Int) + 1)] 38 (0, 0)) := by
            intro W hW
            subst hW
            have hBb : ∀ x, some w3.heap.size = some x → B ≤ x := fun x e => by cases e; omega
            refine ⟨own_set (own_set (own_set HO4.out hob) hob) hob, own_set (own_set (own_set HP4.out hobp) hobp) hobp, ?_, gb_setCell (gb_setCell (gb_setCell HK4.out _ _ (.inr (by show w.heap.size ≤ w3.heap.size; omega))) _ _ (.inr (by show w.heap.size ≤ w3.heap.size; omega))) _ _ (.inr (by show w.heap.size ≤ w3.heap.size; omega)), by simp, heap_setCell_same _ w3.heap.size 2 _ _ _ (heap_setCell_same _ w3.heap.size 1 _ _ _ (heap_setCell_same w4 w3.heap.size 0 _ _ _ hb5))⟩
            exact (((HG4.out.gb (gb_set w4 ⟨w3.heap.size, 0, none⟩ _) hBb).gb (gb_set _ ⟨w3.heap.size, 1, none⟩ _) hBb).gb (gb_set _ ⟨w3.heap.size, 2, none⟩ _) hBb).le (by omega)
          have HKEY := hid (hkey _ rfl)
          have hne5 := HKEY.out.2.2.1.lt.2
          clear hkey
          go_wp2_with fail
          refine (HCAT.out _ _ (3, [98], (c : Int) + 1) ?_ ?_ ?_).mono ?_
          · exact (items_own HKEY.out.1 rfl).und ((Und.refl _).alloc _)
          · exact items_boxi _ _ _ _ _ (by simp) (by rw [World.cell?_alloc_at _ _ _ _ (by simp)]; rfl) (by rw [World.cell?_alloc_at _ _ _ _ (by simp)]; rfl) (by rw [World.cell?_alloc_at _ _ _ _ (by simp)]; rfl)
          · rw [tot_snoc]; simp; omega
          rintro e w7 ⟨v7, rfl, ho7, hu7⟩
          have hrel := FIN.out (3, [98], (c : Int) + 1) v7 _ _ w7 op (c + 1) (.int .i64 ((c : Int) + 1)) rfl (HGN.out.stray rfl) (by simp) (by omega) (by omega) ho7 (HKEY.out.2.1.alloc _) hu7 (by have := HKEY.out.2.2.2.1.size; simp at this ⊢; omega) ((HKEY.out.2.2.1.und ((Und.refl _).alloc _)).und hu7) (gb_und HKEY.out.2.2.2.1 (((Und.refl _).alloc _).trans hu7))
          have HREL := hid hrel
          clear hrel ho7 hu7
          go_wp2
          exact ⟨HREL.out, by simp [intOf]; omega⟩
        · have y1 : (0 : Int) ≤ (op.length : Int) - 1 := by omega
          clear d0 d1 d2
          go_wp2_with fail
          refine (next_gen B g _ _ _ HG4.out (by omega) ?_ ?_).mono ?_
          · omega
          · omega
          rintro e w5 ⟨q, rfl, hq, hG5, hk5⟩
          have hq2 : q < op.length := by omega
          have HG5 := hid hG5
          have HK5 := hid (gb_trans HK4.out hk5 (fun _ e => .inl e))
          have HO5 := hid (own_gb HO4.out hk5 (by omega))
          have HP5 := hid (own_gb HP4.out hk5 (by omega))
          have hb5 : w5.heap[w3.heap.size]? = some (Obj.cells #[.int .i64 1, .string t, .int .i64 0] 38 (0, 0)) := (hk5.block w3.heap.size (by omega) (by simp; omega)).trans hb4
          obtain ⟨b10, off10, e10, hb10, hc10⟩ := (items_own HP5.out rfl) (by omega)
          subst e10
          obtain ⟨p0, p1, p2⟩ := hc10 q hq2
          have hsm := (HGN.out.small op[q] (List.getElem_mem hq2)).1
          have hgen := St.GenT.closed (ns := false) q hq2 (fun e => by cases e) HGN.out
          generalize op[q] = y at p0 p1 p2 hsm hgen
          obtain ⟨yk, yt, yi⟩ := y
          simp only at p0 p1 p2 hsm hgen
          have HGEN := hid hgen
          clear hc10 hgen hG5 hk5 HG4 HK4 HO4 HP4 hb4
          have hnl := St.name_le' yt
          go_wp2_with fail
          refine wp_region_facts (fun a b => a.grownBy b (some w3.heap.size)) (fun L W => if L 12 = true then ∃ W0, Und w5 W0 ∧ W = ((W0.setCell ⟨w3.heap.size, 0, none⟩ (.int .i64 3)).setCell ⟨w3.heap.size, 1, none⟩ (.string ⟨(St.nameOf yt).toArray⟩)).setCell ⟨w3.heap.size, 2, none⟩ (.int .i64 yi) else Und w5 W) [fun v _ => v = .slice (some ⟨b10, off10, none⟩) op.length c10, fun v _ => v = .int .i64 q, fun v _ => v = .pointer (some ⟨b10, off10 + q * 3, none⟩), fun v _ => v = .pointer (some ⟨b10, off10 + q * 3 + 1, none⟩), fun v _ => v = .string ⟨yt.toArray⟩, fun v _ => v = .string ⟨(St.nameOf yt).toArray⟩, fun v _ => v = .slice (some ⟨b10, off10, none⟩) op.length c10, fun v _ => v = .int .i64 q, fun v _ => v = .pointer (some ⟨b10, off10 + q * 3, none⟩), fun v _ => v = .pointer (some ⟨b10, off10 + q * 3 + 2, none⟩), fun v _ => v = .int .i64 yi, fun v _ => v = .agg #[.int .i64 3, .string ⟨(St.nameOf yt).toArray⟩, .int .i64 yi], noFact] (fun a => gb_refl a _) (fun a b c h k => gb_trans h k (fun _ e => .inl e)) (by kernel_rfl) (by rfl) (by kernel_rfl) (by kernel_rfl) ?frT5 ?hfr ?hI ?hob ?hend
          case hfr =>
            intro ρ
            simp only [putAll, Act.put, List.setIfInBounds_toArray, List.set_cons_succ, List.set_cons_zero, Nat.zero_add, Nat.reduceAdd]
            exact rfl
          case hI => exact (by repeat (first | exact Und.refl _ | assumption | refine Und.under ?_ _ | refine Und.alloc ?_ _ | refine Und.drew ?_ | refine Und.drewN ?_ _))
          case hob =>
            refine ObsF.cons (fun ρ L W hR hI hL hD hO hF K hK => ?_) ?_
            · skip
              clear hF hD hO
              simp only [Act.put, List.setIfInBounds_toArray, List.set_cons_succ, List.set_cons_zero] at hK ⊢
              go_simp
              refine hK _ _ (gb_refl _ _) (by simpa [updB] using hI) (fun W2 h2 => ?_)
              rfl
            refine ObsF.cons (fun ρ L W hR hI hL hD hO hF K hK => ?_) ?_
            · skip
              clear hF hD hO
              simp only [Act.put, List.setIfInBounds_toArray, List.set_cons_succ, List.set_cons_zero] at hK ⊢
              go_simp
              refine hK _ _ (gb_refl _ _) (by simpa [updB] using hI) (fun W2 h2 => ?_)
              rfl
            refine ObsF.cons (fun ρ L W hR hI hL hD hO hF K hK => ?_) ?_
            · skip
              have f0 := allF_get hF (j := 0) (by decide)
              have f1 := allF_get hF (j := 1) (by decide)
              clear hF hD hO
              simp only [Act.put, List.setIfInBounds_toArray, List.set_cons_succ, List.set_cons_zero] at hK ⊢
              have e0 : ρ 0 = .slice (some ⟨b10, off10, none⟩) op.length c10 := f0
              have e1 : ρ 1 = .int .i64 q := f1
              rw [e0, e1] at hK ⊢
              have z1 : (q : Int) < (op.length : Int) := by omega
              go_simp
              refine hK _ _ (gb_refl _ _) (by simpa [updB] using hI) (fun W2 h2 => ?_)
              rfl
            refine ObsF.cons (fun ρ L W hR hI hL hD hO hF K hK => ?_) ?_
            · skip
              have f2 := allF_get hF (j := 2) (by decide)
              clear hF hD hO
              simp only [Act.put, List.setIfInBounds_toArray, List.set_cons_succ, List.set_cons_zero] at hK ⊢
              have e2 : ρ 2 = .pointer (some ⟨b10, off10 + q * 3, none⟩) := f2
              rw [e2] at hK ⊢
              go_simp
              refine hK _ _ (gb_refl _ _) (by simpa [updB] using hI) (fun W2 h2 => ?_)
              rfl
            refine ObsF.cons (fun ρ L W hR hI hL hD hO hF K hK => ?_) ?_
            · skip
              have f3 := allF_get hF (j := 3) (by decide)
              have h12 : L 12 = false := hD.not (p := 12) rfl (by decide) hL
              have hI5 : Und w5 W := by simpa [h12] using hI
              clear hF hD hO
              simp only [Act.put, List.setIfInBounds_toArray, List.set_cons_succ, List.set_cons_zero] at hK ⊢
              have e3 : ρ 3 = .pointer (some ⟨b10, off10 + q * 3 + 1, none⟩) := f3
              rw [e3] at hK ⊢
              have hc := (hI5.cell (p := ⟨b10, off10 + q * 3 + 1, none⟩) hb10).trans p1
              haveI : LtW b10 W := LtW.of (Nat.lt_of_lt_of_le hb10 hI5.size)
              go_simp
              refine hK _ _ (gb_refl _ _) (by simpa [updB] using hI) (fun W2 h2 => ?_)
              rfl
            refine ObsF.cons (fun ρ L W hR hI hL hD hO hF K hK => ?_) ?_
            · skip
              have f4 := allF_get hF (j := 4) (by decide)
              have h12 : L 12 = false := hD.not (p := 12) rfl (by decide) hL
              have hI5 : Und w5 W := by simpa [h12] using hI
              clear hF hD hO
              simp only [Act.put, List.setIfInBounds_toArray, List.set_cons_succ, List.set_cons_zero] at hK ⊢
              have e4 : ρ 4 = .string ⟨yt.toArray⟩ := f4
              rw [e4] at hK ⊢
              refine step_callF2 (o := ⟨some 86, _, _, _, _, _⟩) rfl 26 #[.string ⟨yt.toArray⟩] _ (rname_u yt W (by omega)) ?_ ?_
              · go_simp
              rintro e W2 ⟨rfl, hu⟩
              exact ⟨_, rfl, hK _ _ (hu.gb _) (by simpa [updB, h12] using hI5.trans hu) (fun W3 h3 => rfl)⟩
            refine ObsF.cons (fun ρ L W hR hI hL hD hO hF K hK => ?_) ?_
            · skip
              clear hF hD hO
              simp only [Act.put, List.setIfInBounds_toArray, List.set_cons_succ, List.set_cons_zero] at hK ⊢
              go_simp
              refine hK _ _ (gb_refl _ _) (by simpa [updB] using hI) (fun W2 h2 => ?_)
              rfl
            refine ObsF.cons (fun ρ L W hR hI hL hD hO hF K hK => ?_) ?_
            · skip
              clear hF hD hO
              simp only [Act.put, List.setIfInBounds_toArray, List.set_cons_succ, List.set_cons_zero] at hK ⊢
              go_simp
              refine hK _ _ (gb_refl _ _) (by simpa [updB] using hI) (fun W2 h2 => ?_)
              rfl
            refine ObsF.cons (fun ρ L W hR hI hL hD hO hF K hK => ?_) ?_
            · skip
              have f6 := allF_get hF (j := 6) (by decide)
              have f7 := allF_get hF (j := 7) (by decide)
              clear hF hD hO
              simp only [Act.put, List.setIfInBounds_toArray, List.set_cons_succ, List.set_cons_zero] at hK ⊢
              have e6 : ρ 6 = .slice (some ⟨b10, off10, none⟩) op.length c10 := f6
              have e7 : ρ 7 = .int .i64 q := f7
              rw [e6, e7] at hK ⊢
              have z1 : (q : Int) < (op.length : Int) := by omega
              go_simp
              refine hK _ _ (gb_refl _ _) (by simpa [updB] using hI) (fun W2 h2 => ?_)
              rfl
            refine ObsF.cons (fun ρ L W hR hI hL hD hO hF K hK => ?_) ?_
            · skip
              have f8 := allF_get hF (j := 8) (by decide)
              clear hF hD hO
              simp only [Act.put, List.setIfInBounds_toArray, List.set_cons_succ, List.set_cons_zero] at hK ⊢
              have e8 : ρ 8 = .pointer (some ⟨b10, off10 + q * 3, none⟩) := f8
              rw [e8] at hK ⊢
              go_simp
              refine hK _ _ (gb_refl _ _) (by simpa [updB] using hI) (fun W2 h2 => ?_)
              rfl
            refine ObsF.cons (fun ρ L W hR hI hL hD hO hF K hK => ?_) ?_
            · skip
              have f9 := allF_get hF (j := 9) (by decide)
              have h12 : L 12 = false := hD.not (p := 12) rfl (by decide) hL
              have hI5 : Und w5 W := by simpa [h12] using hI
              clear hF hD hO
              simp only [Act.put, List.setIfInBounds_toArray, List.set_cons_succ, List.set_cons_zero] at hK ⊢
              have e9 : ρ 9 = .pointer (some ⟨b10, off10 + q * 3 + 2, none⟩) := f9
              rw [e9] at hK ⊢
              have hc := (hI5.cell (p := ⟨b10, off10 + q * 3 + 2, none⟩) hb10).trans p2
              haveI : LtW b10 W := LtW.of (Nat.lt_of_lt_of_le hb10 hI5.size)
              go_simp
              refine hK _ _ (gb_refl _ _) (by simpa [updB] using hI) (fun W2 h2 => ?_)
              rfl
            refine ObsF.cons (fun ρ L W hR hI hL hD hO hF K hK => ?_) ?_
            · skip
              have f5 := allF_get hF (j := 5) (by decide)
              have f10 := allF_get hF (j := 10) (by decide)
              clear hF hD hO
              simp only [Act.put, List.setIfInBounds_toArray, List.set_cons_succ, List.set_cons_zero] at hK ⊢
              have e5 : ρ 5 = .string ⟨(St.nameOf yt).toArray⟩ := f5
              have e10 : ρ 10 = .int .i64 yi := f10
              rw [e5, e10] at hK ⊢
              go_simp
              refine hK _ _ (gb_refl _ _) (by simpa [updB] using hI) (fun W2 h2 => ?_)
              rfl
            refine ObsF.cons (fun ρ L W hR hI hL hD hO hF K hK => ?_) ?_
            · skip
              have f11 := allF_get hF (j := 11) (by decide)
              have hI5 : Und w5 W := by simpa [hL] using hI
              clear hF hD hO
              simp only [Act.put, List.setIfInBounds_toArray, List.set_cons_succ, List.set_cons_zero] at hK ⊢
              have e11 : ρ 11 = .agg #[.int .i64 3, .string ⟨(St.nameOf yt).toArray⟩, .int .i64 yi] := f11
              rw [e11] at hK ⊢
              have hbW := (hI5.below.block w3.heap.size (lt_of_heap hb5)).trans hb5
              have f0 : W.frozen? ⟨w3.heap.size, 0, none⟩ = false := Lib.frozen_of_heap hbW 0
              have f1 : W.frozen? ⟨w3.heap.size, 1, none⟩ = false := Lib.frozen_of_heap hbW 1
              have f2 : W.frozen? ⟨w3.heap.size, 2, none⟩ = false := Lib.frozen_of_heap hbW 2
              have g0 : W.cell? ⟨w3.heap.size, 0, none⟩ = some (.int .i64 1) := Lib.cell_of_heap hbW 0
              have g1 : W.cell? ⟨w3.heap.size, 1, none⟩ = some (.string t) := Lib.cell_of_heap hbW 1
              have g2 : W.cell? ⟨w3.heap.size, 2, none⟩ = some (.int .i64 0) := Lib.cell_of_heap hbW 2
              haveI : LtW w3.heap.size W := LtW.of (lt_of_heap hbW)
              go_simp
              refine hK undef _ (gb_setCell (gb_setCell (gb_set _ ⟨w3.heap.size, 0, none⟩ _) ⟨w3.heap.size, 1, none⟩ _ (.inl rfl)) ⟨w3.heap.size, 2, none⟩ _ (.inl rfl)) (by simp only [updB, if_true]; exact ⟨W, hI5, rfl⟩) (fun _ _ => trivial)
            exact ObsF.nil
          case hend =>
            intro ρ L W hR hI hL hF
            have h12 : L 12 = true := hL 12 (by decide)
            rw [if_pos h12] at hI
            obtain ⟨w6, hu6, hW⟩ := hI
            have HO6 := hid (own_und hu6 HO5.out)
            have HP6 := hid (own_und hu6 HP5.out)
            have HG6 := hid (HG5.out.und hu6)
            have HK6 := hid (gb_und HK5.out hu6)
            have hb5 := (hu6.below.block w3.heap.size (lt_of_heap hb5)).trans hb5
            have hsz5 := lt_of_heap hb5
            clear hR hL hF h12
            have f0 : w6.frozen? ⟨w3.heap.size, 0, none⟩ = false := Lib.frozen_of_heap hb5 0
            have f1 : w6.frozen? ⟨w3.heap.size, 1, none⟩ = false := Lib.frozen_of_heap hb5 1
            have f2 : w6.frozen? ⟨w3.heap.size, 2, none⟩ = false := Lib.frozen_of_heap hb5 2
            have g0 : w6.cell? ⟨w3.heap.size, 0, none⟩ = some (.int .i64 1) := Lib.cell_of_heap hb5 0
            have g1 : w6.cell? ⟨w3.heap.size, 1, none⟩ = some (.string t) := Lib.cell_of_heap hb5 1
            have g2 : w6.cell? ⟨w3.heap.size, 2, none⟩ = some (.int .i64 0) := Lib.cell_of_heap hb5 2
            haveI : LtW w3.heap.size w6 := LtW.of (lt_of_heap hb5)
            have hob : (Value.slice A9 f.length c9).ownBlock ≠ some w3.heap.size := fun e => by have := hlt3 _ e; omega
            have hobp : (Value.slice (some ⟨b10, off10, none⟩) op.length c10).ownBlock ≠ some w3.heap.size := fun e => by have := hlt3p _ e; omega
            have hkey : ∀ W, W = ((w6.setCell ⟨w3.heap.size, 0, none⟩ (.int .i64 3)).setCell ⟨w3.heap.size, 1, none⟩ (.string ⟨(St.nameOf yt).toArray⟩)).setCell ⟨w3.heap.size, 2, none⟩ (.int .i64 yi) → W.ownsRow w.heap.size 38 3 (.slice A9 f.length c9) f.length (cellsIt f) ∧ W.ownsRow w.heap.size 38 3 (.slice (some ⟨b10, off10, none⟩) op.length c10) op.length (cellsIt op) ∧ GenP W B g (P + 1 + 9 * (k + 1)) ∧ w.grownBy W (some g) ∧ W.heap.size = w6.heap.size ∧ W.heap[w3.heap.size]? = some (Obj.cells #[.int .i64 3, .string ⟨(St.nameOf yt).toArray⟩, .int .i64 yi] 38 (0, 0)) := by
              intro W hW
              subst hW
              have hBb : ∀ x, some w3.heap.size = some x → B ≤ x := fun x e => by cases e; omega
              refine ⟨own_set (own_set (own_set HO6.out hob) hob) hob, own_set (own_set (own_set HP6.out hobp) hobp) hobp, ?_, gb_setCell (gb_setCell (gb_setCell HK6.out _ _ (.inr (by show w.heap.size ≤ w3.heap.size; omega))) _ _ (.inr (by show w.heap.size ≤ w3.heap.size; omega))) _ _ (.inr (by show w.heap.size ≤ w3.heap.size; omega)), by simp, heap_setCell_same _ w3.heap.size 2 _ _ _ (heap_setCell_same _ w3.heap.size 1 _ _ _ (heap_setCell_same w6 w3.heap.size 0 _ _ _ hb5))⟩
              exact (((HG6.out.gb (gb_set w6 ⟨w3.heap.size, 0, none⟩ _) hBb).gb (gb_set _ ⟨w3.heap.size, 1, none⟩ _) hBb).gb (gb_set _ ⟨w3.heap.size, 2, none⟩ _) hBb).le (by omega)
            have HKEY := hid (hkey W hW)
            have hne5 := HKEY.out.2.2.1.lt.2
            have hkz := HKEY.out.2.2.2.2.1
            have hkw := HKEY.out.2.2.2.1.size
            have hit := items_own HKEY.out.2.1 rfl
            have HIT1 := hid (items_take hit q)
            have hgen2 := HGEN.out
            obtain ⟨q1, hq1⟩ : ∃ q1, q1 = q + 1 := ⟨_, rfl⟩
            rw [← hq1] at hgen2
            have HGEN2 := hid hgen2
            clear hgen2
            obtain ⟨ox, hox, hit2⟩ : ∃ ox, (if c10 = q1 then (some ⟨b10, off10, none⟩ : Option Addr) else some ⟨b10, off10 + q1 * 3, none⟩) = some ⟨b10, ox, none⟩ ∧ ItemsAt W (some ⟨b10, ox, none⟩) (op.drop q1) := by
              by_cases hcq : c10 = q1
              · exact ⟨off10, if_pos hcq, fun h0 => by simp at h0; omega⟩
              · exact ⟨off10 + q1 * 3, if_neg hcq, items_drop hit q1⟩
            have HIT2 := hid hit2
            clear hit2
            have hw : IntKind.i64.wrap (q1 : Int) = (q1 : Int) := IntWalk.i64_in _ (by omega)
            have hw1 : (q : Int) + 1 = (q1 : Int) := by omega
            have hw2 : (0 : Int) ≤ (q1 : Int) := by omega
            have hw3 : (q1 : Int) ≤ (op.length : Int) := by omega
            have hw4 : q1 ≤ op.length := by omega
            have hqa : q + 1 ≤ q1 := by omega
            have hqb : q1 ≤ q + 1 := by omega
            clear hq1
            have hbW := HKEY.out.2.2.2.2.2
            have hl1 : (q : Int) ≤ (op.length : Int) := by omega
            have hl4 : (q : Int) ≤ (c10 : Int) := by omega
            have hl5 : (op.length : Int) ≤ (c10 : Int) := by omega
            haveI : LtW b10 W := LtW.of (by have := hu6.size; omega)
            clear hkey hW hb5 f0 f1 f2 g0 g1 g2 p0 p1 p2 hit hu6
            go_wp2_with fail
            refine wp_region_any (by kernel_rfl) ?_
            try (change wpAny _ _ _ _ _ _ _ (World.drew _))
            refine rg_norm2 (l' := #[false, false, false, false, false, false, false, false, false, false]) (by kernel_rfl) ?_
            refine wpAny_take (i := 0) (v := ?_) rfl (by kernel_rfl) (by kernel_rfl) (by kernel_rfl) (fun _ _ _ h => h) (Or.inl ⟨by rfl, ?_⟩) ?_
            rotate_left 1
            · (intro W9; go_simp; try with_reducible rfl)
            try go_simp
            refine rg_norm2 (l' := #[true, false, false, false, false, false, false, false, false, false]) (by kernel_rfl) ?_
            refine wpAny_take (i := 1) (v := ?_) rfl (by kernel_rfl) (by kernel_rfl) (by kernel_rfl) (fun _ _ _ h => h) (Or.inl ⟨by rfl, ?_⟩) ?_
            rotate_left 1
            · (intro W9; go_simp; try with_reducible rfl)
            try go_simp
            refine rg_norm2 (l' := #[true, true, false, false, false, false, false, false, false, false]) (by kernel_rfl) ?_
            refine wpAny_take (i := 2) (v := ?_) rfl (by kernel_rfl) (by kernel_rfl) (by kernel_rfl) (fun _ _ _ h => h) (Or.inl ⟨by rfl, ?_⟩) ?_
            rotate_left 1
            · (intro W9; go_simp; try with_reducible rfl)
            try go_simp
            refine rg_norm2 (l' := #[true, true, true, false, false, false, false, false, false, false]) (by kernel_rfl) ?_
            refine wpAny_take (i := 4) (v := ?_) rfl (by kernel_rfl) (by kernel_rfl) (by kernel_rfl) (fun _ _ _ h => h) (Or.inl ⟨by rfl, ?_⟩) ?_
            rotate_left 1
            · (intro W9; go_simp; try with_reducible rfl)
            try go_simp
            refine rg_norm2 (l' := #[true, true, true, false, true, false, false, false, false, false]) (by kernel_rfl) ?_
            refine wpAny_take (i := 5) (v := ?_) rfl (by kernel_rfl) (by kernel_rfl) (by kernel_rfl) (fun _ _ _ h => h) (Or.inl ⟨by rfl, ?_⟩) ?_
            rotate_left 1
            · (intro W9; go_simp; try with_reducible rfl)
            try go_simp
            refine rg_norm2 (l' := #[true, true, true, false, true, true, false, false, false, false]) (by kernel_rfl) ?_
            refine wpAny_take (i := 6) (v := ?_) rfl (by kernel_rfl) (by kernel_rfl) (by kernel_rfl) (fun _ _ _ h => h) (Or.inl ⟨by rfl, ?_⟩) ?_
            rotate_left 1
            · (intro W9; go_simp; try with_reducible rfl)
            try go_simp
            refine rg_norm2 (l' := #[true, true, true, false, true, true, true, false, false, false]) (by kernel_rfl) ?_
            refine wpAny_take (i := 7) (v := ?_) rfl (by kernel_rfl) (by kernel_rfl) (by kernel_rfl) (fun _ _ _ h => h) (Or.inl ⟨by rfl, ?_⟩) ?_
            rotate_left 1
            · (intro W9; go_simp; try with_reducible rfl)
            try go_simp
            refine rg_norm2 (l' := #[true, true, true, false, true, true, true, true, false, false]) (by kernel_rfl) ?_
            refine wpAny_ready (rs := [3]) (by kernel_rfl) (by simp) ?_
            refine AllReady.cons (o := ⟨some 96, _, _, _, _, _⟩) rfl (fun K hK => ?_) AllReady.nil
            refine step_append_items (o := ⟨some 96, _, _, _, _, _⟩) rfl _ _ rfl W.heap.size (.slice none 0 0) 0 [] rfl (World.ownsRow_nil _ _ _ _) ⟨b10, off10, none⟩ q c10 (op.take q) rfl (HIT1.out.und (Und.refl W).drew) (by simp; omega) (by omega) (by exact Nat.le_refl _) ?_
            intro v96 w8 ho8 hg8
            have hu8 : Und W w8 := ((Und.refl W).drew).grown hg8 (fun g e => by cases e)
            have HO8 := hid (show w8.ownsRow W.heap.size 38 3 v96 q (cellsIt (op.take q)) by simpa using ho8)
            have HU8 := hid hu8
            clear ho8 hg8 hu8
            try go_simp
            refine hK _ _ ?_
            clear hK K
            refine rg_norm2 (l' := #[true, true, true, true, true, true, true, true, false, false]) (by kernel_rfl) ?_
            refine wpAny_ready (rs := [8]) (by kernel_rfl) (by simp) ?_
            refine AllReady.cons (o := ⟨some 101, _, _, _, _, _⟩) rfl (fun K hK => ?_) AllReady.nil
            refine step_append_items (o := ⟨some 101, _, _, _, _, _⟩) rfl _ _ rfl W.heap.size v96 q (op.take q) rfl HO8.out ⟨b10, ox, none⟩ (op.length - q1) (c10 - q1) (op.drop q1) ?_ (HIT2.out.und HU8.out) (by simp) (by omega) HU8.out.size ?_
            · first | rfl | (go_simp; try rfl)
            intro v101 w9 ho9 hg9
            have hu9 : Und W w9 := HU8.out.grown hg9 (fun x e => owns_block HO8.out x e)
            have HO9 := hid ho9
            have HU9 := hid hu9
            clear ho9 hg9 hu9
            try go_simp
            refine hK _ _ ?_
            clear hK K
            refine rg_norm2 (l' := #[true, true, true, true, true, true, true, true, true, false]) (by kernel_rfl) ?_
            refine wpAny_take (i := 9) (v := ?_) rfl (by kernel_rfl) (by kernel_rfl) (by kernel_rfl) (fun _ _ _ h => h) (Or.inl ⟨by rfl, ?_⟩) ?_
            rotate_left 1
            · (intro W9; go_simp; try with_reducible rfl)
            try go_simp
            refine rg_norm2 (l' := #[true, true, true, true, true, true, true, true, true, true]) (by kernel_rfl) ?_
            refine wpAny_done (by kernel_rfl) ?_ _
            have hop2 : (op.take q ++ op.drop q1).length = op.length - 1 := by simp; omega
            have hop3 : q + (op.length - q1) = op.length - 1 := by omega
            have ho10 : w9.ownsRow W.heap.size 38 3 v101 (op.take q ++ op.drop q1).length (cellsIt (op.take q ++ op.drop q1)) := by
              have := HO9.out
              rw [hop3] at this
              rw [hop2]; exact this
            obtain ⟨Av, cv, rfl, _, _, _⟩ := own_slice' ho10
            have hb9 := (HU9.out.below.block w3.heap.size (lt_of_heap hbW)).trans hbW
            have c0 : w9.cell? ⟨w3.heap.size, 0, none⟩ = some (.int .i64 3) := Lib.cell_of_heap hb9 0
            have c1 : w9.cell? ⟨w3.heap.size, 1, none⟩ = some (.string ⟨(St.nameOf yt).toArray⟩) := Lib.cell_of_heap hb9 1
            have c2 : w9.cell? ⟨w3.heap.size, 2, none⟩ = some (.int .i64 yi) := Lib.cell_of_heap hb9 2
            haveI : LtW w3.heap.size w9 := LtW.of (lt_of_heap hb9)
            have h9s := HU9.out.size
            have HO10 := hid ho10
            clear ho10 hb9 HO9
            go_wp2_with fail
            refine (HCAT.out _ _ (3, St.nameOf yt, yi) ?_ ?_ ?_).mono ?_
            · exact ((items_own HKEY.out.1 rfl).und HU9.out).und ((Und.refl _).alloc _)
            · exact items_boxi _ _ _ _ _ (by simp) (by rw [World.cell?_alloc_at _ _ _ _ (by simp)]; rfl) (by rw [World.cell?_alloc_at _ _ _ _ (by simp)]; rfl) (by rw [World.cell?_alloc_at _ _ _ _ (by simp)]; rfl)
            · rw [tot_snoc]; simp; omega
            rintro e w7 ⟨v7, rfl, ho7, hu7⟩
            have hrel := FIN.out (3, St.nameOf yt, yi) v7 _ _ w7 (op.take q ++ op.drop q1) c _ rfl HGEN2.out (by show (St.nameOf yt).length ≤ 18; omega) (by omega) (by omega) ho7 ((own_low HO10.out (by omega)).alloc _) hu7 (by simp; omega) (((HKEY.out.2.2.1.und HU9.out).und ((Und.refl _).alloc _)).und hu7) (gb_und (gb_und HKEY.out.2.2.2.1 HU9.out) (((Und.refl _).alloc _).trans hu7))
            have HREL := hid hrel
            clear hrel ho7 hu7
            go_wp2
            exact ⟨by have h := HREL.out; rw [hop2] at h; exact h, by simp [intOf]; omega⟩
      · subst h
        clear hr8
        by_cases hop : op.length = 0
        · have y1 : ¬ (0 : Int) ≤ (op.length : Int) - 1 := by omega
          have hop2 : op.length ≤ 0 := by omega
          clear hop
          have hb5 := hb4
          clear d0 d1 d2 hb4
          have f0 : w4.frozen? ⟨w3.heap.size, 0, none⟩ = false := Lib.frozen_of_heap hb5 0
          have f1 : w4.frozen? ⟨w3.heap.size, 1, none⟩ = false := Lib.frozen_of_heap hb5 1
          have f2 : w4.frozen? ⟨w3.heap.size, 2, none⟩ = false := Lib.frozen_of_heap hb5 2
          have g0 : w4.cell? ⟨w3.heap.size, 0, none⟩ = some (.int .i64 1) := Lib.cell_of_heap hb5 0
          have g1 : w4.cell? ⟨w3.heap.size, 1, none⟩ = some (.string t) := Lib.cell_of_heap hb5 1
          have g2 : w4.cell? ⟨w3.heap.size, 2, none⟩ = some (.int .i64 0) := Lib.cell_of_heap hb5 2
          haveI : LtW w3.heap.size w4 := LtW.of (lt_of_heap hb5)
          have hob : (Value.slice A9 f.length c9).ownBlock ≠ some w3.heap.size := fun e => by have := hlt3 _ e; omega
          have hobp : (Value.slice A10 op.length c10).ownBlock ≠ some w3.heap.size := fun e => by have := hlt3p _ e; omega
          have hkey : ∀ W, W = ((w4.setCell ⟨w3.heap.size, 0, none⟩ (.int .i64 3)).setCell ⟨w3.heap.size, 1, none⟩ (.string ⟨#[98]⟩)).setCell ⟨w3.heap.size, 2, none⟩ (.int .i64 ((c : Int) + 1)) → W.ownsRow w.heap.size 38 3 (.slice A9 f.length c9) f.length (cellsIt f) ∧ W.ownsRow w.heap.size 38 3 (.slice A10 op.length c10) op.length (cellsIt op) ∧ GenP W B g (P + 1 + 9 * (k + 1)) ∧ w.grownBy W (some g) ∧ W.heap.size = w4.heap.size ∧ W.heap[w3.heap.size]? = some (Obj.cells #[.int .i64 3, .string ⟨#[98]⟩, .int .i64 ((c : Int) + 1)] 38 (0, 0)) := by
            intro W hW
            subst hW
            have hBb : ∀ x, some w3.heap.size = some x → B ≤ x := fun x e => by cases e; omega
            refine ⟨own_set (own_set (own_set HO4.out hob) hob) hob, own_set (own_set (own_set HP4.out hobp) hobp) hobp, ?_, gb_setCell (gb_setCell (gb_setCell HK4.out _ _ (.inr (by show w.heap.size ≤ w3.heap.size; omega))) _ _ (.inr (by show w.heap.size ≤ w3.heap.size; omega))) _ _ (.inr (by show w.heap.size ≤ w3.heap.size; omega)), by simp, heap_setCell_same _ w3.heap.size 2 _ _ _ (heap_setCell_same _ w3.heap.size 1 _ _ _ (heap_setCell_same w4 w3.heap.size 0 _ _ _ hb5))⟩
            exact (((HG4.out.gb (gb_set w4 ⟨w3.heap.size, 0, none⟩ _) hBb).gb (gb_set _ ⟨w3.heap.size, 1, none⟩ _) hBb).gb (gb_set _ ⟨w3.heap.size, 2, none⟩ _) hBb).le (by omega)
          have HKEY := hid (hkey _ rfl)
          have hne5 := HKEY.out.2.2.1.lt.2
          clear hkey
          go_wp2_with fail
          refine (HCAT.out _ _ (3, [98], (c : Int) + 1) ?_ ?_ ?_).mono ?_
          · exact (items_own HKEY.out.1 rfl).und ((Und.refl _).alloc _)
          · exact items_boxi _ _ _ _ _ (by simp) (by rw [World.cell?_alloc_at _ _ _ _ (by simp)]; rfl) (by rw [World.cell?_alloc_at _ _ _ _ (by simp)]; rfl) (by rw [World.cell?_alloc_at _ _ _ _ (by simp)]; rfl)
          · rw [tot_snoc]; simp; omega
          rintro e w7 ⟨v7, rfl, ho7, hu7⟩
          have hrel := FIN.out (3, [98], (c : Int) + 1) v7 _ _ w7 op (c + 1) (.int .i64 ((c : Int) + 1)) rfl (HGN.out.stray rfl) (by simp) (by omega) (by omega) ho7 (HKEY.out.2.1.alloc _) hu7 (by have := HKEY.out.2.2.2.1.size; simp at this ⊢; omega) ((HKEY.out.2.2.1.und ((Und.refl _).alloc _)).und hu7) (gb_und HKEY.out.2.2.2.1 (((Und.refl _).alloc _).trans hu7))
          have HREL := hid hrel
          clear hrel ho7 hu7
          go_wp2
          exact ⟨HREL.out, by simp [intOf]; omega⟩
        · have y1 : (0 : Int) ≤ (op.length : Int) - 1 := by omega
          clear d0 d1 d2
          go_wp2_with fail
          refine (next_gen B g _ _ _ HG4.out (by omega) ?_ ?_).mono ?_
          · omega
          · omega
          rintro e w5 ⟨q, rfl, hq, hG5, hk5⟩
          have hq2 : q < op.length := by omega
          have HG5 := hid hG5
          have HK5 := hid (gb_trans HK4.out hk5 (fun _ e => .inl e))
          have HO5 := hid (own_gb HO4.out hk5 (by omega))
          have HP5 := hid (own_gb HP4.out hk5 (by omega))
          have hb5 : w5.heap[w3.heap.size]? = some (Obj.cells #[.int .i64 1, .string t, .int .i64 0] 38 (0, 0)) := (hk5.block w3.heap.size (by omega) (by simp; omega)).trans hb4
          obtain ⟨b10, off10, e10, hb10, hc10⟩ := (items_own HP5.out rfl) (by omega)
          subst e10
          obtain ⟨p0, p1, p2⟩ := hc10 q hq2
          have hsm := (HGN.out.small op[q] (List.getElem_mem hq2)).1
          have hgen := St.GenT.closed (ns := false) q hq2 (fun e => by cases e) HGN.out
          generalize op[q] = y at p0 p1 p2 hsm hgen
          obtain ⟨yk, yt, yi⟩ := y
          simp only at p0 p1 p2 hsm hgen
          have HGEN := hid hgen
          clear hc10 hgen hG5 hk5 HG4 HK4 HO4 HP4 hb4
          have hnl := St.name_le' yt
          go_wp2_with fail
          refine wp_region_facts (fun a b => a.grownBy b (some w3.heap.size)) (fun L W => if L 12 = true then ∃ W0, Und w5 W0 ∧ W = ((W0.setCell ⟨w3.heap.size, 0, none⟩ (.int .i64 3)).setCell ⟨w3.heap.size, 1, none⟩ (.string ⟨(St.nameOf yt).toArray⟩)).setCell ⟨w3.heap.size, 2, none⟩ (.int .i64 yi) else Und w5 W) [fun v _ => v = .slice (some ⟨b10, off10, none⟩) op.length c10, fun v _ => v = .int .i64 q, fun v _ => v = .pointer (some ⟨b10, off10 + q * 3, none⟩), fun v _ => v = .pointer (some ⟨b10, off10 + q * 3 + 1, none⟩), fun v _ => v = .string ⟨yt.toArray⟩, fun v _ => v = .string ⟨(St.nameOf yt).toArray⟩, fun v _ => v = .slice (some ⟨b10, off10, none⟩) op.length c10, fun v _ => v = .int .i64 q, fun v _ => v = .pointer (some ⟨b10, off10 + q * 3, none⟩), fun v _ => v = .pointer (some ⟨b10, off10 + q * 3 + 2, none⟩), fun v _ => v = .int .i64 yi, fun v _ => v = .agg #[.int .i64 3, .string ⟨(St.nameOf yt).toArray⟩, .int .i64 yi], noFact] (fun a => gb_refl a _) (fun a b c h k => gb_trans h k (fun _ e => .inl e)) (by kernel_rfl) (by rfl) (by kernel_rfl) (by kernel_rfl) ?frT6 ?hfr ?hI ?hob ?hend
          case hfr =>
            intro ρ
            simp only [putAll, Act.put, List.setIfInBounds_toArray, List.set_cons_succ, List.set_cons_zero, Nat.zero_add, Nat.reduceAdd]
            exact rfl
          case hI => exact (by repeat (first | exact Und.refl _ | assumption | refine Und.under ?_ _ | refine Und.alloc ?_ _ | refine Und.drew ?_ | refine Und.drewN ?_ _))
          case hob =>
            refine ObsF.cons (fun ρ L W hR hI hL hD hO hF K hK => ?_) ?_
            · skip
              clear hF hD hO
              simp only [Act.put, List.setIfInBounds_toArray, List.set_cons_succ, List.set_cons_zero] at hK ⊢
              go_simp
              refine hK _ _ (gb_refl _ _) (by simpa [updB] using hI) (fun W2 h2 => ?_)
              rfl
            refine ObsF.cons (fun ρ L W hR hI hL hD hO hF K hK => ?_) ?_
            · skip
              clear hF hD hO
              simp only [Act.put, List.setIfInBounds_toArray, List.set_cons_succ, List.set_cons_zero] at hK ⊢
              go_simp
              refine hK _ _ (gb_refl _ _) (by simpa [updB] using hI) (fun W2 h2 => ?_)
              rfl
            refine ObsF.cons (fun ρ L W hR hI hL hD hO hF K hK => ?_) ?_
            · skip
              have f0 := allF_get hF (j := 0) (by decide)
              have f1 := allF_get hF (j := 1) (by decide)
              clear hF hD hO
              simp only [Act.put, List.setIfInBounds_toArray, List.set_cons_succ, List.set_cons_zero] at hK ⊢
              have e0 : ρ 0 = .slice (some ⟨b10, off10, none⟩) op.length c10 := f0
              have e1 : ρ 1 = .int .i64 q := f1
              rw [e0, e1] at hK ⊢
              have z1 : (q : Int) < (op.length : Int) := by omega
              go_simp
              refine hK _ _ (gb_refl _ _) (by simpa [updB] using hI) (fun W2 h2 => ?_)
              rfl
            refine ObsF.cons (fun ρ L W hR hI hL hD hO hF K hK => ?_) ?_
            · skip
              have f2 := allF_get hF (j := 2) (by decide)
              clear hF hD hO
              simp only [Act.put, List.setIfInBounds_toArray, List.set_cons_succ, List.set_cons_zero] at hK ⊢
              have e2 : ρ 2 = .pointer (some ⟨b10, off10 + q * 3, none⟩) := f2
              rw [e2] at hK ⊢
              go_simp
              refine hK _ _ (gb_refl _ _) (by simpa [updB] using hI) (fun W2 h2 => ?_)
              rfl
            refine ObsF.cons (fun ρ L W hR hI hL hD hO hF K hK => ?_) ?_
            · skip
              have f3 := allF_get hF (j := 3) (by decide)
              have h12 : L 12 = false := hD.not (p := 12) rfl (by decide) hL
              have hI5 : Und w5 W := by simpa [h12] using hI
              clear hF hD hO
              simp only [Act.put, List.setIfInBounds_toArray, List.set_cons_succ, List.set_cons_zero] at hK ⊢
              have e3 : ρ 3 = .pointer (some ⟨b10, off10 + q * 3 + 1, none⟩) := f3
              rw [e3] at hK ⊢
              have hc := (hI5.cell (p := ⟨b10, off10 + q * 3 + 1, none⟩) hb10).trans p1
              haveI : LtW b10 W := LtW.of (Nat.lt_of_lt_of_le hb10 hI5.size)
              go_simp
              refine hK _ _ (gb_refl _ _) (by simpa [updB] using hI) (fun W2 h2 => ?_)
              rfl
            refine ObsF.cons (fun ρ L W hR hI hL hD hO hF K hK => ?_) ?_
            · skip
              have f4 := allF_get hF (j := 4) (by decide)
              have h12 : L 12 = false := hD.not (p := 12) rfl (by decide) hL
              have hI5 : Und w5 W := by simpa [h12] using hI
              clear hF hD hO
              simp only [Act.put, List.setIfInBounds_toArray, List.set_cons_succ, List.set_cons_zero] at hK ⊢
              have e4 : ρ 4 = .string ⟨yt.toArray⟩ := f4
              rw [e4] at hK ⊢
              refine step_callF2 (o := ⟨some 86, _, _, _, _, _⟩) rfl 26 #[.string ⟨yt.toArray⟩] _ (rname_u yt W (by omega)) ?_ ?_
              · go_simp
              rintro e W2 ⟨rfl, hu⟩
              exact ⟨_, rfl, hK _ _ (hu.gb _) (by simpa [updB, h12] using hI5.trans hu) (fun W3 h3 => rfl)⟩
            refine ObsF.cons (fun ρ L W hR hI hL hD hO hF K hK => ?_) ?_
            · skip
              clear hF hD hO
              simp only [Act.put, List.setIfInBounds_toArray, List.set_cons_succ, List.set_cons_zero] at hK ⊢
              go_simp
              refine hK _ _ (gb_refl _ _) (by simpa [updB] using hI) (fun W2 h2 => ?_)
              rfl
            refine ObsF.cons (fun ρ L W hR hI hL hD hO hF K hK => ?_) ?_
            · skip
              clear hF hD hO
              simp only [Act.put, List.setIfInBounds_toArray, List.set_cons_succ, List.set_cons_zero] at hK ⊢
              go_simp
              refine hK _ _ (gb_refl _ _) (by simpa [updB] using hI) (fun W2 h2 => ?_)
              rfl
            refine ObsF.cons (fun ρ L W hR hI hL hD hO hF K hK => ?_) ?_
            · skip
              have f6 := allF_get hF (j := 6) (by decide)
              have f7 := allF_get hF (j := 7) (by decide)
              clear hF hD hO
              simp only [Act.put, List.setIfInBounds_toArray, List.set_cons_succ, List.set_cons_zero] at hK ⊢
              have e6 : ρ 6 = .slice (some ⟨b10, off10, none⟩) op.length c10 := f6
              have e7 : ρ 7 = .int .i64 q := f7
              rw [e6, e7] at hK ⊢
              have z1 : (q : Int) < (op.length : Int) := by omega
              go_simp
              refine hK _ _ (gb_refl _ _) (by simpa [updB] using hI) (fun W2 h2 => ?_)
              rfl
            refine ObsF.cons (fun ρ L W hR hI hL hD hO hF K hK => ?_) ?_
            · skip
              have f8 := allF_get hF (j := 8) (by decide)
              clear hF hD hO
              simp only [Act.put, List.setIfInBounds_toArray, List.set_cons_succ, List.set_cons_zero] at hK ⊢
              have e8 : ρ 8 = .pointer (some ⟨b10, off10 + q * 3, none⟩) := f8
              rw [e8] at hK ⊢
              go_simp
              refine hK _ _ (gb_refl _ _) (by simpa [updB] using hI) (fun W2 h2 => ?_)
              rfl
            refine ObsF.cons (fun ρ L W hR hI hL hD hO hF K hK => ?_) ?_
            · skip
              have f9 := allF_get hF (j := 9) (by decide)
              have h12 : L 12 = false := hD.not (p := 12) rfl (by decide) hL
              have hI5 : Und w5 W := by simpa [h12] using hI
              clear hF hD hO
              simp only [Act.put, List.setIfInBounds_toArray, List.set_cons_succ, List.set_cons_zero] at hK ⊢
              have e9 : ρ 9 = .pointer (some ⟨b10, off10 + q * 3 + 2, none⟩) := f9
              rw [e9] at hK ⊢
              have hc := (hI5.cell (p := ⟨b10, off10 + q * 3 + 2, none⟩) hb10).trans p2
              haveI : LtW b10 W := LtW.of (Nat.lt_of_lt_of_le hb10 hI5.size)
              go_simp
              refine hK _ _ (gb_refl _ _) (by simpa [updB] using hI) (fun W2 h2 => ?_)
              rfl
            refine ObsF.cons (fun ρ L W hR hI hL hD hO hF K hK => ?_) ?_
            · skip
              have f5 := allF_get hF (j := 5) (by decide)
              have f10 := allF_get hF (j := 10) (by decide)
              clear hF hD hO
              simp only [Act.put, List.setIfInBounds_toArray, List.set_cons_succ, List.set_cons_zero] at hK ⊢
              have e5 : ρ 5 = .string ⟨(St.nameOf yt).toArray⟩ := f5
              have e10 : ρ 10 = .int .i64 yi := f10
              rw [e5, e10] at hK ⊢
              go_simp
              refine hK _ _ (gb_refl _ _) (by simpa [updB] using hI) (fun W2 h2 => ?_)
              rfl
            refine ObsF.cons (fun ρ L W hR hI hL hD hO hF K hK => ?_) ?_
            · skip
              have f11 := allF_get hF (j := 11) (by decide)
              have hI5 : Und w5 W := by simpa [hL] using hI
              clear hF hD hO
              simp only [Act.put, List.setIfInBounds_toArray, List.set_cons_succ, List.set_cons_zero] at hK ⊢
              have e11 : ρ 11 = .agg #[.int .i64 3, .string ⟨(St.nameOf yt).toArray⟩, .int .i64 yi] := f11
              rw [e11] at hK ⊢
              have hbW := (hI5.below.block w3.heap.size (lt_of_heap hb5)).trans hb5
              have f0 : W.frozen? ⟨w3.heap.size, 0, none⟩ = false := Lib.frozen_of_heap hbW 0
              have f1 : W.frozen? ⟨w3.heap.size, 1, none⟩ = false := Lib.frozen_of_heap hbW 1
              have f2 : W.frozen? ⟨w3.heap.size, 2, none⟩ = false := Lib.frozen_of_heap hbW 2
              have g0 : W.cell? ⟨w3.heap.size, 0, none⟩ = some (.int .i64 1) := Lib.cell_of_heap hbW 0
              have g1 : W.cell? ⟨w3.heap.size, 1, none⟩ = some (.string t) := Lib.cell_of_heap hbW 1
              have g2 : W.cell? ⟨w3.heap.size, 2, none⟩ = some (.int .i64 0) := Lib.cell_of_heap hbW 2
              haveI : LtW w3.heap.size W := LtW.of (lt_of_heap hbW)
              go_simp
              refine hK undef _ (gb_setCell (gb_setCell (gb_set _ ⟨w3.heap.size, 0, none⟩ _) ⟨w3.heap.size, 1, none⟩ _ (.inl rfl)) ⟨w3.heap.size, 2, none⟩ _ (.inl rfl)) (by simp only [updB, if_true]; exact ⟨W, hI5, rfl⟩) (fun _ _ => trivial)
            exact ObsF.nil
          case hend =>
            intro ρ L W hR hI hL hF
            have h12 : L 12 = true := hL 12 (by decide)
            rw [if_pos h12] at hI
            obtain ⟨w6, hu6, hW⟩ := hI
            have HO6 := hid (own_und hu6 HO5.out)
            have HP6 := hid (own_und hu6 HP5.out)
            have HG6 := hid (HG5.out.und hu6)
            have HK6 := hid (gb_und HK5.out hu6)
            have hb5 := (hu6.below.block w3.heap.size (lt_of_heap hb5)).trans hb5
            have hsz5 := lt_of_heap hb5
            clear hR hL hF h12
            have f0 : w6.frozen? ⟨w3.heap.size, 0, none⟩ = false := Lib.frozen_of_heap hb5 0
            have f1 : w6.frozen? ⟨w3.heap.size, 1, none⟩ = false := Lib.frozen_of_heap hb5 1
            have f2 : w6.frozen? ⟨w3.heap.size, 2, none⟩ = false := Lib.frozen_of_heap hb5 2
            have g0 : w6.cell? ⟨w3.heap.size, 0, none⟩ = some (.int .i64 1) := Lib.cell_of_heap hb5 0
            have g1 : w6.cell? ⟨w3.heap.size, 1, none⟩ = some (.string t) := Lib.cell_of_heap hb5 1
            have g2 : w6.cell? ⟨w3.heap.size, 2, none⟩ = some (.int .i64 0) := Lib.cell_of_heap hb5 2
            haveI : LtW w3.heap.size w6 := LtW.of (lt_of_heap hb5)
            have hob : (Value.slice A9 f.length c9).ownBlock ≠ some w3.heap.size := fun e => by have := hlt3 _ e; omega
            have hobp : (Value.slice (some ⟨b10, off10, none⟩) op.length c10).ownBlock ≠ some w3.heap.size := fun e => by have := hlt3p _ e; omega
            have hkey : ∀ W, W = ((w6.setCell ⟨w3.heap.size, 0, none⟩ (.int .i64 3)).setCell ⟨w3.heap.size, 1, none⟩ (.string ⟨(St.nameOf yt).toArray⟩)).setCell ⟨w3.heap.size, 2, none⟩ (.int .i64 yi) → W.ownsRow w.heap.size 38 3 (.slice A9 f.length c9) f.length (cellsIt f) ∧ W.ownsRow w.heap.size 38 3 (.slice (some ⟨b10, off10, none⟩) op.length c10) op.length (cellsIt op) ∧ GenP W B g (P + 1 + 9 * (k + 1)) ∧ w.grownBy W (some g) ∧ W.heap.size = w6.heap.size ∧ W.heap[w3.heap.size]? = some (Obj.cells #[.int .i64 3, .string ⟨(St.nameOf yt).toArray⟩, .int .i64 yi] 38 (0, 0)) := by
              intro W hW
              subst hW
              have hBb : ∀ x, some w3.heap.size = some x → B ≤ x := fun x e => by cases e; omega
              refine ⟨own_set (own_set (own_set HO6.out hob) hob) hob, own_set (own_set (own_set HP6.out hobp) hobp) hobp, ?_, gb_setCell (gb_setCell (gb_setCell HK6.out _ _ (.inr (by show w.heap.size ≤ w3.heap.size; omega))) _ _ (.inr (by show w.heap.size ≤ w3.heap.size; omega))) _ _ (.inr (by show w.heap.size ≤ w3.heap.size; omega)), by simp, heap_setCell_same _ w3.heap.size 2 _ _ _ (heap_setCell_same _ w3.heap.size 1 _ _ _ (heap_setCell_same w6 w3.heap.size 0 _ _ _ hb5))⟩
              exact (((HG6.out.gb (gb_set w6 ⟨w3.heap.size, 0, none⟩ _) hBb).gb (gb_set _ ⟨w3.heap.size, 1, none⟩ _) hBb).gb (gb_set _ ⟨w3.heap.size, 2, none⟩ _) hBb).le (by omega)
            have HKEY := hid (hkey W hW)
            have hne5 := HKEY.out.2.2.1.lt.2
            have hkz := HKEY.out.2.2.2.2.1
            have hkw := HKEY.out.2.2.2.1.size
            have hit := items_own HKEY.out.2.1 rfl
            have HIT1 := hid (items_take hit q)
            have hgen2 := HGEN.out
            obtain ⟨q1, hq1⟩ : ∃ q1, q1 = q + 1 := ⟨_, rfl⟩
            rw [← hq1] at hgen2
            have HGEN2 := hid hgen2
            clear hgen2
            obtain ⟨ox, hox, hit2⟩ : ∃ ox, (if c10 = q1 then (some ⟨b10, off10, none⟩ : Option Addr) else some ⟨b10, off10 + q1 * 3, none⟩) = some ⟨b10, ox, none⟩ ∧ ItemsAt W (some ⟨b10, ox, none⟩) (op.drop q1) := by
              by_cases hcq : c10 = q1
              · exact ⟨off10, if_pos hcq, fun h0 => by simp at h0; omega⟩
              · exact ⟨off10 + q1 * 3, if_neg hcq, items_drop hit q1⟩
            have HIT2 := hid hit2
            clear hit2
            have hw : IntKind.i64.wrap (q1 : Int) = (q1 : Int) := IntWalk.i64_in _ (by omega)
            have hw1 : (q : Int) + 1 = (q1 : Int) := by omega
            have hw2 : (0 : Int) ≤ (q1 : Int) := by omega
            have hw3 : (q1 : Int) ≤ (op.length : Int) := by omega
            have hw4 : q1 ≤ op.length := by omega
            have hqa : q + 1 ≤ q1 := by omega
            have hqb : q1 ≤ q + 1 := by omega
            clear hq1
            have hbW := HKEY.out.2.2.2.2.2
            have hl1 : (q : Int) ≤ (op.length : Int) := by omega
            have hl4 : (q : Int) ≤ (c10 : Int) := by omega
            have hl5 : (op.length : Int) ≤ (c10 : Int) := by omega
            haveI : LtW b10 W := LtW.of (by have := hu6.size; omega)
            clear hkey hW hb5 f0 f1 f2 g0 g1 g2 p0 p1 p2 hit hu6
            go_wp2_with fail
            refine wp_region_any (by kernel_rfl) ?_
            try (change wpAny _ _ _ _ _ _ _ (World.drew _))
            refine rg_norm2 (l' := #[false, false, false, false, false, false, false, false, false, false]) (by kernel_rfl) ?_
            refine wpAny_take (i := 0) (v := ?_) rfl (by kernel_rfl) (by kernel_rfl) (by kernel_rfl) (fun _ _ _ h => h) (Or.inl ⟨by rfl, ?_⟩) ?_
            rotate_left 1
            · (intro W9; go_simp; try with_reducible rfl)
            try go_simp
            refine rg_norm2 (l' := #[true, false, false, false, false, false, false, false, false, false]) (by kernel_rfl) ?_
            refine wpAny_take (i := 1) (v := ?_) rfl (by kernel_rfl) (by kernel_rfl) (by kernel_rfl) (fun _ _ _ h => h) (Or.inl ⟨by rfl, ?_⟩) ?_
            rotate_left 1
            · (intro W9; go_simp; try with_reducible rfl)
            try go_simp
            refine rg_norm2 (l' := #[true, true, false, false, false, false, false, false, false, false]) (by kernel_rfl) ?_
            refine wpAny_take (i := 2) (v := ?_) rfl (by kernel_rfl) (by kernel_rfl) (by kernel_rfl) (fun _ _ _ h => h) (Or.inl ⟨by rfl, ?_⟩) ?_
            rotate_left 1
            · (intro W9; go_simp; try with_reducible rfl)
            try go_simp
            refine rg_norm2 (l' := #[true, true, true, false, false, false, false, false, false, false]) (by kernel_rfl) ?_
            refine wpAny_take (i := 4) (v := ?_) rfl (by kernel_rfl) (by kernel_rfl) (by kernel_rfl) (fun _ _ _ h => h) (Or.inl ⟨by rfl, ?_⟩) ?_
            rotate_left 1
            · (intro W9; go_simp; try with_reducible rfl)
            try go_simp
            refine rg_norm2 (l' := #[true, true, true, false, true, false, false, false, false, false]) (by kernel_rfl) ?_
            refine wpAny_take (i := 5) (v := ?_) rfl (by kernel_rfl) (by kernel_rfl) (by kernel_rfl) (fun _ _ _ h => h) (Or.inl ⟨by rfl, ?_⟩) ?_
            rotate_left 1
            · (intro W9; go_simp; try with_reducible rfl)
            try go_simp
            refine rg_norm2 (l' := #[true, true, true, false, true, true, false, false, false, false]) (by kernel_rfl) ?_
            refine wpAny_take (i := 6) (v := ?_) rfl (by kernel_rfl) (by kernel_rfl) (by kernel_rfl) (fun _ _ _ h => h) (Or.inl ⟨by rfl, ?_⟩) ?_
            rotate_left 1
            · (intro W9; go_simp; try with_reducible rfl)
            try go_simp
            refine rg_norm2 (l' := #[true, true, true, false, true, true, true, false, false, false]) (by kernel_rfl) ?_
            refine wpAny_take (i := 7) (v := ?_) rfl (by kernel_rfl) (by kernel_rfl) (by kernel_rfl) (fun _ _ _ h => h) (Or.inl ⟨by rfl, ?_⟩) ?_
            rotate_left 1
            · (intro W9; go_simp; try with_reducible rfl)
            try go_simp
            refine rg_norm2 (l' := #[true, true, true, false, true, true, true, true, false, false]) (by kernel_rfl) ?_
            refine wpAny_ready (rs := [3]) (by kernel_rfl) (by simp) ?_
            refine AllReady.cons (o := ⟨some 96, _, _, _, _, _⟩) rfl (fun K hK => ?_) AllReady.nil
            refine step_append_items (o := ⟨some 96, _, _, _, _, _⟩) rfl _ _ rfl W.heap.size (.slice none 0 0) 0 [] rfl (World.ownsRow_nil _ _ _ _) ⟨b10, off10, none⟩ q c10 (op.take q) rfl (HIT1.out.und (Und.refl W).drew) (by simp; omega) (by omega) (by exact Nat.le_refl _) ?_
            intro v96 w8 ho8 hg8
            have hu8 : Und W w8 := ((Und.refl W).drew).grown hg8 (fun g e => by cases e)
            have HO8 := hid (show w8.ownsRow W.heap.size 38 3 v96 q (cellsIt (op.take q)) by simpa using ho8)
            have HU8 := hid hu8
            clear ho8 hg8 hu8
            try go_simp
            refine hK _ _ ?_
            clear hK K
            refine rg_norm2 (l' := #[true, true, true, true, true, true, true, true, false, false]) (by kernel_rfl) ?_
            refine wpAny_ready (rs := [8]) (by kernel_rfl) (by simp) ?_
            refine AllReady.cons (o := ⟨some 101, _, _, _, _, _⟩) rfl (fun K hK => ?_) AllReady.nil
            refine step_append_items (o := ⟨some 101, _, _, _, _, _⟩) rfl _ _ rfl W.heap.size v96 q (op.take q) rfl HO8.out ⟨b10, ox, none⟩ (op.length - q1) (c10 - q1) (op.drop q1) ?_ (HIT2.out.und HU8.out) (by simp) (by omega) HU8.out.size ?_
            · first | rfl | (go_simp; try rfl)
            intro v101 w9 ho9 hg9
            have hu9 : Und W w9 := HU8.out.grown hg9 (fun x e => owns_block HO8.out x e)
            have HO9 := hid ho9
            have HU9 := hid hu9
            clear ho9 hg9 hu9
            try go_simp
            refine hK _ _ ?_
            clear hK K
            refine rg_norm2 (l' := #[true, true, true, true, true, true, true, true, true, false]) (by kernel_rfl) ?_
            refine wpAny_take (i := 9) (v := ?_) rfl (by kernel_rfl) (by kernel_rfl) (by kernel_rfl) (fun _ _ _ h => h) (Or.inl ⟨by rfl, ?_⟩) ?_
            rotate_left 1
            · (intro W9; go_simp; try with_reducible rfl)
            try go_simp
            refine rg_norm2 (l' := #[true, true, true, true, true, true, true, true, true, true]) (by kernel_rfl) ?_
            refine wpAny_done (by kernel_rfl) ?_ _
            have hop2 : (op.take q ++ op.drop q1).length = op.length - 1 := by simp; omega
            have hop3 : q + (op.length - q1) = op.length - 1 := by omega
            have ho10 : w9.ownsRow W.heap.size 38 3 v101 (op.take q ++ op.drop q1).length (cellsIt (op.take q ++ op.drop q1)) := by
              have := HO9.out
              rw [hop3] at this
              rw [hop2]; exact this
            obtain ⟨Av, cv, rfl, _, _, _⟩ := own_slice' ho10
            have hb9 := (HU9.out.below.block w3.heap.size (lt_of_heap hbW)).trans hbW
            have c0 : w9.cell? ⟨w3.heap.size, 0, none⟩ = some (.int .i64 3) := Lib.cell_of_heap hb9 0
            have c1 : w9.cell? ⟨w3.heap.size, 1, none⟩ = some (.string ⟨(St.nameOf yt).toArray⟩) := Lib.cell_of_heap hb9 1
            have c2 : w9.cell? ⟨w3.heap.size, 2, none⟩ = some (.int .i64 yi) := Lib.cell_of_heap hb9 2
            haveI : LtW w3.heap.size w9 := LtW.of (lt_of_heap hb9)
            have h9s := HU9.out.size
            have HO10 := hid ho10
            clear ho10 hb9 HO9
            go_wp2_with fail
            refine (HCAT.out _ _ (3, St.nameOf yt, yi) ?_ ?_ ?_).mono ?_
            · exact ((items_own HKEY.out.1 rfl).und HU9.out).und ((Und.refl _).alloc _)
            · exact items_boxi _ _ _ _ _ (by simp) (by rw [World.cell?_alloc_at _ _ _ _ (by simp)]; rfl) (by rw [World.cell?_alloc_at _ _ _ _ (by simp)]; rfl) (by rw [World.cell?_alloc_at _ _ _ _ (by simp)]; rfl)
            · rw [tot_snoc]; simp; omega
            rintro e w7 ⟨v7, rfl, ho7, hu7⟩
            have hrel := FIN.out (3, St.nameOf yt, yi) v7 _ _ w7 (op.take q ++ op.drop q1) c _ rfl HGEN2.out (by show (St.nameOf yt).length ≤ 18; omega) (by omega) (by omega) ho7 ((own_low HO10.out (by omega)).alloc _) hu7 (by simp; omega) (((HKEY.out.2.2.1.und HU9.out).und ((Und.refl _).alloc _)).und hu7) (gb_und (gb_und HKEY.out.2.2.2.1 HU9.out) (((Und.refl _).alloc _).trans hu7))
            have HREL := hid hrel
            clear hrel ho7 hu7
            go_wp2
            exact ⟨by have h := HREL.out; rw [hop2] at h; exact h, by simp [intOf]; omega⟩
      · subst h
        clear hr8 hb4
        go_wp2_with fail
        refine (HCAT.out _ _ (1, t.data.toList, 0) ?_ ?_ ?_).mono ?_
        · exact (items_own HO4.out rfl).und ((Und.refl _).alloc _)
        · rw [← ba_eta t]; exact items_box _ _ _ _ (by simp) (by simp) (by simp) (by simp)
        · rw [tot_snoc]; simp; omega
        rintro e w7 ⟨v7, rfl, ho7, hu7⟩
        have hrel := FIN.out (1, t.data.toList, 0) v7 _ _ w7 op c _ rfl (HGN.out.text _) (by simp; omega) (by omega) (by omega) ho7 (HP4.out.alloc _) hu7 (by have := HK4.out.size; simp at this ⊢; omega) (((HG4.out.und ((Und.refl _).alloc _)).und hu7).le (by omega)) (gb_und HK4.out (((Und.refl _).alloc _).trans hu7))
        have HREL := hid hrel
        clear hrel ho7 hu7 d0 d1 d2
        go_wp2
        exact ⟨HREL.out, by simp [intOf]; omega⟩
    · have z : ¬ (0 : Int) < (i : Int) := by omega
      have z0 : i = 0 := by omega
      subst z0
      obtain ⟨A9, c9, rfl, _, _, _⟩ := own_slice' HO.out
      obtain ⟨A10, c10, rfl, _, _, _⟩ := own_slice' HP.out
      by_cases hop : op.length = 0
      · have y1 : ¬ (0 : Int) ≤ (op.length : Int) - 1 := by omega
        have hop2 : op.length ≤ 0 := by omega
        clear hop
        go_wp2_with fail
        refine wp_loop_rounds 1 ?_
        rw [rounds_succ]
        go_wp2
        go_ret
        exact ⟨_, f, op, c, rfl, HO.out, HGN.out, by omega, by omega, HG.out.le (by omega), HK.out⟩
      · have y1 : (0 : Int) ≤ (op.length : Int) - 1 := by omega
        go_wp2_with fail
        refine wp_loop_rounds 1 ?_
        rw [rounds_succ]
        go_wp2
        go_ret
        exact ⟨_, f, op, c, rfl, HO.out, HGN.out, by omega, by omega, HG.out.le (by omega), HK.out⟩
end Go.Proofs.YtpahkhmheikebaaGreatDoor

namespace Go.Proofs.YtpahkhmheikebaaGreatDoor
open Go.RowKit

theorem wrap_add (a b : Int) : wrap64 (wrap64 a + b) = wrap64 (a + b) := by unfold wrap64; omega
def FewRel (w : World) (f : List St.It) (s3 s7 : Value) (wr : World) : Prop := ∃ k : Nat, k ≤ f.length ∧ s7 = .int .i64 k ∧ s3 = .int .i64 (wrap64 (tot (f.take k) : Nat)) ∧ w = wr
set_option maxHeartbeats 3200000 in
theorem few_any (A : Option Addr) (n c : Nat) (f : List St.It) (w : World) (hn : f.length = n) (h : ItemsAt w A f) (hl : n ≤ 1000000000000000) :
    Calls Tryz.prog 7 #[.slice A n c] w fun e w' => e = .returned (.bool (decide (n ≤ 30) && decide (wrap64 (tot f : Nat) ≤ 500))) ∧ w = w' := by
  have H := hid h
  have HN := hid hn
  clear h hn
  go_enter Tryz.func7, Tryz.ntmps7
  go_wp2
  go_loopw [3, 7] (fun s3 s7 wr => FewRel w f s3 s7 wr) (fun _ s7 _ => n + 1 - (intOf s7).toNat)
  case atStart => exact ⟨0, by omega, rfl, by rw [show wrap64 ((tot (f.take 0) : Nat) : Int) = 0 by simp [tot, wrap64]], rfl⟩
  case round =>
    obtain ⟨k, hk, rfl, rfl, rfl⟩ := hrel
    have hN := HN.out
    by_cases hlt : k < n
    · have hlt2 : k < f.length := by omega
      obtain ⟨b, off, rfl, hb, hc⟩ := H.out (by omega)
      obtain ⟨c0, c1, c2⟩ := hc k hlt2
      have htk := tot_take f k hlt2
      generalize f[k] = x at c0 c1 c2 htk
      obtain ⟨kd, tx, id⟩ := x
      simp only at c0 c1 c2 htk
      have hxz : (⟨tx.toArray⟩ : ByteArray).size = tx.length := by show tx.toArray.size = _; simp
      have hw : wrap64 (wrap64 (tot (f.take k) : Nat) + (tx.length : Int)) = wrap64 (tot (f.take (k + 1)) : Nat) := by rw [wrap_add, htk]; congr 1
      have hw2 : IntKind.i64.wrap (wrap64 (tot (f.take k) : Nat) + (tx.length : Int)) = wrap64 (tot (f.take (k + 1)) : Nat) := by rw [IntWalk.i64_left, hw]
      have HW := hid hw
      haveI : LtW b w := LtW.of hb
      clear hc hlt2 htk
      generalize wrap64 (tot (f.take k) : Nat) = s at hw hw2 HW
      go_wp2
      exact ⟨⟨k + 1, by omega, congrArg (Value.int .i64) (by omega), by first | with_reducible rfl | exact congrArg (Value.int .i64) HW.out, rfl⟩, by simp [intOf]; omega⟩
    · have hkn : k = n := by omega
      subst hkn
      have hft : f.take k = f := List.take_of_length_le (by omega)
      rw [hft]
      clear hlt hft
      generalize hs : wrap64 (tot f : Nat) = s
      by_cases q1 : k ≤ 30
      · have y1 : (k : Int) ≤ 30 := by omega
        go_wp2
        go_ret
        exact ⟨ret_bool (by rw [hs, decide_eq_true q1]; exact (Bool.true_and _).symm), rfl⟩
      · have y1 : ¬ (k : Int) ≤ 30 := by omega
        go_wp2
        go_ret
        exact ⟨ret_bool (by first | with_reducible rfl | (rw [decide_eq_false q1]; exact (Bool.false_and _).symm)), rfl⟩
theorem few_true {f : List St.It} {n : Nat} (hn : f.length = n) (h1 : n ≤ 30) (h2 : wrap64 (tot f : Nat) ≤ 500) (h : ∀ y ∈ f, y.2.1.length ≤ 140737488355327) : tot f ≤ 500 := by
  have hb : ∀ l : List St.It, (∀ y ∈ l, y.2.1.length ≤ 140737488355327) → tot l ≤ 140737488355327 * l.length := by
    intro l
    induction l with
    | nil => intro _; simp [tot]
    | cons x l ih =>
      intro hl
      have e : tot (x :: l) = x.2.1.length + tot l := by simp [tot]
      have h1 := ih fun y hy => hl y (by simp [hy])
      have h2 := hl x (by simp)
      rw [e, List.length_cons]; omega
  have := hb f h
  have h3 : tot f ≤ 140737488355327 * 30 := Nat.le_trans this (Nat.mul_le_mul_left _ (by omega))
  unfold wrap64 at h2
  omega
end Go.Proofs.YtpahkhmheikebaaGreatDoor

namespace Go.Proofs.YtpahkhmheikebaaGreatDoor
open Go.RowKit

set_option maxRecDepth 20000 in
set_option maxHeartbeats 6400000 in
theorem eslaw_any (A B : Option Addr) (n c m d : Nat) (f : List St.It) (zs : List Int) (w : World) (hn : f.length = n) (hnc : n ≤ c) (hc32 : c * 32 ≤ 140737488355327) (hA : A = none → c = 0) (h : ItemsAt w A f) (hsz : ∀ y ∈ f, y.2.1.length ≤ 140737488355327) (hz : zs.length = m) (hm : m ≤ 9223372036854775807) (hI : IntsAt w B zs) :
    Calls Tryz.prog 3 #[.slice A n c, .slice B m d] w fun e w' => e = .returned (.bool true) ∧ Und w w' := by

  have HKN := hid (fun W (hW : Und w W) => xknown_any W)
  have hfew := few_any A n c f w hn h (by omega)
  have hft := fun h1 h2 => few_true (f := f) (n := n) hn h1 h2 hsz
  have HG := hid (GenP.fresh (c := d) (T := 29) hm hz hI)
  have H := hid h
  have HN := hid hn
  have HA := hid hA
  clear hI h hn hsz hA
  obtain ⟨b, hb⟩ : ∃ b, (decide (n ≤ 30) && decide (wrap64 (tot f : Nat) ≤ 500)) = b := ⟨_, rfl⟩
  rw [hb] at hfew
  have hbt : b = true → n ≤ 30 ∧ tot f ≤ 500 := by
    intro e
    rw [e] at hb
    have h1 := of_decide_eq_true (Bool.and_eq_true_iff.1 hb).1
    have h2 := of_decide_eq_true (Bool.and_eq_true_iff.1 hb).2
    exact ⟨h1, hft h1 h2⟩
  have HFEW := hid hfew
  clear hfew hb hft
  cases b
  · go_enter Tryz.func3, Tryz.ntmps3
    go_wp2_with fail
    refine HFEW.out.mono ?_
    rintro e w2 ⟨rfl, rfl⟩
    go_wp2_with fail
    refine (HKN.out _ (Und.refl _)).mono ?_
    rintro e w2 ⟨rfl, hu⟩
    have HU := hid hu
    clear hu
    go_wp2
    go_ret
    exact ⟨rfl, HU.out⟩
  obtain ⟨hn30, htf⟩ := hbt rfl
  clear hbt
  by_cases q1 : 100 < m
  · have z1 : (100 : Int) < (m : Int) := by omega
    go_enter Tryz.func3, Tryz.ntmps3
    go_wp2_with fail
    refine HFEW.out.mono ?_
    rintro e w2 ⟨rfl, rfl⟩
    go_wp2_with fail
    refine (HKN.out _ (Und.refl _)).mono ?_
    rintro e w2 ⟨rfl, hu⟩
    have HU := hid hu
    clear hu
    go_wp2
    go_ret
    exact ⟨rfl, HU.out⟩
  have z1 : ¬ (100 : Int) < (m : Int) := by omega
  go_enter Tryz.func3, Tryz.ntmps3
  go_wp2_with fail
  refine HFEW.out.mono ?_
  rintro e w2 ⟨rfl, rfl⟩
  go_wp2_with fail
  refine (fragt_gen (w.heap.size + 1) w.heap.size 0 8 _ HG.out (by omega) (by omega)).mono ?_
  rintro e w2 ⟨v, g, op, c', rfl, ho, hgen, hgl, hgt, hG2, hk⟩
  obtain ⟨A2, c2, rfl, h21, h22, h23⟩ := own_slice' ho
  have hu2 : Und w w2 := ((Und.refl w).alloc _).of_gb hk (fun x e => by cases e; exact Nat.le_refl _)
  have hIg := items_own ho rfl
  have hcm : c ≤ 9223372036854775807 := by omega
  have h1 := fun (W : World) (hW : Und w W) => xencode_any A n c f W HN.out hnc hcm (H.out.und hW) (by omega) (by omega)
  have h2 := fun (W : World) (hW : Und w W) => rencode_any 2 A n c f W HN.out hnc hcm HA.out (H.out.und hW) (by omega) (by omega)
  have h3 := fun (W : World) (hW : Und w2 W) => xencode_any A2 g.length c2 g W rfl h21 (by unfold maxLen at h22; omega) (hIg.und hW) (by omega) (by omega)
  have h4 := fun (W : World) (hW : Und w2 W) => rencode_any 2 A2 g.length c2 g W rfl h21 (by unfold maxLen at h22; omega) h23 (hIg.und hW) (by omega) (by omega)
  generalize (⟨(St.encS 2 f).1.toArray⟩ : ByteArray) = s1 at h1 h2
  generalize (St.encS 2 f).2 = e1 at h1 h2
  generalize (⟨(St.encS 2 g).1.toArray⟩ : ByteArray) = s2 at h3 h4
  generalize (St.encS 2 g).2 = e2 at h3 h4
  have H1 := hid h1
  have H2 := hid h2
  have H3 := hid h3
  have H4 := hid h4
  have HU2 := hid hu2
  have y1 : (s1.toList == s1.toList) = true := beq_self_eq_true _
  have y2 : (s2.toList == s2.toList) = true := beq_self_eq_true _
  have y3 : (e1 == e1) = true := beq_self_eq_true _
  have y4 : (e2 == e2) = true := beq_self_eq_true _
  clear h1 h2 h3 h4 hu2 ho hgen hG2 hk hIg HG HFEW
  go_wp2_with fail
  refine (H1.out _ HU2.out).mono ?_
  rintro e w3 ⟨rfl, hu3⟩
  have HU3 := hid hu3
  clear hu3
  go_wp2_with fail
  refine (H2.out _ (HU2.out.trans HU3.out)).mono ?_
  rintro e w4 ⟨rfl, hu4⟩
  have HU4 := hid (HU3.out.trans hu4)
  clear hu4 HU3
  go_wp2_with fail
  refine (H3.out _ HU4.out).mono ?_
  rintro e w5 ⟨rfl, hu5⟩
  have HU5 := hid (HU4.out.trans hu5)
  clear hu5 HU4
  go_wp2_with fail
  refine (H4.out _ HU5.out).mono ?_
  rintro e w6 ⟨rfl, hu6⟩
  have HU6 := hid (HU2.out.trans (HU5.out.trans hu6))
  clear hu6 HU5
  go_wp2_with fail
  refine (HKN.out _ HU6.out).mono ?_
  rintro e w7 ⟨rfl, hu7⟩
  have HU7 := hid (HU6.out.trans hu7)
  clear hu7
  go_wp2
  go_ret
  exact ⟨rfl, HU7.out⟩
end Go.Proofs.YtpahkhmheikebaaGreatDoor
