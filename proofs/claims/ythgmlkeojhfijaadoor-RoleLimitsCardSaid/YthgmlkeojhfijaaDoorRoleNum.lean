/- What the library's own variables hold; the contracts of strconv.Atoi, strconv.Itoa and of the reference's Number. Conditions: as each says. -/
import Derived.Test.YthgmlkeojhfijaaDoorShelf
import Derived.Test.YthgmlkeojhfijaaDoorRows
import Derived.Test.YthgmlkeojhfijaaDoorFrame
import Derived.Test.YthgmlkeojhfijaaDoorLinePlain
import Derived.WalkSmall
import Derived.Test.YthgmlkeojhfijaaDoorStrPlain
import Derived.Outline
import Derived.WalkSpells
import Derived.Lib.Strings
namespace Go.Proofs.YthgmlkeojhfijaaDoor
open Go.RowKit

/-- The name of the table of powers of ten, as the row lists it. -/
def tabName : String := (Rows.roleParsesRow.named).getD 5 "x"
def Tab (w : World) : Prop := Lib.TabIs Tryd.prog w tabName .u64 Lib.pow10Tab
theorem Tab.und {w w' : World} (h : Und w w') (t : Tab w) : Tab w' := by
  unfold Tab Lib.TabIs World.var? at t ⊢
  cases hg : Program.globalNamed Tryd.prog tabName with
  | none => rw [hg] at t; simp at t
  | some g =>
    rw [hg] at t
    simp only [Option.bind_some] at t ⊢
    have hlt : g < w.heap.size := by
      rcases Nat.lt_or_ge g w.heap.size with h | h
      · exact h
      · rw [Array.getElem?_eq_none h] at t; simp at t
    rw [h.below.block g hlt]
    exact t
theorem Und.grow {a b : World} (h : Und a b) (os : Array Obj) : Und a (Go.Sort.grow b os) := by
  refine Und.mk ⟨h.below.os, h.below.tape, h.below.output, ?_, fun k hk => ?_⟩
  · have := h.below.size; unfold Go.Sort.grow; simp; omega
  · unfold Go.Sort.grow
    have := h.below.size
    rw [Array.getElem?_append_left (by omega)]
    exact h.below.block k hk

/-- The library's own variables. -/
structure LibAt (w : World) : Prop where
  len : ∃ m, w.cell? ⟨0, 0, none⟩ = some (.int .i64 m)
  tab : Tab w
  syn : ∃ ev, w.cell? ⟨2, 0, none⟩ = some ev ∧ (ev = .nilIface ∨ ∃ te pe, ev = .iface te pe)
  rng : ∃ ev, w.cell? ⟨3, 0, none⟩ = some ev ∧ (ev = .nilIface ∨ ∃ te pe, ev = .iface te pe)
theorem LibAt.und {w w' : World} (h : LibAt w) (u : Und w w') : LibAt w' := by
  obtain ⟨⟨m, h1⟩, h2, ⟨a, h3, h4⟩, ⟨b, h5, h6⟩⟩ := h
  exact ⟨⟨m, (u.cell (World.block_lt_of_cell? _ _ h1)).trans h1⟩, h2.und u, ⟨a, (u.cell (World.block_lt_of_cell? _ _ h3)).trans h3, h4⟩, ⟨b, (u.cell (World.block_lt_of_cell? _ _ h5)).trans h5, h6⟩⟩

def AtoiEnd (l : List UInt8) (w : World) (e : Ending) (w' : World) : Prop :=
  ∃ (v : Int) (ev : Value), e = .returned (.tuple #[.int .i64 v, ev]) ∧ Und w w' ∧ ((Lib.atoiAll l = .ok v ∧ ev = .nilIface) ∨ ((∀ v, Lib.atoiAll l ≠ .ok v) ∧ ∃ n, ev = .iface 102 (.pointer (some ⟨n, 0, none⟩))))
theorem atoi_any (s : ByteArray) (w : World) (hs : s.size ≤ 281474976710656) (hL : LibAt w) : Calls Tryd.prog 55 #[.string s] w (AtoiEnd s.data.toList w) := by
  obtain ⟨a, h3, h4⟩ := hL.syn
  obtain ⟨b, h5, h6⟩ := hL.rng
  cases h : Lib.atoiAll s.data.toList with
  | ok v =>
    refine (Tryd.strconv_Atoi_ok s (by omega) v h w).mono ?_
    rintro e w' ⟨rfl, hw⟩
    refine ⟨v, _, rfl, ?_, Or.inl ⟨h, rfl⟩⟩
    rcases hw with rfl | ⟨t, rfl⟩
    · exact Und.refl _
    · exact Und.mk (Lib.bytesWorld_below _ _ _)
  | range =>
    refine (Tryd.strconv_Atoi_range s hs h b w h5 h6).mono ?_
    rintro e w' ⟨n, rfl, _, _, hb⟩
    exact ⟨_, _, rfl, Und.mk hb, Or.inr ⟨fun v e => (by rw [h] at e; cases e), n, rfl⟩⟩
  | _ =>
    refine (Tryd.strconv_Atoi_syntax s hs h a w h3 h4).mono ?_
    rintro e w' ⟨n, rfl, _, _, hb⟩
    exact ⟨_, _, rfl, Und.mk hb, Or.inr ⟨fun v e => (by rw [h] at e; cases e), n, rfl⟩⟩

theorem itoa_all (n : Int) (w : World) (h0 : -4611686018427387904 ≤ n) (h1 : n ≤ 4611686018427387904) (t : Tab w) :
    Calls Tryd.prog 38 #[.int .i64 n] w fun e w' => e = .returned (.string ⟨(Lib.itoa n).toArray⟩) ∧ Und w w' := by
  refine (Any.strconv_Itoa Tryd.laysM171 n (by omega) (by omega) w t).mono ?_
  rintro e w' ⟨rfl, k, os, rfl⟩
  exact ⟨rfl, ((Und.refl w).drewN k).grow os⟩

def NumRel (s : ByteArray) (v i : Value) : Prop := ∃ (k n : Nat), k ≤ s.size ∧ n < 10 ^ k ∧ i = .int .i64 k ∧ v = .int .i64 n ∧ Ln.digVal 0 s.data.toList = Ln.digVal n (s.data.toList.drop k)
theorem ten (k : Nat) (h : k ≤ 10) : 10 ^ k ≤ 10000000000 := Nat.pow_le_pow_right (by omega) h
def NumEndR (s : ByteArray) (w : World) (e : Ending) (w' : World) : Prop := ∃ (v : Int) (b : Bool), e = .returned (.tuple #[.int .i64 v, .bool b]) ∧ w = w' ∧ ((b = true ∧ ∃ n : Nat, v = n ∧ Ln.num s.data.toList = some n) ∨ (b = false ∧ Ln.num s.data.toList = none))

theorem dig_step (s : ByteArray) (k n : Nat) (h : k < s.size) : Ln.digVal n (s.data.toList.drop k) = if 48 ≤ s[k].toNat ∧ s[k].toNat ≤ 57 then Ln.digVal (n * 10 + (s[k].toNat - 48)) (s.data.toList.drop (k + 1)) else none := by
  rw [St.drop_at s k h, Ln.digVal]

set_option maxHeartbeats 3200000 in
theorem number_any (s : ByteArray) (w : World) (hs : s.size ≤ 9223372036854775807) : Calls Tryd.prog 57 #[.string s, .int .i64 99] w (NumEndR s w) := by
  have hlen : s.data.toList.length = s.size := by simp
  by_cases h0 : s.size = 0
  · have e0 : s.toList.isEmpty = true := by rw [Lib.toList_data]; rw [List.isEmpty_iff_length_eq_zero, hlen]; exact h0
    have hn : Ln.num s.data.toList = none := by
      have : s.data.toList = [] := List.eq_nil_of_length_eq_zero (by omega)
      rw [this]; rfl
    have HN := hid hn
    clear hn h0 hlen
    go_enter Tryd.func57, Tryd.ntmps57
    go_wp2
    go_ret2
    exact ⟨_, _, rfl, rfl, Or.inr ⟨rfl, HN.out⟩⟩
  have e0 : s.toList.isEmpty = false := by
    rw [Lib.toList_data]
    cases hl : s.data.toList with
    | nil => rw [hl] at hlen; simp at hlen; omega
    | cons c r => rfl
  have hp : 0 < s.size := by omega
  by_cases h10 : 10 < s.size
  · have hn : Ln.num s.data.toList = none := by
      match hl : s.data.toList with
      | [] => rfl
      | [c] => rw [hl] at hlen; simp at hlen; omega
      | [c, d] => rw [hl] at hlen; simp at hlen; omega
      | c :: d :: e :: r => rfl
    have HN := hid hn
    clear hn h0 hlen
    go_enter Tryd.func57, Tryd.ntmps57
    go_wp2
    go_ret2
    exact ⟨_, _, rfl, rfl, Or.inr ⟨rfl, HN.out⟩⟩
  have hh : (s.data.toList.headD 0) = s[0] := by rw [St.list_zero s hp]; rfl
  have hnn := Ln.number_num s.data.toList
  by_cases h1 : 1 < s.size ∧ s[0].toNat = 48
  · have hn : Ln.num s.data.toList = none := by
      rcases hnn with ⟨_, h⟩ | ⟨⟨_, _, h3⟩, _⟩
      · exact h
      · exact absurd ⟨by omega, by rw [hh]; exact h1.2⟩ h3
    obtain ⟨h1, h2⟩ := h1
    have y : ((s[0].toNat : Int) == 48) = true := by simp; omega
    have HN := hid hn
    clear hn h0 hlen hh hnn h2
    go_enter Tryd.func57, Tryd.ntmps57
    go_wp2
    go_ret2
    exact ⟨_, _, rfl, rfl, Or.inr ⟨rfl, HN.out⟩⟩
  have hr : (Ln.digVal 0 s.data.toList = none ∧ Ln.num s.data.toList = none) ∨ ∃ n, Ln.digVal 0 s.data.toList = some n ∧ (99 < n ∧ Ln.num s.data.toList = none ∨ n ≤ 99 ∧ Ln.num s.data.toList = some n) := by
    rcases hnn with ⟨h, _⟩ | ⟨_, h⟩
    · rcases h with h | h | ⟨h, h'⟩
      · rw [h] at hlen; simp at hlen; omega
      · omega
      · exact absurd ⟨by omega, by rw [← hh]; exact h'⟩ h1
    · exact h
  have HR := hid hr
  clear hr hnn hh hlen h0
  have y10 : decide (10 < (s.size : Int)) = false := decide_eq_false (by omega)
  have key : ∃ b : Bool, (b = true → ((s[0].toNat : Int) == 48) = false) ∧ (b = false → ¬ 1 < s.size) ∧ (b = true → 1 < s.size) := by
    by_cases h : 1 < s.size
    · exact ⟨true, fun _ => by simp; omega, fun e => (by cases e), fun _ => h⟩
    · exact ⟨false, fun e => (by cases e), fun _ => h, fun e => (by cases e)⟩
  obtain ⟨b, k1, k2, k3⟩ := key
  clear h1
  cases b
  all_goals
    have k1' := k1
    simp only [forall_const, reduceCtorEq, false_implies] at k1' k2 k3
    clear k1
    go_enter Tryd.func57, Tryd.ntmps57
    go_wp2
    go_loop [6, 7] (fun v i => NumRel s v i) (fun _ i => s.size - (intOf i).toNat)
    case atStart => exact ⟨0, 0, by omega, by simp, rfl, rfl, by simp⟩
    case round =>
      obtain ⟨k, n, hk, hn, rfl, rfl, hd⟩ := hrel
      have HD := hid hd
      have ht := ten k (by omega)
      have hn2 : n ≤ 10000000000 := by omega
      have HT := hid hn
      clear hd hn ht
      by_cases hlt : k < s.size
      · have hstep := hid (dig_step s k n hlt)
        rcases (show (48 ≤ s[k].toNat ∧ s[k].toNat ≤ 57) ∨ s[k].toNat < 48 ∨ (48 ≤ s[k].toNat ∧ 57 < s[k].toNat) by omega) with c | c | c
        · obtain ⟨c1, c2⟩ := c
          have y1 : 48 ≤ (s[k].toNat : Int) := by omega
          have y2 : (s[k].toNat : Int) ≤ 57 := by omega
          go_wp2
          go_round
          case rel => exact ⟨k + 1, n * 10 + (s[k].toNat - 48), by omega, by rw [Nat.pow_succ]; have := HT.out; omega, by go_num, congrArg (Value.int .i64) (by omega), by rw [HD.out, hstep.out, if_pos ⟨c1, c2⟩]⟩
          case measure => simp [intOf]; omega
        · have y1 : (s[k].toNat : Int) < 48 := by omega
          have HC := hid c
          clear c
          go_wp2
          go_ret2
          refine ⟨_, _, rfl, rfl, Or.inr ⟨rfl, ?_⟩⟩
          rcases HR.out with ⟨_, h⟩ | ⟨m, h, _⟩
          · exact h
          · rw [HD.out, hstep.out, if_neg (by have := HC.out; omega)] at h; cases h
        · have y1 : 48 ≤ (s[k].toNat : Int) := by omega
          have y2 : 57 < (s[k].toNat : Int) := by omega
          have HC := hid c
          clear c
          go_wp2
          go_ret2
          refine ⟨_, _, rfl, rfl, Or.inr ⟨rfl, ?_⟩⟩
          rcases HR.out with ⟨_, h⟩ | ⟨m, h, _⟩
          · exact h
          · rw [HD.out, hstep.out, if_neg (by have := HC.out; omega)] at h; cases h
      · obtain rfl : k = s.size := by omega
        clear hlt
        have hv : Ln.digVal 0 s.data.toList = some n := by rw [HD.out, St.drop_all s _ (Nat.le_refl _)]; rfl
        have HV := hid hv
        clear hv
        by_cases h99 : n ≤ 99
        · go_wp2
          go_ret2
          refine ⟨_, _, rfl, rfl, Or.inl ⟨by simp; omega, n, rfl, ?_⟩⟩
          rcases HR.out with ⟨h, _⟩ | ⟨m, h, h2⟩
          · rw [HV.out] at h; cases h
          · rw [HV.out] at h
            cases h
            rcases h2 with ⟨h, _⟩ | ⟨_, h⟩
            · omega
            · exact h
        · go_wp2
          go_ret2
          refine ⟨_, _, rfl, rfl, Or.inr ⟨by simp; omega, ?_⟩⟩
          rcases HR.out with ⟨h, _⟩ | ⟨m, h, h2⟩
          · rw [HV.out] at h; cases h
          · rw [HV.out] at h
            cases h
            rcases h2 with ⟨_, h⟩ | ⟨h, _⟩
            · exact h
            · omega
end Go.Proofs.YthgmlkeojhfijaaDoor
