/- The contracts of the reference's Words and Lines: the words of any line, the lines of any text. Conditions: strings shorter than the library's search bears. -/
import Derived.Test.YthgmlkeojhfijaaDoorRoleLine
namespace Go.Proofs.YthgmlkeojhfijaaDoor
open Go.RowKit

theorem info_str : (Tryd.prog.info? 9).map (fun i => (i.zero, i.size, i.bytes)) = some (some (.string ⟨#[]⟩), 1, 16) := by kernel_rfl
theorem side1s (w2 : World) (x : ByteArray) : ∀ j u, [Value.string x][j]? = some u → (w2.alloc (.cells #[.string x] 9)).cell? ((⟨w2.heap.size, 0, none⟩ : Addr).add j) = some u := by
  intro j u hj
  match j, hj with
  | 0, hj => simp at hj; subst hj; simp [Addr.add]
  | j + 1, hj => simp at hj
theorem strs_own {w : World} {base n cap : Nat} {A : Option Addr} {ws : List ByteArray} (h : w.ownsRow base 9 1 (.slice A n cap) n (ws.map Value.string)) (h0 : 0 < n) : ∃ B, A = some ⟨B, 0, none⟩ ∧ base ≤ B ∧ StrsAt w B 0 ws := by
  obtain ⟨g, rfl, hb, _, hc⟩ := own_cell h h0
  refine ⟨g, rfl, hb, fun j x hx => ?_⟩
  rw [Nat.zero_add]
  exact hc j _ (by rw [List.getElem?_map, hx]; rfl)
theorem ext_data (s : ByteArray) (a b : Nat) : (s.extract a b).data.toList = (s.data.toList.drop a).take (b - a) := by
  rw [Lib.extract_data]
theorem at_list (s : ByteArray) (k : Nat) (h : k < s.size) (h2 : k < s.data.toList.length) : s.data.toList[k] = s[k] := rfl

def WdRel (s : ByteArray) (w : World) (v f i : Value) (wr : World) : Prop :=
  ∃ (k a : Nat) (ws : List ByteArray), f = .int .i64 a ∧ i = .int .i64 k ∧ ws.length ≤ k ∧ wr.ownsRow w.heap.size 9 1 v ws.length (ws.map Value.string) ∧ Und w wr ∧
    ((k ≤ s.size ∧ a ≤ k ∧ Ln.words s.data.toList = ws.map (·.data.toList) ++ Ln.words (s.data.toList.drop a) ∧ ∀ j (hj : j < s.data.toList.length), a ≤ j → j < k → s.data.toList[j].toNat ≠ 32) ∨
     (k = s.size + 1 ∧ Ln.words s.data.toList = ws.map (·.data.toList)))
def WordsEnd (s : ByteArray) (w : World) (e : Ending) (w' : World) : Prop :=
  ∃ (ws : List ByteArray) (B n c : Nat), e = .returned (.slice (some ⟨B, 0, none⟩) n c) ∧ ws.map (·.data.toList) = Ln.words s.data.toList ∧ ws.length = n ∧ n ≤ c ∧ c ≤ 9223372036854775807 ∧ w.heap.size ≤ B ∧ n ≤ s.size + 2 ∧ StrsAt w' B 0 ws ∧ Und w w'

set_option maxHeartbeats 3200000 in
theorem words_any (s : ByteArray) (w : World) (hs : s.size < 4294967281) : Calls Tryd.prog 56 #[.string s] w (WordsEnd s w) := by
  obtain ⟨ii, hi, hz0, hz1, hz2⟩ := info_parts info_str
  have hlen : s.data.toList.length = s.size := by simp
  have HLEN := hid hlen
  clear hlen
  go_enter Tryd.func56, Tryd.ntmps56
  go_wp2
  go_loopw [3, 4, 5] (fun v f i wr => WdRel s w v f i wr) (fun _ _ i _ => s.size + 2 - (intOf i).toNat)
  case atStart => exact ⟨0, 0, [], rfl, rfl, by simp, World.ownsRow_nil _ _ _ _, Und.refl _, Or.inl ⟨by omega, by omega, by simp, fun j hj h1 h2 => by omega⟩⟩
  case round =>
    obtain ⟨k, a, ws, rfl, rfl, hk, hown, hu, hh⟩ := hrel
    have HO := hid hown
    have HU := hid hu
    clear hown hu
    rcases hh with ⟨h1, h2, hw, hno⟩ | ⟨h1, hw⟩
    · have HW := hid hw
      have HN := hid hno
      clear hw hno
      have key : ∀ (b : Nat), b = k → (k = s.size ∨ ∃ hk : k < s.data.toList.length, s.data.toList[k].toNat = 32) → Ln.words (s.data.toList.drop a) = [(s.extract a k).data.toList] ++ (if k = s.size then [] else Ln.words (s.data.toList.drop (k + 1))) := by
        intro b _ hc
        rw [ext_data]
        by_cases hks : k = s.size
        · rw [if_pos hks, Ln.words_last _ a (fun j hj ha => HN.out j hj ha (by have := HLEN.out; omega))]
          rw [List.take_of_length_le (by have := HLEN.out; simp; omega)]
          rfl
        · rw [if_neg hks]
          rcases hc with h | ⟨hk', hc⟩
          · exact absurd h hks
          · exact Ln.words_seg _ a k h2 hk' HN.out hc
      have KEY := hid key
      clear key
      by_cases hks : k = s.size
      · have HKS := hid hks
        have hb1 : ((k : Int) == (s.size : Int)) = true := by simp; omega
        have hkl : k ≤ 4294967280 := by omega
        clear hks
        go_wp2_with (at_builtin; refine wpList_append_own _ rfl _ _ 30 rfl w.heap.size 9 ii (.string ⟨#[]⟩) 1 16 Tryd.underlying30 hi hz0 hz1 hz2 rfl (by decide) u3 ws.length _ rfl (HO.out.alloc _) _ 1 1 [.string (s.extract a k)] rfl rfl ?_ (by simp; rfl) (by unfold maxLen; omega) (by omega) ?_ ?_)
        · exact side1s _ _
        · exact Nat.le_trans HU.out.size (by simp)
        · intro v1 w1 hown1 hg hnil
          have HO1 := hid hown1
          have HU1 := hid ((HU.out.alloc _).grown hg (fun g hg => owns_block HO.out g hg))
          clear hown1 hg hnil
          go_wp2
          refine ⟨⟨k + 1, k + 1, ws ++ [s.extract a k], rfl, rfl, by simp; omega, by simpa using HO1.out, HU1.out, Or.inr ⟨by rw [HKS.out], ?_⟩⟩, by simp [intOf]; have := HKS.out; omega⟩
          rw [HW.out, KEY.out k rfl (Or.inl HKS.out), if_pos HKS.out]; simp
      · have hlt : k < s.size := by omega
        have hb1 : ((k : Int) == (s.size : Int)) = false := by simp; omega
        have HKS := hid hks
        clear hks
        by_cases hc : s[k].toNat = 32
        · have hcb : ((s[k].toNat : Int) == 32) = true := by simp; omega
          have HC := hid hc
          have hkl : k ≤ 4294967280 := by omega
          clear hc
          go_wp2_with (at_builtin; refine wpList_append_own _ rfl _ _ 30 rfl w.heap.size 9 ii (.string ⟨#[]⟩) 1 16 Tryd.underlying30 hi hz0 hz1 hz2 rfl (by decide) u3 ws.length _ rfl (HO.out.alloc _) _ 1 1 [.string (s.extract a k)] rfl rfl ?_ (by simp; rfl) (by unfold maxLen; omega) (by omega) ?_ ?_)
          · exact side1s _ _
          · exact Nat.le_trans HU.out.size (by simp)
          · intro v1 w1 hown1 hg hnil
            have HO1 := hid hown1
            have HU1 := hid ((HU.out.alloc _).grown hg (fun g hg => owns_block HO.out g hg))
            clear hown1 hg hnil
            go_wp2
            refine ⟨⟨k + 1, k + 1, ws ++ [s.extract a k], rfl, rfl, by simp; omega, by simpa using HO1.out, HU1.out, Or.inl ⟨by omega, by omega, ?_, fun j hj h1 h2 => by omega⟩⟩, by simp [intOf]; omega⟩
            rw [HW.out, KEY.out k rfl (Or.inr ⟨by have := HLEN.out; omega, HC.out⟩), if_neg HKS.out]; simp
        · have hcb : ((s[k].toNat : Int) == 32) = false := by simp; omega
          have HC := hid hc
          clear hc
          go_wp2
          refine ⟨⟨k + 1, a, ws, rfl, rfl, by omega, HO.out, HU.out, Or.inl ⟨by omega, by omega, HW.out, fun j hj h1 h2 => ?_⟩⟩, by simp [intOf]; omega⟩
          by_cases hjk : j = k
          · subst hjk; exact HC.out
          · exact HN.out j hj h1 (by omega)
    · have HW := hid hw
      have hgt : ¬ (k : Int) ≤ (s.size : Int) := by omega
      have HK1 := hid h1
      clear h1
      obtain ⟨A, c, rfl, hc1, hc2⟩ := own_slice HO.out
      have hpos : 0 < ws.length := by
        rcases Nat.eq_zero_or_pos ws.length with h | h
        · have : ws = [] := List.eq_nil_of_length_eq_zero h
          subst this
          exact absurd HW.out (Ln.words_ne _)
        · exact h
      obtain ⟨B, rfl, hB, hS⟩ := strs_own HO.out hpos
      have HS := hid hS
      have HC := hid hc2
      clear hw hS hc2
      go_wp2
      go_ret
      exact ⟨ws, B, ws.length, c, rfl, HW.out.symm, rfl, hc1, by have := HC.out; unfold maxLen at this; omega, hB, by have := HK1.out; omega, HS.out, HU.out⟩

def lnT (b : ByteArray) : List UInt8 × Bool := (b.data.toList, true)
def LnRel (s : ByteArray) (w : World) (v f i : Value) (wr : World) : Prop :=
  ∃ (k a : Nat) (ws : List ByteArray), f = .int .i64 a ∧ i = .int .i64 k ∧ ws.length ≤ k ∧ wr.ownsRow w.heap.size 9 1 v ws.length (ws.map Value.string) ∧ Und w wr ∧
    k ≤ s.size ∧ a ≤ k ∧ Ln.lines s.data.toList = ws.map lnT ++ Ln.lines (s.data.toList.drop a) ∧ ∀ j (hj : j < s.data.toList.length), a ≤ j → j < k → s.data.toList[j].toNat ≠ 10
def LinesEnd (s : ByteArray) (w : World) (e : Ending) (w' : World) : Prop :=
  ∃ (ws : List ByteArray) (A : Option Addr) (n c : Nat) (b : Bool), e = .returned (.tuple #[.slice A n c, .bool b]) ∧ ws.length = n ∧ n ≤ s.size + 1 ∧ (0 < n → ∃ B, A = some ⟨B, 0, none⟩ ∧ StrsAt w' B 0 ws) ∧ Und w w' ∧
    ((b = true ∧ Ln.lines s.data.toList = ws.map lnT) ∨ (b = false ∧ ∃ ws' x, ws = ws' ++ [x] ∧ Ln.lines s.data.toList = ws'.map lnT ++ [(x.data.toList, false)]))

set_option maxHeartbeats 3200000 in
theorem lines_any (s : ByteArray) (w : World) (hs : s.size < 4294967281) : Calls Tryd.prog 46 #[.string s] w (LinesEnd s w) := by
  obtain ⟨ii, hi, hz0, hz1, hz2⟩ := info_parts info_str
  have hlen : s.data.toList.length = s.size := by simp
  have HLEN := hid hlen
  clear hlen
  go_enter Tryd.func46, Tryd.ntmps46
  go_wp2
  go_loopw [2, 4, 5] (fun v f i wr => LnRel s w v f i wr) (fun _ _ i _ => s.size + 2 - (intOf i).toNat)
  case atStart => exact ⟨0, 0, [], rfl, rfl, by simp, World.ownsRow_nil _ _ _ _, Und.refl _, by omega, by omega, by simp, fun j hj h1 h2 => by omega⟩
  case round =>
    obtain ⟨k, a, ws, rfl, rfl, hk, hown, hu, h1, h2, hw, hno⟩ := hrel
    have HO := hid hown
    have HU := hid hu
    have HW := hid hw
    have HN := hid hno
    clear hown hu hw hno
    by_cases hlt : k < s.size
    · by_cases hc : s[k].toNat = 10
      · have hcb : ((s[k].toNat : Int) == 10) = true := by simp; omega
        have HC := hid hc
        have hkl : k ≤ 4294967280 := by omega
        clear hc
        go_wp2_with (at_builtin; refine wpList_append_own _ rfl _ _ 30 rfl w.heap.size 9 ii (.string ⟨#[]⟩) 1 16 Tryd.underlying30 hi hz0 hz1 hz2 rfl (by decide) u2 ws.length _ rfl (HO.out.alloc _) _ 1 1 [.string (s.extract a k)] rfl rfl ?_ (by simp; rfl) (by unfold maxLen; omega) (by omega) ?_ ?_)
        · exact side1s _ _
        · exact Nat.le_trans HU.out.size (by simp)
        · intro v1 w1 hown1 hg hnil
          have HO1 := hid hown1
          have HU1 := hid ((HU.out.alloc _).grown hg (fun g hg => owns_block HO.out g hg))
          clear hown1 hg hnil
          go_wp2
          refine ⟨⟨k + 1, k + 1, ws ++ [s.extract a k], rfl, rfl, by simp; omega, by simpa using HO1.out, HU1.out, by omega, by omega, ?_, fun j hj h1 h2 => by omega⟩, by simp [intOf]; omega⟩
          rw [HW.out, Ln.lines_seg _ a k h2 (by have := HLEN.out; omega) HN.out HC.out, ← ext_data]; simp [lnT]
      · have hcb : ((s[k].toNat : Int) == 10) = false := by simp; omega
        have HC := hid hc
        clear hc
        go_wp2
        refine ⟨⟨k + 1, a, ws, rfl, rfl, by omega, HO.out, HU.out, by omega, by omega, HW.out, fun j hj h1 h2 => ?_⟩, by simp [intOf]; omega⟩
        by_cases hjk : j = k
        · subst hjk; exact HC.out
        · exact HN.out j hj h1 (by omega)
    · obtain rfl : k = s.size := by omega
      clear hlt
      by_cases hal : a < s.size
      · have hll : Ln.lines (s.data.toList.drop a) = [((s.extract a s.size).data.toList, false)] := by
          rw [Ln.lines_last _ a (by have := HLEN.out; omega) (fun j hj ha => HN.out j hj ha (by have := HLEN.out; omega)), ext_data]
          rw [List.take_of_length_le (by have := HLEN.out; simp)]
        have HLL := hid hll
        clear hll
        go_wp2_with (at_builtin; refine wpList_append_own _ rfl _ _ 30 rfl w.heap.size 9 ii (.string ⟨#[]⟩) 1 16 Tryd.underlying30 hi hz0 hz1 hz2 rfl (by decide) u2 ws.length _ rfl (HO.out.alloc _) _ 1 1 [.string (s.extract a s.size)] rfl rfl ?_ (by simp; rfl) (by unfold maxLen; omega) (by omega) ?_ ?_)
        · exact side1s _ _
        · exact Nat.le_trans HU.out.size (by simp)
        · intro v1 w1 hown1 hg hnil
          obtain ⟨A, c, rfl, hc1, hc2⟩ := own_slice hown1
          have HO1 := hid hown1
          have HU1 := hid ((HU.out.alloc _).grown hg (fun g hg => owns_block HO.out g hg))
          clear hown1 hg hnil hc2
          go_wp2
          go_ret2
          refine ⟨ws ++ [s.extract a s.size], A, ws.length + 1, c, false, rfl, by simp, by omega, fun _ => ?_, HU1.out, Or.inr ⟨rfl, ws, _, rfl, by rw [HW.out, HLL.out]⟩⟩
          obtain ⟨B, hA, _, hS⟩ := strs_own (ws := ws ++ [s.extract a s.size]) (by simpa using HO1.out) (by omega)
          exact ⟨B, hA, hS⟩
      · have hll : Ln.lines (s.data.toList.drop a) = [] := by rw [List.drop_of_length_le (by have := HLEN.out; omega)]; rfl
        obtain ⟨A, c, rfl, hc1, hc2⟩ := own_slice HO.out
        have HLL := hid hll
        clear hll hc2
        go_wp2
        go_ret2
        refine ⟨ws, A, ws.length, c, true, rfl, rfl, by omega, fun h0 => ?_, HU.out, Or.inl ⟨rfl, by rw [HW.out, HLL.out, List.append_nil]⟩⟩
        obtain ⟨B, hA, _, hS⟩ := strs_own HO.out h0
        exact ⟨B, hA, hS⟩
end Go.Proofs.YthgmlkeojhfijaaDoor
