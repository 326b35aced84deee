/- The contracts of the reference's Has, Numbers, upTo, Rename and Renumber at items that reading has numbered: they are left as they are. Conditions: lists and texts lie in memory and are no longer than they can be. -/
import Derived.Test.YtiifjfbfkhhpeaaGreatDoorRefNum
import Derived.Test.YtiifjfbfkhhpeaaGreatDoorMakeGen
import Derived.Test.YtiifjfbfkhhpeaaGreatDoorNumPl
set_option linter.unusedVariables false
set_option linter.unusedSimpArgs false
namespace Go.Proofs.YtiifjfbfkhhpeaaGreatDoor
open Go.RowKit

def cellsZ (l : List Int) : List Value := l.map (Value.int .i64)
theorem cellsZ_snoc (l : List Int) (i : Int) : cellsZ (l ++ [i]) = cellsZ l ++ [.int .i64 i] := by simp [cellsZ]
theorem ints_row {w : World} {B n c : Nat} {A : Option Addr} {zs : List Int} (h : w.ownsRow B 3 1 (.slice A n c) n (cellsZ zs)) (hn : zs.length = n) : IntsAt w A zs := by
  intro h0
  obtain ⟨g, rfl, _, hg, hc⟩ := own_cell h (by omega)
  refine ⟨g, 0, rfl, hg, fun i hi => ?_⟩
  rw [Nat.zero_add]
  exact hc i _ (by unfold cellsZ; rw [List.getElem?_map, List.getElem?_eq_getElem hi]; simp [List.getD_eq_getElem?_getD, hi])
def HsRel (w : World) (l : List Int) (i : Int) (s5 : Value) (wr : World) : Prop := ∃ k : Nat, k ≤ l.length ∧ s5 = .int .i64 k ∧ i ∉ l.take k ∧ w = wr
theorem has_snoc {l : List Int} {k : Nat} {i : Int} (h : i ∉ l.take k) (hk : k < l.length) (hne : l.getD k 0 ≠ i) : i ∉ l.take (k + 1) := by
  rw [List.take_add_one, List.getElem?_eq_getElem hk, List.mem_append]
  rintro (e | e)
  · exact h e
  · simp only [Option.toList_some, List.mem_singleton] at e
    rw [List.getD_eq_getElem?_getD, List.getElem?_eq_getElem hk] at hne
    exact hne e.symm
theorem has_at {l : List Int} {k : Nat} {i : Int} (hk : k < l.length) (he : l.getD k 0 = i) : i ∈ l := by
  rw [List.getD_eq_getElem?_getD, List.getElem?_eq_getElem hk] at he
  simp only [Option.getD_some] at he
  rw [← he]; exact List.getElem_mem hk
set_option maxHeartbeats 3200000 in
theorem rhas_any (A : Option Addr) (n c : Nat) (l : List Int) (i : Int) (w : World) (hn : l.length = n) (h : IntsAt w A l) (hl : n ≤ 1000000000000) :
    Calls Tryz.prog 61 #[.slice A n c, .int .i64 i] w fun e w' => e = .returned (.bool (decide (i ∈ l))) ∧ w = w' := by
  have H := hid h
  have HN := hid hn
  clear h hn
  go_enter Tryz.func61, Tryz.ntmps61
  go_wp2
  go_loopw [8] (fun s8 wr => HsRel w l i s8 wr) (fun s8 _ => n + 1 - (intOf s8).toNat)
  case atStart => exact ⟨0, by omega, rfl, by simp, rfl⟩
  case round =>
    obtain ⟨k, hk, rfl, hni, rfl⟩ := hrel
    have HNI := hid hni
    have hN := HN.out
    clear hni
    by_cases hlt : k < n
    · have hlt2 : k < l.length := by omega
      obtain ⟨b, off, rfl, hb, hc⟩ := H.out (by omega)
      have c0 := hc k hlt2
      have hsn := fun (h : l.getD k 0 ≠ i) => has_snoc HNI.out hlt2 h
      have hat := fun (h : l.getD k 0 = i) => has_at hlt2 h
      generalize l.getD k 0 = z at c0 hsn hat
      haveI : LtW b w := LtW.of hb
      have HSN := hid hsn
      have HAT := hid hat
      clear hc hlt2 hsn hat
      by_cases hz : z = i
      · have hm := hid (HAT.out hz)
        subst hz
        have v1 : (z == z) = true := beq_self_eq_true _
        go_wp2
        go_ret
        exact ⟨ret_bool (decide_eq_true hm.out).symm, rfl⟩
      · have v1 : (z == i) = false := by simpa using hz
        have v2 : (z != i) = true := by simpa using hz
        have hm := hid (HSN.out hz)
        clear hz
        go_wp2
        exact ⟨⟨k + 1, by omega, congrArg (Value.int .i64) (by omega), hm.out, rfl⟩, by simp [intOf]; omega⟩
    · have hkn : k = n := by omega
      subst hkn
      have hft : l.take k = l := List.take_of_length_le (by omega)
      have hm := hid (show i ∉ l by have := HNI.out; rw [hft] at this; exact this)
      clear hlt hft HNI
      go_wp2
      go_ret
      exact ⟨ret_bool (decide_eq_false hm.out).symm, rfl⟩
theorem num_take (f : List St.It) (k : Nat) (h : k < f.length) : (f.take (k + 1)).foldl St.addN [] = St.addN ((f.take k).foldl St.addN []) f[k] := by
  rw [List.take_add_one, List.getElem?_eq_getElem h, List.foldl_append]; rfl
theorem num_len (l : List Int) (x : St.It) : (St.addN l x).length ≤ l.length + 1 := by unfold St.addN; split <;> simp
def NzRel (w : World) (f : List St.It) (n : Nat) (s3 s7 : Value) (wr : World) : Prop :=
  ∃ (k : Nat) (l : List Int), k ≤ n ∧ s7 = .int .i64 k ∧ l = (f.take k).foldl St.addN [] ∧ l.length ≤ k ∧ wr.ownsRow w.heap.size 3 1 s3 l.length (cellsZ l) ∧ Und w wr
set_option maxRecDepth 20000 in
set_option maxHeartbeats 6400000 in
theorem rnum_any (A : Option Addr) (n c : Nat) (f : List St.It) (w : World) (hn : f.length = n) (h : ItemsAt w A f) (hl : n ≤ 100000) :
    Calls Tryz.prog 39 #[.slice A n c] w fun e w' => ∃ v, e = .returned v ∧ (St.numL f).length ≤ n ∧ w'.ownsRow w.heap.size 3 1 v (St.numL f).length (cellsZ (St.numL f)) ∧ Und w w' := by
  have H := hid h
  have HN := hid hn
  obtain ⟨ii, ki, kz0, kz1, kz2⟩ := info_parts info_int
  clear h hn
  go_enter Tryz.func39, Tryz.ntmps39
  go_wp2
  go_loopw [3, 7] (fun s3 s7 wr => NzRel w f n s3 s7 wr) (fun _ s7 _ => n + 1 - (intOf s7).toNat)
  case atStart => exact ⟨0, [], by omega, rfl, rfl, by simp, World.ownsRow_nil _ _ _ _, Und.refl _⟩
  case round =>
    obtain ⟨k, l, hk, rfl, hle, hll, hown, hu⟩ := hrel
    have HU := hid hu
    have hsz := hu.size
    have HOW := hid hown
    have HLE := hid hle
    have hN := HN.out
    obtain ⟨AO, cO, rfl, _⟩ := own_slice hown
    clear hu hle hown
    by_cases hlt : k < n
    · have hlt2 : k < f.length := by omega
      obtain ⟨b, off, rfl, hb, hc⟩ := (H.out.und HU.out) (by omega)
      obtain ⟨c0, c1, c2⟩ := hc k hlt2
      have hnt := num_take f k hlt2
      rw [← HLE.out] at hnt
      generalize f[k] = x at c0 c1 c2 hnt
      obtain ⟨kd, tx, id⟩ := x
      simp only at c0 c1 c2
      have hit := fun t i W => istag_any kd t i W
      have HNT := hid hnt
      haveI : LtW b wr := LtW.of hb
      clear hc hlt2 hnt
      have hno : St.addN l (kd, tx, id) = l → ∀ W, Und wr W → NzRel w f n (.slice AO l.length cO) (.int .i64 ((k : Int) + 1)) W := fun e W hW =>
        ⟨k + 1, l, by omega, congrArg (Value.int .i64) (by omega), by rw [HNT.out, e], by omega, own_und hW HOW.out, HU.out.trans hW⟩
      have HNO := hid hno
      clear hno
      cases htg : St.isTagK kd
      · rw [htg] at hit
        have HIT := hid hit
        have he := hid (show St.addN l (kd, tx, id) = l by unfold St.addN; rw [if_neg (by simp [htg])])
        clear hit htg
        go_wp2_with fail
        refine (HIT.out _ _ _).mono ?_
        rintro e w3 ⟨rfl, hu3⟩
        have HU3 := hid (Und.trans ((by repeat (first | exact Und.refl _ | assumption | refine Und.under ?_ _ | refine Und.alloc ?_ _ | refine Und.drew ?_ | refine Und.drewN ?_ _))) hu3 : Und wr w3)
        clear hu3 c0 c1 c2
        go_wp2
        exact ⟨HNO.out he.out _ HU3.out, by simp [intOf]; omega⟩
      · rw [htg] at hit
        have HIT := hid hit
        clear hit
        go_wp2_with fail
        refine (HIT.out _ _ _).mono ?_
        rintro e w3 ⟨rfl, hu3⟩
        have hu3' : Und wr w3 := Und.trans ((by repeat (first | exact Und.refl _ | assumption | refine Und.under ?_ _ | refine Und.alloc ?_ _ | refine Und.drew ?_ | refine Und.drewN ?_ _))) hu3
        have d2 := (hu3'.cell hb).trans c2
        haveI : LtW b w3 := LtW.of (Nat.lt_of_lt_of_le hb hu3'.size)
        have hha := rhas_any AO l.length cO l id w3 rfl (ints_row (own_und hu3' HOW.out) rfl) (by omega)
        have HU3 := hid hu3'
        have HOW3 := hid (own_und hu3' HOW.out)
        clear hu3 hu3' c0 c1 c2
        by_cases hm : id ∈ l
        · rw [decide_eq_true hm] at hha
          have HHA := hid hha
          have he := hid (show St.addN l (kd, tx, id) = l by unfold St.addN; rw [if_neg (by rintro ⟨_, h⟩; exact h hm)])
          clear hha hm htg
          go_wp2_with fail
          refine HHA.out.mono ?_
          rintro e w4 ⟨rfl, rfl⟩
          go_wp2
          exact ⟨HNO.out he.out _ HU3.out, by simp [intOf]; omega⟩
        · rw [decide_eq_false hm] at hha
          have HHA := hid hha
          have he := hid (show St.addN l (kd, tx, id) = l ++ [id] by unfold St.addN; rw [if_pos ⟨htg, hm⟩])
          clear hha hm htg HNO
          go_wp2_with fail
          refine HHA.out.mono ?_
          rintro e w4 ⟨rfl, rfl⟩
          go_wp2_with (at_builtin; refine wpList_append_own _ rfl _ _ 23 rfl w.heap.size 3 ii (.int .i64 0) 1 8 Tryz.underlying23 ki kz0 kz1 kz2 rfl (by decide) (.slice AO l.length cO) l.length (cellsZ l) rfl (HOW3.out.alloc _) _ 1 1 [.int .i64 id] rfl rfl ?_ (by simp; rfl) (by unfold maxLen; omega) (by omega) ?_ ?_)
          · exact side1b _ _ _
          · have := HU3.out.size; simp; omega
          · intro v' w5 ho5 hg5 _
            rw [← cellsZ_snoc] at ho5
            have hu5 : Und w w5 := ((HU.out.trans HU3.out).alloc _).grown hg5 (fun g hg => owns_block HOW3.out g hg)
            have HE := hid (show NzRel w f n v' (.int .i64 ((k : Int) + 1)) w5 from ⟨k + 1, l ++ [id], by omega, congrArg (Value.int .i64) (by omega), by rw [HNT.out, he.out], by simp; omega, by rw [List.length_append, List.length_singleton]; exact ho5, hu5⟩)
            clear ho5 hg5 hu5
            go_wp2
            exact ⟨HE.out, by simp [intOf]; omega⟩
    · have hkn : k = n := by omega
      subst hkn
      have hft : f.take k = f := List.take_of_length_le (by omega)
      have hl2 : l = St.numL f := by rw [HLE.out, hft]; rfl
      subst hl2
      clear hlt hft HLE
      go_wp2
      go_ret
      exact ⟨_, rfl, hll, HOW.out, HU.out⟩
def UpRel (w : World) (n : Nat) (s2 s3 : Value) (wr : World) : Prop :=
  ∃ k : Nat, k ≤ n ∧ s3 = .int .i64 ((k : Int) + 1) ∧ wr.ownsRow w.heap.size 3 1 s2 k (cellsZ (St.upL k)) ∧ Und w wr
set_option maxHeartbeats 6400000 in
theorem rupto_any (n : Nat) (w : World) (hn : n ≤ 100000) :
    Calls Tryz.prog 41 #[.int .i64 (n : Int)] w fun e w' => ∃ v, e = .returned v ∧ w'.ownsRow w.heap.size 3 1 v n (cellsZ (St.upL n)) ∧ Und w w' := by
  obtain ⟨ii, ki, kz0, kz1, kz2⟩ := info_parts info_int
  go_enter Tryz.func41, Tryz.ntmps41
  go_wp2
  go_loopw [3, 4] (fun s3 s4 wr => UpRel w n s3 s4 wr) (fun _ s4 _ => n + 2 - (intOf s4).toNat)
  case atStart => exact ⟨0, by omega, rfl, World.ownsRow_nil _ _ _ _, Und.refl _⟩
  case round =>
    obtain ⟨k, hk, rfl, hown, hu⟩ := hrel
    have HU := hid hu
    have HOW := hid hown
    have hsz := hu.size
    obtain ⟨AO, cO, rfl, _⟩ := own_slice hown
    clear hu hown
    by_cases hlt : k < n
    · have y1 : (k : Int) + 1 ≤ (n : Int) := by omega
      go_wp2_with (at_builtin; refine wpList_append_own _ rfl _ _ 23 rfl w.heap.size 3 ii (.int .i64 0) 1 8 Tryz.underlying23 ki kz0 kz1 kz2 rfl (by decide) (.slice AO k cO) k (cellsZ (St.upL k)) rfl (HOW.out.alloc _) _ 1 1 [.int .i64 ((k : Int) + 1)] rfl rfl ?_ (by simp; rfl) (by unfold maxLen; omega) (by omega) ?_ ?_)
      · exact side1b _ _ _
      · simp; omega
      · intro v' w5 ho5 hg5 _
        rw [← cellsZ_snoc, ← St.upL_suc] at ho5
        have hu5 : Und w w5 := (HU.out.alloc _).grown hg5 (fun g hg => owns_block HOW.out g hg)
        have HE := hid (show UpRel w n v' (.int .i64 ((k : Int) + 1 + 1)) w5 from ⟨k + 1, by omega, congrArg (Value.int .i64) (by omega), ho5, hu5⟩)
        clear ho5 hg5 hu5
        go_wp2
        exact ⟨HE.out, by simp [intOf]; omega⟩
    · have hkn : k = n := by omega
      subst hkn
      have y1 : ¬ (k : Int) + 1 ≤ (k : Int) := by omega
      go_wp2
      go_ret
      exact ⟨_, rfl, HOW.out, HU.out⟩
/-- Every tag has one of the numbers 1 to q. -/
def UpTags (f : List St.It) (q : Nat) : Prop := ∀ x ∈ f, St.isTagK x.1 = true → 1 ≤ x.2.2 ∧ x.2.2 ≤ q
def ReRel (w : World) (f : List St.It) (n : Nat) (s7 s13 : Value) (wr : World) : Prop := ∃ k : Nat, k ≤ n ∧ s13 = .int .i64 k ∧ wr.ownsRow w.heap.size 38 3 s7 k (cellsIt (f.take k)) ∧ Und w wr
def RiRel (id : Int) (wr : World) (s10 : Value) (wz : World) : Prop := ∃ p : Nat, s10 = .int .i64 p ∧ (p : Int) < id ∧ Und wr wz
theorem upL_at {q p : Nat} (h : p < q) : (St.upL q).getD p 0 = (p : Int) + 1 := by
  unfold St.upL
  rw [List.getD_eq_getElem?_getD, List.getElem?_map, List.getElem?_range h]; rfl
set_option maxRecDepth 20000 in
set_option maxHeartbeats 12800000 in
theorem rren_any (A B C : Option Addr) (n c q d e0 : Nat) (f : List St.It) (w : World) (hn : f.length = n) (h : ItemsAt w A f) (hB : IntsAt w B (St.upL q)) (hC : IntsAt w C (St.upL q)) (hT : UpTags f q) (hl : n ≤ 100000) (hq : q ≤ 100000) (ht : tot f ≤ 4611686018427387904) (hNm : St.Nm f) :
    Calls Tryz.prog 40 #[.slice A n c, .slice B q d, .slice C q e0] w fun e w' => ∃ v, e = .returned v ∧ w'.ownsRow w.heap.size 38 3 v n (cellsIt f) ∧ Und w w' := by
  have H := hid h
  have HN := hid hn
  have HT := hid hT
  have HB := hid hB
  have HC := hid hC
  have HNM := hid hNm
  obtain ⟨i0, hi, hz0, hz1, hz2⟩ := info_parts info_item
  clear h hn hT hNm hB hC
  go_enter Tryz.func40, Tryz.ntmps40
  go_wp2
  go_loopw [7, 13] (fun s7 s13 wr => ReRel w f n s7 s13 wr) (fun _ s13 _ => n + 1 - (intOf s13).toNat)
  case atStart => exact ⟨0, by omega, rfl, World.ownsRow_nil _ _ _ _, Und.refl _⟩
  case round =>
    obtain ⟨k, hk, rfl, hown, hu⟩ := hrel
    have HU := hid hu
    have hsz := hu.size
    have HOW := hid hown
    have hN := HN.out
    obtain ⟨AO, cO, rfl, _⟩ := own_slice hown
    clear hu
    by_cases hlt : k < n
    · clear hown
      have hlt2 : k < f.length := by omega
      obtain ⟨b, off, rfl, hb, hc⟩ := (H.out.und HU.out) (by omega)
      obtain ⟨c0, c1, c2⟩ := hc k hlt2
      have htg := HT.out f[k] (List.getElem_mem hlt2)
      have hsn := items_snoc_take f k hlt2
      generalize f[k] = x at c0 c1 c2 htg hsn
      obtain ⟨kd, tx, id⟩ := x
      simp only at c0 c1 c2 htg hsn
      have hit := fun t i W => istag_any kd t i W
      have HSN := hid hsn
      haveI : LtW b wr := LtW.of hb
      clear hc hlt2 hsn
      cases hkd : St.isTagK kd
      · rw [hkd] at hit
        have HIT := hid hit
        clear hit htg hkd
        go_wp2_with fail
        refine (HIT.out _ _ _).mono ?_
        rintro e w3 ⟨rfl, hu3⟩
        have hu3' : Und wr w3 := Und.trans ((by repeat (first | exact Und.refl _ | assumption | refine Und.under ?_ _ | refine Und.alloc ?_ _ | refine Und.drew ?_ | refine Und.drewN ?_ _))) hu3
        have d0 : w3.cell? ⟨wr.heap.size, 0, none⟩ = some (.int .i64 kd) := (hu3.cell (p := ⟨wr.heap.size, 0, none⟩) (by simp)).trans (by simp)
        have d1 : w3.cell? ⟨wr.heap.size, 1, none⟩ = some (.string ⟨tx.toArray⟩) := (hu3.cell (p := ⟨wr.heap.size, 1, none⟩) (by simp)).trans (by simp)
        have d2 : w3.cell? ⟨wr.heap.size, 2, none⟩ = some (.int .i64 id) := (hu3.cell (p := ⟨wr.heap.size, 2, none⟩) (by simp)).trans (by simp)
        haveI : LtW wr.heap.size w3 := LtW.of (World.block_lt_of_cell? _ _ d0)
        have HU3 := hid (HU.out.trans hu3')
        have HOW3 := hid (own_und hu3' HOW.out)
        clear hu3 hu3' c0 c1 c2
        go_wp2_with (at_builtin; refine wpList_append_own _ rfl _ _ 22 rfl w.heap.size 38 i0 (.agg #[.int .i64 0, .string ⟨#[]⟩, .int .i64 0]) 3 32 Tryz.underlying22 hi hz0 hz1 hz2 rfl (by decide) (.slice AO k cO) k _ rfl (HOW3.out.alloc _) _ 1 1 [.int .i64 kd, .string ⟨tx.toArray⟩, .int .i64 id] rfl rfl ?_ (item_one _ _ _) (by unfold maxLen; omega) (by omega) ?_ ?_)
        · exact side3b _ _ _ _ _ _ rfl
        · have := HU3.out.size; have h2 := (Und.refl w3).alloc (.cells #[.int .i64 kd, .string ⟨tx.toArray⟩, .int .i64 id] 38) |>.size; omega
        · intro v' w4 hown' hgrow _
          have hrel : ReRel w f n v' (.int .i64 ((k + 1 : Nat) : Int)) w4 := ⟨k + 1, by omega, rfl, by rw [HSN.out]; exact hown', (HU3.out.alloc _).grown hgrow (fun g hg => owns_block HOW3.out g hg)⟩
          have HREL := hid hrel
          clear hown' hgrow hrel
          go_wp2
          exact ⟨by simpa using HREL.out, by simp [intOf]; omega⟩
      · rw [hkd] at hit
        obtain ⟨g1, g2⟩ := htg hkd
        have HIT := hid hit
        clear hit htg hkd
        go_wp2_with fail
        refine (HIT.out _ _ _).mono ?_
        rintro e w3 ⟨rfl, hu3⟩
        have hu3' : Und wr w3 := Und.trans ((by repeat (first | exact Und.refl _ | assumption | refine Und.under ?_ _ | refine Und.alloc ?_ _ | refine Und.drew ?_ | refine Und.drewN ?_ _))) hu3
        have d0 : w3.cell? ⟨wr.heap.size, 0, none⟩ = some (.int .i64 kd) := (hu3.cell (p := ⟨wr.heap.size, 0, none⟩) (by simp)).trans (by simp)
        have d1 : w3.cell? ⟨wr.heap.size, 1, none⟩ = some (.string ⟨tx.toArray⟩) := (hu3.cell (p := ⟨wr.heap.size, 1, none⟩) (by simp)).trans (by simp)
        have d2 : w3.cell? ⟨wr.heap.size, 2, none⟩ = some (.int .i64 id) := (hu3.cell (p := ⟨wr.heap.size, 2, none⟩) (by simp)).trans (by simp)
        have hbx := World.block_lt_of_cell? _ _ d0
        haveI : LtW wr.heap.size w3 := LtW.of hbx
        have HU3 := hid (HU.out.trans hu3')
        have HOW3 := hid (own_und hu3' HOW.out)
        clear hu3 hu3' c0 c1 c2
        generalize wr.heap.size = bx at *
        go_wp2_with fail
        go_loopw [7, 10] (fun s7 s10 wr => s7 = .slice AO k cO ∧ RiRel id w3 s10 wr) (fun _ s10 _ => q + 1 - (intOf s10).toNat)
        case atStart => exact ⟨rfl, 0, rfl, by omega, Und.refl _⟩
        case round =>
          obtain ⟨rfl, p, rfl, hp, hu⟩ := hrel
          have HUZ := hid hu
          have hpq : p < q := by omega
          have y1 : (p : Int) < (q : Int) := by omega
          obtain ⟨b1, o1, rfl, hb1, hc1⟩ := (HB.out.und (HU3.out.trans hu)) (by rw [St.upL_len]; omega)
          obtain ⟨b2, o2, rfl, hb2, hc2⟩ := (HC.out.und (HU3.out.trans hu)) (by rw [St.upL_len]; omega)
          have e1 := hc1 p (by rw [St.upL_len]; exact hpq)
          have e2 := hc2 p (by rw [St.upL_len]; exact hpq)
          rw [upL_at hpq] at e1 e2
          haveI : LtW b1 wr := LtW.of hb1
          haveI : LtW b2 wr := LtW.of hb2
          have f2 := (hu.cell (p := ⟨bx, 2, none⟩) hbx).trans d2
          haveI : LtW bx wr := LtW.of (World.block_lt_of_cell? _ _ f2)
          clear hc1 hc2 hu
          by_cases hpe : (p : Int) + 1 = id
          · have v1 : ((p : Int) + 1 == id) = true := by simpa using hpe
            rw [hpe] at e1 e2
            have v2 : (id == id) = true := beq_self_eq_true _
            clear hpe
            go_wp2_with fail
            first | refine wp_region_under2 (by kernel_rfl) (by kernel_rfl) ?_ | refine wp_region_under (by kernel_rfl) (by kernel_rfl) ?_
            repeat (go_big_quiet_step (first | (fail)))
            refine wpQuiet_nil ?_
            rintro _ ⟨X, rfl⟩
            obtain ⟨w5, hw5⟩ : ∃ w5, w5 = under wr X := ⟨_, rfl⟩
            have hu5 : Und wr w5 := by rw [hw5]; exact (Und.refl _).under X
            have hu6 : Und w3 w5 := HUZ.out.trans hu5
            have m0 := (hu6.cell (p := ⟨bx, 0, none⟩) hbx).trans d0
            have m1 := (hu6.cell (p := ⟨bx, 1, none⟩) hbx).trans d1
            have m2 := (hu6.cell (p := ⟨bx, 2, none⟩) hbx).trans d2
            have n2 := (hu5.cell (p := ⟨b2, o2 + p, none⟩) hb2).trans e2
            rw [← hw5]
            haveI : LtW b2 w5 := LtW.of (World.block_lt_of_cell? _ _ n2)
            haveI : LtW bx w5 := LtW.of (World.block_lt_of_cell? _ _ m0)
            have HO5 := hid (own_und hu6 HOW3.out)
            have HU5 := hid (HU3.out.trans hu6)
            have hsz5 := HU5.out.size
            clear hw5 hu5 hu6 e1 e2 f2 d0 d1 d2
            go_wp2_with fail
            go_region_law (refine step_append_own rfl (.tmp 46) (.tmp 56) 22 rfl w.heap.size 38 i0 (.agg #[.int .i64 0, .string ⟨#[]⟩, .int .i64 0]) 3 32 Tryz.underlying22 hi hz0 hz1 hz2 rfl (by decide) (.slice AO k cO) k _ rfl (owns_und (HO5.out.alloc (.cells #[.int .i64 kd, .string ⟨tx.toArray⟩, .int .i64 id] 38)) (Und.refl _).drew) ⟨w5.heap.size, 0, none⟩ 1 1 [.int .i64 kd, .string ⟨tx.toArray⟩, .int .i64 id] rfl rfl (side3b w5 _ _ _ 38 _ rfl) (item_one kd id _) (by unfold maxLen; omega) (by omega) (by simp <;> omega) ?_; intro v' w6 hown' hgrow _; have hgr := gb_trans (Und.gb ((by repeat (first | exact Und.refl _ | assumption | refine Und.under ?_ _ | refine Und.alloc ?_ _ | refine Und.drew ?_ | refine Und.drewN ?_ _)) : Und w5 (w5.alloc (.cells #[.int .i64 kd, .string ⟨tx.toArray⟩, .int .i64 id] 38)).drew) (Value.slice AO k cO).ownBlock) hgrow (fun g e => Or.inl e))
            all_goals
              have hrel : ReRel w f n v' (.int .i64 ((k : Int) + 1)) w6 := ⟨k + 1, by omega, congrArg (Value.int .i64) (by omega), by rw [HSN.out]; exact hown', HU5.out.grown hgr (fun g hg => owns_block HO5.out g hg)⟩
              have HREL := hid hrel
              clear hrel hown' hgrow hgr
              go_wp2
              first | exact ⟨HREL.out, by simp [intOf]; omega⟩ | (refine ⟨?_, by simp [intOf]; omega⟩; (repeat apply Exists.intro); exact ⟨HREL.out, rfl⟩)
          · have v1 : ((p : Int) + 1 == id) = false := by simpa using hpe
            have hnx : ∀ X, RiRel id w3 (.int .i64 ((p : Int) + 1)) (under wr X) := fun X => ⟨p + 1, congrArg (Value.int .i64) (by omega), by omega, HUZ.out.under X⟩
            clear d0 d1 d2
            go_wp2_with fail
            first | refine wp_region_under2 (by kernel_rfl) (by kernel_rfl) ?_ | refine wp_region_under (by kernel_rfl) (by kernel_rfl) ?_
            repeat (go_big_quiet_step (first | (fail)))
            refine wpQuiet_nil ?_
            rintro _ ⟨X, rfl⟩
            go_wp2
            exact ⟨⟨rfl, hnx X⟩, by simp [intOf]; omega⟩
    · have hkn : k = n := by omega
      subst hkn
      have hft : f.take k = f := List.take_of_length_le (by omega)
      rw [hft] at hown
      have hno := normalize_any AO k cO f wr hN (items_own hown hN) hl ht
      rw [HNM.out, hN] at hno
      have HNO := hid hno
      clear hlt hown hno hft
      go_wp2_with fail
      refine HNO.out.mono ?_
      rintro e w5 ⟨v, rfl, ho, hu5⟩
      have HE := hid (And.intro (own_low ho (by omega)) (HU.out.trans hu5))
      clear ho hu5
      go_wp2
      go_ret
      exact ⟨v, rfl, HE.out.1, HE.out.2⟩
set_option maxHeartbeats 3200000 in
theorem rrenumber_any (A : Option Addr) (n c q : Nat) (f : List St.It) (w : World) (hn : f.length = n) (h : ItemsAt w A f) (hq : St.numL f = St.upL q) (hT : UpTags f q) (hl : n ≤ 100000) (ht : tot f ≤ 4611686018427387904) (hNm : St.Nm f) :
    Calls Tryz.prog 17 #[.slice A n c] w fun e w' => ∃ v, e = .returned v ∧ w'.ownsRow w.heap.size 38 3 v n (cellsIt f) ∧ Und w w' := by
  have h1 := rnum_any A n c f w hn h hl
  rw [hq, St.upL_len] at h1
  have H1 := hid h1
  have H := hid h
  clear h1 h
  go_enter Tryz.func17, Tryz.ntmps17
  go_wp2_with fail
  refine H1.out.mono ?_
  rintro e w2 ⟨v2, rfl, hqn, ho2, hu2⟩
  obtain ⟨A2, c2, rfl, _, _, _⟩ := own_slice' ho2
  have HU2 := hid hu2
  have HI2 := hid (ints_row ho2 (St.upL_len q))
  have HUP := hid (fun W => rupto_any q W (by omega))
  clear hu2 ho2
  go_wp2_with fail
  refine (HUP.out _).mono ?_
  rintro e w3 ⟨v3, rfl, ho3, hu3⟩
  obtain ⟨A3, c3, rfl, _, _, _⟩ := own_slice' ho3
  have hr := rren_any A A2 A3 n c q c2 c3 f w3 hn (H.out.und (HU2.out.trans hu3)) (HI2.out.und hu3) (ints_row ho3 (St.upL_len q)) hT hl (by omega) ht hNm
  have HR := hid hr
  have HU3 := hid (HU2.out.trans hu3)
  clear hr ho3 hu3
  go_wp2_with fail
  refine HR.out.mono ?_
  rintro e w4 ⟨v, rfl, ho, hu4⟩
  have HE := hid (And.intro (own_low ho (by have := HU3.out.size; omega)) (HU3.out.trans hu4))
  clear ho hu4
  go_wp2
  go_ret
  exact ⟨v, rfl, HE.out.1, HE.out.2⟩
end Go.Proofs.YtiifjfbfkhhpeaaGreatDoor
