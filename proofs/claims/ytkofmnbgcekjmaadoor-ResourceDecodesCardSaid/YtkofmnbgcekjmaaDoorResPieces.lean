/- Plain: the pieces of a resource's raw value that the maker writes. No program in sight. -/
import Derived.Test.YtkofmnbgcekjmaaDoorResPl
import Derived.Test.YtkofmnbgcekjmaaDoorRawsPl
import Derived.Test.YtkofmnbgcekjmaaDoorMakeRaws
namespace Go.Proofs.YtkofmnbgcekjmaaDoor

namespace St
theorem nameHd' {t : List UInt8} (h : isNameL t = true) : ∃ c r, t = c :: r ∧ c.toNat ≠ 123 := by
  cases t with
  | nil => cases h
  | cons c r =>
    rw [isNameL] at h
    simp only [Bool.and_eq_true, decide_eq_true_eq, lowC] at h
    exact ⟨c, r, rfl, by omega⟩
theorem name_all' {t : List UInt8} (h : isNameL t = true) : ∀ c ∈ t, c.toNat ≠ 125 := by
  cases t with
  | nil => cases h
  | cons c r =>
    rw [isNameL] at h
    simp only [Bool.and_eq_true, decide_eq_true_eq, lowC] at h
    obtain ⟨_, h1, h2⟩ := h
    intro d hd
    rcases List.mem_cons.1 hd with rfl | hd
    · omega
    · have := List.all_eq_true.1 h2 d hd
      simp only [nameC, decide_eq_true_eq] at this
      omega
theorem slot_enc' {t : List UInt8} (h : isNameL t = true) (rest : List UInt8) : slotL (123 :: (t ++ 125 :: rest)) = some (t, t.length + 2) := by
  have htw : (t ++ 125 :: rest).takeWhile (fun c => decide (c.toNat ≠ 125)) = t := by
    rw [List.takeWhile_append_of_pos (fun c hc => by simpa using name_all' h c hc), List.takeWhile_cons_of_neg (by decide), List.append_nil]
  unfold slotL
  simp only [List.drop_succ_cons, List.drop_zero, htw]
  rw [h, decide_eq_true (by simp)]
  rfl
theorem u8_of {c : UInt8} {n : Nat} (h : c.toNat = n) : c = UInt8.ofNat n := by
  apply UInt8.toNat_inj.1
  rw [h, UInt8.toNat_ofNat_of_lt']
  rw [← h]; exact c.toNat_lt
/-- What a byte of text is written as is read as that byte, and does not begin with a tab; with a space only where it is one. -/
theorem res_byte (c : UInt8) (rest : List UInt8) : resL (encB 2 c ++ rest) = some (1, [c], (encB 2 c).length) := by
  by_cases h10 : c.toNat = 10
  · obtain rfl := u8_of h10; rfl
  by_cases h9 : c.toNat = 9
  · obtain rfl := u8_of h9; rfl
  by_cases h13 : c.toNat = 13
  · obtain rfl := u8_of h13; rfl
  by_cases h92 : c.toNat = 92
  · obtain rfl := u8_of h92; rfl
  by_cases h123 : c.toNat = 123
  · obtain rfl := u8_of h123; rfl
  have e : encB 2 c = [c] := by unfold encB; simp [h10, h9, h13, h92, h123]
  rw [e]
  exact res_else h10 h92 h123
theorem res_slot {t : List UInt8} (h : isNameL t = true) (rest : List UInt8) : resL (123 :: (t ++ [125]) ++ rest) = some (5, t, (123 :: (t ++ [125])).length) := by
  have e : 123 :: (t ++ [125]) ++ rest = 123 :: (t ++ 125 :: rest) := by simp
  rw [e, res_123 (by decide), slot_enc' h]
  simp
theorem res_piece {p : It} (h : Pos1 p) : Piece resL (encI 2 p) p := by
  rcases h with ⟨c, rfl⟩ | ⟨t, rfl, ht⟩
  · have e : encI 2 (1, [c], 0) = encB 2 c := by simp [encI]
    rw [e]
    exact piece_of res_elen (by intro h0; have := (encB_len 2 c).1; rw [h0] at this; simp at this) (by decide) (fun rest => res_byte c rest)
  · have e : encI 2 (5, t, 0) = 123 :: (t ++ [125]) := by simp [encI]
    rw [e]
    exact piece_of res_elen (by simp) (by decide) (fun rest => res_slot ht rest)
theorem res_s : Piece resL [92, 115] (1, [32], 0) := piece_of res_elen (by simp) (by decide) (fun _ => rfl)
/-- The first byte of a shielded piece is no blank. -/
theorem shield_head {p : It} (h : Pos1 p) : ∃ c r, shieldL (encI 2 p) = c :: r ∧ blkC c = false := by
  rcases h with ⟨c, rfl⟩ | ⟨t, rfl, ht⟩
  · have e : encI 2 (1, [c], 0) = encB 2 c := by simp [encI]
    rw [e]
    by_cases h10 : c.toNat = 10
    · obtain rfl := u8_of h10; exact ⟨92, [110], rfl, rfl⟩
    by_cases h9 : c.toNat = 9
    · obtain rfl := u8_of h9; exact ⟨92, [116], rfl, rfl⟩
    by_cases h13 : c.toNat = 13
    · obtain rfl := u8_of h13; exact ⟨92, [114], rfl, rfl⟩
    by_cases h92 : c.toNat = 92
    · obtain rfl := u8_of h92; exact ⟨92, [92], rfl, rfl⟩
    by_cases h123 : c.toNat = 123
    · obtain rfl := u8_of h123; exact ⟨92, [123], rfl, rfl⟩
    have e : encB 2 c = [c] := by unfold encB; simp [h10, h9, h13, h92, h123]
    rw [e, shieldL]
    by_cases h32 : c.toNat = 32
    · rw [if_pos h32]; exact ⟨92, [115], rfl, rfl⟩
    · rw [if_neg h32]; exact ⟨c, [], rfl, by simp [blkC, h32, h9]⟩
  · have e : encI 2 (5, t, 0) = 123 :: (t ++ [125]) := by simp [encI]
    rw [e]
    exact ⟨123, t ++ [125], rfl, rfl⟩
theorem shield_piece {p : It} (h : Pos1 p) : Piece resL (shieldL (encI 2 p)) p := by
  have h0 := res_piece h
  rcases h with ⟨c, rfl⟩ | ⟨t, rfl, ht⟩
  · have e : encI 2 (1, [c], 0) = encB 2 c := by simp [encI]
    rw [e] at h0 ⊢
    by_cases h32 : c.toNat = 32
    · obtain rfl := u8_of h32
      exact res_s
    · have : shieldL (encB 2 c) = encB 2 c := by
        have hn : ∀ d r, encB 2 c = d :: r → d.toNat ≠ 32 := by
          intro d r hd
          unfold encB at hd
          simp only [Int.reduceEq, if_false, if_true] at hd
          repeat' split at hd
          all_goals
            simp only [List.cons.injEq] at hd
            first | (rw [← hd.1]; decide) | (rw [← hd.1]; exact h32)
        cases hb : encB 2 c with
        | nil => rfl
        | cons d r => rw [shieldL, if_neg (hn d r hb)]
      rw [this]; exact h0
  · have e : encI 2 (5, t, 0) = 123 :: (t ++ [125]) := by simp [encI]
    rw [e] at h0 ⊢
    rw [shieldL, if_neg (by decide)]
    exact h0
theorem blank_blk (r : Nat) : ∀ c ∈ blankL r, blkC c = true := by
  unfold blankL
  intro c hc
  split at hc
  · simp at hc
  · split at hc
    · simp at hc; subst hc; rfl
    · simp at hc; rcases hc with rfl | rfl <;> rfl
theorem cont_piece {p : It} (h : Pos1 p) (r : Nat) : Piece resL ([92, 10] ++ blankL r ++ shieldL (encI 2 p)) p := by
  obtain ⟨c, q, hc, hb⟩ := shield_head h
  intro rest a d f cuts hf
  have e : [92, 10] ++ blankL r ++ shieldL (encI 2 p) ++ rest = 92 :: 10 :: (blankL r ++ (shieldL (encI 2 p) ++ rest)) := by simp
  have hn : blkN (blankL r ++ (shieldL (encI 2 p) ++ rest)) = (blankL r).length := by
    unfold blkN
    rw [List.takeWhile_append_of_pos (blank_blk r), hc, List.cons_append, List.takeWhile_cons_of_neg (by simp [hb])]
    simp
  have hs : resL (92 :: 10 :: (blankL r ++ (shieldL (encI 2 p) ++ rest))) = some (0, [], 2 + (blankL r).length) := by rw [res_cont (by decide) (by decide), hn]
  rw [e, decF_skip res_elen a d f cuts (by simp) hs]
  have e2 : (92 :: 10 :: (blankL r ++ (shieldL (encI 2 p) ++ rest))).drop (2 + (blankL r).length) = shieldL (encI 2 p) ++ rest := by
    have : 2 + (blankL r).length = (92 :: 10 :: blankL r).length := by simp; omega
    rw [this, show (92 :: 10 :: (blankL r ++ (shieldL (encI 2 p) ++ rest))) = (92 :: 10 :: blankL r) ++ (shieldL (encI 2 p) ++ rest) by simp, List.drop_left]
  rw [e2, shield_piece h rest _ d f cuts hf]
  have e3 : a + (2 + (blankL r).length) + (shieldL (encI 2 p)).length = a + ([92, 10] ++ blankL r ++ shieldL (encI 2 p)).length := by simp; omega
  rw [e3]
theorem res_form {p : It} {b : List UInt8} (h : Pos1 p) (hf : formB 2 p b) : Piece resL b p := by
  rcases hf with rfl | ⟨h1, _⟩ | ⟨_, ⟨h1, h2, rfl⟩ | ⟨r, _, rfl⟩⟩
  · exact res_piece h
  · exact absurd h1 (by decide)
  · obtain ⟨k, t, i⟩ := p
    simp only at h1 h2
    subst h1 h2
    rcases h with ⟨c, hc⟩ | ⟨t, ht, _⟩
    · simp only [Prod.mk.injEq] at hc
      obtain ⟨_, _, rfl⟩ := hc
      exact res_s
    · simp only [Prod.mk.injEq] at ht
      exact absurd ht.1 (by decide)
  · exact cont_piece h r
end St
end Go.Proofs.YtkofmnbgcekjmaaDoor
