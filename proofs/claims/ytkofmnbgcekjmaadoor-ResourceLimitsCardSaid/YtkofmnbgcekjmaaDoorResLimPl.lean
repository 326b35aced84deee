/- Plain: what a long text, many placeholders and a long file give. No program in sight. -/
import Derived.Test.YtkofmnbgcekjmaaDoorResSplPl
import Derived.Test.YtkofmnbgcekjmaaDoorPieces
namespace Go.Proofs.YtkofmnbgcekjmaaDoor.St

theorem flat_rep (n : Nat) (b : List UInt8) (x : It) : flatP (List.replicate n (b, x)) = (List.replicate n b).flatten := by
  unfold flatP; induction n with
  | zero => rfl
  | succ n ih => simp [List.replicate_succ, ih]
theorem flat_one (n : Nat) (c : UInt8) : (List.replicate n [c]).flatten = List.replicate n c := by
  induction n with
  | zero => rfl
  | succ n ih => simp [List.replicate_succ, ih]
theorem its_rep (n : Nat) (b : List UInt8) (x : It) : itsP (List.replicate n (b, x)) = List.replicate n x := by simp [itsP]
theorem piece_a {E : List UInt8 → El} (hE : ElLen E) (h : ∀ rest, E (97 :: rest) = some (1, [97], 1)) : Piece E [97] (1, [97], 0) := piece_of hE (by simp) (by decide) h
theorem piece_n {E : List UInt8 → El} (hE : ElLen E) (h : ∀ rest, E (123 :: 110 :: 125 :: rest) = some (5, [110], 3)) : Piece E [123, 110, 125] (5, [110], 0) := piece_of hE (by simp) (by decide) h
theorem texts_len (n : Nat) (c : UInt8) : ((List.replicate n ((1 : Int), [c], (0 : Int))).foldl addI []).length ≤ 1 := by
  have e : List.replicate n ((1 : Int), [c], (0 : Int)) = (List.replicate n c).map (fun c => ((1 : Int), [c], (0 : Int))) := by simp
  rw [e, addI_text, addI_nil]
  repeat' split
  all_goals simp
theorem slots_len (n : Nat) (t : List UInt8) (f : List It) : ((List.replicate n ((5 : Int), t, (0 : Int))).foldl addI f).length = f.length + n := by
  induction n generalizing f with
  | zero => rfl
  | succ n ih => rw [List.replicate_succ, List.foldl_cons, ih, add_item _ _ (by decide)]; simp; omega
theorem lim_ok {E : List UInt8 → El} (hE : ElLen E) (h : ∀ rest, E (97 :: rest) = some (1, [97], 1)) (n : Nat) (hn : n ≤ 1024) :
    (decF E (List.replicate n 97) 0 0 [] []).2.2 = (0, 0) ∧ (decF E (List.replicate n 97) 0 0 [] []).2.1.length = n + 1 := by
  have hp := decF_pieces (List.replicate n ([97], (1, [97], 0))) [] 0 0 [] [] (fun p hp => by rw [(List.mem_replicate.1 hp).2]; exact piece_a hE h)
    (by rw [its_rep]; have := texts_len n 97; omega) (by simp; exact hn)
  rw [flat_rep, flat_one, List.append_nil, decF_nil] at hp
  rw [hp]
  exact ⟨rfl, by simp [offs_len]⟩
theorem lim_bad0 {E : List UInt8 → El} (hE : ElLen E) (h : ∀ rest, E (97 :: rest) = some (1, [97], 1)) (n : Nat) (hn : n = 1024) : (decF E (List.replicate (n + 1) 97) 0 0 [] []).2.2 = (n, 3) := by
  have hp := decF_pieces (List.replicate n ([97], (1, [97], 0))) [97] 0 0 [] [] (fun p hp => by rw [(List.mem_replicate.1 hp).2]; exact piece_a hE h)
    (by rw [its_rep]; have := texts_len n 97; omega) (by simp; omega)
  rw [flat_rep, flat_one] at hp
  have e : List.replicate n (97 : UInt8) ++ [97] = List.replicate (n + 1) 97 := by rw [← List.replicate_succ']
  rw [e] at hp
  rw [hp, decF_full (k := 1) (t := [97]) (n := 1) _ _ _ _ (by simp) (h []) (by decide) (.inr (by simp [offs_len]; omega))]
  simp
theorem rep3_len (n : Nat) (t : List UInt8) : ((List.replicate n t).flatten).length = n * t.length := by simp
theorem slim_ok {E : List UInt8 → El} (hE : ElLen E) (h : ∀ rest, E (123 :: 110 :: 125 :: rest) = some (5, [110], 3)) (n : Nat) (hn : n ≤ 512) :
    (decF E ((List.replicate n [123, 110, 125]).flatten) 0 0 [] []).2.2 = (0, 0) := by
  have hp := decF_pieces (List.replicate n ([123, 110, 125], (5, [110], 0))) [] 0 0 [] [] (fun p hp => by rw [(List.mem_replicate.1 hp).2]; exact piece_n hE h)
    (by rw [its_rep, slots_len]; simp; exact hn) (by simp; omega)
  rw [flat_rep, List.append_nil, decF_nil] at hp
  rw [hp]
theorem slim_bad0 {E : List UInt8 → El} (hE : ElLen E) (h : ∀ rest, E (123 :: 110 :: 125 :: rest) = some (5, [110], 3)) (n : Nat) (hn : n = 512) : (decF E ((List.replicate (n + 1) [123, 110, 125]).flatten) 0 0 [] []).2.2 = (n * 3, 3) := by
  have hp := decF_pieces (List.replicate n ([123, 110, 125], (5, [110], 0))) [123, 110, 125] 0 0 [] [] (fun p hp => by rw [(List.mem_replicate.1 hp).2]; exact piece_n hE h)
    (by rw [its_rep, slots_len]; simp; omega) (by simp; omega)
  rw [flat_rep] at hp
  have e : (List.replicate n [(123 : UInt8), 110, 125]).flatten ++ [123, 110, 125] = (List.replicate (n + 1) [123, 110, 125]).flatten := by
    rw [List.replicate_succ', List.flatten_append]; simp
  rw [e] at hp
  rw [hp, decF_full (k := 5) (t := [110]) (n := 3) _ _ _ _ (by simp) (h []) (by decide) (.inl (by rw [its_rep, add_item _ _ (by decide), List.length_append, slots_len]; simp; omega))]
  simp
theorem res_a (rest : List UInt8) : resL (97 :: rest) = some (1, [97], 1) := res_else (by decide) (by decide) (by decide)
theorem res_n (rest : List UInt8) : resL (123 :: 110 :: 125 :: rest) = some (5, [110], 3) := by
  rw [res_123 (by decide)]
  simp [slotL, isNameL, lowC]
/-- A file with one unit and a long comment. -/
def longL (k : Nat) : List UInt8 := [107, 61, 97, 10, 35] ++ List.replicate k 35
theorem longL_len (k : Nat) : (longL k).length = k + 5 := by simp [longL]
theorem line_cs (k : Nat) : lineN (List.replicate k 35) = k := by
  unfold lineN
  rw [List.takeWhile_replicate]
  simp
theorem long_ok {dE : List UInt8 → Nat × Int} (hE : (dE [97]).2 = 0) (k : Nat) (hk : k + 5 ≤ 65536) : (splitR dE (longL k)).2.2 = 0 := by
  have h0 : ¬ 65536 < (longL k).length := by rw [longL_len]; omega
  rw [splitR_ok h0, longL_len]
  have d0 : (longL k).drop 0 = longL k := rfl
  have k0 : keyN ((longL k).drop 0) = 1 := rfl
  have s1 := resS_unit (dE := dE) (d := longL k) (fuel := k + 5) (a := 0) (s := ([], 0)) (by rw [longL_len]; omega) rfl (by rw [k0]; simp [longL]) (by rw [k0]; rfl) (n := 1) (b := 2) (t := 3) k0 rfl rfl hE
  rw [s1, longL_len]
  have m : min (3 + 1) (k + 5) = 4 := by omega
  rw [m]
  have d4 : (longL k).drop 4 = List.replicate (k + 1) 35 := by rw [List.replicate_succ]; rfl
  have s2 := resS_skip (dE := dE) (d := longL k) (fuel := k + 4) (a := 4) (s := unitS (longL k) ([], 0) 2 3 (cutL (longL k) 0 (0 + 1))) (by rw [longL_len]; omega) (by rw [d4, List.replicate_succ]; rfl)
  rw [s2, d4, line_cs, longL_len, resS_end (by rw [longL_len]; omega)]
  rfl
theorem long_bad {dE : List UInt8 → Nat × Int} (k : Nat) (hk : 65536 < k + 5) : (splitR dE (longL k)).2.2 = 3 := by
  unfold splitR
  rw [if_pos (by rw [longL_len]; omega)]
end Go.Proofs.YtkofmnbgcekjmaaDoor.St
