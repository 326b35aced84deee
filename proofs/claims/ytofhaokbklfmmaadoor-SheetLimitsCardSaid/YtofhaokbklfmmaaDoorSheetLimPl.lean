/- Plain: what a long text, many placeholders and a long table give. No program in sight. -/
import Derived.Test.YtofhaokbklfmmaaDoorPieces
import Derived.Test.YtofhaokbklfmmaaDoorSheetSplit
namespace Go.Proofs.YtofhaokbklfmmaaDoor.St

theorem sheet_elen : ElLen sheetL := fun _ _ _ _ h => let ⟨_, h1, h2⟩ := sheet_len h; ⟨h1, h2⟩
theorem flat_rep (n : Nat) (b : List UInt8) (x : It) : flatP (List.replicate n (b, x)) = (List.replicate n b).flatten := by
  unfold flatP; induction n with
  | zero => rfl
  | succ n ih => simp [List.replicate_succ, ih]
theorem flat_one (n : Nat) (c : UInt8) : (List.replicate n [c]).flatten = List.replicate n c := by
  induction n with
  | zero => rfl
  | succ n ih => simp [List.replicate_succ, ih]
theorem its_rep (n : Nat) (b : List UInt8) (x : It) : itsP (List.replicate n (b, x)) = List.replicate n x := by simp [itsP]
theorem piece_a {E : List UInt8 → El} (hE : ElLen E) (h : ∀ rest, E (97 :: rest) = some (1, [97], 1)) : Piece E [97] (1, [97], 0) := piece_of hE (by simp) (by decide) h
theorem piece_n {E : List UInt8 → El} (hE : ElLen E) (h : ∀ rest, E (123 :: 110 :: 125 :: rest) = some (5, [110], 3)) : Piece E [123, 110, 125] (5, [110], 0) := piece_of hE (by simp) (by decide) h
theorem texts_len (n : Nat) (c : UInt8) : ((List.replicate n ((1 : Int), [c], (0 : Int))).foldl addI []).length ≤ 1 := by
  have e : List.replicate n ((1 : Int), [c], (0 : Int)) = (List.replicate n c).map (fun c => ((1 : Int), [c], (0 : Int))) := by simp
  rw [e, addI_text, addI_nil]
  repeat' split
  all_goals simp
theorem slots_len (n : Nat) (t : List UInt8) (f : List It) : ((List.replicate n ((5 : Int), t, (0 : Int))).foldl addI f).length = f.length + n := by
  induction n generalizing f with
  | zero => rfl
  | succ n ih => rw [List.replicate_succ, List.foldl_cons, ih, add_item _ _ (by decide)]; simp; omega
theorem lim_ok {E : List UInt8 → El} (hE : ElLen E) (h : ∀ rest, E (97 :: rest) = some (1, [97], 1)) (n : Nat) (hn : n ≤ 1024) :
    (decF E (List.replicate n 97) 0 0 [] []).2.2 = (0, 0) ∧ (decF E (List.replicate n 97) 0 0 [] []).2.1.length = n + 1 := by
  have hp := decF_pieces (List.replicate n ([97], (1, [97], 0))) [] 0 0 [] [] (fun p hp => by rw [(List.mem_replicate.1 hp).2]; exact piece_a hE h)
    (by rw [its_rep]; have := texts_len n 97; omega) (by simp; exact hn)
  rw [flat_rep, flat_one, List.append_nil, decF_nil] at hp
  rw [hp]
  exact ⟨rfl, by simp [offs_len]⟩
theorem lim_bad0 {E : List UInt8 → El} (hE : ElLen E) (h : ∀ rest, E (97 :: rest) = some (1, [97], 1)) (n : Nat) (hn : n = 1024) : (decF E (List.replicate (n + 1) 97) 0 0 [] []).2.2 = (n, 3) := by
  have hp := decF_pieces (List.replicate n ([97], (1, [97], 0))) [97] 0 0 [] [] (fun p hp => by rw [(List.mem_replicate.1 hp).2]; exact piece_a hE h)
    (by rw [its_rep]; have := texts_len n 97; omega) (by simp; omega)
  rw [flat_rep, flat_one] at hp
  have e : List.replicate n (97 : UInt8) ++ [97] = List.replicate (n + 1) 97 := by rw [← List.replicate_succ']
  rw [e] at hp
  rw [hp, decF_full (k := 1) (t := [97]) (n := 1) _ _ _ _ (by simp) (h []) (by decide) (.inr (by simp [offs_len]; omega))]
  simp
theorem rep3_len (n : Nat) (t : List UInt8) : ((List.replicate n t).flatten).length = n * t.length := by simp
theorem slim_ok {E : List UInt8 → El} (hE : ElLen E) (h : ∀ rest, E (123 :: 110 :: 125 :: rest) = some (5, [110], 3)) (n : Nat) (hn : n ≤ 512) :
    (decF E ((List.replicate n [123, 110, 125]).flatten) 0 0 [] []).2.2 = (0, 0) := by
  have hp := decF_pieces (List.replicate n ([123, 110, 125], (5, [110], 0))) [] 0 0 [] [] (fun p hp => by rw [(List.mem_replicate.1 hp).2]; exact piece_n hE h)
    (by rw [its_rep, slots_len]; simp; exact hn) (by simp; omega)
  rw [flat_rep, List.append_nil, decF_nil] at hp
  rw [hp]
theorem slim_bad0 {E : List UInt8 → El} (hE : ElLen E) (h : ∀ rest, E (123 :: 110 :: 125 :: rest) = some (5, [110], 3)) (n : Nat) (hn : n = 512) : (decF E ((List.replicate (n + 1) [123, 110, 125]).flatten) 0 0 [] []).2.2 = (n * 3, 3) := by
  have hp := decF_pieces (List.replicate n ([123, 110, 125], (5, [110], 0))) [123, 110, 125] 0 0 [] [] (fun p hp => by rw [(List.mem_replicate.1 hp).2]; exact piece_n hE h)
    (by rw [its_rep, slots_len]; simp; omega) (by simp; omega)
  rw [flat_rep] at hp
  have e : (List.replicate n [(123 : UInt8), 110, 125]).flatten ++ [123, 110, 125] = (List.replicate (n + 1) [123, 110, 125]).flatten := by
    rw [List.replicate_succ', List.flatten_append]; simp
  rw [e] at hp
  rw [hp, decF_full (k := 5) (t := [110]) (n := 3) _ _ _ _ (by simp) (h []) (by decide) (.inl (by rw [its_rep, add_item _ _ (by decide), List.length_append, slots_len]; simp; omega))]
  simp
theorem sheet_a (rest : List UInt8) : sheetL (97 :: rest) = some (1, [97], 1) := sheet_else (by decide) (by decide)
theorem sheet_n (rest : List UInt8) : sheetL (123 :: 110 :: 125 :: rest) = some (5, [110], 3) := by
  rw [sheet_123 (by decide)]
  simp [slotL, isNameL, lowC]
theorem recs_ok0' {dE : List UInt8 → Nat × Int} {dig : Nat → List UInt8} {d : List UInt8} {W C fuel a r e n : Nat} {s s' : PS} (h : ¬ d.length ≤ a) (hr : recS dE d W C (dig r) (d.length + 1) a 0 s = .ok (e, n, s')) (hn : ¬ n < W) : recsS dE dig d W C (fuel + 1) a r s = recsS dE dig d W C fuel (e + 1) (r + 1) s' := by
  rw [recsS, if_neg h, hr]; simp only []; rw [if_neg hn]
theorem split_ok0' {dE : List UInt8 → Nat × Int} {dig : Nat → List UInt8} {d : List UInt8} {e n tx c : Nat} (h0 : ¬ 65536 < d.length) (h : headS d (d.length + 1) 0 0 0 0 = .ok (e, n, tx, c)) (ht : tx ≠ 0) (ht2 : ¬ 1 < tx) : splitS dE dig d = endR d (recsS dE dig d n c (d.length + 1) (e + 1) 1 ([], 0)) := by
  rw [splitS, if_neg h0, h]; simp only []; rw [if_neg ht, if_neg ht2]
  cases recsS dE dig d n c (d.length + 1) (e + 1) 1 ([], 0) <;> rfl
/-- A table with one record, whose last field is long. -/
def longL (k : Nat) : List UInt8 := [116, 101, 120, 116, 44, 110, 10, 34, 97, 34, 44] ++ List.replicate k 120
theorem longL_len (k : Nat) : (longL k).length = k + 11 := by simp [longL]
theorem field_xs (k : Nat) : fieldL (List.replicate k 120) = some (k, false) := by
  rw [field_b (fun c r e => by
    cases k with
    | zero => simp at e
    | succ k => rw [List.replicate_succ] at e; simp at e; rw [← e.1]; decide)]
  have : (List.replicate k (120 : UInt8)).takeWhile bareC = List.replicate k 120 := by
    rw [List.takeWhile_replicate]; rfl
  rw [this]; simp [endB]
theorem drop_xs (k j : Nat) : (List.replicate k (120 : UInt8)).drop j = List.replicate (k - j) 120 := by simp
theorem long_ok (k : Nat) (hk : k + 11 ≤ 65536) (dig : Nat → List UInt8) : (splitS dE dig (longL k)).2.2 = 0 := by
  have hh : headS (longL k) ((longL k).length + 1) 0 0 0 0 = .ok (6, 2, 1, 0) := by rw [longL_len]; rfl
  have h0 : ¬ 65536 < (longL k).length := by rw [longL_len]; omega
  have hd7 : ∀ s : PS, recS dE (longL k) 2 0 (dig 1) ((longL k).length + 1) 7 0 s = .ok (11 + k, 2, unitS (longL k) s 8 9 (dig 1)) := by
    intro s
    have f1 : fieldL ((longL k).drop 7) = some (3, true) := rfl
    have d1 : dE (cutL (longL k) (7 + 1) (7 + 3 - 1)) = (0, 0) := rfl
    have f2 : fieldL ((longL k).drop 11) = some (k, false) := field_xs k
    have d2 : (longL k).drop (11 + k) = [] := List.drop_of_length_le (by rw [longL_len]; omega)
    rw [longL_len, rec_step f1 (by simp) (by rw [d1]; simp)]
    have e : (longL k).drop (7 + 3) = 44 :: List.replicate k 120 := rfl
    rw [e]
    simp only []
    rw [if_neg (by decide)]
    simp only [if_true]
    rw [rec_step (fuel := k + 10) f2 (by simp) (by simp)]
    rw [d2]
    rfl
  have hr : recsS dE dig (longL k) 2 0 ((longL k).length + 1) (6 + 1) 1 ([], 0) = .ok (unitS (longL k) ([], 0) 8 9 (dig 1)) := by
    rw [recs_ok0' (by rw [longL_len]; omega) (hd7 ([], 0)) (by decide)]
    exact recs_end _ _ _ _ (by rw [longL_len]; omega)
  rw [split_ok0' h0 hh (by decide) (by decide), hr]
  rfl
theorem long_bad (k : Nat) (hk : 65536 < k + 11) (dig : Nat → List UInt8) : (splitS dE dig (longL k)).2.2 = 3 := by
  unfold splitS
  rw [if_pos (by rw [longL_len]; omega)]
end Go.Proofs.YtofhaokbklfmmaaDoor.St
