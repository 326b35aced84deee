/- Plain: what a long text, many placeholders and a long document give in a markup. No program in sight. -/
import Derived.Test.YtiifjfbfkhhpeaaDoorRdsA
import Derived.Test.YtiifjfbfkhhpeaaDoorBas
set_option linter.unusedVariables false
set_option linter.unusedSimpArgs false
namespace Go.Proofs.YtiifjfbfkhhpeaaDoor.St

theorem flat_rep (n : Nat) (b : List UInt8) (x : It) : flatP (List.replicate n (b, x)) = (List.replicate n b).flatten := by
  unfold flatP; induction n with
  | zero => rfl
  | succ n ih => simp [List.replicate_succ, ih]
theorem flat_one (n : Nat) (c : UInt8) : (List.replicate n [c]).flatten = List.replicate n c := by
  induction n with
  | zero => rfl
  | succ n ih => simp [List.replicate_succ, ih]
theorem its_rep (n : Nat) (b : List UInt8) (x : It) : itsP (List.replicate n (b, x)) = List.replicate n x := by simp [itsP]
theorem okT_rep {x : It} (h1 : ∀ op c, stepT op c x.1 x.2.1 = some (x.2.2, op, c)) : ∀ (n : Nat) (op : List It) (c : Nat), okT (List.replicate n x) op c = some (op, c)
  | 0, op, c => rfl
  | n + 1, op, c => by rw [List.replicate_succ, okT, h1]; simp only [if_true]; exact okT_rep h1 n op c
theorem piece_a : PieceT markL [97] (1, [97], 0) := by
  have := mark_piece (p := (1, [97], 0)) (.inl ⟨97, rfl⟩)
  have e : encI 1 (1, [97], 0) = [97] := by decide
  rwa [e] at this
theorem piece_n : PieceT markL [123, 110, 125] (5, [110], 0) := by
  have := mark_piece (p := (5, [110], 0)) (.inr (.inl ⟨[110], rfl, by decide⟩))
  have e : encI 1 (5, [110], 0) = [123, 110, 125] := by decide
  rwa [e] at this
theorem texts_len (n : Nat) (c : UInt8) : ((List.replicate n ((1 : Int), [c], (0 : Int))).foldl addI []).length ≤ 1 := by
  have e : List.replicate n ((1 : Int), [c], (0 : Int)) = (List.replicate n c).map (fun c => ((1 : Int), [c], (0 : Int))) := by simp
  rw [e, addI_text, addI_nil]
  repeat' split
  all_goals simp
theorem slots_len (n : Nat) (t : List UInt8) (f : List It) : ((List.replicate n ((5 : Int), t, (0 : Int))).foldl addI f).length = f.length + n := by
  induction n generalizing f with
  | zero => rfl
  | succ n ih => rw [List.replicate_succ, List.foldl_cons, ih, add_item _ _ (by decide)]; simp; omega
theorem limT_ok (n : Nat) (hn : n ≤ 1024) :
    (decFT markL (List.replicate n 97) 0 0 [] [] [] 0).2.2 = (0, 0) ∧ (decFT markL (List.replicate n 97) 0 0 [] [] [] 0).2.1.length = n + 1 := by
  have hp := decFT_pieces mark_elen (List.replicate n ([97], (1, [97], 0))) [] 0 0 [] [] [] 0 (fun p hp => by rw [(List.mem_replicate.1 hp).2]; exact piece_a)
    (by rw [its_rep]; exact okT_rep (fun _ _ => rfl) n [] 0) (by rw [its_rep]; have := texts_len n 97; omega) (by simp; exact hn)
  rw [flat_rep, flat_one, List.append_nil, decFT_nil] at hp
  rw [hp]
  exact ⟨rfl, by simp [endT, offs_len]⟩
theorem limT_bad (n : Nat) (hn : n = 1024) : (decFT markL (List.replicate (n + 1) 97) 0 0 [] [] [] 0).2.2 = (n, 3) := by
  have hp := decFT_pieces mark_elen (List.replicate n ([97], (1, [97], 0))) [97] 0 0 [] [] [] 0 (fun p hp => by rw [(List.mem_replicate.1 hp).2]; exact piece_a)
    (by rw [its_rep]; exact okT_rep (fun _ _ => rfl) n [] 0) (by rw [its_rep]; have := texts_len n 97; omega) (by simp; omega)
  rw [flat_rep, flat_one] at hp
  have e : List.replicate n (97 : UInt8) ++ [97] = List.replicate (n + 1) 97 := by rw [← List.replicate_succ']
  rw [e] at hp
  rw [hp, decFT_full (k := 1) (t := [97]) (n := 1) (i := 0) (op' := []) (c' := 0) _ _ _ _ (by simp) (show markL [97] = some (1, [97], 1) from piece_a.2.2 []) (by decide) rfl (.inr (by simp [offs_len]; omega))]
  simp
theorem slimT_ok (n : Nat) (hn : n ≤ 512) : (decFT markL ((List.replicate n [123, 110, 125]).flatten) 0 0 [] [] [] 0).2.2 = (0, 0) := by
  have hp := decFT_pieces mark_elen (List.replicate n ([123, 110, 125], (5, [110], 0))) [] 0 0 [] [] [] 0 (fun p hp => by rw [(List.mem_replicate.1 hp).2]; exact piece_n)
    (by rw [its_rep]; exact okT_rep (fun _ _ => rfl) n [] 0) (by rw [its_rep, slots_len]; simp; exact hn) (by simp; omega)
  rw [flat_rep, List.append_nil, decFT_nil] at hp
  rw [hp]; rfl
theorem slimT_bad (n : Nat) (hn : n = 512) : (decFT markL ((List.replicate (n + 1) [123, 110, 125]).flatten) 0 0 [] [] [] 0).2.2 = (n * 3, 3) := by
  have hp := decFT_pieces mark_elen (List.replicate n ([123, 110, 125], (5, [110], 0))) [123, 110, 125] 0 0 [] [] [] 0 (fun p hp => by rw [(List.mem_replicate.1 hp).2]; exact piece_n)
    (by rw [its_rep]; exact okT_rep (fun _ _ => rfl) n [] 0) (by rw [its_rep, slots_len]; simp; omega) (by simp; omega)
  rw [flat_rep] at hp
  have e : (List.replicate n [(123 : UInt8), 110, 125]).flatten ++ [123, 110, 125] = (List.replicate (n + 1) [123, 110, 125]).flatten := by
    rw [List.replicate_succ', List.flatten_append]; simp
  rw [e] at hp
  rw [hp, decFT_full (k := 5) (t := [110]) (n := 3) (i := 0) (op' := []) (c' := 0) _ _ _ _ (by simp) (show markL [123, 110, 125] = some (5, [110], 3) from piece_n.2.2 []) (by decide) rfl (.inl (by rw [its_rep, add_item _ _ (by decide), List.length_append, slots_len]; simp; omega))]
  simp
/-- A document with one unit and a long text behind it. -/
def longM (k : Nat) : List UInt8 := [60, 112, 62, 97, 60, 47, 112, 62] ++ List.replicate k 120
theorem longM_len (k : Nat) : (longM k).length = k + 8 := by simp [longM]
theorem skip_xs {dE : List UInt8 → Nat × Int} {dig : Nat → List UInt8} {d : List UInt8} : ∀ (k a r : Nat) (s : PS), d.drop a = List.replicate k 120 → mkF dE dig d a r s = .ok s
  | 0, a, r, s, h => by
    have : d.length ≤ a := by have := congrArg List.length h; simp at this; omega
    exact mkF_end this
  | k + 1, a, r, s, h => by
    rw [List.replicate_succ] at h
    rw [mkF_skip (lt_drop h (by simp)) (by rw [h]; exact outs_ne (by simp))]
    exact skip_xs k (a + 1) r s (by rw [← List.drop_drop, h]; rfl)
theorem longM_ok {dE : List UInt8 → Nat × Int} {dig : Nat → List UInt8} (hE : (dE [97]).2 = 0) (k : Nat) (hk : k + 8 ≤ 65536) : (splitM dE dig (longM k)).2.2 = 0 := by
  rw [splitF_ok (by rw [longM_len]; omega)]
  have hd : (longM k).drop 0 = [60] ++ ([112] ++ []) ++ [62] ++ ([97] ++ (endM [112] ++ List.replicate k 120)) := by rw [List.drop_zero]; simp [longM, endM]
  obtain ⟨h1, h2, _⟩ := unit_step (dE := dE) (dig := dig) (r := 0) (s := ([], 0)) (b := [112]) (raw := [97]) (at' := []) (by decide) (by decide) (by decide) (noC_free (by simp)) hE hd
  rw [h1, skip_xs k _ _ _ h2]; rfl
theorem longM_bad {dE : List UInt8 → Nat × Int} {dig : Nat → List UInt8} (k : Nat) (hk : 65536 < k + 8) : (splitM dE dig (longM k)).2.2 = 3 := by
  unfold splitM
  rw [if_pos (by rw [longM_len]; omega)]
end Go.Proofs.YtiifjfbfkhhpeaaDoor.St
