/- The functions of format 1, markup, as the document's package calls them. Condition: the library's tables lie at their places. Plain: what a long text, many placeholders and a long document give in a markup. No program in sight. What the fixed example of the document's laws gives, and the walk of it; and what replacing in a long document gives. Condition: the library's tables lie at their places. The walk of the document's laws' fixed example. Condition: the library's tables lie at their places. -/
import Derived.Test.YthoemdibbldndaaGreatDoorDcC
import Derived.Test.YthoemdibbldndaaGreatDoorRdsA
import Derived.Test.YthoemdibbldndaaGreatDoorMkEnc
import Derived.Test.YthoemdibbldndaaGreatDoorBas
set_option linter.unusedVariables false
set_option linter.unusedSimpArgs false

namespace Go.Proofs.YthoemdibbldndaaGreatDoor
open Go.RowKit

namespace St
theorem mark_ok : ElOk markL := fun l k t n h => by
  obtain ⟨_, h1, h2, h3⟩ := mark_len h
  refine ⟨h1, h2, h3, ?_⟩
  rintro rfl
  match l, h with
  | c :: r, h =>
    by_cases h60 : c.toNat = 60
    · rw [mark_60 h60] at h
      unfold inlL at h
      cases hq : tagL (c :: r) with
      | none => rw [hq] at h; cases h
      | some x =>
        obtain ⟨k', t', n'⟩ := x
        rw [hq] at h
        simp only at h
        split at h
        · cases h
        · simp only [Option.some.injEq, Prod.mk.injEq] at h
          obtain ⟨rfl, rfl, rfl⟩ := h
          have := (tag_len hq).1
          omega
    by_cases h38 : c.toNat = 38
    · rw [mark_38 h38] at h
      exact (ref_len h).2.2.2
    by_cases h123 : c.toNat = 123
    · rw [mark_123 h123] at h
      cases hq : slotL (c :: r) with
      | none => rw [hq] at h; cases h
      | some x => rw [hq] at h; simp at h
    · rw [mark_else h60 h38 h123] at h
      simp only [Option.some.injEq, Prod.mk.injEq] at h
      obtain ⟨_, rfl, _⟩ := h
      rfl
/-- Reading and splitting in format 1. -/
def D1 (l : List UInt8) : Res := decFT markL l 0 0 [] [] [] 0
def S1 (l : List UInt8) : List Pt × Nat × Int := splitM Mk.dE Lib.decDigits l
theorem D1_of (x : ByteArray) : Mk.mkD x = D1 x.data.toList := Mk.mkD_F x
theorem D1_ok (d : List UInt8) (h : (D1 d).2.2.2 = 0) : DecOk d.length (D1 d) := by
  unfold D1 decFT at h ⊢
  exact decT_ok mark_ok d.length d 0 0 [] [] [] 0 (by constructor) (by simp) rfl (by simp) (by simp) (by omega) (by omega) (by simp [tot]) h
end St
set_option maxHeartbeats 6400000 in
theorem fm1_split (d : ByteArray) (w : World) (hL : Mk.LibAt w) (hd : d.size ≤ 1000000000) : Calls Tryz.prog 46 #[.int .i64 1, .string d] w (Mk.SplitEnd (St.S1 d.data.toList) w) := by
  have H := hid (Mk.msplit_any d w hL (by omega))
  have hR : Mk.mkT d = St.S1 d.data.toList := rfl
  rw [hR] at H
  generalize St.S1 d.data.toList = R at *
  obtain ⟨ps, pl, er⟩ := R
  clear hL hR
  go_enter Tryz.func46, Tryz.ntmps46
  go_wp2_with fail
  refine H.out.mono ?_
  rintro e w' ⟨A, c, rfl, hP, h1, h2, hu⟩
  have HE := hid (show Mk.SplitEnd (ps, pl, er) w (.returned (.tuple #[.slice A ps.length c, .int .i64 (pl : Int), .int .i64 er])) w' from ⟨A, c, rfl, hP, h1, h2, hu⟩)
  clear hP h1 h2 hu
  go_wp2
  go_ret3
  exact HE.out
set_option maxHeartbeats 6400000 in
theorem fm1_decode (d : ByteArray) (w : World) (hd : d.size ≤ 1000000000) : Calls Tryz.prog 51 #[.int .i64 1, .string d] w (ContEnd (St.D1 d.data.toList) w) := by
  have H := hid (Mk.mdecode_any d w (by omega))
  rw [St.D1_of] at H
  generalize St.D1 d.data.toList = R at *
  obtain ⟨f, cu, pl, er⟩ := R
  go_enter Tryz.func51, Tryz.ntmps51
  go_wp2_with fail
  refine H.out.mono ?_
  rintro e w' ⟨A, c, rfl, hP, h1, h2, hu⟩
  have HE := hid (show ContEnd (f, cu, pl, er) w (.returned (.tuple #[.slice A f.length c, .int .i64 er])) w' from ⟨A, c, rfl, hP, h1, h2, hu⟩)
  clear hP h1 h2 hu
  go_wp2
  go_ret2
  exact HE.out
set_option maxHeartbeats 6400000 in
theorem fm1_cuts (d : ByteArray) (w : World) (hd : d.size ≤ 1000000000) : Calls Tryz.prog 49 #[.int .i64 1, .string d] w (Mk.CutsEnd (St.D1 d.data.toList) w) := by
  have H := hid (Mk.mcuts_any d w (by omega))
  rw [St.D1_of] at H
  generalize St.D1 d.data.toList = R at *
  obtain ⟨f, cu, pl, er⟩ := R
  go_enter Tryz.func49, Tryz.ntmps49
  go_wp2_with fail
  refine H.out.mono ?_
  rintro e w' ⟨A, c, rfl, hP, h1, h2, hu⟩
  have HE := hid (show Mk.CutsEnd (f, cu, pl, er) w (.returned (.tuple #[.slice A cu.length c, .int .i64 er])) w' from ⟨A, c, rfl, hP, h1, h2, hu⟩)
  clear hP h1 h2 hu
  go_wp2
  go_ret2
  exact HE.out
set_option maxHeartbeats 6400000 in
theorem fm1_encode (A : Option Addr) (n c : Nat) (f : List St.It) (w : World) (hn : f.length = n) (hnc : n ≤ c) (hc63 : c ≤ 9223372036854775807) (h : ItemsAt w A f) (hl : n ≤ 1000000000) (ht : tot f ≤ 1000000000000) :
    Calls Tryz.prog 50 #[.int .i64 1, .slice A n c] w fun e w' => e = .returned (.tuple #[.string ⟨(St.encS 1 f).1.toArray⟩, .int .i64 (St.encS 1 f).2]) ∧ Und w w' := by
  have H := hid (mencode_any A n c f w hn hnc hc63 h hl ht)
  generalize St.encS 1 f = R at *
  obtain ⟨s, er⟩ := R
  clear h hn ht
  go_enter Tryz.func50, Tryz.ntmps50
  go_wp2_with fail
  refine H.out.mono ?_
  rintro e w' ⟨rfl, hu⟩
  have HU := hid hu
  clear hu
  go_wp2
  go_ret2
  exact ⟨rfl, HU.out⟩
theorem fm1 (w : World) (hL : Mk.LibAt w) : FmAt w 1 St.D1 St.S1 :=
  ⟨.inl rfl, fun d w' hw hd => fm1_split d w' (hL.und hw) hd, fun d w' _ hd => fm1_decode d w' hd, fun d w' _ hd => fm1_cuts d w' hd, fun A n c f w' _ hn hnc hc h hl ht => fm1_encode A n c f w' hn hnc hc h hl ht, St.D1_ok⟩
end Go.Proofs.YthoemdibbldndaaGreatDoor

namespace Go.Proofs.YthoemdibbldndaaGreatDoor.St

theorem flat_rep (n : Nat) (b : List UInt8) (x : It) : flatP (List.replicate n (b, x)) = (List.replicate n b).flatten := by
  unfold flatP; induction n with
  | zero => rfl
  | succ n ih => simp [List.replicate_succ, ih]
theorem flat_one (n : Nat) (c : UInt8) : (List.replicate n [c]).flatten = List.replicate n c := by
  induction n with
  | zero => rfl
  | succ n ih => simp [List.replicate_succ, ih]
theorem its_rep (n : Nat) (b : List UInt8) (x : It) : itsP (List.replicate n (b, x)) = List.replicate n x := by simp [itsP]
theorem okT_rep {x : It} (h1 : ∀ op c, stepT op c x.1 x.2.1 = some (x.2.2, op, c)) : ∀ (n : Nat) (op : List It) (c : Nat), okT (List.replicate n x) op c = some (op, c)
  | 0, op, c => rfl
  | n + 1, op, c => by rw [List.replicate_succ, okT, h1]; simp only [if_true]; exact okT_rep h1 n op c
theorem piece_a : PieceT markL [97] (1, [97], 0) := by
  have := mark_piece (p := (1, [97], 0)) (.inl ⟨97, rfl⟩)
  have e : encI 1 (1, [97], 0) = [97] := by decide
  rwa [e] at this
theorem piece_n : PieceT markL [123, 110, 125] (5, [110], 0) := by
  have := mark_piece (p := (5, [110], 0)) (.inr (.inl ⟨[110], rfl, by decide⟩))
  have e : encI 1 (5, [110], 0) = [123, 110, 125] := by decide
  rwa [e] at this
theorem texts_len (n : Nat) (c : UInt8) : ((List.replicate n ((1 : Int), [c], (0 : Int))).foldl addI []).length ≤ 1 := by
  have e : List.replicate n ((1 : Int), [c], (0 : Int)) = (List.replicate n c).map (fun c => ((1 : Int), [c], (0 : Int))) := by simp
  rw [e, addI_text, addI_nil]
  repeat' split
  all_goals simp
theorem slots_len (n : Nat) (t : List UInt8) (f : List It) : ((List.replicate n ((5 : Int), t, (0 : Int))).foldl addI f).length = f.length + n := by
  induction n generalizing f with
  | zero => rfl
  | succ n ih => rw [List.replicate_succ, List.foldl_cons, ih, add_item _ _ (by decide)]; simp; omega
theorem limT_ok (n : Nat) (hn : n ≤ 1024) :
    (decFT markL (List.replicate n 97) 0 0 [] [] [] 0).2.2 = (0, 0) ∧ (decFT markL (List.replicate n 97) 0 0 [] [] [] 0).2.1.length = n + 1 := by
  have hp := decFT_pieces mark_elen (List.replicate n ([97], (1, [97], 0))) [] 0 0 [] [] [] 0 (fun p hp => by rw [(List.mem_replicate.1 hp).2]; exact piece_a)
    (by rw [its_rep]; exact okT_rep (fun _ _ => rfl) n [] 0) (by rw [its_rep]; have := texts_len n 97; omega) (by simp; exact hn)
  rw [flat_rep, flat_one, List.append_nil, decFT_nil] at hp
  rw [hp]
  exact ⟨rfl, by simp [endT, offs_len]⟩
theorem limT_bad (n : Nat) (hn : n = 1024) : (decFT markL (List.replicate (n + 1) 97) 0 0 [] [] [] 0).2.2 = (n, 3) := by
  have hp := decFT_pieces mark_elen (List.replicate n ([97], (1, [97], 0))) [97] 0 0 [] [] [] 0 (fun p hp => by rw [(List.mem_replicate.1 hp).2]; exact piece_a)
    (by rw [its_rep]; exact okT_rep (fun _ _ => rfl) n [] 0) (by rw [its_rep]; have := texts_len n 97; omega) (by simp; omega)
  rw [flat_rep, flat_one] at hp
  have e : List.replicate n (97 : UInt8) ++ [97] = List.replicate (n + 1) 97 := by rw [← List.replicate_succ']
  rw [e] at hp
  rw [hp, decFT_full (k := 1) (t := [97]) (n := 1) (i := 0) (op' := []) (c' := 0) _ _ _ _ (by simp) (show markL [97] = some (1, [97], 1) from piece_a.2.2 []) (by decide) rfl (.inr (by simp [offs_len]; omega))]
  simp
theorem slimT_ok (n : Nat) (hn : n ≤ 512) : (decFT markL ((List.replicate n [123, 110, 125]).flatten) 0 0 [] [] [] 0).2.2 = (0, 0) := by
  have hp := decFT_pieces mark_elen (List.replicate n ([123, 110, 125], (5, [110], 0))) [] 0 0 [] [] [] 0 (fun p hp => by rw [(List.mem_replicate.1 hp).2]; exact piece_n)
    (by rw [its_rep]; exact okT_rep (fun _ _ => rfl) n [] 0) (by rw [its_rep, slots_len]; simp; exact hn) (by simp; omega)
  rw [flat_rep, List.append_nil, decFT_nil] at hp
  rw [hp]; rfl
theorem slimT_bad (n : Nat) (hn : n = 512) : (decFT markL ((List.replicate (n + 1) [123, 110, 125]).flatten) 0 0 [] [] [] 0).2.2 = (n * 3, 3) := by
  have hp := decFT_pieces mark_elen (List.replicate n ([123, 110, 125], (5, [110], 0))) [123, 110, 125] 0 0 [] [] [] 0 (fun p hp => by rw [(List.mem_replicate.1 hp).2]; exact piece_n)
    (by rw [its_rep]; exact okT_rep (fun _ _ => rfl) n [] 0) (by rw [its_rep, slots_len]; simp; omega) (by simp; omega)
  rw [flat_rep] at hp
  have e : (List.replicate n [(123 : UInt8), 110, 125]).flatten ++ [123, 110, 125] = (List.replicate (n + 1) [123, 110, 125]).flatten := by
    rw [List.replicate_succ', List.flatten_append]; simp
  rw [e] at hp
  rw [hp, decFT_full (k := 5) (t := [110]) (n := 3) (i := 0) (op' := []) (c' := 0) _ _ _ _ (by simp) (show markL [123, 110, 125] = some (5, [110], 3) from piece_n.2.2 []) (by decide) rfl (.inl (by rw [its_rep, add_item _ _ (by decide), List.length_append, slots_len]; simp; omega))]
  simp
/-- A document with one unit and a long text behind it. -/
def longM (k : Nat) : List UInt8 := [60, 112, 62, 97, 60, 47, 112, 62] ++ List.replicate k 120
theorem longM_len (k : Nat) : (longM k).length = k + 8 := by simp [longM]
theorem skip_xs {dE : List UInt8 → Nat × Int} {dig : Nat → List UInt8} {d : List UInt8} : ∀ (k a r : Nat) (s : PS), d.drop a = List.replicate k 120 → mkF dE dig d a r s = .ok s
  | 0, a, r, s, h => by
    have : d.length ≤ a := by have := congrArg List.length h; simp at this; omega
    exact mkF_end this
  | k + 1, a, r, s, h => by
    rw [List.replicate_succ] at h
    rw [mkF_skip (lt_drop h (by simp)) (by rw [h]; exact outs_ne (by simp))]
    exact skip_xs k (a + 1) r s (by rw [← List.drop_drop, h]; rfl)
theorem longM_ok {dE : List UInt8 → Nat × Int} {dig : Nat → List UInt8} (hE : (dE [97]).2 = 0) (k : Nat) (hk : k + 8 ≤ 65536) : (splitM dE dig (longM k)).2.2 = 0 := by
  rw [splitF_ok (by rw [longM_len]; omega)]
  have hd : (longM k).drop 0 = [60] ++ ([112] ++ []) ++ [62] ++ ([97] ++ (endM [112] ++ List.replicate k 120)) := by rw [List.drop_zero]; simp [longM, endM]
  obtain ⟨h1, h2, _⟩ := unit_step (dE := dE) (dig := dig) (r := 0) (s := ([], 0)) (b := [112]) (raw := [97]) (at' := []) (by decide) (by decide) (by decide) (noC_free (by simp)) hE hd
  rw [h1, skip_xs k _ _ _ h2]; rfl
theorem longM_bad {dE : List UInt8 → Nat × Int} {dig : Nat → List UInt8} (k : Nat) (hk : 65536 < k + 8) : (splitM dE dig (longM k)).2.2 = 3 := by
  unfold splitM
  rw [if_pos (by rw [longM_len]; omega)]
end Go.Proofs.YthoemdibbldndaaGreatDoor.St

namespace Go.Proofs.YthoemdibbldndaaGreatDoor
open Go.RowKit

namespace St
/-- The parts of the example. -/
def psK : List Pt := [(false, [], [60, 112, 62]), (true, [49], [72, 101, 108, 108, 111, 32, 60, 98, 62, 120, 60, 47, 98, 62]), (false, [], [60, 47, 112, 62])]
def psK2 : List Pt := [(false, [], [60, 112, 62]), (true, [49], [83, 97, 108, 117, 116, 32, 60, 98, 62, 120, 60, 47, 98, 62]), (false, [], [60, 47, 112, 62])]
set_option maxRecDepth 100000 in
theorem known_split : S1 (⟨#[60, 112, 62, 72, 101, 108, 108, 111, 32, 60, 98, 62, 120, 60, 47, 98, 62, 60, 47, 112, 62]⟩ : ByteArray).data.toList = (psK, 0, 0) := by kernel_rfl
set_option maxRecDepth 100000 in
theorem known_repl : replD D1 S1 (encS 1) 1 psK 1 [(0, 5)] [[(1, [83, 97, 108, 117, 116], 0)]] = ((1, psK2), 0) := by kernel_rfl
set_option maxRecDepth 100000 in
theorem known_enc : (encS 1 [(1, [83, 97, 108, 117, 116], 0)]).1.length ≤ 1000000 := by decide
theorem known_bytes : (⟨(rawP psK2).toArray⟩ : ByteArray) = ⟨#[60, 112, 62, 83, 97, 108, 117, 116, 32, 60, 98, 62, 120, 60, 47, 98, 62, 60, 47, 112, 62]⟩ := by rfl
/-- The parts of a long document. -/
def longP (k : Nat) : List Pt := [(false, [], [60, 112, 62]), (true, Lib.decDigits 1, [97]), (false, [], [60, 47, 112, 62] ++ List.replicate k 120)]
theorem longP_raw (k : Nat) : rawP (longP k) = longM k := by simp [rawP, longP, longM]
theorem longP_split (k : Nat) (hk : k + 8 ≤ 65536) : S1 (longM k) = (longP k, 0, 0) := by
  unfold S1
  rw [splitF_ok (by rw [longM_len]; omega)]
  have hd : (longM k).drop 0 = [60] ++ ([112] ++ []) ++ [62] ++ ([97] ++ (endM [112] ++ List.replicate k 120)) := by rw [List.drop_zero]; simp [longM, endM]
  have hE : (Mk.dE [97]).2 = 0 := by rfl
  obtain ⟨h1, h2, h3⟩ := unit_step (dE := Mk.dE) (dig := Lib.decDigits) (r := 0) (s := ([], 0)) (b := [112]) (raw := [97]) (at' := []) (by decide) (by decide) (by decide) (noC_free (by simp)) hE hd
  rw [h1, skip_xs k _ _ _ h2]
  simp [endM', endS, unitS, cutL, longM, longP]
theorem long_valid (k : Nat) (hk : k + 8 ≤ 65536) : validD S1 (longP k) = 0 := by
  unfold validD
  rw [longP_raw, longP_split k hk, if_pos ⟨rfl, rfl⟩]
theorem long_repl (k : Nat) (hk : k + 8 ≤ 65536) (n : Nat) (hn : n = 4 ∨ n = 5 ∨ n = 6 ∨ n = 7) :
    replD D1 S1 (encS 1) 1 (longP k) 1 [(0, 1)] [[(1, List.replicate n 98, 0)]] = if 65536 < k + 7 + n then ((0, []), 3) else ((1, setRaw (longP k) 1 (List.replicate n 98)), 0) := by
  have hc : contD D1 (longP k) 1 = ([(1, [97], 0)], [0, 1], 0, 0) := by rfl
  have hp : ptAt (longP k) 1 = (true, Lib.decDigits 1, [97]) := by rfl
  rw [replD_m (long_valid k hk) (by rw [hc]) rfl (by rw [hc]; decide), hc, hp]
  have hr : (rawP (setRaw (longP k) 1 (List.replicate n 98))).length = k + 7 + n := by simp [rawP, setRaw, longP, List.modify_cons]; omega
  have he : encR (encS 1) [97] [0, 1] 0 [] [(0, 1)] [[(1, List.replicate n 98, 0)]] = .ok (List.replicate n 98, 1) := by rcases hn with rfl | rfl | rfl | rfl <;> rfl
  have hD : D1 (List.replicate n 98) = ([(1, List.replicate n 98, 0)], List.range (n + 1), 0, 0) := by rcases hn with rfl | rfl | rfl | rfl <;> rfl
  have hw : renumL (replL [(1, [97], 0)] [(0, 1)] [[(1, List.replicate n 98, 0)]]) = [(1, List.replicate n 98, 0)] := by rcases hn with rfl | rfl | rfl | rfl <;> rfl
  simp only [he, List.drop_succ_cons, List.drop_zero, List.append_nil]
  unfold replE
  rw [hw, hD, if_neg (by simp), if_neg (by simp), show ((1 : Int).toNat) = 1 from rfl, hr]
end St
theorem ranges_one {W : World} {g : Nat} {a b : Int} (h0 : W.cell? ⟨g, 0, none⟩ = some (.int .i64 a)) (h1 : W.cell? ⟨g, 1, none⟩ = some (.int .i64 b)) : RangesAt W (some ⟨g, 0, none⟩) [(a, b)] := by
  intro _
  refine ⟨g, 0, rfl, World.block_lt_of_cell? _ _ h0, fun j hj => ?_⟩
  obtain rfl : j = 0 := by simp at hj; omega
  exact ⟨h0, h1⟩
theorem targs_one {W : World} {g g2 : Nat} {k i : Int} {s : ByteArray} (h0 : W.cell? ⟨g, 0, none⟩ = some (.slice (some ⟨g2, 0, none⟩) 1 1)) (h1 : W.cell? ⟨g2, 0, none⟩ = some (.int .i64 k)) (h2 : W.cell? ⟨g2, 1, none⟩ = some (.string s)) (h3 : W.cell? ⟨g2, 2, none⟩ = some (.int .i64 i)) : TargsAt W (some ⟨g, 0, none⟩) [[(k, s.data.toList, i)]] := by
  intro _
  refine ⟨g, 0, rfl, World.block_lt_of_cell? _ _ h0, fun j hj => ?_⟩
  obtain rfl : j = 0 := by simp at hj; omega
  refine ⟨some ⟨g2, 0, none⟩, 1, h0, ?_, by simp, by omega, fun h => by cases h⟩
  intro _
  refine ⟨g2, 0, rfl, World.block_lt_of_cell? _ _ h1, fun j hj => ?_⟩
  obtain rfl : j = 0 := by simp at hj; omega
  refine ⟨h1, ?_, h3⟩
  rw [h2]
  simp [ba_eta]
end Go.Proofs.YthoemdibbldndaaGreatDoor

namespace Go.Proofs.YthoemdibbldndaaGreatDoor
open Go.RowKit

/-- Replace at the example: whatever the ranges and targets lie in. -/
theorem known_call (A B C : Option Addr) (c : Nat) (W : World) (hL : Mk.LibAt W) (hP : PartsAt W A St.psK) (h1 : 3 ≤ c) (h2 : c ≤ 9223372036854775807) (hB : RangesAt W B [(0, 5)]) (hC : TargsAt W C [[(1, [83, 97, 108, 117, 116], 0)]]) :
    Calls Tryz.prog 16 #[.agg #[.int .i64 1, .slice A 3 c], .int .i64 1, .slice B 1 1, .slice C 1 1] W fun e w' => ∃ A' c', e = .returned (.tuple #[.agg #[.int .i64 1, .slice A' 3 c'], .int .i64 0]) ∧ PartsAt w' A' St.psK2 ∧ Und W w' := by
  have h := dreplace_any A B C 3 c 1 1 1 1 St.psK 1 [(0, 5)] [[(1, [83, 97, 108, 117, 116], 0)]] W (fm1 W hL) rfl h1 h2 rfl rfl hP hB hC (by omega) (by decide) (by omega)
    (fun t ht => by rw [List.mem_singleton.1 ht]; decide) (fun t ht => by rw [List.mem_singleton.1 ht]; exact St.known_enc)
  rw [St.known_repl] at h
  refine h.mono ?_
  rintro e w' ⟨A', c', rfl, hP', _, _, hu⟩
  exact ⟨A', c', rfl, hP', hu⟩
set_option maxRecDepth 20000 in
set_option maxHeartbeats 12800000 in
theorem known10_any (w : World) (hL : Mk.LibAt w) : Calls Tryz.prog 18 #[] w fun e w' => e = .returned (.bool true) ∧ Und w w' := by
  have h1 := dparse_any ⟨#[60, 112, 62, 72, 101, 108, 108, 111, 32, 60, 98, 62, 120, 60, 47, 98, 62, 60, 47, 112, 62]⟩ w (fm1 w hL) (by show 21 ≤ _; omega)
  rw [St.known_split] at h1
  have H1 := hid h1
  have HL := hid hL
  clear h1 hL
  go_enter Tryz.func18, Tryz.ntmps18
  go_wp2_with fail
  refine H1.out.mono ?_
  rintro e w1 ⟨hu1, h⟩
  have h' : ∃ A c, e = .returned (.tuple #[.agg #[.int .i64 1, .slice A 3 c], .int .i64 0, .int .i64 0]) ∧ PartsAt w1 A St.psK ∧ 3 ≤ c ∧ c ≤ 9223372036854775807 := by
    rcases h with ⟨_, h⟩ | ⟨h, _⟩
    · exact h
    · exact absurd rfl h
  obtain ⟨A, c, rfl, hP, hc1, hc2⟩ := h'
  have HU1 := hid hu1
  have HP := hid hP
  have hcall := hid (fun W (hW : Und w1 W) (B C : Option Addr) (hB : RangesAt W B [(0, 5)]) (hC : TargsAt W C [[(1, [83, 97, 108, 117, 116], 0)]]) => known_call A B C c W (HL.out.und (HU1.out.trans hW)) (HP.out.und hW) hc1 hc2 hB hC)
  clear h hP hu1
  go_wp2_with fail
  refine (hcall.out _ (by repeat (first | exact Und.refl _ | assumption | refine Und.under ?_ _ | refine Und.alloc ?_ _ | refine Und.drew ?_ | refine Und.drewN ?_ _)) _ _ ?_ ?_).mono ?_
  · exact ranges_one (by go_simp) (by go_simp)
  · exact targs_one (g2 := w1.heap.size + 1 + 1) (s := ⟨#[83, 97, 108, 117, 116]⟩) (by go_simp) (by go_simp) (by go_simp) (by go_simp)
  rintro e w2 ⟨A2, c2, rfl, hP2, hu2⟩
  have HU2 := hid (HU1.out.trans (Und.trans (by repeat (first | exact Und.refl _ | assumption | refine Und.under ?_ _ | refine Und.alloc ?_ _ | refine Und.drew ?_ | refine Und.drewN ?_ _)) hu2))
  have hb := hid (fun W (hW : Und w2 W) => dbytes_any 1 A2 3 c2 St.psK2 W rfl (hP2.und hW) (by omega) (by decide))
  rw [St.known_bytes] at hb
  clear hu2 hP2
  go_wp2_with fail
  refine (hb.out _ (by repeat (first | exact Und.refl _ | assumption | refine Und.under ?_ _ | refine Und.alloc ?_ _ | refine Und.drew ?_ | refine Und.drewN ?_ _))).mono ?_
  rintro e w3 ⟨rfl, hu3⟩
  have HU3 := hid (HU2.out.trans (Und.trans (by repeat (first | exact Und.refl _ | assumption | refine Und.under ?_ _ | refine Und.alloc ?_ _ | refine Und.drew ?_ | refine Und.drewN ?_ _)) hu3))
  clear hu3
  go_wp2
  go_ret
  exact ⟨rfl, HU3.out⟩
end Go.Proofs.YthoemdibbldndaaGreatDoor
