/- The contracts of the law package's made, raws and changed. Conditions: the lists lie in memory. Plain: an encoded fragment with more tags behind it, read and split. No program in sight. The laws MarkupReads and MarkupDecodes: walks. Condition: the library's tables lie at their places. -/
import Derived.Test.YtiifjfbfkhhpeaaGreatDoorRdsB
import Derived.Lib.ConvBytes
import Derived.Test.YtiifjfbfkhhpeaaGreatDoorRdsA
import Derived.Test.YtiifjfbfkhhpeaaGreatDoorRefSame
set_option linter.unusedVariables false
set_option linter.unusedSimpArgs false

namespace Go.Proofs.YtiifjfbfkhhpeaaGreatDoor
open Go.RowKit

theorem genT_small {ns : Bool} {f op : List St.It} {c : Nat} (h : St.GenT ns f op c) : ∀ x ∈ f, x.1 ≠ 1 → x.2.1.length ≤ 24 := by
  have add : ∀ {f : List St.It} {x : St.It}, (∀ y ∈ f, y.1 ≠ 1 → y.2.1.length ≤ 24) → (x.1 ≠ 1 → x.2.1.length ≤ 24) → ∀ y ∈ St.addI f x, y.1 ≠ 1 → y.2.1.length ≤ 24 := by
    intro f x hf hx y hy h1
    rcases St.mem_addI hy with hy | rfl | ⟨hy, _⟩
    · exact hf y hy h1
    · exact hx h1
    · exact absurd hy h1
  have t4 : ∀ t ∈ St.tg4, t.length ≤ 24 := by decide
  have t2 : ∀ t ∈ St.tg2, t.length ≤ 24 := by decide
  induction h with
  | nil => intro x hx; cases hx
  | text t h ih => exact add ih (fun e => absurd rfl e)
  | slot t ht h ih => exact add ih (fun _ => (St.name_len ht).1)
  | empty t ht h ih => exact add ih (fun _ => t4 t ht)
  | opened t ht h ih => exact add ih (fun _ => t2 t ht)
  | closed k hk hl h ih => exact add ih (fun _ => by
      have h1 := (h.small _ (List.getElem_mem hk)).1
      show (St.nameOf _).length ≤ 24
      exact Nat.le_trans (St.name_le' _) (by omega))
  | stray hn h ih => exact add ih (fun _ => by show 1 ≤ 24; omega)
/-- A fragment in memory. -/
def FragAtT (w : World) (A : Option Addr) (c : Nat) (f : List St.It) (n : Nat) : Prop := ItemsAt w A f ∧ (St.GoodT f ∧ ∀ x ∈ f, x.1 ≠ 1 → x.2.1.length ≤ 24) ∧ f.length ≤ 2 * n ∧ tot f ≤ 23 * n ∧ f.length ≤ c ∧ c ≤ 9223372036854775807 ∧ ∀ b off, A = some ⟨b, off, none⟩ → b < w.heap.size
theorem FragAtT.und {w w' : World} {A : Option Addr} {c : Nat} {f : List St.It} {n : Nat} (h : FragAtT w A c f n) (u : Und w w') : FragAtT w' A c f n := by
  obtain ⟨h1, h2, h3, h4, h5, h6, h7⟩ := h
  exact ⟨h1.und u, h2, h3, h4, h5, h6, fun b off e => Nat.lt_of_lt_of_le (h7 b off e) u.size⟩
theorem own_block_lt {w : World} {B n c : Nat} {A : Option Addr} {e : TypeId} {size : Nat} {xs : List Value} (h : w.ownsRow B e size (.slice A n c) n xs) : ∀ b off, A = some ⟨b, off, none⟩ → b < w.heap.size := by
  intro b off e'
  subst e'
  exact (h.lt b rfl).2
set_option maxHeartbeats 3200000 in
theorem made_any (A : Option Addr) (n c : Nat) (zs : List Int) (w : World) (hz : zs.length = n) (hn : n ≤ 9223372036854775807) (hI : IntsAt w A zs) :
    Calls Tryz.prog 14 #[.slice A n c] w fun e w' => ∃ A2 c2 f, e = .returned (.slice A2 f.length c2) ∧ FragAtT w' A2 c2 f 8 ∧ Und w w' := by
  have HG := hid (GenP.fresh (c := c) (T := 29) hn hz hI)
  clear hI
  go_enter Tryz.func14, Tryz.ntmps14
  go_wp2_with fail
  refine (fragn_gen (w.heap.size + 1) w.heap.size 0 8 _ HG.out (by omega) (by omega)).mono ?_
  rintro e w2 ⟨v, f, cc, rfl, ho, hgt, hfl, hft, hcn, hG2, hk⟩
  have hgd : St.GoodT f ∧ ∀ x ∈ f, x.1 ≠ 1 → x.2.1.length ≤ 24 := ⟨St.genT_good hgt (by omega), genT_small hgt⟩
  obtain ⟨A2, c2, rfl, h1, h2, _⟩ := own_slice' ho
  have hu : Und w w2 := ((Und.refl w).alloc _).of_gb hk (fun g e => by cases e; exact Nat.le_refl _)
  have hF : FragAtT w2 A2 c2 f 8 := ⟨items_own ho rfl, hgd, hfl, hft, h1, by unfold maxLen at h2; omega, own_block_lt ho⟩
  have HE := hid (And.intro hF hu)
  clear ho hgd hG2 hk hu hF
  go_wp2
  go_ret
  exact ⟨A2, c2, f, rfl, HE.out.1, HE.out.2⟩
set_option maxHeartbeats 3200000 in
theorem raws_any (A B : Option Addr) (n c m d : Nat) (zs ys : List Int) (w : World) (hz : zs.length = n) (hn : n ≤ 9223372036854775807) (hI : IntsAt w A zs) (hy : ys.length = m) (hm : m ≤ 9223372036854775807) (hJ : IntsAt w B ys) :
    Calls Tryz.prog 20 #[.slice A n c, .slice B m d] w fun e w' => ∃ raw A2 c2 f, e = .returned (.tuple #[.string raw, .slice A2 f.length c2]) ∧ FragAtT w' A2 c2 f 8 ∧ RawsT f raw ∧ raw.size ≤ 8000 ∧ Und w w' := by
  have HM := hid (made_any A n c zs w hz hn hI)
  have HJ := hid hJ
  clear hI hJ
  go_enter Tryz.func20, Tryz.ntmps20
  go_wp2_with fail
  refine HM.out.mono ?_
  rintro e w2 ⟨A2, c2, f, rfl, hF, hu⟩
  have HG := hid (GenP.fresh (c := d) (T := 29) hm hy (HJ.out.und hu))
  have HF := hid hF
  have HU := hid hu
  clear hF hu HM
  go_wp2_with fail
  refine (raws_genT (w2.heap.size + 1) w2.heap.size 0 A2 f.length c2 f _ HG.out (by omega) rfl HF.out.2.2.2.2.1 HF.out.2.2.2.2.2.1 (HF.out.1.und ((Und.refl _).alloc _)) (fun b off e => by have := HF.out.2.2.2.2.2.2 b off e; omega) (by have := HF.out.2.2.1; omega) (by have := HF.out.2.2.2.1; omega) HF.out.2.1.1 HF.out.2.1.2).mono ?_
  rintro e w3 ⟨raw, rfl, hR, hrs, hG3, hk⟩
  have hu3 : Und w2 w3 := ((Und.refl w2).alloc _).of_gb hk (fun g e => by cases e; exact Nat.le_refl _)
  have hb1 := HF.out.2.2.1
  have hb2 := HF.out.2.2.2.1
  have HE := hid (And.intro (HF.out.und hu3) (And.intro hR (HU.out.trans hu3)))
  clear hR hG3 hk hu3 HF HU HG
  go_wp2
  go_ret2
  exact ⟨raw, A2, c2, f, rfl, HE.out.1, HE.out.2.1, by omega, HE.out.2.2⟩
end Go.Proofs.YtiifjfbfkhhpeaaGreatDoor

namespace Go.Proofs.YtiifjfbfkhhpeaaGreatDoor.St

/-- The positions' encodings. -/
def encT (ps : List It) : List (List UInt8 × It) := ps.map fun p => (encI 1 p, p)
theorem encT_flat (ps : List It) : flatP (encT ps) = ps.flatMap (encI 1) := by unfold flatP encT; rw [List.flatMap_map]
theorem encT_its (ps : List It) : itsP (encT ps) = ps := by
  unfold itsP encT
  rw [List.map_map]
  show ps.map (fun p => p) = ps
  simp
theorem pos_len' (f : List It) : (posI f).length = lenL f := by
  induction f with
  | nil => rfl
  | cons x f ih =>
    have e : posI (x :: f) = (if x.1 = 1 then x.2.1.map (fun c => ((1 : Int), [c], (0 : Int))) else [x]) ++ posI f := by simp [posI]
    rw [e, List.length_append, ih]
    simp only [lenL, List.map_cons, List.sum_cons]
    unfold widthI
    split <;> simp
theorem enc_pos' (fmt : Int) (f : List It) : f.flatMap (encI fmt) = (posI f).flatMap (encI fmt) := by
  induction f with
  | nil => rfl
  | cons x f ih =>
    have e : posI (x :: f) = (if x.1 = 1 then x.2.1.map (fun c => ((1 : Int), [c], (0 : Int))) else [x]) ++ posI f := by simp [posI]
    rw [e, List.flatMap_cons, List.flatMap_append, ih]
    congr 1
    split
    · rename_i h1
      have e : encI fmt x = x.2.1.flatMap (encB fmt) := by unfold encI; rw [if_pos h1]
      rw [e, List.flatMap_map]
      congr 1
      funext c
      simp [encI]
    · simp
theorem pos_join' (l f : List It) (h : ∀ x ∈ l, x.1 = 1 → x.2.2 = 0) : (posI l).foldl addI f = l.foldl addI f := by
  induction l generalizing f with
  | nil => rfl
  | cons x l ih =>
    have hx := h x (by simp)
    have hl : ∀ y ∈ l, y.1 = 1 → y.2.2 = 0 := fun y hy => h y (by simp [hy])
    have e : posI (x :: l) = (if x.1 = 1 then x.2.1.map (fun c => ((1 : Int), [c], (0 : Int))) else [x]) ++ posI l := by simp [posI]
    rw [e, List.foldl_append, List.foldl_cons, ← ih (addI f x) hl]
    congr 1
    split
    · rename_i h1
      rw [addI_text]
      obtain ⟨k, t, i⟩ := x
      simp only at h1 hx ⊢
      rw [h1, hx h1]
    · rfl
theorem good_join {f : List It} (h : GoodT f) : (posI f).foldl addI [] = f := by
  rw [pos_join' f [] (fun x hx => gitem_zero (h.items x hx))]; exact h.nm
/-- A raw content of pieces of a fragment, and what stands behind it. -/
theorem read_good {f : List It} (h : GoodT f) (hl : f.length ≤ 512) (hL : lenL f ≤ 1024) {ps : List (List UInt8 × It)} (h1 : itsP ps = posI f) (h2 : ∀ p ∈ ps, Form1 p.2 p.1) (rest : List UInt8) :
    ∃ c, decFT markL (flatP ps ++ rest) 0 0 [] [] [] 0 = decFT markL rest (flatP ps).length (flatP ps).length f (offs 0 0 ps) [] c := by
  obtain ⟨c, hc⟩ := h.ok
  have hp : ∀ p ∈ ps, PieceT markL p.1 p.2 := by
    intro p hp
    have hm : p.2 ∈ posI f := by rw [← h1]; unfold itsP; exact List.mem_map.2 ⟨p, hp, rfl⟩
    exact form1_piece (pos_posT h.items _ hm) (h2 p hp)
  have hlen : ps.length = lenL f := by rw [← pos_len', ← h1]; simp [itsP]
  have := decFT_pieces mark_elen ps rest 0 0 [] [] [] 0 hp (by rw [h1]; exact hc) (by rw [h1, good_join h]; exact hl) (by simp; omega)
  rw [h1, good_join h] at this
  refine ⟨c, this.trans ?_⟩
  have e : (if ps = [] then 0 else 0 + (flatP ps).length) = (flatP ps).length := by
    split
    · rename_i h; subst h; simp [flatP]
    · omega
  rw [e, Nat.zero_add, List.nil_append]
theorem read_enc {f : List It} (h : GoodT f) (hl : f.length ≤ 512) (hL : lenL f ≤ 1024) (rest : List UInt8) :
    ∃ c, decFT markL (f.flatMap (encI 1) ++ rest) 0 0 [] [] [] 0 = decFT markL rest (f.flatMap (encI 1)).length (f.flatMap (encI 1)).length f (offs 0 0 (encT (posI f))) [] c := by
  have := read_good h hl hL (encT_its (posI f)) (fun p hp => by unfold encT at hp; obtain ⟨q, _, rfl⟩ := List.mem_map.1 hp; exact .inl rfl) rest
  rw [encT_flat, ← enc_pos'] at this
  exact this
theorem read_whole {f : List It} (h : GoodT f) (hl : f.length ≤ 512) (hL : lenL f ≤ 1024) {ps : List (List UInt8 × It)} (h1 : itsP ps = posI f) (h2 : ∀ p ∈ ps, Form1 p.2 p.1) :
    decFT markL (flatP ps) 0 0 [] [] [] 0 = (f, offs 0 0 ps ++ [(flatP ps).length], 0, 0) := by
  obtain ⟨c, hc⟩ := read_good h hl hL h1 h2 []
  rw [List.append_nil, decFT_nil] at hc
  exact hc
/-- The tags that a law puts behind a fragment: which, where the error stands. -/
def nestL (k : Nat) : List UInt8 := if k = 0 then [60, 47, 98, 62] else if k = 1 then [60, 98, 62, 60, 47, 105, 62] else if k = 2 then [60, 98, 62] else if k = 3 then [60, 105, 62, 60, 98, 62, 60, 47, 105, 62, 60, 47, 98, 62] else [60, 98, 47, 62, 60, 47, 98, 62]
def nestW (k : Nat) : Nat := if k = 0 then 0 else if k = 1 then 3 else if k = 2 then 3 else if k = 3 then 6 else 4
theorem one_step {l rest : List UInt8} {k : Int} {t : List UInt8} (h : PieceT markL l (k, t, 0)) {op op' : List It} {c c' : Nat} {i : Int} (hs : stepT op c k t = some (i, op', c')) {a d : Nat} {f : List It} {cuts : List Nat} (hf : f.length < 512) (hc : cuts.length < 1024) :
    decFT markL (l ++ rest) a d f cuts op c = decFT markL rest (a + l.length) (a + l.length) (addI f (k, t, i)) (cuts ++ [d]) op' c' := by
  have := (addI_len f (k, t, i)).1
  rw [decFT_step mark_elen a d f cuts (by simp [h.1]) (h.2.2 rest) h.2.1 hs (by rintro (e | e); (have e' : 512 < (addI f (k, t, i)).length := e; omega); omega), List.drop_left]
theorem one_bad {l rest : List UInt8} {k : Int} {t : List UInt8} (h : PieceT markL l (k, t, 0)) {op : List It} {c : Nat} (hs : stepT op c k t = none) {a d : Nat} {f : List It} {cuts : List Nat} :
    decFT markL (l ++ rest) a d f cuts op c = ([], [], a, 7) := decFT_tag a d f cuts (by simp [h.1]) (h.2.2 rest) h.2.1 hs
theorem pc (p : It) (h : PosT (p.1, p.2.1, 0)) : PieceT markL (encI 1 (p.1, p.2.1, 0)) (p.1, p.2.1, 0) := mark_piece h
theorem p_open (t : List UInt8) (h : isContentL t = true) (hb : blockL (nameOf t) = false) : PieceT markL ([60] ++ t ++ [62]) (2, t, 0) := by
  have := mark_piece (p := (2, t, 0)) (.inr (.inr (.inl ⟨t, 0, .inl rfl, h, hb⟩)))
  simpa [encI] using this
theorem p_empty (t : List UInt8) (h : isContentL t = true) (hb : blockL (nameOf t) = false) : PieceT markL ([60] ++ t ++ [47, 62]) (4, t, 0) := by
  have := mark_piece (p := (4, t, 0)) (.inr (.inr (.inl ⟨t, 0, .inr rfl, h, hb⟩)))
  simpa [encI] using this
theorem p_close (t : List UInt8) (h : isNameL t = true) (hb : blockL t = false) : PieceT markL ([60, 47] ++ t ++ [62]) (3, t, 0) := by
  have := mark_piece (p := (3, t, 0)) (.inr (.inr (.inr ⟨t, 0, rfl, h, hb⟩)))
  simpa [encI] using this
theorem nest_read {f : List It} (h : GoodT f) (hl : f.length ≤ 500) (hL : lenL f ≤ 1000) {k : Nat} (hk : k < 5) :
    decFT markL (f.flatMap (encI 1) ++ nestL k) 0 0 [] [] [] 0 = ([], [], (f.flatMap (encI 1)).length + nestW k, 7) := by
  obtain ⟨c, hc⟩ := read_enc h (by omega) (by omega) (nestL k)
  have hcl : (offs 0 0 (encT (posI f))).length ≤ 1000 := by rw [offs_len]; unfold encT; rw [List.length_map, pos_len']; exact hL
  rw [hc]
  have ob : PieceT markL [60, 98, 62] (2, [98], 0) := p_open [98] (by decide) (by decide)
  have oi : PieceT markL [60, 105, 62] (2, [105], 0) := p_open [105] (by decide) (by decide)
  have eb : PieceT markL [60, 98, 47, 62] (4, [98], 0) := p_empty [98] (by decide) (by decide)
  have cb : PieceT markL [60, 47, 98, 62] (3, [98], 0) := p_close [98] (by decide) (by decide)
  have ci : PieceT markL [60, 47, 105, 62] (3, [105], 0) := p_close [105] (by decide) (by decide)
  have so : ∀ (op : List It) (c : Nat) (t : List UInt8), stepT op c 2 t = some ((c : Int) + 1, op ++ [(2, t, (c : Int) + 1)], c + 1) := fun _ _ _ => rfl
  have hal := fun (g : List It) x => (addI_len g x).1
  rcases (show k = 0 ∨ k = 1 ∨ k = 2 ∨ k = 3 ∨ k = 4 by omega) with rfl | rfl | rfl | rfl | rfl
  · exact one_bad (rest := []) cb rfl
  · show decFT markL ([60, 98, 62] ++ [60, 47, 105, 62]) _ _ _ _ _ _ = _
    rw [one_step ob (so _ _ _) (by omega) (by omega)]
    exact one_bad (rest := []) ci (by simp [stepT, nameOf])
  · show decFT markL ([60, 98, 62] ++ []) _ _ _ _ _ _ = _
    rw [one_step ob (so _ _ _) (by omega) (by omega), decFT_nil]
    simp [endT, nestW]
  · show decFT markL ([60, 105, 62] ++ ([60, 98, 62] ++ ([60, 47, 105, 62] ++ [60, 47, 98, 62]))) _ _ _ _ _ _ = _
    have h1 := hal f (2, [105], (c : Int) + 1)
    rw [one_step oi (so _ _ _) (by omega) (by omega), one_step ob (so _ _ _) (by omega) (by simp; omega)]
    exact one_bad ci (by simp [stepT, nameOf])
  · show decFT markL ([60, 98, 47, 62] ++ [60, 47, 98, 62]) _ _ _ _ _ _ = _
    rw [one_step (op' := []) (c' := c + 1) (i := (c : Int) + 1) eb rfl (by omega) (by omega)]
    exact one_bad (rest := []) cb rfl
/-- The names of the law's blocks. -/
def blkN5 (k : Nat) : List UInt8 := if k = 0 then [112] else if k = 1 then [104] else if k = 2 then [108, 105] else if k = 3 then [116, 100] else [116, 105, 116, 108, 101]
theorem blkN5_ok (k : Nat) : blockL (blkN5 k) = true ∧ isContentL (blkN5 k ++ []) = true ∧ nameOf (blkN5 k ++ []) = blkN5 k ∧ isNameL (blkN5 k) = true := by
  unfold blkN5
  by_cases h0 : k = 0 <;> by_cases h1 : k = 1 <;> by_cases h2 : k = 2 <;> by_cases h3 : k = 3 <;> simp only [h0, h1, h2, h3, if_true, if_false] <;> decide
theorem block_read {f : List It} (h : GoodT f) (hl : f.length ≤ 512) (hL : lenL f ≤ 1024) (k : Nat) :
    decFT markL (f.flatMap (encI 1) ++ ([60] ++ blkN5 k ++ [62])) 0 0 [] [] [] 0 = ([], [], (f.flatMap (encI 1)).length, 2) := by
  obtain ⟨c, hc⟩ := read_enc h hl hL ([60] ++ blkN5 k ++ [62])
  rw [hc]
  refine decFT_none _ _ _ _ (by simp) ?_
  obtain ⟨h1, h2, h3, h4⟩ := blkN5_ok k
  rw [List.append_nil] at h2 h3
  have ht := tag_of (rest := []) (fun c hcc => (content_gt h2 c hcc).1) (tagI_open h2)
  rw [List.append_nil] at ht
  have e : ([60] ++ blkN5 k ++ [62] : List UInt8) = 60 :: (blkN5 k ++ [62]) := by simp
  rw [e] at ht ⊢
  rw [mark_60 (by rfl), inlL, ht]
  simp only [h3, h1, if_true]
theorem enc_noC {b : List UInt8} (hb : blockL b = true) {f : List It} (h : GoodT f) : NoC b (f.flatMap (encI 1)) := by
  rw [enc_pos', ← encT_flat]
  refine flat_noC hb fun q hq => ?_
  unfold encT at hq
  obtain ⟨p, hp, rfl⟩ := List.mem_map.1 hq
  exact ⟨pos_posT h.items _ hp, .inl rfl⟩
section
variable {dE : List UInt8 → Nat × Int} {dig : Nat → List UInt8}
theorem block_split {R : List UInt8} (k : Nat) (hq : NoC (blkN5 k) R) (he : (dE R).2 = 0) (hz : R.length ≤ 60000) :
    splitM dE dig ([60] ++ blkN5 k ++ [62] ++ R ++ endM (blkN5 k)) = ([(false, [], [60] ++ blkN5 k ++ [62]), (true, dig 1, R), (false, [], endM (blkN5 k))], 0, 0) := by
  obtain ⟨h1, h2, h3, _⟩ := blkN5_ok k
  have hbl := (block_len h1).2
  obtain ⟨d, hd⟩ : ∃ d, d = [60] ++ blkN5 k ++ [62] ++ R ++ endM (blkN5 k) := ⟨_, rfl⟩
  have hdl : d.length ≤ 65536 := by rw [hd]; simp [endM]; omega
  rw [← hd, splitF_ok (by omega)]
  have hd0 : d.drop 0 = [60] ++ (blkN5 k ++ []) ++ [62] ++ (R ++ (endM (blkN5 k) ++ [])) := by rw [hd]; simp
  obtain ⟨g1, g2, g3⟩ := unit_step (dE := dE) (dig := dig) (r := 0) (s := ([], 0)) h1 h2 h3 hq he hd0
  rw [g1, mkF_end (by have := congrArg List.length g2; simp at this ⊢; omega)]
  have hd2 : d = ([60] ++ blkN5 k ++ [62]) ++ (R ++ endM (blkN5 k)) := by rw [hd]; simp
  have c0 : cutL d 0 (0 + ((blkN5 k ++ []).length + 2)) = [60] ++ blkN5 k ++ [62] := by
    unfold cutL
    rw [List.drop_zero, hd2, List.take_left' (by simp <;> omega)]
  have c2 : d.drop (0 + ((blkN5 k ++ []).length + 2) + R.length) = endM (blkN5 k) := by
    have := drop_more (a := 0 + ((blkN5 k ++ []).length + 2)) (x := R) (y := endM (blkN5 k)) (d := d) (by
      rw [hd2, List.drop_left' (by simp <;> omega)])
    exact this
  simp only [endM', unitS, endS, c0, g3, c2]
  rfl
theorem block_open {R : List UInt8} (k : Nat) (hq : NoC (blkN5 k) R) (he : (dE R).2 = 0) (hz : R.length ≤ 60000) :
    splitM dE dig ([60] ++ blkN5 k ++ [62] ++ R) = ([], R.length + (blkN5 k).length + 2, 2) := by
  obtain ⟨h1, h2, h3, _⟩ := blkN5_ok k
  have hbl := (block_len h1).2
  obtain ⟨d, hd⟩ : ∃ d, d = [60] ++ blkN5 k ++ [62] ++ R := ⟨_, rfl⟩
  have hdl : d.length = R.length + (blkN5 k).length + 2 := by rw [hd]; simp; omega
  rw [← hd, splitF_ok (by omega)]
  have ho : outsM (d.drop 0) = some ((blkN5 k ++ []).length + 2, blkN5 k) := by
    rw [List.drop_zero, hd]
    have := outs_block (rest := R) h1 h2 h3
    simpa using this
  have hd1 : d.drop (0 + ((blkN5 k ++ []).length + 2)) = R := by rw [hd, List.drop_left' (by simp <;> omega)]
  rw [mkF_open (by omega) ho (block_len h1).1 (by rw [hd1, index_no hq]; decide) (by rw [hd1]; exact he), hdl]
  rfl
theorem block_end (k : Nat) : splitM dE dig (endM (blkN5 k)) = ([], 0, 2) := by
  obtain ⟨h1, h2, h3, h4⟩ := blkN5_ok k
  have hbl := (block_len h1).2
  have hdl : (endM (blkN5 k)).length ≤ 8 := by simp [endM]; omega
  rw [splitF_ok (by omega)]
  have ht := tag_of (t := 47 :: blkN5 k) (rest := []) (fun c hc => by rcases List.mem_cons.1 hc with rfl | hc; decide; exact (name_gt h4 c hc).1) (tagI_close h4)
  have e : ([60] ++ (47 :: blkN5 k) ++ [62] ++ [] : List UInt8) = endM (blkN5 k) := by simp [endM]
  rw [e] at ht
  have hp : ([60, 33, 45, 45] : List UInt8).isPrefixOf (endM (blkN5 k)) = false := by
    rw [Bool.eq_false_iff]
    intro e
    rw [comment_no e] at ht; cases ht
  have ho : outsM ((endM (blkN5 k)).drop 0) = none := by
    rw [List.drop_zero, outs_tag (by simp [endM]) hp, ht]
    simp only
    rw [nameOf_name h4, if_pos h1]; rfl
  rw [mkF_bad (by simp [endM]) ho]
  rfl
end
end Go.Proofs.YtiifjfbfkhhpeaaGreatDoor.St

namespace Go.Proofs.YtiifjfbfkhhpeaaGreatDoor
open Go.RowKit

open Mk in
/-- A raw content of pieces is read to its items. -/
theorem mk_reads {f : List St.It} {raw : ByteArray} (hg : St.GoodT f) (hl : f.length ≤ 100) (ht : tot f ≤ 900) (hr : RawsT f raw) : ∃ cuts, Mk.mkD raw = (f, cuts, 0, 0) ∧ cuts.length = St.lenL f + 1 := by
  obtain ⟨ps, h1, h2, h3⟩ := hr
  have hll := lenL_tot f
  have hlen : ps.length = St.lenL f := by rw [← its_len, h2, St.pos_len]
  refine ⟨St.offs 0 0 ps ++ [(St.flatP ps).length], ?_, by simp [St.offs_len, hlen]⟩
  rw [Mk.mkD_F, h1]
  exact St.read_whole hg (by omega) (by omega) h2 h3

end Go.Proofs.YtiifjfbfkhhpeaaGreatDoor
