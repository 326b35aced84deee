/- The contracts of the law package's made, raws and changed. Conditions: the lists lie in memory. Plain: an encoded fragment with more tags behind it, read and split. No program in sight. The contracts of the reference's find, tag and markup element: what they give is Lib.index, St.tagL, St.markL. Condition: the text is no longer than a text can be. The contract of the reference's Decode: what it gives is St.decT of the format's element, tags and all. Condition: the text is no longer than a text can be. The contract of the reference's markup element: what it gives is St.markL. Condition: the text is no longer than a text can be. The laws MarkupReads and MarkupDecodes: walks. Condition: the library's tables lie at their places. -/
import Derived.Test.YtiifjfbfkhhpeaaDoorRdsB
import Derived.Lib.ConvBytes
import Derived.Test.YtiifjfbfkhhpeaaDoorRdsA
import Derived.Test.YtiifjfbfkhhpeaaDoorRefEl
import Derived.LoopN
import Derived.Test.YtiifjfbfkhhpeaaDoorRefDecode
import Derived.Test.YtiifjfbfkhhpeaaDoorBas
import Derived.Test.YtiifjfbfkhhpeaaDoorApp2
import Derived.Test.YtiifjfbfkhhpeaaDoorRefCheck
import Derived.Test.YtiifjfbfkhhpeaaDoorBoxI
import Derived.Test.YtiifjfbfkhhpeaaDoorRefSame
set_option linter.unusedVariables false
set_option linter.unusedSimpArgs false

namespace Go.Proofs.YtiifjfbfkhhpeaaDoor
open Go.RowKit

theorem genT_small {ns : Bool} {f op : List St.It} {c : Nat} (h : St.GenT ns f op c) : ∀ x ∈ f, x.1 ≠ 1 → x.2.1.length ≤ 24 := by
  have add : ∀ {f : List St.It} {x : St.It}, (∀ y ∈ f, y.1 ≠ 1 → y.2.1.length ≤ 24) → (x.1 ≠ 1 → x.2.1.length ≤ 24) → ∀ y ∈ St.addI f x, y.1 ≠ 1 → y.2.1.length ≤ 24 := by
    intro f x hf hx y hy h1
    rcases St.mem_addI hy with hy | rfl | ⟨hy, _⟩
    · exact hf y hy h1
    · exact hx h1
    · exact absurd hy h1
  have t4 : ∀ t ∈ St.tg4, t.length ≤ 24 := by decide
  have t2 : ∀ t ∈ St.tg2, t.length ≤ 24 := by decide
  induction h with
  | nil => intro x hx; cases hx
  | text t h ih => exact add ih (fun e => absurd rfl e)
  | slot t ht h ih => exact add ih (fun _ => (St.name_len ht).1)
  | empty t ht h ih => exact add ih (fun _ => t4 t ht)
  | opened t ht h ih => exact add ih (fun _ => t2 t ht)
  | closed k hk hl h ih => exact add ih (fun _ => by
      have h1 := (h.small _ (List.getElem_mem hk)).1
      show (St.nameOf _).length ≤ 24
      exact Nat.le_trans (St.name_le' _) (by omega))
  | stray hn h ih => exact add ih (fun _ => by show 1 ≤ 24; omega)
/-- A fragment in memory. -/
def FragAtT (w : World) (A : Option Addr) (c : Nat) (f : List St.It) (n : Nat) : Prop := ItemsAt w A f ∧ (St.GoodT f ∧ ∀ x ∈ f, x.1 ≠ 1 → x.2.1.length ≤ 24) ∧ f.length ≤ 2 * n ∧ tot f ≤ 23 * n ∧ f.length ≤ c ∧ c ≤ 9223372036854775807 ∧ ∀ b off, A = some ⟨b, off, none⟩ → b < w.heap.size
theorem FragAtT.und {w w' : World} {A : Option Addr} {c : Nat} {f : List St.It} {n : Nat} (h : FragAtT w A c f n) (u : Und w w') : FragAtT w' A c f n := by
  obtain ⟨h1, h2, h3, h4, h5, h6, h7⟩ := h
  exact ⟨h1.und u, h2, h3, h4, h5, h6, fun b off e => Nat.lt_of_lt_of_le (h7 b off e) u.size⟩
theorem own_block_lt {w : World} {B n c : Nat} {A : Option Addr} {e : TypeId} {size : Nat} {xs : List Value} (h : w.ownsRow B e size (.slice A n c) n xs) : ∀ b off, A = some ⟨b, off, none⟩ → b < w.heap.size := by
  intro b off e'
  subst e'
  exact (h.lt b rfl).2
set_option maxHeartbeats 3200000 in
theorem made_any (A : Option Addr) (n c : Nat) (zs : List Int) (w : World) (hz : zs.length = n) (hn : n ≤ 9223372036854775807) (hI : IntsAt w A zs) :
    Calls Tryd.prog 21 #[.slice A n c] w fun e w' => ∃ A2 c2 f, e = .returned (.slice A2 f.length c2) ∧ FragAtT w' A2 c2 f 8 ∧ Und w w' := by
  have HG := hid (GenP.fresh (c := c) (T := 35) hn hz hI)
  clear hI
  go_enter Tryd.func21, Tryd.ntmps21
  go_wp2_with fail
  refine (fragn_gen (w.heap.size + 1) w.heap.size 0 8 _ HG.out (by omega) (by omega)).mono ?_
  rintro e w2 ⟨v, f, cc, rfl, ho, hgt, hfl, hft, hcn, hG2, hk⟩
  have hgd : St.GoodT f ∧ ∀ x ∈ f, x.1 ≠ 1 → x.2.1.length ≤ 24 := ⟨St.genT_good hgt (by omega), genT_small hgt⟩
  obtain ⟨A2, c2, rfl, h1, h2, _⟩ := own_slice' ho
  have hu : Und w w2 := ((Und.refl w).alloc _).of_gb hk (fun g e => by cases e; exact Nat.le_refl _)
  have hF : FragAtT w2 A2 c2 f 8 := ⟨items_own ho rfl, hgd, hfl, hft, h1, by unfold maxLen at h2; omega, own_block_lt ho⟩
  have HE := hid (And.intro hF hu)
  clear ho hgd hG2 hk hu hF
  go_wp2
  go_ret
  exact ⟨A2, c2, f, rfl, HE.out.1, HE.out.2⟩
set_option maxHeartbeats 3200000 in
theorem raws_any (A B : Option Addr) (n c m d : Nat) (zs ys : List Int) (w : World) (hz : zs.length = n) (hn : n ≤ 9223372036854775807) (hI : IntsAt w A zs) (hy : ys.length = m) (hm : m ≤ 9223372036854775807) (hJ : IntsAt w B ys) :
    Calls Tryd.prog 9 #[.slice A n c, .slice B m d] w fun e w' => ∃ raw A2 c2 f, e = .returned (.tuple #[.string raw, .slice A2 f.length c2]) ∧ FragAtT w' A2 c2 f 8 ∧ RawsT f raw ∧ raw.size ≤ 8000 ∧ Und w w' := by
  have HM := hid (made_any A n c zs w hz hn hI)
  have HJ := hid hJ
  clear hI hJ
  go_enter Tryd.func9, Tryd.ntmps9
  go_wp2_with fail
  refine HM.out.mono ?_
  rintro e w2 ⟨A2, c2, f, rfl, hF, hu⟩
  have HG := hid (GenP.fresh (c := d) (T := 35) hm hy (HJ.out.und hu))
  have HF := hid hF
  have HU := hid hu
  clear hF hu HM
  go_wp2_with fail
  refine (raws_genT (w2.heap.size + 1) w2.heap.size 0 A2 f.length c2 f _ HG.out (by omega) rfl HF.out.2.2.2.2.1 HF.out.2.2.2.2.2.1 (HF.out.1.und ((Und.refl _).alloc _)) (fun b off e => by have := HF.out.2.2.2.2.2.2 b off e; omega) (by have := HF.out.2.2.1; omega) (by have := HF.out.2.2.2.1; omega) HF.out.2.1.1 HF.out.2.1.2).mono ?_
  rintro e w3 ⟨raw, rfl, hR, hrs, hG3, hk⟩
  have hu3 : Und w2 w3 := ((Und.refl w2).alloc _).of_gb hk (fun g e => by cases e; exact Nat.le_refl _)
  have hb1 := HF.out.2.2.1
  have hb2 := HF.out.2.2.2.1
  have HE := hid (And.intro (HF.out.und hu3) (And.intro hR (HU.out.trans hu3)))
  clear hR hG3 hk hu3 HF HU HG
  go_wp2
  go_ret2
  exact ⟨raw, A2, c2, f, rfl, HE.out.1, HE.out.2.1, by omega, HE.out.2.2⟩
theorem frozen_past (w : World) (s : ByteArray) (j : Nat) (hj : j < s.size) : (Lib.bytesWorld w 5 s).frozen? ⟨w.heap.size, j, none⟩ = false := by
  have h := Lib.bytesWorld_at_new w 5 s
  have hs : s.size ≤ (Lib.bytesCells w 5 s).size := by unfold Lib.bytesCells; simp
  unfold World.frozen?
  simp only [h]
  simp
  omega
set_option maxRecDepth 20000 in
set_option maxHeartbeats 3200000 in
theorem changed_any (s : ByteArray) (at' by' : Int) (w : World) (hs : s.size ≤ 1000000) :
    Calls Tryd.prog 13 #[.string s, .int .i64 at', .int .u8 by'] w fun e w' => ∃ u : ByteArray, e = .returned (.string u) ∧ u.size = s.size ∧ Und w w' := by
  have hb : Below w.heap.size w (Lib.bytesWorld w 5 s) := ⟨rfl, rfl, rfl, by rw [Lib.bytesWorld_size]; omega, fun k hk => Lib.bytesWorld_at_old w _ _ k hk⟩
  have hcv := Lib.run_convert_string_bytes w 9 48 5 s Tryd.underlying9 Tryd.underlying48 Tryd.underlying5
  have hcell := fun j hj => Lib.bytesWorld_cell w 5 s j hj
  have hfr := fun j hj => frozen_past w s j hj
  have hsz := Lib.bytesWorld_size w 5 s
  have hcb := grownCap_ge w s.size 0 5
  have hcm := grownCap_le_maxLen w s.size 0 5 (by unfold maxLen; omega)
  generalize Lib.bytesWorld w 5 s = w1 at hb hcv hcell hfr hsz
  generalize grownCap w s.size 0 5 = cap at hcv hcb hcm
  have HU1 := hid (Und.mk hb)
  have HC := hid hcell
  have HFR := hid hfr
  have HB := hid (show w.heap.size < w1.heap.size by omega)
  haveI : LtW w.heap.size w1 := LtW.of HB.out
  clear hb hcell hfr hsz
  have back : ∀ (W : World) (xs : List Int), xs.length = s.size → (∀ i, i < s.size → W.cell? ⟨w.heap.size, i, none⟩ = some (.int .u8 (xs.getD i 0))) → (convert 48 9 (.slice (some ⟨w.heap.size, 0, none⟩) s.size cap)).run Tryd.prog W = .ok (.string (strOfNums xs)) W := by
    intro W xs hl hc
    exact run_convert_bytes_arg W 48 5 Tryd.underlying48 Tryd.underlying5 w.heap.size 0 s.size cap xs hl (fun i hi => by rw [Nat.zero_add]; exact hc i hi) _ Tryd.underlying9
  have BACK := hid back
  clear back
  by_cases h0 : 0 < s.size
  · have z : (0 : Int) < s.size := by omega
    have hpl := hid (place_any at' s.size w1 (by omega) (by omega))
    have a1 := Int.emod_nonneg at' (show (s.size : Int) ≠ 0 by omega)
    have b1 := Int.emod_lt_of_pos at' z
    generalize at' % (s.size : Int) = p1 at hpl a1 b1
    obtain ⟨p, rfl⟩ : ∃ k : Nat, p1 = k := ⟨p1.toNat, by omega⟩
    have hp : p < s.size := by omega
    have g0 := HC.out p hp
    have f0 := HFR.out p hp
    have hbk := BACK.out (w1.setCell ⟨w.heap.size, p, none⟩ (.int .u8 by')) (((List.range s.size).map fun j => if j = p then by' else ((s.data.toList.getD j 0).toNat : Int))) (by simp) (fun i hi => by
      rw [show (((List.range s.size).map fun j => if j = p then by' else ((s.data.toList.getD j 0).toNat : Int))).getD i 0 = if i = p then by' else ((s.data.toList.getD i 0).toNat : Int) by simp [List.getD, hi]]
      by_cases hip : i = p
      · subst hip; rw [if_pos rfl]; go_simp
      · rw [if_neg hip]
        have := HC.out i hi
        rw [← this]
        exact World.cell?_setCell_other w1 ⟨w.heap.size, p, none⟩ ⟨w.heap.size, i, none⟩ _ (fun (e : (⟨w.heap.size, p, none⟩ : Addr) = ⟨w.heap.size, i, none⟩) => hip (by injection e with _ h; exact h.symm)))
    clear h0
    go_enter Tryd.func13, Tryd.ntmps13
    go_wp2_with fail
    refine hpl.out.mono ?_
    rintro e w' ⟨rfl, rfl⟩
    go_wp2
    go_ret
    refine ⟨_, rfl, ?_, HU1.out.setCell (p := ⟨w.heap.size, p, none⟩) (Nat.le_refl _) _⟩
    rw [strOfNums_size]; simp
  · have z : ¬ (0 : Int) < s.size := by omega
    have h00 : s.size = 0 := by omega
    have hbk := BACK.out w1 [] (by simp [h00]) (fun i hi => by omega)
    have HZ := hid h00
    clear h0 h00
    go_enter Tryd.func13, Tryd.ntmps13
    go_wp2
    go_ret
    exact ⟨_, rfl, by rw [HZ.out]; rfl, HU1.out⟩
end Go.Proofs.YtiifjfbfkhhpeaaDoor

namespace Go.Proofs.YtiifjfbfkhhpeaaDoor.St

/-- The positions' encodings. -/
def encT (ps : List It) : List (List UInt8 × It) := ps.map fun p => (encI 1 p, p)
theorem encT_flat (ps : List It) : flatP (encT ps) = ps.flatMap (encI 1) := by unfold flatP encT; rw [List.flatMap_map]
theorem encT_its (ps : List It) : itsP (encT ps) = ps := by
  unfold itsP encT
  rw [List.map_map]
  show ps.map (fun p => p) = ps
  simp
theorem pos_len' (f : List It) : (posI f).length = lenL f := by
  induction f with
  | nil => rfl
  | cons x f ih =>
    have e : posI (x :: f) = (if x.1 = 1 then x.2.1.map (fun c => ((1 : Int), [c], (0 : Int))) else [x]) ++ posI f := by simp [posI]
    rw [e, List.length_append, ih]
    simp only [lenL, List.map_cons, List.sum_cons]
    unfold widthI
    split <;> simp
theorem enc_pos' (fmt : Int) (f : List It) : f.flatMap (encI fmt) = (posI f).flatMap (encI fmt) := by
  induction f with
  | nil => rfl
  | cons x f ih =>
    have e : posI (x :: f) = (if x.1 = 1 then x.2.1.map (fun c => ((1 : Int), [c], (0 : Int))) else [x]) ++ posI f := by simp [posI]
    rw [e, List.flatMap_cons, List.flatMap_append, ih]
    congr 1
    split
    · rename_i h1
      have e : encI fmt x = x.2.1.flatMap (encB fmt) := by unfold encI; rw [if_pos h1]
      rw [e, List.flatMap_map]
      congr 1
      funext c
      simp [encI]
    · simp
theorem pos_join' (l f : List It) (h : ∀ x ∈ l, x.1 = 1 → x.2.2 = 0) : (posI l).foldl addI f = l.foldl addI f := by
  induction l generalizing f with
  | nil => rfl
  | cons x l ih =>
    have hx := h x (by simp)
    have hl : ∀ y ∈ l, y.1 = 1 → y.2.2 = 0 := fun y hy => h y (by simp [hy])
    have e : posI (x :: l) = (if x.1 = 1 then x.2.1.map (fun c => ((1 : Int), [c], (0 : Int))) else [x]) ++ posI l := by simp [posI]
    rw [e, List.foldl_append, List.foldl_cons, ← ih (addI f x) hl]
    congr 1
    split
    · rename_i h1
      rw [addI_text]
      obtain ⟨k, t, i⟩ := x
      simp only at h1 hx ⊢
      rw [h1, hx h1]
    · rfl
theorem good_join {f : List It} (h : GoodT f) : (posI f).foldl addI [] = f := by
  rw [pos_join' f [] (fun x hx => gitem_zero (h.items x hx))]; exact h.nm
/-- A raw content of pieces of a fragment, and what stands behind it. -/
theorem read_good {f : List It} (h : GoodT f) (hl : f.length ≤ 512) (hL : lenL f ≤ 1024) {ps : List (List UInt8 × It)} (h1 : itsP ps = posI f) (h2 : ∀ p ∈ ps, Form1 p.2 p.1) (rest : List UInt8) :
    ∃ c, decFT markL (flatP ps ++ rest) 0 0 [] [] [] 0 = decFT markL rest (flatP ps).length (flatP ps).length f (offs 0 0 ps) [] c := by
  obtain ⟨c, hc⟩ := h.ok
  have hp : ∀ p ∈ ps, PieceT markL p.1 p.2 := by
    intro p hp
    have hm : p.2 ∈ posI f := by rw [← h1]; unfold itsP; exact List.mem_map.2 ⟨p, hp, rfl⟩
    exact form1_piece (pos_posT h.items _ hm) (h2 p hp)
  have hlen : ps.length = lenL f := by rw [← pos_len', ← h1]; simp [itsP]
  have := decFT_pieces mark_elen ps rest 0 0 [] [] [] 0 hp (by rw [h1]; exact hc) (by rw [h1, good_join h]; exact hl) (by simp; omega)
  rw [h1, good_join h] at this
  refine ⟨c, this.trans ?_⟩
  have e : (if ps = [] then 0 else 0 + (flatP ps).length) = (flatP ps).length := by
    split
    · rename_i h; subst h; simp [flatP]
    · omega
  rw [e, Nat.zero_add, List.nil_append]
theorem read_enc {f : List It} (h : GoodT f) (hl : f.length ≤ 512) (hL : lenL f ≤ 1024) (rest : List UInt8) :
    ∃ c, decFT markL (f.flatMap (encI 1) ++ rest) 0 0 [] [] [] 0 = decFT markL rest (f.flatMap (encI 1)).length (f.flatMap (encI 1)).length f (offs 0 0 (encT (posI f))) [] c := by
  have := read_good h hl hL (encT_its (posI f)) (fun p hp => by unfold encT at hp; obtain ⟨q, _, rfl⟩ := List.mem_map.1 hp; exact .inl rfl) rest
  rw [encT_flat, ← enc_pos'] at this
  exact this
theorem read_whole {f : List It} (h : GoodT f) (hl : f.length ≤ 512) (hL : lenL f ≤ 1024) {ps : List (List UInt8 × It)} (h1 : itsP ps = posI f) (h2 : ∀ p ∈ ps, Form1 p.2 p.1) :
    decFT markL (flatP ps) 0 0 [] [] [] 0 = (f, offs 0 0 ps ++ [(flatP ps).length], 0, 0) := by
  obtain ⟨c, hc⟩ := read_good h hl hL h1 h2 []
  rw [List.append_nil, decFT_nil] at hc
  exact hc
/-- The tags that a law puts behind a fragment: which, where the error stands. -/
def nestL (k : Nat) : List UInt8 := if k = 0 then [60, 47, 98, 62] else if k = 1 then [60, 98, 62, 60, 47, 105, 62] else if k = 2 then [60, 98, 62] else if k = 3 then [60, 105, 62, 60, 98, 62, 60, 47, 105, 62, 60, 47, 98, 62] else [60, 98, 47, 62, 60, 47, 98, 62]
def nestW (k : Nat) : Nat := if k = 0 then 0 else if k = 1 then 3 else if k = 2 then 3 else if k = 3 then 6 else 4
theorem one_step {l rest : List UInt8} {k : Int} {t : List UInt8} (h : PieceT markL l (k, t, 0)) {op op' : List It} {c c' : Nat} {i : Int} (hs : stepT op c k t = some (i, op', c')) {a d : Nat} {f : List It} {cuts : List Nat} (hf : f.length < 512) (hc : cuts.length < 1024) :
    decFT markL (l ++ rest) a d f cuts op c = decFT markL rest (a + l.length) (a + l.length) (addI f (k, t, i)) (cuts ++ [d]) op' c' := by
  have := (addI_len f (k, t, i)).1
  rw [decFT_step mark_elen a d f cuts (by simp [h.1]) (h.2.2 rest) h.2.1 hs (by rintro (e | e); (have e' : 512 < (addI f (k, t, i)).length := e; omega); omega), List.drop_left]
theorem one_bad {l rest : List UInt8} {k : Int} {t : List UInt8} (h : PieceT markL l (k, t, 0)) {op : List It} {c : Nat} (hs : stepT op c k t = none) {a d : Nat} {f : List It} {cuts : List Nat} :
    decFT markL (l ++ rest) a d f cuts op c = ([], [], a, 7) := decFT_tag a d f cuts (by simp [h.1]) (h.2.2 rest) h.2.1 hs
theorem pc (p : It) (h : PosT (p.1, p.2.1, 0)) : PieceT markL (encI 1 (p.1, p.2.1, 0)) (p.1, p.2.1, 0) := mark_piece h
theorem p_open (t : List UInt8) (h : isContentL t = true) (hb : blockL (nameOf t) = false) : PieceT markL ([60] ++ t ++ [62]) (2, t, 0) := by
  have := mark_piece (p := (2, t, 0)) (.inr (.inr (.inl ⟨t, 0, .inl rfl, h, hb⟩)))
  simpa [encI] using this
theorem p_empty (t : List UInt8) (h : isContentL t = true) (hb : blockL (nameOf t) = false) : PieceT markL ([60] ++ t ++ [47, 62]) (4, t, 0) := by
  have := mark_piece (p := (4, t, 0)) (.inr (.inr (.inl ⟨t, 0, .inr rfl, h, hb⟩)))
  simpa [encI] using this
theorem p_close (t : List UInt8) (h : isNameL t = true) (hb : blockL t = false) : PieceT markL ([60, 47] ++ t ++ [62]) (3, t, 0) := by
  have := mark_piece (p := (3, t, 0)) (.inr (.inr (.inr ⟨t, 0, rfl, h, hb⟩)))
  simpa [encI] using this
theorem nest_read {f : List It} (h : GoodT f) (hl : f.length ≤ 500) (hL : lenL f ≤ 1000) {k : Nat} (hk : k < 5) :
    decFT markL (f.flatMap (encI 1) ++ nestL k) 0 0 [] [] [] 0 = ([], [], (f.flatMap (encI 1)).length + nestW k, 7) := by
  obtain ⟨c, hc⟩ := read_enc h (by omega) (by omega) (nestL k)
  have hcl : (offs 0 0 (encT (posI f))).length ≤ 1000 := by rw [offs_len]; unfold encT; rw [List.length_map, pos_len']; exact hL
  rw [hc]
  have ob : PieceT markL [60, 98, 62] (2, [98], 0) := p_open [98] (by decide) (by decide)
  have oi : PieceT markL [60, 105, 62] (2, [105], 0) := p_open [105] (by decide) (by decide)
  have eb : PieceT markL [60, 98, 47, 62] (4, [98], 0) := p_empty [98] (by decide) (by decide)
  have cb : PieceT markL [60, 47, 98, 62] (3, [98], 0) := p_close [98] (by decide) (by decide)
  have ci : PieceT markL [60, 47, 105, 62] (3, [105], 0) := p_close [105] (by decide) (by decide)
  have so : ∀ (op : List It) (c : Nat) (t : List UInt8), stepT op c 2 t = some ((c : Int) + 1, op ++ [(2, t, (c : Int) + 1)], c + 1) := fun _ _ _ => rfl
  have hal := fun (g : List It) x => (addI_len g x).1
  rcases (show k = 0 ∨ k = 1 ∨ k = 2 ∨ k = 3 ∨ k = 4 by omega) with rfl | rfl | rfl | rfl | rfl
  · exact one_bad (rest := []) cb rfl
  · show decFT markL ([60, 98, 62] ++ [60, 47, 105, 62]) _ _ _ _ _ _ = _
    rw [one_step ob (so _ _ _) (by omega) (by omega)]
    exact one_bad (rest := []) ci (by simp [stepT, nameOf])
  · show decFT markL ([60, 98, 62] ++ []) _ _ _ _ _ _ = _
    rw [one_step ob (so _ _ _) (by omega) (by omega), decFT_nil]
    simp [endT, nestW]
  · show decFT markL ([60, 105, 62] ++ ([60, 98, 62] ++ ([60, 47, 105, 62] ++ [60, 47, 98, 62]))) _ _ _ _ _ _ = _
    have h1 := hal f (2, [105], (c : Int) + 1)
    rw [one_step oi (so _ _ _) (by omega) (by omega), one_step ob (so _ _ _) (by omega) (by simp; omega)]
    exact one_bad ci (by simp [stepT, nameOf])
  · show decFT markL ([60, 98, 47, 62] ++ [60, 47, 98, 62]) _ _ _ _ _ _ = _
    rw [one_step (op' := []) (c' := c + 1) (i := (c : Int) + 1) eb rfl (by omega) (by omega)]
    exact one_bad (rest := []) cb rfl
/-- The names of the law's blocks. -/
def blkN5 (k : Nat) : List UInt8 := if k = 0 then [112] else if k = 1 then [104] else if k = 2 then [108, 105] else if k = 3 then [116, 100] else [116, 105, 116, 108, 101]
theorem blkN5_ok (k : Nat) : blockL (blkN5 k) = true ∧ isContentL (blkN5 k ++ []) = true ∧ nameOf (blkN5 k ++ []) = blkN5 k ∧ isNameL (blkN5 k) = true := by
  unfold blkN5
  by_cases h0 : k = 0 <;> by_cases h1 : k = 1 <;> by_cases h2 : k = 2 <;> by_cases h3 : k = 3 <;> simp only [h0, h1, h2, h3, if_true, if_false] <;> decide
theorem block_read {f : List It} (h : GoodT f) (hl : f.length ≤ 512) (hL : lenL f ≤ 1024) (k : Nat) :
    decFT markL (f.flatMap (encI 1) ++ ([60] ++ blkN5 k ++ [62])) 0 0 [] [] [] 0 = ([], [], (f.flatMap (encI 1)).length, 2) := by
  obtain ⟨c, hc⟩ := read_enc h hl hL ([60] ++ blkN5 k ++ [62])
  rw [hc]
  refine decFT_none _ _ _ _ (by simp) ?_
  obtain ⟨h1, h2, h3, h4⟩ := blkN5_ok k
  rw [List.append_nil] at h2 h3
  have ht := tag_of (rest := []) (fun c hcc => (content_gt h2 c hcc).1) (tagI_open h2)
  rw [List.append_nil] at ht
  have e : ([60] ++ blkN5 k ++ [62] : List UInt8) = 60 :: (blkN5 k ++ [62]) := by simp
  rw [e] at ht ⊢
  rw [mark_60 (by rfl), inlL, ht]
  simp only [h3, h1, if_true]
theorem enc_noC {b : List UInt8} (hb : blockL b = true) {f : List It} (h : GoodT f) : NoC b (f.flatMap (encI 1)) := by
  rw [enc_pos', ← encT_flat]
  refine flat_noC hb fun q hq => ?_
  unfold encT at hq
  obtain ⟨p, hp, rfl⟩ := List.mem_map.1 hq
  exact ⟨pos_posT h.items _ hp, .inl rfl⟩
section
variable {dE : List UInt8 → Nat × Int} {dig : Nat → List UInt8}
theorem block_split {R : List UInt8} (k : Nat) (hq : NoC (blkN5 k) R) (he : (dE R).2 = 0) (hz : R.length ≤ 60000) :
    splitM dE dig ([60] ++ blkN5 k ++ [62] ++ R ++ endM (blkN5 k)) = ([(false, [], [60] ++ blkN5 k ++ [62]), (true, dig 1, R), (false, [], endM (blkN5 k))], 0, 0) := by
  obtain ⟨h1, h2, h3, _⟩ := blkN5_ok k
  have hbl := (block_len h1).2
  obtain ⟨d, hd⟩ : ∃ d, d = [60] ++ blkN5 k ++ [62] ++ R ++ endM (blkN5 k) := ⟨_, rfl⟩
  have hdl : d.length ≤ 65536 := by rw [hd]; simp [endM]; omega
  rw [← hd, splitF_ok (by omega)]
  have hd0 : d.drop 0 = [60] ++ (blkN5 k ++ []) ++ [62] ++ (R ++ (endM (blkN5 k) ++ [])) := by rw [hd]; simp
  obtain ⟨g1, g2, g3⟩ := unit_step (dE := dE) (dig := dig) (r := 0) (s := ([], 0)) h1 h2 h3 hq he hd0
  rw [g1, mkF_end (by have := congrArg List.length g2; simp at this ⊢; omega)]
  have hd2 : d = ([60] ++ blkN5 k ++ [62]) ++ (R ++ endM (blkN5 k)) := by rw [hd]; simp
  have c0 : cutL d 0 (0 + ((blkN5 k ++ []).length + 2)) = [60] ++ blkN5 k ++ [62] := by
    unfold cutL
    rw [List.drop_zero, hd2, List.take_left' (by simp <;> omega)]
  have c2 : d.drop (0 + ((blkN5 k ++ []).length + 2) + R.length) = endM (blkN5 k) := by
    have := drop_more (a := 0 + ((blkN5 k ++ []).length + 2)) (x := R) (y := endM (blkN5 k)) (d := d) (by
      rw [hd2, List.drop_left' (by simp <;> omega)])
    exact this
  simp only [endM', unitS, endS, c0, g3, c2]
  rfl
theorem block_open {R : List UInt8} (k : Nat) (hq : NoC (blkN5 k) R) (he : (dE R).2 = 0) (hz : R.length ≤ 60000) :
    splitM dE dig ([60] ++ blkN5 k ++ [62] ++ R) = ([], R.length + (blkN5 k).length + 2, 2) := by
  obtain ⟨h1, h2, h3, _⟩ := blkN5_ok k
  have hbl := (block_len h1).2
  obtain ⟨d, hd⟩ : ∃ d, d = [60] ++ blkN5 k ++ [62] ++ R := ⟨_, rfl⟩
  have hdl : d.length = R.length + (blkN5 k).length + 2 := by rw [hd]; simp; omega
  rw [← hd, splitF_ok (by omega)]
  have ho : outsM (d.drop 0) = some ((blkN5 k ++ []).length + 2, blkN5 k) := by
    rw [List.drop_zero, hd]
    have := outs_block (rest := R) h1 h2 h3
    simpa using this
  have hd1 : d.drop (0 + ((blkN5 k ++ []).length + 2)) = R := by rw [hd, List.drop_left' (by simp <;> omega)]
  rw [mkF_open (by omega) ho (block_len h1).1 (by rw [hd1, index_no hq]; decide) (by rw [hd1]; exact he), hdl]
  rfl
theorem block_end (k : Nat) : splitM dE dig (endM (blkN5 k)) = ([], 0, 2) := by
  obtain ⟨h1, h2, h3, h4⟩ := blkN5_ok k
  have hbl := (block_len h1).2
  have hdl : (endM (blkN5 k)).length ≤ 8 := by simp [endM]; omega
  rw [splitF_ok (by omega)]
  have ht := tag_of (t := 47 :: blkN5 k) (rest := []) (fun c hc => by rcases List.mem_cons.1 hc with rfl | hc; decide; exact (name_gt h4 c hc).1) (tagI_close h4)
  have e : ([60] ++ (47 :: blkN5 k) ++ [62] ++ [] : List UInt8) = endM (blkN5 k) := by simp [endM]
  rw [e] at ht
  have hp : ([60, 33, 45, 45] : List UInt8).isPrefixOf (endM (blkN5 k)) = false := by
    rw [Bool.eq_false_iff]
    intro e
    rw [comment_no e] at ht; cases ht
  have ho : outsM ((endM (blkN5 k)).drop 0) = none := by
    rw [List.drop_zero, outs_tag (by simp [endM]) hp, ht]
    simp only
    rw [nameOf_name h4, if_pos h1]; rfl
  rw [mkF_bad (by simp [endM]) ho]
  rfl
end
end Go.Proofs.YtiifjfbfkhhpeaaDoor.St

namespace Go.Proofs.YtiifjfbfkhhpeaaDoor
open Go.RowKit

/-- The place of a text in another, from an offset on. -/
def findI (s t : List UInt8) (a : Nat) : Int := if Lib.index (s.drop a) t < 0 then -1 else a + Lib.index (s.drop a) t
def FdRel (s t : ByteArray) (a : Nat) (w : World) (s7 : Value) (wr : World) : Prop := ∃ k : Nat, s7 = .int .i64 (a + k : Nat) ∧ a + k ≤ s.size + 1 ∧ Lib.NoOcc (s.data.toList.drop a) t.data.toList k ∧ w = wr
set_option maxHeartbeats 3200000 in
theorem rfind_any (s t : ByteArray) (a : Nat) (w : World) (ht : 1 ≤ t.size) (hts : t.size ≤ 1000000) (ha : a ≤ s.size) (hs : s.size ≤ 4611686018427387904) :
    Calls Tryd.prog 56 #[.string s, .string t, .int .i64 a] w fun e w' => e = .returned (.int .i64 (findI s.data.toList t.data.toList a)) ∧ w = w' := by
  have hte : t.data.toList ≠ [] := by intro e; have := St.len_list t; rw [e] at this; simp at this; omega
  go_enter Tryd.func56, Tryd.ntmps56
  go_wp2
  go_loopw [7] (fun s7 wr => FdRel s t a w s7 wr) (fun s7 _ => s.size + 2 - (intOf s7).toNat)
  case atStart => exact ⟨0, rfl, by omega, Lib.NoOcc.zero _ _, rfl⟩
  case round =>
    obtain ⟨k, rfl, hk, hno, rfl⟩ := hrel
    by_cases hlt : a + k + t.size ≤ s.size
    · have z1 : (((a + k : Nat) : Int) + (t.size : Int)) ≤ (s.size : Int) := by omega
      have hdd : (s.data.toList.drop a).drop k = s.data.toList.drop (a + k) := by rw [List.drop_drop]
      obtain ⟨x, hx⟩ : ∃ x, s.extract (a + k) (a + k + t.size) = x := ⟨_, rfl⟩
      have hxl : x.data.toList = (s.data.toList.drop (a + k)).take t.data.toList.length := by
        rw [← hx, Lib.extract_data, St.len_list]; congr 1; omega
      have hocc : (x.toList == t.toList) = Lib.occAt (s.data.toList.drop a) t.data.toList k := by
        unfold Lib.occAt
        rw [hdd, ← St.pre_take, Lib.toList_data, Lib.toList_data, hxl]
      have y1 : ((a + k : Nat) : Int) ≤ ((a + k : Nat) : Int) + (t.size : Int) := by omega
      have hlen : (s.data.toList.drop a).length = s.size - a := by simp
      generalize hn : a + k = n at *
      have hcast : (n : Int) + (t.size : Int) = ((n + t.size : Nat) : Int) := by omega
      cases ho : Lib.occAt (s.data.toList.drop a) t.data.toList k
      · rw [ho] at hocc
        have HNO := hid (hno.succ ho)
        clear hno ho hxl hdd hlen hte hcast
        go_wp2
        exact ⟨⟨k + 1, congrArg (Value.int .i64) (by omega), by omega, HNO.out, by trivial⟩, by simp [intOf]; omega⟩
      · rw [ho] at hocc
        have hfi : findI s.data.toList t.data.toList a = (n : Int) := by
          unfold findI
          rw [Lib.index_hit hno (by omega) ho, if_neg (by omega)]; omega
        have HF := hid hfi
        clear hno ho hxl hdd hlen hte hcast hfi
        go_wp2
        go_ret
        exact ⟨ret_int HF.out.symm, rfl⟩
    · have z1 : ¬ (((a + k : Nat) : Int) + (t.size : Int)) ≤ (s.size : Int) := by omega
      have hfi : findI s.data.toList t.data.toList a = -1 := by
        unfold findI
        rw [Lib.index_past hte hno (by simp; omega), if_pos (by omega)]
      have HF := hid hfi
      have z2 : (s.size : Int) < ((a + k : Nat) : Int) + (t.size : Int) := by omega
      clear hno hfi hte hlt
      generalize a + k = n at *
      go_wp2
      go_ret
      exact ⟨ret_int HF.out.symm, rfl⟩
theorem find_gt (s : ByteArray) (h : 1 ≤ s.size) : findI s.data.toList [62] 1 = if (St.innerL s.data.toList).length + 1 < s.data.toList.length then (((St.innerL s.data.toList).length + 1 : Nat) : Int) else -1 := by
  have hix := St.index_gt (s.data.toList.drop 1)
  rw [← Lib.index_one, show (s.data.toList.drop 1).takeWhile (fun c => decide (c.toNat ≠ 62)) = St.innerL s.data.toList from rfl, List.length_drop] at hix
  unfold findI
  rw [hix]
  have hl := St.len_list s
  generalize (St.innerL s.data.toList).length = n
  generalize s.data.toList.length = m at *
  by_cases h2 : n + 1 < m
  · rw [if_pos h2, if_pos (show n < m - 1 by omega), if_neg (by omega)]; omega
  · rw [if_neg h2, if_neg (show ¬ n < m - 1 by omega), if_pos (by omega)]
set_option maxRecDepth 20000 in
set_option maxHeartbeats 6400000 in
theorem rtag_any (s : ByteArray) (w : World) (hs : s.size ≤ 4611686018427387904) (h0 : 1 ≤ s.size) :
    Calls Tryd.prog 57 #[.string s] w fun e w' => e = .returned (elV (St.tagL s.data.toList)) ∧ Und w w' := by
  have hlen := St.len_list s
  have hfd := fun W => rfind_any s ⟨#[62]⟩ 1 W (by decide) (by decide) h0 hs
  rw [show (⟨#[62]⟩ : ByteArray).data.toList = [62] from rfl, find_gt s h0] at hfd
  have hpre : St.innerL s.data.toList = (s.data.toList.drop 1).take (St.innerL s.data.toList).length := List.prefix_iff_eq_take.1 (List.takeWhile_prefix _)
  by_cases hlt : (St.innerL s.data.toList).length + 1 < s.data.toList.length
  rotate_left 1
  · have hR := hid (St.tag_none1 hlt)
    rw [if_neg hlt] at hfd
    have HFD := hid hfd
    clear hfd hlt hpre hlen
    go_enter Tryd.func57, Tryd.ntmps57
    go_wp2_with fail
    refine (HFD.out _).mono ?_
    rintro e w' ⟨rfl, rfl⟩
    go_wp2
    refine bodyPost_ret (v := elV none) (by simp [results, Tryd.results57, go_sem, elV]) rfl ⟨?_, (by repeat (first | exact Und.refl _ | assumption | refine Und.under ?_ _ | refine Und.alloc ?_ _ | refine Und.drew ?_ | refine Und.drewN ?_ _))⟩
    rw [hR.out]
  · have hT := St.tag_some1 hlt
    rw [if_pos hlt] at hfd
    rw [hlen] at hlt
    obtain ⟨m, hm⟩ : ∃ m, (St.innerL s.data.toList).length = m := ⟨_, rfl⟩
    obtain ⟨x, hX⟩ : ∃ x, s.extract 1 (m + 1) = x := ⟨_, rfl⟩
    have hxl : x.data.toList = St.innerL s.data.toList := by rw [hpre, hm, ← hX, Lib.extract_data]; simp
    rw [hm] at hT hfd hlt
    rw [← hxl] at hT
    have hxs : x.size = m := by rw [← St.len_list, hxl, hm]
    have hxa : x.size ≤ m := by omega
    have hxb : m ≤ x.size := by omega
    clear hpre hlen hxl hm hxs
    have z1 : (1 : Int) ≤ (m : Int) + 1 := by omega
    have z2 : (m : Int) + 1 ≤ (s.size : Int) := by omega
    have z3 : ¬ (m : Int) + 1 < 0 := by omega
    have hcast : (((m + 1 : Nat) : Int)) = (m : Int) + 1 := by omega
    rw [hcast] at hfd
    have HFD := hid hfd
    have hp := fun W => begins_any x ⟨#[47]⟩ W (by omega) (by show 1 ≤ _; omega)
    have hpe : preB ⟨#[47]⟩ x = decide (x.data.toList.head? = some 47) := St.pre47 _
    rw [hpe] at hp
    clear hfd hpe hcast
    by_cases b1 : x.data.toList.head? = some 47
    · have hx1 : 1 ≤ x.size := by
        rw [← St.len_list]
        cases hq : x.data.toList with
        | nil => rw [hq] at b1; cases b1
        | cons c r => simp
      obtain ⟨y, hY⟩ : ∃ y, x.extract 1 x.size = y := ⟨_, rfl⟩
      have hyl : y.data.toList = x.data.toList.drop 1 := by rw [← hY, Lib.extract_data, List.take_of_length_le (by simp)]
      have hys : y.size ≤ x.size := by rw [← hY]; simp
      have hI : St.tagI x.data.toList = if St.isNameL y.data.toList then some (3, y.data.toList) else none := by
        unfold St.tagI; rw [if_pos b1, hyl]
      rw [hI] at hT
      have hnm := fun W => risname_any y W (by omega)
      rw [decide_eq_true b1] at hp
      have HP := hid hp
      have y1 : (1 : Int) ≤ (x.size : Int) := by omega
      clear hp hI b1 hyl
      cases hb : St.isNameL y.data.toList
      all_goals
        rw [hb] at hT hnm
        have HT := hid hT
        have HNM := hid hnm
        clear hT hnm hb
        go_enter Tryd.func57, Tryd.ntmps57
        go_wp2_with fail
        refine (HFD.out _).mono ?_
        rintro e w' ⟨rfl, rfl⟩
        go_wp2_with fail
        refine (HP.out _).mono ?_
        rintro e w' ⟨rfl, rfl⟩
        go_wp2_with fail
        refine (HNM.out _).mono ?_
        rintro e w' ⟨rfl, rfl⟩
        go_wp2
      · refine bodyPost_ret (v := elV none) (by simp [results, Tryd.results57, go_sem, elV]) rfl ⟨?_, (by repeat (first | exact Und.refl _ | assumption | refine Und.under ?_ _ | refine Und.alloc ?_ _ | refine Und.drew ?_ | refine Und.drewN ?_ _))⟩
        rw [HT.out]; rfl
      · refine bodyPost_ret (v := .tuple #[.agg #[.int .i64 3, .string y, .int .i64 0], .int .i64 ((m : Int) + 1 + 1)]) (by simp [results, Tryd.results57, go_sem]) rfl ⟨?_, (by repeat (first | exact Und.refl _ | assumption | refine Und.under ?_ _ | refine Und.alloc ?_ _ | refine Und.drew ?_ | refine Und.drewN ?_ _))⟩
        rw [HT.out]
        simp only [if_true, Option.map_some, elV, itv, ba_eta]
        rw [show (((m + 2 : Nat) : Int)) = (m : Int) + 1 + 1 by omega]
    · rw [decide_eq_false b1] at hp
      have HP := hid hp
      by_cases h1 : 1 ≤ x.size
      rotate_left 1
      · have hx0 : x.data.toList = [] := List.eq_nil_of_length_eq_zero (by rw [St.len_list]; omega)
        have hI : St.tagI x.data.toList = none := by rw [hx0]; decide
        rw [hI] at hT
        have HT := hid hT
        have hnm := fun W => rcontent_any x W (by omega)
        rw [show St.isContentL x.data.toList = false by rw [hx0]; decide] at hnm
        have HNM := hid hnm
        have y1 : ¬ (0 : Int) < (x.size : Int) := by omega
        have y2 : ¬ (0 : Int) < (m : Int) := by omega
        clear hp hT hI b1 hx0 hnm
        go_enter Tryd.func57, Tryd.ntmps57
        go_wp2_with fail
        refine (HFD.out _).mono ?_
        rintro e w' ⟨rfl, rfl⟩
        go_wp2_with fail
        refine (HP.out _).mono ?_
        rintro e w' ⟨rfl, rfl⟩
        go_wp2_with fail
        refine (HNM.out _).mono ?_
        rintro e w' ⟨rfl, rfl⟩
        go_wp2
        refine bodyPost_ret (v := elV none) (by simp [results, Tryd.results57, go_sem, elV]) rfl ⟨?_, (by repeat (first | exact Und.refl _ | assumption | refine Und.under ?_ _ | refine Und.alloc ?_ _ | refine Und.drew ?_ | refine Und.drewN ?_ _))⟩
        rw [HT.out]; rfl
      obtain ⟨j, hj⟩ : ∃ j, x.size = j + 1 := ⟨x.size - 1, by omega⟩
      have hjl : j < x.size := by omega
      have hlast : x.data.toList.getLast? = some x[j] := by
        rw [List.getLast?_eq_getElem?, St.len_list, show x.size - 1 = j by omega]
        exact List.getElem?_eq_getElem (by rw [St.len_list]; exact hjl)
      have y1 : (0 : Int) < (x.size : Int) := by omega
      have y3 : (x.size : Int) - 1 = (j : Int) := by omega
      have y4 : (j : Int) < (x.size : Int) := by omega
      have y5 : (0 : Int) ≤ (j : Int) := by omega
      have y6 : (j : Int) ≤ (x.size : Int) := by omega
      have hja : j ≤ x.size - 1 := by omega
      have hjb : x.size - 1 ≤ j := by omega
      clear hj
      by_cases b2 : x[j].toNat = 47
      · have e2 : ((x[j].toNat : Int) == 47) = true := by simp; omega
        obtain ⟨y, hY⟩ : ∃ y, x.extract 0 j = y := ⟨_, rfl⟩
        have hyl : y.data.toList = x.data.toList.dropLast := by rw [← hY, Lib.extract_data, List.dropLast_eq_take, St.len_list, show x.size - 1 = j by omega]; simp
        have hys : y.size ≤ x.size := by rw [← hY]; simp; omega
        have hb47 : x.data.toList.getLast? = some 47 := by rw [hlast, show x[j] = 47 from UInt8.toNat_inj.1 b2]
        have hI : St.tagI x.data.toList = if St.isContentL y.data.toList then some (4, y.data.toList) else none := by
          unfold St.tagI; rw [if_neg b1, if_pos hb47, hyl]
        rw [hI] at hT
        have hnm := fun W => rcontent_any y W (by omega)
        clear hp hI b1 b2 hyl hlast hb47
        cases hb : St.isContentL y.data.toList
        all_goals
          rw [hb] at hT hnm
          have HT := hid hT
          have HNM := hid hnm
          clear hT hnm hb
          go_enter Tryd.func57, Tryd.ntmps57
          go_wp2_with fail
          refine (HFD.out _).mono ?_
          rintro e w' ⟨rfl, rfl⟩
          go_wp2_with fail
          refine (HP.out _).mono ?_
          rintro e w' ⟨rfl, rfl⟩
          go_wp2_with fail
          refine (HNM.out _).mono ?_
          rintro e w' ⟨rfl, rfl⟩
          go_wp2
        · refine bodyPost_ret (v := elV none) (by simp [results, Tryd.results57, go_sem, elV]) rfl ⟨?_, (by repeat (first | exact Und.refl _ | assumption | refine Und.under ?_ _ | refine Und.alloc ?_ _ | refine Und.drew ?_ | refine Und.drewN ?_ _))⟩
          rw [HT.out]; rfl
        · refine bodyPost_ret (v := .tuple #[.agg #[.int .i64 4, .string y, .int .i64 0], .int .i64 ((m : Int) + 1 + 1)]) (by simp [results, Tryd.results57, go_sem]) rfl ⟨?_, (by repeat (first | exact Und.refl _ | assumption | refine Und.under ?_ _ | refine Und.alloc ?_ _ | refine Und.drew ?_ | refine Und.drewN ?_ _))⟩
          rw [HT.out]
          simp only [if_true, Option.map_some, elV, itv, ba_eta]
          rw [show (((m + 2 : Nat) : Int)) = (m : Int) + 1 + 1 by omega]
      · have e2 : ((x[j].toNat : Int) == 47) = false := by simp; omega
        have hb47 : x.data.toList.getLast? ≠ some 47 := by rw [hlast]; intro e; apply b2; rw [Option.some.inj e]; rfl
        have hI : St.tagI x.data.toList = if St.isContentL x.data.toList then some (2, x.data.toList) else none := by
          unfold St.tagI; rw [if_neg b1, if_neg hb47]
        rw [hI] at hT
        have hnm := fun W => rcontent_any x W (by omega)
        clear hp hI b1 b2 hlast hb47
        cases hb : St.isContentL x.data.toList
        all_goals
          rw [hb] at hT hnm
          have HT := hid hT
          have HNM := hid hnm
          clear hT hnm hb
          go_enter Tryd.func57, Tryd.ntmps57
          go_wp2_with fail
          refine (HFD.out _).mono ?_
          rintro e w' ⟨rfl, rfl⟩
          go_wp2_with fail
          refine (HP.out _).mono ?_
          rintro e w' ⟨rfl, rfl⟩
          go_wp2_with fail
          refine (HNM.out _).mono ?_
          rintro e w' ⟨rfl, rfl⟩
          go_wp2
        · refine bodyPost_ret (v := elV none) (by simp [results, Tryd.results57, go_sem, elV]) rfl ⟨?_, (by repeat (first | exact Und.refl _ | assumption | refine Und.under ?_ _ | refine Und.alloc ?_ _ | refine Und.drew ?_ | refine Und.drewN ?_ _))⟩
          rw [HT.out]; rfl
        · refine bodyPost_ret (v := .tuple #[.agg #[.int .i64 2, .string x, .int .i64 0], .int .i64 ((m : Int) + 1 + 1)]) (by simp [results, Tryd.results57, go_sem]) rfl ⟨?_, (by repeat (first | exact Und.refl _ | assumption | refine Und.under ?_ _ | refine Und.alloc ?_ _ | refine Und.drew ?_ | refine Und.drewN ?_ _))⟩
          rw [HT.out]
          simp only [if_true, Option.map_some, elV, itv, ba_eta]
          rw [show (((m + 2 : Nat) : Int)) = (m : Int) + 1 + 1 by omega]
end Go.Proofs.YtiifjfbfkhhpeaaDoor

namespace Go.Proofs.YtiifjfbfkhhpeaaDoor
open Go.RowKit

/-- What an element function gives: a kind, at least one byte, no more text than bytes. -/
def ElOkT (E : List UInt8 → St.El) : Prop := ∀ l k t n, E l = some (k, t, n) → (k = 0 ∨ k = 1 ∨ k = 2 ∨ k = 3 ∨ k = 4 ∨ k = 5) ∧ 1 ≤ n ∧ n ≤ l.length ∧ t.length ≤ n
def SmallOp (op : List St.It) (n : Nat) : Prop := ∀ o ∈ op, o.2.1.length ≤ n
def DtRel (w : World) (E : List UInt8 → St.El) (raw : ByteArray) (s8 s9 s10 s11 s12 s13 : Value) (wr : World) : Prop :=
  ∃ (a d c : Nat) (f op : List St.It) (cuts : List Nat) (fuel : Nat), s11 = .int .i64 a ∧ s12 = .int .i64 d ∧ s13 = .int .i64 c ∧ a ≤ raw.size ∧ raw.size - a ≤ fuel ∧
    wr.ownsRow w.heap.size 57 3 s8 f.length (cellsIt f) ∧ wr.ownsRow w.heap.size 57 3 s9 op.length (cellsIt op) ∧ wr.ownsRow w.heap.size 3 1 s10 cuts.length (cellsN cuts) ∧ St.Nm f ∧ tot f ≤ a ∧ f.length ≤ 512 ∧ cuts.length ≤ 1024 ∧
    op.length ≤ cuts.length ∧ c ≤ cuts.length ∧ SmallOp op raw.size ∧
    St.decT E raw.size raw.data.toList 0 0 [] [] [] 0 = St.decT E fuel (raw.data.toList.drop a) a d f cuts op c ∧ Und w wr

set_option maxRecDepth 20000 in
set_option maxHeartbeats 25600000 in
theorem rdecT_any (fmt : Int) (E : List UInt8 → St.El) (hE : ElAt fmt E) (hok : ElOkT E) (raw : ByteArray) (w : World) (hr : raw.size ≤ 4611686018427387904) :
    Calls Tryd.prog 19 #[.int .i64 fmt, .string raw] w (RDecEnd (St.decT E raw.size raw.data.toList 0 0 [] [] [] 0) w) := by
  obtain ⟨i0, hi, hz0, hz1, hz2⟩ := info_parts info_int
  obtain ⟨j0, ji, jz0, jz1, jz2⟩ := info_parts info_item
  go_enter Tryd.func19, Tryd.ntmps19
  go_wp2
  go_loopw [8, 9, 10, 11, 12, 13] (fun s8 s9 s10 s11 s12 s13 wr => DtRel w E raw s8 s9 s10 s11 s12 s13 wr) (fun _ _ _ s11 _ _ _ => raw.size + 1 - (intOf s11).toNat)
  case atStart => exact ⟨0, 0, 0, [], [], [], raw.size, rfl, rfl, rfl, by omega, by omega, World.ownsRow_nil _ _ _ _, World.ownsRow_nil _ _ _ _, World.ownsRow_nil _ _ _ _, St.nm_nil, by simp [tot], by simp, by simp, by simp, by simp, (fun o ho => by cases ho), by simp, Und.refl _⟩
  case round =>
    obtain ⟨a, d, c, f, op, cuts, fuel, rfl, rfl, rfl, ha, hfu, hO8, hO9, hO10, hN, ht, h1, h2, h3, h4, hS, hD, hu⟩ := hrel
    have HD := hid hD
    have HU := hid hu
    have HO8 := hid hO8
    have HO9 := hid hO9
    have HO10 := hid hO10
    have HS := hid hS
    have hsz := hu.size
    have HN := hid hN
    clear hN hS
    by_cases hlt : a < raw.size
    · have h0 := drop_ne hlt
      obtain ⟨fuel, rfl⟩ : ∃ m, fuel = m + 1 := ⟨fuel - 1, by omega⟩
      obtain ⟨x, hx⟩ : ∃ x, raw.extract a raw.size = x := ⟨_, rfl⟩
      have hxl : x.data.toList = raw.data.toList.drop a := by rw [← hx, Lib.extract_data, List.take_of_length_le (by simp)]
      have hxs : x.size = raw.size - a := by rw [← hx]; simp
      have hel := fun W => hE x W (by omega) (by omega)
      rw [hxl] at hel
      have HEL := hid hel
      have y1 : (a : Int) ≤ (raw.size : Int) := by omega
      have y2 : (a : Int) < (raw.size : Int) := by omega
      clear hel hD hu hE
      cases hs : E (raw.data.toList.drop a) with
      | none =>
        have hd2 := hid (HD.out.trans (St.decT_none fuel a d _ cuts h0 hs))
        have HEL2 : Hid (∀ W, Calls Tryd.prog 38 #[.int .i64 fmt, .string x] W fun e w' => e = .returned (.tuple #[.agg #[.int .i64 0, .string ⟨#[]⟩, .int .i64 0], .int .i64 0]) ∧ Und W w') := hid (by have := HEL.out; rw [hs] at this; exact this)
        clear hs h0 HD HEL hxl hO8 hO9 hO10
        go_wp2_with (go_at_call 38; refine (HEL2.out _).mono ?_; rintro e w2 ⟨rfl, hu2⟩)
        have hu3 := HU.out.trans hu2
        refine bodyPost_ret (v := .tuple #[.slice none 0 0, .slice none 0 0, .int .i64 a, .int .i64 2]) (by simp [results, Tryd.results19, go_sem]) rfl ?_
        unfold RDecEnd
        rw [hd2.out]
        exact ⟨_, _, rfl, World.ownsRow_nil _ _ _ _, World.ownsRow_nil _ _ _ _, (by repeat (first | exact Und.refl _ | assumption | refine Und.under ?_ _ | refine Und.alloc ?_ _ | refine Und.drew ?_ | refine Und.drewN ?_ _))⟩
      | some q =>
        obtain ⟨k, t, n⟩ := q
        obtain ⟨hk, hn1, hn2, htn⟩ := hok _ _ _ _ hs
        have hn3 : a + n ≤ raw.size := by simp at hn2; omega
        have d0 : ((n : Int) == 0) = false := by simp; omega
        have hdl : (raw.data.toList.drop a).drop n = raw.data.toList.drop (a + n) := by rw [List.drop_drop]
        have HEL2 : Hid (∀ W, Calls Tryd.prog 38 #[.int .i64 fmt, .string x] W fun e w' => e = .returned (.tuple #[.agg #[.int .i64 k, .string ⟨t.toArray⟩, .int .i64 0], .int .i64 n]) ∧ Und W w') := hid (by have := HEL.out; rw [hs] at this; exact this)
        obtain ⟨A8, c8, rfl, _, _, hA8⟩ := own_slice' hO8
        obtain ⟨A9, c9, rfl, _, _, hA9⟩ := own_slice' hO9
        obtain ⟨A10, c10, rfl, _, _, hA10⟩ := own_slice' hO10
        obtain ⟨tb, htb⟩ : ∃ tb : ByteArray, (⟨t.toArray⟩ : ByteArray) = tb := ⟨_, rfl⟩
        have htbl : tb.data.toList = t := by rw [← htb]
        rw [htb] at HEL2
        have hcat : ∀ (i : Int) (W : World) (b : Nat), ItemsAt W A8 f → ItemsAt W (some ⟨b, 0, none⟩) [(k, t, i)] → Calls Tryd.prog 40 #[.slice A8 f.length c8, .slice (some ⟨b, 0, none⟩) 1 1] W fun e w' => ∃ v, e = .returned v ∧ w'.ownsRow W.heap.size 57 3 v (St.addI f (k, t, i)).length (cellsIt (St.addI f (k, t, i))) ∧ Und W w' := by
          intro i W b h h'
          have htx : tot (f ++ [(k, t, i)]) ≤ a + n := by rw [tot_snoc]; simp only; omega
          have := concat_any A8 f.length c8 f (some ⟨b, 0, none⟩) 1 1 [(k, t, i)] W rfl rfl (fun e => by have := hA8 e; omega) (fun e => by cases e) h h' (by omega) (by omega)
          rw [show St.normL (f ++ [(k, t, i)]) = St.addI f (k, t, i) by rw [St.normL_snoc, HN.out]] at this
          exact this
        have hadd : ∀ i : Int, St.Nm (St.addI f (k, t, i)) ∧ tot (St.addI f (k, t, i)) ≤ a + n ∧ (St.addI f (k, t, i)).length ≤ f.length + 1 := fun i => ⟨St.nm_add HN.out _, by have := tot_add f (k, t, i); simp only at this; omega, (St.addI_len f (k, t, i)).1⟩
        have HCT := hid hcat
        have HAD := hid hadd
        clear hcat hadd hA8 hA9 hA10
        by_cases hk0 : k = 0
        · subst hk0
          have hd2 := HD.out.trans (St.decT_skip fuel a d _ cuts h0 hs)
          rw [hdl] at hd2
          have HD2 := hid hd2
          clear hs h0 HD HEL hxl hO8 hO9 hO10 hd2 hdl hn2 htb htbl HCT HAD
          go_wp2_with (go_at_call 38; refine (HEL2.out _).mono ?_; rintro e w2 ⟨rfl, hu2⟩)
          have hu3 := HU.out.trans hu2
          exact ⟨⟨a + n, d, c, f, op, cuts, fuel, congrArg (Value.int .i64) (by omega), rfl, rfl, hn3, by omega, own_und ((by repeat (first | exact Und.refl _ | assumption | refine Und.under ?_ _ | refine Und.alloc ?_ _ | refine Und.drew ?_ | refine Und.drewN ?_ _))) HO8.out, own_und ((by repeat (first | exact Und.refl _ | assumption | refine Und.under ?_ _ | refine Und.alloc ?_ _ | refine Und.drew ?_ | refine Und.drewN ?_ _))) HO9.out, own_und ((by repeat (first | exact Und.refl _ | assumption | refine Und.under ?_ _ | refine Und.alloc ?_ _ | refine Und.drew ?_ | refine Und.drewN ?_ _))) HO10.out, HN.out, by omega, h1, h2, h3, h4, HS.out, HD2.out, (by repeat (first | exact Und.refl _ | assumption | refine Und.under ?_ _ | refine Und.alloc ?_ _ | refine Und.drew ?_ | refine Und.drewN ?_ _))⟩, by simp [intOf]; omega⟩
        have HTG := hid (fun (h : St.stepT op c k t = none) => HD.out.trans (St.decT_tag fuel a d f cuts h0 hs hk0 h))
        have HFU := hid (fun (i : Int) (op' : List St.It) (c' : Nat) (h : St.stepT op c k t = some (i, op', c')) hf => HD.out.trans (St.decT_full fuel a d f cuts h0 hs hk0 h hf))
        have HST : Hid (∀ (i : Int) (op' : List St.It) (c' : Nat), St.stepT op c k t = some (i, op', c') → ¬ (512 < (St.addI f (k, t, i)).length ∨ 1024 ≤ cuts.length) → St.decT E raw.size raw.data.toList 0 0 [] [] [] 0 = St.decT E fuel (raw.data.toList.drop (a + n)) (a + n) (a + n) (St.addI f (k, t, i)) (cuts ++ [d]) op' c') := hid (fun i op' c' h hf => by
          have := HD.out.trans (St.decT_step fuel a d f cuts h0 hs hk0 h hf)
          rwa [hdl] at this)
        clear hs h0 HD HEL hxl hO8 hO9 hO10 hdl hn2
        have hk' : k = 1 ∨ k = 5 ∨ k = 2 ∨ k = 4 ∨ k = 3 := by omega
        clear hk
        rcases hk' with rfl | rfl | rfl | rfl | rfl
        · have hst : St.stepT op c 1 t = some (0, op, c) := rfl
          have HCAT := hid (HCT.out 0)
          have hadd := HAD.out 0
          have HF2 := hid (HFU.out _ _ _ hst)
          have HS2 := hid (HST.out _ _ _ hst)
          generalize hg : St.addI f (1, t, 0) = g at *
          obtain ⟨hgn, hgt, hgl⟩ := hadd
          have HGN := hid hgn
          clear hg hgn hst HAD HCT HFU HST HTG
          by_cases hb5 : 512 < g.length
          · have HD2 := hid (HF2.out (.inl hb5))
            have z5 : ((512 : Int) < (g.length : Int)) := by omega
            clear HF2 HS2
            go_wp2_with fail
            refine (HEL2.out _).mono ?_
            rintro e w2 ⟨rfl, hu2⟩
            have HU9 := hid (show Und wr (w2.alloc (.cells #[.int .i64 1, .string tb, .int .i64 0] 57)) from hu2.alloc _)
            have HBX9 := hid (heap_alloc_at w2 (.cells #[.int .i64 1, .string tb, .int .i64 0] 57) w2.heap.size rfl)
            clear hu2
            go_wp2_with fail
            have hs9 : (w2.alloc (.cells #[.int .i64 1, .string tb, .int .i64 0] 57)).heap.size = w2.heap.size + 1 := by simp
            generalize w2.alloc (.cells #[.int .i64 1, .string tb, .int .i64 0] 57) = W9 at *
            have c0 : W9.cell? ⟨w2.heap.size, 0, none⟩ = some (.int .i64 1) := Lib.cell_of_heap HBX9.out 0
            have hlt9 := lt_of_heap HBX9.out
            refine (HCAT.out _ _ ?_ ?_).mono ?_
            · exact ((items_own HO8.out rfl).und HU9.out).und ((Und.refl _).alloc _)
            · rw [← htbl]; exact items_boxi _ _ _ _ _ (by rw [← hs9]; simp) (by rw [← hs9]; simp) (by rw [← hs9, ba_eta]; simp) (by rw [← hs9]; simp)
            clear hs9
            rintro e w3 ⟨v3, rfl, ho3, hu3⟩
            obtain ⟨A3, c3, rfl, _, _, _⟩ := own_slice' ho3
            have hu4 : Und wr w3 := HU9.out.trans (Und.trans ((by repeat (first | exact Und.refl _ | assumption | refine Und.under ?_ _ | refine Und.alloc ?_ _ | refine Und.drew ?_ | refine Und.drewN ?_ _))) hu3)
            have hu5 := HU.out.trans hu4
            clear ho3 hu3 hu4 c0
            go_wp2
            refine bodyPost_ret (v := .tuple #[.slice none 0 0, .slice none 0 0, .int .i64 a, .int .i64 3]) (by simp [results, Tryd.results19, go_sem]) rfl ?_
            unfold RDecEnd
            rw [HD2.out]
            exact ⟨_, _, rfl, World.ownsRow_nil _ _ _ _, World.ownsRow_nil _ _ _ _, hu5⟩
          have z5 : ¬ ((512 : Int) < (g.length : Int)) := by omega
          by_cases hb6 : 1024 ≤ cuts.length
          · have HD2 := hid (HF2.out (.inr hb6))
            have z6 : ((1024 : Int) ≤ (cuts.length : Int)) := by omega
            clear HF2 HS2
            go_wp2_with fail
            refine (HEL2.out _).mono ?_
            rintro e w2 ⟨rfl, hu2⟩
            have HU9 := hid (show Und wr (w2.alloc (.cells #[.int .i64 1, .string tb, .int .i64 0] 57)) from hu2.alloc _)
            have HBX9 := hid (heap_alloc_at w2 (.cells #[.int .i64 1, .string tb, .int .i64 0] 57) w2.heap.size rfl)
            clear hu2
            go_wp2_with fail
            have hs9 : (w2.alloc (.cells #[.int .i64 1, .string tb, .int .i64 0] 57)).heap.size = w2.heap.size + 1 := by simp
            generalize w2.alloc (.cells #[.int .i64 1, .string tb, .int .i64 0] 57) = W9 at *
            have c0 : W9.cell? ⟨w2.heap.size, 0, none⟩ = some (.int .i64 1) := Lib.cell_of_heap HBX9.out 0
            have hlt9 := lt_of_heap HBX9.out
            refine (HCAT.out _ _ ?_ ?_).mono ?_
            · exact ((items_own HO8.out rfl).und HU9.out).und ((Und.refl _).alloc _)
            · rw [← htbl]; exact items_boxi _ _ _ _ _ (by rw [← hs9]; simp) (by rw [← hs9]; simp) (by rw [← hs9, ba_eta]; simp) (by rw [← hs9]; simp)
            clear hs9
            rintro e w3 ⟨v3, rfl, ho3, hu3⟩
            obtain ⟨A3, c3, rfl, _, _, _⟩ := own_slice' ho3
            have hu4 : Und wr w3 := HU9.out.trans (Und.trans ((by repeat (first | exact Und.refl _ | assumption | refine Und.under ?_ _ | refine Und.alloc ?_ _ | refine Und.drew ?_ | refine Und.drewN ?_ _))) hu3)
            have hu5 := HU.out.trans hu4
            clear ho3 hu3 hu4 c0
            go_wp2
            refine bodyPost_ret (v := .tuple #[.slice none 0 0, .slice none 0 0, .int .i64 a, .int .i64 3]) (by simp [results, Tryd.results19, go_sem]) rfl ?_
            unfold RDecEnd
            rw [HD2.out]
            exact ⟨_, _, rfl, World.ownsRow_nil _ _ _ _, World.ownsRow_nil _ _ _ _, hu5⟩
          have z6 : ¬ ((1024 : Int) ≤ (cuts.length : Int)) := by omega
          have HD2 := hid (HS2.out (by omega))
          clear HF2 HS2
          go_wp2_with fail
          refine (HEL2.out _).mono ?_
          rintro e w2 ⟨rfl, hu2⟩
          have HU9 := hid (show Und wr (w2.alloc (.cells #[.int .i64 1, .string tb, .int .i64 0] 57)) from hu2.alloc _)
          have HBX9 := hid (heap_alloc_at w2 (.cells #[.int .i64 1, .string tb, .int .i64 0] 57) w2.heap.size rfl)
          clear hu2
          go_wp2_with fail
          have hs9 : (w2.alloc (.cells #[.int .i64 1, .string tb, .int .i64 0] 57)).heap.size = w2.heap.size + 1 := by simp
          generalize w2.alloc (.cells #[.int .i64 1, .string tb, .int .i64 0] 57) = W9 at *
          have c0 : W9.cell? ⟨w2.heap.size, 0, none⟩ = some (.int .i64 1) := Lib.cell_of_heap HBX9.out 0
          have hlt9 := lt_of_heap HBX9.out
          refine (HCAT.out _ _ ?_ ?_).mono ?_
          · exact ((items_own HO8.out rfl).und HU9.out).und ((Und.refl _).alloc _)
          · rw [← htbl]; exact items_boxi _ _ _ _ _ (by rw [← hs9]; simp) (by rw [← hs9]; simp) (by rw [← hs9, ba_eta]; simp) (by rw [← hs9]; simp)
          clear hs9
          rintro e w3 ⟨v3, rfl, ho3, hu3⟩
          obtain ⟨A3, c3, rfl, _, _, _⟩ := own_slice' ho3
          have hu4 : Und wr w3 := HU9.out.trans (Und.trans ((by repeat (first | exact Und.refl _ | assumption | refine Und.under ?_ _ | refine Und.alloc ?_ _ | refine Und.drew ?_ | refine Und.drewN ?_ _))) hu3)
          have hu5 := HU.out.trans hu4
          have hs4 := hu4.size
          have HU5 := hid (HU.out.trans hu4)
          have HO10' := hid (own_und hu4 HO10.out)
          have HO9' := hid (own_und hu4 HO9.out)
          have HO3 := hid (own_low (base' := w.heap.size) ho3 (by have := HU9.out.size; simp; omega))
          have hdis : ∀ x, (Value.slice A3 g.length c3).ownBlock = some x → wr.heap.size ≤ x := fun x hx => by have := owns_block ho3 x hx; have := HU9.out.size; simp at *; omega
          have hb3 := (hu3.below.block w2.heap.size (by simp; omega)).trans ((heap_alloc_lt _ _ _ hlt9).trans HBX9.out)
          have hc : w3.cell? ⟨w2.heap.size, 0, none⟩ = some (.int .i64 1) := Lib.cell_of_heap hb3 0
          have hc1 : w3.cell? ⟨w2.heap.size, 1, none⟩ = some (.string tb) := Lib.cell_of_heap hb3 1
          have hc2 : w3.cell? ⟨w2.heap.size, 2, none⟩ = some (.int .i64 0) := Lib.cell_of_heap hb3 2
          haveI : LtW w2.heap.size w3 := LtW.of (lt_of_heap hb3)
          have HDIS := hid hdis
          clear ho3 hu3 hdis hb3 c0 HBX9
          go_wp2_with (at_builtin; refine wpList_append_own _ rfl _ _ 22 rfl w.heap.size 3 i0 (.int .i64 0) 1 8 Tryd.underlying22 hi hz0 hz1 hz2 rfl (by decide) (.slice A10 cuts.length c10) cuts.length (cellsN cuts) rfl ?_ _ 1 1 [.int .i64 d] rfl rfl ?_ ?_ (by unfold maxLen; omega) (by omega) ?_ ?_)
          · exact own_und ((by repeat (first | exact Und.refl _ | assumption | refine Und.under ?_ _ | refine Und.alloc ?_ _ | refine Und.drew ?_ | refine Und.drewN ?_ _))) HO10'.out
          · exact side1b _ _ _
          · intro u hu'; simp at hu'; subst hu'; rfl
          · have := HU5.out.size; simp; omega
          · intro v' w5 ho5 hg5 _
            rw [← cellsN_snoc] at ho5
            have HU6 := hid ((HU5.out.alloc _).grown hg5 (fun g hg => owns_block HO10'.out g hg))
            have hA : ∀ {W : World} {v : Value} {n : Nat} {xs : List Value}, Und w3 W → W.grownBy w5 (Value.slice A10 cuts.length c10).ownBlock → w3.ownsRow w.heap.size 57 3 v n xs → w5.ownsRow w.heap.size 57 3 v n xs := fun hW h5 hv => (own_und hW hv).kept h5 (rows_ne (own_und hW hv) (own_und hW HO10'.out) (by decide))
            have HO3' := hid (hA ((by repeat (first | exact Und.refl _ | assumption | refine Und.under ?_ _ | refine Und.alloc ?_ _ | refine Und.drew ?_ | refine Und.drewN ?_ _))) hg5 HO3.out)
            have HO9'' := hid (hA ((by repeat (first | exact Und.refl _ | assumption | refine Und.under ?_ _ | refine Und.alloc ?_ _ | refine Und.drew ?_ | refine Und.drewN ?_ _))) hg5 HO9'.out)
            have HO5 := hid ho5
            clear hg5 ho5 hA
            go_wp2
            exact ⟨⟨a + n, a + n, c, g, op, cuts ++ [d], fuel, congrArg (Value.int .i64) (by omega), congrArg (Value.int .i64) (by omega), rfl, hn3, by omega, HO3'.out, by simpa using HO9''.out, by simpa using HO5.out, HGN.out, by omega, by omega, by simp; omega, by simp; omega, by simp; omega, HS.out, HD2.out, HU6.out⟩, by simp [intOf]; omega⟩
        · have hst : St.stepT op c 5 t = some (0, op, c) := rfl
          have HCAT := hid (HCT.out 0)
          have hadd := HAD.out 0
          have HF2 := hid (HFU.out _ _ _ hst)
          have HS2 := hid (HST.out _ _ _ hst)
          generalize hg : St.addI f (5, t, 0) = g at *
          obtain ⟨hgn, hgt, hgl⟩ := hadd
          have HGN := hid hgn
          clear hg hgn hst HAD HCT HFU HST HTG
          by_cases hb5 : 512 < g.length
          · have HD2 := hid (HF2.out (.inl hb5))
            have z5 : ((512 : Int) < (g.length : Int)) := by omega
            clear HF2 HS2
            go_wp2_with fail
            refine (HEL2.out _).mono ?_
            rintro e w2 ⟨rfl, hu2⟩
            have HU9 := hid (show Und wr (w2.alloc (.cells #[.int .i64 5, .string tb, .int .i64 0] 57)) from hu2.alloc _)
            have HBX9 := hid (heap_alloc_at w2 (.cells #[.int .i64 5, .string tb, .int .i64 0] 57) w2.heap.size rfl)
            clear hu2
            go_wp2_with fail
            have hs9 : (w2.alloc (.cells #[.int .i64 5, .string tb, .int .i64 0] 57)).heap.size = w2.heap.size + 1 := by simp
            generalize w2.alloc (.cells #[.int .i64 5, .string tb, .int .i64 0] 57) = W9 at *
            have c0 : W9.cell? ⟨w2.heap.size, 0, none⟩ = some (.int .i64 5) := Lib.cell_of_heap HBX9.out 0
            have hlt9 := lt_of_heap HBX9.out
            refine (HCAT.out _ _ ?_ ?_).mono ?_
            · exact ((items_own HO8.out rfl).und HU9.out).und ((Und.refl _).alloc _)
            · rw [← htbl]; exact items_boxi _ _ _ _ _ (by rw [← hs9]; simp) (by rw [← hs9]; simp) (by rw [← hs9, ba_eta]; simp) (by rw [← hs9]; simp)
            clear hs9
            rintro e w3 ⟨v3, rfl, ho3, hu3⟩
            obtain ⟨A3, c3, rfl, _, _, _⟩ := own_slice' ho3
            have hu4 : Und wr w3 := HU9.out.trans (Und.trans ((by repeat (first | exact Und.refl _ | assumption | refine Und.under ?_ _ | refine Und.alloc ?_ _ | refine Und.drew ?_ | refine Und.drewN ?_ _))) hu3)
            have hu5 := HU.out.trans hu4
            clear ho3 hu3 hu4 c0
            go_wp2
            refine bodyPost_ret (v := .tuple #[.slice none 0 0, .slice none 0 0, .int .i64 a, .int .i64 3]) (by simp [results, Tryd.results19, go_sem]) rfl ?_
            unfold RDecEnd
            rw [HD2.out]
            exact ⟨_, _, rfl, World.ownsRow_nil _ _ _ _, World.ownsRow_nil _ _ _ _, hu5⟩
          have z5 : ¬ ((512 : Int) < (g.length : Int)) := by omega
          by_cases hb6 : 1024 ≤ cuts.length
          · have HD2 := hid (HF2.out (.inr hb6))
            have z6 : ((1024 : Int) ≤ (cuts.length : Int)) := by omega
            clear HF2 HS2
            go_wp2_with fail
            refine (HEL2.out _).mono ?_
            rintro e w2 ⟨rfl, hu2⟩
            have HU9 := hid (show Und wr (w2.alloc (.cells #[.int .i64 5, .string tb, .int .i64 0] 57)) from hu2.alloc _)
            have HBX9 := hid (heap_alloc_at w2 (.cells #[.int .i64 5, .string tb, .int .i64 0] 57) w2.heap.size rfl)
            clear hu2
            go_wp2_with fail
            have hs9 : (w2.alloc (.cells #[.int .i64 5, .string tb, .int .i64 0] 57)).heap.size = w2.heap.size + 1 := by simp
            generalize w2.alloc (.cells #[.int .i64 5, .string tb, .int .i64 0] 57) = W9 at *
            have c0 : W9.cell? ⟨w2.heap.size, 0, none⟩ = some (.int .i64 5) := Lib.cell_of_heap HBX9.out 0
            have hlt9 := lt_of_heap HBX9.out
            refine (HCAT.out _ _ ?_ ?_).mono ?_
            · exact ((items_own HO8.out rfl).und HU9.out).und ((Und.refl _).alloc _)
            · rw [← htbl]; exact items_boxi _ _ _ _ _ (by rw [← hs9]; simp) (by rw [← hs9]; simp) (by rw [← hs9, ba_eta]; simp) (by rw [← hs9]; simp)
            clear hs9
            rintro e w3 ⟨v3, rfl, ho3, hu3⟩
            obtain ⟨A3, c3, rfl, _, _, _⟩ := own_slice' ho3
            have hu4 : Und wr w3 := HU9.out.trans (Und.trans ((by repeat (first | exact Und.refl _ | assumption | refine Und.under ?_ _ | refine Und.alloc ?_ _ | refine Und.drew ?_ | refine Und.drewN ?_ _))) hu3)
            have hu5 := HU.out.trans hu4
            clear ho3 hu3 hu4 c0
            go_wp2
            refine bodyPost_ret (v := .tuple #[.slice none 0 0, .slice none 0 0, .int .i64 a, .int .i64 3]) (by simp [results, Tryd.results19, go_sem]) rfl ?_
            unfold RDecEnd
            rw [HD2.out]
            exact ⟨_, _, rfl, World.ownsRow_nil _ _ _ _, World.ownsRow_nil _ _ _ _, hu5⟩
          have z6 : ¬ ((1024 : Int) ≤ (cuts.length : Int)) := by omega
          have HD2 := hid (HS2.out (by omega))
          clear HF2 HS2
          go_wp2_with fail
          refine (HEL2.out _).mono ?_
          rintro e w2 ⟨rfl, hu2⟩
          have HU9 := hid (show Und wr (w2.alloc (.cells #[.int .i64 5, .string tb, .int .i64 0] 57)) from hu2.alloc _)
          have HBX9 := hid (heap_alloc_at w2 (.cells #[.int .i64 5, .string tb, .int .i64 0] 57) w2.heap.size rfl)
          clear hu2
          go_wp2_with fail
          have hs9 : (w2.alloc (.cells #[.int .i64 5, .string tb, .int .i64 0] 57)).heap.size = w2.heap.size + 1 := by simp
          generalize w2.alloc (.cells #[.int .i64 5, .string tb, .int .i64 0] 57) = W9 at *
          have c0 : W9.cell? ⟨w2.heap.size, 0, none⟩ = some (.int .i64 5) := Lib.cell_of_heap HBX9.out 0
          have hlt9 := lt_of_heap HBX9.out
          refine (HCAT.out _ _ ?_ ?_).mono ?_
          · exact ((items_own HO8.out rfl).und HU9.out).und ((Und.refl _).alloc _)
          · rw [← htbl]; exact items_boxi _ _ _ _ _ (by rw [← hs9]; simp) (by rw [← hs9]; simp) (by rw [← hs9, ba_eta]; simp) (by rw [← hs9]; simp)
          clear hs9
          rintro e w3 ⟨v3, rfl, ho3, hu3⟩
          obtain ⟨A3, c3, rfl, _, _, _⟩ := own_slice' ho3
          have hu4 : Und wr w3 := HU9.out.trans (Und.trans ((by repeat (first | exact Und.refl _ | assumption | refine Und.under ?_ _ | refine Und.alloc ?_ _ | refine Und.drew ?_ | refine Und.drewN ?_ _))) hu3)
          have hu5 := HU.out.trans hu4
          have hs4 := hu4.size
          have HU5 := hid (HU.out.trans hu4)
          have HO10' := hid (own_und hu4 HO10.out)
          have HO9' := hid (own_und hu4 HO9.out)
          have HO3 := hid (own_low (base' := w.heap.size) ho3 (by have := HU9.out.size; simp; omega))
          have hdis : ∀ x, (Value.slice A3 g.length c3).ownBlock = some x → wr.heap.size ≤ x := fun x hx => by have := owns_block ho3 x hx; have := HU9.out.size; simp at *; omega
          have hb3 := (hu3.below.block w2.heap.size (by simp; omega)).trans ((heap_alloc_lt _ _ _ hlt9).trans HBX9.out)
          have hc : w3.cell? ⟨w2.heap.size, 0, none⟩ = some (.int .i64 5) := Lib.cell_of_heap hb3 0
          have hc1 : w3.cell? ⟨w2.heap.size, 1, none⟩ = some (.string tb) := Lib.cell_of_heap hb3 1
          have hc2 : w3.cell? ⟨w2.heap.size, 2, none⟩ = some (.int .i64 0) := Lib.cell_of_heap hb3 2
          haveI : LtW w2.heap.size w3 := LtW.of (lt_of_heap hb3)
          have HDIS := hid hdis
          clear ho3 hu3 hdis hb3 c0 HBX9
          go_wp2_with (at_builtin; refine wpList_append_own _ rfl _ _ 22 rfl w.heap.size 3 i0 (.int .i64 0) 1 8 Tryd.underlying22 hi hz0 hz1 hz2 rfl (by decide) (.slice A10 cuts.length c10) cuts.length (cellsN cuts) rfl ?_ _ 1 1 [.int .i64 d] rfl rfl ?_ ?_ (by unfold maxLen; omega) (by omega) ?_ ?_)
          · exact own_und ((by repeat (first | exact Und.refl _ | assumption | refine Und.under ?_ _ | refine Und.alloc ?_ _ | refine Und.drew ?_ | refine Und.drewN ?_ _))) HO10'.out
          · exact side1b _ _ _
          · intro u hu'; simp at hu'; subst hu'; rfl
          · have := HU5.out.size; simp; omega
          · intro v' w5 ho5 hg5 _
            rw [← cellsN_snoc] at ho5
            have HU6 := hid ((HU5.out.alloc _).grown hg5 (fun g hg => owns_block HO10'.out g hg))
            have hA : ∀ {W : World} {v : Value} {n : Nat} {xs : List Value}, Und w3 W → W.grownBy w5 (Value.slice A10 cuts.length c10).ownBlock → w3.ownsRow w.heap.size 57 3 v n xs → w5.ownsRow w.heap.size 57 3 v n xs := fun hW h5 hv => (own_und hW hv).kept h5 (rows_ne (own_und hW hv) (own_und hW HO10'.out) (by decide))
            have HO3' := hid (hA ((by repeat (first | exact Und.refl _ | assumption | refine Und.under ?_ _ | refine Und.alloc ?_ _ | refine Und.drew ?_ | refine Und.drewN ?_ _))) hg5 HO3.out)
            have HO9'' := hid (hA ((by repeat (first | exact Und.refl _ | assumption | refine Und.under ?_ _ | refine Und.alloc ?_ _ | refine Und.drew ?_ | refine Und.drewN ?_ _))) hg5 HO9'.out)
            have HO5 := hid ho5
            clear hg5 ho5 hA
            go_wp2
            exact ⟨⟨a + n, a + n, c, g, op, cuts ++ [d], fuel, congrArg (Value.int .i64) (by omega), congrArg (Value.int .i64) (by omega), rfl, hn3, by omega, HO3'.out, by simpa using HO9''.out, by simpa using HO5.out, HGN.out, by omega, by omega, by simp; omega, by simp; omega, by simp; omega, HS.out, HD2.out, HU6.out⟩, by simp [intOf]; omega⟩
        · have hst : St.stepT op c 2 t = some (((c : Int) + 1), op ++ [(2, t, (c : Int) + 1)], c + 1) := rfl
          have HCAT := hid (HCT.out ((c : Int) + 1))
          have hadd := HAD.out ((c : Int) + 1)
          have HF2 := hid (HFU.out _ _ _ hst)
          have HS2 := hid (HST.out _ _ _ hst)
          generalize hg : St.addI f (2, t, ((c : Int) + 1)) = g at *
          obtain ⟨hgn, hgt, hgl⟩ := hadd
          have HGN := hid hgn
          clear hg hgn hst HAD HCT HFU HST HTG
          by_cases hb5 : 512 < g.length
          · have HD2 := hid (HF2.out (.inl hb5))
            have z5 : ((512 : Int) < (g.length : Int)) := by omega
            clear HF2 HS2
            go_wp2_with fail
            refine (HEL2.out _).mono ?_
            rintro e w2 ⟨rfl, hu2⟩
            have HU9 := hid (show Und wr (w2.alloc (.cells #[.int .i64 2, .string tb, .int .i64 ((c : Int) + 1)] 57)) from hu2.alloc _)
            have HBX9 := hid (heap_alloc_at w2 (.cells #[.int .i64 2, .string tb, .int .i64 ((c : Int) + 1)] 57) w2.heap.size rfl)
            clear hu2
            go_wp2_with fail
            have hs9 : (w2.alloc (.cells #[.int .i64 2, .string tb, .int .i64 ((c : Int) + 1)] 57)).heap.size = w2.heap.size + 1 := by simp
            generalize w2.alloc (.cells #[.int .i64 2, .string tb, .int .i64 ((c : Int) + 1)] 57) = W9 at *
            have c0 : W9.cell? ⟨w2.heap.size, 0, none⟩ = some (.int .i64 2) := Lib.cell_of_heap HBX9.out 0
            have hlt9 := lt_of_heap HBX9.out
            refine (HCAT.out _ _ ?_ ?_).mono ?_
            · exact ((items_own HO8.out rfl).und HU9.out).und ((Und.refl _).alloc _)
            · rw [← htbl]; exact items_boxi _ _ _ _ _ (by rw [← hs9]; simp) (by rw [← hs9]; simp) (by rw [← hs9, ba_eta]; simp) (by rw [← hs9]; simp)
            clear hs9
            rintro e w3 ⟨v3, rfl, ho3, hu3⟩
            obtain ⟨A3, c3, rfl, _, _, _⟩ := own_slice' ho3
            have hu4 : Und wr w3 := HU9.out.trans (Und.trans ((by repeat (first | exact Und.refl _ | assumption | refine Und.under ?_ _ | refine Und.alloc ?_ _ | refine Und.drew ?_ | refine Und.drewN ?_ _))) hu3)
            have hu5 := HU.out.trans hu4
            clear ho3 hu3 hu4 c0
            go_wp2
            refine bodyPost_ret (v := .tuple #[.slice none 0 0, .slice none 0 0, .int .i64 a, .int .i64 3]) (by simp [results, Tryd.results19, go_sem]) rfl ?_
            unfold RDecEnd
            rw [HD2.out]
            exact ⟨_, _, rfl, World.ownsRow_nil _ _ _ _, World.ownsRow_nil _ _ _ _, hu5⟩
          have z5 : ¬ ((512 : Int) < (g.length : Int)) := by omega
          by_cases hb6 : 1024 ≤ cuts.length
          · have HD2 := hid (HF2.out (.inr hb6))
            have z6 : ((1024 : Int) ≤ (cuts.length : Int)) := by omega
            clear HF2 HS2
            go_wp2_with fail
            refine (HEL2.out _).mono ?_
            rintro e w2 ⟨rfl, hu2⟩
            have HU9 := hid (show Und wr (w2.alloc (.cells #[.int .i64 2, .string tb, .int .i64 ((c : Int) + 1)] 57)) from hu2.alloc _)
            have HBX9 := hid (heap_alloc_at w2 (.cells #[.int .i64 2, .string tb, .int .i64 ((c : Int) + 1)] 57) w2.heap.size rfl)
            clear hu2
            go_wp2_with fail
            have hs9 : (w2.alloc (.cells #[.int .i64 2, .string tb, .int .i64 ((c : Int) + 1)] 57)).heap.size = w2.heap.size + 1 := by simp
            generalize w2.alloc (.cells #[.int .i64 2, .string tb, .int .i64 ((c : Int) + 1)] 57) = W9 at *
            have c0 : W9.cell? ⟨w2.heap.size, 0, none⟩ = some (.int .i64 2) := Lib.cell_of_heap HBX9.out 0
            have hlt9 := lt_of_heap HBX9.out
            refine (HCAT.out _ _ ?_ ?_).mono ?_
            · exact ((items_own HO8.out rfl).und HU9.out).und ((Und.refl _).alloc _)
            · rw [← htbl]; exact items_boxi _ _ _ _ _ (by rw [← hs9]; simp) (by rw [← hs9]; simp) (by rw [← hs9, ba_eta]; simp) (by rw [← hs9]; simp)
            clear hs9
            rintro e w3 ⟨v3, rfl, ho3, hu3⟩
            obtain ⟨A3, c3, rfl, _, _, _⟩ := own_slice' ho3
            have hu4 : Und wr w3 := HU9.out.trans (Und.trans ((by repeat (first | exact Und.refl _ | assumption | refine Und.under ?_ _ | refine Und.alloc ?_ _ | refine Und.drew ?_ | refine Und.drewN ?_ _))) hu3)
            have hu5 := HU.out.trans hu4
            clear ho3 hu3 hu4 c0
            go_wp2
            refine bodyPost_ret (v := .tuple #[.slice none 0 0, .slice none 0 0, .int .i64 a, .int .i64 3]) (by simp [results, Tryd.results19, go_sem]) rfl ?_
            unfold RDecEnd
            rw [HD2.out]
            exact ⟨_, _, rfl, World.ownsRow_nil _ _ _ _, World.ownsRow_nil _ _ _ _, hu5⟩
          have z6 : ¬ ((1024 : Int) ≤ (cuts.length : Int)) := by omega
          have HD2 := hid (HS2.out (by omega))
          clear HF2 HS2
          go_wp2_with fail
          refine (HEL2.out _).mono ?_
          rintro e w2 ⟨rfl, hu2⟩
          have HU9 := hid (show Und wr (w2.alloc (.cells #[.int .i64 2, .string tb, .int .i64 ((c : Int) + 1)] 57)) from hu2.alloc _)
          have HBX9 := hid (heap_alloc_at w2 (.cells #[.int .i64 2, .string tb, .int .i64 ((c : Int) + 1)] 57) w2.heap.size rfl)
          clear hu2
          go_wp2_with fail
          have hs9 : (w2.alloc (.cells #[.int .i64 2, .string tb, .int .i64 ((c : Int) + 1)] 57)).heap.size = w2.heap.size + 1 := by simp
          generalize w2.alloc (.cells #[.int .i64 2, .string tb, .int .i64 ((c : Int) + 1)] 57) = W9 at *
          have c0 : W9.cell? ⟨w2.heap.size, 0, none⟩ = some (.int .i64 2) := Lib.cell_of_heap HBX9.out 0
          have hlt9 := lt_of_heap HBX9.out
          refine (HCAT.out _ _ ?_ ?_).mono ?_
          · exact ((items_own HO8.out rfl).und HU9.out).und ((Und.refl _).alloc _)
          · rw [← htbl]; exact items_boxi _ _ _ _ _ (by rw [← hs9]; simp) (by rw [← hs9]; simp) (by rw [← hs9, ba_eta]; simp) (by rw [← hs9]; simp)
          clear hs9
          rintro e w3 ⟨v3, rfl, ho3, hu3⟩
          obtain ⟨A3, c3, rfl, _, _, _⟩ := own_slice' ho3
          have hu4 : Und wr w3 := HU9.out.trans (Und.trans ((by repeat (first | exact Und.refl _ | assumption | refine Und.under ?_ _ | refine Und.alloc ?_ _ | refine Und.drew ?_ | refine Und.drewN ?_ _))) hu3)
          have hu5 := HU.out.trans hu4
          have hs4 := hu4.size
          have HU5 := hid (HU.out.trans hu4)
          have HO10' := hid (own_und hu4 HO10.out)
          have HO9' := hid (own_und hu4 HO9.out)
          have HO3 := hid (own_low (base' := w.heap.size) ho3 (by have := HU9.out.size; simp; omega))
          have hdis : ∀ x, (Value.slice A3 g.length c3).ownBlock = some x → wr.heap.size ≤ x := fun x hx => by have := owns_block ho3 x hx; have := HU9.out.size; simp at *; omega
          have hb3 := (hu3.below.block w2.heap.size (by simp; omega)).trans ((heap_alloc_lt _ _ _ hlt9).trans HBX9.out)
          have hc : w3.cell? ⟨w2.heap.size, 0, none⟩ = some (.int .i64 2) := Lib.cell_of_heap hb3 0
          have hc1 : w3.cell? ⟨w2.heap.size, 1, none⟩ = some (.string tb) := Lib.cell_of_heap hb3 1
          have hc2 : w3.cell? ⟨w2.heap.size, 2, none⟩ = some (.int .i64 ((c : Int) + 1)) := Lib.cell_of_heap hb3 2
          haveI : LtW w2.heap.size w3 := LtW.of (lt_of_heap hb3)
          have HDIS := hid hdis
          clear ho3 hu3 hdis hb3 c0 HBX9
          go_wp2_with (at_builtin; refine wpList_append_own2 rfl _ _ 24 rfl w.heap.size 57 j0 (.agg #[.int .i64 0, .string ⟨#[]⟩, .int .i64 0]) 3 32 Tryd.underlying24 ji jz0 jz1 jz2 rfl (by decide) (.slice A9 op.length c9) op.length (cellsIt op) rfl ?_ _ 1 1 [.int .i64 2, .string tb, .int .i64 ((c : Int) + 1)] rfl rfl ?_ (item_one _ _ _) (by unfold maxLen; omega) (by omega) ?_ ?_)
          · exact HO9'.out.alloc _
          · exact side3b _ _ _ _ _ _ rfl
          · have := HU5.out.size; simp; omega
          intro v9 w4 ho9 hg9 hfr9
          have hua : Und w3 (w3.alloc (.cells #[.int .i64 2, .string tb, .int .i64 ((c : Int) + 1)] 57)) := (by repeat (first | exact Und.refl _ | assumption | refine Und.under ?_ _ | refine Und.alloc ?_ _ | refine Und.drew ?_ | refine Und.drewN ?_ _))
          have HO9n := hid (show w4.ownsRow w.heap.size 57 3 v9 (op ++ [(2, t, (c : Int) + 1)]).length (cellsIt (op ++ [(2, t, (c : Int) + 1)])) by
            rw [cellsIt_snoc, List.length_append, List.length_singleton, ← htbl]; simp only [ba_eta]; exact ho9)
          have hne : (Value.slice A3 g.length c3).ownBlock = none ∨ (Value.slice A3 g.length c3).ownBlock ≠ (Value.slice A9 op.length c9).ownBlock := by
            cases hb : (Value.slice A3 g.length c3).ownBlock with
            | none => exact .inl rfl
            | some x =>
              refine .inr fun e => ?_
              have := HDIS.out x hb
              have := (HO9.out.lt x e.symm).2
              omega
          have HO3n := hid ((own_und hua HO3.out).kept hg9 hne)
          have HO10n := hid ((own_und hua HO10'.out).kept hg9 (rows_ne (own_und hua HO10'.out) (own_und hua HO9'.out) (by decide)))
          have HU5n := hid ((HU5.out.alloc _).grown hg9 (fun g hg => owns_block HO9'.out g hg))
          obtain ⟨A9', c9', rfl, _⟩ := own_slice ho9
          clear hg9 ho9 hfr9 hne hua hc hc1 hc2 HU5 HO3 HO10' HO9' HDIS
          go_wp2_with (at_builtin; refine wpList_append_own _ rfl _ _ 22 rfl w.heap.size 3 i0 (.int .i64 0) 1 8 Tryd.underlying22 hi hz0 hz1 hz2 rfl (by decide) (.slice A10 cuts.length c10) cuts.length (cellsN cuts) rfl ?_ _ 1 1 [.int .i64 d] rfl rfl ?_ ?_ (by unfold maxLen; omega) (by omega) ?_ ?_)
          · exact own_und ((by repeat (first | exact Und.refl _ | assumption | refine Und.under ?_ _ | refine Und.alloc ?_ _ | refine Und.drew ?_ | refine Und.drewN ?_ _))) HO10n.out
          · exact side1b _ _ _
          · intro u hu'; simp at hu'; subst hu'; rfl
          · have := HU5n.out.size; simp; omega
          · intro v' w5 ho5 hg5 _
            rw [← cellsN_snoc] at ho5
            have HU6 := hid ((HU5n.out.alloc _).grown hg5 (fun g hg => owns_block HO10n.out g hg))
            have hA : ∀ {W : World} {v : Value} {n : Nat} {xs : List Value}, Und w4 W → W.grownBy w5 (Value.slice A10 cuts.length c10).ownBlock → w4.ownsRow w.heap.size 57 3 v n xs → w5.ownsRow w.heap.size 57 3 v n xs := fun hW h5 hv => (own_und hW hv).kept h5 (rows_ne (own_und hW hv) (own_und hW HO10n.out) (by decide))
            have HO3' := hid (hA ((by repeat (first | exact Und.refl _ | assumption | refine Und.under ?_ _ | refine Und.alloc ?_ _ | refine Und.drew ?_ | refine Und.drewN ?_ _))) hg5 HO3n.out)
            have HO9'' := hid (hA ((by repeat (first | exact Und.refl _ | assumption | refine Und.under ?_ _ | refine Und.alloc ?_ _ | refine Und.drew ?_ | refine Und.drewN ?_ _))) hg5 HO9n.out)
            have HO5 := hid ho5
            clear hg5 ho5 hA
            go_wp2
            exact ⟨⟨a + n, a + n, c + 1, g, op ++ [(2, t, (c : Int) + 1)], cuts ++ [d], fuel, congrArg (Value.int .i64) (by omega), congrArg (Value.int .i64) (by omega), congrArg (Value.int .i64) (by omega), hn3, by omega, HO3'.out, by simpa using HO9''.out, by simpa using HO5.out, HGN.out, by omega, by omega, by simp; omega, by simp; omega, by simp; omega, (fun o ho => by rcases List.mem_append.1 ho with ho | ho; exact HS.out o ho; simp at ho; subst ho; show t.length ≤ _; omega), HD2.out, HU6.out⟩, by simp [intOf]; omega⟩
        · have hst : St.stepT op c 4 t = some (((c : Int) + 1), op, c + 1) := rfl
          have HCAT := hid (HCT.out ((c : Int) + 1))
          have hadd := HAD.out ((c : Int) + 1)
          have HF2 := hid (HFU.out _ _ _ hst)
          have HS2 := hid (HST.out _ _ _ hst)
          generalize hg : St.addI f (4, t, ((c : Int) + 1)) = g at *
          obtain ⟨hgn, hgt, hgl⟩ := hadd
          have HGN := hid hgn
          clear hg hgn hst HAD HCT HFU HST HTG
          by_cases hb5 : 512 < g.length
          · have HD2 := hid (HF2.out (.inl hb5))
            have z5 : ((512 : Int) < (g.length : Int)) := by omega
            clear HF2 HS2
            go_wp2_with fail
            refine (HEL2.out _).mono ?_
            rintro e w2 ⟨rfl, hu2⟩
            have HU9 := hid (show Und wr (w2.alloc (.cells #[.int .i64 4, .string tb, .int .i64 ((c : Int) + 1)] 57)) from hu2.alloc _)
            have HBX9 := hid (heap_alloc_at w2 (.cells #[.int .i64 4, .string tb, .int .i64 ((c : Int) + 1)] 57) w2.heap.size rfl)
            clear hu2
            go_wp2_with fail
            have hs9 : (w2.alloc (.cells #[.int .i64 4, .string tb, .int .i64 ((c : Int) + 1)] 57)).heap.size = w2.heap.size + 1 := by simp
            generalize w2.alloc (.cells #[.int .i64 4, .string tb, .int .i64 ((c : Int) + 1)] 57) = W9 at *
            have c0 : W9.cell? ⟨w2.heap.size, 0, none⟩ = some (.int .i64 4) := Lib.cell_of_heap HBX9.out 0
            have hlt9 := lt_of_heap HBX9.out
            refine (HCAT.out _ _ ?_ ?_).mono ?_
            · exact ((items_own HO8.out rfl).und HU9.out).und ((Und.refl _).alloc _)
            · rw [← htbl]; exact items_boxi _ _ _ _ _ (by rw [← hs9]; simp) (by rw [← hs9]; simp) (by rw [← hs9, ba_eta]; simp) (by rw [← hs9]; simp)
            clear hs9
            rintro e w3 ⟨v3, rfl, ho3, hu3⟩
            obtain ⟨A3, c3, rfl, _, _, _⟩ := own_slice' ho3
            have hu4 : Und wr w3 := HU9.out.trans (Und.trans ((by repeat (first | exact Und.refl _ | assumption | refine Und.under ?_ _ | refine Und.alloc ?_ _ | refine Und.drew ?_ | refine Und.drewN ?_ _))) hu3)
            have hu5 := HU.out.trans hu4
            clear ho3 hu3 hu4 c0
            go_wp2
            refine bodyPost_ret (v := .tuple #[.slice none 0 0, .slice none 0 0, .int .i64 a, .int .i64 3]) (by simp [results, Tryd.results19, go_sem]) rfl ?_
            unfold RDecEnd
            rw [HD2.out]
            exact ⟨_, _, rfl, World.ownsRow_nil _ _ _ _, World.ownsRow_nil _ _ _ _, hu5⟩
          have z5 : ¬ ((512 : Int) < (g.length : Int)) := by omega
          by_cases hb6 : 1024 ≤ cuts.length
          · have HD2 := hid (HF2.out (.inr hb6))
            have z6 : ((1024 : Int) ≤ (cuts.length : Int)) := by omega
            clear HF2 HS2
            go_wp2_with fail
            refine (HEL2.out _).mono ?_
            rintro e w2 ⟨rfl, hu2⟩
            have HU9 := hid (show Und wr (w2.alloc (.cells #[.int .i64 4, .string tb, .int .i64 ((c : Int) + 1)] 57)) from hu2.alloc _)
            have HBX9 := hid (heap_alloc_at w2 (.cells #[.int .i64 4, .string tb, .int .i64 ((c : Int) + 1)] 57) w2.heap.size rfl)
            clear hu2
            go_wp2_with fail
            have hs9 : (w2.alloc (.cells #[.int .i64 4, .string tb, .int .i64 ((c : Int) + 1)] 57)).heap.size = w2.heap.size + 1 := by simp
            generalize w2.alloc (.cells #[.int .i64 4, .string tb, .int .i64 ((c : Int) + 1)] 57) = W9 at *
            have c0 : W9.cell? ⟨w2.heap.size, 0, none⟩ = some (.int .i64 4) := Lib.cell_of_heap HBX9.out 0
            have hlt9 := lt_of_heap HBX9.out
            refine (HCAT.out _ _ ?_ ?_).mono ?_
            · exact ((items_own HO8.out rfl).und HU9.out).und ((Und.refl _).alloc _)
            · rw [← htbl]; exact items_boxi _ _ _ _ _ (by rw [← hs9]; simp) (by rw [← hs9]; simp) (by rw [← hs9, ba_eta]; simp) (by rw [← hs9]; simp)
            clear hs9
            rintro e w3 ⟨v3, rfl, ho3, hu3⟩
            obtain ⟨A3, c3, rfl, _, _, _⟩ := own_slice' ho3
            have hu4 : Und wr w3 := HU9.out.trans (Und.trans ((by repeat (first | exact Und.refl _ | assumption | refine Und.under ?_ _ | refine Und.alloc ?_ _ | refine Und.drew ?_ | refine Und.drewN ?_ _))) hu3)
            have hu5 := HU.out.trans hu4
            clear ho3 hu3 hu4 c0
            go_wp2
            refine bodyPost_ret (v := .tuple #[.slice none 0 0, .slice none 0 0, .int .i64 a, .int .i64 3]) (by simp [results, Tryd.results19, go_sem]) rfl ?_
            unfold RDecEnd
            rw [HD2.out]
            exact ⟨_, _, rfl, World.ownsRow_nil _ _ _ _, World.ownsRow_nil _ _ _ _, hu5⟩
          have z6 : ¬ ((1024 : Int) ≤ (cuts.length : Int)) := by omega
          have HD2 := hid (HS2.out (by omega))
          clear HF2 HS2
          go_wp2_with fail
          refine (HEL2.out _).mono ?_
          rintro e w2 ⟨rfl, hu2⟩
          have HU9 := hid (show Und wr (w2.alloc (.cells #[.int .i64 4, .string tb, .int .i64 ((c : Int) + 1)] 57)) from hu2.alloc _)
          have HBX9 := hid (heap_alloc_at w2 (.cells #[.int .i64 4, .string tb, .int .i64 ((c : Int) + 1)] 57) w2.heap.size rfl)
          clear hu2
          go_wp2_with fail
          have hs9 : (w2.alloc (.cells #[.int .i64 4, .string tb, .int .i64 ((c : Int) + 1)] 57)).heap.size = w2.heap.size + 1 := by simp
          generalize w2.alloc (.cells #[.int .i64 4, .string tb, .int .i64 ((c : Int) + 1)] 57) = W9 at *
          have c0 : W9.cell? ⟨w2.heap.size, 0, none⟩ = some (.int .i64 4) := Lib.cell_of_heap HBX9.out 0
          have hlt9 := lt_of_heap HBX9.out
          refine (HCAT.out _ _ ?_ ?_).mono ?_
          · exact ((items_own HO8.out rfl).und HU9.out).und ((Und.refl _).alloc _)
          · rw [← htbl]; exact items_boxi _ _ _ _ _ (by rw [← hs9]; simp) (by rw [← hs9]; simp) (by rw [← hs9, ba_eta]; simp) (by rw [← hs9]; simp)
          clear hs9
          rintro e w3 ⟨v3, rfl, ho3, hu3⟩
          obtain ⟨A3, c3, rfl, _, _, _⟩ := own_slice' ho3
          have hu4 : Und wr w3 := HU9.out.trans (Und.trans ((by repeat (first | exact Und.refl _ | assumption | refine Und.under ?_ _ | refine Und.alloc ?_ _ | refine Und.drew ?_ | refine Und.drewN ?_ _))) hu3)
          have hu5 := HU.out.trans hu4
          have hs4 := hu4.size
          have HU5 := hid (HU.out.trans hu4)
          have HO10' := hid (own_und hu4 HO10.out)
          have HO9' := hid (own_und hu4 HO9.out)
          have HO3 := hid (own_low (base' := w.heap.size) ho3 (by have := HU9.out.size; simp; omega))
          have hdis : ∀ x, (Value.slice A3 g.length c3).ownBlock = some x → wr.heap.size ≤ x := fun x hx => by have := owns_block ho3 x hx; have := HU9.out.size; simp at *; omega
          have hb3 := (hu3.below.block w2.heap.size (by simp; omega)).trans ((heap_alloc_lt _ _ _ hlt9).trans HBX9.out)
          have hc : w3.cell? ⟨w2.heap.size, 0, none⟩ = some (.int .i64 4) := Lib.cell_of_heap hb3 0
          have hc1 : w3.cell? ⟨w2.heap.size, 1, none⟩ = some (.string tb) := Lib.cell_of_heap hb3 1
          have hc2 : w3.cell? ⟨w2.heap.size, 2, none⟩ = some (.int .i64 ((c : Int) + 1)) := Lib.cell_of_heap hb3 2
          haveI : LtW w2.heap.size w3 := LtW.of (lt_of_heap hb3)
          have HDIS := hid hdis
          clear ho3 hu3 hdis hb3 c0 HBX9
          go_wp2_with (at_builtin; refine wpList_append_own _ rfl _ _ 22 rfl w.heap.size 3 i0 (.int .i64 0) 1 8 Tryd.underlying22 hi hz0 hz1 hz2 rfl (by decide) (.slice A10 cuts.length c10) cuts.length (cellsN cuts) rfl ?_ _ 1 1 [.int .i64 d] rfl rfl ?_ ?_ (by unfold maxLen; omega) (by omega) ?_ ?_)
          · exact own_und ((by repeat (first | exact Und.refl _ | assumption | refine Und.under ?_ _ | refine Und.alloc ?_ _ | refine Und.drew ?_ | refine Und.drewN ?_ _))) HO10'.out
          · exact side1b _ _ _
          · intro u hu'; simp at hu'; subst hu'; rfl
          · have := HU5.out.size; simp; omega
          · intro v' w5 ho5 hg5 _
            rw [← cellsN_snoc] at ho5
            have HU6 := hid ((HU5.out.alloc _).grown hg5 (fun g hg => owns_block HO10'.out g hg))
            have hA : ∀ {W : World} {v : Value} {n : Nat} {xs : List Value}, Und w3 W → W.grownBy w5 (Value.slice A10 cuts.length c10).ownBlock → w3.ownsRow w.heap.size 57 3 v n xs → w5.ownsRow w.heap.size 57 3 v n xs := fun hW h5 hv => (own_und hW hv).kept h5 (rows_ne (own_und hW hv) (own_und hW HO10'.out) (by decide))
            have HO3' := hid (hA ((by repeat (first | exact Und.refl _ | assumption | refine Und.under ?_ _ | refine Und.alloc ?_ _ | refine Und.drew ?_ | refine Und.drewN ?_ _))) hg5 HO3.out)
            have HO9'' := hid (hA ((by repeat (first | exact Und.refl _ | assumption | refine Und.under ?_ _ | refine Und.alloc ?_ _ | refine Und.drew ?_ | refine Und.drewN ?_ _))) hg5 HO9'.out)
            have HO5 := hid ho5
            clear hg5 ho5 hA
            go_wp2
            exact ⟨⟨a + n, a + n, c + 1, g, op, cuts ++ [d], fuel, congrArg (Value.int .i64) (by omega), congrArg (Value.int .i64) (by omega), congrArg (Value.int .i64) (by omega), hn3, by omega, HO3'.out, by simpa using HO9''.out, by simpa using HO5.out, HGN.out, by omega, by omega, by simp; omega, by simp; omega, by simp; omega, HS.out, HD2.out, HU6.out⟩, by simp [intOf]; omega⟩
        · rcases St.snoc_cases op with rfl | ⟨o1, o, rfl⟩
          · have HD2 := hid (HTG.out rfl)
            simp only [List.length_nil]
            clear HTG HFU HST HCT HAD
            go_wp2_with fail
            refine (HEL2.out _).mono ?_
            rintro e w2 ⟨rfl, hu2⟩
            have hu2' := hid hu2
            clear hu2
            go_wp2_with fail
            first | refine wp_region_under2 (by kernel_rfl) (by kernel_rfl) ?_ | refine wp_region_under (by kernel_rfl) (by kernel_rfl) ?_
            repeat (go_big_quiet_step (first | (fail)))
            refine wpQuiet_nil ?_
            rintro _ ⟨X, rfl⟩
            have hu3 : Und w (under (w2.alloc (.cells #[.int .i64 3, .string tb, .int .i64 0] 57)) X) := HU.out.trans (hu2'.out.trans (by repeat (first | exact Und.refl _ | assumption | refine Und.under ?_ _ | refine Und.alloc ?_ _ | refine Und.drew ?_ | refine Und.drewN ?_ _)))
            clear hu2'
            go_wp2
            refine bodyPost_ret (v := .tuple #[.slice none 0 0, .slice none 0 0, .int .i64 a, .int .i64 7]) (by simp [results, Tryd.results19, go_sem]) rfl ?_
            unfold RDecEnd
            rw [HD2.out]
            exact ⟨_, _, rfl, World.ownsRow_nil _ _ _ _, World.ownsRow_nil _ _ _ _, hu3⟩
          obtain ⟨m, hm⟩ : ∃ m, o1.length = m := ⟨_, rfl⟩
          have hol : (o1 ++ [o]).length = m + 1 := by simp [hm]
          have ho3 := HO9.out
          rw [hol] at ho3
          obtain ⟨gb, rfl, hgB, hgl', hgc⟩ := own_cell ho3 (by omega)
          have hom : (o1 ++ [o])[m]? = some o := by rw [← hm]; simp
          have hcs := cellsIt_at (o1 ++ [o]) m (by rw [hol]; omega)
          have hgm : (o1 ++ [o])[m]'(by rw [hol]; omega) = o := Option.some.inj ((List.getElem?_eq_getElem (by rw [hol]; omega)).symm.trans hom)
          rw [hgm] at hcs
          have i1 := hgc _ _ hcs.2.1
          have i2 := hgc _ _ hcs.2.2
          have hot : o.2.1.length ≤ 4611686018427387904 := by have := HS.out o (by simp); omega
          obtain ⟨ok, ot, oi⟩ := o
          simp only at i1 i2 hot
          haveI : LtW gb wr := LtW.of hgl'
          have z0 : ¬ ((m : Int) < 0) := by omega
          have z3 : (m : Int) < ((m + 1 : Nat) : Int) := by omega
          have hm1 : m ≤ 2000 := by rw [hol] at h3; omega
          obtain ⟨hc9a, hc9b⟩ : m + 1 ≤ c9 ∧ c9 ≤ maxLen := by
            obtain ⟨_, _, e, ha, hb⟩ := own_slice ho3
            simp only [Value.slice.injEq] at e
            obtain ⟨_, _, rfl⟩ := e
            exact ⟨ha, hb⟩
          have HOL := hid hol
          have HNM := hid (fun W => rname_u ot W (by omega))
          have HM := hid hm
          have HO9s := hid (show wr.ownsRow w.heap.size 57 3 (.slice (some ⟨gb, 0, none⟩) o1.length c9) o1.length (cellsIt o1) by
            have hsh := own_shorter ho3 m (by omega)
            have hot2 : (cellsIt (o1 ++ [(ok, ot, oi)])).take (m * 3) = cellsIt o1 := by rw [cellsIt_snoc, List.take_left' (by rw [cells_len, hm])]
            rw [hot2] at hsh
            rw [hm]; exact hsh)
          rw [hol] at h3
          simp only [hol]
          clear hcs hgc hom hgm hol ho3 hm
          obtain ⟨sb, hsb⟩ : ∃ sb : ByteArray, (⟨ot.toArray⟩ : ByteArray) = sb := ⟨_, rfl⟩
          obtain ⟨nb, hnb⟩ : ∃ nb : ByteArray, (⟨(St.nameOf ot).toArray⟩ : ByteArray) = nb := ⟨_, rfl⟩
          rw [hsb, hnb] at HNM
          rw [hsb] at i1
          have hnl : nb.data.toList = St.nameOf ot := by rw [← hnb]
          clear hsb hnb
          obtain ⟨bq, hq⟩ : ∃ bq, (nb.toList != tb.toList) = bq := ⟨_, rfl⟩
          have hst0 : St.stepT (o1 ++ [(ok, ot, oi)]) c 3 t = if bq then none else some (oi, o1, c) := by
            unfold St.stepT
            simp only [if_true, List.getLast?_append, List.getLast?_singleton, Option.some_or, List.dropLast_concat]
            cases bq
            · rw [bne_eq_false_iff_eq, Lib.toList_data, Lib.toList_data, hnl, htbl] at hq
              rw [if_pos hq]; rfl
            · rw [bne_iff_ne, Lib.toList_data, Lib.toList_data, hnl, htbl] at hq
              rw [if_neg hq]; rfl
          clear hnl
          cases bq
          rotate_left 1
          · have HD2 := hid (HTG.out hst0)
            clear hst0 HTG HFU HST HCT HAD
            have hqe : (nb.toList == tb.toList) = false := by simpa using hq
            have hqf : (!(nb.toList == tb.toList)) = true := hq
            go_wp2_with fail
            refine (HEL2.out _).mono ?_
            rintro e w2 ⟨rfl, hu2⟩
            have hw2s : wr.heap.size ≤ w2.heap.size := hu2.size
            have l1 : w2.cell? ⟨gb, m * 3 + 1, none⟩ = some (.string sb) := (hu2.cell (p := ⟨gb, m * 3 + 1, none⟩) hgl').trans i1
            haveI : LtW gb w2 := LtW.of (Nat.lt_of_lt_of_le hgl' hu2.size)
            have hu2' := hid hu2
            clear hu2
            go_wp2_with fail
            have z0' : (decide ((m : Int) < 0)) = false := decide_eq_false (by omega)
            first | refine wp_region_under2 (by kernel_rfl) (by kernel_rfl) ?_ | refine wp_region_under (by kernel_rfl) (by kernel_rfl) ?_
            repeat (go_big_quiet_step (first | (go_at_call 39; exact Calls.under_of (HNM.out _))))
            refine wpQuiet_nil ?_
            rintro _ ⟨X, rfl⟩
            clear z0'
            have hI : Und (w2.alloc (.cells #[.int .i64 3, .string tb, .int .i64 0] 57)) (under (w2.alloc (.cells #[.int .i64 3, .string tb, .int .i64 0] 57)) X) := ⟨X, rfl⟩
            generalize under (w2.alloc (.cells #[.int .i64 3, .string tb, .int .i64 0] 57)) X = W at *
            have HUW := hid ((hu2'.out.alloc _).trans hI)
            have HUX := hid (HU.out.trans HUW.out)
            have HBXW := hid ((hI.below.block w2.heap.size (by simp)).trans (heap_alloc_at w2 (.cells #[.int .i64 3, .string tb, .int .i64 0] 57) w2.heap.size rfl))
            clear hI
            go_wp2
            refine bodyPost_ret (v := .tuple #[.slice none 0 0, .slice none 0 0, .int .i64 a, .int .i64 7]) (by simp [results, Tryd.results19, go_sem]) rfl ?_
            unfold RDecEnd
            rw [HD2.out]
            exact ⟨_, _, rfl, World.ownsRow_nil _ _ _ _, World.ownsRow_nil _ _ _ _, HUX.out⟩
          have hst : St.stepT (o1 ++ [(ok, ot, oi)]) c 3 t = some (oi, o1, c) := hst0
          have hqe : (nb.toList == tb.toList) = true := by simpa using hq
          have hqf : (!(nb.toList == tb.toList)) = false := hq
          clear hst0
          have HCAT := hid (HCT.out oi)
          have hadd := HAD.out oi
          have HF2 := hid (HFU.out _ _ _ hst)
          have HS2 := hid (HST.out _ _ _ hst)
          generalize hg : St.addI f (3, t, oi) = g at *
          obtain ⟨hgn, hgt, hgl⟩ := hadd
          have HGN := hid hgn
          clear hg hgn hst HAD HCT HFU HST HTG
          by_cases hb5 : 512 < g.length
          · have HD2 := hid (HF2.out (.inl hb5))
            have z5 : ((512 : Int) < (g.length : Int)) := by omega
            clear HF2 HS2
            go_wp2_with fail
            refine (HEL2.out _).mono ?_
            rintro e w2 ⟨rfl, hu2⟩
            have hw2s : wr.heap.size ≤ w2.heap.size := hu2.size
            have l1 : w2.cell? ⟨gb, m * 3 + 1, none⟩ = some (.string sb) := (hu2.cell (p := ⟨gb, m * 3 + 1, none⟩) hgl').trans i1
            haveI : LtW gb w2 := LtW.of (Nat.lt_of_lt_of_le hgl' hu2.size)
            have hu2' := hid hu2
            clear hu2
            go_wp2_with fail
            have z0' : (decide ((m : Int) < 0)) = false := decide_eq_false (by omega)
            first | refine wp_region_under2 (by kernel_rfl) (by kernel_rfl) ?_ | refine wp_region_under (by kernel_rfl) (by kernel_rfl) ?_
            repeat (go_big_quiet_step (first | (go_at_call 39; exact Calls.under_of (HNM.out _))))
            refine wpQuiet_nil ?_
            rintro _ ⟨X, rfl⟩
            clear z0'
            have hI : Und (w2.alloc (.cells #[.int .i64 3, .string tb, .int .i64 0] 57)) (under (w2.alloc (.cells #[.int .i64 3, .string tb, .int .i64 0] 57)) X) := ⟨X, rfl⟩
            generalize under (w2.alloc (.cells #[.int .i64 3, .string tb, .int .i64 0] 57)) X = W at *
            have HUW := hid ((hu2'.out.alloc _).trans hI)
            have HUX := hid (HU.out.trans HUW.out)
            have HBXW := hid ((hI.below.block w2.heap.size (by simp)).trans (heap_alloc_at w2 (.cells #[.int .i64 3, .string tb, .int .i64 0] 57) w2.heap.size rfl))
            clear hI
            have q2 : W.cell? ⟨gb, m * 3 + 2, none⟩ = some (.int .i64 oi) := (HUW.out.cell (p := ⟨gb, m * 3 + 2, none⟩) hgl').trans i2
            have x0 : W.cell? ⟨w2.heap.size, 0, none⟩ = some (.int .i64 3) := Lib.cell_of_heap HBXW.out 0
            have x1 : W.cell? ⟨w2.heap.size, 1, none⟩ = some (.string tb) := Lib.cell_of_heap HBXW.out 1
            have x2 : W.cell? ⟨w2.heap.size, 2, none⟩ = some (.int .i64 0) := Lib.cell_of_heap HBXW.out 2
            have xf2 : W.frozen? ⟨w2.heap.size, 2, none⟩ = false := Lib.frozen_of_heap HBXW.out 2
            haveI : LtW w2.heap.size W := LtW.of (lt_of_heap HBXW.out)
            haveI : LtW gb W := LtW.of (Nat.lt_of_lt_of_le hgl' HUW.out.size)
            have HU9 := hid (HUW.out.setCell (p := ⟨w2.heap.size, 2, none⟩) hw2s (.int .i64 oi))
            have HBX9 := hid (heap_setCell_same _ _ 2 _ _ (.int .i64 oi) HBXW.out)
            go_wp2_with fail
            have hs9 : (W.setCell ⟨w2.heap.size, 2, none⟩ (.int .i64 oi)).heap.size = W.heap.size := by simp
            generalize W.setCell ⟨w2.heap.size, 2, none⟩ (.int .i64 oi) = W9 at *
            have c0 : W9.cell? ⟨w2.heap.size, 0, none⟩ = some (.int .i64 3) := Lib.cell_of_heap HBX9.out 0
            have hlt9 := lt_of_heap HBX9.out
            refine (HCAT.out _ _ ?_ ?_).mono ?_
            · exact ((items_own HO8.out rfl).und HU9.out).und ((Und.refl _).alloc _)
            · rw [← htbl]; exact items_boxi _ _ _ _ _ (by rw [← hs9]; simp) (by rw [← hs9]; simp) (by rw [← hs9, ba_eta]; simp) (by rw [← hs9]; simp)
            clear hs9
            rintro e w3 ⟨v3, rfl, ho3, hu3⟩
            obtain ⟨A3, c3, rfl, _, _, _⟩ := own_slice' ho3
            have hu4 : Und wr w3 := HU9.out.trans (Und.trans ((by repeat (first | exact Und.refl _ | assumption | refine Und.under ?_ _ | refine Und.alloc ?_ _ | refine Und.drew ?_ | refine Und.drewN ?_ _))) hu3)
            have hu5 := HU.out.trans hu4
            clear ho3 hu3 hu4 c0
            go_wp2
            refine bodyPost_ret (v := .tuple #[.slice none 0 0, .slice none 0 0, .int .i64 a, .int .i64 3]) (by simp [results, Tryd.results19, go_sem]) rfl ?_
            unfold RDecEnd
            rw [HD2.out]
            exact ⟨_, _, rfl, World.ownsRow_nil _ _ _ _, World.ownsRow_nil _ _ _ _, hu5⟩
          have z5 : ¬ ((512 : Int) < (g.length : Int)) := by omega
          by_cases hb6 : 1024 ≤ cuts.length
          · have HD2 := hid (HF2.out (.inr hb6))
            have z6 : ((1024 : Int) ≤ (cuts.length : Int)) := by omega
            clear HF2 HS2
            go_wp2_with fail
            refine (HEL2.out _).mono ?_
            rintro e w2 ⟨rfl, hu2⟩
            have hw2s : wr.heap.size ≤ w2.heap.size := hu2.size
            have l1 : w2.cell? ⟨gb, m * 3 + 1, none⟩ = some (.string sb) := (hu2.cell (p := ⟨gb, m * 3 + 1, none⟩) hgl').trans i1
            haveI : LtW gb w2 := LtW.of (Nat.lt_of_lt_of_le hgl' hu2.size)
            have hu2' := hid hu2
            clear hu2
            go_wp2_with fail
            have z0' : (decide ((m : Int) < 0)) = false := decide_eq_false (by omega)
            first | refine wp_region_under2 (by kernel_rfl) (by kernel_rfl) ?_ | refine wp_region_under (by kernel_rfl) (by kernel_rfl) ?_
            repeat (go_big_quiet_step (first | (go_at_call 39; exact Calls.under_of (HNM.out _))))
            refine wpQuiet_nil ?_
            rintro _ ⟨X, rfl⟩
            clear z0'
            have hI : Und (w2.alloc (.cells #[.int .i64 3, .string tb, .int .i64 0] 57)) (under (w2.alloc (.cells #[.int .i64 3, .string tb, .int .i64 0] 57)) X) := ⟨X, rfl⟩
            generalize under (w2.alloc (.cells #[.int .i64 3, .string tb, .int .i64 0] 57)) X = W at *
            have HUW := hid ((hu2'.out.alloc _).trans hI)
            have HUX := hid (HU.out.trans HUW.out)
            have HBXW := hid ((hI.below.block w2.heap.size (by simp)).trans (heap_alloc_at w2 (.cells #[.int .i64 3, .string tb, .int .i64 0] 57) w2.heap.size rfl))
            clear hI
            have q2 : W.cell? ⟨gb, m * 3 + 2, none⟩ = some (.int .i64 oi) := (HUW.out.cell (p := ⟨gb, m * 3 + 2, none⟩) hgl').trans i2
            have x0 : W.cell? ⟨w2.heap.size, 0, none⟩ = some (.int .i64 3) := Lib.cell_of_heap HBXW.out 0
            have x1 : W.cell? ⟨w2.heap.size, 1, none⟩ = some (.string tb) := Lib.cell_of_heap HBXW.out 1
            have x2 : W.cell? ⟨w2.heap.size, 2, none⟩ = some (.int .i64 0) := Lib.cell_of_heap HBXW.out 2
            have xf2 : W.frozen? ⟨w2.heap.size, 2, none⟩ = false := Lib.frozen_of_heap HBXW.out 2
            haveI : LtW w2.heap.size W := LtW.of (lt_of_heap HBXW.out)
            haveI : LtW gb W := LtW.of (Nat.lt_of_lt_of_le hgl' HUW.out.size)
            have HU9 := hid (HUW.out.setCell (p := ⟨w2.heap.size, 2, none⟩) hw2s (.int .i64 oi))
            have HBX9 := hid (heap_setCell_same _ _ 2 _ _ (.int .i64 oi) HBXW.out)
            go_wp2_with fail
            have hs9 : (W.setCell ⟨w2.heap.size, 2, none⟩ (.int .i64 oi)).heap.size = W.heap.size := by simp
            generalize W.setCell ⟨w2.heap.size, 2, none⟩ (.int .i64 oi) = W9 at *
            have c0 : W9.cell? ⟨w2.heap.size, 0, none⟩ = some (.int .i64 3) := Lib.cell_of_heap HBX9.out 0
            have hlt9 := lt_of_heap HBX9.out
            refine (HCAT.out _ _ ?_ ?_).mono ?_
            · exact ((items_own HO8.out rfl).und HU9.out).und ((Und.refl _).alloc _)
            · rw [← htbl]; exact items_boxi _ _ _ _ _ (by rw [← hs9]; simp) (by rw [← hs9]; simp) (by rw [← hs9, ba_eta]; simp) (by rw [← hs9]; simp)
            clear hs9
            rintro e w3 ⟨v3, rfl, ho3, hu3⟩
            obtain ⟨A3, c3, rfl, _, _, _⟩ := own_slice' ho3
            have hu4 : Und wr w3 := HU9.out.trans (Und.trans ((by repeat (first | exact Und.refl _ | assumption | refine Und.under ?_ _ | refine Und.alloc ?_ _ | refine Und.drew ?_ | refine Und.drewN ?_ _))) hu3)
            have hu5 := HU.out.trans hu4
            clear ho3 hu3 hu4 c0
            go_wp2
            refine bodyPost_ret (v := .tuple #[.slice none 0 0, .slice none 0 0, .int .i64 a, .int .i64 3]) (by simp [results, Tryd.results19, go_sem]) rfl ?_
            unfold RDecEnd
            rw [HD2.out]
            exact ⟨_, _, rfl, World.ownsRow_nil _ _ _ _, World.ownsRow_nil _ _ _ _, hu5⟩
          have z6 : ¬ ((1024 : Int) ≤ (cuts.length : Int)) := by omega
          have HD2 := hid (HS2.out (by omega))
          clear HF2 HS2
          go_wp2_with fail
          refine (HEL2.out _).mono ?_
          rintro e w2 ⟨rfl, hu2⟩
          have hw2s : wr.heap.size ≤ w2.heap.size := hu2.size
          have l1 : w2.cell? ⟨gb, m * 3 + 1, none⟩ = some (.string sb) := (hu2.cell (p := ⟨gb, m * 3 + 1, none⟩) hgl').trans i1
          haveI : LtW gb w2 := LtW.of (Nat.lt_of_lt_of_le hgl' hu2.size)
          have hu2' := hid hu2
          clear hu2
          go_wp2_with fail
          have z0' : (decide ((m : Int) < 0)) = false := decide_eq_false (by omega)
          first | refine wp_region_under2 (by kernel_rfl) (by kernel_rfl) ?_ | refine wp_region_under (by kernel_rfl) (by kernel_rfl) ?_
          repeat (go_big_quiet_step (first | (go_at_call 39; exact Calls.under_of (HNM.out _))))
          refine wpQuiet_nil ?_
          rintro _ ⟨X, rfl⟩
          clear z0'
          have hI : Und (w2.alloc (.cells #[.int .i64 3, .string tb, .int .i64 0] 57)) (under (w2.alloc (.cells #[.int .i64 3, .string tb, .int .i64 0] 57)) X) := ⟨X, rfl⟩
          generalize under (w2.alloc (.cells #[.int .i64 3, .string tb, .int .i64 0] 57)) X = W at *
          have HUW := hid ((hu2'.out.alloc _).trans hI)
          have HUX := hid (HU.out.trans HUW.out)
          have HBXW := hid ((hI.below.block w2.heap.size (by simp)).trans (heap_alloc_at w2 (.cells #[.int .i64 3, .string tb, .int .i64 0] 57) w2.heap.size rfl))
          clear hI
          have q2 : W.cell? ⟨gb, m * 3 + 2, none⟩ = some (.int .i64 oi) := (HUW.out.cell (p := ⟨gb, m * 3 + 2, none⟩) hgl').trans i2
          have x0 : W.cell? ⟨w2.heap.size, 0, none⟩ = some (.int .i64 3) := Lib.cell_of_heap HBXW.out 0
          have x1 : W.cell? ⟨w2.heap.size, 1, none⟩ = some (.string tb) := Lib.cell_of_heap HBXW.out 1
          have x2 : W.cell? ⟨w2.heap.size, 2, none⟩ = some (.int .i64 0) := Lib.cell_of_heap HBXW.out 2
          have xf2 : W.frozen? ⟨w2.heap.size, 2, none⟩ = false := Lib.frozen_of_heap HBXW.out 2
          haveI : LtW w2.heap.size W := LtW.of (lt_of_heap HBXW.out)
          haveI : LtW gb W := LtW.of (Nat.lt_of_lt_of_le hgl' HUW.out.size)
          have HU9 := hid (HUW.out.setCell (p := ⟨w2.heap.size, 2, none⟩) hw2s (.int .i64 oi))
          have HBX9 := hid (heap_setCell_same _ _ 2 _ _ (.int .i64 oi) HBXW.out)
          go_wp2_with fail
          have hs9 : (W.setCell ⟨w2.heap.size, 2, none⟩ (.int .i64 oi)).heap.size = W.heap.size := by simp
          generalize W.setCell ⟨w2.heap.size, 2, none⟩ (.int .i64 oi) = W9 at *
          have c0 : W9.cell? ⟨w2.heap.size, 0, none⟩ = some (.int .i64 3) := Lib.cell_of_heap HBX9.out 0
          have hlt9 := lt_of_heap HBX9.out
          refine (HCAT.out _ _ ?_ ?_).mono ?_
          · exact ((items_own HO8.out rfl).und HU9.out).und ((Und.refl _).alloc _)
          · rw [← htbl]; exact items_boxi _ _ _ _ _ (by rw [← hs9]; simp) (by rw [← hs9]; simp) (by rw [← hs9, ba_eta]; simp) (by rw [← hs9]; simp)
          clear hs9
          rintro e w3 ⟨v3, rfl, ho3, hu3⟩
          obtain ⟨A3, c3, rfl, _, _, _⟩ := own_slice' ho3
          have hu4 : Und wr w3 := HU9.out.trans (Und.trans ((by repeat (first | exact Und.refl _ | assumption | refine Und.under ?_ _ | refine Und.alloc ?_ _ | refine Und.drew ?_ | refine Und.drewN ?_ _))) hu3)
          have hu5 := HU.out.trans hu4
          have hs4 := hu4.size
          have HU5 := hid (HU.out.trans hu4)
          have HO10' := hid (own_und hu4 HO10.out)
          have HO9' := hid (own_und hu4 HO9s.out)
          have HO3 := hid (own_low (base' := w.heap.size) ho3 (by have := HU9.out.size; simp; omega))
          have hdis : ∀ x, (Value.slice A3 g.length c3).ownBlock = some x → wr.heap.size ≤ x := fun x hx => by have := owns_block ho3 x hx; have := HU9.out.size; simp at *; omega
          have hb3 := (hu3.below.block w2.heap.size (by simp; omega)).trans ((heap_alloc_lt _ _ _ hlt9).trans HBX9.out)
          have hc : w3.cell? ⟨w2.heap.size, 0, none⟩ = some (.int .i64 3) := Lib.cell_of_heap hb3 0
          have hc1 : w3.cell? ⟨w2.heap.size, 1, none⟩ = some (.string tb) := Lib.cell_of_heap hb3 1
          have hc2 : w3.cell? ⟨w2.heap.size, 2, none⟩ = some (.int .i64 oi) := Lib.cell_of_heap hb3 2
          haveI : LtW w2.heap.size w3 := LtW.of (lt_of_heap hb3)
          have HDIS := hid hdis
          clear ho3 hu3 hdis hb3 c0 HBX9
          go_wp2_with (at_builtin; refine wpList_append_own _ rfl _ _ 22 rfl w.heap.size 3 i0 (.int .i64 0) 1 8 Tryd.underlying22 hi hz0 hz1 hz2 rfl (by decide) (.slice A10 cuts.length c10) cuts.length (cellsN cuts) rfl ?_ _ 1 1 [.int .i64 d] rfl rfl ?_ ?_ (by unfold maxLen; omega) (by omega) ?_ ?_)
          · exact own_und ((by repeat (first | exact Und.refl _ | assumption | refine Und.under ?_ _ | refine Und.alloc ?_ _ | refine Und.drew ?_ | refine Und.drewN ?_ _))) HO10'.out
          · exact side1b _ _ _
          · intro u hu'; simp at hu'; subst hu'; rfl
          · have := HU5.out.size; simp; omega
          · intro v' w5 ho5 hg5 _
            rw [← cellsN_snoc] at ho5
            have HU6 := hid ((HU5.out.alloc _).grown hg5 (fun g hg => owns_block HO10'.out g hg))
            have hA : ∀ {W : World} {v : Value} {n : Nat} {xs : List Value}, Und w3 W → W.grownBy w5 (Value.slice A10 cuts.length c10).ownBlock → w3.ownsRow w.heap.size 57 3 v n xs → w5.ownsRow w.heap.size 57 3 v n xs := fun hW h5 hv => (own_und hW hv).kept h5 (rows_ne (own_und hW hv) (own_und hW HO10'.out) (by decide))
            have HO3' := hid (hA ((by repeat (first | exact Und.refl _ | assumption | refine Und.under ?_ _ | refine Und.alloc ?_ _ | refine Und.drew ?_ | refine Und.drewN ?_ _))) hg5 HO3.out)
            have HO9'' := hid (hA ((by repeat (first | exact Und.refl _ | assumption | refine Und.under ?_ _ | refine Und.alloc ?_ _ | refine Und.drew ?_ | refine Und.drewN ?_ _))) hg5 HO9'.out)
            have HO5 := hid ho5
            clear hg5 ho5 hA
            go_wp2
            have hm' := HM.out
            subst hm'
            exact ⟨⟨a + n, a + n, c, g, o1, cuts ++ [d], fuel, congrArg (Value.int .i64) (by omega), congrArg (Value.int .i64) (by omega), rfl, hn3, by omega, HO3'.out, by simpa using HO9''.out, by simpa using HO5.out, HGN.out, by omega, by omega, by simp; omega, by simp; omega, by simp; omega, (fun o ho => HS.out o (by simp [ho])), HD2.out, HU6.out⟩, by simp [intOf]; omega⟩
    · have haz : a = raw.size := by omega
      subst haz
      have hnil : raw.data.toList.drop raw.size = [] := List.drop_of_length_le (by simp)
      have hd2 := HD.out
      rw [hnil, St.decT_nil] at hd2
      unfold St.endT at hd2
      have HD2 := hid hd2
      obtain ⟨A9, c9, rfl, _, _, hA9⟩ := own_slice' hO9
      obtain ⟨A10, c10, rfl, _, _, hA10⟩ := own_slice' hO10
      have hsz2 := HU.out.size
      clear hlt hD HD hu hnil hd2 hO8 hO9 hO10
      by_cases hop : op = []
      rotate_left 1
      · have z1 : (0 : Int) < (op.length : Int) := by have := List.length_pos_iff.2 hop; omega
        have HD3 := hid (show St.decT E raw.size raw.data.toList 0 0 [] [] [] 0 = ([], [], raw.size, 7) by rw [HD2.out, if_neg hop])
        clear hop
        go_wp2
        refine bodyPost_ret (v := .tuple #[.slice none 0 0, .slice none 0 0, .int .i64 raw.size, .int .i64 7]) (by simp [results, Tryd.results19, go_sem]) rfl ?_
        unfold RDecEnd
        rw [HD3.out]
        exact ⟨_, _, rfl, World.ownsRow_nil _ _ _ _, World.ownsRow_nil _ _ _ _, HU.out⟩
      subst hop
      have HD3 := hid (show St.decT E raw.size raw.data.toList 0 0 [] [] [] 0 = (f, cuts ++ [d], 0, 0) by rw [HD2.out, if_pos rfl])
      simp only [List.length_nil]
      go_wp2_with (at_builtin; refine wpList_append_own _ rfl _ _ 22 rfl w.heap.size 3 i0 (.int .i64 0) 1 8 Tryd.underlying22 hi hz0 hz1 hz2 rfl (by decide) (.slice A10 cuts.length c10) cuts.length (cellsN cuts) rfl ?_ _ 1 1 [.int .i64 d] rfl rfl ?_ ?_ (by unfold maxLen; omega) (by omega) ?_ ?_)
      any_goals (first | exact own_und ((by repeat (first | exact Und.refl _ | assumption | refine Und.under ?_ _ | refine Und.alloc ?_ _ | refine Und.drew ?_ | refine Und.drewN ?_ _))) HO10.out | exact side1b _ _ _ | (intro u hu'; simp at hu'; subst hu'; rfl) | rfl | omega | (simp; omega))
      intro v' w5 ho5 hg5 _
      rw [← cellsN_snoc] at ho5
      have HU6 := hid ((HU.out.alloc _).grown hg5 (fun g hg => owns_block HO10.out g hg))
      have hA : ∀ {W : World} {v : Value}, Und wr W → W.grownBy w5 (Value.slice A10 cuts.length c10).ownBlock → wr.ownsRow w.heap.size 57 3 v f.length (cellsIt f) → w5.ownsRow w.heap.size 57 3 v f.length (cellsIt f) := fun hW h5 hv => (own_und hW hv).kept h5 (rows_ne (own_und hW hv) (own_und hW HO10.out) (by decide))
      have HO3' := hid (hA ((by repeat (first | exact Und.refl _ | assumption | refine Und.under ?_ _ | refine Und.alloc ?_ _ | refine Und.drew ?_ | refine Und.drewN ?_ _))) hg5 HO8.out)
      have HO5 := hid ho5
      clear hg5 ho5 hA
      go_wp2
      refine bodyPost_ret (v := .tuple #[_, v', .int .i64 0, .int .i64 0]) (by simp [results, Tryd.results19, go_sem]; rfl) rfl ?_
      unfold RDecEnd
      rw [HD3.out]
      exact ⟨_, _, rfl, HO3'.out, by simpa using HO5.out, HU6.out⟩
end Go.Proofs.YtiifjfbfkhhpeaaDoor

namespace Go.Proofs.YtiifjfbfkhhpeaaDoor
open Go.RowKit

theorem rx_ix (W : World) : (Instr.index 127 (.agg #[.string ⟨#[38, 108, 116, 59, 60]⟩, .string ⟨#[38, 103, 116, 59, 62]⟩, .string ⟨#[38, 97, 109, 112, 59, 38]⟩, .string ⟨#[38, 108, 98, 59, 123]⟩, .string ⟨#[38, 114, 98, 59, 125]⟩]) (.int .i64 0)).run Tryd.prog W = .ok (.string ⟨#[38, 108, 116, 59, 60]⟩) W ∧
    (Instr.index 127 (.agg #[.string ⟨#[38, 108, 116, 59, 60]⟩, .string ⟨#[38, 103, 116, 59, 62]⟩, .string ⟨#[38, 97, 109, 112, 59, 38]⟩, .string ⟨#[38, 108, 98, 59, 123]⟩, .string ⟨#[38, 114, 98, 59, 125]⟩]) (.int .i64 1)).run Tryd.prog W = .ok (.string ⟨#[38, 103, 116, 59, 62]⟩) W ∧
    (Instr.index 127 (.agg #[.string ⟨#[38, 108, 116, 59, 60]⟩, .string ⟨#[38, 103, 116, 59, 62]⟩, .string ⟨#[38, 97, 109, 112, 59, 38]⟩, .string ⟨#[38, 108, 98, 59, 123]⟩, .string ⟨#[38, 114, 98, 59, 125]⟩]) (.int .i64 2)).run Tryd.prog W = .ok (.string ⟨#[38, 97, 109, 112, 59, 38]⟩) W ∧
    (Instr.index 127 (.agg #[.string ⟨#[38, 108, 116, 59, 60]⟩, .string ⟨#[38, 103, 116, 59, 62]⟩, .string ⟨#[38, 97, 109, 112, 59, 38]⟩, .string ⟨#[38, 108, 98, 59, 123]⟩, .string ⟨#[38, 114, 98, 59, 125]⟩]) (.int .i64 3)).run Tryd.prog W = .ok (.string ⟨#[38, 108, 98, 59, 123]⟩) W ∧
    (Instr.index 127 (.agg #[.string ⟨#[38, 108, 116, 59, 60]⟩, .string ⟨#[38, 103, 116, 59, 62]⟩, .string ⟨#[38, 97, 109, 112, 59, 38]⟩, .string ⟨#[38, 108, 98, 59, 123]⟩, .string ⟨#[38, 114, 98, 59, 125]⟩]) (.int .i64 4)).run Tryd.prog W = .ok (.string ⟨#[38, 114, 98, 59, 125]⟩) W :=
  ⟨by kernel_rfl, by kernel_rfl, by kernel_rfl, by kernel_rfl, by kernel_rfl⟩
theorem ext_ref : (⟨#[38, 108, 116, 59, 60]⟩ : ByteArray).extract 0 4 = ⟨#[38, 108, 116, 59]⟩ ∧ (⟨#[38, 103, 116, 59, 62]⟩ : ByteArray).extract 0 4 = ⟨#[38, 103, 116, 59]⟩ ∧ (⟨#[38, 97, 109, 112, 59, 38]⟩ : ByteArray).extract 0 5 = ⟨#[38, 97, 109, 112, 59]⟩ ∧ (⟨#[38, 108, 98, 59, 123]⟩ : ByteArray).extract 0 4 = ⟨#[38, 108, 98, 59]⟩ ∧ (⟨#[38, 114, 98, 59, 125]⟩ : ByteArray).extract 0 4 = ⟨#[38, 114, 98, 59]⟩ := ⟨by decide, by decide, by decide, by decide, by decide⟩
theorem box_set3 (w : World) (b : Nat) {a0 a1 a2 : Value} {T : TypeId} (h : w.heap[b]? = some (.cells #[a0, a1, a2] T)) (v0 v1 v2 : Value) :
    (((w.setCell ⟨b, 0, none⟩ v0).setCell ⟨b, 1, none⟩ v1).setCell ⟨b, 2, none⟩ v2).heap[b]? = some (.cells #[v0, v1, v2] T) :=
  heap_setCell_same _ _ 2 _ _ v2 (heap_setCell_same _ _ 1 _ _ v1 (heap_setCell_same _ _ 0 _ _ v0 h))
theorem box_load (W : World) (b : Nat) {v0 v1 v2 : Value} {T : TypeId} (h : W.heap[b]? = some (.cells #[v0, v1, v2] T)) : W.cell? ⟨b, 0, none⟩ = some v0 ∧ W.cell? ⟨b, 1, none⟩ = some v1 ∧ W.cell? ⟨b, 2, none⟩ = some v2 ∧ b < W.heap.size :=
  ⟨Lib.cell_of_heap h 0, Lib.cell_of_heap h 1, Lib.cell_of_heap h 2, lt_of_heap h⟩
set_option maxRecDepth 20000 in
set_option maxHeartbeats 12800000 in
theorem rmarkup_any (s : ByteArray) (w : World) (hs : s.size ≤ 4611686018427387904) (h0 : 1 ≤ s.size) :
    Calls Tryd.prog 65 #[.string s] w fun e w' => e = .returned (elV (St.markL s.data.toList)) ∧ Und w w' := by
  have hcr : s.data.toList = s[0] :: s.data.toList.drop 1 := St.list_zero s (by omega)
  have z0 : 0 < s.size := by omega
  by_cases c60 : s[0].toNat = 60
  · have hsl := St.mark_60 (r := s.data.toList.drop 1) c60
    rw [← hcr] at hsl
    have e60 : ((s[0].toNat : Int) == 60) = true := by simp; omega
    have HTG := hid (fun W => rtag_any s W hs h0)
    unfold St.inlL at hsl
    clear hcr c60
    cases hq : St.tagL s.data.toList with
    | none =>
      rw [hq] at hsl HTG
      have HSL := hid hsl
      have HTG2 : Hid (∀ W, Calls Tryd.prog 57 #[.string s] W fun e w' => e = .returned (.tuple #[.agg #[.int .i64 0, .string ⟨#[]⟩, .int .i64 0], .int .i64 0]) ∧ Und W w') := HTG
      clear hsl hq HTG
      go_enter Tryd.func65, Tryd.ntmps65
      go_wp2_with fail
      refine (HTG2.out _).mono ?_
      rintro e w2 ⟨rfl, hu⟩
      have hbr := (hu.below.block w.heap.size (by simp)).trans (heap_alloc_at w (.cells #[.int .i64 0, .string ⟨#[]⟩, .int .i64 0] 57) w.heap.size rfl)
      have r0 : w2.cell? ⟨w.heap.size, 0, none⟩ = some (.int .i64 0) := Lib.cell_of_heap hbr 0
      have r1 : w2.cell? ⟨w.heap.size, 1, none⟩ = some (.string ⟨#[]⟩) := Lib.cell_of_heap hbr 1
      have r2 : w2.cell? ⟨w.heap.size, 2, none⟩ = some (.int .i64 0) := Lib.cell_of_heap hbr 2
      have p0 : w2.frozen? ⟨w.heap.size, 0, none⟩ = false := Lib.frozen_of_heap hbr 0
      have p1 : w2.frozen? ⟨w.heap.size, 1, none⟩ = false := Lib.frozen_of_heap hbr 1
      have p2 : w2.frozen? ⟨w.heap.size, 2, none⟩ = false := Lib.frozen_of_heap hbr 2
      haveI : LtW w.heap.size w2 := LtW.of (lt_of_heap hbr)
      have HU := hid (((Und.refl w).alloc _).trans hu)
      have HB := hid (box_set3 w2 w.heap.size hbr (.int .i64 0) (.string ⟨#[]⟩) (.int .i64 0))
      clear hu hbr
      go_wp2
      have hU4 := ((HU.out.setCell (p := ⟨w.heap.size, 0, none⟩) (Nat.le_refl _) (.int .i64 0)).setCell (p := ⟨w.heap.size, 1, none⟩) (Nat.le_refl _) (.string ⟨#[]⟩)).setCell (p := ⟨w.heap.size, 2, none⟩) (Nat.le_refl _) (.int .i64 0)
      obtain ⟨f0, f1, f2, f3⟩ := box_load _ _ HB.out
      generalize ((w2.setCell ⟨w.heap.size, 0, none⟩ (.int .i64 0)).setCell ⟨w.heap.size, 1, none⟩ (.string ⟨#[]⟩)).setCell ⟨w.heap.size, 2, none⟩ (.int .i64 0) = W5 at *
      haveI : LtW w.heap.size W5 := LtW.of f3
      refine bodyPost_ret (v := elV none) (by simp [results, Tryd.results65, go_sem, elV, f0, f1, f2]) rfl ⟨?_, hU4.trans (by repeat (first | exact Und.refl _ | assumption | refine Und.under ?_ _ | refine Und.alloc ?_ _ | refine Und.drew ?_ | refine Und.drewN ?_ _))⟩
      rw [HSL.out]
    | some q =>
      obtain ⟨k, t, n⟩ := q
      rw [hq] at hsl HTG
      simp only at hsl
      have hnn : 2 ≤ n := (St.tag_len hq).2.1
      have htl : t.length ≤ 4611686018427387904 := by
        have := St.tag_len hq
        rw [St.len_list] at this
        omega
      obtain ⟨tb, htb⟩ : ∃ tb : ByteArray, (⟨t.toArray⟩ : ByteArray) = tb := ⟨_, rfl⟩
      obtain ⟨nb, hnb⟩ : ∃ nb : ByteArray, (⟨(St.nameOf t).toArray⟩ : ByteArray) = nb := ⟨_, rfl⟩
      have htbl : tb.data.toList = t := by rw [← htb]
      have HNM := hid (fun W => rname_u t W htl)
      have HTG2 : Hid (∀ W, Calls Tryd.prog 57 #[.string s] W fun e w' => e = .returned (.tuple #[.agg #[.int .i64 k, .string ⟨t.toArray⟩, .int .i64 0], .int .i64 n]) ∧ Und W w') := HTG
      have hib := fun W => block_any ⟨(St.nameOf t).toArray⟩ W
      have zn : ((n : Int) == 0) = false := by simp; omega
      cases hb : St.blockL (St.nameOf t)
      all_goals
        rw [hb] at hsl
        rw [show St.blockL (⟨(St.nameOf t).toArray⟩ : ByteArray).data.toList = _ from hb] at hib
        have HIB := hid hib
        have HSL := hid hsl
        rw [htb] at HTG2
        rw [htb, hnb] at HNM
        rw [hnb] at HIB
        clear hsl hq hb hnb htb hib HTG
        go_enter Tryd.func65, Tryd.ntmps65
        go_wp2_with fail
        refine (HTG2.out _).mono ?_
        rintro e w2 ⟨rfl, hu⟩
        have HU := hid hu
        clear hu
        go_wp2_with fail
        refine (HNM.out _).mono ?_
        rintro e w3 ⟨rfl, hu3⟩
        have hbx := (hu3.below.block w2.heap.size (by simp)).trans (heap_alloc_at w2 (.cells #[.int .i64 k, .string tb, .int .i64 0] 57) w2.heap.size rfl)
        have x0 : w3.cell? ⟨w2.heap.size, 0, none⟩ = some (.int .i64 k) := Lib.cell_of_heap hbx 0
        have x1 : w3.cell? ⟨w2.heap.size, 1, none⟩ = some (.string tb) := Lib.cell_of_heap hbx 1
        have x2 : w3.cell? ⟨w2.heap.size, 2, none⟩ = some (.int .i64 0) := Lib.cell_of_heap hbx 2
        have hu0 : Und (w.alloc (.cells #[.int .i64 0, .string ⟨#[]⟩, .int .i64 0] 57)) w3 := HU.out.trans (Und.trans ((by repeat (first | exact Und.refl _ | assumption | refine Und.under ?_ _ | refine Und.alloc ?_ _ | refine Und.drew ?_ | refine Und.drewN ?_ _))) hu3)
        have hbr := (hu0.below.block w.heap.size (by simp)).trans (heap_alloc_at w (.cells #[.int .i64 0, .string ⟨#[]⟩, .int .i64 0] 57) w.heap.size rfl)
        have r0 : w3.cell? ⟨w.heap.size, 0, none⟩ = some (.int .i64 0) := Lib.cell_of_heap hbr 0
        have r1 : w3.cell? ⟨w.heap.size, 1, none⟩ = some (.string ⟨#[]⟩) := Lib.cell_of_heap hbr 1
        have r2 : w3.cell? ⟨w.heap.size, 2, none⟩ = some (.int .i64 0) := Lib.cell_of_heap hbr 2
        have p0 : w3.frozen? ⟨w.heap.size, 0, none⟩ = false := Lib.frozen_of_heap hbr 0
        have p1 : w3.frozen? ⟨w.heap.size, 1, none⟩ = false := Lib.frozen_of_heap hbr 1
        have p2 : w3.frozen? ⟨w.heap.size, 2, none⟩ = false := Lib.frozen_of_heap hbr 2
        haveI : LtW w2.heap.size w3 := LtW.of (lt_of_heap hbx)
        haveI : LtW w.heap.size w3 := LtW.of (lt_of_heap hbr)
        have HU3 := hid (((Und.refl w).alloc _).trans hu0)
        have HBR := hid hbr
        clear hu3 hbx hbr hu0 HU
        go_wp2_with fail
        refine (HIB.out _).mono ?_
        rintro e w4 ⟨rfl, rfl⟩
        go_wp2
      · have hU4 := ((HU3.out.setCell (p := ⟨w.heap.size, 0, none⟩) (Nat.le_refl _) (.int .i64 k)).setCell (p := ⟨w.heap.size, 1, none⟩) (Nat.le_refl _) (.string tb)).setCell (p := ⟨w.heap.size, 2, none⟩) (Nat.le_refl _) (.int .i64 0)
        obtain ⟨f0, f1, f2, f3⟩ := box_load _ _ (box_set3 w3 w.heap.size HBR.out (.int .i64 k) (.string tb) (.int .i64 0))
        generalize ((w3.setCell ⟨w.heap.size, 0, none⟩ (.int .i64 k)).setCell ⟨w.heap.size, 1, none⟩ (.string tb)).setCell ⟨w.heap.size, 2, none⟩ (.int .i64 0) = W5 at *
        haveI : LtW w.heap.size W5 := LtW.of f3
        refine bodyPost_ret (v := .tuple #[.agg #[.int .i64 k, .string tb, .int .i64 0], .int .i64 n]) (by simp [results, Tryd.results65, go_sem, f0, f1, f2]) rfl ⟨?_, hU4.trans (by repeat (first | exact Und.refl _ | assumption | refine Und.under ?_ _ | refine Und.alloc ?_ _ | refine Und.drew ?_ | refine Und.drewN ?_ _))⟩
        rw [HSL.out]
        simp only [Bool.false_eq_true, if_false, elV, itv, ← htbl, ba_eta]
      · have hU4 := ((HU3.out.setCell (p := ⟨w.heap.size, 0, none⟩) (Nat.le_refl _) (.int .i64 0)).setCell (p := ⟨w.heap.size, 1, none⟩) (Nat.le_refl _) (.string ⟨#[]⟩)).setCell (p := ⟨w.heap.size, 2, none⟩) (Nat.le_refl _) (.int .i64 0)
        obtain ⟨f0, f1, f2, f3⟩ := box_load _ _ (box_set3 w3 w.heap.size HBR.out (.int .i64 0) (.string ⟨#[]⟩) (.int .i64 0))
        generalize ((w3.setCell ⟨w.heap.size, 0, none⟩ (.int .i64 0)).setCell ⟨w.heap.size, 1, none⟩ (.string ⟨#[]⟩)).setCell ⟨w.heap.size, 2, none⟩ (.int .i64 0) = W5 at *
        haveI : LtW w.heap.size W5 := LtW.of f3
        refine bodyPost_ret (v := elV none) (by simp [results, Tryd.results65, go_sem, elV, f0, f1, f2]) rfl ⟨?_, hU4.trans (by repeat (first | exact Und.refl _ | assumption | refine Und.under ?_ _ | refine Und.alloc ?_ _ | refine Und.drew ?_ | refine Und.drewN ?_ _))⟩
        rw [HSL.out]; rfl
  have e60 : ((s[0].toNat : Int) == 60) = false := by simp; omega
  by_cases c38 : s[0].toNat = 38
  · have hsl := St.mark_38 (r := s.data.toList.drop 1) c38
    rw [← hcr] at hsl
    have e38 : ((s[0].toNat : Int) == 38) = true := by simp; omega
    have h1 := fun W => begins_any s ⟨#[38, 108, 116, 59]⟩ W (by omega) (by show 4 ≤ _; omega)
    have h2 := fun W => begins_any s ⟨#[38, 103, 116, 59]⟩ W (by omega) (by show 4 ≤ _; omega)
    have h3 := fun W => begins_any s ⟨#[38, 97, 109, 112, 59]⟩ W (by omega) (by show 5 ≤ _; omega)
    have h4 := fun W => begins_any s ⟨#[38, 108, 98, 59]⟩ W (by omega) (by show 4 ≤ _; omega)
    have h5 := fun W => begins_any s ⟨#[38, 114, 98, 59]⟩ W (by omega) (by show 4 ≤ _; omega)
    have hv : St.refL s.data.toList = if preB ⟨#[38, 108, 116, 59]⟩ s then some (1, [60], 4) else if preB ⟨#[38, 103, 116, 59]⟩ s then some (1, [62], 4) else if preB ⟨#[38, 97, 109, 112, 59]⟩ s then some (1, [38], 5) else if preB ⟨#[38, 108, 98, 59]⟩ s then some (1, [123], 4) else if preB ⟨#[38, 114, 98, 59]⟩ s then some (1, [125], 4) else none := rfl
    rw [hv] at hsl
    have i0 := fun W => (rx_ix W).1
    have i1 := fun W => (rx_ix W).2.1
    have i2 := fun W => (rx_ix W).2.2.1
    have i3 := fun W => (rx_ix W).2.2.2.1
    have i4 := fun W => (rx_ix W).2.2.2.2
    obtain ⟨x1, x2, x3, x4, x5⟩ := ext_ref
    generalize preB ⟨#[38, 108, 116, 59]⟩ s = b1 at h1 hsl
    generalize preB ⟨#[38, 103, 116, 59]⟩ s = b2 at h2 hsl
    generalize preB ⟨#[38, 97, 109, 112, 59]⟩ s = b3 at h3 hsl
    generalize preB ⟨#[38, 108, 98, 59]⟩ s = b4 at h4 hsl
    generalize preB ⟨#[38, 114, 98, 59]⟩ s = b5 at h5 hsl
    have HSL := hid hsl
    have H1 := hid h1
    have H2 := hid h2
    have H3 := hid h3
    have H4 := hid h4
    have H5 := hid h5
    clear hv h1 h2 h3 h4 h5 hsl hcr c60 c38
    -- BEGIN LOOP
    cases b1
    rotate_left 1
    · go_enter Tryd.func65, Tryd.ntmps65
      go_wp2_with fail
      refine wp_loop_rounds 6 ?_
      rw [rounds_succ]
      go_wp2_with fail
      refine (H1.out _).mono ?_
      rintro e w' ⟨rfl, rfl⟩
      go_wp2_with fail
      refine (text_at 60 60 rfl _).mono ?_
      rintro e w2 ⟨rfl, X, rfl⟩
      go_wp2
      refine bodyPost_ret (v := elV (some (1, [60], 4))) (by simp [results, Tryd.results65, go_sem, elV, itv]) rfl ⟨?_, (by repeat (first | exact Und.refl _ | assumption | refine Und.under ?_ _ | refine Und.alloc ?_ _ | refine Und.drew ?_ | refine Und.drewN ?_ _))⟩
      rw [HSL.out]; rfl
    cases b2
    rotate_left 1
    · go_enter Tryd.func65, Tryd.ntmps65
      go_wp2_with fail
      refine wp_loop_rounds 6 ?_
      rw [rounds_succ]
      go_wp2_with fail
      refine (H1.out _).mono ?_
      rintro e w' ⟨rfl, rfl⟩
      go_wp2_with fail
      rw [rounds_succ]
      go_wp2_with fail
      refine (H2.out _).mono ?_
      rintro e w' ⟨rfl, rfl⟩
      go_wp2_with fail
      refine (text_at 62 62 rfl _).mono ?_
      rintro e w2 ⟨rfl, X, rfl⟩
      go_wp2
      refine bodyPost_ret (v := elV (some (1, [62], 4))) (by simp [results, Tryd.results65, go_sem, elV, itv]) rfl ⟨?_, (by repeat (first | exact Und.refl _ | assumption | refine Und.under ?_ _ | refine Und.alloc ?_ _ | refine Und.drew ?_ | refine Und.drewN ?_ _))⟩
      rw [HSL.out]; rfl
    cases b3
    rotate_left 1
    · go_enter Tryd.func65, Tryd.ntmps65
      go_wp2_with fail
      refine wp_loop_rounds 6 ?_
      rw [rounds_succ]
      go_wp2_with fail
      refine (H1.out _).mono ?_
      rintro e w' ⟨rfl, rfl⟩
      go_wp2_with fail
      rw [rounds_succ]
      go_wp2_with fail
      refine (H2.out _).mono ?_
      rintro e w' ⟨rfl, rfl⟩
      go_wp2_with fail
      rw [rounds_succ]
      go_wp2_with fail
      refine (H3.out _).mono ?_
      rintro e w' ⟨rfl, rfl⟩
      go_wp2_with fail
      refine (text_at 38 38 rfl _).mono ?_
      rintro e w2 ⟨rfl, X, rfl⟩
      go_wp2
      refine bodyPost_ret (v := elV (some (1, [38], 5))) (by simp [results, Tryd.results65, go_sem, elV, itv]) rfl ⟨?_, (by repeat (first | exact Und.refl _ | assumption | refine Und.under ?_ _ | refine Und.alloc ?_ _ | refine Und.drew ?_ | refine Und.drewN ?_ _))⟩
      rw [HSL.out]; rfl
    cases b4
    rotate_left 1
    · go_enter Tryd.func65, Tryd.ntmps65
      go_wp2_with fail
      refine wp_loop_rounds 6 ?_
      rw [rounds_succ]
      go_wp2_with fail
      refine (H1.out _).mono ?_
      rintro e w' ⟨rfl, rfl⟩
      go_wp2_with fail
      rw [rounds_succ]
      go_wp2_with fail
      refine (H2.out _).mono ?_
      rintro e w' ⟨rfl, rfl⟩
      go_wp2_with fail
      rw [rounds_succ]
      go_wp2_with fail
      refine (H3.out _).mono ?_
      rintro e w' ⟨rfl, rfl⟩
      go_wp2_with fail
      rw [rounds_succ]
      go_wp2_with fail
      refine (H4.out _).mono ?_
      rintro e w' ⟨rfl, rfl⟩
      go_wp2_with fail
      refine (text_at 123 123 rfl _).mono ?_
      rintro e w2 ⟨rfl, X, rfl⟩
      go_wp2
      refine bodyPost_ret (v := elV (some (1, [123], 4))) (by simp [results, Tryd.results65, go_sem, elV, itv]) rfl ⟨?_, (by repeat (first | exact Und.refl _ | assumption | refine Und.under ?_ _ | refine Und.alloc ?_ _ | refine Und.drew ?_ | refine Und.drewN ?_ _))⟩
      rw [HSL.out]; rfl
    cases b5
    rotate_left 1
    · go_enter Tryd.func65, Tryd.ntmps65
      go_wp2_with fail
      refine wp_loop_rounds 6 ?_
      rw [rounds_succ]
      go_wp2_with fail
      refine (H1.out _).mono ?_
      rintro e w' ⟨rfl, rfl⟩
      go_wp2_with fail
      rw [rounds_succ]
      go_wp2_with fail
      refine (H2.out _).mono ?_
      rintro e w' ⟨rfl, rfl⟩
      go_wp2_with fail
      rw [rounds_succ]
      go_wp2_with fail
      refine (H3.out _).mono ?_
      rintro e w' ⟨rfl, rfl⟩
      go_wp2_with fail
      rw [rounds_succ]
      go_wp2_with fail
      refine (H4.out _).mono ?_
      rintro e w' ⟨rfl, rfl⟩
      go_wp2_with fail
      rw [rounds_succ]
      go_wp2_with fail
      refine (H5.out _).mono ?_
      rintro e w' ⟨rfl, rfl⟩
      go_wp2_with fail
      refine (text_at 125 125 rfl _).mono ?_
      rintro e w2 ⟨rfl, X, rfl⟩
      go_wp2
      refine bodyPost_ret (v := elV (some (1, [125], 4))) (by simp [results, Tryd.results65, go_sem, elV, itv]) rfl ⟨?_, (by repeat (first | exact Und.refl _ | assumption | refine Und.under ?_ _ | refine Und.alloc ?_ _ | refine Und.drew ?_ | refine Und.drewN ?_ _))⟩
      rw [HSL.out]; rfl
    go_enter Tryd.func65, Tryd.ntmps65
    go_wp2_with fail
    refine wp_loop_rounds 6 ?_
    rw [rounds_succ]
    go_wp2_with fail
    refine (H1.out _).mono ?_
    rintro e w' ⟨rfl, rfl⟩
    go_wp2_with fail
    rw [rounds_succ]
    go_wp2_with fail
    refine (H2.out _).mono ?_
    rintro e w' ⟨rfl, rfl⟩
    go_wp2_with fail
    rw [rounds_succ]
    go_wp2_with fail
    refine (H3.out _).mono ?_
    rintro e w' ⟨rfl, rfl⟩
    go_wp2_with fail
    rw [rounds_succ]
    go_wp2_with fail
    refine (H4.out _).mono ?_
    rintro e w' ⟨rfl, rfl⟩
    go_wp2_with fail
    rw [rounds_succ]
    go_wp2_with fail
    refine (H5.out _).mono ?_
    rintro e w' ⟨rfl, rfl⟩
    go_wp2_with fail
    rw [rounds_succ]
    go_wp2
    refine bodyPost_ret (v := elV none) (by simp [results, Tryd.results65, go_sem, elV]) rfl ⟨?_, (by repeat (first | exact Und.refl _ | assumption | refine Und.under ?_ _ | refine Und.alloc ?_ _ | refine Und.drew ?_ | refine Und.drewN ?_ _))⟩
    rw [HSL.out]; rfl
    -- END LOOP
  have e38 : ((s[0].toNat : Int) == 38) = false := by simp; omega
  by_cases c123 : s[0].toNat = 123
  · have hsl := St.mark_123 (r := s.data.toList.drop 1) c123
    rw [← hcr] at hsl
    have e123 : ((s[0].toNat : Int) == 123) = true := by simp; omega
    have HSL := hid hsl
    have hslot := fun W => slot_any s W hs h0
    obtain ⟨k, x, m, hv⟩ := elV_form ((St.slotL s.data.toList).map fun x => ((5 : Int), x.1, x.2))
    have HV := hid hv
    rw [hv] at hslot
    have HS := hid hslot
    clear hsl hcr hslot hv c60 c38 c123
    go_enter Tryd.func65, Tryd.ntmps65
    go_wp2_with (go_at_call 93; refine (HS.out _).mono ?_; rintro e w' ⟨rfl, X, rfl⟩)
    refine bodyPost_ret (v := .tuple #[.agg #[.int .i64 k, .string x, .int .i64 0], .int .i64 m]) (by simp [results, Tryd.results65, go_sem]) rfl ⟨?_, (by repeat (first | exact Und.refl _ | assumption | refine Und.under ?_ _ | refine Und.alloc ?_ _ | refine Und.drew ?_ | refine Und.drewN ?_ _))⟩
    rw [HSL.out, HV.out]
  · have e123 : ((s[0].toNat : Int) == 123) = false := by simp; omega
    have hsl := St.mark_else (r := s.data.toList.drop 1) c60 c38 c123
    rw [← hcr] at hsl
    have htx := hid (fun W => text_at s[0] (s[0].toNat : Int) rfl W)
    have HSL := hid hsl
    clear hsl hcr c60 c38 c123
    go_enter Tryd.func65, Tryd.ntmps65
    go_wp2_with (go_at_call 92; refine (htx.out _).mono ?_; rintro e w' ⟨rfl, X, rfl⟩)
    refine bodyPost_ret (v := elV (some (1, [s[0]], 1))) (by simp [results, Tryd.results65, go_sem, elV, itv]) rfl ⟨?_, (by repeat (first | exact Und.refl _ | assumption | refine Und.under ?_ _ | refine Und.alloc ?_ _ | refine Und.drew ?_ | refine Und.drewN ?_ _))⟩
    rw [HSL.out]
theorem mark_okT : ElOkT St.markL := by
  intro l k t n h
  obtain ⟨hk, h1, h2, h3⟩ := St.mark_len h
  exact ⟨by omega, h1, h2, h3⟩
set_option maxHeartbeats 3200000 in
theorem mark_at : ElAt 1 St.markL := by
  intro s w hs h0
  obtain ⟨k, x, m, hv⟩ := elV_form (St.markL s.data.toList)
  have hsh := fun W => rmarkup_any s W hs h0
  rw [hv] at hsh
  have HS := hid hsh
  have HV := hid hv
  clear hsh hv
  go_enter Tryd.func38, Tryd.ntmps38
  go_wp2_with (go_at_call 65; refine (HS.out _).mono ?_; rintro e w' ⟨rfl, X, rfl⟩)
  refine bodyPost_ret (v := .tuple #[.agg #[.int .i64 k, .string x, .int .i64 0], .int .i64 m]) (by simp [results, Tryd.results38, go_sem]) rfl ⟨?_, (by repeat (first | exact Und.refl _ | assumption | refine Und.under ?_ _ | refine Und.alloc ?_ _ | refine Und.drew ?_ | refine Und.drewN ?_ _))⟩
  rw [HV.out]
end Go.Proofs.YtiifjfbfkhhpeaaDoor

namespace Go.Proofs.YtiifjfbfkhhpeaaDoor
open Go.RowKit

open Mk in
/-- A raw content of pieces is read to its items. -/
theorem mk_reads {f : List St.It} {raw : ByteArray} (hg : St.GoodT f) (hl : f.length ≤ 100) (ht : tot f ≤ 900) (hr : RawsT f raw) : ∃ cuts, Mk.mkD raw = (f, cuts, 0, 0) ∧ cuts.length = St.lenL f + 1 := by
  obtain ⟨ps, h1, h2, h3⟩ := hr
  have hll := lenL_tot f
  have hlen : ps.length = St.lenL f := by rw [← its_len, h2, St.pos_len]
  refine ⟨St.offs 0 0 ps ++ [(St.flatP ps).length], ?_, by simp [St.offs_len, hlen]⟩
  rw [Mk.mkD_F, h1]
  exact St.read_whole hg (by omega) (by omega) h2 h3

set_option maxRecDepth 20000 in
set_option maxHeartbeats 6400000 in
theorem readslaw_any (A B : Option Addr) (n c m d : Nat) (zs ys : List Int) (w : World) (hL : Mk.LibAt w) (hz : zs.length = n) (hn : n ≤ 9223372036854775807) (hI : IntsAt w A zs) (hy : ys.length = m) (hm : m ≤ 9223372036854775807) (hJ : IntsAt w B ys) :
    Calls Tryd.prog 3 #[.slice A n c, .slice B m d] w fun e w' => e = .returned (.bool true) ∧ Und w w' := by
  have HRW := hid (raws_any A B n c m d zs ys w hz hn hI hy hm hJ)
  have HKN := hid (fun W (hW : Und w W) => Mk.known_any W (hL.und hW))
  clear hI hJ hL
  by_cases q1 : 100 < n
  · have z1 : (100 : Int) < (n : Int) := by omega
    go_enter Tryd.func3, Tryd.ntmps3
    go_wp2_with fail
    refine (HKN.out _ (Und.refl _)).mono ?_
    rintro e w2 ⟨rfl, hu⟩
    have HU := hid hu
    clear hu
    go_wp2
    go_ret
    exact ⟨rfl, HU.out⟩
  · have z1 : ¬ (100 : Int) < (n : Int) := by omega
    by_cases q2 : 200 < m
    · have z2 : (200 : Int) < (m : Int) := by omega
      go_enter Tryd.func3, Tryd.ntmps3
      go_wp2_with fail
      refine (HKN.out _ (Und.refl _)).mono ?_
      rintro e w2 ⟨rfl, hu⟩
      have HU := hid hu
      clear hu
      go_wp2
      go_ret
      exact ⟨rfl, HU.out⟩
    · have z2 : ¬ (200 : Int) < (m : Int) := by omega
      go_enter Tryd.func3, Tryd.ntmps3
      go_wp2_with fail
      refine HRW.out.mono ?_
      rintro e w2 ⟨raw, A2, c2, f, rfl, hF, hR, hrs, hu⟩
      obtain ⟨cuts, hD, _⟩ := mk_reads hF.2.1.1 (by have := hF.2.2.1; omega) (by have := hF.2.2.2.1; omega) hR
      have hdc := fun W => Mk.mdecode_any raw W (by omega)
      rw [hD] at hdc
      have HDC := hid hdc
      have HF := hid hF
      have HU := hid hu
      clear hF hR hu hD hdc HRW
      go_wp2_with fail
      refine (HDC.out _).mono ?_
      rintro e w3 ⟨A3, c3, rfl, hI3, h31, h32, hu3⟩
      have hs := fun W (hW : Und w3 W) => rsame_any A3 A2 f.length f.length c3 c2 f f W rfl rfl h31 HF.out.2.2.2.2.1 h32 HF.out.2.2.2.2.2.1 (hI3.und hW) ((HF.out.1.und hu3).und hW)
      rw [decide_eq_true rfl] at hs
      have HS := hid hs
      have HU3 := hid (HU.out.trans hu3)
      clear hs hI3 hu3 HDC HU
      simp only
      go_wp2_with fail
      refine (HS.out _ (Und.refl _)).mono ?_
      rintro e w4 ⟨rfl, hu4⟩
      have HU4 := hid (HU3.out.trans hu4)
      clear hu4 HS HU3
      go_wp2_with fail
      refine (HKN.out _ HU4.out).mono ?_
      rintro e w5 ⟨rfl, hu5⟩
      have HU5 := hid (HU4.out.trans hu5)
      clear hu5
      go_wp2
      go_ret
      exact ⟨rfl, HU5.out⟩

theorem ix3 (a b c : ByteArray) (W : World) : (Instr.index 37 (.agg #[.string a, .string b, .string c]) (.int .i64 0)).run Tryd.prog W = .ok (.string a) W ∧ (Instr.index 37 (.agg #[.string a, .string b, .string c]) (.int .i64 1)).run Tryd.prog W = .ok (.string b) W ∧ (Instr.index 37 (.agg #[.string a, .string b, .string c]) (.int .i64 2)).run Tryd.prog W = .ok (.string c) W := by
  exact ⟨by kernel_rfl, by kernel_rfl, by kernel_rfl⟩
def ByRel (w : World) (i : Value) (wr : World) : Prop := ∃ k : Nat, k ≤ 3 ∧ i = .int .i64 k ∧ Und w wr
set_option maxRecDepth 20000 in
set_option maxHeartbeats 12800000 in
theorem dcdlaw_any (s : ByteArray) (at' by' : Int) (A B : Option Addr) (n c m d : Nat) (zs ys : List Int) (w : World) (hL : Mk.LibAt w) (hs : s.size ≤ 9223372036854775807) (hz : zs.length = n) (hn : n ≤ 9223372036854775807) (hI : IntsAt w A zs) (hy : ys.length = m) (hm : m ≤ 9223372036854775807) (hJ : IntsAt w B ys) :
    Calls Tryd.prog 7 #[.string s, .slice A n c, .slice B m d, .int .i64 at', .int .u8 by'] w fun e w' => e = .returned (.bool true) ∧ Und w w' := by
  have HRW := hid (raws_any A B n c m d zs ys w hz hn hI hy hm hJ)
  have HKN := hid (fun W (hW : Und w W) => Mk.known_any W (hL.und hW))
  clear hI hJ hL
  by_cases q0 : 300 < s.size
  · have z0 : (300 : Int) < (s.size : Int) := by omega
    go_enter Tryd.func7, Tryd.ntmps7
    go_wp2_with fail
    refine (HKN.out _ (Und.refl _)).mono ?_
    rintro e w2 ⟨rfl, hu⟩
    have HU := hid hu
    clear hu
    go_wp2
    go_ret
    exact ⟨rfl, HU.out⟩
  have z0 : ¬ (300 : Int) < (s.size : Int) := by omega
  by_cases q1 : 80 < n
  · have z1 : (80 : Int) < (n : Int) := by omega
    go_enter Tryd.func7, Tryd.ntmps7
    go_wp2_with fail
    refine (HKN.out _ (Und.refl _)).mono ?_
    rintro e w2 ⟨rfl, hu⟩
    have HU := hid hu
    clear hu
    go_wp2
    go_ret
    exact ⟨rfl, HU.out⟩
  have z1 : ¬ (80 : Int) < (n : Int) := by omega
  by_cases q2 : 200 < m
  · have z2 : (200 : Int) < (m : Int) := by omega
    go_enter Tryd.func7, Tryd.ntmps7
    go_wp2_with fail
    refine (HKN.out _ (Und.refl _)).mono ?_
    rintro e w2 ⟨rfl, hu⟩
    have HU := hid hu
    clear hu
    go_wp2
    go_ret
    exact ⟨rfl, HU.out⟩
  have z2 : ¬ (200 : Int) < (m : Int) := by omega
  go_enter Tryd.func7, Tryd.ntmps7
  go_wp2_with fail
  refine HRW.out.mono ?_
  rintro e w2 ⟨raw, A2, c2, f, rfl, hF, hR, hrs, hu⟩
  have HU := hid hu
  clear hF hR hu HRW
  go_wp2_with fail
  refine (changed_any raw at' by' w2 (by omega)).mono ?_
  rintro e w3 ⟨u, rfl, hus, hu3⟩
  have HU3 := hid (HU.out.trans hu3)
  clear hu3 HU
  go_wp2_with fail
  go_loopw [51] (fun i wr => ByRel w i wr) (fun i _ => 4 - (intOf i).toNat)
  case atStart => exact ⟨0, by omega, rfl, HU3.out⟩
  case round =>
    obtain ⟨k, hk, rfl, hu⟩ := hrel
    have HU := hid hu
    clear hu HU3
    obtain ⟨ia, ib, ic⟩ := ix3 s raw u wr
    rcases (show k = 0 ∨ k = 1 ∨ k = 2 ∨ k = 3 by omega) with rfl | rfl | rfl | rfl
    · have hx : s.size ≤ 10000 := by omega
      have HDC := hid (fun W => Mk.mdecode_any s W (by omega))
      have HCU := hid (fun W => Mk.mcuts_any s W (by omega))
      have HRD := hid (fun W => rdecT_any 1 St.markL mark_at mark_okT s W (by omega))
      have hq : St.decT St.markL s.size s.data.toList 0 0 [] [] [] 0 = Mk.mkD s := rfl
      rw [hq] at HRD
      clear hq
      generalize Mk.mkD s = R at HDC HCU HRD
      obtain ⟨f1, cu1, at1, er1⟩ := R
      go_wp2_with fail
      refine (HDC.out _).mono ?_
      rintro e w4 ⟨A3, c3, rfl, hI3, h31, h32, hu4⟩
      have HI3 := hid hI3
      have HU4 := hid (HU.out.trans hu4)
      clear hI3 hu4 HDC HU
      go_wp2_with fail
      refine (HCU.out _).mono ?_
      rintro e w5 ⟨A4, c4, rfl, hI4, h41, h42, hu5⟩
      have HI4 := hid hI4
      have HI3' := hid (HI3.out.und hu5)
      have HU5 := hid (HU4.out.trans hu5)
      clear hI4 hu5 HCU HU4 HI3
      go_wp2_with fail
      refine (HRD.out _).mono ?_
      rintro e w6 ⟨v1, v2, rfl, ho1, ho2, hu6⟩
      simp only at ho1 ho2 HI3' HI4 h31 h41 ⊢
      obtain ⟨A5, c5, rfl, h51, h52, _⟩ := own_slice' ho1
      obtain ⟨A6, c6, rfl, h61, h62, _⟩ := own_slice' ho2
      have hs := fun W (hW : Und w6 W) => rsame_any A3 A5 f1.length f1.length c3 c5 f1 f1 W rfl rfl h31 h51 h32 (by unfold maxLen at h52; omega) ((HI3'.out.und hu6).und hW) ((items_own ho1 rfl).und hW)
      rw [decide_eq_true rfl] at hs
      have hs2 := fun W (hW : Und w6 W) => sameInts_any A4 A6 cu1.length cu1.length c4 c6 cu1 cu1 W rfl rfl h41 h61 h42 (by unfold maxLen at h62; omega) ((HI4.out.und hu6).und hW) ((nats_own ho2 rfl).und hW)
      rw [decide_eq_true rfl] at hs2
      have HS := hid hs
      have HS2 := hid hs2
      have HU6 := hid (HU5.out.trans hu6)
      have v1 : (er1 == er1) = true := beq_self_eq_true _
      have v2 : ((at1 : Int) == (at1 : Int)) = true := beq_self_eq_true _
      clear hs hs2 ho1 ho2 hu6 HRD HU5 HI3' HI4
      go_wp2_with fail
      refine (HS.out _ (Und.refl _)).mono ?_
      rintro e w7 ⟨rfl, hu7⟩
      have HS3 := hid (HS2.out _ hu7)
      have HU7 := hid (HU6.out.trans hu7)
      clear hu7 HS HS2 HU6
      go_wp2_with fail
      refine HS3.out.mono ?_
      rintro e w8 ⟨rfl, hu8⟩
      have HU8 := hid (HU7.out.trans hu8)
      clear hu8 HS3 HU7
      go_wp2
      exact ⟨⟨1, by omega, rfl, HU8.out⟩, by simp [intOf]⟩
    · have hx : raw.size ≤ 10000 := by omega
      have HDC := hid (fun W => Mk.mdecode_any raw W (by omega))
      have HCU := hid (fun W => Mk.mcuts_any raw W (by omega))
      have HRD := hid (fun W => rdecT_any 1 St.markL mark_at mark_okT raw W (by omega))
      have hq : St.decT St.markL raw.size raw.data.toList 0 0 [] [] [] 0 = Mk.mkD raw := rfl
      rw [hq] at HRD
      clear hq
      generalize Mk.mkD raw = R at HDC HCU HRD
      obtain ⟨f1, cu1, at1, er1⟩ := R
      go_wp2_with fail
      refine (HDC.out _).mono ?_
      rintro e w4 ⟨A3, c3, rfl, hI3, h31, h32, hu4⟩
      have HI3 := hid hI3
      have HU4 := hid (HU.out.trans hu4)
      clear hI3 hu4 HDC HU
      go_wp2_with fail
      refine (HCU.out _).mono ?_
      rintro e w5 ⟨A4, c4, rfl, hI4, h41, h42, hu5⟩
      have HI4 := hid hI4
      have HI3' := hid (HI3.out.und hu5)
      have HU5 := hid (HU4.out.trans hu5)
      clear hI4 hu5 HCU HU4 HI3
      go_wp2_with fail
      refine (HRD.out _).mono ?_
      rintro e w6 ⟨v1, v2, rfl, ho1, ho2, hu6⟩
      simp only at ho1 ho2 HI3' HI4 h31 h41 ⊢
      obtain ⟨A5, c5, rfl, h51, h52, _⟩ := own_slice' ho1
      obtain ⟨A6, c6, rfl, h61, h62, _⟩ := own_slice' ho2
      have hs := fun W (hW : Und w6 W) => rsame_any A3 A5 f1.length f1.length c3 c5 f1 f1 W rfl rfl h31 h51 h32 (by unfold maxLen at h52; omega) ((HI3'.out.und hu6).und hW) ((items_own ho1 rfl).und hW)
      rw [decide_eq_true rfl] at hs
      have hs2 := fun W (hW : Und w6 W) => sameInts_any A4 A6 cu1.length cu1.length c4 c6 cu1 cu1 W rfl rfl h41 h61 h42 (by unfold maxLen at h62; omega) ((HI4.out.und hu6).und hW) ((nats_own ho2 rfl).und hW)
      rw [decide_eq_true rfl] at hs2
      have HS := hid hs
      have HS2 := hid hs2
      have HU6 := hid (HU5.out.trans hu6)
      have v1 : (er1 == er1) = true := beq_self_eq_true _
      have v2 : ((at1 : Int) == (at1 : Int)) = true := beq_self_eq_true _
      clear hs hs2 ho1 ho2 hu6 HRD HU5 HI3' HI4
      go_wp2_with fail
      refine (HS.out _ (Und.refl _)).mono ?_
      rintro e w7 ⟨rfl, hu7⟩
      have HS3 := hid (HS2.out _ hu7)
      have HU7 := hid (HU6.out.trans hu7)
      clear hu7 HS HS2 HU6
      go_wp2_with fail
      refine HS3.out.mono ?_
      rintro e w8 ⟨rfl, hu8⟩
      have HU8 := hid (HU7.out.trans hu8)
      clear hu8 HS3 HU7
      go_wp2
      exact ⟨⟨2, by omega, rfl, HU8.out⟩, by simp [intOf]⟩
    · have hx : u.size ≤ 10000 := by omega
      have HDC := hid (fun W => Mk.mdecode_any u W (by omega))
      have HCU := hid (fun W => Mk.mcuts_any u W (by omega))
      have HRD := hid (fun W => rdecT_any 1 St.markL mark_at mark_okT u W (by omega))
      have hq : St.decT St.markL u.size u.data.toList 0 0 [] [] [] 0 = Mk.mkD u := rfl
      rw [hq] at HRD
      clear hq
      generalize Mk.mkD u = R at HDC HCU HRD
      obtain ⟨f1, cu1, at1, er1⟩ := R
      go_wp2_with fail
      refine (HDC.out _).mono ?_
      rintro e w4 ⟨A3, c3, rfl, hI3, h31, h32, hu4⟩
      have HI3 := hid hI3
      have HU4 := hid (HU.out.trans hu4)
      clear hI3 hu4 HDC HU
      go_wp2_with fail
      refine (HCU.out _).mono ?_
      rintro e w5 ⟨A4, c4, rfl, hI4, h41, h42, hu5⟩
      have HI4 := hid hI4
      have HI3' := hid (HI3.out.und hu5)
      have HU5 := hid (HU4.out.trans hu5)
      clear hI4 hu5 HCU HU4 HI3
      go_wp2_with fail
      refine (HRD.out _).mono ?_
      rintro e w6 ⟨v1, v2, rfl, ho1, ho2, hu6⟩
      simp only at ho1 ho2 HI3' HI4 h31 h41 ⊢
      obtain ⟨A5, c5, rfl, h51, h52, _⟩ := own_slice' ho1
      obtain ⟨A6, c6, rfl, h61, h62, _⟩ := own_slice' ho2
      have hs := fun W (hW : Und w6 W) => rsame_any A3 A5 f1.length f1.length c3 c5 f1 f1 W rfl rfl h31 h51 h32 (by unfold maxLen at h52; omega) ((HI3'.out.und hu6).und hW) ((items_own ho1 rfl).und hW)
      rw [decide_eq_true rfl] at hs
      have hs2 := fun W (hW : Und w6 W) => sameInts_any A4 A6 cu1.length cu1.length c4 c6 cu1 cu1 W rfl rfl h41 h61 h42 (by unfold maxLen at h62; omega) ((HI4.out.und hu6).und hW) ((nats_own ho2 rfl).und hW)
      rw [decide_eq_true rfl] at hs2
      have HS := hid hs
      have HS2 := hid hs2
      have HU6 := hid (HU5.out.trans hu6)
      have v1 : (er1 == er1) = true := beq_self_eq_true _
      have v2 : ((at1 : Int) == (at1 : Int)) = true := beq_self_eq_true _
      clear hs hs2 ho1 ho2 hu6 HRD HU5 HI3' HI4
      go_wp2_with fail
      refine (HS.out _ (Und.refl _)).mono ?_
      rintro e w7 ⟨rfl, hu7⟩
      have HS3 := hid (HS2.out _ hu7)
      have HU7 := hid (HU6.out.trans hu7)
      clear hu7 HS HS2 HU6
      go_wp2_with fail
      refine HS3.out.mono ?_
      rintro e w8 ⟨rfl, hu8⟩
      have HU8 := hid (HU7.out.trans hu8)
      clear hu8 HS3 HU7
      go_wp2
      exact ⟨⟨3, by omega, rfl, HU8.out⟩, by simp [intOf]⟩
    · go_wp2_with fail
      refine (HKN.out _ HU.out).mono ?_
      rintro e w5 ⟨rfl, hu5⟩
      have HU5 := hid (HU.out.trans hu5)
      clear hu5
      go_wp2
      go_ret
      exact ⟨rfl, HU5.out⟩
end Go.Proofs.YtiifjfbfkhhpeaaDoor
