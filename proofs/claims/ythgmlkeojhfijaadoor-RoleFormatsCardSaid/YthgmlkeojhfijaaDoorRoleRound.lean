/- Plain: the text of valid users is parsed to them; the made users are valid. No program in sight. -/
import Derived.Test.YthgmlkeojhfijaaDoorRoleFmt
namespace Go.Proofs.YthgmlkeojhfijaaDoor
open Go.RowKit

theorem words_docs : ∀ (ds : List Int) (a : List UInt8), (∀ c ∈ a, c.toNat ≠ 32) → (∀ d ∈ ds, 0 ≤ d ∧ d < 16) → Ln.words (a ++ fmtDocs ds) = a :: ds.map fun d => Lib.decDigits d.toNat
  | [], a, ha, _ => by simp only [fmtDocs, List.flatMap_nil, List.append_nil, List.map_nil]; exact Ln.words_none a ha
  | d :: ds, a, ha, hd => by
    have e : a ++ fmtDocs (d :: ds) = a ++ 32 :: (Lib.decDigits d.toNat ++ fmtDocs ds) := by simp [fmtDocs]
    rw [e, Ln.words_at _ _ _ ha Ln.b32, words_docs ds _ (fun c hc => ?_) (fun x hx => hd x (List.mem_cons_of_mem _ hx))]
    · rfl
    · have h16 := hd d List.mem_cons_self
      by_cases h10 : d.toNat < 10
      · rw [Ln.dec1 _ h10] at hc
        simp at hc; subst hc
        simp [UInt8.toNat_add]; omega
      · rw [Ln.dec2 _ h10 (by omega)] at hc
        simp at hc
        rcases hc with rfl | rfl <;> simp [UInt8.toNat_add] <;> omega
theorem num_dec (d : Nat) (h : d < 16) : Ln.num (Lib.decDigits d) = some d := by
  have : ∀ d, d < 16 → Ln.num (Lib.decDigits d) = some d := by
    intro d hd
    by_cases h10 : d < 10
    · rw [Ln.dec1 _ h10, Ln.num, Ln.dv1, if_pos (by unfold Ln.isD; simp [UInt8.toNat_add]; omega)]
      congr 1; simp [UInt8.toNat_add]; omega
    · rw [Ln.dec2 _ h10 (by omega), Ln.num, if_neg (by simp [UInt8.toNat_add]; omega), Ln.dv2, if_pos (by unfold Ln.isD; simp [UInt8.toNat_add]; omega), if_pos (by unfold Ln.isD; simp [UInt8.toNat_add]; omega)]
      congr 1; simp [UInt8.toNat_add]; omega
  exact this d h
theorem docs_dec : ∀ (ds : List Int), (∀ d ∈ ds, 0 ≤ d ∧ d < 16) → Ln.docs (ds.map fun d => Lib.decDigits d.toNat) = some ds
  | [], _ => rfl
  | d :: ds, h => by
    have h16 := h d List.mem_cons_self
    rw [List.map_cons, Ln.docs_some _ _ d.toNat (num_dec _ (by omega)), docs_dec ds (fun x hx => h x (List.mem_cons_of_mem _ hx))]
    simp; omega
theorem docsOk_mem {ds : List Int} (h : DocsOk ds) : ∀ d ∈ ds, 0 ≤ d ∧ d < 16 := by
  intro d hd
  obtain ⟨j, hj, rfl⟩ := List.mem_iff_getElem.1 hd
  have := h j hj
  rw [List.getD_eq_getElem?_getD, List.getElem?_eq_getElem hj] at this
  exact ⟨this.1, this.2.1⟩
theorem name_chars {l : List UInt8} (h : St.isNameL l = true) : l ≠ [] ∧ ∀ c ∈ l, c.toNat ≠ 32 ∧ c.toNat ≠ 10 := by
  cases l with
  | nil => cases h
  | cons c r =>
    simp only [St.isNameL, Bool.and_eq_true, List.all_eq_true] at h
    refine ⟨by simp, fun x hx => ?_⟩
    rcases List.mem_cons.1 hx with rfl | hx
    · have := h.2.1; simp [St.lowC] at this; omega
    · have := h.2.2 x hx; simp [St.nameC] at this; omega
theorem roleW_role (r : Int) (h1 : 1 ≤ r) (h4 : r ≤ 4) : Ln.role (roleW r) = r := by
  rcases (show r = 1 ∨ r = 2 ∨ r = 3 ∨ r = 4 by omega) with rfl | rfl | rfl | rfl <;> decide
theorem roleW_chars (r : Int) : ∀ c ∈ roleW r, c.toNat ≠ 32 ∧ c.toNat ≠ 10 := by
  unfold roleW
  split
  · decide
  · split
    · decide
    · split
      · decide
      · decide
/-- The line of a user. -/
def lineU (u : UserD) : List UInt8 := u.1.data.toList ++ 32 :: (roleW u.2.1 ++ fmtDocs u.2.2)
theorem fmtU_line (u : UserD) : fmtU u = lineU u ++ [10] := by simp [fmtU, lineU]
theorem userE_name {ns : List ByteArray} {u : UserD} (h : userE ns u.1 u.2.1 u.2.2 = 0) : St.isNameL u.1.data.toList = true := by
  unfold userE at h
  split at h
  · cases h
  · rename_i h1; simpa using h1
theorem user_line {ns : List ByteArray} {u : UserD} (h : userE ns u.1 u.2.1 u.2.2 = 0) : Ln.user (lineU u) = some u := by
  obtain ⟨_, h1, h4, _, hd⟩ := userE_good h
  obtain ⟨hne, hch⟩ := name_chars (userE_name h)
  have hdm := docsOk_mem hd
  unfold Ln.user lineU
  rw [Ln.words_at _ _ _ (fun c hc => (hch c hc).1) Ln.b32, words_docs _ _ (fun c hc => (roleW_chars _ c hc).1) hdm]
  simp only
  rw [if_neg hne, roleW_role _ h1 h4, if_neg (by omega), docs_dec _ hdm]
  simp
theorem line_chars {ns : List ByteArray} {u : UserD} (h : userE ns u.1 u.2.1 u.2.2 = 0) : ∀ c ∈ lineU u, c.toNat ≠ 10 := by
  obtain ⟨_, h1, h4, _, hd⟩ := userE_good h
  obtain ⟨hne, hch⟩ := name_chars (userE_name h)
  have hdm := docsOk_mem hd
  intro c hc
  unfold lineU at hc
  rcases List.mem_append.1 hc with hc | hc
  · exact (hch c hc).2
  · rcases List.mem_cons.1 hc with rfl | hc
    · decide
    · rcases List.mem_append.1 hc with hc | hc
      · exact (roleW_chars _ c hc).2
      · unfold fmtDocs at hc
        obtain ⟨d, hd2, hc⟩ := List.mem_flatMap.1 hc
        have h16 := hdm d hd2
        rcases List.mem_cons.1 hc with rfl | hc
        · decide
        · by_cases h10 : d.toNat < 10
          · rw [Ln.dec1 _ h10] at hc
            simp at hc; subst hc
            simp [UInt8.toNat_add]; omega
          · rw [Ln.dec2 _ h10 (by omega)] at hc
            simp at hc
            rcases hc with rfl | rfl <;> simp [UInt8.toNat_add] <;> omega
theorem parse_fmt : ∀ (us pre : List UserD), valRest (pre.map (·.1)) us = 0 → pre.length + us.length ≤ 32 → parseS (Ln.lines (fmtL us)) pre pre.length = (pre ++ us, 0, 0)
  | [], pre, _, _ => by simp [fmtL, Ln.lines, parseS]
  | u :: us, pre, h, hl => by
    unfold valRest at h
    split at h
    · rename_i h0
      have e : fmtL (u :: us) = lineU u ++ 10 :: fmtL us := by simp [fmtL, fmtU_line]
      rw [e, Ln.lines_at _ _ _ (line_chars h0) Ln.b10, parse_next (user_line h0) (by simp at hl; omega) h0]
      have := parse_fmt us (pre ++ [u]) (by simpa using h) (by simp at hl ⊢; omega)
      simp at this ⊢
      exact this
    · rename_i h0; exact absurd h h0
/-- The text of valid users is parsed to them. -/
theorem parseT_fmt {us : List UserD} (h : validE us = 0) (hs : (fmtL us).length ≤ 65536) : parseT ⟨(fmtL us).toArray⟩ = (us, 0, 0) := by
  obtain ⟨h32, _⟩ := valid_good h
  have hv : valRest [] us = 0 := by
    unfold validE at h
    split at h
    · cases h
    · exact h
  unfold parseT
  rw [if_neg (by show ¬ 65536 < (fmtL us).toArray.size; simp; omega)]
  simpa using parse_fmt us [] (by simpa using hv) (by simpa using h32)

theorem userE_ok {ns : List ByteArray} {nm : ByteArray} {r : Int} {zs : List Int} (h1 : St.isNameL nm.data.toList = true) (h2 : idxFrom nm 0 ns = -1) (h3 : 1 ≤ r) (h4 : r ≤ 4) (h5 : zs.length ≤ 3) (h6 : DocsOk zs) : userE ns nm r zs = 0 := by
  unfold userE
  rw [if_neg (by rw [h1]; simp), if_neg (by rw [h2]; omega), if_neg (by omega), if_pos h6]
theorem idx_none (x : ByteArray) : ∀ (l : List ByteArray) (k : Nat), (∀ y ∈ l, y.data.toList ≠ x.data.toList) → idxFrom x k l = -1
  | [], _, _ => rfl
  | y :: l, k, h => by
    unfold idxFrom
    rw [if_neg (by rw [Lib.toList_data, Lib.toList_data]; simpa using h y List.mem_cons_self)]
    exact idx_none x l (k + 1) (fun z hz => h z (List.mem_cons_of_mem _ hz))
theorem name_ok (k : Nat) (h : k ≤ 4) : St.isNameL (nameU k).data.toList = true := by
  rcases (show k = 0 ∨ k = 1 ∨ k = 2 ∨ k = 3 ∨ k = 4 by omega) with rfl | rfl | rfl | rfl | rfl <;> decide
theorem name_ne (k m : Nat) (h : k ≤ 4) (h2 : m ≤ 4) (hne : k ≠ m) : (nameU k).data.toList ≠ (nameU m).data.toList := by
  rcases (show k = 0 ∨ k = 1 ∨ k = 2 ∨ k = 3 ∨ k = 4 by omega) with rfl | rfl | rfl | rfl | rfl <;> rcases (show m = 0 ∨ m = 1 ∨ m = 2 ∨ m = 3 ∨ m = 4 by omega) with rfl | rfl | rfl | rfl | rfl <;> first | (exact absurd rfl hne) | decide
theorem valRest_made (i : Nat) (hi : i ≤ 4) (all : List UserD) (hl : all.length = i) (h : MadeU i all) : ∀ (n : Nat), n ≤ i → valRest ((all.take (i - n)).map (·.1)) (all.drop (i - n)) = 0
  | 0, _ => by rw [List.drop_of_length_le (by omega)]; rfl
  | n + 1, hn => by
    have hj : i - (n + 1) < all.length := by omega
    have hd : all.drop (i - (n + 1)) = all[i - (n + 1)] :: all.drop (i - n) := by rw [List.drop_eq_getElem_cons hj]; congr 2; omega
    have ht : (all.take (i - n)).map (·.1) = (all.take (i - (n + 1))).map (·.1) ++ [all[i - (n + 1)].1] := by
      rw [show i - n = i - (n + 1) + 1 by omega, List.take_add_one, List.getElem?_eq_getElem hj, List.map_append]; rfl
    obtain ⟨e1, e2, e3, e4, e5⟩ := h _ hj
    have hu : userE ((all.take (i - (n + 1))).map (·.1)) all[i - (n + 1)].1 all[i - (n + 1)].2.1 all[i - (n + 1)].2.2 = 0 := by
      refine userE_ok (by rw [e1]; exact name_ok _ (by omega)) (idx_none _ _ _ (fun y hy => ?_)) e2 e3 e4 e5
      obtain ⟨u, hu, rfl⟩ := List.mem_map.1 hy
      obtain ⟨j, hj2, rfl⟩ := List.mem_iff_getElem.1 hu
      have hj3 : j < all.length ∧ j < i - (n + 1) := by simp at hj2; omega
      rw [List.getElem_take, e1, (h j hj3.1).1]
      exact name_ne _ _ (by omega) (by omega) (by omega)
    rw [hd, valRest, if_pos hu, ← ht]
    exact valRest_made i hi all hl h n (by omega)
theorem made_valid {i : Nat} {us : List UserD} (hi : i ≤ 4) (hl : us.length = i) (h : MadeU i us) : validE us = 0 := by
  unfold validE
  rw [if_neg (by omega)]
  have := valRest_made i hi us hl h i (Nat.le_refl _)
  simpa using this
end Go.Proofs.YthgmlkeojhfijaaDoor
