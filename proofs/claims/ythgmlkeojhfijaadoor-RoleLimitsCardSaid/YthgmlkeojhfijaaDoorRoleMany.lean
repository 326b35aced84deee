/- Lists of users that a call appends to: what is known of them, and one step of a region that appends any users. Conditions: as each says. -/
import Derived.Test.YthgmlkeojhfijaaDoorRoleUsers
import Derived.Test.YthgmlkeojhfijaaDoorOpenUsers
import Derived.Laws.AppendOwnNone
namespace Go.Proofs.YthgmlkeojhfijaaDoor
open Go.RowKit

/-- Users' documents that lie in the world w0. -/
def DocsIn (w0 : World) (us : List UserD) (vs : List Value) : Prop := ∀ x ∈ us.zip vs, ∃ (D : Option Addr) (c : Nat), x.2 = .slice D x.1.2.2.length c ∧ IntsAt w0 D x.1.2.2 ∧ x.1.1.size ≤ 9223372036854775807 ∧ x.1.2.2.length ≤ 9223372036854775807
/-- Users in a row of the call's own, their documents in the world w0. -/
def OwnU (w0 w : World) (base : Nat) (v : Value) (us : List UserD) : Prop :=
  ∃ vs : List Value, vs.length = us.length ∧ w.ownsRow base 40 3 v us.length (flatU us vs) ∧ DocsIn w0 us vs
/-- Users to be appended. -/
def SrcU (w0 w : World) (A : Option Addr) (us : List UserD) : Prop :=
  us.length > 0 → ∃ (b off : Nat) (vs : List Value), A = some ⟨b, off, none⟩ ∧ vs.length = us.length ∧ (∀ (j : Nat) u, (flatU us vs)[j]? = some u → w.cell? ⟨b, off + j, none⟩ = some u) ∧ DocsIn w0 us vs

theorem flatU_append : ∀ (us : List UserD) (vs : List Value) (us2 : List UserD) (vs2 : List Value), vs.length = us.length → flatU (us ++ us2) (vs ++ vs2) = flatU us vs ++ flatU us2 vs2
  | [], [], _, _, _ => rfl
  | x :: us, y :: vs, us2, vs2, h => by simp only [List.cons_append, flatU]; rw [flatU_append us vs us2 vs2 (by simpa using h)]
theorem flatU_len : ∀ (us : List UserD) (vs : List Value), vs.length = us.length → (flatU us vs).length = us.length * 3
  | [], [], _ => rfl
  | x :: us, y :: vs, h => by simp only [flatU, List.length_cons]; rw [flatU_len us vs (by simpa using h)]; omega
theorem flatU_one {w0 : World} : ∀ (us : List UserD) (vs : List Value), vs.length = us.length → DocsIn w0 us vs → ∀ u ∈ flatU us vs, u.oneCell' = true
  | [], [], _, _, u, hu => by simp [flatU] at hu
  | x :: us, y :: vs, h, hd, u, hu => by
    simp only [flatU, List.mem_cons] at hu
    rcases hu with rfl | rfl | rfl | hu
    · rfl
    · rfl
    · obtain ⟨D, c, e, _⟩ := hd (x, u) (by simp)
      simp only at e
      subst e; rfl
    · exact flatU_one us vs (by simpa using h) (fun z hz => hd z (by simp [hz])) u hu
theorem addr_add0 (b off j : Nat) : (⟨b, off, none⟩ : Addr).add j = ⟨b, off + j, none⟩ := by unfold Addr.add; split <;> simp_all
theorem DocsIn.append {w0 : World} {us us2 : List UserD} {vs vs2 : List Value} (h : DocsIn w0 us vs) (h2 : DocsIn w0 us2 vs2) (hl : vs.length = us.length) : DocsIn w0 (us ++ us2) (vs ++ vs2) := by
  intro x hx
  rw [List.zip_append hl.symm] at hx
  rcases List.mem_append.1 hx with hx | hx
  · exact h x hx
  · exact h2 x hx
theorem SrcU.und {w0 w w' : World} {A : Option Addr} {us : List UserD} (h : SrcU w0 w A us) (u : Und w w') : SrcU w0 w' A us := by
  intro h0
  obtain ⟨b, off, vs, e, l, hc, hd⟩ := h h0
  refine ⟨b, off, vs, e, l, fun j x hx => ?_, hd⟩
  rw [u.cell (World.block_lt_of_cell? _ _ (hc j x hx))]; exact hc j x hx
/-- Users that lie in a world may be appended. -/
theorem UsersAt.src {w : World} {A : Option Addr} {us : List UserD} (h : UsersAt w A us) : SrcU w w A us := by
  intro h0
  obtain ⟨b, off, e, hb, hc⟩ := h h0
  have each : ∀ i, i < us.length → ∃ v : Value, ∀ (hi : i < us.length), ∃ (D : Option Addr) (c : Nat), v = .slice D us[i].2.2.length c ∧ w.cell? ⟨b, off + i * 3, none⟩ = some (.string us[i].1) ∧ w.cell? ⟨b, off + i * 3 + 1, none⟩ = some (.int .i64 us[i].2.1) ∧ w.cell? ⟨b, off + i * 3 + 2, none⟩ = some v ∧
      IntsAt w D us[i].2.2 ∧ us[i].1.size ≤ 9223372036854775807 ∧ us[i].2.2.length ≤ 9223372036854775807 := by
    intro i hi
    obtain ⟨D, c, h1, h2, h3, h4, h5, h6⟩ := hc i hi
    exact ⟨_, fun _ => ⟨D, c, rfl, h1, h2, h3, h4, h5, h6⟩⟩
  obtain ⟨f, hf⟩ := Go.Deep.choose_lt each
  refine ⟨b, off, (List.range us.length).map f, e, by simp, ?_, ?_⟩
  · intro j u hu
    have hjl : j < us.length * 3 := by
      have := flatU_len us ((List.range us.length).map f) (by simp)
      rcases Nat.lt_or_ge j (us.length * 3) with h | h
      · exact h
      · rw [List.getElem?_eq_none (by omega)] at hu; cases hu
    have hi : j / 3 < us.length := by omega
    obtain ⟨v, hz, e0, e1, e2⟩ := flatU_at us ((List.range us.length).map f) (j / 3) (by simp) hi
    obtain ⟨D, c, _, g0, g1, g2, _⟩ := hf (j / 3) hi hi
    have hv : v = f (j / 3) := by
      obtain ⟨k, hk, ek⟩ := List.mem_iff_getElem.1 hz
      have e2' := e2
      have : ∀ (us : List UserD) (vs : List Value) (i : Nat), vs.length = us.length → i < us.length → (flatU us vs)[i * 3 + 2]? = vs[i]? := by
        intro us
        induction us with
        | nil => intro vs i _ h; simp at h
        | cons x us ih =>
          intro vs i hl h
          match vs, hl with
          | y :: vs, hl =>
            match i, h with
            | 0, _ => rfl
            | i + 1, h =>
              have := ih vs i (by simpa using hl) (by simpa using h)
              rw [show (i + 1) * 3 + 2 = i * 3 + 2 + 3 by omega]
              simpa [flatU] using this
      rw [this us _ (j / 3) (by simp) hi] at e2'
      simp [hi] at e2'
      exact e2'.symm
    rcases (show j = j / 3 * 3 ∨ j = j / 3 * 3 + 1 ∨ j = j / 3 * 3 + 2 by omega) with hj | hj | hj
    · rw [hj] at hu ⊢; rw [e0] at hu; simp only [Option.some.injEq] at hu; rw [← hu]; exact g0
    · rw [hj] at hu ⊢; rw [e1] at hu; simp only [Option.some.injEq] at hu; rw [← hu, ← Nat.add_assoc]; exact g1
    · rw [hj] at hu ⊢; rw [e2] at hu; simp only [Option.some.injEq] at hu; rw [← hu, hv, ← Nat.add_assoc]; exact g2
  · intro x hx
    obtain ⟨k, hk, rfl⟩ := List.mem_iff_getElem.1 hx
    have hk' : k < us.length := by simp at hk; exact hk
    obtain ⟨D, c, ev, _, _, _, g3, g4, g5⟩ := hf k hk' hk'
    simp only [List.getElem_zip, List.getElem_map, List.getElem_range]
    exact ⟨D, c, ev, g3, g4, g5⟩
theorem OwnU.users {w0 w : World} {base n cap : Nat} {A : Option Addr} {us : List UserD} (h : OwnU w0 w base (.slice A n cap) us) (hn : us.length = n) (hu : Und w0 w) : UsersAt w A us := by
  obtain ⟨vs, h1, h2, h3⟩ := h
  rw [hn] at h2
  intro h0
  obtain ⟨g, rfl, _, hg, hc⟩ := own_cell h2 (by omega)
  refine ⟨g, 0, rfl, hg, fun j hj => ?_⟩
  obtain ⟨v, hz, e0, e1, e2⟩ := flatU_at us vs j h1 hj
  obtain ⟨D, c, hv, hi, s1, s2⟩ := h3 _ hz
  simp only at hv hi s1 s2
  subst hv
  rw [Nat.zero_add]
  exact ⟨D, c, hc _ _ e0, hc _ _ e1, hc _ _ e2, hi.und hu, s1, s2⟩
theorem OwnU.form {w0 w : World} {base : Nat} {v : Value} {us : List UserD} (h : OwnU w0 w base v us) : ∃ A cap, v = .slice A us.length cap ∧ us.length ≤ cap ∧ cap ≤ maxLen := by
  obtain ⟨vs, _, o2, _⟩ := h
  exact own_slice o2
theorem OwnU.und {w0 w w' : World} {base : Nat} {v : Value} {us : List UserD} (h : OwnU w0 w base v us) (u : Und w w') : OwnU w0 w' base v us := by
  obtain ⟨vs, h1, h2, h3⟩ := h
  exact ⟨vs, h1, owns_und h2 u, h3⟩
theorem OwnU.nil (w0 w : World) (base : Nat) : OwnU w0 w base (.slice none 0 0) [] := ⟨[], rfl, World.ownsRow_nil _ _ _ _, fun x hx => by simp at hx⟩
theorem OwnU.empty (w0 w : World) {base : Nat} (h : base ≤ w.heap.size) : OwnU w0 (w.alloc (.cells #[] 40)) base (.slice (some ⟨w.heap.size, 0, none⟩) 0 0) [] :=
  ⟨[], rfl, World.ownsRow_made w #[] 0 h (by unfold maxLen; omega) rfl, fun x hx => by simp at hx⟩

theorem OwnU.empty' (w0 w : World) {base b : Nat} (h : base ≤ w.heap.size) (hb : b = w.heap.size) : OwnU w0 (w.alloc (.cells #[] 40)) base (.slice (some ⟨b, 0, none⟩) 0 0) [] := by
  subst hb; exact OwnU.empty w0 w h
theorem srcOne {w0 W : World} {B : Nat} {nm : ByteArray} {r : Int} {D : Option Addr} {k kc : Nat} {ds : List Int} (h0 : W.cell? ⟨B, 0, none⟩ = some (.string nm)) (h1 : W.cell? ⟨B, 1, none⟩ = some (.int .i64 r)) (h2 : W.cell? ⟨B, 2, none⟩ = some (.slice D k kc))
    (hD : IntsAt w0 D ds) (hk : ds.length = k) (hk63 : k ≤ 9223372036854775807) (hs : nm.size ≤ 9223372036854775807) : SrcU w0 W (some ⟨B, 0, none⟩) [(nm, r, ds)] := by
  intro _
  refine ⟨B, 0, [.slice D k kc], rfl, rfl, fun j u hu => ?_, fun x hx => ?_⟩
  · rw [Nat.zero_add]
    match j, hu with
    | 0, hu => simp [flatU] at hu; subst hu; exact h0
    | 1, hu => simp [flatU] at hu; subst hu; exact h1
    | 2, hu => simp [flatU] at hu; subst hu; exact h2
    | j + 3, hu => simp [flatU] at hu
  · simp at hx
    subst hx
    exact ⟨D, kc, by rw [hk], hD, hs, by simp only; omega⟩
theorem SrcU.gb {w0 W W' : World} {A : Option Addr} {us : List UserD} {row : Option Nat} (h : SrcU w0 W A us) (g : W.grownBy W' row) (hne : ∀ b off, A = some ⟨b, off, none⟩ → some b ≠ row) : SrcU w0 W' A us := by
  intro h0
  obtain ⟨b, off, vs, rfl, l, hc, hd⟩ := h h0
  refine ⟨b, off, vs, rfl, l, fun j u hu => ?_, hd⟩
  have := hc j u hu
  rw [gb_cell g (p := ⟨b, off + j, none⟩) (World.block_lt_of_cell? _ _ this) (hne b off rfl)]; exact this
theorem srcOneGb {w0 W W' : World} {B : Nat} {nm : ByteArray} {r : Int} {D : Option Addr} {k kc : Nat} {ds : List Int} {row : Option Nat} (g : W.grownBy W' row) (hne : some B ≠ row) (h0 : W.cell? ⟨B, 0, none⟩ = some (.string nm)) (h1 : W.cell? ⟨B, 1, none⟩ = some (.int .i64 r)) (h2 : W.cell? ⟨B, 2, none⟩ = some (.slice D k kc))
    (hD : IntsAt w0 D ds) (hk : ds.length = k) (hk63 : k ≤ 9223372036854775807) (hs : nm.size ≤ 9223372036854775807) : SrcU w0 W' (some ⟨B, 0, none⟩) [(nm, r, ds)] :=
  (srcOne h0 h1 h2 hD hk hk63 hs).gb g (fun b off e => by cases e; exact hne)

theorem step_append_us {ops : Array Oper} {o : Oper} {a : Act} {w : World} {K : Act → World → Prop} {Q : Exit → Act → World → Prop} {E : Prop}
    (s x : Operand) (hop : o.op = Op.call { callee := Callee.builtin Builtin.append, args := #[s, x], argTypes := #[26, 26] })
    (w0 : World) (base : Nat) (v : Value) (us0 : List UserD) (hs : a.eval s = v) (hown : OwnU w0 w base v us0)
    (A : Option Addr) (m c : Nat) (us : List UserD) (hx : a.eval x = .slice A m c) (hA : A = none → c = 0) (hm : us.length = m) (hsrc : SrcU w0 w A us)
    (h63 : (us0.length + m) * 48 ≤ 140737488355328) (hund : Und w0 w) (hb0 : w0.heap.size ≤ base) (hbase : base ≤ w.heap.size)
    (hw : Region.wanted o (yielded ops a.tmps) = true)
    (h : ∀ v' w', OwnU w0 w' base v' (us0 ++ us) → Und w0 w' → w.grownBy w' v.ownBlock → K (a.put o.dst v') w') :
    if Region.wanted o (yielded ops a.tmps) = true then Oper.wp Tryd.prog o a w K Q else E := by
  rw [if_pos hw]
  obtain ⟨i, hi, hz0, hz1, hz2⟩ := info_parts info_user
  obtain ⟨vs0, l0, own0, d0⟩ := hown
  cases A with
  | none =>
    obtain rfl := hA rfl
    have hl : us.length = 0 := by
      rcases Nat.eq_zero_or_pos us.length with h | h
      · exact h
      · obtain ⟨b, off, vs, e, _⟩ := hsrc h; cases e
    obtain rfl : us = [] := List.eq_nil_of_length_eq_zero hl
    obtain rfl : m = 0 := hm.symm
    have hrun := run_append_owned_none (P := Tryd.prog) (w := w) base 26 o.type 40 i 3 Tryd.underlying26 hi v us0.length _ own0
    unfold Oper.wp
    simp [execOp, hop, resolve, invoke, builtin, hs, hx, hrun, Result.andThen]
    exact h v w (by simpa using ⟨vs0, l0, own0, d0⟩) hund (gb_refl _ _)
  | some ad =>
    obtain ⟨vs, lv, hc, hd⟩ : ∃ vs : List Value, vs.length = us.length ∧ (∀ (j : Nat) u, (flatU us vs)[j]? = some u → w.cell? (ad.add j) = some u) ∧ DocsIn w0 us vs := by
      rcases Nat.eq_zero_or_pos us.length with h | h
      · obtain rfl : us = [] := List.eq_nil_of_length_eq_zero h
        exact ⟨[], rfl, fun j u hu => by simp [flatU] at hu, fun x hx => by simp at hx⟩
      · obtain ⟨b, off, vs, e, lv, hc, hd⟩ := hsrc h
        cases e
        exact ⟨vs, lv, fun j u hu => by rw [addr_add0]; exact hc j u hu, hd⟩
    refine wp_append_own w s x 26 hop base 40 i (.agg #[.string ⟨#[]⟩, .int .i64 0, .slice none 0 0]) 3 48 Tryd.underlying26 hi hz0 hz1 hz2 rfl (by decide) v us0.length _ hs own0 ad m c (flatU us vs) hx (by rw [flatU_len us vs lv, hm]) hc (flatU_one us vs lv hd) (by unfold maxLen; omega) (by omega) hbase ?_
    intro v' w' hown' hg _
    refine h v' w' ⟨vs0 ++ vs, by simp [l0, lv], ?_, d0.append hd l0⟩ (hund.grown hg (fun g hg' => Nat.le_trans hb0 (owns_block own0 g hg'))) hg
    rw [flatU_append _ _ _ _ l0, List.length_append, hm]
    exact hown'

theorem conv_two1 (W : World) (b : Nat) (c d : Int) (h : W.cell? ⟨b, 0, none⟩ = some (.int .u8 c)) (h2 : W.cell? ⟨b, 1, none⟩ = some (.int .u8 d)) : (convert 37 9 (.slice (some ⟨b, 0, none⟩) 2 2)).run Tryd.prog W = .ok (.string ⟨#[UInt8.ofNat c.toNat, UInt8.ofNat d.toNat]⟩) W := by
  rw [run_convert_bytes_arg W 37 5 Tryd.underlying37 Tryd.underlying5 b 0 2 2 [c, d] rfl (fun i hi => by
    rcases (show i = 0 ∨ i = 1 by omega) with rfl | rfl
    · simpa using h
    · simpa using h2) _ Tryd.underlying9]
  rfl
/-- A conversion of two bytes, by the cells that are read. -/
noncomputable def convFrom2 (W : World) (b : Nat) : Option Value → Option Value → Result Value
  | some (.int .u8 c), some (.int .u8 d) => .ok (.string ⟨#[UInt8.ofNat c.toNat, UInt8.ofNat d.toNat]⟩) W
  | _, _ => (convert 37 9 (.slice (some ⟨b, 0, none⟩) 2 2)).run Tryd.prog W
@[go_sem] theorem conv_cell2 (W : World) (b : Nat) : (convert 37 9 (.slice (some ⟨b, 0, none⟩) 2 2)).run Tryd.prog W = convFrom2 W b (W.cell? ⟨b, 0, none⟩) (W.cell? ⟨b, 1, none⟩) := by
  unfold convFrom2
  split
  · rename_i c d h h2; exact conv_two1 W b c d h h2
  · rfl
@[go_sem] theorem convFrom2_some (W : World) (b : Nat) (c d : Int) : convFrom2 W b (some (.int .u8 c)) (some (.int .u8 d)) = .ok (.string ⟨#[UInt8.ofNat c.toNat, UInt8.ofNat d.toNat]⟩) W := rfl

theorem side3' (w2 : World) (x y z : Value) (e : TypeId) (b : Nat) (hb : b = w2.heap.size) : ∀ j u, [x, y, z][j]? = some u → (w2.alloc (.cells #[x, y, z] e)).cell? ((⟨b, 0, none⟩ : Addr).add j) = some u := by
  subst hb; exact side3 w2 x y z e
theorem OwnU.push {w0 w' : World} {base : Nat} {v' : Value} {us : List UserD} {nm : ByteArray} {r : Int} {vs : List Value} (h1 : vs.length = us.length) (h3 : DocsIn w0 us vs)
    (ho : w'.ownsRow base 40 3 v' (us.length + 1) (flatU us vs ++ [.string nm, .int .i64 r, .slice none 0 0])) (hs : nm.size ≤ 9223372036854775807) : OwnU w0 w' base v' (us ++ [(nm, r, [])]) := by
  refine ⟨vs ++ [.slice none 0 0], by simp [h1], by rw [flatU_snoc us vs _ _ h1]; simpa using ho, h3.append (fun x hx => ?_) h1⟩
  simp at hx
  subst hx
  exact ⟨none, 0, rfl, fun h => absurd h (by simp), hs, by simp⟩
theorem step_bool {P : Program} {ops : Array Oper} {o : Oper} {a : Act} {w : World} {K : Act → World → Prop} {Q : Exit → Act → World → Prop} {E : Prop} {f : FuncId} {args : Array Value}
    (hc : Calls P f args w fun e w' => ∃ r : Bool, e = .returned (.bool r) ∧ Und w w') (hw : Region.wanted o (yielded ops a.tmps) = true)
    (hrun : (execOp a.eval o).run P w = .ok (.enter f args) w) (hK : ∀ (r : Bool) w', Und w w' → K (a.put o.dst (.bool r)) w') :
    if Region.wanted o (yielded ops a.tmps) = true then Oper.wp P o a w K Q else E := by
  rw [if_pos hw]
  unfold Oper.wp
  rw [hrun]
  refine hc.mono ?_
  rintro e w' ⟨r, rfl, hu⟩
  exact hK r w' hu
end Go.Proofs.YthgmlkeojhfijaaDoor
