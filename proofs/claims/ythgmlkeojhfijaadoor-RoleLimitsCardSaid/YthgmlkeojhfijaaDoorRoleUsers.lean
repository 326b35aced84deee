/- The contract of the laws' maker of users: at most four valid users, in memory of the call's own. Conditions: the list of numbers lies in memory. -/
import Derived.Test.YthgmlkeojhfijaaDoorRoleMake
import Derived.Test.YthgmlkeojhfijaaDoorFrame
import Derived.Test.YthgmlkeojhfijaaDoorRoleKnown
import Derived.Laws.BytesArg
import Derived.WalkSpells
import Derived.Lib.Strings
import Derived.Outline
import Derived.Deep.Cut
import Derived.IntWalk
namespace Go.Proofs.YthgmlkeojhfijaaDoor
open Go.RowKit

theorem conv_one1 (W : World) (b : Nat) (c : Int) (h : W.cell? ⟨b, 0, none⟩ = some (.int .u8 c)) : (convert 37 9 (.slice (some ⟨b, 0, none⟩) 1 1)).run Tryd.prog W = .ok (.string ⟨#[UInt8.ofNat c.toNat]⟩) W := by
  rw [run_convert_bytes_arg W 37 5 Tryd.underlying37 Tryd.underlying5 b 0 1 1 [c] rfl (fun i hi => by
    obtain rfl : i = 0 := by omega
    simpa using h) _ Tryd.underlying9]
  rfl
/-- A conversion of one byte, by the cell that is read. -/
noncomputable def convFrom (W : World) (b : Nat) : Option Value → Result Value
  | some (.int .u8 c) => .ok (.string ⟨#[UInt8.ofNat c.toNat]⟩) W
  | _ => (convert 37 9 (.slice (some ⟨b, 0, none⟩) 1 1)).run Tryd.prog W
@[go_sem] theorem conv_cell (W : World) (b : Nat) : (convert 37 9 (.slice (some ⟨b, 0, none⟩) 1 1)).run Tryd.prog W = convFrom W b (W.cell? ⟨b, 0, none⟩) := by
  unfold convFrom
  split
  · rename_i c h; exact conv_one1 W b c h
  · rfl
@[go_sem] theorem convFrom_some (W : World) (b : Nat) (c : Int) : convFrom W b (some (.int .u8 c)) = .ok (.string ⟨#[UInt8.ofNat c.toNat]⟩) W := rfl

theorem GenAt.und {w w' : World} {g n c : Nat} {A : Option Addr} {p : Int} (h : GenAt w g A n c p) (u : Und w w') : GenAt w' g A n c p := by
  have hb : g < w.heap.size := World.block_lt_of_cell? _ _ h.1
  obtain ⟨h1, h2, h3⟩ := h
  exact ⟨(u.cell (p := ⟨g, 0, none⟩) hb).trans h1, (u.cell (p := ⟨g, 1, none⟩) hb).trans h2, (u.below.frozen (p := ⟨g, 1, none⟩) hb).trans h3⟩
theorem GenAt.gb {w w' : World} {g n c : Nat} {A : Option Addr} {p : Int} {row : Option Nat} (h : GenAt w g A n c p) (u : w.grownBy w' row) (hr : some g ≠ row) : GenAt w' g A n c p := by
  have hb : g < w.heap.size := World.block_lt_of_cell? _ _ h.1
  obtain ⟨h1, h2, h3⟩ := h
  exact ⟨(gb_cell u (p := ⟨g, 0, none⟩) hb hr).trans h1, (gb_cell u (p := ⟨g, 1, none⟩) hb hr).trans h2, (gb_frozen u (p := ⟨g, 1, none⟩) hb hr).trans h3⟩
theorem GenAt.set {w : World} {g n c : Nat} {A : Option Addr} {p : Int} (h : GenAt w g A n c p) (q : Int) : GenAt (w.setCell ⟨g, 1, none⟩ (.int .i64 q)) g A n c q := by
  obtain ⟨h1, h2, h3⟩ := h
  exact ⟨(World.cell?_setCell_other (w := w) (a := ⟨g, 1, none⟩) (b := ⟨g, 0, none⟩) (v := .int .i64 q) (by simp)).trans h1, World.cell?_setCell_same (w := w) (a := ⟨g, 1, none⟩) (v := .int .i64 q) (h := h2), by rw [World.frozen?_setCell]; exact h3⟩

theorem step_next {P : Program} {ops : Array Oper} {o : Oper} {a : Act} {w : World} {K : Act → World → Prop} {Q : Exit → Act → World → Prop} {E : Prop} {f : FuncId} {args : Array Value} {m p : Int} {g : Nat}
    (hc : Calls P f args w fun e w' => ∃ (r : Int) (X : World), e = .returned (.int .i64 r) ∧ 0 ≤ r ∧ r < m ∧ w' = under (w.setCell ⟨g, 1, none⟩ (.int .i64 p)) X)
    (hg : o.guard = none) (hrun : (execOp a.eval o).run P w = .ok (.enter f args) w)
    (hK : ∀ (r : Int) (X : World), 0 ≤ r → r < m → K (a.put o.dst (.int .i64 r)) (under (w.setCell ⟨g, 1, none⟩ (.int .i64 p)) X)) :
    if Region.wanted o (yielded ops a.tmps) = true then Oper.wp P o a w K Q else E := by
  have hw : Region.wanted o (yielded ops a.tmps) = true := by simp [Region.wanted, hg]
  rw [if_pos hw]
  unfold Oper.wp
  rw [hrun]
  refine hc.mono ?_
  rintro e w' ⟨r, X, rfl, h0, h1, rfl⟩
  exact hK r X h0 h1

/-- The cells of users, their documents' slices given beside. -/
def flatU : List UserD → List Value → List Value
  | u :: us, v :: vs => .string u.1 :: .int .i64 u.2.1 :: v :: flatU us vs
  | _, _ => []
theorem flatU_snoc : ∀ (us : List UserD) (vs : List Value) (u : UserD) (v : Value), vs.length = us.length → flatU (us ++ [u]) (vs ++ [v]) = flatU us vs ++ [.string u.1, .int .i64 u.2.1, v]
  | [], [], _, _, _ => rfl
  | x :: us, y :: vs, u, v, h => by simp only [List.cons_append, flatU]; rw [flatU_snoc us vs u v (by simpa using h)]
theorem flatU_at : ∀ (us : List UserD) (vs : List Value) (j : Nat), vs.length = us.length → (h : j < us.length) → ∃ v, (us[j], v) ∈ us.zip vs ∧ (flatU us vs)[j * 3]? = some (.string us[j].1) ∧ (flatU us vs)[j * 3 + 1]? = some (.int .i64 us[j].2.1) ∧ (flatU us vs)[j * 3 + 2]? = some v
  | u :: us, v :: vs, 0, _, _ => ⟨v, by simp, rfl, rfl, rfl⟩
  | u :: us, v :: vs, j + 1, h, hj => by
    obtain ⟨y, h1, h2, h3, h4⟩ := flatU_at us vs j (by simpa using h) (by simpa using hj)
    refine ⟨y, by simp [h1], ?_, ?_, ?_⟩
    · rw [show (j + 1) * 3 = j * 3 + 3 by omega]; simpa [flatU] using h2
    · rw [show (j + 1) * 3 + 1 = j * 3 + 1 + 3 by omega]; simpa [flatU] using h3
    · rw [show (j + 1) * 3 + 2 = j * 3 + 2 + 3 by omega]; simpa [flatU] using h4

/-- Users in memory of the call's own. -/
def OutAt (w : World) (base : Nat) (v : Value) (us : List UserD) : Prop :=
  ∃ vs : List Value, vs.length = us.length ∧ w.ownsRow base 40 3 v us.length (flatU us vs) ∧ ∀ x ∈ us.zip vs, w.ownsRow base 3 1 x.2 x.1.2.2.length (x.1.2.2.map (Value.int .i64))
theorem OutAt.gb {w w' : World} {base : Nat} {v : Value} {us : List UserD} (h : OutAt w base v us) {g : Nat} (k : w.grownBy w' (some g)) (hg : g < base) : OutAt w' base v us := by
  obtain ⟨vs, h1, h2, h3⟩ := h
  exact ⟨vs, h1, own_gb h2 k hg, fun x hx => own_gb (h3 x hx) k hg⟩
theorem OutAt.und {w w' : World} {base : Nat} {v : Value} {us : List UserD} (h : OutAt w base v us) (k : Und w w') : OutAt w' base v us := by
  obtain ⟨vs, h1, h2, h3⟩ := h
  exact ⟨vs, h1, owns_und h2 k, fun x hx => owns_und (h3 x hx) k⟩
theorem OutAt.form {w : World} {base : Nat} {v : Value} {us : List UserD} (h : OutAt w base v us) : ∃ A cap, v = .slice A us.length cap ∧ us.length ≤ cap ∧ cap ≤ maxLen ∧ (A = none → cap = 0) := by
  obtain ⟨vs, _, o2, _⟩ := h
  exact own_slice' o2
theorem OutAt.push {w w' : World} {base : Nat} {v v' d : Value} {us : List UserD} {u : UserD} {vs : List Value} (h1 : vs.length = us.length) (h2 : w.ownsRow base 40 3 v us.length (flatU us vs))
    (h3 : ∀ x ∈ us.zip vs, w.ownsRow base 3 1 x.2 x.1.2.2.length (x.1.2.2.map (Value.int .i64))) (hd : w.ownsRow base 3 1 d u.2.2.length (u.2.2.map (Value.int .i64)))
    (ho : w'.ownsRow base 40 3 v' (us.length + 1) (flatU us vs ++ [.string u.1, .int .i64 u.2.1, d])) (k : w.grownBy w' v.ownBlock) : OutAt w' base v' (us ++ [u]) := by
  refine ⟨vs ++ [d], by simp [h1], by rw [flatU_snoc us vs u d h1]; simpa using ho, fun x hx => ?_⟩
  rw [List.zip_append h1.symm] at hx
  rcases List.mem_append.1 hx with hx | hx
  · exact (h3 x hx).kept k (rows_ne (h3 x hx) h2 (by decide))
  · simp at hx
    subst hx
    exact hd.kept k (rows_ne hd h2 (by decide))
theorem ints_own {w : World} {base n cap : Nat} {A : Option Addr} {zs : List Int} (h : w.ownsRow base 3 1 (.slice A n cap) n (zs.map (Value.int .i64))) : IntsAt w A zs := by
  have hl : zs.length = n := by simpa using h.1
  intro h0
  obtain ⟨g, rfl, _, hg, hc⟩ := own_cell h (by omega)
  refine ⟨g, 0, rfl, hg, fun i hi => ?_⟩
  rw [Nat.zero_add]
  exact hc i _ (by rw [List.getElem?_map, List.getElem?_eq_getElem hi]; simp [List.getD_eq_getElem?_getD, hi])
theorem OutAt.users {w : World} {base n cap : Nat} {A : Option Addr} {us : List UserD} (h : OutAt w base (.slice A n cap) us) (hn : us.length = n) (hs : ∀ u ∈ us, u.1.size ≤ 9223372036854775807 ∧ u.2.2.length ≤ 9223372036854775807) : UsersAt w A us := by
  obtain ⟨vs, h1, h2, h3⟩ := h
  rw [hn] at h2
  intro h0
  obtain ⟨g, rfl, _, hg, hc⟩ := own_cell h2 (by omega)
  refine ⟨g, 0, rfl, hg, fun j hj => ?_⟩
  obtain ⟨v, hz, e0, e1, e2⟩ := flatU_at us vs j h1 hj
  have ho := h3 _ hz
  generalize hu : us[j] = u at *
  obtain ⟨D, c, hv, _, _⟩ := own_slice ho
  simp only at hv ho
  subst hv
  rw [Nat.zero_add]
  exact ⟨D, c, hc _ _ e0, hc _ _ e1, hc _ _ e2, ints_own ho, (hs u (hu ▸ List.getElem_mem hj)).1, (hs u (hu ▸ List.getElem_mem hj)).2⟩

/-- Documents in rising order below d. -/
def IncD (zs : List Int) (d : Int) : Prop := ∀ j, j < zs.length → 0 ≤ zs.getD j 0 ∧ zs.getD j 0 < d ∧ (0 < j → zs.getD (j - 1) 0 < zs.getD j 0)
theorem IncD.snoc {zs : List Int} {d e : Int} (h : IncD zs d) (h0 : 0 ≤ d) (h1 : d < e) : IncD (zs ++ [d]) e := by
  intro j hj
  have ga : ∀ i, i < zs.length → (zs ++ [d]).getD i 0 = zs.getD i 0 := fun i hi => by simp [List.getD_eq_getElem?_getD, List.getElem?_append, hi]
  by_cases hlt : j < zs.length
  · obtain ⟨a, b, c⟩ := h j hlt
    rw [ga j hlt]
    exact ⟨a, by omega, fun hp => by rw [ga (j - 1) (by omega)]; exact c hp⟩
  · obtain rfl : j = zs.length := by simp at hj; omega
    have e1 : (zs ++ [d]).getD zs.length 0 = d := by simp [List.getD_eq_getElem?_getD]
    rw [e1]
    exact ⟨h0, h1, fun hp => by rw [ga _ (by omega)]; exact (h _ (by omega)).2.1⟩
theorem IncD.docs {zs : List Int} {d : Int} (h : IncD zs d) (hd : d ≤ 16) : DocsOk zs := fun j hj => by
  obtain ⟨a, b, c⟩ := h j hj
  exact ⟨a, by omega, c⟩
/-- The name of a user. -/
def nameU (k : Nat) : ByteArray := ⟨#[117, UInt8.ofNat (97 + k)]⟩
/-- What the maker makes: i users in all, named from the last letter down. -/
def MadeU (i : Nat) (us : List UserD) : Prop := ∀ j (h : j < us.length), us[j].1 = nameU (i - j) ∧ 1 ≤ us[j].2.1 ∧ us[j].2.1 ≤ 4 ∧ us[j].2.2.length ≤ 3 ∧ DocsOk us[j].2.2
theorem MadeU.snoc {i : Nat} {us : List UserD} {u : UserD} (h : MadeU i us) (h1 : u.1 = nameU (i - us.length)) (h2 : 1 ≤ u.2.1) (h3 : u.2.1 ≤ 4) (h4 : u.2.2.length ≤ 3) (h5 : DocsOk u.2.2) : MadeU i (us ++ [u]) := by
  intro j hj
  by_cases hlt : j < us.length
  · rw [List.getElem_append_left hlt]; exact h j hlt
  · obtain rfl : j = us.length := by simp at hj; omega
    rw [List.getElem_append_right (by omega)]
    simp only [Nat.sub_self, List.getElem_cons_zero]
    exact ⟨h1, h2, h3, h4, h5⟩

theorem wrap_lo (r : Int) (h0 : 0 ≤ r) (h1 : r < 4) : IntKind.i64.wrap (1 + r) = 1 + r := IntWalk.i64_in _ (by omega)
def BoxU (w : World) (U : Nat) (nm : ByteArray) (r : Int) (d : Value) : Prop :=
  w.cell? ⟨U, 0, none⟩ = some (.string nm) ∧ w.cell? ⟨U, 1, none⟩ = some (.int .i64 r) ∧ w.cell? ⟨U, 2, none⟩ = some d ∧ w.frozen? ⟨U, 2, none⟩ = false
theorem BoxU.gb {w w' : World} {U : Nat} {nm : ByteArray} {r : Int} {d : Value} {row : Option Nat} (h : BoxU w U nm r d) (k : w.grownBy w' row) (hr : some U ≠ row) : BoxU w' U nm r d := by
  have hb : U < w.heap.size := World.block_lt_of_cell? _ _ h.1
  obtain ⟨h0, h1, h2, h3⟩ := h
  exact ⟨(gb_cell k (p := ⟨U, 0, none⟩) hb hr).trans h0, (gb_cell k (p := ⟨U, 1, none⟩) hb hr).trans h1, (gb_cell k (p := ⟨U, 2, none⟩) hb hr).trans h2, (gb_frozen k (p := ⟨U, 2, none⟩) hb hr).trans h3⟩
theorem BoxU.set {w : World} {U : Nat} {nm : ByteArray} {r : Int} {d : Value} (h : BoxU w U nm r d) (v : Value) : BoxU (w.setCell ⟨U, 2, none⟩ v) U nm r v := by
  obtain ⟨h0, h1, h2, h3⟩ := h
  exact ⟨(World.cell?_setCell_other (w := w) (a := ⟨U, 2, none⟩) (b := ⟨U, 0, none⟩) (v := v) (by simp)).trans h0, (World.cell?_setCell_other (w := w) (a := ⟨U, 2, none⟩) (b := ⟨U, 1, none⟩) (v := v) (by simp)).trans h1,
    World.cell?_setCell_same (w := w) (a := ⟨U, 2, none⟩) (v := v) (h := h2), by rw [World.frozen?_setCell]; exact h3⟩
def CutU (wr : World) (A : Option Addr) (n c g k : Nat) (p : Int) (s6 : Value) (wx : World) : Prop :=
  ∃ (U : Nat) (r : Int), s6 = .pointer (some ⟨U, 0, none⟩) ∧ 0 ≤ r ∧ r < 4 ∧ wr.heap.size ≤ U ∧ BoxU wx U (nameU k) (1 + r) (.slice none 0 0) ∧ GenAt wx g A n c (p + 1) ∧ wr.grownBy wx (some g)
def InRel (w wr : World) (A : Option Addr) (n c U : Nat) (nm : ByteArray) (r : Int) (p : Nat) (s7 s8 : Value) (wi : World) : Prop :=
  ∃ (d : Int) (m q : Nat) (ds : List Int) (v : Value), s7 = .int .i64 d ∧ s8 = .int .i64 m ∧ ds.length + m ≤ 3 ∧ 0 ≤ d ∧ d ≤ 3 + 4 * ds.length ∧ IncD ds d ∧ q ≤ p + ds.length ∧ BoxU wi U nm r v ∧
    wi.ownsRow (U + 1) 3 1 v ds.length (ds.map (Value.int .i64)) ∧ GenAt wi w.heap.size A n c q ∧ wr.grownBy wi (some w.heap.size)
theorem side3 (w2 : World) (x y z : Value) (e : TypeId) : ∀ j u, [x, y, z][j]? = some u → (w2.alloc (.cells #[x, y, z] e)).cell? ((⟨w2.heap.size, 0, none⟩ : Addr).add j) = some u := by
  intro j u hj
  match j, hj with
  | 0, hj => simp at hj; subst hj; simp [Addr.add]
  | 1, hj => simp at hj; subst hj; simp [Addr.add]
  | 2, hj => simp at hj; subst hj; simp [Addr.add]
  | j + 3, hj => simp at hj
theorem row_ne {w : World} {base e size n : Nat} {v : Value} {xs : List Value} (h : w.ownsRow base e size v n xs) {g : Nat} (hg : g < base) : some g ≠ v.ownBlock := by
  intro he
  have := owns_block h g he.symm
  omega
theorem next_abs (A : Option Addr) (n c g : Nat) (p m : Int) (zs : List Int) (w : World) (hG : GenAt w g A n c p) (hp : 0 ≤ p) (hp2 : p ≤ 4611686018427387904) (hz : zs.length = n) (hI : IntsAt w A zs) (h1 : 1 ≤ m) (h2 : m ≤ 4611686018427387904) :
    Calls Tryd.prog 27 #[.pointer (some ⟨g, 0, none⟩), .int .i64 m] w fun e w' => ∃ r : Int, e = .returned (.int .i64 r) ∧ 0 ≤ r ∧ r < m ∧ GenAt w' g A n c (p + 1) ∧ w.grownBy w' (some g) :=
  (next_any A n c g p m zs w hG hp hp2 hz hI h1 h2).mono fun e w' ⟨r, X, he, r0, r1, hw⟩ => ⟨r, he, r0, r1, hw ▸ (hG.set (p + 1)).und ((Und.refl _).under X), hw ▸ gb_und (gb_set w ⟨g, 1, none⟩ _) ((Und.refl _).under X)⟩
theorem name_of (k : Nat) (hk : k ≤ 4) : ((⟨#[117]⟩ : ByteArray) ++ (⟨#[UInt8.ofNat (97 + (k : Int)).toNat]⟩ : ByteArray)) = nameU k := by
  have e : (97 + (k : Int)).toNat = 97 + k := by omega
  rw [e]; apply ByteArray.ext; simp [nameU]
def OutRel (w : World) (A : Option Addr) (n c i0 : Nat) (v i : Value) (wr : World) : Prop :=
  ∃ (k p : Nat) (us : List UserD), i = .int .i64 k ∧ us.length + k = i0 ∧ p + 20 * k ≤ 100 ∧ MadeU i0 us ∧ OutAt wr (w.heap.size + 1) v us ∧ GenAt wr w.heap.size A n c p ∧ Und w wr
/-- Behind the loop: users in memory. -/
def UsersOut (w : World) (e : Ending) (w' : World) : Prop :=
  ∃ (i : Nat) (us : List UserD) (A : Option Addr) (cap : Nat), e = .returned (.slice A us.length cap) ∧ us.length = i ∧ i ≤ 4 ∧ us.length ≤ cap ∧ cap ≤ 9223372036854775807 ∧ MadeU i us ∧ UsersAt w' A us ∧ Und w w' ∧ (A = none → cap = 0)

set_option maxRecDepth 20000 in
set_option maxHeartbeats 3200000 in
theorem users_any (A : Option Addr) (n c : Nat) (zs : List Int) (w : World) (hz : zs.length = n) (hI : IntsAt w A zs) :
    Calls Tryd.prog 15 #[.slice A n c] w (UsersOut w) := by
  have HI := hid hI
  clear hI
  obtain ⟨ii, hi, hz0, hz1, hz2⟩ := info_parts info_int
  obtain ⟨iu, hiu, hzu0, hzu1, hzu2⟩ := info_parts info_user
  go_enter Tryd.func15, Tryd.ntmps15
  go_wp2_with (go_at_call 26; refine (from_any _ _ _ _).mono ?_; rintro e w' ⟨rfl, rfl⟩)
  have G0 : GenAt (w.alloc (.cells #[.slice A n c, .int .i64 0] 73)) w.heap.size A n c 0 := ⟨by go_simp, by go_simp, by go_simp⟩
  refine (next_any A n c w.heap.size 0 5 zs _ G0 (by omega) (by omega) hz (HI.out.und (by repeat (first | exact Und.refl _ | assumption | refine Und.under ?_ _ | refine Und.alloc ?_ _ | refine Und.drew ?_ | refine Und.drewN ?_ _))) (by omega) (by omega)).mono ?_
  rintro e w' ⟨r, X, rfl, r0, r1, rfl⟩
  have G1 := (G0.set (0 + 1)).und ((Und.refl _).under X)
  have U1 : Und w (under ((w.alloc (.cells #[.slice A n c, .int .i64 0] 73)).setCell ⟨w.heap.size, 1, none⟩ (.int .i64 (0 + 1))) X) := (((Und.refl w).alloc _).setCell (by simp) _).under X
  generalize under _ X = w1 at G1 U1 ⊢
  obtain ⟨i0, rfl⟩ : ∃ i0 : Nat, r = i0 := ⟨r.toNat, by omega⟩
  have HU1 := hid U1
  have HG1 := hid G1
  clear G0 G1 U1
  go_wp2_with fail
  go_loopw [4, 5] (fun v i wr => OutRel w A n c i0 v i wr) (fun _ i _ => (intOf i).toNat)
  case atStart => exact ⟨i0, 1, [], rfl, by simp, by omega, fun j h => by simp at h, ⟨[], rfl, World.ownsRow_nil _ _ _ _, fun x hx => by simp at hx⟩, HG1.out, HU1.out⟩
  case round =>
    obtain ⟨k, p, us, rfl, hk, hp, hM, hO, hG, hU⟩ := hrel
    obtain ⟨wo, rfl⟩ : ∃ wo : World, wo = wr := ⟨_, rfl⟩
    have HM := hid hM
    have HO := hid hO
    have HG := hid hG
    have HU := hid hU
    have HK := hid hk
    have hk4 : k ≤ 4 := by omega
    clear hM hO hG hU hk
    by_cases hk0 : k = 0
    · subst hk0
      obtain ⟨A', cap', rfl, hc1, hc2, hc3⟩ := HO.out.form
      have HC3 := hid hc3
      clear hc3
      have HC1 := hid hc1
      have HC2 := hid hc2
      clear hc1 hc2
      go_wp2
      go_ret
      have hlen : us.length = i0 := by have := HK.out; omega
      refine ⟨i0, us, A', cap', rfl, hlen, by omega, HC1.out, by have := HC2.out; unfold maxLen at this; omega, HM.out, HO.out.users rfl (fun u hu => ?_), HU.out, HC3.out⟩
      obtain ⟨j, hj, rfl⟩ := List.mem_iff_getElem.1 hu
      obtain ⟨e1, _, _, e2, _⟩ := HM.out j hj
      rw [e1]
      exact ⟨by show 2 ≤ _; omega, by omega⟩
    · have hk1 : 0 < k := by omega
      clear hk0
      have hgl : w.heap.size < wo.heap.size := World.block_lt_of_cell? _ _ HG.out.1
      haveI : LtW w.heap.size wo := LtW.of hgl
      have p0 : (0 : Int) ≤ p := by omega
      have p1 : (p : Int) ≤ 4611686018427387904 := by omega
      have hw0 : IntKind.i64.wrap (97 + (k : Int)) = 97 + (k : Int) := IntWalk.i64_in _ (by omega)
      have hw1 : IntKind.u8.wrap (97 + (k : Int)) = 97 + (k : Int) := IntWalk.u8_in _ (by omega)
      go_wp2_with fail
      go_cut [6] from 13 to 49 (fun s6 wx => CutU wo A n c w.heap.size k p s6 wx)
      case first =>
        go_region_law (refine step_next (g := w.heap.size) (next_any A n c w.heap.size p 4 zs _ (HG.out.und (by repeat (first | exact Und.refl _ | assumption | refine Und.under ?_ _ | refine Und.alloc ?_ _ | refine Und.drew ?_ | refine Und.drewN ?_ _))) p0 p1 hz (HI.out.und (HU.out.trans (by repeat (first | exact Und.refl _ | assumption | refine Und.under ?_ _ | refine Und.alloc ?_ _ | refine Und.drew ?_ | refine Und.drewN ?_ _)))) (by decide) (by decide)) rfl ?_ ?_; (· go_simp; done); intro r2 X2 r20 r21; have hw2 := wrap_lo r2 r20 r21)
        all_goals
          go_wp2_with fail
          go_meet
          refine ⟨_, r2, rfl, r20, r21, ?_, ⟨?_, ?_, ?_, ?_⟩, (HG.out.set (p + 1)).und (by repeat (first | exact Und.refl _ | assumption | refine Und.under ?_ _ | refine Und.alloc ?_ _ | refine Und.drew ?_ | refine Und.drewN ?_ _)), gb_und (gb_set wo ⟨w.heap.size, 1, none⟩ (.int .i64 (p + 1))) (by repeat (first | exact Und.refl _ | assumption | refine Und.under ?_ _ | refine Und.alloc ?_ _ | refine Und.drew ?_ | refine Und.drewN ?_ _))⟩
          · first | exact Nat.le_refl _ | exact Nat.le_succ _ | (refine Nat.le_trans ?_ (Und.size (a := wo.setCell ⟨w.heap.size, 1, none⟩ (.int .i64 (p + 1))) (by repeat (first | exact Und.refl _ | assumption | refine Und.under ?_ _ | refine Und.alloc ?_ _ | refine Und.drew ?_ | refine Und.drewN ?_ _))); simp; done) | (refine Nat.le_succ_of_le (Nat.le_trans ?_ (Und.size (a := wo.setCell ⟨w.heap.size, 1, none⟩ (.int .i64 (p + 1))) (by repeat (first | exact Und.refl _ | assumption | refine Und.under ?_ _ | refine Und.alloc ?_ _ | refine Und.drew ?_ | refine Und.drewN ?_ _)))); simp; done)
          · go_simp; first | exact name_of k hk4 | exact congrArg Value.string (name_of k hk4)
          · go_simp
          · go_simp
          · go_simp
      case rest =>
        obtain ⟨U, r, rfl, r20, r21, hUl, hB, hG3, hgb⟩ := hcut
        have HB := hid hB
        have HGB := hid hgb
        have hU2 := HU.out.of_gb hgb (fun g e => by cases e; exact Nat.le_refl _)
        have HU2 := hid hU2
        clear hB hgb hU2 hw0 hw1
        go_wp2_with fail
        refine (next_abs A n c w.heap.size (p + 1) 4 zs _ hG3 (by omega) (by omega) hz (HI.out.und HU2.out) (by decide) (by decide)).mono ?_
        rintro e w2 ⟨d, rfl, d0, d1, hG4, hgb2⟩
        have HU3 := hid (HU2.out.of_gb hgb2 (fun g e => by cases e; exact Nat.le_refl _))
        have HB3 := hid (HB.out.gb hgb2 (by simp; omega))
        have HGB3 := hid (gb_trans HGB.out hgb2 (fun g e => Or.inl e))
        clear HU2 HB HGB hG3 hgb2
        go_wp2_with fail
        refine (next_abs A n c w.heap.size (p + 1 + 1) 4 zs _ hG4 (by omega) (by omega) hz (HI.out.und HU3.out) (by decide) (by decide)).mono ?_
        rintro e w3 ⟨m, rfl, m0, m1, hG5, hgb3⟩
        have HU4 := hid (HU3.out.of_gb hgb3 (fun g e => by cases e; exact Nat.le_refl _))
        have HB4 := hid (HB3.out.gb hgb3 (by simp; omega))
        have HGB4 := hid (gb_trans HGB3.out hgb3 (fun g e => Or.inl e))
        have HG5 := hid hG5
        clear HU3 HB3 HGB3 hG4 hgb3 hG5
        obtain ⟨m, rfl⟩ : ∃ m' : Nat, m = m' := ⟨m.toNat, by omega⟩
        go_wp2_with fail
        go_loopw [7, 8] (fun s7 s8 wi => InRel w wo A n c U (nameU k) (1 + r) (p + 3) s7 s8 wi) (fun _ s8 _ => (intOf s8).toNat)
        case atStart => exact ⟨d, m, p + 3, [], _, rfl, rfl, by simp; omega, d0, by simp; omega, fun j h => by simp at h, by simp, HB4.out, World.ownsRow_nil _ _ _ _, HG5.out, HGB4.out⟩
        case round =>
          obtain ⟨d, m, q, ds, v, rfl, rfl, hm, d0, d1, hI2, hq, hB, hown, hG6, hgb⟩ := hrel
          have HI2 := hid hI2
          have HO6 := hid hown
          have HG6 := hid hG6
          have HGB6 := hid hgb
          have HB6 := hid hB
          obtain ⟨b0, b1, b2, b3⟩ := hB
          clear hI2 hown hG6 hgb HB4 HG5 HGB4 HU4
          by_cases hm0 : m = 0
          · subst hm0
            obtain ⟨vs, o1, o2, o3⟩ := HO.out.gb HGB6.out (by omega)
            have ho2 := hid o2
            have ho3 := hid o3
            have hl1 := hid o1
            have hul : us.length ≤ 4 := by have := HK.out; omega
            clear o1 o2 o3
            go_wp2_with (at_builtin; refine wpList_append_own _ rfl _ _ 26 rfl (w.heap.size + 1) 40 iu (.agg #[.string ⟨#[]⟩, .int .i64 0, .slice none 0 0]) 3 48 Tryd.underlying26 hiu hzu0 hzu1 hzu2 rfl (by decide) u4 us.length _ rfl (ho2.out.alloc _) ⟨wr.heap.size, 0, none⟩ 1 1 [.string (nameU k), .int .i64 (1 + r), v] rfl rfl ?_ ?_ (by unfold maxLen; omega) (by omega) ?_ ?_)
            · exact side3 _ _ _ _ _
            · obtain ⟨A9, c9, rfl, _, _⟩ := own_slice HO6.out
              intro u hu
              simp at hu
              rcases hu with rfl | rfl | rfl <;> rfl
            · have := World.block_lt_of_cell? _ _ b0
              simp at this ⊢; omega
            · intro v1 w4 hown4 hgrow4 hnil4
              have hO4 : OutAt w4 (w.heap.size + 1) v1 (us ++ [(nameU k, 1 + r, ds)]) := OutAt.push hl1.out (ho2.out.alloc _) (fun x hx => (ho3.out x hx).alloc _) (own_low (HO6.out.alloc _) (by omega)) hown4 hgrow4
              have hG4 : GenAt w4 w.heap.size A n c q := (HG6.out.und ((Und.refl _).alloc _)).gb hgrow4 (row_ne ho2.out (by omega))
              have hU4 : Und w w4 := ((HU.out.of_gb HGB6.out (fun g e => by cases e; exact Nat.le_refl _)).alloc _).grown hgrow4 (fun g hg => by have := owns_block ho2.out g hg; omega)
              have HO4 := hid hO4
              have HG4 := hid hG4
              have HU4 := hid hU4
              clear hO4 hG4 hU4 hown4 hgrow4 hnil4 b0 b1 b2 b3
              go_wp2
              refine ⟨⟨k - 1, q, us ++ [(nameU k, 1 + r, ds)], congrArg (Value.int .i64) (by omega), by have := HK.out; simp; omega, by omega, HM.out.snoc (by simp only; congr 1; have := HK.out; omega) (by simp only; omega) (by simp only; omega) (by simp only; omega) (HI2.out.docs (by omega)), HO4.out, HG4.out, HU4.out⟩, by simp [intOf]; omega⟩
          · have hm1 : 0 < m := by omega
            clear hm0
            have hUw := World.block_lt_of_cell? _ _ b0
            simp only at hUw
            go_wp2_with (at_builtin; refine wpList_append_own _ rfl _ _ 23 rfl (U + 1) 3 ii (.int .i64 0) 1 8 Tryd.underlying23 hi hz0 hz1 hz2 rfl (by decide) v ds.length _ rfl (HO6.out.alloc _) _ 1 1 [.int .i64 d] rfl rfl ?_ (by simp; rfl) (by unfold maxLen; omega) (by omega) ?_ ?_)
            · exact side1i _ _
            · simp; omega
            · intro v1 w4 hown4 hgrow4 hnil4
              obtain ⟨A4, c4, rfl, _, _⟩ := own_slice hown4
              have hB4 : BoxU w4 U (nameU k) (1 + r) v := (HB6.out.gb (World.grownBy_alloc _ _ none) (by simp)).gb hgrow4 (row_ne HO6.out (by omega))
              have hG4 : GenAt w4 w.heap.size A n c q := (HG6.out.und ((Und.refl _).alloc _)).gb hgrow4 (row_ne HO6.out (by omega))
              have hgb4 : wo.grownBy w4 (some w.heap.size) := gb_trans (gb_und HGB6.out ((Und.refl _).alloc _)) hgrow4 (fun g hg => Or.inr (by have := owns_block HO6.out g hg; omega))
              have HB4 := hid hB4
              have HG4 := hid ((hG4.gb (gb_set w4 ⟨U, 2, none⟩ (.slice A4 (ds.length + 1) c4)) (by simp; omega)))
              have HGB4 := hid (gb_setCell hgb4 ⟨U, 2, none⟩ (.slice A4 (ds.length + 1) c4) (Or.inr hUl))
              have HO4 := hid (ownsRow_setCell_below hown4 (a := ⟨U, 2, none⟩) (by show U < U + 1; omega) (.slice A4 (ds.length + 1) c4))
              obtain ⟨b0, b1, b2, b3⟩ := hB4
              clear hG4 hgb4 hown4 hgrow4 hnil4 HB6 HG6 HGB6 HO6
              go_wp2_with fail
              refine (next_abs A n c w.heap.size q 4 zs _ HG4.out (by omega) (by omega) hz (HI.out.und (HU.out.of_gb HGB4.out (fun g e => by cases e; exact Nat.le_refl _))) (by decide) (by decide)).mono ?_
              rintro e w5 ⟨r5, rfl, r50, r51, hG5, hgb5⟩
              have HG5 := hid hG5
              have HB5 := hid ((HB4.out.set (.slice A4 (ds.length + 1) c4)).gb hgb5 (by simp; omega))
              have HGB5 := hid (gb_trans HGB4.out hgb5 (fun g e => Or.inl e))
              have HO5 := hid (own_gb HO4.out hgb5 (by omega))
              clear hG5 hgb5 HG4 HB4 HGB4 HO4 b0 b1 b2 b3
              go_wp2
              refine ⟨⟨d + (1 + r5), m - 1, q + 1, ds ++ [d], (.slice A4 (ds.length + 1) c4), rfl, congrArg (Value.int .i64) (by omega), by simp; omega, by omega, by simp; omega, HI2.out.snoc d0 (by omega), by simp; omega, HB5.out, by simpa using HO5.out, by simpa using HG5.out, HGB5.out⟩, by simp [intOf]; omega⟩
end Go.Proofs.YthgmlkeojhfijaaDoor
