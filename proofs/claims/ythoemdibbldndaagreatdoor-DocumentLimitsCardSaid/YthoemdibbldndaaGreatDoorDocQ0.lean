/- What the law DocumentLimits leans on: the loop that makes the bytes, and Replace in the long document. Condition: the library's tables lie at their places. -/
import Derived.Test.YthoemdibbldndaaGreatDoorDocP
import Derived.Test.YthoemdibbldndaaGreatDoorMkPlace
import Derived.Lib.SlBytesConst
set_option linter.unusedVariables false
set_option linter.unusedSimpArgs false
namespace Go.Proofs.YthoemdibbldndaaGreatDoor
open Go.RowKit

/-- append where there is no room: a new row of the call's own. -/
theorem wpList_append_full {P : Program} {w : World} {ops : Array Oper} {rest : List Oper} {o : Oper} {a : Act} {Q : Exit → Act → World → Prop} (hgd : o.guard = none) (s x : Operand) (t : TypeId)
    (ho : o.op = .call { callee := .builtin .append, args := #[s, x], argTypes := #[t, t] })
    (base : Nat) (e : TypeId) (i : TypeInfo) (z : Value) (size bytes : Nat) (ht : P.underlying t = some (.slice e)) (hi : P.info? e = some i) (hz : i.zero = some z)
    (hsize : i.size = size) (hby : i.bytes = bytes) (hzs : z.cells.size = size)
    (b n : Nat) (xs : List Value) (hs : a.eval s = .slice (some ⟨b, 0, none⟩) n n) (hxs : xs.length = n * size) (holds : ∀ j u, xs[j]? = some u → w.cell? ((⟨b, 0, none⟩ : Addr).add j) = some u)
    (ad : Addr) (m c : Nat) (news : List Value) (hx : a.eval x = .slice (some ad) m c) (hl : news.length = m * size) (hnews : ∀ j u, news[j]? = some u → w.cell? (ad.add j) = some u) (hm : 0 < m)
    (h63 : n + m ≤ maxLen) (hbytes : (n + m) * bytes ≤ 140737488355328) (hbase : base ≤ w.heap.size)
    (h : ∀ v' w', w'.ownsRow base e size v' (n + m) (xs ++ news) → Und w w' → wpList P ops Q rest (a.put o.dst v') w') : wpList P ops Q (o :: rest) a w := by
  subst hsize
  subst hby
  have hsmall : n + m ≤ 9223372036854775807 := by simp only [maxLen] at h63; omega
  have hlen : (xs ++ news).length = (n + m) * i.size := by rw [List.length_append, hxs, hl, Nat.add_mul]
  have hr := run_append_grow (P := P) w t o.type e i z ht hi hz ⟨b, 0, none⟩ n n xs hxs holds ad m c news hl hnews (by omega) (by omega) (growslice_fits (by omega) hbytes)
  have hge := grownCap_ge w (n + m) n e
  have hcm2 : grownCap w (n + m) n e ≤ maxLen := grownCap_le_maxLen w (n + m) n e h63
  refine wpList_plain hgd fun K hK => ?_
  unfold Oper.wp execOp
  simp only [ho, resolve, invoke, builtin, Sem.run_bind, Sem.run_pure, Result.andThen_ok, List.map_toArray, List.map_cons, List.map_nil, hs, hx, hr]
  refine hK _ _ (h _ _ ⟨hlen, .inr ⟨w.heap.size, _, _, rfl, hbase, heap_alloc_new w.drew _, hge, hcm2, ?_, ?_⟩⟩ (((Und.refl w).drew).alloc _))
  · simp only [Array.size_append, List.size_toArray, size_zeroCells, hzs, hxs, hl, ← Nat.add_mul]
    congr 1
    omega
  · simp only [Array.toList_append, List.append_assoc]
    rw [← List.append_assoc, ← hlen]
    exact List.take_left
def LgRel (w : World) (K : Nat) (s7 : Value) (wr : World) : Prop := Und w wr ∧ ((s7 = .slice (some ⟨w.heap.size, 0, none⟩) 8 8 ∧ w.heap.size < wr.heap.size ∧ ∀ j u, (Lib.byteCells (St.longM 0))[j]? = some u → wr.cell? ((⟨w.heap.size, 0, none⟩ : Addr).add j) = some u) ∨
  ∃ k : Nat, k ≤ K ∧ wr.ownsRow w.heap.size 5 1 s7 (k + 8) (Lib.byteCells (St.longM k)))
noncomputable def lenV : Value → Nat
  | .slice _ n _ => n
  | _ => 0
theorem longM_snoc (k : Nat) : St.longM (k + 1) = St.longM k ++ [120] := by unfold St.longM; rw [List.replicate_succ', List.append_assoc]
/-- What Replace gives in the long document, by how many bytes are put in. -/
def limR (q : Nat) : (Int × List St.Pt) × Int := if q ≤ 1 then ((1, St.setRaw (St.longP 65524) 1 (List.replicate (4 + q) 98)), 0) else ((0, []), 3)
theorem limR_eq (q : Nat) (hq : q < 4) : St.replD St.D1 St.S1 (St.encS 1) 1 (St.longP 65524) 1 [(0, 1)] [[(1, List.replicate (4 + q) 98, 0)]] = limR q := by
  rw [St.long_repl 65524 (by omega) (4 + q) (by omega)]
  unfold limR
  by_cases h : q ≤ 1
  · rw [if_neg (by omega), if_pos h]
  · rw [if_pos (by omega), if_neg h]
theorem set_len (k n : Nat) : (St.rawP (St.setRaw (St.longP k) 1 (List.replicate n 98))).length = k + 7 + n := by simp [St.rawP, St.setRaw, St.longP, List.modify_cons]; omega
theorem limR_raw (q : Nat) (hq : q ≤ 1) : (St.rawP (limR q).1.2).length = 65535 + q := by
  unfold limR
  rw [if_pos hq]
  exact (set_len 65524 (4 + q)).trans (by omega)
theorem set_plen (k n : Nat) : (St.setRaw (St.longP k) 1 (List.replicate n 98)).length = 3 := by simp [St.setRaw, St.longP]
theorem limR_lo (q : Nat) (hq : q ≤ 1) {f : Int} {ps : List St.Pt} {er : Int} (h : ((f, ps), er) = limR q) : er = 0 ∧ ps.length = 3 ∧ (St.rawP ps).length = 65535 + q := by
  have hr := limR_raw q hq
  rw [← h] at hr
  unfold limR at h
  rw [if_pos hq] at h
  have h2 : ps = St.setRaw (St.longP 65524) 1 (List.replicate (4 + q) 98) := congrArg (fun x => x.1.2) h
  have h3 : er = 0 := congrArg (fun x => x.2) h
  exact ⟨h3, by rw [h2]; exact set_plen _ _, hr⟩
theorem limR_hi (q : Nat) (hq : ¬ q ≤ 1) {f : Int} {ps : List St.Pt} {er : Int} (h : ((f, ps), er) = limR q) : er = 3 ∧ ps = [] := by
  unfold limR at h
  rw [if_neg hq] at h
  exact ⟨congrArg (fun x => x.2) h, congrArg (fun x => x.1.2) h⟩
theorem long_len (k : Nat) : (St.longP k).length = 3 := rfl
theorem long_rawlen (k : Nat) : (St.rawP (St.longP k)).length = k + 8 := by rw [St.longP_raw, St.longM_len]
theorem lim_call (q : Nat) (hq : q < 4) (A B C : Option Addr) (c : Nat) (W : World) (hL : Mk.LibAt W) (hP : PartsAt W A (St.longP 65524)) (h1 : 3 ≤ c) (h2 : c ≤ 9223372036854775807) (hB : RangesAt W B [(0, 1)]) (hC : TargsAt W C [[(1, List.replicate (4 + q) 98, 0)]]) :
    Calls Tryz.prog 16 #[.agg #[.int .i64 1, .slice A 3 c], .int .i64 1, .slice B 1 1, .slice C 1 1] W (RepEnd (limR q) W) := by
  have h := dreplace_any A B C 3 c 1 1 1 1 (St.longP 65524) 1 [(0, 1)] [[(1, List.replicate (4 + q) 98, 0)]] W (fm1 W hL) (long_len _) h1 h2 rfl rfl hP hB hC (by omega) (by rw [long_rawlen]; omega) (by omega)
    (fun t ht => by rw [List.mem_singleton.1 ht]; rcases (show q = 0 ∨ q = 1 ∨ q = 2 ∨ q = 3 by omega) with rfl | rfl | rfl | rfl <;> decide)
    (fun t ht => by rw [List.mem_singleton.1 ht]; rcases (show q = 0 ∨ q = 1 ∨ q = 2 ∨ q = 3 by omega) with rfl | rfl | rfl | rfl <;> decide)
  rw [limR_eq q hq] at h
  exact h
theorem lim_parse (d : ByteArray) (hd : d.data.toList = St.longM 65524) (W : World) (hL : Mk.LibAt W) :
    Calls Tryz.prog 14 #[.int .i64 1, .string d] W fun e w' => ∃ A c, e = .returned (.tuple #[.agg #[.int .i64 1, .slice A 3 c], .int .i64 0, .int .i64 0]) ∧ PartsAt w' A (St.longP 65524) ∧ 3 ≤ c ∧ c ≤ 9223372036854775807 ∧ Und W w' := by
  have hs : d.size = 65532 := by rw [← St.len_list, hd, St.longM_len]
  have h := dparse_any d W (fm1 W hL) (by omega)
  rw [hd, St.longP_split 65524 (by omega)] at h
  refine h.mono ?_
  rintro e w' ⟨hu, ⟨_, A, c, rfl, h1, h2, h3⟩ | ⟨h, _⟩⟩
  · exact ⟨A, c, rfl, h1, h2, h3, hu⟩
  · exact absurd rfl h
/-- A new document's block as it is laid. -/
theorem doc_laid (W : World) (i : Int) (A : Option Addr) (n c : Nat) (w' : World) (h : ((W.alloc (.cells #[.int .i64 0, .slice none 0 0] 25)).setCell ⟨W.heap.size, 0, none⟩ (.int .i64 i)).setCell ⟨W.heap.size, 1, none⟩ (.slice A n c) = w') :
    Und W w' ∧ w'.heap[W.heap.size]? = some (.cells #[.int .i64 i, .slice A n c] 25) := by
  subst h
  have h1 := heap_alloc_new W (.cells #[.int .i64 0, .slice none 0 0] 25)
  have h2 := heap_setCell_same _ _ 0 _ _ (.int .i64 i) h1
  have h3 := heap_setCell_same _ _ 1 _ _ (.slice A n c) h2
  exact ⟨Und.mk (((((Und.refl W).alloc _).below).setCell (p := ⟨W.heap.size, 0, none⟩) (Nat.le_refl _) _).setCell (p := ⟨W.heap.size, 1, none⟩) (Nat.le_refl _) _), h3⟩
/-- What the operations of the region that calls Replace give. -/
def limFs (A : Option Addr) (c p : Nat) (s : ByteArray) (R : (Int × List St.Pt) × Int) : List Fact := [
  fun v _ => v = .agg #[.int .i64 1, .slice A 3 c],
  fun v _ => v = .agg #[.int .i64 0, .int .i64 1],
  fun v W => ∃ g, v = .slice (some ⟨g, 0, none⟩) 1 1 ∧ W.heap[g]? = some (.cells #[.int .i64 0, .int .i64 1] 33),
  fun v _ => v = .int .i64 (4 + (p : Int)),
  fun v _ => v = .string s,
  fun v _ => v = .agg #[.int .i64 1, .string s, .int .i64 0],
  fun v W => ∃ g, v = .slice (some ⟨g, 0, none⟩) 1 1 ∧ W.heap[g]? = some (.cells #[.int .i64 1, .string s, .int .i64 0] 36),
  fun v W => ∃ g g2, v = .slice (some ⟨g, 0, none⟩) 1 1 ∧ W.heap[g]? = some (.cells #[.slice (some ⟨g2, 0, none⟩) 1 1] 37) ∧ W.heap[g2]? = some (.cells #[.int .i64 1, .string s, .int .i64 0] 36),
  fun v W => ∃ A' c', v = .tuple #[.agg #[.int .i64 R.1.1, .slice A' R.1.2.length c'], .int .i64 R.2] ∧ PartsAt W A' R.1.2,
  fun v W => ∃ A' c', v = .tuple #[.agg #[.int .i64 R.1.1, .slice A' R.1.2.length c'], .int .i64 R.2] ∧ PartsAt W A' R.1.2,
  fun v W => ∃ A' c', v = .agg #[.int .i64 R.1.1, .slice A' R.1.2.length c'] ∧ PartsAt W A' R.1.2,
  fun v _ => v = .int .i64 R.2,
  fun v _ => ∃ g, v = .pointer (some ⟨g, 0, none⟩),
  fun _ _ => True,
  fun v _ => v = .int .i64 R.2]
theorem lim_text (p : Nat) (hp : p < 4) : ∃ s : ByteArray, s.data.toList = List.replicate (4 + p) 98 ∧ s = ⟨(List.replicate (4 + p) 98).toArray⟩ := ⟨_, rfl, rfl⟩
end Go.Proofs.YthoemdibbldndaaGreatDoor
