/- The law MarkupLimits: walk. Condition: the library's tables lie at their places. -/
import Derived.Test.YtiifjfbfkhhpeaaDoorMkLimPl
import Derived.Test.YtiifjfbfkhhpeaaDoorRMkSpl
import Derived.Test.YtiifjfbfkhhpeaaDoorRdsA
import Derived.Test.YtiifjfbfkhhpeaaDoorMkPlace
import Derived.Lib.SlBytesConst
set_option linter.unusedVariables false
set_option linter.unusedSimpArgs false
namespace Go.Proofs.YtiifjfbfkhhpeaaDoor
open Go.RowKit

/-- append where there is no room: a new row of the call's own. -/
theorem wpList_append_full {P : Program} {w : World} {ops : Array Oper} {rest : List Oper} {o : Oper} {a : Act} {Q : Exit → Act → World → Prop} (hgd : o.guard = none) (s x : Operand) (t : TypeId)
    (ho : o.op = .call { callee := .builtin .append, args := #[s, x], argTypes := #[t, t] })
    (base : Nat) (e : TypeId) (i : TypeInfo) (z : Value) (size bytes : Nat) (ht : P.underlying t = some (.slice e)) (hi : P.info? e = some i) (hz : i.zero = some z)
    (hsize : i.size = size) (hby : i.bytes = bytes) (hzs : z.cells.size = size)
    (b n : Nat) (xs : List Value) (hs : a.eval s = .slice (some ⟨b, 0, none⟩) n n) (hxs : xs.length = n * size) (holds : ∀ j u, xs[j]? = some u → w.cell? ((⟨b, 0, none⟩ : Addr).add j) = some u)
    (ad : Addr) (m c : Nat) (news : List Value) (hx : a.eval x = .slice (some ad) m c) (hl : news.length = m * size) (hnews : ∀ j u, news[j]? = some u → w.cell? (ad.add j) = some u) (hm : 0 < m)
    (h63 : n + m ≤ maxLen) (hbytes : (n + m) * bytes ≤ 140737488355328) (hbase : base ≤ w.heap.size)
    (h : ∀ v' w', w'.ownsRow base e size v' (n + m) (xs ++ news) → Und w w' → wpList P ops Q rest (a.put o.dst v') w') : wpList P ops Q (o :: rest) a w := by
  subst hsize
  subst hby
  have hsmall : n + m ≤ 9223372036854775807 := by simp only [maxLen] at h63; omega
  have hlen : (xs ++ news).length = (n + m) * i.size := by rw [List.length_append, hxs, hl, Nat.add_mul]
  have hr := run_append_grow (P := P) w t o.type e i z ht hi hz ⟨b, 0, none⟩ n n xs hxs holds ad m c news hl hnews (by omega) (by omega) (growslice_fits (by omega) hbytes)
  have hge := grownCap_ge w (n + m) n e
  have hcm2 : grownCap w (n + m) n e ≤ maxLen := grownCap_le_maxLen w (n + m) n e h63
  refine wpList_plain hgd fun K hK => ?_
  unfold Oper.wp execOp
  simp only [ho, resolve, invoke, builtin, Sem.run_bind, Sem.run_pure, Result.andThen_ok, List.map_toArray, List.map_cons, List.map_nil, hs, hx, hr]
  refine hK _ _ (h _ _ ⟨hlen, .inr ⟨w.heap.size, _, _, rfl, hbase, heap_alloc_new w.drew _, hge, hcm2, ?_, ?_⟩⟩ (((Und.refl w).drew).alloc _))
  · simp only [Array.size_append, List.size_toArray, size_zeroCells, hzs, hxs, hl, ← Nat.add_mul]
    congr 1
    omega
  · simp only [Array.toList_append, List.append_assoc]
    rw [← List.append_assoc, ← hlen]
    exact List.take_left
def LgRel (w : World) (K : Nat) (s7 : Value) (wr : World) : Prop := Und w wr ∧ ((s7 = .slice (some ⟨w.heap.size, 0, none⟩) 8 8 ∧ w.heap.size < wr.heap.size ∧ ∀ j u, (Lib.byteCells (St.longM 0))[j]? = some u → wr.cell? ((⟨w.heap.size, 0, none⟩ : Addr).add j) = some u) ∨
  ∃ k : Nat, k ≤ K ∧ wr.ownsRow w.heap.size 5 1 s7 (k + 8) (Lib.byteCells (St.longM k)))
noncomputable def lenV : Value → Nat
  | .slice _ n _ => n
  | _ => 0
theorem longM_snoc (k : Nat) : St.longM (k + 1) = St.longM k ++ [120] := by unfold St.longM; rw [List.replicate_succ', List.append_assoc]
def RpRel (w : World) (t : List UInt8) (N : Nat) (s15 s17 : Value) (wr : World) : Prop := ∃ (k : Nat) (b : ByteArray), k ≤ N ∧ s17 = .int .i64 ((N - k : Nat) : Int) ∧ s15 = .string b ∧ b.data.toList = (List.replicate k t).flatten ∧ wr = w
theorem rep_snoc (k : Nat) (t : List UInt8) : (List.replicate (k + 1) t).flatten = (List.replicate k t).flatten ++ t := by rw [List.replicate_succ', List.flatten_append]; simp
theorem sizeOfRep (x : ByteArray) (k : Nat) (t : List UInt8) (h : x.data.toList = (List.replicate k t).flatten) : x.size = k * t.length := by
  rw [← St.len_list, h]; simp

set_option maxRecDepth 20000 in
set_option maxHeartbeats 12800000 in
theorem limlaw_any (size length items : Int) (w : World) (hL : Mk.LibAt w) : Calls Tryd.prog 6 #[.int .i64 size, .int .i64 length, .int .i64 items] w fun e w' => e = .returned (.bool true) ∧ Und w w' := by
  have HLB := hid hL
  clear hL
  obtain ⟨i0, hi, hz0, hz1, hz2⟩ := info_parts info_byte
  have hp1 := fun W => place_any size 3 W (by omega) (by omega)
  have a1 := Int.emod_nonneg size (show (3 : Int) ≠ 0 by omega)
  have b1 := Int.emod_lt_of_pos size (show (0 : Int) < 3 by omega)
  generalize size % 3 = p1 at hp1 a1 b1
  obtain ⟨p, rfl⟩ : ∃ k : Nat, p1 = k := ⟨p1.toNat, by omega⟩
  have hp2 := fun W => place_any length 3 W (by omega) (by omega)
  have a2 := Int.emod_nonneg length (show (3 : Int) ≠ 0 by omega)
  have b2 := Int.emod_lt_of_pos length (show (0 : Int) < 3 by omega)
  generalize length % 3 = p2 at hp2 a2 b2
  obtain ⟨q, rfl⟩ : ∃ k : Nat, p2 = k := ⟨p2.toNat, by omega⟩
  have hp3 := fun W => place_any items 3 W (by omega) (by omega)
  have a3 := Int.emod_nonneg items (show (3 : Int) ≠ 0 by omega)
  have b3 := Int.emod_lt_of_pos items (show (0 : Int) < 3 by omega)
  generalize items % 3 = p3 at hp3 a3 b3
  obtain ⟨r, rfl⟩ : ∃ k : Nat, p3 = k := ⟨p3.toNat, by omega⟩
  have HP1 := hid hp1
  have HP2 := hid hp2
  have HP3 := hid hp3
  clear hp1 hp2 hp3 a1 a2 a3
  have hcv0 := hid (fun (W : World) (C : Array Value) (n c : Nat) => Lib.run_convert_bytes_const (P := Tryd.prog) W 48 5 C n c Tryd.underlying48 Tryd.underlying5)
  have hcv1 := hcv0.out
  go_enter Tryd.func6, Tryd.ntmps6
  go_wp2_with fail
  refine (HP1.out _).mono ?_
  rintro e w' ⟨rfl, rfl⟩
  go_wp2_with fail
  go_loopw [7] (fun s7 wr => LgRel w (p + 65527) s7 wr) (fun s7 _ => p + 65535 - lenV s7)
  case atStart =>
    refine ⟨(by repeat (first | exact Und.refl _ | assumption | refine Und.under ?_ _ | refine Und.alloc ?_ _ | refine Und.drew ?_ | refine Und.drewN ?_ _)), .inl ⟨rfl, by simp, fun j u hj => ?_⟩⟩
    rw [show (⟨w.heap.size, 0, none⟩ : Addr).add j = ⟨w.heap.size, j, none⟩ by unfold Addr.add; split <;> simp_all, World.cell?_alloc_mark]
    have hb : Lib.byteCells (St.longM 0) = [.int .u8 60, .int .u8 112, .int .u8 62, .int .u8 97, .int .u8 60, .int .u8 47, .int .u8 112, .int .u8 62] := rfl
    rw [hb] at hj
    simpa using hj
  case round =>
    obtain ⟨hu, ⟨rfl, hbs, hcs⟩ | ⟨k, hk, hown⟩⟩ := hrel
    · have HU := hid hu
      have HC := hid hcs
      have hsz := hu.size
      have y1 : (8 : Int) < 65535 + (p : Int) := by omega
      clear hu hcs
      go_wp2_with (at_builtin; refine wpList_append_full rfl _ _ 48 rfl w.heap.size 5 i0 (.int .u8 0) 1 1 Tryd.underlying48 hi hz0 hz1 hz2 rfl w.heap.size 8 (Lib.byteCells (St.longM 0)) rfl rfl ?_ _ 1 1 [.int .u8 120] rfl rfl ?_ (by omega) (by unfold maxLen; omega) (by omega) ?_ ?_)
      · intro j u hj
        have := HC.out j u hj
        rw [show (⟨w.heap.size, 0, none⟩ : Addr).add j = ⟨w.heap.size, j, none⟩ by unfold Addr.add; split <;> simp_all] at this ⊢
        exact (((Und.refl wr).alloc _).cell (p := ⟨w.heap.size, j, none⟩) hbs).trans this
      · exact side1b _ _ _
      · simp <;> omega
      · intro v' w4 hown' hu4
        have hrel : LgRel w (p + 65527) v' w4 := by
          refine ⟨(HU.out.alloc _).trans hu4, .inr ⟨1, by omega, ?_⟩⟩
          have e : St.longM 1 = St.longM 0 ++ [120] := longM_snoc 0
          rw [e, bytes_snoc]
          exact hown'
        obtain ⟨A', c', rfl, _⟩ := own_slice hown'
        have HREL := hid hrel
        clear hown' hu4 hrel
        go_wp2
        exact ⟨HREL.out, by simp [lenV] <;> omega⟩
    have HU := hid hu
    have HO := hid hown
    obtain ⟨A, c, rfl, _⟩ := own_slice hown
    have hsz := hu.size
    clear hown hu
    by_cases hlt : k < p + 65527
    · have y1 : (k : Int) + 8 < 65535 + (p : Int) := by omega
      go_wp2_with (at_builtin; refine wpList_append_own _ rfl _ _ 48 rfl w.heap.size 5 i0 (.int .u8 0) 1 1 Tryd.underlying48 hi hz0 hz1 hz2 rfl (by decide) (.slice A (k + 8) c) (k + 8) _ rfl (HO.out.alloc _) _ 1 1 [.int .u8 120] rfl rfl ?_ ?_ (by unfold maxLen; omega) (by omega) ?_ ?_)
      · exact side1b _ _ _
      · intro u hu'; simp at hu'; subst hu'; rfl
      · simp; omega
      · intro v' w4 hown' hgrow _
        have hrel : LgRel w (p + 65527) v' w4 := by
          refine ⟨((HU.out.alloc _)).grown hgrow (fun g hg => owns_block HO.out g hg), .inr ⟨k + 1, by omega, ?_⟩⟩
          rw [longM_snoc, bytes_snoc]
          have := hown'
          try rw [show k + 8 + 1 = k + 1 + 8 by omega] at this
          exact this
        obtain ⟨A', c', rfl, _⟩ := own_slice hown'
        have HREL := hid hrel
        clear hown' hgrow hrel
        go_wp2
        exact ⟨HREL.out, by simp [lenV]; omega⟩
    · obtain rfl : k = p + 65527 := by omega
      have y1 : ¬ (((p + 65527 : Nat) : Int) + 8 < 65535 + (p : Int)) := by omega
      have hcv : ∀ W, Und wr W → (convert 48 9 (.slice A (p + 65527 + 8) c)).run Tryd.prog W = .ok (.string ⟨(St.longM (p + 65527)).toArray⟩) W := fun W hW => conv_own (own_und hW HO.out) (by omega)
      obtain ⟨d, hd⟩ : ∃ d : ByteArray, d = ⟨(St.longM (p + 65527)).toArray⟩ := ⟨_, rfl⟩
      rw [← hd] at hcv
      have hdl : d.data.toList = St.longM (p + 65527) := by rw [hd]
      have hds : d.size = p + 65527 + 8 := by rw [← St.len_list, hdl, St.longM_len]
      have her : (Mk.mkT d).2.2 = if 65536 < p + 65535 then 3 else 0 := by
        unfold Mk.mkT
        rw [hdl]
        split
        · exact St.longM_bad _ (by omega)
        · exact St.longM_ok (by rw [show ([97] : List UInt8) = (⟨#[97]⟩ : ByteArray).data.toList from rfl, Mk.dE_of]; rfl) _ (by omega)
      have hs1 := fun W (hW : Und w W) => Mk.msplit_any d W (HLB.out.und hW) (by omega)
      have hs2 := fun W => Mk.rsplit_any d W (by omega)
      generalize Mk.mkT d = R at hs1 hs2 her
      obtain ⟨ps, pl, er⟩ := R
      simp only at her
      have HS1 := hid hs1
      have HS2 := hid hs2
      have HCV := hid hcv
      have HER := hid her
      clear hs1 hs2 hd hdl hlt hcv her
      generalize hn : p + 65527 + 8 = n at *
      have heq : (er == 3) = decide ((65536 : Int) < (n : Int)) := by
        rw [HER.out, ← hn]; split
        · rw [decide_eq_true (by omega)]; rfl
        · rw [decide_eq_false (by omega)]; rfl
      have z2 : (er == er) = true := beq_self_eq_true _
      have hcv2 := HCV.out _ (Und.refl _)
      go_wp2_with fail
      refine (HS1.out _ HU.out).mono ?_
      rintro e w2 ⟨A1, c1, rfl, _, _, _, hu2⟩
      have HU2 := hid (HU.out.trans hu2)
      have hcv3 := HCV.out _ hu2
      clear hcv2 hu2
      go_wp2_with fail
      refine (HS2.out _).mono ?_
      rintro e w3 ⟨A2, c2, rfl, _, _, _, hu3⟩
      have HU3 := hid (HU2.out.trans hu3)
      clear hcv3 HU2 HU hu3 HS1 HS2 HCV HO
      go_wp2_with fail
      refine (HP2.out _).mono ?_
      rintro e w4 ⟨rfl, rfl⟩
      go_wp2_with fail
      go_loopw [15, 17] (fun s15 s17 wr => RpRel w3 [97] (1023 + q) s15 s17 wr) (fun _ s17 _ => (intOf s17).toNat)
      case atStart => exact ⟨0, ⟨#[]⟩, by omega, congrArg (Value.int .i64) (by omega), rfl, rfl, rfl⟩
      case round =>
        obtain ⟨k, raw, hk, rfl, rfl, hraw, rfl⟩ := hrel
        by_cases hlt : k < 1023 + q
        · have z : (0 : Int) < ((1023 + q - k : Nat) : Int) := by omega
          have hrs := sizeOfRep _ _ _ hraw
          have y1 : ¬ 9223372036854775807 < raw.size + 1 := by rw [hrs]; simp; omega
          have HR := hid hraw
          clear hraw
          go_wp2
          refine ⟨⟨k + 1, _, by omega, congrArg (Value.int .i64) (by omega), rfl, ?_, rfl⟩, by simp [intOf]; omega⟩
          rw [rep_snoc, ← HR.out]; simp
        · obtain rfl : k = 1023 + q := by omega
          have z : ((1023 + q - (1023 + q) : Nat) : Int) = 0 := by omega
          have hrs := sizeOfRep _ _ _ hraw
          have hraw2 : raw.data.toList = List.replicate (1023 + q) 97 := by rw [hraw, St.flat_one]
          have HR := hid hraw2
          have hrs2 : raw.size = 1023 + q := by rw [hrs]; simp
          clear hraw hlt hrs
          rw [z]
          clear z
          go_wp2_with fail
          refine (HP3.out _).mono ?_
          rintro e w4 ⟨rfl, rfl⟩
          go_wp2_with fail
          go_loopw [16, 18] (fun s16 s18 wx => RpRel wr [123, 110, 125] (511 + r) s16 s18 wx) (fun _ s18 _ => (intOf s18).toNat)
          case atStart => exact ⟨0, ⟨#[]⟩, by omega, congrArg (Value.int .i64) (by omega), rfl, rfl, rfl⟩
          case round =>
            obtain ⟨k, slots, hk, rfl, rfl, hsl, rfl⟩ := hrel
            by_cases hlt : k < 511 + r
            · have z : (0 : Int) < ((511 + r - k : Nat) : Int) := by omega
              have hrs := sizeOfRep _ _ _ hsl
              have y1 : ¬ 9223372036854775807 < slots.size + 3 := by rw [hrs]; simp; omega
              have HL := hid hsl
              clear hsl
              go_wp2
              refine ⟨⟨k + 1, _, by omega, congrArg (Value.int .i64) (by omega), rfl, ?_, rfl⟩, by simp [intOf]; omega⟩
              rw [rep_snoc, ← HL.out]; simp
            · obtain rfl : k = 511 + r := by omega
              have z : ((511 + r - (511 + r) : Nat) : Int) = 0 := by omega
              have hss := sizeOfRep _ _ _ hsl
              have hss2 : slots.size = (511 + r) * 3 := hss
              have h1 := fun W => Mk.mdecode_any raw W (by omega)
              have h2 := fun W => Mk.mdecode_any slots W (by omega)
              have h3 := fun W => Mk.mcuts_any raw W (by omega)
              have hF1 := Mk.mkD_F raw
              have hF2 := Mk.mkD_F slots
              rw [HR.out] at hF1
              rw [hsl] at hF2
              have hk := fun W (hW : Und w W) => Mk.known_any W (HLB.out.und hW)
              have HK := hid hk
              have e1 : q = 2 → (Mk.mkD raw).2.2 = (1024, 3) := by
                intro h; rw [hF1, show 1023 + q = 1024 + 1 by omega]; exact St.limT_bad 1024 rfl
              have e2 : q < 2 → (Mk.mkD raw).2.2 = (0, 0) ∧ (Mk.mkD raw).2.1.length = raw.size + 1 := by
                intro h; rw [hF1, hrs2]; exact St.limT_ok _ (by omega)
              have e3 : r = 2 → (Mk.mkD slots).2.2 = (1536, 3) := by
                intro h; rw [hF2, show 511 + r = 512 + 1 by omega]; exact St.slimT_bad 512 rfl
              have e4 : r < 2 → (Mk.mkD slots).2.2 = (0, 0) := by
                intro h; rw [hF2]; exact St.slimT_ok _ (by omega)
              generalize Mk.mkD raw = R1 at h1 h3 e1 e2
              generalize Mk.mkD slots = R2 at h2 e3 e4
              obtain ⟨f1, cu1, at1, er1⟩ := R1
              obtain ⟨f2, cu2, at2, er2⟩ := R2
              simp only [Prod.mk.injEq] at e1 e2 e3 e4
              have H1 := hid h1
              have H2 := hid h2
              have H3 := hid h3
              have E1 := hid e1
              have E2 := hid e2
              have E3 := hid e3
              have E4 := hid e4
              clear hsl hlt hss h1 h2 h3 hF1 hF2 hk e1 e2 e3 e4 HR
              rw [z]
              clear z
              go_wp2_with fail
              refine (H1.out _).mono ?_
              rintro e w4 ⟨A3, c3, rfl, _, _, _, hu4⟩
              have HU4 := hid (HU3.out.trans hu4)
              clear hu4 H1
              go_wp2_with fail
              refine (H2.out _).mono ?_
              rintro e w5 ⟨A4, c4, rfl, _, _, _, hu5⟩
              have HU5 := hid (HU4.out.trans hu5)
              clear hu5 H2 HU4
              go_wp2_with fail
              refine (H3.out _).mono ?_
              rintro e w6 ⟨A5, c5, rfl, _, _, _, hu6⟩
              have HU6 := hid (HU5.out.trans hu6)
              clear hu6 H3 HU5
              simp only
              have HKN := hid (HK.out _ HU6.out)
              clear HK
              rcases (show q = 2 ∨ q < 2 by omega) with hq | hq
              · obtain ⟨rfl, rfl⟩ := E1.out hq
                subst hq
                have v1 : (1024 : Int) < raw.size := by omega
                rcases (show r = 2 ∨ r < 2 by omega) with hr | hr
                · obtain ⟨rfl, rfl⟩ := E3.out hr
                  subst hr
                  have v2 : (1536 : Int) < slots.size := by omega
                  go_wp2_with fail
                  refine HKN.out.mono ?_
                  rintro e w7 ⟨rfl, hu7⟩
                  have HU7 := hid (HU6.out.trans hu7)
                  clear hu7
                  go_wp2
                  go_ret
                  exact ⟨rfl, HU7.out⟩
                · obtain ⟨rfl, rfl⟩ := E4.out hr
                  have v2 : ¬ (1536 : Int) < slots.size := by omega
                  go_wp2_with fail
                  refine HKN.out.mono ?_
                  rintro e w7 ⟨rfl, hu7⟩
                  have HU7 := hid (HU6.out.trans hu7)
                  clear hu7
                  go_wp2
                  go_ret
                  exact ⟨rfl, HU7.out⟩
              · obtain ⟨⟨rfl, rfl⟩, hcl⟩ := E2.out hq
                have v1 : ¬ (1024 : Int) < raw.size := by omega
                have v3 : ((cu1.length : Int) == (raw.size : Int) + 1) = true := by simp; omega
                have v4 : ((cu1.length : Int) != (raw.size : Int) + 1) = false := by simp; omega
                rcases (show r = 2 ∨ r < 2 by omega) with hr | hr
                · obtain ⟨rfl, rfl⟩ := E3.out hr
                  subst hr
                  have v2 : (1536 : Int) < slots.size := by omega
                  clear hcl
                  go_wp2_with fail
                  refine HKN.out.mono ?_
                  rintro e w7 ⟨rfl, hu7⟩
                  have HU7 := hid (HU6.out.trans hu7)
                  clear hu7
                  go_wp2
                  go_ret
                  exact ⟨rfl, HU7.out⟩
                · obtain ⟨rfl, rfl⟩ := E4.out hr
                  have v2 : ¬ (1536 : Int) < slots.size := by omega
                  clear hcl
                  go_wp2_with fail
                  refine HKN.out.mono ?_
                  rintro e w7 ⟨rfl, hu7⟩
                  have HU7 := hid (HU6.out.trans hu7)
                  clear hu7
                  go_wp2
                  go_ret
                  exact ⟨rfl, HU7.out⟩
end Go.Proofs.YtiifjfbfkhhpeaaDoor
