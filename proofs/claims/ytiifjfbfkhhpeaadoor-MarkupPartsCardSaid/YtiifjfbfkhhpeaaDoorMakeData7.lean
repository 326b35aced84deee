/- The contract of the maker Data at a markup: a head and units of raw contents. Conditions: as MakeGen's. -/
import Derived.Test.YtiifjfbfkhhpeaaDoorRdsB
import Derived.Test.YtiifjfbfkhhpeaaDoorFacts
import Derived.Test.YtiifjfbfkhhpeaaDoorMakeLong
import Derived.Test.YtiifjfbfkhhpeaaDoorRdsC
set_option linter.unusedVariables false
set_option linter.unusedSimpArgs false
namespace Go.Proofs.YtiifjfbfkhhpeaaDoor
open Go.RowKit

def attrC (q : Nat) : ByteArray := ⟨(St.attrN q).toArray⟩
theorem attr_sz (q : Nat) : (attrC q).size ≤ 6 := by unfold attrC St.attrN; split <;> decide
def tailN7 (r : Nat) : ByteArray := ⟨(St.tailN r).toArray⟩
theorem tailN7_sz (r : Nat) : (tailN7 r).size ≤ 5 := by unfold tailN7 St.tailN; split; decide; split <;> decide
/-- A fragment of a unit and a raw content of it. -/
def UnitN (x : St.RecN) : Prop := St.GoodT x.frag ∧ x.frag.length ≤ 10 ∧ tot x.frag ≤ 115 ∧ RawsT x.frag x.raw
/-- What Data gives at a markup. -/
def DataOf7 (n : Nat) (data : ByteArray) : Prop := ∃ (h : Nat) (rs : List St.RecN), h < 3 ∧ rs.length ≤ n ∧ (∀ x ∈ rs, UnitN x ∧ x.tail < 3) ∧ data.data.toList = St.headN h ++ St.recsN rs
def D7Rel (w : World) (B g P m h : Nat) (s7 s9 : Value) (wr : World) : Prop :=
  ∃ (i : Nat) (data : ByteArray) (rs : List St.RecN), s7 = .string data ∧ s9 = .int .i64 i ∧ rs.length + i = m ∧ data.data.toList = St.headN h ++ St.recsN rs ∧ (∀ x ∈ rs, UnitN x ∧ x.tail < 3) ∧ data.size ≤ 13 + 6000 * rs.length ∧ GenP wr B g (P + 2 + 400 * rs.length) ∧ w.grownBy wr (some g)

set_option maxRecDepth 20000 in
set_option maxHeartbeats 12800000 in
theorem data7_gen (B g P n : Nat) (w : World) (hG : GenP w B g P) (hP : P ≤ 10000) (hn : n ≤ 9) :
    Calls Tryd.prog 12 #[.pointer (some ⟨g, 0, none⟩), .int .i64 1, .int .i64 n] w fun e w' => ∃ data : ByteArray, e = .returned (.string data) ∧ DataOf7 n data ∧ data.size ≤ 13 + 6000 * n ∧ GenP w' B g (P + 2 + 400 * n) ∧ w.grownBy w' (some g) := by
  have HG := hid hG
  obtain ⟨hgB, hB⟩ := hG.lt
  clear hG
  go_enter Tryd.func12, Tryd.ntmps12
  go_wp2_with fail
  refine (next_gen B g P 3 _ (HG.out.und ((Und.refl _).alloc (.cells #[.string ⟨#[]⟩, .string ⟨#[60, 104, 116, 109, 108, 62]⟩, .string ⟨#[60, 33, 45, 45, 32, 60, 112, 62, 32, 45, 45, 62, 120]⟩] 9))) (by omega) (by omega) (by omega)).mono ?_
  rintro e w2 ⟨r, rfl, hr, hG2, hk2⟩
  obtain ⟨hb, hhb, hhs⟩ : ∃ hb : ByteArray, (#[.string ⟨#[]⟩, .string ⟨#[60, 104, 116, 109, 108, 62]⟩, .string ⟨#[60, 33, 45, 45, 32, 60, 112, 62, 32, 45, 45, 62, 120]⟩] : Array Value)[r]? = some (.string hb) ∧ hb.data.toList = St.headN r := by
    rcases (show r = 0 ∨ r = 1 ∨ r = 2 by omega) with h | h | h <;> subst h <;> exact ⟨_, rfl, rfl⟩
  have hhz : hb.size ≤ 13 := by
    rw [← St.len_list, hhs]; unfold St.headN; split; decide; split <;> decide
  have hcell := lit_cell w w2 _ _ B g hk2 hgB hB r _ hhb
  have HG2 := hid hG2
  have HK2 := hid (gb_trans (((Und.refl w).alloc _).gb (some g)) hk2 (fun _ e => .inl e))
  have hsz2 := HK2.out.size
  haveI : LtW w.heap.size w2 := LtW.of (World.block_lt_of_cell? _ _ hcell)
  have hr3 : r < 3 := by omega
  obtain ⟨h, hh⟩ : ∃ h, h = r := ⟨_, rfl⟩
  clear hG2 hk2 HG hhb
  go_wp2_with fail
  refine (next_gen B g _ ((n : Int) + 1) _ HG2.out (by omega) (by omega) (by omega)).mono ?_
  rintro e w3 ⟨m, rfl, hm, hG3, hk3⟩
  have HG3 := hid hG3
  have HK3 := hid (gb_trans HK2.out hk3 (fun _ e => .inl e))
  clear hG3 hk3 HG2 HK2 hcell
  rw [← hh] at hhs hr3
  clear hh hr
  go_wp2_with fail
  go_loopw [7, 9] (fun s7 s9 wr => D7Rel w B g P m h s7 s9 wr) (fun _ s9 _ => (intOf s9).toNat)
  case atStart => exact ⟨m, hb, [], rfl, rfl, by simp, by simp [hhs, St.recsN], (fun x hx => by cases hx), by simp; omega, HG3.out.le (by simp), HK3.out⟩
  case round =>
    clear HG3 HK3
    obtain ⟨i, data, rs, rfl, rfl, hki, hdt, hrs, hds, hG, hk⟩ := hrel
    have HG := hid hG
    have HK := hid hk
    have HDT := hid hdt
    have HRS := hid hrs
    have hszr := hk.size
    clear hG hk hdt hrs
    by_cases hi : 0 < i
    · have z : (0 : Int) < (i : Int) := by omega
      go_wp2_with fail
      refine (fragn_gen B g _ 5 _ HG.out (by omega) (by omega)).mono ?_
      rintro e w4 ⟨v, f, cc, rfl, ho, hgt, hfl, hft, hcn, hG4, hk4⟩
      obtain ⟨A4, c4, rfl, h41, h42, _⟩ := own_slice' ho
      have hgd : St.GoodT f := St.genT_good hgt (by omega)
      have hsm := genT_small hgt
      have HG4 := hid hG4
      have HK4 := hid (gb_trans HK.out hk4 (fun _ e => .inl e))
      have hit := items_own ho rfl
      have hbl := fun b off (e : A4 = some ⟨b, off, none⟩) => owns_block ho b (by subst e; rfl)
      have HIT := hid hit
      have HGD := hid hgd
      have HSM := hid hsm
      clear hG4 hk4 ho hit hgd hsm hgt HG HK
      go_wp2_with fail
      refine (raws_genT B g _ A4 f.length c4 f _ HG4.out (by omega) rfl h41 (by unfold maxLen at h42; omega) HIT.out (fun b off e => by have := hbl b off e; omega) (by omega) (by omega) HGD.out HSM.out).mono ?_
      rintro e w5 ⟨raw, rfl, hR, hrz, hG5, hk5⟩
      have HU5 := hid (gb_trans HK4.out hk5 (fun _ e => .inl e))
      have HF2 := hid (show ∀ ni q r, UnitN ⟨ni, q, f, raw, r⟩ from fun _ _ _ => ⟨HGD.out, hfl, by omega, hR⟩)
      obtain ⟨Q0, hQ, hG5⟩ : ∃ Q, Q + 3 ≤ P + 2 + 400 * (rs.length + 1) ∧ GenP w5 B g Q := ⟨_, by omega, hG5⟩
      have hQ2 : Q0 ≤ 1000000 := by omega
      have HG5 := hid hG5
      clear hG5 hk5 HG4 HK4 hR HIT HGD HSM hbl
      go_wp2_with fail
      refine (next_gen B g Q0 3 _ (HG5.out.und ((Und.refl _).alloc (.cells #[.string ⟨#[112]⟩, .string ⟨#[108, 105]⟩, .string ⟨#[116, 105, 116, 108, 101]⟩] 9))) (by omega) (by omega) (by omega)).mono ?_
      rintro e w7 ⟨ni, rfl, hni, hG7, hk7⟩
      obtain ⟨nm, hnm, hnms⟩ : ∃ nm : ByteArray, (#[.string ⟨#[112]⟩, .string ⟨#[108, 105]⟩, .string ⟨#[116, 105, 116, 108, 101]⟩] : Array Value)[ni]? = some (.string nm) ∧ nm.data.toList = St.nameN ni := by
        rcases (show ni = 0 ∨ ni = 1 ∨ ni = 2 by omega) with h | h | h <;> subst h <;> exact ⟨_, rfl, rfl⟩
      have hBw5 := HG5.out.lt
      have hcell := lit_cell w5 w7 _ _ B g hk7 hBw5.1 hBw5.2 ni _ hnm
      have hnz : nm.size ≤ 5 := by rw [← St.len_list, hnms]; unfold St.nameN; split; decide; split <;> decide
      have HU7 := hid (gb_trans (gb_und HU5.out ((Und.refl _).alloc _)) hk7 (fun _ e => .inl e))
      obtain ⟨Q, hQ, hG7⟩ : ∃ Q, Q = Q0 + 1 ∧ GenP w7 B g Q := ⟨_, rfl, hG7⟩
      have HG7 := hid hG7
      have hsz7 := hk7.size
      haveI : LtW w5.heap.size w7 := LtW.of (World.block_lt_of_cell? _ _ hcell)
      have HNMS := hid hnms
      clear hG7 hk7 HG5 HU5 hnm hnms
      go_wp2_with fail
      refine wp_region_facts (fun a b => a.grownBy b (some g)) (fun L W => GenP W B g (Q + (if L 5 then 1 else 0) + (if L 18 then 1 else 0))) [fun v _ => v = .string data, fun v _ => v = .string nm, fun v _ => v = .string ((⟨#[60]⟩ : ByteArray) ++ nm), fun v W => ∃ b, v = .slice (some ⟨b, 0, none⟩) 2 2 ∧ B ≤ b ∧ b < W.heap.size ∧ ∀ r, r < 2 → W.cell? ⟨b, r, none⟩ = some (.string (attrC r)), fun v _ => v = .pointer (some ⟨g, 0, none⟩), fun v _ => ∃ r : Nat, r < 2 ∧ v = .int .i64 r, fun v W => ∃ b r, r < 2 ∧ B ≤ b ∧ b < W.heap.size ∧ v = .pointer (some ⟨b, r, none⟩) ∧ W.cell? ⟨b, r, none⟩ = some (.string (attrC r)), fun v _ => ∃ r : Nat, r < 2 ∧ v = .string (attrC r), fun v _ => ∃ q : Nat, q < 2 ∧ v = .string ((⟨#[60]⟩ : ByteArray) ++ nm ++ attrC q), fun v _ => ∃ q : Nat, q < 2 ∧ v = .string ((⟨#[60]⟩ : ByteArray) ++ nm ++ attrC q ++ (⟨#[62]⟩ : ByteArray)), fun v _ => v = .string raw, fun v _ => ∃ q : Nat, q < 2 ∧ v = .string ((⟨#[60]⟩ : ByteArray) ++ nm ++ attrC q ++ (⟨#[62]⟩ : ByteArray) ++ raw), fun v _ => ∃ q : Nat, q < 2 ∧ v = .string ((⟨#[60]⟩ : ByteArray) ++ nm ++ attrC q ++ (⟨#[62]⟩ : ByteArray) ++ raw ++ (⟨#[60, 47]⟩ : ByteArray)), fun v _ => v = .string nm, fun v _ => ∃ q : Nat, q < 2 ∧ v = .string ((⟨#[60]⟩ : ByteArray) ++ nm ++ attrC q ++ (⟨#[62]⟩ : ByteArray) ++ raw ++ (⟨#[60, 47]⟩ : ByteArray) ++ nm), fun v _ => ∃ q : Nat, q < 2 ∧ v = .string ((⟨#[60]⟩ : ByteArray) ++ nm ++ attrC q ++ (⟨#[62]⟩ : ByteArray) ++ raw ++ (⟨#[60, 47]⟩ : ByteArray) ++ nm ++ (⟨#[62]⟩ : ByteArray)), fun v W => ∃ b, v = .slice (some ⟨b, 0, none⟩) 3 3 ∧ B ≤ b ∧ b < W.heap.size ∧ ∀ r, r < 3 → W.cell? ⟨b, r, none⟩ = some (.string (tailN7 r)), fun v _ => v = .pointer (some ⟨g, 0, none⟩), fun v _ => ∃ r : Nat, r < 3 ∧ v = .int .i64 r, fun v W => ∃ b r, r < 3 ∧ B ≤ b ∧ b < W.heap.size ∧ v = .pointer (some ⟨b, r, none⟩) ∧ W.cell? ⟨b, r, none⟩ = some (.string (tailN7 r)), fun v _ => ∃ r : Nat, r < 3 ∧ v = .string (tailN7 r), fun v _ => ∃ q r : Nat, q < 2 ∧ r < 3 ∧ v = .string ((⟨#[60]⟩ : ByteArray) ++ nm ++ attrC q ++ (⟨#[62]⟩ : ByteArray) ++ raw ++ (⟨#[60, 47]⟩ : ByteArray) ++ nm ++ (⟨#[62]⟩ : ByteArray) ++ tailN7 r), fun v _ => ∃ q r : Nat, q < 2 ∧ r < 3 ∧ v = .string (data ++ ((⟨#[60]⟩ : ByteArray) ++ nm ++ attrC q ++ (⟨#[62]⟩ : ByteArray) ++ raw ++ (⟨#[60, 47]⟩ : ByteArray) ++ nm ++ (⟨#[62]⟩ : ByteArray) ++ tailN7 r)), fun v _ => ∃ q r : Nat, q < 2 ∧ r < 3 ∧ v = .string (data ++ ((⟨#[60]⟩ : ByteArray) ++ nm ++ attrC q ++ (⟨#[62]⟩ : ByteArray) ++ raw ++ (⟨#[60, 47]⟩ : ByteArray) ++ nm ++ (⟨#[62]⟩ : ByteArray) ++ tailN7 r))] (fun a => gb_refl a _) (fun a b c h k => gb_trans h k (fun _ e => .inl e)) (by kernel_rfl) (by rfl) (by kernel_rfl) (by kernel_rfl) ?fr ?hfr ?hI ?hob ?hend
      case hfr =>
        intro ρ
        simp only [putAll, Act.put, List.setIfInBounds_toArray, List.set_cons_succ, List.set_cons_zero, Nat.zero_add, Nat.reduceAdd]
        exact rfl
      case hI => exact (HG7.out.und (by exact (by repeat (first | exact Und.refl _ | assumption | refine Und.under ?_ _ | refine Und.alloc ?_ _ | refine Und.drew ?_ | refine Und.drewN ?_ _)))).le (by simp)
      case hob =>
        refine ObsF.cons (fun ρ L W hR hI hL hD hO hF K hK => ?_) ?_
        · have hgW : g < W.heap.size := Nat.lt_of_lt_of_le hI.lt.1 hI.lt.2
          have hBW := hI.lt.2
          have eo : ρ 23 = .string data := hO 23 _ 7 rfl rfl (hD.not (p := 23) rfl (by decide) hL)
          clear hF hD hO
          simp only [Act.put, List.setIfInBounds_toArray, List.set_cons_succ, List.set_cons_zero] at hK ⊢
          rw [eo] at hK ⊢
          go_simp
          refine hK _ _ (gb_refl _ _) (by simpa [updB] using hI) (fun W2 h2 => ?_)
          rfl
        refine ObsF.cons (fun ρ L W hR hI hL hD hO hF K hK => ?_) ?_
        · have hgW : g < W.heap.size := Nat.lt_of_lt_of_le hI.lt.1 hI.lt.2
          have hBW := hI.lt.2
          clear hF hD hO
          simp only [Act.put, List.setIfInBounds_toArray, List.set_cons_succ, List.set_cons_zero] at hK ⊢
          go_simp
          refine hK _ _ (gb_refl _ _) (by simpa [updB] using hI) (fun W2 h2 => ?_)
          rfl
        refine ObsF.cons (fun ρ L W hR hI hL hD hO hF K hK => ?_) ?_
        · have hgW : g < W.heap.size := Nat.lt_of_lt_of_le hI.lt.1 hI.lt.2
          have hBW := hI.lt.2
          have f1 := allF_get hF (j := 1) (by decide)
          clear hF hD hO
          simp only [Act.put, List.setIfInBounds_toArray, List.set_cons_succ, List.set_cons_zero] at hK ⊢
          have e1 : ρ 1 = .string nm := f1
          rw [e1] at hK ⊢
          have y1 : ¬ 9223372036854775807 < 1 + nm.size := by omega
          go_simp
          refine hK _ _ (gb_refl _ _) (by simpa [updB] using hI) (fun W2 h2 => ?_)
          rfl
        refine ObsF.cons (fun ρ L W hR hI hL hD hO hF K hK => ?_) ?_
        · have hgW : g < W.heap.size := Nat.lt_of_lt_of_le hI.lt.1 hI.lt.2
          have hBW := hI.lt.2
          clear hF hD hO
          simp only [Act.put, List.setIfInBounds_toArray, List.set_cons_succ, List.set_cons_zero] at hK ⊢
          go_simp
          refine hK _ _ (((Und.refl W).alloc _).gb _) (by simpa [updB] using hI.und ((Und.refl W).alloc _)) (fun W2 h2 => ⟨W.heap.size, rfl, hBW, by have := h2.size; simp at this; omega, fun r hr => ?_⟩)
          rw [gb_cell h2 (p := ⟨W.heap.size, r, none⟩) (by simp) (by simp; omega), World.cell?_alloc_at _ _ _ _ rfl]
          rcases (show r = 0 ∨ r = 1 by omega) with h | h <;> subst h <;> rfl
        refine ObsF.cons (fun ρ L W hR hI hL hD hO hF K hK => ?_) ?_
        · have hgW : g < W.heap.size := Nat.lt_of_lt_of_le hI.lt.1 hI.lt.2
          have hBW := hI.lt.2
          clear hF hD hO
          simp only [Act.put, List.setIfInBounds_toArray, List.set_cons_succ, List.set_cons_zero] at hK ⊢
          go_simp
          refine hK _ _ (gb_refl _ _) (by simpa [updB] using hI) (fun W2 h2 => ?_)
          rfl
        refine ObsF.cons (fun ρ L W hR hI hL hD hO hF K hK => ?_) ?_
        · have hgW : g < W.heap.size := Nat.lt_of_lt_of_le hI.lt.1 hI.lt.2
          have hBW := hI.lt.2
          have f4 := allF_get hF (j := 4) (by decide)
          clear hF hD hO
          simp only [Act.put, List.setIfInBounds_toArray, List.set_cons_succ, List.set_cons_zero] at hK ⊢
          have e4 : ρ 4 = .pointer (some ⟨g, 0, none⟩) := f4
          rw [e4] at hK ⊢
          have hI0 : GenP W B g (Q + (if L 18 then 1 else 0)) := hI.le (by simp [hL])
          refine step_callE (o := ⟨some 81, _, _, _, _, _⟩) rfl 25 #[.pointer (some ⟨g, 0, none⟩), .int .i64 2] _ (next_gen B g (Q + (if L 18 then 1 else 0)) 2 W hI0 (by split <;> omega) (by omega) (by omega)) ?_ ?_
          · go_simp
          rintro e W2 ⟨r, rfl, hr, hG2, hk⟩
          exact ⟨_, rfl, hK _ _ hk (hG2.le (by simp [updB]; try omega)) (fun W3 h3 => ⟨r, by omega, rfl⟩)⟩
        refine ObsF.cons (fun ρ L W hR hI hL hD hO hF K hK => ?_) ?_
        · have hgW : g < W.heap.size := Nat.lt_of_lt_of_le hI.lt.1 hI.lt.2
          have hBW := hI.lt.2
          have f3 := allF_get hF (j := 3) (by decide)
          have f5 := allF_get hF (j := 5) (by decide)
          clear hF hD hO
          simp only [Act.put, List.setIfInBounds_toArray, List.set_cons_succ, List.set_cons_zero] at hK ⊢
          obtain ⟨b, e0, hb1, hb2, hc⟩ := f3
          obtain ⟨r, hr, e2⟩ := f5
          rw [e0, e2] at hK ⊢
          have z1 : (r : Int) < 2 := by omega
          haveI : LtW b W := LtW.of hb2
          go_simp
          refine hK _ _ (gb_refl _ _) (by simpa [updB] using hI) (fun W2 h2 => ?_)
          have hc2 := (gb_cell h2 (p := ⟨b, r, none⟩) hb2 (by simp; omega)).trans (hc r hr)
          exact ⟨b, r, hr, hb1, Nat.lt_of_lt_of_le hb2 h2.size, rfl, hc2⟩
        refine ObsF.cons (fun ρ L W hR hI hL hD hO hF K hK => ?_) ?_
        · have hgW : g < W.heap.size := Nat.lt_of_lt_of_le hI.lt.1 hI.lt.2
          have hBW := hI.lt.2
          have f6 := allF_get hF (j := 6) (by decide)
          clear hF hD hO
          simp only [Act.put, List.setIfInBounds_toArray, List.set_cons_succ, List.set_cons_zero] at hK ⊢
          obtain ⟨b, r, hr, hb1, hb2, e3, hc⟩ := f6
          rw [e3] at hK ⊢
          haveI : LtW b W := LtW.of hb2
          go_simp
          refine hK _ _ (gb_refl _ _) (by simpa [updB] using hI) (fun W2 h2 => ?_)
          exact ⟨r, hr, rfl⟩
        refine ObsF.cons (fun ρ L W hR hI hL hD hO hF K hK => ?_) ?_
        · have hgW : g < W.heap.size := Nat.lt_of_lt_of_le hI.lt.1 hI.lt.2
          have hBW := hI.lt.2
          have f2 := allF_get hF (j := 2) (by decide)
          have f7 := allF_get hF (j := 7) (by decide)
          clear hF hD hO
          simp only [Act.put, List.setIfInBounds_toArray, List.set_cons_succ, List.set_cons_zero] at hK ⊢
          have e2 : ρ 2 = .string ((⟨#[60]⟩ : ByteArray) ++ nm) := f2
          obtain ⟨q, hq, e7⟩ := f7
          rw [e2, e7] at hK ⊢
          have hql := attr_sz q
          have y1 : ¬ 9223372036854775807 < 1 + nm.size + (attrC q).size := by omega
          go_simp
          refine hK _ _ (gb_refl _ _) (by simpa [updB] using hI) (fun W2 h2 => ?_)
          exact ⟨q, hq, rfl⟩
        refine ObsF.cons (fun ρ L W hR hI hL hD hO hF K hK => ?_) ?_
        · have hgW : g < W.heap.size := Nat.lt_of_lt_of_le hI.lt.1 hI.lt.2
          have hBW := hI.lt.2
          have f8 := allF_get hF (j := 8) (by decide)
          clear hF hD hO
          simp only [Act.put, List.setIfInBounds_toArray, List.set_cons_succ, List.set_cons_zero] at hK ⊢
          obtain ⟨q, hq, e8⟩ := f8
          rw [e8] at hK ⊢
          have hql := attr_sz q
          have y1 : ¬ 9223372036854775807 < 1 + nm.size + (attrC q).size + 1 := by omega
          go_simp
          refine hK _ _ (gb_refl _ _) (by simpa [updB] using hI) (fun W2 h2 => ?_)
          exact ⟨q, hq, rfl⟩
        refine ObsF.cons (fun ρ L W hR hI hL hD hO hF K hK => ?_) ?_
        · have hgW : g < W.heap.size := Nat.lt_of_lt_of_le hI.lt.1 hI.lt.2
          have hBW := hI.lt.2
          clear hF hD hO
          simp only [Act.put, List.setIfInBounds_toArray, List.set_cons_succ, List.set_cons_zero] at hK ⊢
          go_simp
          refine hK _ _ (gb_refl _ _) (by simpa [updB] using hI) (fun W2 h2 => ?_)
          rfl
        refine ObsF.cons (fun ρ L W hR hI hL hD hO hF K hK => ?_) ?_
        · have hgW : g < W.heap.size := Nat.lt_of_lt_of_le hI.lt.1 hI.lt.2
          have hBW := hI.lt.2
          have f9 := allF_get hF (j := 9) (by decide)
          have f10 := allF_get hF (j := 10) (by decide)
          clear hF hD hO
          simp only [Act.put, List.setIfInBounds_toArray, List.set_cons_succ, List.set_cons_zero] at hK ⊢
          obtain ⟨q, hq, e9⟩ := f9
          have e10 : ρ 10 = .string raw := f10
          rw [e9, e10] at hK ⊢
          have hql := attr_sz q
          have y1 : ¬ 9223372036854775807 < 1 + nm.size + (attrC q).size + 1 + raw.size := by omega
          go_simp
          refine hK _ _ (gb_refl _ _) (by simpa [updB] using hI) (fun W2 h2 => ?_)
          exact ⟨q, hq, rfl⟩
        refine ObsF.cons (fun ρ L W hR hI hL hD hO hF K hK => ?_) ?_
        · have hgW : g < W.heap.size := Nat.lt_of_lt_of_le hI.lt.1 hI.lt.2
          have hBW := hI.lt.2
          have f11 := allF_get hF (j := 11) (by decide)
          clear hF hD hO
          simp only [Act.put, List.setIfInBounds_toArray, List.set_cons_succ, List.set_cons_zero] at hK ⊢
          obtain ⟨q, hq, e11⟩ := f11
          rw [e11] at hK ⊢
          have hql := attr_sz q
          have y1 : ¬ 9223372036854775807 < 1 + nm.size + (attrC q).size + 1 + raw.size + 2 := by omega
          go_simp
          refine hK _ _ (gb_refl _ _) (by simpa [updB] using hI) (fun W2 h2 => ?_)
          exact ⟨q, hq, rfl⟩
        refine ObsF.cons (fun ρ L W hR hI hL hD hO hF K hK => ?_) ?_
        · have hgW : g < W.heap.size := Nat.lt_of_lt_of_le hI.lt.1 hI.lt.2
          have hBW := hI.lt.2
          clear hF hD hO
          simp only [Act.put, List.setIfInBounds_toArray, List.set_cons_succ, List.set_cons_zero] at hK ⊢
          go_simp
          refine hK _ _ (gb_refl _ _) (by simpa [updB] using hI) (fun W2 h2 => ?_)
          rfl
        refine ObsF.cons (fun ρ L W hR hI hL hD hO hF K hK => ?_) ?_
        · have hgW : g < W.heap.size := Nat.lt_of_lt_of_le hI.lt.1 hI.lt.2
          have hBW := hI.lt.2
          have f12 := allF_get hF (j := 12) (by decide)
          have f13 := allF_get hF (j := 13) (by decide)
          clear hF hD hO
          simp only [Act.put, List.setIfInBounds_toArray, List.set_cons_succ, List.set_cons_zero] at hK ⊢
          obtain ⟨q, hq, e12⟩ := f12
          have e13 : ρ 13 = .string nm := f13
          rw [e12, e13] at hK ⊢
          have hql := attr_sz q
          have y1 : ¬ 9223372036854775807 < 1 + nm.size + (attrC q).size + 1 + raw.size + 2 + nm.size := by omega
          go_simp
          refine hK _ _ (gb_refl _ _) (by simpa [updB] using hI) (fun W2 h2 => ?_)
          exact ⟨q, hq, rfl⟩
        refine ObsF.cons (fun ρ L W hR hI hL hD hO hF K hK => ?_) ?_
        · have hgW : g < W.heap.size := Nat.lt_of_lt_of_le hI.lt.1 hI.lt.2
          have hBW := hI.lt.2
          have f14 := allF_get hF (j := 14) (by decide)
          clear hF hD hO
          simp only [Act.put, List.setIfInBounds_toArray, List.set_cons_succ, List.set_cons_zero] at hK ⊢
          obtain ⟨q, hq, e14⟩ := f14
          rw [e14] at hK ⊢
          have hql := attr_sz q
          have y1 : ¬ 9223372036854775807 < 1 + nm.size + (attrC q).size + 1 + raw.size + 2 + nm.size + 1 := by omega
          go_simp
          refine hK _ _ (gb_refl _ _) (by simpa [updB] using hI) (fun W2 h2 => ?_)
          exact ⟨q, hq, rfl⟩
        refine ObsF.cons (fun ρ L W hR hI hL hD hO hF K hK => ?_) ?_
        · have hgW : g < W.heap.size := Nat.lt_of_lt_of_le hI.lt.1 hI.lt.2
          have hBW := hI.lt.2
          clear hF hD hO
          simp only [Act.put, List.setIfInBounds_toArray, List.set_cons_succ, List.set_cons_zero] at hK ⊢
          go_simp
          refine hK _ _ (((Und.refl W).alloc _).gb _) (by simpa [updB] using hI.und ((Und.refl W).alloc _)) (fun W2 h2 => ⟨W.heap.size, rfl, hBW, by have := h2.size; simp at this; omega, fun r hr => ?_⟩)
          rw [gb_cell h2 (p := ⟨W.heap.size, r, none⟩) (by simp) (by simp; omega), World.cell?_alloc_at _ _ _ _ rfl]
          rcases (show r = 0 ∨ r = 1 ∨ r = 2 by omega) with h | h | h <;> subst h <;> rfl
        refine ObsF.cons (fun ρ L W hR hI hL hD hO hF K hK => ?_) ?_
        · have hgW : g < W.heap.size := Nat.lt_of_lt_of_le hI.lt.1 hI.lt.2
          have hBW := hI.lt.2
          clear hF hD hO
          simp only [Act.put, List.setIfInBounds_toArray, List.set_cons_succ, List.set_cons_zero] at hK ⊢
          go_simp
          refine hK _ _ (gb_refl _ _) (by simpa [updB] using hI) (fun W2 h2 => ?_)
          rfl
        refine ObsF.cons (fun ρ L W hR hI hL hD hO hF K hK => ?_) ?_
        · have hgW : g < W.heap.size := Nat.lt_of_lt_of_le hI.lt.1 hI.lt.2
          have hBW := hI.lt.2
          have f17 := allF_get hF (j := 17) (by decide)
          clear hF hD hO
          simp only [Act.put, List.setIfInBounds_toArray, List.set_cons_succ, List.set_cons_zero] at hK ⊢
          have e17 : ρ 17 = .pointer (some ⟨g, 0, none⟩) := f17
          rw [e17] at hK ⊢
          have hI0 : GenP W B g (Q + (if L 5 then 1 else 0)) := hI.le (by simp [hL])
          refine step_callE (o := ⟨some 94, _, _, _, _, _⟩) rfl 25 #[.pointer (some ⟨g, 0, none⟩), .int .i64 3] _ (next_gen B g (Q + (if L 5 then 1 else 0)) 3 W hI0 (by split <;> omega) (by omega) (by omega)) ?_ ?_
          · go_simp
          rintro e W2 ⟨r, rfl, hr, hG2, hk⟩
          exact ⟨_, rfl, hK _ _ hk (hG2.le (by simp [updB]; try omega)) (fun W3 h3 => ⟨r, by omega, rfl⟩)⟩
        refine ObsF.cons (fun ρ L W hR hI hL hD hO hF K hK => ?_) ?_
        · have hgW : g < W.heap.size := Nat.lt_of_lt_of_le hI.lt.1 hI.lt.2
          have hBW := hI.lt.2
          have f16 := allF_get hF (j := 16) (by decide)
          have f18 := allF_get hF (j := 18) (by decide)
          clear hF hD hO
          simp only [Act.put, List.setIfInBounds_toArray, List.set_cons_succ, List.set_cons_zero] at hK ⊢
          obtain ⟨b, e0, hb1, hb2, hc⟩ := f16
          obtain ⟨r, hr, e2⟩ := f18
          rw [e0, e2] at hK ⊢
          have z1 : (r : Int) < 3 := by omega
          haveI : LtW b W := LtW.of hb2
          go_simp
          refine hK _ _ (gb_refl _ _) (by simpa [updB] using hI) (fun W2 h2 => ?_)
          have hc2 := (gb_cell h2 (p := ⟨b, r, none⟩) hb2 (by simp; omega)).trans (hc r hr)
          exact ⟨b, r, hr, hb1, Nat.lt_of_lt_of_le hb2 h2.size, rfl, hc2⟩
        refine ObsF.cons (fun ρ L W hR hI hL hD hO hF K hK => ?_) ?_
        · have hgW : g < W.heap.size := Nat.lt_of_lt_of_le hI.lt.1 hI.lt.2
          have hBW := hI.lt.2
          have f19 := allF_get hF (j := 19) (by decide)
          clear hF hD hO
          simp only [Act.put, List.setIfInBounds_toArray, List.set_cons_succ, List.set_cons_zero] at hK ⊢
          obtain ⟨b, r, hr, hb1, hb2, e3, hc⟩ := f19
          rw [e3] at hK ⊢
          haveI : LtW b W := LtW.of hb2
          go_simp
          refine hK _ _ (gb_refl _ _) (by simpa [updB] using hI) (fun W2 h2 => ?_)
          exact ⟨r, hr, rfl⟩
        refine ObsF.cons (fun ρ L W hR hI hL hD hO hF K hK => ?_) ?_
        · have hgW : g < W.heap.size := Nat.lt_of_lt_of_le hI.lt.1 hI.lt.2
          have hBW := hI.lt.2
          have f15 := allF_get hF (j := 15) (by decide)
          have f20 := allF_get hF (j := 20) (by decide)
          clear hF hD hO
          simp only [Act.put, List.setIfInBounds_toArray, List.set_cons_succ, List.set_cons_zero] at hK ⊢
          obtain ⟨q, hq, e15⟩ := f15
          obtain ⟨r, hr, e20⟩ := f20
          rw [e15, e20] at hK ⊢
          have hql := attr_sz q
          have hbl := tailN7_sz r
          have y1 : ¬ 9223372036854775807 < 1 + nm.size + (attrC q).size + 1 + raw.size + 2 + nm.size + 1 + (tailN7 r).size := by omega
          go_simp
          refine hK _ _ (gb_refl _ _) (by simpa [updB] using hI) (fun W2 h2 => ?_)
          exact ⟨q, r, hq, hr, rfl⟩
        refine ObsF.cons (fun ρ L W hR hI hL hD hO hF K hK => ?_) ?_
        · have hgW : g < W.heap.size := Nat.lt_of_lt_of_le hI.lt.1 hI.lt.2
          have hBW := hI.lt.2
          have f0 := allF_get hF (j := 0) (by decide)
          have f21 := allF_get hF (j := 21) (by decide)
          clear hF hD hO
          simp only [Act.put, List.setIfInBounds_toArray, List.set_cons_succ, List.set_cons_zero] at hK ⊢
          have e0 : ρ 0 = .string data := f0
          obtain ⟨q, r, hq, hr, e21⟩ := f21
          rw [e0, e21] at hK ⊢
          have hql := attr_sz q
          have hbl := tailN7_sz r
          have y1 : ¬ 9223372036854775807 < data.size + (1 + nm.size + (attrC q).size + 1 + raw.size + 2 + nm.size + 1 + (tailN7 r).size) := by omega
          go_simp
          refine hK _ _ (gb_refl _ _) (by simpa [updB] using hI) (fun W2 h2 => ?_)
          exact ⟨q, r, hq, hr, rfl⟩
        refine ObsF.cons (fun ρ L W hR hI hL hD hO hF K hK => ?_) ?_
        · have hgW : g < W.heap.size := Nat.lt_of_lt_of_le hI.lt.1 hI.lt.2
          have hBW := hI.lt.2
          have f22 := allF_get hF (j := 22) (by decide)
          clear hF hD hO
          simp only [Act.put, List.setIfInBounds_toArray, List.set_cons_succ, List.set_cons_zero] at hK ⊢
          obtain ⟨q, r, hq, hr, e22⟩ := f22
          rw [e22] at hK ⊢
          go_simp
          refine hK _ _ (gb_refl _ _) (by simpa [updB] using hI) (fun W2 h2 => ?_)
          exact ⟨q, r, hq, hr, rfl⟩
        exact ObsF.nil
      case hend =>
        intro ρ L W hR hI hL hF
        obtain ⟨_, _, _, _, _, _, _, _, _, _, _, _, _, _, _, _, _, _, _, _, _, _, _, ⟨q, r, hq, hr, g23⟩, _⟩ := hF
        have hGW : GenP W B g (Q + 2) := hI.le (by split <;> split <;> omega)
        have HGW := hid hGW
        have HUW := hid (gb_trans (gb_und HU7.out (show Und w7 w7.drew from (Und.refl _).drew)) hR (fun _ e => .inl e))
        have hql := attr_sz q
        have hbl := tailN7_sz r
        clear hI hR hL hGW HU7 HG7
        rw [g23]
        clear g23
        go_wp2
        refine ⟨⟨i - 1, _, rs ++ [⟨ni, q, f, raw, r⟩], rfl, congrArg (Value.int .i64) (by omega), by simp; omega, ?_, ?_, ?_, HGW.out.le (by rw [List.length_append, List.length_singleton]; omega), HUW.out⟩, by simp [intOf]; omega⟩
        · rw [St.recsN_snoc, ← List.append_assoc, ← HDT.out]
          simp [St.recN, attrC, tailN7, HNMS.out, St.endM]
        · intro x hx
          rcases List.mem_append.1 hx with hx | hx
          · exact HRS.out x hx
          · simp at hx; subst hx; exact ⟨HF2.out _ _ _, hr⟩
        · rw [List.length_append, List.length_singleton]
          simp only [ByteArray.size_append]
          show _ + (1 + _ + _ + 1 + _ + 2 + _ + 1 + _) ≤ _
          omega
    · have z : ¬ (0 : Int) < (i : Int) := by omega
      have hlen : rs.length = m := by omega
      go_wp2
      go_ret
      exact ⟨data, rfl, ⟨h, rs, hr3, by omega, HRS.out, HDT.out⟩, by omega, HG.out.le (by omega), HK.out⟩
end Go.Proofs.YtiifjfbfkhhpeaaDoor
