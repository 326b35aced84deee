/- The contract of role's Parse at the text of the laws' example. -/
import Derived.Test.YthgmlkeojhfijaaDoorRoleRead
namespace Go.Proofs.YthgmlkeojhfijaaDoor
open Go.RowKit

def sText : ByteArray := ⟨#[97, 110, 110, 32, 114, 101, 118, 105, 101, 119, 101, 114, 32, 48, 32, 50, 10, 98, 111, 98, 32, 114, 101, 97, 100, 101, 114, 10]⟩
def sRest : ByteArray := ⟨#[98, 111, 98, 32, 114, 101, 97, 100, 101, 114, 10]⟩
def sFeed : ByteArray := ⟨#[10]⟩
theorem cut1 (m : Int) (w : World) (hm : w.cell? ⟨0, 0, none⟩ = some (.int .i64 m)) : Calls Tryd.prog 40 #[.string sText, .string sFeed] w fun e w' => e = .returned (.tuple #[.string sLine1, .string sRest, .bool true]) ∧ Und w w' := by
  refine (Tryd.strings_Cut sText sFeed m w (by decide) hm).mono ?_
  rintro e w' ⟨rfl, n, rfl⟩
  rw [show Lib.cut sText.data.toList sFeed.data.toList = (sLine1.data.toList, sRest.data.toList, true) by kernel_rfl]
  exact ⟨rfl, (Und.refl w).drewN n⟩
theorem cut2 (m : Int) (w : World) (hm : w.cell? ⟨0, 0, none⟩ = some (.int .i64 m)) : Calls Tryd.prog 40 #[.string sRest, .string sFeed] w fun e w' => e = .returned (.tuple #[.string sLine2, .string ⟨#[]⟩, .bool true]) ∧ Und w w' := by
  refine (Tryd.strings_Cut sRest sFeed m w (by decide) hm).mono ?_
  rintro e w' ⟨rfl, n, rfl⟩
  rw [show Lib.cut sRest.data.toList sFeed.data.toList = (sLine2.data.toList, [], true) by kernel_rfl]
  exact ⟨rfl, (Und.refl w).drewN n⟩

theorem own_lt {w : World} {base e size g n cap : Nat} {xs : List Value} (h : w.ownsRow base e size (.slice (some ⟨g, 0, none⟩) n cap) n xs) : g < w.heap.size := by
  rcases h.2 with ⟨h0, _⟩ | ⟨g', cap', cur, hv, hb, hh, _⟩
  · simp at h0
  · simp at hv
    obtain ⟨rfl, rfl⟩ := hv
    exact (Array.getElem?_eq_some_iff.1 hh).1
theorem own_ints {w : World} {base g n cap : Nat} {zs : List Int} (h : w.ownsRow base 3 1 (.slice (some ⟨g, 0, none⟩) n cap) n (zs.map (Value.int .i64))) (hn : zs.length = n) : IntsAt w (some ⟨g, 0, none⟩) zs := by
  intro h0
  refine ⟨g, 0, rfl, own_lt h, fun i hi => ?_⟩
  have := h.cellAt i (by omega)
  rw [Nat.zero_add, this]
  simp [List.getD_eq_getElem?_getD, hi]
theorem own_name1 {w : World} {base g cap : Nat} {x : ByteArray} {r : Int} {D : Option Addr} {m c2 : Nat} (h : w.ownsRow base 40 3 (.slice (some ⟨g, 0, none⟩) 1 cap) 1 [.string x, .int .i64 r, .slice D m c2]) : NamesAt w (some ⟨g, 0, none⟩) [x] := by
  intro h0
  refine ⟨g, 0, rfl, own_lt h, fun i hi => ?_⟩
  obtain rfl : i = 0 := by simp at hi; omega
  exact ⟨r, D, m, c2, h.cellAt 0 (by omega), h.cellAt 1 (by omega), h.cellAt 2 (by omega)⟩
theorem own_ne {w : World} {base e e' size size' n n' : Nat} {v v' : Value} {xs xs' : List Value} (h : w.ownsRow base e size v n xs) (h' : w.ownsRow base e' size' v' n' xs') (he : e ≠ e') : v.ownBlock = none ∨ v.ownBlock ≠ v'.ownBlock := by
  rcases h.2 with ⟨rfl, _⟩ | ⟨g, cap, cur, rfl, _, hh, _⟩
  · exact Or.inl rfl
  · refine Or.inr ?_
    rcases h'.2 with ⟨rfl, _⟩ | ⟨g', cap', cur', rfl, _, hh', _⟩
    · simp [Value.ownBlock]
    · simp [Value.ownBlock]
      rintro rfl
      rw [hh] at hh'
      simp at hh'
      exact he hh'.2

theorem docs_ok : DocsOk [0, 2] := by
  intro j hj
  match j, hj with
  | 0, _ => simp
  | 1, _ => simp
  | j + 2, hj => simp at hj; omega
theorem docs_nil : DocsOk [] := fun j hj => by simp at hj
theorem user_ann : userE [] sAnn 3 [0, 2] = 0 := by
  unfold userE
  rw [if_neg (by decide), if_neg (by decide), if_neg (by decide), if_pos docs_ok]
theorem idx_bob : idxFrom sBob 0 [sAnn] = -1 := by
  have e : (sAnn.toList == sBob.toList) = false := by rw [Lib.toList_data, Lib.toList_data]; decide
  simp [idxFrom, e]
theorem user_bob : userE [sAnn] sBob 1 [] = 0 := by
  unfold userE
  rw [if_neg (by decide), if_neg (by rw [idx_bob]; decide), if_neg (by decide), if_pos docs_nil]
theorem info_user : (Tryd.prog.info? 40).map (fun i => (i.zero, i.size, i.bytes)) = some (some (.agg #[.string ⟨#[]⟩, .int .i64 0, .slice none 0 0]), 3, 48) := by kernel_rfl
theorem side3u (w2 : World) (x y z : Value) : ∀ j u, [x, y, z][j]? = some u → (w2.alloc (.cells #[x, y, z] 40)).cell? ((⟨w2.heap.size, 0, none⟩ : Addr).add j) = some u := by
  intro j u hj
  match j, hj with
  | 0, hj => simp at hj; subst hj; simp [Addr.add]
  | 1, hj => simp at hj; subst hj; simp [Addr.add]
  | 2, hj => simp at hj; subst hj; simp [Addr.add]
  | j + 3, hj => simp at hj

set_option maxRecDepth 20000 in
set_option maxHeartbeats 3200000 in
theorem parse_known (m : Int) (w : World) (hm : w.cell? ⟨0, 0, none⟩ = some (.int .i64 m)) :
    Calls Tryd.prog 23 #[.string sText] w fun e w' => ∃ v d, e = .returned (.tuple #[v, .int .i64 0, .int .i64 0]) ∧ w'.ownsRow w.heap.size 40 3 v 2 [.string sAnn, .int .i64 3, d, .string sBob, .int .i64 1, .slice none 0 0] ∧ w'.ownsRow w.heap.size 3 1 d 2 [.int .i64 0, .int .i64 2] ∧ Und w w' := by
  have e1 : sText.toList.isEmpty = false := by rw [Lib.toList_data]; rfl
  have e2 : sRest.toList.isEmpty = false := by rw [Lib.toList_data]; rfl
  have e3 : (⟨#[]⟩ : ByteArray).toList.isEmpty = true := by rw [Lib.toList_data]; rfl
  have e4 : sText.size = 28 := rfl
  have hb := World.block_lt_of_cell? _ _ hm
  have HM := hid hm
  clear hm
  obtain ⟨i0, hi, hz0, hz1, hz2⟩ := info_parts info_user
  go_enter Tryd.func23, Tryd.ntmps23
  go_wp2
  refine wp_loop_rounds 3 ?_
  rw [rounds_succ]
  go_wp2_with (go_at_call 40; refine (cut1 m _ HM.out).mono ?_; rintro e w1 ⟨rfl, u1⟩; have U1 := hid u1; clear u1)
  refine (read_ann m _ (by rw [U1.out.cell hb]; exact HM.out)).mono ?_
  rintro e w2 ⟨v, rfl, hown, u2⟩
  obtain ⟨g, cap, rfl, hg⟩ := own_form hown (by omega)
  have U2 := hid (U1.out.trans u2)
  have HD := hid (own_mono hown U1.out.size)
  clear hown hg u2 U1
  have hb2 : 0 < w2.heap.size := Nat.lt_of_lt_of_le hb U2.out.size
  go_wp2_with fail
  refine (user_any none (some ⟨g, 0, none⟩) 0 0 2 cap 3 sAnn [] [0, 2] _ (by decide) rfl (by omega) (fun h => absurd h (by simp)) rfl (by omega) ((own_ints (zs := [0, 2]) HD.out rfl).und (by repeat (first | exact Und.refl _ | assumption | refine Und.under ?_ _ | refine Und.alloc ?_ _ | refine Und.drew ?_ | refine Und.drewN ?_ _)))).mono ?_
  rw [user_ann]
  rintro e w3 ⟨rfl, X3, rfl⟩
  go_wp2_with (at_builtin; refine wpList_append_own _ rfl _ _ 26 rfl w.heap.size 40 i0 (.agg #[.string ⟨#[]⟩, .int .i64 0, .slice none 0 0]) 3 48 Tryd.underlying26 hi hz0 hz1 hz2 rfl (by decide) _ 0 [] rfl (World.ownsRow_nil _ _ _ _) _ 1 1 [.string sAnn, .int .i64 3, .slice (some ⟨g, 0, none⟩) 2 cap] rfl rfl ?_ (by simp; exact ⟨rfl, rfl, rfl⟩) (by unfold maxLen; omega) (by omega) ?_ ?_)
  · exact side3u _ _ _ _
  · exact (U2.out.trans ((by repeat (first | exact Und.refl _ | assumption | refine Und.under ?_ _ | refine Und.alloc ?_ _ | refine Und.drew ?_ | refine Und.drewN ?_ _)) : Und w2 _)).size
  · intro v1 w4 hown1 hgrow1 _
    have hU : Und w2 w4 := Und.grown (by repeat (first | exact Und.refl _ | assumption | refine Und.under ?_ _ | refine Und.alloc ?_ _ | refine Und.drew ?_ | refine Und.drewN ?_ _)) hgrow1 (fun g h => by simp [Value.ownBlock] at h)
    obtain ⟨g1, cap1, rfl, hg1⟩ := own_form hown1 (by omega)
    have HD2 := hid (owns_und HD.out hU)
    have U4 := hid (U2.out.trans hU)
    have HO := hid hown1
    clear hown1 hgrow1 hU
    go_wp2_with fail
    rw [rounds_succ]
    go_wp2_with (go_at_call 40; refine (cut2 m _ (by rw [U4.out.cell hb]; exact HM.out)).mono ?_; rintro e w5 ⟨rfl, u5⟩; have U5 := hid u5; clear u5)
    refine (read_bob m _ (by rw [(U4.out.trans U5.out).cell hb]; exact HM.out)).mono ?_
    rintro e w6 ⟨rfl, u6⟩
    have U6 := hid (U4.out.trans (U5.out.trans u6))
    have HD3 := hid (owns_und HD2.out (U5.out.trans u6))
    have HO2 := hid (owns_und HO.out (U5.out.trans u6))
    clear u6 U5 HD2 HO HD
    go_wp2_with fail
    refine (user_any (some ⟨g1, 0, none⟩) none 1 cap1 0 0 1 sBob [sAnn] [] _ (by decide) rfl (by omega) ((own_name1 HO2.out).und (by repeat (first | exact Und.refl _ | assumption | refine Und.under ?_ _ | refine Und.alloc ?_ _ | refine Und.drew ?_ | refine Und.drewN ?_ _))) rfl (by omega) (fun h => absurd h (by simp))).mono ?_
    rw [user_bob]
    rintro e w7 ⟨rfl, X7, rfl⟩
    go_wp2_with (at_builtin; refine wpList_append_own _ rfl _ _ 26 rfl w.heap.size 40 i0 (.agg #[.string ⟨#[]⟩, .int .i64 0, .slice none 0 0]) 3 48 Tryd.underlying26 hi hz0 hz1 hz2 rfl (by decide) _ 1 [.string sAnn, .int .i64 3, .slice (some ⟨g, 0, none⟩) 2 cap] rfl (owns_und HO2.out (by repeat (first | exact Und.refl _ | assumption | refine Und.under ?_ _ | refine Und.alloc ?_ _ | refine Und.drew ?_ | refine Und.drewN ?_ _))) _ 1 1 [.string sBob, .int .i64 1, .slice none 0 0] rfl rfl ?_ (by simp; exact ⟨rfl, rfl, rfl⟩) (by unfold maxLen; omega) (by omega) ?_ ?_)
    · exact side3u _ _ _ _
    · exact (U6.out.trans ((by repeat (first | exact Und.refl _ | assumption | refine Und.under ?_ _ | refine Und.alloc ?_ _ | refine Und.drew ?_ | refine Und.drewN ?_ _)) : Und w6 _)).size
    · intro v2 w8 hown2 hgrow2 _
      obtain ⟨g2, cap2, rfl, hg2⟩ := own_form hown2 (by omega)
      have U8 := hid (Und.grown (U6.out.trans ((by repeat (first | exact Und.refl _ | assumption | refine Und.under ?_ _ | refine Und.alloc ?_ _ | refine Und.drew ?_ | refine Und.drewN ?_ _)) : Und w6 _)) hgrow2 (fun g' h => by simp [Value.ownBlock] at h; omega))
      have HD4 := hid ((owns_und HD3.out ((by repeat (first | exact Und.refl _ | assumption | refine Und.under ?_ _ | refine Und.alloc ?_ _ | refine Und.drew ?_ | refine Und.drewN ?_ _)) : Und w6 _)).kept hgrow2 (own_ne HD3.out HO2.out (by decide)))
      have HO3 := hid hown2
      clear hown2 hgrow2
      go_wp2_with fail
      rw [rounds_succ]
      go_wp2_with fail
      refine bodyPost_ret (v := .tuple #[.slice (some ⟨g2, 0, none⟩) 2 cap2, .int .i64 0, .int .i64 0]) (by simp [results, Tryd.results23, go_sem]) rfl ⟨_, _, rfl, HO3.out, HD4.out, U8.out⟩
end Go.Proofs.YthgmlkeojhfijaaDoor
