/- The contract of the reference's ParseUsers: the users of any text, or the first error and its line. No conditions. -/
import Derived.Test.YthgmlkeojhfijaaDoorRoleParseAny
namespace Go.Proofs.YthgmlkeojhfijaaDoor
open Go.RowKit

def LnsOf (L : List (List UInt8 × Bool)) (ws : List ByteArray) (b : Bool) : Prop := (b = true ∧ L = ws.map lnT) ∨ (b = false ∧ ∃ ws' x, ws = ws' ++ [x] ∧ L = ws'.map lnT ++ [(x.data.toList, false)])
theorem LnsOf.len {L : List (List UInt8 × Bool)} {ws : List ByteArray} {b : Bool} (h : LnsOf L ws b) : L.length = ws.length := by
  rcases h with ⟨_, rfl⟩ | ⟨_, ws', x, rfl, rfl⟩ <;> simp
theorem LnsOf.at {L : List (List UInt8 × Bool)} {ws : List ByteArray} {b : Bool} (h : LnsOf L ws b) (k : Nat) (hk : k < ws.length) :
    ∃ f, L.drop k = (ws[k].data.toList, f) :: L.drop (k + 1) ∧ ((b = true ∧ f = true) ∨ (b = false ∧ f = true ∧ k + 1 ≠ ws.length) ∨ (b = false ∧ f = false ∧ k + 1 = ws.length)) := by
  have hl := h.len
  refine ⟨(L[k]'(by omega)).2, ?_, ?_⟩
  · rw [List.drop_eq_getElem_cons (by omega : k < L.length)]
    congr 1
    rcases h with ⟨_, rfl⟩ | ⟨_, ws', x, rfl, rfl⟩
    · simp [lnT]
    · by_cases hkl : k < ws'.length
      · simp [List.getElem_append, hkl, lnT]
      · have : k = ws'.length := by simp at hk; omega
        subst this; simp
  · rcases h with ⟨rfl, rfl⟩ | ⟨rfl, ws', x, rfl, rfl⟩
    · left; simp [lnT]
    · right
      by_cases hkl : k < ws'.length
      · left; simp [List.getElem_append, hkl, lnT]; omega
      · have : k = ws'.length := by simp at hk; omega
        subst this; right; simp
def PuRel (s : ByteArray) (w5 : World) (L : List (List UInt8 × Bool)) (s7 s23 : Value) (wr : World) : Prop :=
  ∃ us : List UserD, s23 = .int .i64 us.length ∧ us.length ≤ L.length ∧ us.length ≤ 32 ∧ OutAt wr w5.heap.size s7 us ∧ SzU us ∧ parseT s = parseS (L.drop us.length) us us.length ∧ Und w5 wr

set_option maxRecDepth 20000 in
set_option maxHeartbeats 6400000 in
theorem rparse_any (s : ByteArray) (w : World) (hs : s.size ≤ 9223372036854775807) : Calls Tryd.prog 33 #[.string s] w (ParseEnd s w) := by
  by_cases hlong : 65536 < s.size
  · have hp : parseT s = ([], 0, 3) := by unfold parseT; rw [if_pos hlong]
    have HP := hid hp
    have h1 : 65536 < (s.size : Int) := by omega
    clear hp hlong
    go_enter Tryd.func33, Tryd.ntmps33
    go_wp2
    go_ret3
    exact ParseEnd.err HP.out (Und.refl _)
  have hp : parseT s = parseS (Ln.lines s.data.toList) [] 0 := by unfold parseT; rw [if_neg hlong]
  have HP := hid hp
  have h1 : ¬ 65536 < (s.size : Int) := by omega
  have h2 : s.size ≤ 65536 := by omega
  clear hp hlong
  obtain ⟨iu, hiu, hzu0, hzu1, hzu2⟩ := info_parts info_user
  go_enter Tryd.func33, Tryd.ntmps33
  go_wp2_with fail
  refine (lines_any s _ (by omega)).mono ?_
  rintro e w5 ⟨ws, A, n, c, bw, rfl, hn, hns, hS, hu5, hL⟩
  have hL2 : LnsOf (Ln.lines s.data.toList) ws bw := hL
  have hxs : ∀ k (h : k < ws.length), ws[k].size ≤ s.size := by
    intro k h
    obtain ⟨f, hd, _⟩ := hL2.at k h
    have hm : (ws[k].data.toList, f) ∈ Ln.lines s.data.toList := List.mem_of_mem_drop (by rw [hd]; exact List.mem_cons_self)
    have := Ln.lines_le _ _ hm
    simpa using this
  have HXS := hid hxs
  have HL := hid hL2
  have HS := hid hS
  have HU5 := hid hu5
  have HNN := hid hn
  have hLl : (Ln.lines s.data.toList).length = n := by rw [hL2.len, hn]
  have HLL := hid hLl
  clear hxs hL hL2 hS hu5 hLl hn
  generalize Ln.lines s.data.toList = L at HP HL HLL
  go_wp2
  go_loopw [7, 23] (fun s7 s23 wr => PuRel s w5 L s7 s23 wr) (fun _ s23 _ => n + 1 - (intOf s23).toNat)
  case atStart => exact ⟨[], rfl, by simp, by simp, ⟨[], rfl, World.ownsRow_nil _ _ _ _, fun x hx => (by simp at hx)⟩, fun u hu => (by cases hu), HP.out, Und.refl _⟩
  case round =>
    obtain ⟨us, rfl, hkl, hul, hO, hsz, hpt, hu⟩ := hrel
    have HO := hid hO
    have HSZ := hid hsz
    have HPT := hid hpt
    have HU := hid hu
    clear hO hsz hpt hu
    by_cases hlt : us.length < n
    · have hlt2 : us.length < ws.length := by rw [HNN.out]; exact hlt
      obtain ⟨B, rfl, hSt⟩ := HS.out (by omega)
      have hxc0 : wr.cell? ⟨B, 0 + us.length, none⟩ = some (.string ws[us.length]) := (hSt.und HU.out) _ _ (List.getElem?_eq_getElem hlt2)
      have hxc : wr.cell? ⟨B, us.length, none⟩ = some (.string ws[us.length]) := by simpa using hxc0
      obtain ⟨f, hdrop, hf⟩ := HL.out.at us.length hlt2
      have hxs := HXS.out us.length hlt2
      generalize ws[us.length] = a at hxc hdrop hxs
      have hf2 : (bw = true ∧ f = true) ∨ (bw = false ∧ f = true ∧ ((us.length : Int) == (n : Int) - 1) = false) ∨ (bw = false ∧ f = false ∧ ((us.length : Int) == (n : Int) - 1) = true) := by
        rcases hf with h | ⟨h, h', h''⟩ | ⟨h, h', h''⟩
        · exact Or.inl h
        · exact Or.inr (Or.inl ⟨h, h', by simp; have := HNN.out; omega⟩)
        · exact Or.inr (Or.inr ⟨h, h', by simp; have := HNN.out; omega⟩)
      have HLI := hid hdrop
      have hs4 : a.size < 4294967281 := by omega
      clear hSt hxc0 hdrop hf hlt2
      go_wp2_with fail
      refine (line_any a _ hs4).mono ?_
      rintro e w2 ⟨hu2, hra⟩
      have HU2 := hid (HU.out.trans hu2)
      have HO2 := hid (HO.out.und hu2)
      have hww := hu2.size
      clear hu2 HO hxc
      unfold ReadAs at hra
      cases hus : Ln.user a.data.toList with
      | none =>
        rw [hus] at hra
        simp only at hra
        subst hra
        have hp2 : parseT s = ([], us.length + 1, 2) := by rw [HPT.out, HLI.out, parse_none hus]
        have HP2 := hid hp2
        clear hus hp2 hf2
        unfold zeroU
        go_wp2
        go_ret3
        exact ParseEnd.err HP2.out (HU5.out.trans (HU2.out.trans (by repeat (first | exact Und.refl _ | assumption | refine Und.under ?_ _ | refine Und.alloc ?_ _ | refine Und.drew ?_ | refine Und.drewN ?_ _))))
      | some u =>
        rw [hus] at hra
        simp only at hra
        obtain ⟨v, rfl, hv⟩ := hra
        have HUS := hid hus
        have hsu := Ln.user_size _ _ hus
        have hla : a.data.toList.length = a.size := by simp
        have hsu1 : u.1.size ≤ 65536 := by omega
        have hsu2 : u.2.2.length ≤ 65536 := by omega
        obtain ⟨Dv, cv, rfl, hcv1, hcv2⟩ := own_slice hv
        clear hus hsu hla hcv2
        have hfc : f = false ∨ f = true := by cases f; exact Or.inl rfl; exact Or.inr rfl
        rcases hfc with rfl | rfl
        · have hp2 : parseT s = ([], us.length + 1, 2) := by rw [HPT.out, HLI.out, parse_open]
          have HP2 := hid hp2
          clear hp2 hv
          rcases hf2 with ⟨_, h⟩ | ⟨_, h, _⟩ | ⟨rfl, _, hkb⟩
          · cases h
          · cases h
          · go_wp2
            go_ret3
            exact ParseEnd.err HP2.out (HU5.out.trans (HU2.out.trans (by repeat (first | exact Und.refl _ | assumption | refine Und.under ?_ _ | refine Und.alloc ?_ _ | refine Und.drew ?_ | refine Und.drewN ?_ _))))
        · have hf3 : ∃ kb : Bool, ((us.length : Int) == (n : Int) - 1) = kb ∧ (kb = false ∨ bw = true) := by
            rcases hf2 with ⟨h, _⟩ | ⟨_, _, h⟩ | ⟨_, h, _⟩
            · exact ⟨_, rfl, Or.inr h⟩
            · exact ⟨_, h, Or.inl rfl⟩
            · cases h
          obtain ⟨kb, hkb, hkw⟩ := hf3
          have hfk : (kb = false) ∨ (kb = true ∧ bw = true) := by
            cases kb
            · exact Or.inl rfl
            · rcases hkw with h | h
              · cases h
              · exact Or.inr ⟨rfl, h⟩
          clear hf2 hkw
          by_cases h32 : us.length = 32
          · have hp2 : parseT s = ([], us.length + 1, 3) := by rw [HPT.out, HLI.out, parse_full HUS.out h32]
            have HP2 := hid hp2
            obtain ⟨A, c, rfl, _⟩ := HO2.out.form
            have hb32 : 32 ≤ (us.length : Int) := by omega
            clear hp2 hv h32
            rcases hfk with rfl | ⟨rfl, rfl⟩
            all_goals
              go_wp2
              go_ret3
              exact ParseEnd.err HP2.out (HU5.out.trans (HU2.out.trans (by repeat (first | exact Und.refl _ | assumption | refine Und.under ?_ _ | refine Und.alloc ?_ _ | refine Und.drew ?_ | refine Und.drewN ?_ _))))
          · have hb32 : ¬ 32 ≤ (us.length : Int) := by omega
            obtain ⟨A3, c3, rfl, hc1, hc2, _⟩ := HO2.out.form
            have hUsers := HO2.out.users rfl HSZ.out
            have hNames := hUsers.names us.length (Nat.le_refl _)
            rw [List.take_length] at hNames
            have HNM := hid hNames
            have HIV := hid (ints_own hv)
            have HV := hid hv
            have H32 := hid h32
            have hue := fun W hN hZ => ruser_any A3 Dv us.length c3 u.2.2.length cv u.2.1 u.1 (us.map (·.1)) u.2.2 W (by omega) (by simp) (by omega) hN rfl (by omega) hZ
            obtain ⟨q, hq⟩ : ∃ q, q = userE (us.map (·.1)) u.1 u.2.1 u.2.2 := ⟨_, rfl⟩
            rw [← hq] at hue
            have HQ := hid hq
            have HUE := hid hue
            have HC2 := hid hc2
            clear hUsers hNames hv h32 hq hue hc2
            rcases hfk with rfl | ⟨rfl, rfl⟩
            all_goals
              go_wp2_with fail
              refine (HUE.out _ (HNM.out.und (by repeat (first | exact Und.refl _ | assumption | refine Und.under ?_ _ | refine Und.alloc ?_ _ | refine Und.drew ?_ | refine Und.drewN ?_ _))) (HIV.out.und (by repeat (first | exact Und.refl _ | assumption | refine Und.under ?_ _ | refine Und.alloc ?_ _ | refine Und.drew ?_ | refine Und.drewN ?_ _)))).mono ?_
              rintro e w' ⟨rfl, X, rfl⟩
              by_cases hq0 : q = 0
              · subst hq0
                obtain ⟨vs, o1, o2, o3⟩ := HO2.out
                have O1 := hid o1
                have O2 := hid o2
                have O3 := hid o3
                have hw12 := HU.out.size
                have hww2 := HU2.out.size
                clear o1 o2 o3
                go_wp2_with (at_builtin; refine wpList_append_own _ rfl _ _ 26 rfl w5.heap.size 40 iu (.agg #[.string ⟨#[]⟩, .int .i64 0, .slice none 0 0]) 3 48 Tryd.underlying26 hiu hzu0 hzu1 hzu2 rfl (by decide) _ us.length _ rfl (owns_und O2.out (by repeat (first | exact Und.refl _ | assumption | refine Und.under ?_ _ | refine Und.alloc ?_ _ | refine Und.drew ?_ | refine Und.drewN ?_ _))) _ 1 1 [.string u.1, .int .i64 u.2.1, .slice Dv u.2.2.length cv] rfl rfl ?_ ?_ (by unfold maxLen; omega) (by omega) ?_ ?_)
                · exact side3 _ _ _ _ _
                · intro y hy
                  simp at hy
                  rcases hy with rfl | rfl | rfl <;> rfl
                · exact Nat.le_trans hww2 (Und.size (a := w2) (by repeat (first | exact Und.refl _ | assumption | refine Und.under ?_ _ | refine Und.alloc ?_ _ | refine Und.drew ?_ | refine Und.drewN ?_ _)))
                · intro v1 w4 hown4 hgrow4 hnil4
                  have hO4 : OutAt w4 w5.heap.size v1 (us ++ [u]) := OutAt.push O1.out (owns_und O2.out (by repeat (first | exact Und.refl _ | assumption | refine Und.under ?_ _ | refine Und.alloc ?_ _ | refine Und.drew ?_ | refine Und.drewN ?_ _))) (fun x hx => owns_und (O3.out x hx) (by repeat (first | exact Und.refl _ | assumption | refine Und.under ?_ _ | refine Und.alloc ?_ _ | refine Und.drew ?_ | refine Und.drewN ?_ _))) (own_low (owns_und HV.out (by repeat (first | exact Und.refl _ | assumption | refine Und.under ?_ _ | refine Und.alloc ?_ _ | refine Und.drew ?_ | refine Und.drewN ?_ _))) hw12) hown4 hgrow4
                  have hU4 : Und w5 w4 := (HU2.out.trans (by repeat (first | exact Und.refl _ | assumption | refine Und.under ?_ _ | refine Und.alloc ?_ _ | refine Und.drew ?_ | refine Und.drewN ?_ _))).grown hgrow4 (fun g hg => owns_block O2.out g hg)
                  have HO4 := hid hO4
                  have HU4 := hid hU4
                  clear hO4 hU4 hown4 hgrow4 hnil4
                  go_wp2
                  refine ⟨⟨us ++ [u], congrArg (Value.int .i64) (by simp), by have := HLL.out; simp; omega, by have := H32.out; simp; omega, HO4.out, fun y hy => ?_, ?_, HU4.out⟩, by simp [intOf]; omega⟩
                  · rcases List.mem_append.1 hy with hy | hy
                    · exact HSZ.out y hy
                    · simp at hy; subst hy; exact ⟨by omega, by omega⟩
                  · rw [HPT.out, HLI.out, parse_next HUS.out H32.out HQ.out.symm]; simp
              · have hp2 : parseT s = ([], us.length + 1, q) := by rw [HPT.out, HLI.out, parse_bad HUS.out H32.out HQ.out.symm hq0]
                have HP2 := hid hp2
                have hqb : (q == 0) = false := by simpa using hq0
                clear hp2
                go_wp2
                go_ret3
                exact ParseEnd.err HP2.out (HU5.out.trans (HU2.out.trans (by repeat (first | exact Und.refl _ | assumption | refine Und.under ?_ _ | refine Und.alloc ?_ _ | refine Und.drew ?_ | refine Und.drewN ?_ _))))
    · have hk' : us.length = L.length := by have := HLL.out; omega
      have hp2 : parseT s = (us, 0, 0) := by rw [HPT.out, hk', List.drop_length, parseS]
      have HP2 := hid hp2
      obtain ⟨A2, c2, rfl, hc1, hc2, _⟩ := HO.out.form
      have HC2 := hid hc2
      clear hp2 hc2 hk'
      go_wp2
      go_ret3
      exact ⟨us, 0, 0, A2, c2, HP2.out, rfl, HO.out.users rfl HSZ.out, hc1, by have := HC2.out; unfold maxLen at this; omega, HU5.out.trans HU.out⟩
end Go.Proofs.YthgmlkeojhfijaaDoor
