/- The contract of role's Parse: the users of any text, or the first error and its line. Conditions: the library's variables lie in memory. -/
import Derived.Test.YthgmlkeojhfijaaDoorRoleLineRef
import Derived.Test.YthgmlkeojhfijaaDoorRoleMany
namespace Go.Proofs.YthgmlkeojhfijaaDoor
open Go.RowKit

/-- The users of lines behind users. -/
noncomputable def parseS : List (List UInt8 × Bool) → List UserD → Nat → List UserD × Nat × Int
  | [], us, _ => (us, 0, 0)
  | (l, f) :: ls, us, n => match Ln.user l with
    | none => ([], n + 1, 2)
    | some u => if f = false then ([], n + 1, 2) else if us.length = 32 then ([], n + 1, 3) else
      if userE (us.map (·.1)) u.1 u.2.1 u.2.2 = 0 then parseS ls (us ++ [u]) (n + 1) else ([], n + 1, userE (us.map (·.1)) u.1 u.2.1 u.2.2)
noncomputable def parseT (s : ByteArray) : List UserD × Nat × Int := if 65536 < s.size then ([], 0, 3) else parseS (Ln.lines s.data.toList) [] 0
theorem parse_none {l : List UInt8} {f : Bool} {ls : List (List UInt8 × Bool)} {us : List UserD} {n : Nat} (h : Ln.user l = none) : parseS ((l, f) :: ls) us n = ([], n + 1, 2) := by rw [parseS, h]
theorem parse_open {l : List UInt8} {ls : List (List UInt8 × Bool)} {us : List UserD} {n : Nat} : parseS ((l, false) :: ls) us n = ([], n + 1, 2) := by
  rw [parseS]; split
  · rfl
  · rw [if_pos rfl]
theorem parse_full {l : List UInt8} {ls : List (List UInt8 × Bool)} {us : List UserD} {n : Nat} {u : UserD} (h : Ln.user l = some u) (h2 : us.length = 32) : parseS ((l, true) :: ls) us n = ([], n + 1, 3) := by
  rw [parseS, h]; simp only; rw [if_neg (by simp), if_pos h2]
theorem parse_bad {l : List UInt8} {ls : List (List UInt8 × Bool)} {us : List UserD} {n : Nat} {u : UserD} {e : Int} (h : Ln.user l = some u) (h2 : ¬ us.length = 32) (he : userE (us.map (·.1)) u.1 u.2.1 u.2.2 = e) (h0 : ¬ e = 0) : parseS ((l, true) :: ls) us n = ([], n + 1, e) := by
  rw [parseS, h]; simp only; rw [if_neg (by simp), if_neg h2, he, if_neg h0]
theorem parse_next {l : List UInt8} {ls : List (List UInt8 × Bool)} {us : List UserD} {n : Nat} {u : UserD} (h : Ln.user l = some u) (h2 : ¬ us.length = 32) (he : userE (us.map (·.1)) u.1 u.2.1 u.2.2 = 0) : parseS ((l, true) :: ls) us n = parseS ls (us ++ [u]) (n + 1) := by
  rw [parseS, h]; simp only; rw [if_neg (by simp), if_neg h2, if_pos he]

def ParseEnd (s : ByteArray) (w : World) (e : Ending) (w' : World) : Prop :=
  ∃ (us : List UserD) (n : Nat) (er : Int) (A : Option Addr) (c : Nat), parseT s = (us, n, er) ∧ e = .returned (.tuple #[.slice A us.length c, .int .i64 n, .int .i64 er]) ∧ UsersAt w' A us ∧ us.length ≤ c ∧ c ≤ 9223372036854775807 ∧ Und w w'
theorem ParseEnd.err {s : ByteArray} {w w' : World} {n : Nat} {er : Int} (h : parseT s = ([], n, er)) (u : Und w w') : ParseEnd s w (.returned (.tuple #[.slice none 0 0, .int .i64 n, .int .i64 er])) w' :=
  ⟨[], n, er, none, 0, h, rfl, fun h => absurd h (by simp), by simp, by omega, u⟩
def SzU (us : List UserD) : Prop := ∀ u ∈ us, u.1.size ≤ 9223372036854775807 ∧ u.2.2.length ≤ 9223372036854775807
def PaRel (s : ByteArray) (w : World) (s0 s2 s3 : Value) (wr : World) : Prop :=
  ∃ (t : ByteArray) (us : List UserD), s0 = .string t ∧ s3 = .int .i64 us.length ∧ us.length ≤ 32 ∧ t.size ≤ 65536 ∧ OutAt wr w.heap.size s2 us ∧ SzU us ∧ parseT s = parseS (Ln.lines t.data.toList) us us.length ∧ Und w wr
def strSz : Value → Nat
  | .string t => t.size
  | _ => 0

theorem cut_any (t : ByteArray) (w : World) (ht : t.size < 4294967281) (hne : t.data.toList ≠ []) (hL : LibAt w) : Calls Tryd.prog 40 #[.string t, .string ⟨#[10]⟩] w fun e w' => ∃ (a b : ByteArray) (f : Bool), e = .returned (.tuple #[.string a, .string b, .bool f]) ∧ Und w w' ∧ a.size ≤ t.size ∧
    ((f = false ∧ Ln.lines t.data.toList = [(a.data.toList, false)]) ∨ (f = true ∧ Ln.lines t.data.toList = (a.data.toList, true) :: Ln.lines b.data.toList ∧ b.size < t.size)) := by
  obtain ⟨m, hm⟩ := hL.len
  refine (Tryd.strings_Cut t ⟨#[10]⟩ m w ht hm).mono ?_
  rintro e w' ⟨rfl, n, rfl⟩
  have hl : t.data.toList.length = t.size := by simp
  have hs : (⟨#[10]⟩ : ByteArray).data.toList = [10] := rfl
  rw [hs]
  rcases Ln.cut_lines t.data.toList hne with ⟨hc, hli⟩ | ⟨a, b, hc, hli, hb⟩
  · rw [hc]
    exact ⟨_, _, false, rfl, (Und.refl w).drewN n, Nat.le_of_eq (by show t.data.toList.toArray.size = t.data.size; simp), Or.inl ⟨rfl, by rw [hli]⟩⟩
  · rw [hc]
    have ha : a.length ≤ t.data.toList.length := by
      have h2 : (Lib.cut t.data.toList [10]).1.length ≤ t.data.toList.length := by
        unfold Lib.cut; split
        · simp; omega
        · simp
      rw [hc] at h2; exact h2
    exact ⟨_, _, true, rfl, (Und.refl w).drewN n, by show a.toArray.size ≤ _; simp at ha ⊢; exact ha, Or.inr ⟨rfl, by simpa using hli, by show b.toArray.size < _; simp at hb ⊢; exact hb⟩⟩

set_option maxRecDepth 20000 in
set_option maxHeartbeats 6400000 in
theorem parse_any (s : ByteArray) (w : World) (hs : s.size ≤ 9223372036854775807) (hL : LibAt w) : Calls Tryd.prog 23 #[.string s] w (ParseEnd s w) := by
  have HL := hid hL
  clear hL
  by_cases hlong : 65536 < s.size
  · have hp : parseT s = ([], 0, 3) := by unfold parseT; rw [if_pos hlong]
    have HP := hid hp
    have h1 : 65536 < (s.size : Int) := by omega
    clear hp hlong
    go_enter Tryd.func23, Tryd.ntmps23
    go_wp2
    go_ret3
    exact ParseEnd.err HP.out (Und.refl _)
  have hp : parseT s = parseS (Ln.lines s.data.toList) [] 0 := by unfold parseT; rw [if_neg hlong]
  have HP := hid hp
  have h1 : ¬ 65536 < (s.size : Int) := by omega
  have h2 : s.size ≤ 65536 := by omega
  clear hp hlong
  obtain ⟨iu, hiu, hzu0, hzu1, hzu2⟩ := info_parts info_user
  go_enter Tryd.func23, Tryd.ntmps23
  go_wp2
  go_loopw [0, 2, 3] (fun s0 s2 s3 wr => PaRel s w s0 s2 s3 wr) (fun s0 _ _ _ => strSz s0)
  case atStart => exact ⟨s, [], rfl, rfl, by simp, h2, ⟨[], rfl, World.ownsRow_nil _ _ _ _, fun x hx => (by simp at hx)⟩, fun u hu => (by cases hu), HP.out, Und.refl _⟩
  case round =>
    obtain ⟨t, us, rfl, rfl, hul, ht, hO, hsz, hpt, hu⟩ := hrel
    have HO := hid hO
    have HSZ := hid hsz
    have HPT := hid hpt
    have HU := hid hu
    clear hO hsz hpt hu
    by_cases hte : t.toList.isEmpty = true
    · have hp2 : parseT s = (us, 0, 0) := by
        have : t.data.toList = [] := by rw [Lib.toList_data] at hte; exact List.isEmpty_iff.1 hte
        rw [HPT.out, this, Ln.lines, parseS]
      have HP2 := hid hp2
      obtain ⟨A, c, rfl, hc1, hc2, _⟩ := HO.out.form
      have HC2 := hid hc2
      clear hp2 hc2
      go_wp2
      go_ret3
      exact ⟨us, 0, 0, A, c, HP2.out, rfl, HO.out.users rfl HSZ.out, hc1, by have := HC2.out; unfold maxLen at this; omega, HU.out⟩
    · have hte' : t.toList.isEmpty = false := by simpa using hte
      have hne : t.data.toList ≠ [] := fun h => hte (by rw [Lib.toList_data, h]; rfl)
      have HNE := hid hne
      clear hte hne
      go_wp2_with fail
      refine (cut_any t _ (by omega) HNE.out (HL.out.und HU.out)).mono ?_
      rintro e w1 ⟨a, b, f, rfl, hu1, ha, hf⟩
      have HU1 := hid (HU.out.trans hu1)
      have HO1 := hid (HO.out.und hu1)
      have HF := hid hf
      clear hu1 hf HU HO
      go_wp2_with fail
      refine (read_any a _ (by omega) (HL.out.und HU1.out)).mono ?_
      rintro e w2 ⟨hu2, hra⟩
      have HU2 := hid (HU1.out.trans hu2)
      have HO2 := hid (HO1.out.und hu2)
      have HU12 := hid hu2
      clear hu2
      have hli : ∃ ls, Ln.lines t.data.toList = (a.data.toList, f) :: ls := by
        rcases HF.out with ⟨rfl, h⟩ | ⟨rfl, h, _⟩
        · exact ⟨_, h⟩
        · exact ⟨_, h⟩
      obtain ⟨ls, hli⟩ := hli
      have HLI := hid hli
      clear hli
      unfold ReadAs at hra
      cases hus : Ln.user a.data.toList with
      | none =>
        rw [hus] at hra
        simp only at hra
        subst hra
        have hp2 : parseT s = ([], us.length + 1, 2) := by rw [HPT.out, HLI.out, parse_none hus]
        have HP2 := hid hp2
        clear hus hp2
        unfold zeroU
        cases f
        all_goals
          go_wp2
          go_ret3
          exact ParseEnd.err HP2.out (HU2.out.trans (by repeat (first | exact Und.refl _ | assumption | refine Und.under ?_ _ | refine Und.alloc ?_ _ | refine Und.drew ?_ | refine Und.drewN ?_ _)))
      | some u =>
        rw [hus] at hra
        simp only at hra
        obtain ⟨v, rfl, hv⟩ := hra
        have HUS := hid hus
        have hsu := Ln.user_size _ _ hus
        have hla : a.data.toList.length = a.size := by simp
        have hsu1 : u.1.size ≤ 65536 := by omega
        have hsu2 : u.2.2.length ≤ 65536 := by omega
        obtain ⟨Dv, cv, rfl, hcv1, hcv2⟩ := own_slice hv
        clear hus hsu hla hcv2
        cases f
        · have hp2 : parseT s = ([], us.length + 1, 2) := by rw [HPT.out, HLI.out, parse_open]
          have HP2 := hid hp2
          clear hp2 hv
          go_wp2
          go_ret3
          exact ParseEnd.err HP2.out (HU2.out.trans (by repeat (first | exact Und.refl _ | assumption | refine Und.under ?_ _ | refine Und.alloc ?_ _ | refine Und.drew ?_ | refine Und.drewN ?_ _)))
        · by_cases h32 : us.length = 32
          · have hp2 : parseT s = ([], us.length + 1, 3) := by rw [HPT.out, HLI.out, parse_full HUS.out h32]
            have HP2 := hid hp2
            obtain ⟨A, c, rfl, _⟩ := HO2.out.form
            have hb32 : ((us.length : Int) == 32) = true := by simp; omega
            clear hp2 hv h32
            go_wp2
            go_ret3
            exact ParseEnd.err HP2.out (HU2.out.trans (by repeat (first | exact Und.refl _ | assumption | refine Und.under ?_ _ | refine Und.alloc ?_ _ | refine Und.drew ?_ | refine Und.drewN ?_ _)))
          · have hb32 : ((us.length : Int) == 32) = false := by simp; omega
            obtain ⟨A, c, rfl, hc1, hc2, _⟩ := HO2.out.form
            have hUsers := HO2.out.users rfl HSZ.out
            have hNames := hUsers.names us.length (Nat.le_refl _)
            rw [List.take_length] at hNames
            have HNM := hid hNames
            have HIV := hid (ints_own hv)
            have HV := hid hv
            have H32 := hid h32
            have hue := fun W hN hZ => user_any A Dv us.length c u.2.2.length cv u.2.1 u.1 (us.map (·.1)) u.2.2 W (by omega) (by simp) (by omega) hN rfl (by omega) hZ
            obtain ⟨q, hq⟩ : ∃ q, q = userE (us.map (·.1)) u.1 u.2.1 u.2.2 := ⟨_, rfl⟩
            rw [← hq] at hue
            have HQ := hid hq
            have HUE := hid hue
            have HC2 := hid hc2
            clear hUsers hNames hv h32 hq hue hc2
            go_wp2_with fail
            refine (HUE.out _ (HNM.out.und (by repeat (first | exact Und.refl _ | assumption | refine Und.under ?_ _ | refine Und.alloc ?_ _ | refine Und.drew ?_ | refine Und.drewN ?_ _))) (HIV.out.und (by repeat (first | exact Und.refl _ | assumption | refine Und.under ?_ _ | refine Und.alloc ?_ _ | refine Und.drew ?_ | refine Und.drewN ?_ _)))).mono ?_
            rintro e w' ⟨rfl, X, rfl⟩
            by_cases hq0 : q = 0
            · subst hq0
              obtain ⟨vs, o1, o2, o3⟩ := HO2.out
              have O1 := hid o1
              have O2 := hid o2
              have O3 := hid o3
              have hw12 := HU1.out.size
              have hww2 := HU2.out.size
              clear o1 o2 o3
              go_wp2_with (at_builtin; refine wpList_append_own _ rfl _ _ 26 rfl w.heap.size 40 iu (.agg #[.string ⟨#[]⟩, .int .i64 0, .slice none 0 0]) 3 48 Tryd.underlying26 hiu hzu0 hzu1 hzu2 rfl (by decide) _ us.length _ rfl (owns_und O2.out (by repeat (first | exact Und.refl _ | assumption | refine Und.under ?_ _ | refine Und.alloc ?_ _ | refine Und.drew ?_ | refine Und.drewN ?_ _))) _ 1 1 [.string u.1, .int .i64 u.2.1, .slice Dv u.2.2.length cv] rfl rfl ?_ ?_ (by unfold maxLen; omega) (by omega) ?_ ?_)
              · exact side3 _ _ _ _ _
              · intro y hy
                simp at hy
                rcases hy with rfl | rfl | rfl <;> rfl
              · exact Nat.le_trans hww2 (Und.size (a := w2) (by repeat (first | exact Und.refl _ | assumption | refine Und.under ?_ _ | refine Und.alloc ?_ _ | refine Und.drew ?_ | refine Und.drewN ?_ _)))
              · intro v1 w4 hown4 hgrow4 hnil4
                have hO4 : OutAt w4 w.heap.size v1 (us ++ [u]) := OutAt.push O1.out (owns_und O2.out (by repeat (first | exact Und.refl _ | assumption | refine Und.under ?_ _ | refine Und.alloc ?_ _ | refine Und.drew ?_ | refine Und.drewN ?_ _))) (fun x hx => owns_und (O3.out x hx) (by repeat (first | exact Und.refl _ | assumption | refine Und.under ?_ _ | refine Und.alloc ?_ _ | refine Und.drew ?_ | refine Und.drewN ?_ _))) (own_low (owns_und HV.out (by repeat (first | exact Und.refl _ | assumption | refine Und.under ?_ _ | refine Und.alloc ?_ _ | refine Und.drew ?_ | refine Und.drewN ?_ _))) hw12) hown4 hgrow4
                have hU4 : Und w w4 := (HU2.out.trans (by repeat (first | exact Und.refl _ | assumption | refine Und.under ?_ _ | refine Und.alloc ?_ _ | refine Und.drew ?_ | refine Und.drewN ?_ _))).grown hgrow4 (fun g hg => owns_block O2.out g hg)
                have HO4 := hid hO4
                have HU4 := hid hU4
                clear hO4 hU4 hown4 hgrow4 hnil4
                go_wp2
                rcases HF.out with ⟨h, _⟩ | ⟨_, hl, hb⟩
                · cases h
                · refine ⟨⟨b, us ++ [u], rfl, congrArg (Value.int .i64) (by simp), by have := H32.out; simp; omega, by omega, HO4.out, fun y hy => ?_, ?_, HU4.out⟩, by simp [strSz]; omega⟩
                  · rcases List.mem_append.1 hy with hy | hy
                    · exact HSZ.out y hy
                    · simp at hy; subst hy; exact ⟨by omega, by omega⟩
                  · rw [HPT.out, hl, parse_next HUS.out H32.out HQ.out.symm]; simp
            · have hp2 : parseT s = ([], us.length + 1, q) := by rw [HPT.out, HLI.out, parse_bad HUS.out H32.out HQ.out.symm hq0]
              have HP2 := hid hp2
              have hqb : (q == 0) = false := by simpa using hq0
              clear hp2
              go_wp2
              go_ret3
              exact ParseEnd.err HP2.out (HU2.out.trans (by repeat (first | exact Und.refl _ | assumption | refine Und.under ?_ _ | refine Und.alloc ?_ _ | refine Und.drew ?_ | refine Und.drewN ?_ _)))
end Go.Proofs.YthgmlkeojhfijaaDoor
