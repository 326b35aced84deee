/- The contract of the reference's Decode: what it gives is St.dec of the format's element. Condition: elements bear no tags; the text is no longer than a text can be. -/
import Derived.Test.YtiifjfbfkhhpeaaDoorRefCat
import Derived.Test.YtiifjfbfkhhpeaaDoorRefEl
set_option linter.unusedVariables false
set_option linter.unusedSimpArgs false
namespace Go.Proofs.YtiifjfbfkhhpeaaDoor
open Go.RowKit

/-- What an element function gives: no tags, at least one byte, no more text than bytes. -/
def ElOk (E : List UInt8 → St.El) : Prop := ∀ l k t n, E l = some (k, t, n) → (k = 0 ∨ k = 1 ∨ k = 5) ∧ 1 ≤ n ∧ n ≤ l.length ∧ t.length ≤ n
def ElAt (fmt : Int) (E : List UInt8 → St.El) : Prop :=
  ∀ (s : ByteArray) (w : World), s.size ≤ 4611686018427387904 → 1 ≤ s.size → Calls Tryd.prog 38 #[.int .i64 fmt, .string s] w fun e w' => e = .returned (elV (E s.data.toList)) ∧ Und w w'
def RDecEnd (R : List St.It × List Nat × Nat × Int) (w : World) (e : Ending) (w' : World) : Prop :=
  ∃ v1 v2, e = .returned (.tuple #[v1, v2, .int .i64 (R.2.2.1 : Int), .int .i64 R.2.2.2]) ∧ w'.ownsRow w.heap.size 57 3 v1 R.1.length (cellsIt R.1) ∧ w'.ownsRow w.heap.size 3 1 v2 R.2.1.length (cellsN R.2.1) ∧ Und w w'
def DcRel (w : World) (E : List UInt8 → St.El) (raw : ByteArray) (s8 s9 s10 s11 s12 s13 : Value) (wr : World) : Prop :=
  ∃ (a d : Nat) (f : List St.It) (cuts : List Nat) (fuel : Nat), s9 = .slice none 0 0 ∧ s11 = .int .i64 a ∧ s12 = .int .i64 d ∧ s13 = .int .i64 0 ∧ a ≤ raw.size ∧ raw.size - a ≤ fuel ∧
    wr.ownsRow w.heap.size 57 3 s8 f.length (cellsIt f) ∧ wr.ownsRow w.heap.size 3 1 s10 cuts.length (cellsN cuts) ∧ St.Nm f ∧ tot f ≤ a ∧ f.length ≤ 512 ∧ cuts.length ≤ 1024 ∧
    St.dec E raw.size raw.data.toList 0 0 [] [] = St.dec E fuel (raw.data.toList.drop a) a d f cuts ∧ Und w wr
theorem drop_ne {raw : ByteArray} {a : Nat} (h : a < raw.size) : raw.data.toList.drop a ≠ [] := by
  intro e
  have := congrArg List.length e
  simp at this; omega

set_option maxRecDepth 20000 in
set_option maxHeartbeats 6400000 in
theorem rdecode_any (fmt : Int) (E : List UInt8 → St.El) (hE : ElAt fmt E) (hok : ElOk E) (raw : ByteArray) (w : World) (hr : raw.size ≤ 4611686018427387904) :
    Calls Tryd.prog 19 #[.int .i64 fmt, .string raw] w (RDecEnd (St.dec E raw.size raw.data.toList 0 0 [] []) w) := by
  obtain ⟨i0, hi, hz0, hz1, hz2⟩ := info_parts info_int
  go_enter Tryd.func19, Tryd.ntmps19
  go_wp2
  go_loopw [8, 9, 10, 11, 12, 13] (fun s8 s9 s10 s11 s12 s13 wr => DcRel w E raw s8 s9 s10 s11 s12 s13 wr) (fun _ _ _ s11 _ _ _ => raw.size + 1 - (intOf s11).toNat)
  case atStart => exact ⟨0, 0, [], [], raw.size, rfl, rfl, rfl, rfl, by omega, by omega, World.ownsRow_nil _ _ _ _, World.ownsRow_nil _ _ _ _, St.nm_nil, by simp [tot], by simp, by simp, by simp, Und.refl _⟩
  case round =>
    obtain ⟨a, d, f, cuts, fuel, rfl, rfl, rfl, rfl, ha, hfu, hO8, hO10, hN, ht, h1, h2, hD, hu⟩ := hrel
    have HD := hid hD
    have HU := hid hu
    have HO8 := hid hO8
    have HO10 := hid hO10
    have hsz := hu.size
    have HN := hid hN
    clear hN
    by_cases hlt : a < raw.size
    · have h0 := drop_ne hlt
      obtain ⟨fuel, rfl⟩ : ∃ m, fuel = m + 1 := ⟨fuel - 1, by omega⟩
      obtain ⟨x, hx⟩ : ∃ x, raw.extract a raw.size = x := ⟨_, rfl⟩
      have hxl : x.data.toList = raw.data.toList.drop a := by rw [← hx, Lib.extract_data, List.take_of_length_le (by simp)]
      have hxs : x.size = raw.size - a := by rw [← hx]; simp
      have hel := fun W => hE x W (by omega) (by omega)
      rw [hxl] at hel
      have HEL := hid hel
      have y1 : (a : Int) ≤ (raw.size : Int) := by omega
      have y2 : (a : Int) < (raw.size : Int) := by omega
      clear hel hD hu hE
      cases hs : E (raw.data.toList.drop a) with
      | none =>
        have hd2 := hid (HD.out.trans (St.dec_none fuel a d _ cuts h0 hs))
        have HEL2 : Hid (∀ W, Calls Tryd.prog 38 #[.int .i64 fmt, .string x] W fun e w' => e = .returned (.tuple #[.agg #[.int .i64 0, .string ⟨#[]⟩, .int .i64 0], .int .i64 0]) ∧ Und W w') := hid (by have := HEL.out; rw [hs] at this; exact this)
        clear hs h0 HD HEL hxl hO8 hO10
        go_wp2_with (go_at_call 38; refine (HEL2.out _).mono ?_; rintro e w2 ⟨rfl, hu2⟩)
        have hu3 := HU.out.trans hu2
        refine bodyPost_ret (v := .tuple #[.slice none 0 0, .slice none 0 0, .int .i64 a, .int .i64 2]) (by simp [results, Tryd.results19, go_sem]) rfl ?_
        unfold RDecEnd
        rw [hd2.out]
        exact ⟨_, _, rfl, World.ownsRow_nil _ _ _ _, World.ownsRow_nil _ _ _ _, (by repeat (first | exact Und.refl _ | assumption | refine Und.under ?_ _ | refine Und.alloc ?_ _ | refine Und.drew ?_ | refine Und.drewN ?_ _))⟩
      | some q =>
        obtain ⟨k, t, n⟩ := q
        obtain ⟨hk, hn1, hn2, htn⟩ := hok _ _ _ _ hs
        have hn3 : a + n ≤ raw.size := by simp at hn2; omega
        have d0 : ((n : Int) == 0) = false := by simp; omega
        have hdl : (raw.data.toList.drop a).drop n = raw.data.toList.drop (a + n) := by rw [List.drop_drop]
        have HEL2 : Hid (∀ W, Calls Tryd.prog 38 #[.int .i64 fmt, .string x] W fun e w' => e = .returned (.tuple #[.agg #[.int .i64 k, .string ⟨t.toArray⟩, .int .i64 0], .int .i64 n]) ∧ Und W w') := hid (by have := HEL.out; rw [hs] at this; exact this)
        by_cases hk0 : k = 0
        · subst hk0
          have hd2 := HD.out.trans (St.dec_skip fuel a d _ cuts h0 hs)
          rw [hdl] at hd2
          have HD2 := hid hd2
          clear hs h0 HD HEL hxl hO8 hO10 hd2 hdl hn2
          go_wp2_with (go_at_call 38; refine (HEL2.out _).mono ?_; rintro e w2 ⟨rfl, hu2⟩)
          have hu3 := HU.out.trans hu2
          exact ⟨⟨a + n, d, f, cuts, fuel, rfl, congrArg (Value.int .i64) (by omega), rfl, rfl, hn3, by omega, own_und ((by repeat (first | exact Und.refl _ | assumption | refine Und.under ?_ _ | refine Und.alloc ?_ _ | refine Und.drew ?_ | refine Und.drewN ?_ _))) HO8.out, own_und ((by repeat (first | exact Und.refl _ | assumption | refine Und.under ?_ _ | refine Und.alloc ?_ _ | refine Und.drew ?_ | refine Und.drewN ?_ _))) HO10.out, HN.out, by omega, h1, h2, HD2.out, (by repeat (first | exact Und.refl _ | assumption | refine Und.under ?_ _ | refine Und.alloc ?_ _ | refine Und.drew ?_ | refine Und.drewN ?_ _))⟩, by simp [intOf]; omega⟩
        · have hk' : k = 1 ∨ k = 5 := by omega
          have hnl : St.normL (f ++ [(k, t, 0)]) = St.addI f (k, t, 0) := by rw [St.normL_snoc, HN.out]
          have htx : tot (f ++ [(k, t, 0)]) ≤ a + n := by rw [tot_snoc]; simp only; omega
          have hta := tot_add f (k, t, 0)
          have hla := (St.addI_len f (k, t, 0)).1
          have hng : St.Nm (St.addI f (k, t, 0)) := St.nm_add HN.out _
          obtain ⟨A8, c8, rfl, _, _, hA8⟩ := own_slice' hO8
          obtain ⟨A10, c10, rfl, _, _, hA10⟩ := own_slice' hO10
          have hcat : ∀ (W : World) (b : Nat), ItemsAt W A8 f → ItemsAt W (some ⟨b, 0, none⟩) [(k, t, 0)] → Calls Tryd.prog 40 #[.slice A8 f.length c8, .slice (some ⟨b, 0, none⟩) 1 1] W fun e w' => ∃ v, e = .returned v ∧ w'.ownsRow W.heap.size 57 3 v (St.addI f (k, t, 0)).length (cellsIt (St.addI f (k, t, 0))) ∧ Und W w' := by
            intro W b h h'
            have := concat_any A8 f.length c8 f (some ⟨b, 0, none⟩) 1 1 [(k, t, 0)] W rfl rfl (fun e => by have := hA8 e; omega) (fun e => by cases e) h h' (by omega) (by omega)
            rw [hnl] at this
            exact this
          have HCAT := hid hcat
          have hstep := St.dec_step fuel a d f cuts h0 hs hk0
          have hfull := St.dec_full fuel a d f cuts h0 hs hk0
          rw [hdl] at hstep
          have hIt := hid (items_own hO8 rfl)
          generalize hg : St.addI f (k, t, 0) = g at hcat hstep hfull hta hla hng HCAT
          have HST := hid hstep
          have HFU := hid hfull
          have HNG := hid hng
          have HLA := hid hla
          clear hcat hstep hfull hs h0 hdl HEL hxl hO8 hO10 hng hnl hn2 hg hla
          have q0 : (k == 0) = false := by rcases hk' with rfl | rfl <;> rfl
          have q2 : (k == 2) = false := by rcases hk' with rfl | rfl <;> rfl
          have q3 : (k == 3) = false := by rcases hk' with rfl | rfl <;> rfl
          have q4 : (k == 4) = false := by rcases hk' with rfl | rfl <;> rfl
          clear hk hk' hk0
          by_cases hb5 : 512 < g.length
          · have hd2 := HD.out.trans (HFU.out (.inl hb5))
            have HD2 := hid hd2
            have z5 : ((512 : Int) < (g.length : Int)) := by omega
            clear hd2 HD
            go_wp2_with (first | (go_at_call 38; refine (HEL2.out _).mono ?_; rintro e w2 ⟨rfl, hu2⟩) | (go_at_call 40; refine (HCAT.out _ _ ?_ ?_).mono ?_))
            · exact hIt.out.und ((by repeat (first | exact Und.refl _ | assumption | refine Und.under ?_ _ | refine Und.alloc ?_ _ | refine Und.drew ?_ | refine Und.drewN ?_ _)))
            · exact items_box2 _ _ _ _ _
            rintro e w3 ⟨v3, rfl, ho3, hu3⟩
            obtain ⟨A3, c3, rfl, _, _, _⟩ := own_slice' ho3
            have hu4 : Und wr w3 := Und.trans ((by repeat (first | exact Und.refl _ | assumption | refine Und.under ?_ _ | refine Und.alloc ?_ _ | refine Und.drew ?_ | refine Und.drewN ?_ _))) hu3
            have hu5 := HU.out.trans hu4
            clear ho3 hu3 hu2 hu4
            go_wp2
            refine bodyPost_ret (v := .tuple #[.slice none 0 0, .slice none 0 0, .int .i64 a, .int .i64 3]) (by simp [results, Tryd.results19, go_sem]) rfl ?_
            unfold RDecEnd
            rw [HD2.out]
            exact ⟨_, _, rfl, World.ownsRow_nil _ _ _ _, World.ownsRow_nil _ _ _ _, (by repeat (first | exact Und.refl _ | assumption | refine Und.under ?_ _ | refine Und.alloc ?_ _ | refine Und.drew ?_ | refine Und.drewN ?_ _))⟩
          · have z5 : ¬ ((512 : Int) < (g.length : Int)) := by omega
            by_cases hb6 : 1024 ≤ cuts.length
            · have hd2 := HD.out.trans (HFU.out (.inr hb6))
              have HD2 := hid hd2
              have z6 : ((1024 : Int) ≤ (cuts.length : Int)) := by omega
              clear hd2 HD
              go_wp2_with (first | (go_at_call 38; refine (HEL2.out _).mono ?_; rintro e w2 ⟨rfl, hu2⟩) | (go_at_call 40; refine (HCAT.out _ _ ?_ ?_).mono ?_))
              · exact hIt.out.und ((by repeat (first | exact Und.refl _ | assumption | refine Und.under ?_ _ | refine Und.alloc ?_ _ | refine Und.drew ?_ | refine Und.drewN ?_ _)))
              · exact items_box2 _ _ _ _ _
              rintro e w3 ⟨v3, rfl, ho3, hu3⟩
              obtain ⟨A3, c3, rfl, _, _, _⟩ := own_slice' ho3
              have hu4 : Und wr w3 := Und.trans ((by repeat (first | exact Und.refl _ | assumption | refine Und.under ?_ _ | refine Und.alloc ?_ _ | refine Und.drew ?_ | refine Und.drewN ?_ _))) hu3
              have hu5 := HU.out.trans hu4
              clear ho3 hu3 hu2 hu4
              go_wp2
              refine bodyPost_ret (v := .tuple #[.slice none 0 0, .slice none 0 0, .int .i64 a, .int .i64 3]) (by simp [results, Tryd.results19, go_sem]) rfl ?_
              unfold RDecEnd
              rw [HD2.out]
              exact ⟨_, _, rfl, World.ownsRow_nil _ _ _ _, World.ownsRow_nil _ _ _ _, (by repeat (first | exact Und.refl _ | assumption | refine Und.under ?_ _ | refine Und.alloc ?_ _ | refine Und.drew ?_ | refine Und.drewN ?_ _))⟩
            · have hd2 := HD.out.trans (HST.out (by omega))
              have HD2 := hid hd2
              have z6 : ¬ ((1024 : Int) ≤ (cuts.length : Int)) := by omega
              clear hd2 HD
              go_wp2_with (first | (go_at_call 38; refine (HEL2.out _).mono ?_; rintro e w2 ⟨rfl, hu2⟩) | (go_at_call 40; refine (HCAT.out _ _ ?_ ?_).mono ?_))
              · exact hIt.out.und ((by repeat (first | exact Und.refl _ | assumption | refine Und.under ?_ _ | refine Und.alloc ?_ _ | refine Und.drew ?_ | refine Und.drewN ?_ _)))
              · exact items_box2 _ _ _ _ _
              rintro e w3 ⟨v3, rfl, ho3, hu3⟩
              obtain ⟨A3, c3, rfl, _, _, _⟩ := own_slice' ho3
              have hu4 : Und wr w3 := Und.trans ((by repeat (first | exact Und.refl _ | assumption | refine Und.under ?_ _ | refine Und.alloc ?_ _ | refine Und.drew ?_ | refine Und.drewN ?_ _))) hu3
              have hs4 := hu4.size
              have HU5 := hid (HU.out.trans hu4)
              have HO10' := hid (own_und hu4 HO10.out)
              have HO3 := hid (own_low (base' := w.heap.size) ho3 (by have := hu2.size; simp; omega))
              have hc : w3.cell? ⟨w2.heap.size, 0, none⟩ = some (.int .i64 k) := (hu3.cell (show w2.heap.size < _ by simp; omega)).trans (by simp)
              haveI : LtW w2.heap.size w3 := LtW.of (by have := hu3.size; simp at this; omega)
              clear ho3 hu3 hu2
              go_wp2_with (at_builtin; refine wpList_append_own _ rfl _ _ 22 rfl w.heap.size 3 i0 (.int .i64 0) 1 8 Tryd.underlying22 hi hz0 hz1 hz2 rfl (by decide) (.slice A10 cuts.length c10) cuts.length (cellsN cuts) rfl ?_ _ 1 1 [.int .i64 d] rfl rfl ?_ ?_ (by unfold maxLen; omega) (by omega) ?_ ?_)
              · exact own_und ((by repeat (first | exact Und.refl _ | assumption | refine Und.under ?_ _ | refine Und.alloc ?_ _ | refine Und.drew ?_ | refine Und.drewN ?_ _))) HO10'.out
              · exact side1b _ _ _
              · intro u hu'; simp at hu'; subst hu'; rfl
              · have := HU5.out.size; simp; omega
              · intro v' w5 ho5 hg5 _
                rw [← cellsN_snoc] at ho5
                have HU6 := hid ((HU5.out.alloc _).grown hg5 (fun g hg => owns_block HO10'.out g hg))
                have hA : ∀ {W : World}, Und w3 W → W.grownBy w5 (Value.slice A10 cuts.length c10).ownBlock → w5.ownsRow w.heap.size 57 3 (.slice A3 g.length c3) g.length (cellsIt g) := fun hW h5 => (own_und hW HO3.out).kept h5 (rows_ne (own_und hW HO3.out) (own_und hW HO10'.out) (by decide))
                have HO3' := hid (hA ((by repeat (first | exact Und.refl _ | assumption | refine Und.under ?_ _ | refine Und.alloc ?_ _ | refine Und.drew ?_ | refine Und.drewN ?_ _))) hg5)
                have HO5 := hid ho5
                clear hg5 ho5 hA hc
                go_wp2
                exact ⟨⟨a + n, a + n, g, cuts ++ [d], fuel, rfl, congrArg (Value.int .i64) (by omega), congrArg (Value.int .i64) (by omega), rfl, hn3, by omega, HO3'.out, by simpa using HO5.out, HNG.out, by omega, by omega, by simp; omega, HD2.out, HU6.out⟩, by simp [intOf]; omega⟩
    · have haz : a = raw.size := by omega
      subst haz
      have hnil : raw.data.toList.drop raw.size = [] := List.drop_of_length_le (by simp)
      have hd2 := HD.out
      rw [hnil, St.dec_nil] at hd2
      have HD2 := hid hd2
      obtain ⟨A10, c10, rfl, _, _, hA10⟩ := own_slice' hO10
      have hsz2 := HU.out.size
      clear hlt hD HD hu hnil hd2 hO8 hO10
      go_wp2_with (at_builtin; refine wpList_append_own _ rfl _ _ 22 rfl w.heap.size 3 i0 (.int .i64 0) 1 8 Tryd.underlying22 hi hz0 hz1 hz2 rfl (by decide) (.slice A10 cuts.length c10) cuts.length (cellsN cuts) rfl ?_ _ 1 1 [.int .i64 d] rfl rfl ?_ ?_ (by unfold maxLen; omega) (by omega) ?_ ?_)
      · exact own_und ((by repeat (first | exact Und.refl _ | assumption | refine Und.under ?_ _ | refine Und.alloc ?_ _ | refine Und.drew ?_ | refine Und.drewN ?_ _))) HO10.out
      · exact side1b _ _ _
      · intro u hu'; simp at hu'; subst hu'; rfl
      · simp; omega
      · intro v' w5 ho5 hg5 _
        rw [← cellsN_snoc] at ho5
        have HU6 := hid ((HU.out.alloc _).grown hg5 (fun g hg => owns_block HO10.out g hg))
        have hA : ∀ {W : World} {v : Value}, Und wr W → W.grownBy w5 (Value.slice A10 cuts.length c10).ownBlock → wr.ownsRow w.heap.size 57 3 v f.length (cellsIt f) → w5.ownsRow w.heap.size 57 3 v f.length (cellsIt f) := fun hW h5 hv => (own_und hW hv).kept h5 (rows_ne (own_und hW hv) (own_und hW HO10.out) (by decide))
        have HO3' := hid (hA ((by repeat (first | exact Und.refl _ | assumption | refine Und.under ?_ _ | refine Und.alloc ?_ _ | refine Und.drew ?_ | refine Und.drewN ?_ _))) hg5 HO8.out)
        have HO5 := hid ho5
        clear hg5 ho5 hA
        go_wp2
        refine bodyPost_ret (v := .tuple #[_, v', .int .i64 0, .int .i64 0]) (by simp [results, Tryd.results19, go_sem]; rfl) rfl ?_
        unfold RDecEnd
        rw [HD2.out]
        exact ⟨_, _, rfl, HO3'.out, by simpa using HO5.out, HU6.out⟩
end Go.Proofs.YtiifjfbfkhhpeaaDoor
