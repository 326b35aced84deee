/- The contracts of resource's skipped, key and end, and of the library's Cut at a line feed and TrimLeft of blanks. Condition: the text is no longer than a text can be. -/
import Derived.Test.YtpahkhmheikebaaGreatDoorResDec
import Derived.Test.YtpahkhmheikebaaGreatDoorResSplPl
import Derived.Test.YtpahkhmheikebaaGreatDoorShelf
import Derived.Shelf.Strings.SlTrimAscii
import Derived.Lib.IndexBytes
import Derived.BigQuiet
namespace Go.Proofs.YtpahkhmheikebaaGreatDoor
open Go.RowKit

namespace St
theorem index_lf : ∀ l : List UInt8, Lib.indexByte l 10 = if lineN l < l.length then (lineN l : Int) else -1
  | [] => rfl
  | c :: l => by
    unfold Lib.indexByte
    by_cases h : c.toNat = 10
    · have h2 : c = 10 := by apply UInt8.toNat_inj.1; simpa using h
      subst h2
      simp [lineN]
    · have h2 : ¬ c = 10 := fun e => h (by rw [e]; rfl)
      have h3 : (c == 10) = false := by simpa using h2
      have e : lineN (c :: l) = lineN l + 1 := by unfold lineN; rw [List.takeWhile_cons_of_pos (by simpa using h), List.length_cons]
      rw [h3, index_lf l, e]
      simp only [List.length_cons, Bool.false_eq_true, if_false]
      by_cases h4 : lineN l < l.length
      · rw [if_pos h4, if_neg (by simp <;> omega), if_pos (by omega)]; try simp
      · rw [if_neg h4, if_pos (by simp), if_neg (by omega)]
theorem skip_line' (l : List UInt8) : skipB l = (match (l.take (lineN l)).dropWhile blkC with | [] => true | c :: _ => decide (c.toNat = 35)) := by
  have e : l.take (lineN l) = l.takeWhile (fun c => decide (c.toNat ≠ 10)) := (List.prefix_iff_eq_take.1 (List.takeWhile_prefix _)).symm
  rw [e]
  clear e
  induction l with
  | nil => rfl
  | cons c l ih =>
    unfold skipB at ih ⊢
    by_cases h10 : c.toNat = 10
    · have hb : blkC c = false := by unfold blkC; exact decide_eq_false (by omega)
      rw [List.takeWhile_cons_of_neg (by simp [h10]), List.dropWhile_cons_of_neg (by simp [hb])]
      simp [h10]
    · rw [List.takeWhile_cons_of_pos (by simpa using h10)]
      by_cases hb : blkC c = true
      · rw [List.dropWhile_cons_of_pos hb, List.dropWhile_cons_of_pos hb]; exact ih
      · rw [List.dropWhile_cons_of_neg hb, List.dropWhile_cons_of_neg hb]
        simp [h10]
end St
theorem index_any (s : ByteArray) (w : World) : Calls Tryz.prog 90 #[.string s, .string ⟨#[10]⟩] w fun e w' => e = .returned (.int .i64 (Lib.indexByte s.data.toList 10)) ∧ w' = w := Tryz.stringslite_Index_one s 10 w
theorem cut0_any (s : ByteArray) (w : World) (hs : s.size ≤ 4611686018427387904) : Calls Tryz.prog 77 #[.string s, .string ⟨#[10]⟩] w fun e w' => ∃ (x y : ByteArray) (f : Bool), e = .returned (.tuple #[.string x, .string y, .bool f]) ∧ x.data.toList = s.data.toList.take (St.lineN s.data.toList) ∧ Und w w' := by
  have hix := fun W => index_any s W
  rw [St.index_lf] at hix
  have hle := St.lineN_le s.data.toList
  rw [St.len_list] at hle
  by_cases h : St.lineN s.data.toList < s.data.toList.length
  · rw [if_pos h] at hix
    have h2 : St.lineN s.data.toList < s.size := by rw [St.len_list] at h; exact h
    have hx : (s.extract 0 (St.lineN s.data.toList)).data.toList = s.data.toList.take (St.lineN s.data.toList) := by rw [Lib.extract_data]; simp
    generalize St.lineN s.data.toList = n at *
    have HX := hid hx
    have HIX := hid hix
    have y1 : (n : Int) ≤ s.size := by omega
    have y2 : (n : Int) + 1 ≤ s.size := by omega
    clear hx hix h hle
    go_enter Tryz.func77, Tryz.ntmps77
    go_wp2_with (go_at_call 90; refine (HIX.out _).mono ?_; rintro e w' ⟨rfl, rfl⟩)
    go_quiet (fail)
    go_wp2
    go_ret3
    exact ⟨_, _, _, rfl, HX.out, (Und.refl _).drewN _⟩
  · rw [if_neg h] at hix
    have hx : s.data.toList = s.data.toList.take (St.lineN s.data.toList) := (List.take_of_length_le (by omega)).symm
    generalize St.lineN s.data.toList = n at *
    have HX := hid hx
    have HIX := hid hix
    clear hx hix h hle
    go_enter Tryz.func77, Tryz.ntmps77
    go_wp2_with (go_at_call 90; refine (HIX.out _).mono ?_; rintro e w' ⟨rfl, rfl⟩)
    go_ret3
    exact ⟨_, _, _, rfl, HX.out, Und.refl _⟩
theorem cut_any (s : ByteArray) (w : World) (hs : s.size ≤ 4611686018427387904) : Calls Tryz.prog 60 #[.string s, .string ⟨#[10]⟩] w fun e w' => ∃ (x y : ByteArray) (f : Bool), e = .returned (.tuple #[.string x, .string y, .bool f]) ∧ x.data.toList = s.data.toList.take (St.lineN s.data.toList) ∧ Und w w' := by
  have HC := hid (cut0_any s w hs)
  go_enter Tryz.func60, Tryz.ntmps60
  go_wp2_with fail
  refine HC.out.mono ?_
  rintro e w' ⟨x, y, f, rfl, hx, hu⟩
  have HX := hid hx
  have HU := hid hu
  clear hu
  clear hx
  go_wp2
  first | go_ret | go_ret3
  exact ⟨x, y, f, rfl, HX.out, HU.out⟩
theorem trim_any (s : ByteArray) (w : World) : Calls Tryz.prog 61 #[.string s, .string ⟨#[32, 9]⟩] w fun e w' => ∃ x : ByteArray, e = .returned (.string x) ∧ x.data.toList = s.data.toList.dropWhile St.blkC ∧ Und w w' := by
  have h := Any.strings_TrimLeft_laid Tryz.lays161 (by kernel_rfl) s ⟨#[32, 9]⟩ w (by decide) (ascii_of_all (by decide))
  refine Calls.mono (show Calls Tryz.prog 61 _ _ _ from h) ?_
  rintro e w' ⟨rfl, hb⟩
  refine ⟨_, rfl, ?_, Und.of_below hb⟩
  have e : (fun c : UInt8 => ([32, 9] : List UInt8).contains c) = St.blkC := by
    funext c
    unfold St.blkC
    rw [Bool.eq_iff_iff]
    simp only [List.contains_iff_mem, List.mem_cons, List.not_mem_nil, or_false, decide_eq_true_eq]
    constructor
    · rintro (rfl | rfl) <;> simp
    · rintro (h | h)
      · exact .inl (by apply UInt8.toNat_inj.1; simpa using h)
      · exact .inr (by apply UInt8.toNat_inj.1; simpa using h)
  show Lib.trimLeftS s.data.toList [32, 9] = _
  unfold Lib.trimLeftS
  exact congrArg (fun p => s.data.toList.dropWhile p) e
set_option maxRecDepth 20000 in
set_option maxHeartbeats 3200000 in
theorem skipped_any (d : ByteArray) (a : Nat) (w : World) (ha : a ≤ d.size) (hd : d.size ≤ 4611686018427387904) :
    Calls Tryz.prog 43 #[.string d, .int .i64 a] w fun e w' => e = .returned (.tuple #[.int .i64 ((min (a + St.lineN (d.data.toList.drop a) + 1) d.size : Nat) : Int), .bool (St.skipB (d.data.toList.drop a))]) ∧ Und w w' := by
  obtain ⟨s, hE⟩ : ∃ s, d.extract a d.size = s := ⟨_, rfl⟩
  have hsz : s.size = d.size - a := by rw [← hE]; simp
  have hl : s.data.toList = d.data.toList.drop a := by rw [← hE]; simp; exact List.take_of_length_le (by simp)
  have y1 : (a : Int) ≤ d.size := by omega
  have HCU := hid (cut_any s w (by omega))
  rw [← hl]
  clear hl
  go_enter Tryz.func43, Tryz.ntmps43
  go_wp2_with fail
  refine HCU.out.mono ?_
  rintro e w1 ⟨x, y, f, rfl, hx, hu0⟩
  have HU0 := hid hu0
  clear hu0
  have hxs : x.size = St.lineN s.data.toList := by
    rw [← St.len_list, hx, List.length_take]
    have := St.lineN_le s.data.toList
    omega
  have hle := St.lineN_le s.data.toList
  rw [St.len_list, ← hxs] at hle
  have HTR := hid (trim_any x w1)
  have hsk := St.skip_line' s.data.toList
  rw [← hx] at hsk
  have HXS := hid hxs
  have HSK := hid hsk
  clear hx hxs hsk HCU
  go_wp2_with fail
  refine HTR.out.mono ?_
  rintro e w2 ⟨t, rfl, ht, hu⟩
  have HU := hid (HU0.out.trans hu)
  rw [← ht] at HSK
  have y2 : ¬ 9223372036854775807 < x.size := by omega
  have y3 : (min (a + x.size + 1) d.size : Nat) = min ((a : Int) + x.size + 1) d.size := by omega
  have HY3 := hid y3
  by_cases h0 : t.size = 0
  · have hnil : t.data.toList = [] := List.eq_nil_of_length_eq_zero (by rw [St.len_list]; exact h0)
    have hsb : St.skipB s.data.toList = true := by rw [HSK.out, hnil]
    have e0 : (t.toList == ([] : List UInt8)) = true := by rw [Lib.toList_data, hnil]; rfl
    have HSB := hid hsb
    clear hu ht hnil hsb HTR HSK y3 h0
    go_wp2_with fail
    go_quiet (fail)
    go_wp2
    refine bodyPost_ret (v := .tuple #[.int .i64 (min ((a : Int) + x.size + 1) d.size), .bool true]) (by simp [results, Tryz.results43, go_sem]) rfl ⟨?_, HU.out.drewN _⟩
    rw [← HXS.out, HSB.out, HY3.out]
  · have hcr := St.list_zero t (by omega)
    have e0 : (t.toList == ([] : List UInt8)) = false := by rw [Lib.toList_data, hcr]; rfl
    have z0 : 0 < t.size := by omega
    have hsb : St.skipB s.data.toList = ((t[0].toNat : Int) == 35) := by
      rw [HSK.out, hcr, Bool.eq_iff_iff]; simp; omega
    have HSB := hid hsb
    clear hu ht hcr hsb HTR HSK y3 h0
    cases hq : ((t[0].toNat : Int) == 35)
    all_goals
      rw [hq] at HSB
      go_wp2_with fail
      go_quiet (fail)
      go_wp2
      refine bodyPost_ret (v := .tuple #[.int .i64 (min ((a : Int) + x.size + 1) d.size), .bool _]) (by simp [results, Tryz.results43, go_sem]; rfl) rfl ⟨?_, HU.out.drewN _⟩
      rw [← HXS.out, HSB.out, HY3.out]
end Go.Proofs.YtpahkhmheikebaaGreatDoor
