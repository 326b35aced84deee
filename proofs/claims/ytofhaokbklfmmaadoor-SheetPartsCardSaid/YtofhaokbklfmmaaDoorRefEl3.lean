/- The reference's element at the format of a sheet. -/
import Derived.Test.YtofhaokbklfmmaaDoorRefDecode
namespace Go.Proofs.YtofhaokbklfmmaaDoor
open Go.RowKit

theorem slot_text {l : List UInt8} {t : List UInt8} {n : Nat} (h : St.slotL l = some (t, n)) : t.length ≤ n := by
  unfold St.slotL at h
  simp only [] at h
  split at h
  · simp only [Option.some.injEq, Prod.mk.injEq] at h
    obtain ⟨rfl, rfl⟩ := h
    omega
  · cases h
theorem sheet_ok : ElOk St.sheetL := by
  intro l k t n h
  obtain ⟨hk, h1, h2⟩ := St.sheet_len h
  refine ⟨by omega, h1, h2, ?_⟩
  match l, h with
  | c :: r, h =>
    by_cases c34 : c.toNat = 34
    · rw [St.sheet_34 c34] at h
      split at h
      · simp only [Option.some.injEq, Prod.mk.injEq] at h
        obtain ⟨_, rfl, rfl⟩ := h
        simp
      · cases h
    · by_cases c123 : c.toNat = 123
      · rw [St.sheet_123 c123] at h
        split at h
        · simp only [Option.some.injEq, Prod.mk.injEq] at h
          obtain ⟨_, rfl, rfl⟩ := h
          simp
        · cases hs : St.slotL (c :: r) with
          | none => rw [hs] at h; cases h
          | some x =>
            rw [hs] at h
            obtain ⟨x1, x2⟩ := x
            simp only [Option.map_some, Option.some.injEq, Prod.mk.injEq] at h
            obtain ⟨_, rfl, rfl⟩ := h
            exact slot_text hs
      · rw [St.sheet_else c34 c123] at h
        simp only [Option.some.injEq, Prod.mk.injEq] at h
        obtain ⟨_, rfl, rfl⟩ := h
        simp
set_option maxHeartbeats 3200000 in
theorem sheet_at : ElAt 3 St.sheetL := by
  intro s w hs h0
  obtain ⟨k, x, m, hv⟩ := elV_form (St.sheetL s.data.toList)
  have hsh := fun W => rsheet_any s W hs h0
  rw [hv] at hsh
  have HS := hid hsh
  have HV := hid hv
  clear hsh hv
  go_enter Tryd.func37, Tryd.ntmps37
  go_wp2_with (go_at_call 63; refine (HS.out _).mono ?_; rintro e w' ⟨rfl, X, rfl⟩)
  refine bodyPost_ret (v := .tuple #[.agg #[.int .i64 k, .string x, .int .i64 0], .int .i64 m]) (by simp [results, Tryd.results37, go_sem]) rfl ⟨?_, (by repeat (first | exact Und.refl _ | assumption | refine Und.under ?_ _ | refine Und.alloc ?_ _ | refine Und.drew ?_ | refine Und.drewN ?_ _))⟩
  rw [HV.out]
end Go.Proofs.YtofhaokbklfmmaaDoor
