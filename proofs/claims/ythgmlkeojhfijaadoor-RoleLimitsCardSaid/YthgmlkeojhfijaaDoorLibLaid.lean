/- What the rows lay of the library's variables, as the walks ask it. No conditions. -/
import Derived.Test.YthgmlkeojhfijaaDoorRoleNum
import Derived.Test.YthgmlkeojhfijaaDoorSized
import Derived.LaidMore
import Derived.Lay
import Derived.Stop.LaidErr
import Derived.Stop.Joined
import Derived.Lib.LaidTab
namespace Go.Proofs.YthgmlkeojhfijaaDoor
open Go.RowKit

theorem u8_lo {x : Int} (h : (Lit.int .u8 x).wf = true) : 0 ≤ x := by
  unfold Lit.wf at h
  rw [Bool.and_eq_true, decide_eq_true_eq, decide_eq_true_eq] at h
  exact h.1
theorem u8_hi {x : Int} (h : (Lit.int .u8 x).wf = true) : x ≤ 255 := by
  unfold Lit.wf at h
  rw [Bool.and_eq_true, decide_eq_true_eq, decide_eq_true_eq] at h
  exact h.2
theorem star_err : "*" ++ "errors.errorString" = "*errors.errorString" := by decide
theorem row_err (u : TypeId) (h : Tryd.prog.typeName? 3 u = some "*errors.errorString") : u = 124 :=
  typeName_ptr_named (nm := "errors.errorString") (by rw [star_err]; kernel_rfl) (by kernel_rfl) (by decide) u (by rw [star_err]; exact h)
theorem libAt_RoleParses {W : World} (hsh : W.ShapedOpen Tryd.prog) (h : laidMetH Tryd.prog Rows.roleParsesRow.laid W) : LibAt W := by
  rw [MakeChecks.laidMetH_plain _ _ _ (by kernel_rfl)] at h
  refine ⟨maxlen_some hsh, Lib.tabIs_of_head (g := 1) (by kernel_rfl) (by kernel_rfl) Tryd.underlying106 Tryd.underlying91 (by kernel_rfl) (by kernel_rfl) ((laidMet.tail (laidMet.tail h))), ?_, ?_⟩
  · obtain ⟨a, s, hv, _⟩ := laid_sentinel (g := 2) (ti := 64) (te := 126) (ts := 9) ((laidMet.tail (laidMet.tail (laidMet.tail (laidMet.tail (laidMet.tail h)))))) (by kernel_rfl) (by kernel_rfl) Tryd.underlying64 row_err Tryd.underlying124 Tryd.underlying126 rfl rfl Tryd.underlying9 (by kernel_rfl) (by kernel_rfl)
    exact ⟨_, (World.var?_cell (by kernel_rfl) hv 0).trans rfl, Or.inr ⟨_, _, rfl⟩⟩
  · obtain ⟨a, s, hv, _⟩ := laid_sentinel (g := 3) (ti := 64) (te := 126) (ts := 9) ((laidMet.tail (laidMet.tail (laidMet.tail (laidMet.tail h))))) (by kernel_rfl) (by kernel_rfl) Tryd.underlying64 row_err Tryd.underlying124 Tryd.underlying126 rfl rfl Tryd.underlying9 (by kernel_rfl) (by kernel_rfl)
    exact ⟨_, (World.var?_cell (by kernel_rfl) hv 0).trans rfl, Or.inr ⟨_, _, rfl⟩⟩
theorem libAt_RoleLimits {W : World} (hsh : W.ShapedOpen Tryd.prog) (h : laidMetH Tryd.prog Rows.roleLimitsRow.laid W) : LibAt W := by
  rw [MakeChecks.laidMetH_plain _ _ _ (by kernel_rfl)] at h
  refine ⟨maxlen_some hsh, Lib.tabIs_of_head (g := 1) (by kernel_rfl) (by kernel_rfl) Tryd.underlying106 Tryd.underlying91 (by kernel_rfl) (by kernel_rfl) ((laidMet.tail (laidMet.tail h))), ?_, ?_⟩
  · obtain ⟨a, s, hv, _⟩ := laid_sentinel (g := 2) (ti := 64) (te := 126) (ts := 9) ((laidMet.tail (laidMet.tail (laidMet.tail (laidMet.tail (laidMet.tail h)))))) (by kernel_rfl) (by kernel_rfl) Tryd.underlying64 row_err Tryd.underlying124 Tryd.underlying126 rfl rfl Tryd.underlying9 (by kernel_rfl) (by kernel_rfl)
    exact ⟨_, (World.var?_cell (by kernel_rfl) hv 0).trans rfl, Or.inr ⟨_, _, rfl⟩⟩
  · obtain ⟨a, s, hv, _⟩ := laid_sentinel (g := 3) (ti := 64) (te := 126) (ts := 9) ((laidMet.tail (laidMet.tail (laidMet.tail (laidMet.tail h))))) (by kernel_rfl) (by kernel_rfl) Tryd.underlying64 row_err Tryd.underlying124 Tryd.underlying126 rfl rfl Tryd.underlying9 (by kernel_rfl) (by kernel_rfl)
    exact ⟨_, (World.var?_cell (by kernel_rfl) hv 0).trans rfl, Or.inr ⟨_, _, rfl⟩⟩
theorem libAt_RoleFormats {W : World} (hsh : W.ShapedOpen Tryd.prog) (h : laidMetH Tryd.prog Rows.roleFormatsRow.laid W) : LibAt W := by
  rw [MakeChecks.laidMetH_plain _ _ _ (by kernel_rfl)] at h
  refine ⟨maxlen_some hsh, Lib.tabIs_of_head (g := 1) (by kernel_rfl) (by kernel_rfl) Tryd.underlying106 Tryd.underlying91 (by kernel_rfl) (by kernel_rfl) ((laidMet.tail (laidMet.tail h))), ?_, ?_⟩
  · obtain ⟨a, s, hv, _⟩ := laid_sentinel (g := 2) (ti := 64) (te := 126) (ts := 9) ((laidMet.tail (laidMet.tail (laidMet.tail (laidMet.tail (laidMet.tail h)))))) (by kernel_rfl) (by kernel_rfl) Tryd.underlying64 row_err Tryd.underlying124 Tryd.underlying126 rfl rfl Tryd.underlying9 (by kernel_rfl) (by kernel_rfl)
    exact ⟨_, (World.var?_cell (by kernel_rfl) hv 0).trans rfl, Or.inr ⟨_, _, rfl⟩⟩
  · obtain ⟨a, s, hv, _⟩ := laid_sentinel (g := 3) (ti := 64) (te := 126) (ts := 9) ((laidMet.tail (laidMet.tail (laidMet.tail (laidMet.tail h))))) (by kernel_rfl) (by kernel_rfl) Tryd.underlying64 row_err Tryd.underlying124 Tryd.underlying126 rfl rfl Tryd.underlying9 (by kernel_rfl) (by kernel_rfl)
    exact ⟨_, (World.var?_cell (by kernel_rfl) hv 0).trans rfl, Or.inr ⟨_, _, rfl⟩⟩
end Go.Proofs.YthgmlkeojhfijaaDoor
