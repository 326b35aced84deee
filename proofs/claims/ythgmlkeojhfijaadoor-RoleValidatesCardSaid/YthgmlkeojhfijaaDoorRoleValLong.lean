/- The law RoleValidates where the list of numbers is long: it returns true. Condition: the library's own variable at the head of memory holds some integer. -/
import Derived.Test.YthgmlkeojhfijaaDoorRoleMany
namespace Go.Proofs.YthgmlkeojhfijaaDoor
open Go.RowKit

set_option maxRecDepth 20000 in
set_option maxHeartbeats 6400000 in
theorem val_long (A A2 D : Option Addr) (n c n2 c2 k kc : Nat) (us : List UserD) (nm : ByteArray) (r q m : Int) (ds zs : List Int) (w : World) (hm : w.cell? ⟨0, 0, none⟩ = some (.int .i64 m))
    (hn : us.length = n) (hnc : n ≤ c) (hc63 : c * 48 ≤ 140737488351232) (hA : A = none → c = 0) (hU : UsersAt w A us) (hz : zs.length = n2) (hn2 : n2 ≤ 9223372036854775807) (hI : IntsAt w A2 zs)
    (hk : ds.length = k) (hk63 : k ≤ 9223372036854775807) (hD : IntsAt w D ds) (hs : nm.size ≤ 9223372036854775807) (h160 : 160 < n2) :
    Calls Tryd.prog 7 #[.slice A n c, .slice A2 n2 c2, .agg #[.string nm, .int .i64 r, .slice D k kc], .int .i64 q] w fun e w' => e = .returned (.bool true) ∧ Und w w' := by
  have HM := hid hm
  have hb := World.block_lt_of_cell? _ _ hm
  have HU := hid hU
  have HI := hid hI
  have HD := hid hD
  clear hm hU hI hD
  have hl := fun W h => long_any A2 n2 c2 (w.heap.size + 1) W hn2 h
  simp only [decide_eq_true h160] at hl
  have HL := hid hl
  clear hl h160
  go_enter Tryd.func7, Tryd.ntmps7
  go_wp2_with fail
  first | go_region_with ((go_at_call 13; refine (HL.out _ ?_).mono ?_; (· go_simp; done); rintro e w' ⟨rfl, rfl⟩)) | fail
  all_goals
    go_wp2_with (go_at_call 12; refine (known_any m _ ((Und.cell ((by repeat (first | exact Und.refl _ | assumption | refine Und.under ?_ _ | refine Und.alloc ?_ _ | refine Und.drew ?_ | refine Und.drewN ?_ _)) : Und w _) hb).trans HM.out)).mono ?_; rintro e w' ⟨rfl, X9, rfl⟩)
    go_ret
    exact ⟨rfl, (by repeat (first | exact Und.refl _ | assumption | refine Und.under ?_ _ | refine Und.alloc ?_ _ | refine Und.drew ?_ | refine Und.drewN ?_ _))⟩
end Go.Proofs.YthgmlkeojhfijaaDoor
