/- Plain: how many bytes the texts of items have, and joining one item at a time. No program in sight. -/
import Derived.Test.YtpahkhmheikebaaGreatDoorSplitPlain
namespace Go.Proofs.YtpahkhmheikebaaGreatDoor

/-- How many bytes the texts have. -/
def tot (f : List St.It) : Nat := (f.map fun x => x.2.1.length).sum
theorem tot_snoc (f : List St.It) (x : St.It) : tot (f ++ [x]) = tot f + x.2.1.length := by simp [tot]
theorem tot_add (f : List St.It) (x : St.It) : tot (St.addI f x) ≤ tot f + x.2.1.length := by
  rcases St.snoc_cases f with rfl | ⟨a, b, rfl⟩
  · rw [St.addI_nil]; repeat' split
    all_goals simp [tot]
  · rw [St.addI_snoc]; repeat' split
    all_goals simp [tot] <;> omega
theorem tot_take (f : List St.It) (k : Nat) (h : k < f.length) : tot (f.take (k + 1)) = tot (f.take k) + f[k].2.1.length := by
  rw [List.take_add_one, List.getElem?_eq_getElem h]
  exact tot_snoc _ _
theorem tot_le (f : List St.It) (k : Nat) : tot (f.take k) ≤ tot f := by
  have : tot f = tot (f.take k) + tot (f.drop k) := by
    conv => lhs; rw [← List.take_append_drop k f]
    unfold tot
    rw [List.map_append, List.sum_append]
  omega
theorem norm_take (f : List St.It) (k : Nat) (h : k < f.length) : St.normL (f.take (k + 1)) = St.addI (St.normL (f.take k)) f[k] := by
  rw [List.take_add_one, List.getElem?_eq_getElem h]
  exact St.normL_snoc _ _
end Go.Proofs.YtpahkhmheikebaaGreatDoor
