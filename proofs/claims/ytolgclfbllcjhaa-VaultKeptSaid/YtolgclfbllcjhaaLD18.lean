/- The law DiskSynced. -/
import Derived.Test.YtolgclfbllcjhaaLDLaw
namespace Go.Proofs.Ytolgclfbllcjhaa
open Go Go.Sl
set_option linter.unusedVariables false
set_option linter.unusedSimpArgs false

theorem count_le {x : DM} (hI : Inv x) : countD x ≤ x.pend.length * 1048576 := by
  have h := count_take_le hI x.pend.length
  rw [List.take_length] at h
  exact h
theorem pl_nil {x : DM} {a : DA} (hok : DOk x a) (h : x.pend = []) : a.pl = [] := by
  have := hok.pl
  rw [h] at this
  exact List.map_eq_nil_iff.1 this.symm
/-- k brought below so many and one -/
theorem k_mod (k : Int) (c : Nat) : ∃ n : Nat, n ≤ c ∧ IntKind.u64.wrap k % ((c : Int) + 1) = (n : Nat) := by
  refine ⟨(IntKind.u64.wrap k % ((c : Int) + 1)).toNat, ?_, ?_⟩
  · have h1 := Int.emod_lt_of_pos (IntKind.u64.wrap k) (show (0 : Int) < (c : Int) + 1 by omega)
    have h2 := Int.emod_nonneg (IntKind.u64.wrap k) (show (c : Int) + 1 ≠ 0 by omega)
    omega
  · have h2 := Int.emod_nonneg (IntKind.u64.wrap k) (show (c : Int) + 1 ≠ 0 by omega)
    omega
end Go.Proofs.Ytolgclfbllcjhaa
