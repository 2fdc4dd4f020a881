/- The law VaultKeeps. -/
import Derived.Test.YtolgclfbllcjhaaLV10
namespace Go.Proofs.Ytolgclfbllcjhaa.Vt
open Go Go.Sl
set_option linter.unusedVariables false
set_option linter.unusedSimpArgs false

theorem sum_take {l : List Bs} {k : Nat} (hk : k < l.length) : l.take (k + 1) = l.take k ++ [l.getD k []] ∧ sumL (l.take k) + (l.getD k []).length ≤ sumL l := by
  have h1 : l.take (k + 1) = l.take k ++ [l.getD k []] := by rw [List.take_succ_eq_append_getElem hk]; simp [hk]
  refine ⟨h1, ?_⟩
  have h2 : sumL (l.take (k + 1)) = sumL (l.take k) + (l.getD k []).length := by rw [h1]; simp [sumL]
  rw [← h2]
  conv => rhs; rw [← List.take_append_drop (k + 1) l]
  have e : ∀ a b : List Bs, sumL (a ++ b) = sumL a + sumL b := fun a b => by simp [sumL]
  rw [e]; omega
theorem getD_mem {l : List Bs} {k : Nat} (hk : k < l.length) : l.getD k [] ∈ l := by
  rw [List.getD_eq_getElem?_getD, List.getElem?_eq_getElem hk]; exact List.getElem_mem hk
end Go.Proofs.Ytolgclfbllcjhaa.Vt
