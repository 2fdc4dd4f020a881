/- RaftLone: what goes ahead of the walk. -/
import Derived.Test.YtodcghipfolejaaCL4
namespace Go.Proofs.Ytodcghipfolejaa.Rf
open Go Go.Sl
set_option linter.unusedVariables false
set_option linter.unusedSimpArgs false
-- ARR

/-- behind k ticks -/
def stK (n w : Int) (k : Nat) : RP := if (k : Int) < w then S0 n w k else SL n w []
theorem stK_tick {n w : Int} {k : Nat} (hn : rightB [n] = true) (h : (k : Int) < w) : tickP (stK n w k) = stK n w (k + 1) ∧ tickM (stK n w k) = [] := by
  have e : stK n w k = S0 n w k := if_pos h
  by_cases h2 : (k : Int) + 1 < w
  · have e2 : stK n w (k + 1) = S0 n w (k + 1) := by rw [stK, if_pos (by omega)]; rfl
    rw [e, e2]; exact tick_wait h2
  · have e2 : stK n w (k + 1) = SL n w [] := by rw [stK, if_neg (by omega)]
    rw [e, e2]; exact tick_stand hn (by omega)
/-- the data that are not too long -/
def fitD (ds : List Bs) : List Bs := ds.filter fun d => decide (d.length ≤ 2048)
end Go.Proofs.Ytodcghipfolejaa.Rf
