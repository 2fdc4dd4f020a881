/- The disk's laws: what they look at. -/
import Derived.Test.YtolgclfbllcjhaaLD9
import Derived.Test.YtolgclfbllcjhaaLD10
namespace Go.Proofs.Ytolgclfbllcjhaa
open Go Go.Sl
set_option linter.unusedVariables false
set_option linter.unusedSimpArgs false

theorem nm_get (l : List Fl) (k : Nat) (hk : k < l.length) : (nmV l)[k]? = some (B (l.getD k F0).1) := by
  simp [nmV, hk]
theorem DRd.s2 {x : DM} {a : DA} {h : Heap} (f : DRd x a h) : SRd x a h := ⟨f.d, f.s⟩
end Go.Proofs.Ytolgclfbllcjhaa
