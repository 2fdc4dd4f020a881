/- What an act is, as an argument. -/
import Derived.Test.YtolgclfbllcjhaaD10
import Derived.Test.YtolgclfbllcjhaaSlRow
namespace Go.Proofs.Ytolgclfbllcjhaa
open Go Go.Sl Go.RowKit Go.WideShapes Go.ChangeShapes
set_option linter.unusedVariables false
set_option linter.unusedSimpArgs false

/-- an act's reading, of bearable weight -/
theorem shpAct : ShpW Try.prog 30 amC (fun _ a => AmOk a) :=
  (shpW_struct Try.underlying30 (by kernel_rfl) (shpWF_cons (k := 1) (off' := 1) (shp_int (k := .i64) (by kernel_rfl)).w rfl (by kernel_rfl) rfl
    (shpWF_cons (k := 1) (off' := 2) (shpW_string (by kernel_rfl)) rfl (by kernel_rfl) rfl
    (shpWF_cons (k := 1) (off' := 3) (shpW_string (by kernel_rfl)) rfl (by kernel_rfl) rfl
    (shpWF_cons (k := 1) (off' := 4) (shp_int (k := .i64) (by kernel_rfl)).w rfl (by kernel_rfl) rfl shpWF_nil))))).map
    (fun y => (⟨y.1, y.2.1, y.2.2.1, y.2.2.2.1⟩ : AM)) (fun y => rfl)
    (fun h y o => by
      obtain ⟨o1, o2, o3, o4, _⟩ := o
      have e : reachBytes = 140737488351232 := rfl
      rw [e] at o2 o3
      exact ⟨by show y.2.1.length ≤ _; omega, by show y.2.2.1.length ≤ _; omega, wf_i64 o4⟩)
end Go.Proofs.Ytolgclfbllcjhaa
