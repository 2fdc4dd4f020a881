/- What an act on a vault is, as an argument. -/
import Derived.Test.YtolgclfbllcjhaaMV15
import Derived.Test.YtolgclfbllcjhaaMSlRow
namespace Go.Proofs.Ytolgclfbllcjhaa
open Go Go.Sl Go.RowKit Go.WideShapes Go.ChangeShapes
set_option linter.unusedVariables false
set_option linter.unusedSimpArgs false

/-- an act's reading, of bearable weight -/
theorem shpVAct : ShpW Try.prog 71 Vt.vaC Vt.VaOk :=
  (shpW_struct Try.underlying71 (by kernel_rfl) (shpWF_cons (k := 1) (off' := 1) (shp_int (k := .i64) (by kernel_rfl)).w rfl (by kernel_rfl) rfl
    (shpWF_cons (k := 1) (off' := 2) (shpW_string (by kernel_rfl)) rfl (by kernel_rfl) rfl
    (shpWF_cons (k := 1) (off' := 3) (shpW_string (by kernel_rfl)) rfl (by kernel_rfl) rfl
    (shpWF_cons (k := 1) (off' := 4) (shpW_slice (e := 9) (by kernel_rfl) (shpW_string (by kernel_rfl)) (n := 1) (by kernel_rfl) (fun _ => rfl) (by decide)) rfl (by kernel_rfl) rfl
    (shpWF_cons (k := 1) (off' := 5) (shp_int (k := .i64) (by kernel_rfl)).w rfl (by kernel_rfl) rfl shpWF_nil)))))).map
    (fun y => (⟨y.1, y.2.1, y.2.2.1, y.2.2.2.1.1, y.2.2.2.1.2.1, y.2.2.2.1.2.2, y.2.2.2.2.1⟩ : Vt.VA)) (fun y => rfl)
    (fun h y o => by
      obtain ⟨o1, o2, o3, o4, o5, _⟩ := o
      have e : reachBytes = 140737488351232 := rfl
      rw [e] at o2 o3
      exact ⟨o2, o3, o4.rd, fun s hs => by have := o4.each s hs; rw [e] at this; exact this, wf_i64 o5⟩)
end Go.Proofs.Ytolgclfbllcjhaa
