/- What a log is, as an argument. -/
import Derived.Test.YtodcghipfolejaaBU10
import Derived.Test.YtodcghipfolejaaBSlRow
namespace Go.Proofs.Ytodcghipfolejaa
open Go Go.Sl Go.RowKit Go.WideShapes Go.ChangeShapes
set_option linter.unusedVariables false
set_option linter.unusedSimpArgs false

theorem shpEnt : Shp Try.prog 65 (fun e : Ent => entC e) (fun _ e => (Lit.int .u64 e.1).wf = true ∧ e.2.2.length ≤ maxLen) (fun e => e.2.2.length + 3) :=
  (shp_struct Try.underlying65 (by kernel_rfl) (shpF_cons (k := 1) (off' := 1) (shp_int (k := .u64) (by kernel_rfl)) rfl (by kernel_rfl) rfl (shpF_cons (k := 1) (off' := 2) (shp_int (k := .i64) (by kernel_rfl)) rfl (by kernel_rfl) rfl (shpF_cons (k := 1) (off' := 3) (shp_string (by kernel_rfl)) rfl (by kernel_rfl) rfl shpF_nil)))).map (fun y => (y.1, y.2.1, y.2.2.1)) (fun y => rfl) (fun h y o => ⟨o.1, o.2.2.1⟩) (fun y => by simp only; omega)
/-- what is said of a log that is handed in -/
structure LM.arg (h : Heap) (g : LM) : Prop where
  base : 0 ≤ g.base ∧ g.base ≤ 18446744073709551615
  bt : 0 ≤ g.bt ∧ g.bt ≤ 18446744073709551615
  ok : g.ok h
  cap : g.l.length ≤ g.lc
  cl : g.conf.length ≤ 9223372036854775807
  len : g.l.length ≤ 9223372036854775807
  dat : g.dat
theorem shpLog : Shp Try.prog 47 (fun g : LM => [.int .u64 g.base, .int .u64 g.bt, .slice g.ca g.conf.length g.cc, .slice g.la g.l.length g.lc]) (fun h g => g.arg h) (fun g => g.conf.length + (g.l.map fun e => e.2.2.length + 3).sum) :=
  (shp_struct Try.underlying47 (by kernel_rfl) (shpF_cons (k := 1) (off' := 1) (shp_int (k := .u64) (by kernel_rfl)) rfl (by kernel_rfl) rfl (shpF_cons (k := 1) (off' := 2) (shp_int (k := .u64) (by kernel_rfl)) rfl (by kernel_rfl) rfl
    (shpF_cons (k := 1) (off' := 3) (shp_slice (e := 3) (by kernel_rfl) (shp_int (k := .i64) (by kernel_rfl)) (n := 1) (by kernel_rfl) (fun _ => rfl) (by decide)) rfl (by kernel_rfl) rfl
    (shpF_cons (k := 1) (off' := 4) (shp_slice (e := 65) (by kernel_rfl) shpEnt (n := 3) (by kernel_rfl) (fun _ => rfl) (by decide)) rfl (by kernel_rfl) rfl shpF_nil))))).map
    (fun y => (⟨y.1, y.2.1, y.2.2.1.2.1, y.2.2.2.1.2.1, y.2.2.1.1, y.2.2.1.2.2, y.2.2.2.1.1, y.2.2.2.1.2.2⟩ : LM)) (fun y => rfl)
    (fun h y o => by
      obtain ⟨o1, o2, o3, o4, _⟩ := o
      have e : maxLen = 9223372036854775807 := by decide
      have h3 := o3.le
      have h4 := o3.max
      have h5 := o4.le
      have h6 := o4.max
      have h7 := o3.rd
      rw [flat_ints] at h7
      exact ⟨wf_u64 o1, wf_u64 o2, ⟨h7, o4.rd⟩, h5, by simp only; omega, by simp only; omega, fun i hi => by
        have h9 := (o4.each _ (List.getElem_mem hi)).2
        simp only at hi ⊢
        rw [List.getD_eq_getElem?_getD, List.getElem?_eq_getElem hi]
        simp only [Option.getD_some]
        rw [e] at h9
        exact h9⟩)
    (fun y => by simp only; rw [sum_ones]; omega)
end Go.Proofs.Ytodcghipfolejaa
