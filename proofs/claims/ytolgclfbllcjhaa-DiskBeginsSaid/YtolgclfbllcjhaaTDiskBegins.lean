/- DiskBegins: the law answers true for all arguments; they read as they did. -/
import Derived.Test.YtolgclfbllcjhaaRows
import Derived.Test.YtolgclfbllcjhaaD19
import Derived.Test.YtolgclfbllcjhaaD14
import Derived.Test.YtolgclfbllcjhaaSlRow
namespace Go.Proofs.Ytolgclfbllcjhaa.diskBegins
open Go Go.Sl Go.RowKit Go.WideShapes Go.ChangeShapes Go.ChangeMaps
set_option linter.unusedVariables false
set_option linter.unusedSimpArgs false

theorem own : ownKnob Try.prog.godebug = none := by kernel_rfl

set_option maxRecDepth 100000 in
theorem lifted (os : Os) (started : os.Started) (H : Type) (enc : TypeId × Value → H) :
    ReturnsInHanded {} Try.checked os 5 .any (Rows.diskBeginsSpec.pre6 enc Try.prog Try.f5 Rows.diskBeginsRow.domain false) (Rows.diskBeginsSpec.post enc Try.prog Try.f5 false true false false) := by
  refine returnsInHanded_of_change_sized (C := Try.checked) own started (by kernel_rfl) Try.func5
    (ChangeSpec.witness6 (enc := enc) (C := Try.checked) false ⟨#[], #[.int .i64 0, .slice none 0 0, .slice none 0 0, .int .i64 0], []⟩ 8 (by kernel_rfl) (by kernel_rfl) (by kernel_rfl) (by kernel_rfl)) ?_
  intro W base args ds gs before hval hW _ hsz _
  have hW' := hW
  obtain ⟨p, q, hA, hV, _, _, _⟩ := hW'
  obtain ⟨rfl, rfl⟩ := trodVars_none hV
  have hA2 : DataW.TrodAll enc Try.prog W 0 (fun _ => true) true [3, 22, 22, 3] args.toList ds p := hA
  obtain ⟨v0, vs0, d0, ds0, p0, q0, ee, rfl, _, t0, rr0⟩ := trodAll_cons hA2
  obtain ⟨v1, vs1, d1, ds1, p1, q1, rfl, rfl, _, t1, rr1⟩ := trodAll_cons rr0
  obtain ⟨v2, vs2, d2, ds2, p2, q2, rfl, rfl, _, t2, rr2⟩ := trodAll_cons rr1
  obtain ⟨v3, vs3, d3, ds3, p3, q3, rfl, rfl, _, t3, rr3⟩ := trodAll_cons rr2
  obtain ⟨rfl, rfl, _⟩ := trodAll_nil rr3
  obtain rfl : args = [v0, v1, v2, v3].toArray := by apply Array.toList_inj.1; rw [ee]
  obtain ⟨n0, rfl, w0⟩ := arg_int (t := 3) (k := .i64) (by kernel_rfl) (hval 0 3 v0 rfl rfl) t0
  obtain ⟨a1, l1, c1, rfl, s1, z1⟩ := argW_slice hsz (j := 1) rfl rfl (t := 22) (e := 30) (by kernel_rfl) shpAct (n := 4) (by kernel_rfl) (fun _ => rfl) (by decide) (hval 1 22 v1 rfl rfl) t1
  have r1 := s1.rd
  have h1 := len_sized hsz (j := 1) (t := 22) (e := 30) (n := 48) rfl rfl (by kernel_rfl) (by kernel_rfl) z1
  obtain ⟨a2, l2, c2, rfl, s2, z2⟩ := argW_slice hsz (j := 2) rfl rfl (t := 22) (e := 30) (by kernel_rfl) shpAct (n := 4) (by kernel_rfl) (fun _ => rfl) (by decide) (hval 2 22 v2 rfl rfl) t2
  have r2 := s2.rd
  have h2 := len_sized hsz (j := 2) (t := 22) (e := 30) (n := 48) rfl rfl (by kernel_rfl) (by kernel_rfl) z2
  obtain ⟨n3, rfl, w3⟩ := arg_int (t := 3) (k := .i64) (by kernel_rfl) (hval 3 3 v3 rfl rfl) t3
  simp only [List.append_nil] at hW
  exact law_true (DiskBegins_ct n0 l1 a1 c1 l2 a2 c2 n3 (by omega) s1.each (by omega) s2.each (wf_i64 w3)) (⟨r1, r2⟩) rfl hW rfl (t := 4) (by kernel_rfl) (by kernel_rfl) (by kernel_rfl) rfl

theorem over : Rows.diskBeginsRow.holds Try.pinned (OpenSpec.ofChange Rows.diskBeginsSpec) :=
  OpenClaim.holds_of_wide 5 Try.f5 rfl rfl rfl rfl rfl rfl rfl ⟨rfl, rfl, rfl, rfl, rfl⟩ rfl rfl rfl rfl rfl (by kernel_rfl) Try.func5 (by kernel_rfl)
    (of_decide_eq_true (by kernel_rfl)) (by unfold Func.isWrapper; first | (rw [if_pos (by decide +kernel)]; kernel_rfl) | (rw [if_neg (by decide +kernel)]; exact ⟨rfl, rfl⟩))
    (fun os started H enc _ => lifted os started H enc)
end Go.Proofs.Ytolgclfbllcjhaa.diskBegins
namespace Go.Proofs.Ytolgclfbllcjhaa
theorem diskBegins_proved : Rows.DiskBeginsSaid := diskBegins.over
end Go.Proofs.Ytolgclfbllcjhaa
#print axioms Go.Proofs.Ytolgclfbllcjhaa.diskBegins_proved
