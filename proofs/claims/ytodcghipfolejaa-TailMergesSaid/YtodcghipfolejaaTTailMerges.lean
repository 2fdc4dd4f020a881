/- TailMerges: the law answers true for all arguments; they read as they did. -/
import Derived.Test.YtodcghipfolejaaRows
import Derived.Test.YtodcghipfolejaaU14
import Derived.Test.YtodcghipfolejaaSlRow
namespace Go.Proofs.Ytodcghipfolejaa.tailMerges
open Go Go.Sl Go.RowKit Go.WideShapes Go.ChangeShapes Go.ChangeMaps
set_option linter.unusedVariables false
set_option linter.unusedSimpArgs false

theorem own : ownKnob Try.prog.godebug = none := by kernel_rfl

set_option maxRecDepth 100000 in
theorem lifted (os : Os) (started : os.Started) (H : Type) (enc : TypeId × Value → H) :
    ReturnsInHanded {} Try.checked os 9 .any (Rows.tailMergesSpec.pre6 enc Try.prog Try.f9 Rows.tailMergesRow.domain false) (Rows.tailMergesSpec.post enc Try.prog Try.f9 false true false false) := by
  refine returnsInHanded_of_change_sized (C := Try.checked) own started (by kernel_rfl) Try.func9
    (ChangeSpec.witness6 (enc := enc) (C := Try.checked) false ⟨#[], #[.agg #[.int .u64 0, .int .u64 0, .slice none 0 0, .slice none 0 0], .int .u64 0, .int .u64 0, .slice none 0 0], []⟩ 8 (by kernel_rfl) (by kernel_rfl) (by kernel_rfl) (by kernel_rfl)) ?_
  intro W base args ds gs before hval hW _ hsz _
  have hW' := hW
  obtain ⟨p, q, hA, hV, _, _, _⟩ := hW'
  obtain ⟨rfl, rfl⟩ := trodVars_none hV
  have hA2 : DataW.TrodAll enc Try.prog W 0 (fun _ => true) true [47, 27, 27, 45] args.toList ds p := hA
  obtain ⟨v0, vs0, d0, ds0, p0, q0, ee, rfl, _, t0, rr0⟩ := trodAll_cons hA2
  obtain ⟨v1, vs1, d1, ds1, p1, q1, rfl, rfl, _, t1, rr1⟩ := trodAll_cons rr0
  obtain ⟨v2, vs2, d2, ds2, p2, q2, rfl, rfl, _, t2, rr2⟩ := trodAll_cons rr1
  obtain ⟨v3, vs3, d3, ds3, p3, q3, rfl, rfl, _, t3, rr3⟩ := trodAll_cons rr2
  obtain ⟨rfl, rfl, _⟩ := trodAll_nil rr3
  obtain rfl : args = [v0, v1, v2, v3].toArray := by apply Array.toList_inj.1; rw [ee]
  obtain ⟨y0, rfl, o0, b0⟩ := arg_struct (t := 47) Try.underlying47 shpLog (hval 0 47 v0 rfl rfl) t0
  obtain ⟨n1, rfl, w1⟩ := arg_int (t := 27) (k := .u64) (by kernel_rfl) (hval 1 27 v1 rfl rfl) t1
  obtain ⟨n2, rfl, w2⟩ := arg_int (t := 27) (k := .u64) (by kernel_rfl) (hval 2 27 v2 rfl rfl) t2
  obtain ⟨a3, l3, c3, rfl, s3, z3, b3⟩ := arg_slice (t := 45) (e := 65) (by kernel_rfl) shpEnt (n := 3) (by kernel_rfl) (fun _ => rfl) (by decide) (hval 3 45 v3 rfl rfl) t3
  have r3 := s3.rd
  have h3 := len_sized hsz (j := 3) (t := 45) (e := 65) (n := 32) rfl rfl (by kernel_rfl) (by kernel_rfl) z3
  simp only [List.append_nil] at hW
  exact law_true (TailMerges_ct y0 n1 n2 l3 a3 c3 o0.base.1 o0.cap o0.cl o0.len (wf_u64 w1) (by omega) s3.le) (⟨o0.ok, r3⟩) rfl hW rfl (t := 4) (by kernel_rfl) (by kernel_rfl) (by kernel_rfl) rfl

theorem over : Rows.tailMergesRow.holds Try.pinned (OpenSpec.ofChange Rows.tailMergesSpec) :=
  OpenClaim.holds_of_wide 9 Try.f9 rfl rfl rfl rfl rfl rfl rfl ⟨rfl, rfl, rfl, rfl, rfl⟩ rfl rfl rfl rfl rfl (by kernel_rfl) Try.func9 (by kernel_rfl)
    (of_decide_eq_true (by kernel_rfl)) (by unfold Func.isWrapper; first | (rw [if_pos (by decide +kernel)]; kernel_rfl) | (rw [if_neg (by decide +kernel)]; exact ⟨rfl, rfl⟩))
    (fun os started H enc _ => lifted os started H enc)
end Go.Proofs.Ytodcghipfolejaa.tailMerges
namespace Go.Proofs.Ytodcghipfolejaa
theorem tailMerges_proved : Rows.TailMergesSaid := tailMerges.over
end Go.Proofs.Ytodcghipfolejaa
#print axioms Go.Proofs.Ytodcghipfolejaa.tailMerges_proved
