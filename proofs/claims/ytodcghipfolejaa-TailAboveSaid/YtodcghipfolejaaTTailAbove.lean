/- TailAbove: the law answers true for all arguments; they read as they did. -/
import Derived.Test.YtodcghipfolejaaRows
import Derived.Test.YtodcghipfolejaaU17
import Derived.Test.YtodcghipfolejaaSlRow
namespace Go.Proofs.Ytodcghipfolejaa.tailAbove
open Go Go.Sl Go.RowKit Go.WideShapes Go.ChangeShapes Go.ChangeMaps
set_option linter.unusedVariables false
set_option linter.unusedSimpArgs false

theorem own : ownKnob Try.prog.godebug = none := by kernel_rfl

set_option maxRecDepth 100000 in
theorem lifted (os : Os) (started : os.Started) (H : Type) (enc : TypeId × Value → H) :
    ReturnsInHanded {} Try.checked os 13 .any (Rows.tailAboveSpec.pre6 enc Try.prog Try.f13 Rows.tailAboveRow.domain false) (Rows.tailAboveSpec.post enc Try.prog Try.f13 false true false false) := by
  refine returnsInHanded_of_change_sized (C := Try.checked) own started (by kernel_rfl) Try.func13
    (ChangeSpec.witness6 (enc := enc) (C := Try.checked) false ⟨#[], #[.agg #[.int .u64 0, .int .u64 0, .slice none 0 0, .slice none 0 0], .int .u64 0, .int .u64 0], []⟩ 8 (by kernel_rfl) (by kernel_rfl) (by kernel_rfl) (by kernel_rfl)) ?_
  intro W base args ds gs before hval hW _ hsz _
  have hW' := hW
  obtain ⟨p, q, hA, hV, _, _, _⟩ := hW'
  obtain ⟨rfl, rfl⟩ := trodVars_none hV
  have hA2 : DataW.TrodAll enc Try.prog W 0 (fun _ => true) true [47, 27, 27] args.toList ds p := hA
  obtain ⟨v0, vs0, d0, ds0, p0, q0, ee, rfl, _, t0, rr0⟩ := trodAll_cons hA2
  obtain ⟨v1, vs1, d1, ds1, p1, q1, rfl, rfl, _, t1, rr1⟩ := trodAll_cons rr0
  obtain ⟨v2, vs2, d2, ds2, p2, q2, rfl, rfl, _, t2, rr2⟩ := trodAll_cons rr1
  obtain ⟨rfl, rfl, _⟩ := trodAll_nil rr2
  obtain rfl : args = [v0, v1, v2].toArray := by apply Array.toList_inj.1; rw [ee]
  obtain ⟨y0, rfl, o0, b0⟩ := arg_struct (t := 47) Try.underlying47 shpLog (hval 0 47 v0 rfl rfl) t0
  obtain ⟨n1, rfl, w1⟩ := arg_int (t := 27) (k := .u64) (by kernel_rfl) (hval 1 27 v1 rfl rfl) t1
  obtain ⟨n2, rfl, w2⟩ := arg_int (t := 27) (k := .u64) (by kernel_rfl) (hval 2 27 v2 rfl rfl) t2
  simp only [List.append_nil] at hW
  exact law_true (TailAbove_ct y0 n1 n2 o0.base.1 o0.cap o0.cl o0.len o0.dat (wf_u64 w1) (wf_u64 w2)) (o0.ok) rfl hW rfl (t := 4) (by kernel_rfl) (by kernel_rfl) (by kernel_rfl) rfl

theorem over : Rows.tailAboveRow.holds Try.pinned (OpenSpec.ofChange Rows.tailAboveSpec) :=
  OpenClaim.holds_of_wide 13 Try.f13 rfl rfl rfl rfl rfl rfl rfl ⟨rfl, rfl, rfl, rfl, rfl⟩ rfl rfl rfl rfl rfl (by kernel_rfl) Try.func13 (by kernel_rfl)
    (of_decide_eq_true (by kernel_rfl)) (by unfold Func.isWrapper; first | (rw [if_pos (by decide +kernel)]; kernel_rfl) | (rw [if_neg (by decide +kernel)]; exact ⟨rfl, rfl⟩))
    (fun os started H enc _ => lifted os started H enc)
end Go.Proofs.Ytodcghipfolejaa.tailAbove
namespace Go.Proofs.Ytodcghipfolejaa
theorem tailAbove_proved : Rows.TailAboveSaid := tailAbove.over
end Go.Proofs.Ytodcghipfolejaa
#print axioms Go.Proofs.Ytodcghipfolejaa.tailAbove_proved
