/- TailSame: the law answers true for all arguments; they read as they did. -/
import Derived.Test.YtodcghipfolejaaRows
import Derived.Test.YtodcghipfolejaaU16
import Derived.Test.YtodcghipfolejaaSlRow
namespace Go.Proofs.Ytodcghipfolejaa.tailSame
open Go Go.Sl Go.RowKit Go.WideShapes Go.ChangeShapes Go.ChangeMaps
set_option linter.unusedVariables false
set_option linter.unusedSimpArgs false

theorem own : ownKnob Try.prog.godebug = none := by kernel_rfl

set_option maxRecDepth 100000 in
theorem lifted (os : Os) (started : os.Started) (H : Type) (enc : TypeId × Value → H) :
    ReturnsInHanded {} Try.checked os 12 .any (Rows.tailSameSpec.pre6 enc Try.prog Try.f12 Rows.tailSameRow.domain false) (Rows.tailSameSpec.post enc Try.prog Try.f12 false true false false) := by
  refine returnsInHanded_of_change_sized (C := Try.checked) own started (by kernel_rfl) Try.func12
    (ChangeSpec.witness6 (enc := enc) (C := Try.checked) false ⟨#[], #[.agg #[.int .u64 0, .int .u64 0, .slice none 0 0, .slice none 0 0], .agg #[.int .u64 0, .int .u64 0, .slice none 0 0, .slice none 0 0], .int .u64 0, .int .i64 0], []⟩ 8 (by kernel_rfl) (by kernel_rfl) (by kernel_rfl) (by kernel_rfl)) ?_
  intro W base args ds gs before hval hW _ hsz _
  have hW' := hW
  obtain ⟨p, q, hA, hV, _, _, _⟩ := hW'
  obtain ⟨rfl, rfl⟩ := trodVars_none hV
  have hA2 : DataW.TrodAll enc Try.prog W 0 (fun _ => true) true [47, 47, 27, 3] args.toList ds p := hA
  obtain ⟨v0, vs0, d0, ds0, p0, q0, ee, rfl, _, t0, rr0⟩ := trodAll_cons hA2
  obtain ⟨v1, vs1, d1, ds1, p1, q1, rfl, rfl, _, t1, rr1⟩ := trodAll_cons rr0
  obtain ⟨v2, vs2, d2, ds2, p2, q2, rfl, rfl, _, t2, rr2⟩ := trodAll_cons rr1
  obtain ⟨v3, vs3, d3, ds3, p3, q3, rfl, rfl, _, t3, rr3⟩ := trodAll_cons rr2
  obtain ⟨rfl, rfl, _⟩ := trodAll_nil rr3
  obtain rfl : args = [v0, v1, v2, v3].toArray := by apply Array.toList_inj.1; rw [ee]
  obtain ⟨y0, rfl, o0, b0⟩ := arg_struct (t := 47) Try.underlying47 shpLog (hval 0 47 v0 rfl rfl) t0
  obtain ⟨y1, rfl, o1, b1⟩ := arg_struct (t := 47) Try.underlying47 shpLog (hval 1 47 v1 rfl rfl) t1
  obtain ⟨n2, rfl, w2⟩ := arg_int (t := 27) (k := .u64) (by kernel_rfl) (hval 2 27 v2 rfl rfl) t2
  obtain ⟨n3, rfl, w3⟩ := arg_int (t := 3) (k := .i64) (by kernel_rfl) (hval 3 3 v3 rfl rfl) t3
  simp only [List.append_nil] at hW
  exact law_true (TailSame_ct y0 y1 n2 n3 o0.base.1 o0.cap o0.cl o0.len o1.base.1 o1.cap o1.cl o1.len (wf_u64 w2) (wf_i64 w3)) (⟨o0.ok, o1.ok⟩) rfl hW rfl (t := 4) (by kernel_rfl) (by kernel_rfl) (by kernel_rfl) rfl

theorem over : Rows.tailSameRow.holds Try.pinned (OpenSpec.ofChange Rows.tailSameSpec) :=
  OpenClaim.holds_of_wide 12 Try.f12 rfl rfl rfl rfl rfl rfl rfl ⟨rfl, rfl, rfl, rfl, rfl⟩ rfl rfl rfl rfl rfl (by kernel_rfl) Try.func12 (by kernel_rfl)
    (of_decide_eq_true (by kernel_rfl)) (by unfold Func.isWrapper; first | (rw [if_pos (by decide +kernel)]; kernel_rfl) | (rw [if_neg (by decide +kernel)]; exact ⟨rfl, rfl⟩))
    (fun os started H enc _ => lifted os started H enc)
end Go.Proofs.Ytodcghipfolejaa.tailSame
namespace Go.Proofs.Ytodcghipfolejaa
theorem tailSame_proved : Rows.TailSameSaid := tailSame.over
end Go.Proofs.Ytodcghipfolejaa
#print axioms Go.Proofs.Ytodcghipfolejaa.tailSame_proved
