import Derived.Test.YtodcghipfolejaaGreatRows
import Derived.Test.YtodcghipfolejaaGreatHx17
/- RaftKeeps: the law answers true for all arguments; they read as they did. -/
namespace Go.Proofs.YtodcghipfolejaaGreat.raftKeeps
open Go Go.Sl Go.RowKit Go.WideShapes Go.ChangeShapes Go.ChangeMaps
set_option linter.unusedVariables false
set_option linter.unusedSimpArgs false

theorem own : ownKnob Tryz.prog.godebug = none := by kernel_rfl

set_option maxRecDepth 100000 in
theorem lifted (os : Os) (started : os.Started) (H : Type) (enc : TypeId × Value → H) :
    ReturnsInHanded {} Tryz.checked os 7 .any (Rows.raftKeepsSpec.pre6 enc Tryz.prog Tryz.f7 Rows.raftKeepsRow.domain false) (Rows.raftKeepsSpec.post enc Tryz.prog Tryz.f7 false true false false) := by
  refine returnsInHanded_of_change_sized (C := Tryz.checked) own started z_7 Tryz.func7
    (ChangeSpec.witness6 (enc := enc) (C := Tryz.checked) false ⟨#[], #[.agg #[.int .i64 0, .int .i64 0, .int .i64 0, .int .i64 0, .int .i64 0, .int .i64 0, .slice none 0 0]], []⟩ 8 z_7 z_7 z_7 z_7) ?_
  intro W base args ds gs before hval hW _ hsz _
  have hW' := hW
  obtain ⟨p, q, hA, hV, _, _, _⟩ := hW'
  obtain ⟨rfl, rfl⟩ := trodVars_none hV
  have hA2 : DataW.TrodAll enc Tryz.prog W 0 (fun _ => true) true [25] args.toList ds p := hA
  obtain ⟨v0, vs0, d0, ds0, p0, q0, ee, rfl, _, t0, rr0⟩ := trodAll_cons hA2
  obtain ⟨rfl, rfl, _⟩ := trodAll_nil rr0
  obtain rfl : args = [v0].toArray := by apply Array.toList_inj.1; rw [ee]
  obtain ⟨y0, rfl, o0, b0⟩ := arg_struct (t := 25) Tryz.underlying25 Rf.shpPlay (hval 0 25 v0 rfl rfl) t0
  simp only [List.append_nil] at hW
  exact law_true (Rf.RaftKeeps_ct y0 o0.2) (o0.1) rfl hW rfl (t := 4) z_7 z_7 z_7 rfl

theorem over : Rows.raftKeepsRow.holds Tryz.pinned (OpenSpec.ofChange Rows.raftKeepsSpec) :=
  OpenClaim.holds_of_wide 7 Tryz.f7 rfl rfl rfl rfl rfl rfl rfl ⟨rfl, rfl, rfl, rfl, rfl⟩ rfl rfl rfl rfl rfl z_7 Tryz.func7 z_7
    (of_decide_eq_true z_7) (by unfold Func.isWrapper; first | (rw [if_pos (by decide +kernel)]; kernel_rfl) | (rw [if_neg (by decide +kernel)]; exact ⟨rfl, rfl⟩))
    (fun os started H enc _ => lifted os started H enc)
end Go.Proofs.YtodcghipfolejaaGreat.raftKeeps
namespace Go.Proofs.YtodcghipfolejaaGreat
theorem raftKeeps_proved : Rows.RaftKeepsSaid := raftKeeps.over
end Go.Proofs.YtodcghipfolejaaGreat
#print axioms Go.Proofs.YtodcghipfolejaaGreat.raftKeeps_proved
