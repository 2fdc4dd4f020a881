import Derived.Test.YtodcghipfolejaaGreatRows
import Derived.Test.YtodcghipfolejaaGreatJx17
/- RaftPlays: the law answers true for all arguments; they read as they did. -/
set_option linter.unusedVariables false
set_option linter.unusedSimpArgs false
namespace Go.Proofs.YtodcghipfolejaaGreat.raftPlays
open Go Go.Sl Go.RowKit Go.WideShapes Go.ChangeShapes Go.ChangeMaps
theorem own : ownKnob Tryz.prog.godebug = none := by kernel_rfl
set_option maxRecDepth 100000 in
theorem lifted (os : Os) (started : os.Started) (H : Type) (enc : TypeId × Value → H) :
  ReturnsInHanded {} Tryz.checked os 3 .any (Rows.raftPlaysSpec.pre6 enc Tryz.prog Tryz.f3 Rows.raftPlaysRow.domain false) (Rows.raftPlaysSpec.post enc Tryz.prog Tryz.f3 false true false false) := by
 refine returnsInHanded_of_change_sized (C := Tryz.checked) own started z_4 Tryz.func3
  (ChangeSpec.witness6 (enc := enc) (C := Tryz.checked) false ⟨#[], #[.agg #[.int .i64 0, .int .i64 0, .int .i64 0, .int .i64 0, .int .i64 0, .int .i64 0, .slice none 0 0]], []⟩ 8 z_4 z_4 z_4 z_4) ?_
 intro W base args ds gs before hval hW _ hsz _
 have hW' := hW
 obtain ⟨p, q, hA, hV, _, _, _⟩ := hW'
 obtain ⟨rfl, rfl⟩ := trodVars_none hV
 have hA2 : DataW.TrodAll enc Tryz.prog W 0 (fun _ => true) true [25] args.toList ds p := hA
 obtain ⟨v0, vs0, d0, ds0, p0, q0, ee, rfl, _, t0, rr0⟩ := trodAll_cons hA2
 obtain ⟨rfl, rfl, _⟩ := trodAll_nil rr0
 obtain rfl : args = [v0].toArray := by apply Array.toList_inj.1; rw [ee]
 obtain ⟨y0, rfl, o0, b0⟩ := arg_struct (t := 25) Tryz.underlying25 Rf.shpPlayR (hval 0 25 v0 rfl rfl) t0
 simp only [List.append_nil] at hW
 exact law_true (Rf.RaftPlays_ct y0 o0.2.1 o0.2.2) (o0.1) rfl hW rfl (t := 4) z_4 z_4 z_4 rfl
theorem over : Rows.raftPlaysRow.holds Tryz.pinned (OpenSpec.ofChange Rows.raftPlaysSpec) :=
 OpenClaim.holds_of_wide 3 Tryz.f3 rfl rfl rfl rfl rfl rfl rfl ⟨rfl, rfl, rfl, rfl, rfl⟩ rfl rfl rfl rfl rfl z_4 Tryz.func3 z_4
  (of_decide_eq_true z_4) (by unfold Func.isWrapper; first | (rw [if_pos (by decide +kernel)]; kernel_rfl) | (rw [if_neg (by decide +kernel)]; exact ⟨rfl, rfl⟩))
  (fun os started H enc _ => lifted os started H enc)
end Go.Proofs.YtodcghipfolejaaGreat.raftPlays
namespace Go.Proofs.YtodcghipfolejaaGreat
theorem raftPlays_proved : Rows.RaftPlaysSaid := raftPlays.over
end Go.Proofs.YtodcghipfolejaaGreat
#print axioms Go.Proofs.YtodcghipfolejaaGreat.raftPlays_proved
