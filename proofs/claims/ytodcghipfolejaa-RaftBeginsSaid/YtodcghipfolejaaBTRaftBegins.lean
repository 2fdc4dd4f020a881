/- RaftBegins: the law answers true for all arguments; they read as they did. -/
import Derived.Test.YtodcghipfolejaaRows
import Derived.Test.YtodcghipfolejaaBL4
import Derived.Test.YtodcghipfolejaaBSlRow
namespace Go.Proofs.Ytodcghipfolejaa.raftBegins
open Go Go.Sl Go.RowKit Go.WideShapes Go.ChangeShapes Go.ChangeMaps
set_option linter.unusedVariables false
set_option linter.unusedSimpArgs false

theorem own : ownKnob Try.prog.godebug = none := by kernel_rfl

set_option maxRecDepth 100000 in
theorem lifted (os : Os) (started : os.Started) (H : Type) (enc : TypeId × Value → H) :
    ReturnsInHanded {} Try.checked os 16 .any (Rows.raftBeginsSpec.pre6 enc Try.prog Try.f16 Rows.raftBeginsRow.domain false) (Rows.raftBeginsSpec.post enc Try.prog Try.f16 false true false false) := by
  refine returnsInHanded_of_change_sized (C := Try.checked) own started (by kernel_rfl) Try.func16
    (ChangeSpec.witness6 (enc := enc) (C := Try.checked) false ⟨#[], #[.int .i64 0, .agg #[.int .u64 0, .int .i64 0, .int .u64 0], .agg #[.int .u64 0, .int .u64 0, .slice none 0 0, .slice none 0 0], .string ⟨#[]⟩, .int .i64 0], []⟩ 8 (by kernel_rfl) (by kernel_rfl) (by kernel_rfl) (by kernel_rfl)) ?_
  intro W base args ds gs before hval hW _ hsz _
  have hW' := hW
  obtain ⟨p, q, hA, hV, _, _, _⟩ := hW'
  obtain ⟨rfl, rfl⟩ := trodVars_none hV
  have hA2 : DataW.TrodAll enc Try.prog W 0 (fun _ => true) true [3, 82, 47, 9, 3] args.toList ds p := hA
  obtain ⟨v0, vs0, d0, ds0, p0, q0, ee, rfl, _, t0, rr0⟩ := trodAll_cons hA2
  obtain ⟨v1, vs1, d1, ds1, p1, q1, rfl, rfl, _, t1, rr1⟩ := trodAll_cons rr0
  obtain ⟨v2, vs2, d2, ds2, p2, q2, rfl, rfl, _, t2, rr2⟩ := trodAll_cons rr1
  obtain ⟨v3, vs3, d3, ds3, p3, q3, rfl, rfl, _, t3, rr3⟩ := trodAll_cons rr2
  obtain ⟨v4, vs4, d4, ds4, p4, q4, rfl, rfl, _, t4, rr4⟩ := trodAll_cons rr3
  obtain ⟨rfl, rfl, _⟩ := trodAll_nil rr4
  obtain rfl : args = [v0, v1, v2, v3, v4].toArray := by apply Array.toList_inj.1; rw [ee]
  obtain ⟨n0, rfl, w0⟩ := arg_int (t := 3) (k := .i64) (by kernel_rfl) (hval 0 3 v0 rfl rfl) t0
  obtain ⟨y1, rfl, o1, b1⟩ := arg_struct (t := 82) Try.underlying82 Rf.shpHard (hval 1 82 v1 rfl rfl) t1
  obtain ⟨y2, rfl, o2, b2⟩ := arg_struct (t := 47) Try.underlying47 shpLog (hval 2 47 v2 rfl rfl) t2
  obtain ⟨l3, rfl, e3, m3, b3⟩ := arg_str (t := 9) (by kernel_rfl) (hval 3 9 v3 rfl rfl) t3
  have h3 : l3.length ≤ reachBytes := by subst e3; exact sized_string hsz (j := 3) (t := 9) rfl rfl
  obtain ⟨n4, rfl, w4⟩ := arg_int (t := 3) (k := .i64) (by kernel_rfl) (hval 4 3 v4 rfl rfl) t4
  simp only [List.append_nil] at hW
  exact law_true (Rf.RaftBegins_ct n0 y1 y2 l3 n4) (o2.ok) rfl hW rfl (t := 4) (by kernel_rfl) (by kernel_rfl) (by kernel_rfl) rfl

theorem over : Rows.raftBeginsRow.holds Try.pinned (OpenSpec.ofChange Rows.raftBeginsSpec) :=
  OpenClaim.holds_of_wide 16 Try.f16 rfl rfl rfl rfl rfl rfl rfl ⟨rfl, rfl, rfl, rfl, rfl⟩ rfl rfl rfl rfl rfl (by kernel_rfl) Try.func16 (by kernel_rfl)
    (of_decide_eq_true (by kernel_rfl)) (by unfold Func.isWrapper; first | (rw [if_pos (by decide +kernel)]; kernel_rfl) | (rw [if_neg (by decide +kernel)]; exact ⟨rfl, rfl⟩))
    (fun os started H enc _ => lifted os started H enc)
end Go.Proofs.Ytodcghipfolejaa.raftBegins
namespace Go.Proofs.Ytodcghipfolejaa
theorem raftBegins_proved : Rows.RaftBeginsSaid := raftBegins.over
end Go.Proofs.Ytodcghipfolejaa
#print axioms Go.Proofs.Ytodcghipfolejaa.raftBegins_proved
