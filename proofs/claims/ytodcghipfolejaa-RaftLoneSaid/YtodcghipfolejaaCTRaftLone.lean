/- RaftLone: the law answers true for all arguments; they read as they did. -/
import Derived.Test.YtodcghipfolejaaRows
import Derived.Test.YtodcghipfolejaaCL6
import Derived.Test.YtodcghipfolejaaCSlRow
namespace Go.Proofs.Ytodcghipfolejaa.raftLone
open Go Go.Sl Go.RowKit Go.WideShapes Go.ChangeShapes Go.ChangeMaps
set_option linter.unusedVariables false
set_option linter.unusedSimpArgs false

theorem own : ownKnob Try.prog.godebug = none := by kernel_rfl

set_option maxRecDepth 100000 in
theorem lifted (os : Os) (started : os.Started) (H : Type) (enc : TypeId × Value → H) :
    ReturnsInHanded {} Try.checked os 17 .any (Rows.raftLoneSpec.pre6 enc Try.prog Try.f17 Rows.raftLoneRow.domain false) (Rows.raftLoneSpec.post enc Try.prog Try.f17 false true false false) := by
  refine returnsInHanded_of_change_sized (C := Try.checked) own started (by kernel_rfl) Try.func17
    (ChangeSpec.witness6 (enc := enc) (C := Try.checked) false ⟨#[], #[.int .i64 0, .slice none 0 0], []⟩ 8 (by kernel_rfl) (by kernel_rfl) (by kernel_rfl) (by kernel_rfl)) ?_
  intro W base args ds gs before hval hW _ hsz _
  have hW' := hW
  obtain ⟨p, q, hA, hV, _, _, _⟩ := hW'
  obtain ⟨rfl, rfl⟩ := trodVars_none hV
  have hA2 : DataW.TrodAll enc Try.prog W 0 (fun _ => true) true [3, 92] args.toList ds p := hA
  obtain ⟨v0, vs0, d0, ds0, p0, q0, ee, rfl, _, t0, rr0⟩ := trodAll_cons hA2
  obtain ⟨v1, vs1, d1, ds1, p1, q1, rfl, rfl, _, t1, rr1⟩ := trodAll_cons rr0
  obtain ⟨rfl, rfl, _⟩ := trodAll_nil rr1
  obtain rfl : args = [v0, v1].toArray := by apply Array.toList_inj.1; rw [ee]
  obtain ⟨n0, rfl, w0⟩ := arg_int (t := 3) (k := .i64) (by kernel_rfl) (hval 0 3 v0 rfl rfl) t0
  obtain ⟨a1, l1, c1, rfl, s1, z1, b1⟩ := arg_slice (t := 92) (e := 9) (by kernel_rfl) (shp_string (by kernel_rfl)) (n := 1) (by kernel_rfl) (fun _ => rfl) (by decide) (hval 1 92 v1 rfl rfl) t1
  have r1 := s1.rd
  have h1 := len_sized hsz (j := 1) (t := 92) (e := 9) (n := 16) rfl rfl (by kernel_rfl) (by kernel_rfl) z1
  simp only [List.append_nil] at hW
  exact law_true (Rf.RaftLone_ct n0 l1 a1 c1) (by rw [strV, List.map_eq_flatMap]; exact r1) rfl hW rfl (t := 4) (by kernel_rfl) (by kernel_rfl) (by kernel_rfl) rfl

theorem over : Rows.raftLoneRow.holds Try.pinned (OpenSpec.ofChange Rows.raftLoneSpec) :=
  OpenClaim.holds_of_wide 17 Try.f17 rfl rfl rfl rfl rfl rfl rfl ⟨rfl, rfl, rfl, rfl, rfl⟩ rfl rfl rfl rfl rfl (by kernel_rfl) Try.func17 (by kernel_rfl)
    (of_decide_eq_true (by kernel_rfl)) (by unfold Func.isWrapper; first | (rw [if_pos (by decide +kernel)]; kernel_rfl) | (rw [if_neg (by decide +kernel)]; exact ⟨rfl, rfl⟩))
    (fun os started H enc _ => lifted os started H enc)
end Go.Proofs.Ytodcghipfolejaa.raftLone
namespace Go.Proofs.Ytodcghipfolejaa
theorem raftLone_proved : Rows.RaftLoneSaid := raftLone.over
end Go.Proofs.Ytodcghipfolejaa
#print axioms Go.Proofs.Ytodcghipfolejaa.raftLone_proved
