/- VaultKept: the law answers true for all arguments; they read as they did. -/
import Derived.Test.YtolgclfbllcjhaaRows
import Derived.Test.YtolgclfbllcjhaaLV12
import Derived.Test.YtolgclfbllcjhaaLSlRow
namespace Go.Proofs.Ytolgclfbllcjhaa.vaultKept
open Go Go.Sl Go.RowKit Go.WideShapes Go.ChangeShapes Go.ChangeMaps
set_option linter.unusedVariables false
set_option linter.unusedSimpArgs false

theorem own : ownKnob Try.prog.godebug = none := by kernel_rfl

set_option maxRecDepth 100000 in
theorem lifted (os : Os) (started : os.Started) (H : Type) (enc : TypeId × Value → H) :
    ReturnsInHanded {} Try.checked os 11 .any (Rows.vaultKeptSpec.pre6 enc Try.prog Try.f11 Rows.vaultKeptRow.domain false) (Rows.vaultKeptSpec.post enc Try.prog Try.f11 false true false false) := by
  refine returnsInHanded_of_change_sized (C := Try.checked) own started (by kernel_rfl) Try.func11
    (ChangeSpec.witness6 (enc := enc) (C := Try.checked) false ⟨#[], #[.slice none 0 0, .slice none 0 0, .agg #[.int .i64 0, .int .i64 0]], []⟩ 8 (by kernel_rfl) (by kernel_rfl) (by kernel_rfl) (by kernel_rfl)) ?_
  intro W base args ds gs before hval hW _ hsz _
  have hW' := hW
  obtain ⟨p, q, hA, hV, _, _, _⟩ := hW'
  obtain ⟨rfl, rfl⟩ := trodVars_none hV
  have hA2 : DataW.TrodAll enc Try.prog W 0 (fun _ => true) true [53, 53, 78] args.toList ds p := hA
  obtain ⟨v0, vs0, d0, ds0, p0, q0, ee, rfl, _, t0, rr0⟩ := trodAll_cons hA2
  obtain ⟨v1, vs1, d1, ds1, p1, q1, rfl, rfl, _, t1, rr1⟩ := trodAll_cons rr0
  obtain ⟨v2, vs2, d2, ds2, p2, q2, rfl, rfl, _, t2, rr2⟩ := trodAll_cons rr1
  obtain ⟨rfl, rfl, _⟩ := trodAll_nil rr2
  obtain rfl : args = [v0, v1, v2].toArray := by apply Array.toList_inj.1; rw [ee]
  obtain ⟨a0, l0, c0, rfl, s0, z0, b0⟩ := arg_slice (t := 53) (e := 9) (by kernel_rfl) (shp_string (by kernel_rfl)) (n := 1) (by kernel_rfl) (fun _ => rfl) (by decide) (hval 0 53 v0 rfl rfl) t0
  have r0 := s0.rd
  have h0 := len_sized hsz (j := 0) (t := 53) (e := 9) (n := 16) rfl rfl (by kernel_rfl) (by kernel_rfl) z0
  obtain ⟨a1, l1, c1, rfl, s1, z1, b1⟩ := arg_slice (t := 53) (e := 9) (by kernel_rfl) (shp_string (by kernel_rfl)) (n := 1) (by kernel_rfl) (fun _ => rfl) (by decide) (hval 1 53 v1 rfl rfl) t1
  have r1 := s1.rd
  have h1 := len_sized hsz (j := 1) (t := 53) (e := 9) (n := 16) rfl rfl (by kernel_rfl) (by kernel_rfl) z1
  obtain ⟨l2, rfl, o2⟩ := arg_arr (t := 78) (n := 2) (e := 3) (by kernel_rfl) (shp_ints (n := 2) (e := 3) (k := .i64) (by kernel_rfl) (by kernel_rfl) (by kernel_rfl) (by kernel_rfl)) (hval 2 78 v2 rfl rfl) t2
  obtain ⟨k0, k1, rfl⟩ := list_two o2.1
  simp only [List.append_nil] at hW
  exact law_true (Vt.VaultKept_ct l0 l1 a0 a1 c0 c1 k0 k1 (by omega) (by omega)) (⟨r0, r1⟩) rfl hW rfl (t := 4) (by kernel_rfl) (by kernel_rfl) (by kernel_rfl) rfl

theorem over : Rows.vaultKeptRow.holds Try.pinned (OpenSpec.ofChange Rows.vaultKeptSpec) :=
  OpenClaim.holds_of_wide 11 Try.f11 rfl rfl rfl rfl rfl rfl rfl ⟨rfl, rfl, rfl, rfl, rfl⟩ rfl rfl rfl rfl rfl (by kernel_rfl) Try.func11 (by kernel_rfl)
    (of_decide_eq_true (by kernel_rfl)) (by unfold Func.isWrapper; first | (rw [if_pos (by decide +kernel)]; kernel_rfl) | (rw [if_neg (by decide +kernel)]; exact ⟨rfl, rfl⟩))
    (fun os started H enc _ => lifted os started H enc)
end Go.Proofs.Ytolgclfbllcjhaa.vaultKept
namespace Go.Proofs.Ytolgclfbllcjhaa
theorem vaultKept_proved : Rows.VaultKeptSaid := vaultKept.over
end Go.Proofs.Ytolgclfbllcjhaa
#print axioms Go.Proofs.Ytolgclfbllcjhaa.vaultKept_proved
