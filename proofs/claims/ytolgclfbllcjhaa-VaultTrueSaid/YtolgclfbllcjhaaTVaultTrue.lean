/- VaultTrue: the law answers true for all arguments; they read as they did. -/
import Derived.Test.YtolgclfbllcjhaaRows
import Derived.Test.YtolgclfbllcjhaaV6
import Derived.Test.YtolgclfbllcjhaaSlRow
namespace Go.Proofs.Ytolgclfbllcjhaa.vaultTrue
open Go Go.Sl Go.RowKit Go.WideShapes Go.ChangeShapes Go.ChangeMaps
set_option linter.unusedVariables false
set_option linter.unusedSimpArgs false

theorem own : ownKnob Try.prog.godebug = none := by kernel_rfl

set_option maxRecDepth 100000 in
theorem lifted (os : Os) (started : os.Started) (H : Type) (enc : TypeId × Value → H) :
    ReturnsInHanded {} Try.checked os 8 .any (Rows.vaultTrueSpec.pre6 enc Try.prog Try.f8 Rows.vaultTrueRow.domain false) (Rows.vaultTrueSpec.post enc Try.prog Try.f8 false true false false) := by
  refine returnsInHanded_of_change_sized (C := Try.checked) own started (by kernel_rfl) Try.func8
    (ChangeSpec.witness6 (enc := enc) (C := Try.checked) false ⟨#[], #[.string ⟨#[]⟩, .string ⟨#[]⟩, .string ⟨#[]⟩], []⟩ 8 (by kernel_rfl) (by kernel_rfl) (by kernel_rfl) (by kernel_rfl)) ?_
  intro W base args ds gs before hval hW _ hsz _
  have hW' := hW
  obtain ⟨p, q, hA, hV, _, _, _⟩ := hW'
  obtain ⟨rfl, rfl⟩ := trodVars_none hV
  have hA2 : DataW.TrodAll enc Try.prog W 0 (fun _ => true) true [9, 9, 9] args.toList ds p := hA
  obtain ⟨v0, vs0, d0, ds0, p0, q0, ee, rfl, _, t0, rr0⟩ := trodAll_cons hA2
  obtain ⟨v1, vs1, d1, ds1, p1, q1, rfl, rfl, _, t1, rr1⟩ := trodAll_cons rr0
  obtain ⟨v2, vs2, d2, ds2, p2, q2, rfl, rfl, _, t2, rr2⟩ := trodAll_cons rr1
  obtain ⟨rfl, rfl, _⟩ := trodAll_nil rr2
  obtain rfl : args = [v0, v1, v2].toArray := by apply Array.toList_inj.1; rw [ee]
  obtain ⟨l0, rfl, e0, m0, b0⟩ := arg_str (t := 9) (by kernel_rfl) (hval 0 9 v0 rfl rfl) t0
  have h0 : l0.length ≤ reachBytes := by subst e0; exact sized_string hsz (j := 0) (t := 9) rfl rfl
  obtain ⟨l1, rfl, e1, m1, b1⟩ := arg_str (t := 9) (by kernel_rfl) (hval 1 9 v1 rfl rfl) t1
  have h1 : l1.length ≤ reachBytes := by subst e1; exact sized_string hsz (j := 1) (t := 9) rfl rfl
  obtain ⟨l2, rfl, e2, m2, b2⟩ := arg_str (t := 9) (by kernel_rfl) (hval 2 9 v2 rfl rfl) t2
  have h2 : l2.length ≤ reachBytes := by subst e2; exact sized_string hsz (j := 2) (t := 9) rfl rfl
  simp only [List.append_nil] at hW
  exact law_true (Vt.VaultTrue_ct l0 l1 l2 (by have e : reachBytes = 140737488351232 := rfl; omega) (by have e : reachBytes = 140737488351232 := rfl; omega) (by have e : reachBytes = 140737488351232 := rfl; omega)) (trivial) rfl hW rfl (t := 4) (by kernel_rfl) (by kernel_rfl) (by kernel_rfl) rfl

theorem over : Rows.vaultTrueRow.holds Try.pinned (OpenSpec.ofChange Rows.vaultTrueSpec) :=
  OpenClaim.holds_of_wide 8 Try.f8 rfl rfl rfl rfl rfl rfl rfl ⟨rfl, rfl, rfl, rfl, rfl⟩ rfl rfl rfl rfl rfl (by kernel_rfl) Try.func8 (by kernel_rfl)
    (of_decide_eq_true (by kernel_rfl)) (by unfold Func.isWrapper; first | (rw [if_pos (by decide +kernel)]; kernel_rfl) | (rw [if_neg (by decide +kernel)]; exact ⟨rfl, rfl⟩))
    (fun os started H enc _ => lifted os started H enc)
end Go.Proofs.Ytolgclfbllcjhaa.vaultTrue
namespace Go.Proofs.Ytolgclfbllcjhaa
theorem vaultTrue_proved : Rows.VaultTrueSaid := vaultTrue.over
end Go.Proofs.Ytolgclfbllcjhaa
#print axioms Go.Proofs.Ytolgclfbllcjhaa.vaultTrue_proved
