/- VaultPlays: the law answers true for all arguments; they read as they did. -/
import Derived.Test.YtolgclfbllcjhaaRows
import Derived.Test.YtolgclfbllcjhaaMV17
import Derived.Test.YtolgclfbllcjhaaMD20
import Derived.Test.YtolgclfbllcjhaaMSlRow
namespace Go.Proofs.Ytolgclfbllcjhaa.vaultPlays
open Go Go.Sl Go.RowKit Go.WideShapes Go.ChangeShapes Go.ChangeMaps
set_option linter.unusedVariables false
set_option linter.unusedSimpArgs false

theorem own : ownKnob Try.prog.godebug = none := by kernel_rfl

set_option maxRecDepth 100000 in
theorem lifted (os : Os) (started : os.Started) (H : Type) (enc : TypeId × Value → H) :
    ReturnsInHanded {} Try.checked os 10 .any (Rows.vaultPlaysSpec.pre6 enc Try.prog Try.f10 Rows.vaultPlaysRow.domain false) (Rows.vaultPlaysSpec.post enc Try.prog Try.f10 false true false false) := by
  refine returnsInHanded_of_change_sized (C := Try.checked) own started (by kernel_rfl) Try.func10
    (ChangeSpec.witness6 (enc := enc) (C := Try.checked) false ⟨#[], #[.int .i64 0, .slice none 0 0], []⟩ 8 (by kernel_rfl) (by kernel_rfl) (by kernel_rfl) (by kernel_rfl)) ?_
  intro W base args ds gs before hval hW _ hsz _
  have hW' := hW
  obtain ⟨p, q, hA, hV, _, _, _⟩ := hW'
  obtain ⟨rfl, rfl⟩ := trodVars_none hV
  have hA2 : DataW.TrodAll enc Try.prog W 0 (fun _ => true) true [3, 67] args.toList ds p := hA
  obtain ⟨v0, vs0, d0, ds0, p0, q0, ee, rfl, _, t0, rr0⟩ := trodAll_cons hA2
  obtain ⟨v1, vs1, d1, ds1, p1, q1, rfl, rfl, _, t1, rr1⟩ := trodAll_cons rr0
  obtain ⟨rfl, rfl, _⟩ := trodAll_nil rr1
  obtain rfl : args = [v0, v1].toArray := by apply Array.toList_inj.1; rw [ee]
  obtain ⟨n0, rfl, w0⟩ := arg_int (t := 3) (k := .i64) (by kernel_rfl) (hval 0 3 v0 rfl rfl) t0
  obtain ⟨a1, l1, c1, rfl, s1, z1⟩ := argW_slice hsz (j := 1) rfl rfl (t := 67) (e := 71) (by kernel_rfl) shpVAct (n := 5) (by kernel_rfl) (fun _ => rfl) (by decide) (hval 1 67 v1 rfl rfl) t1
  have r1 := s1.rd
  have h1 := len_sized hsz (j := 1) (t := 67) (e := 71) (n := 72) rfl rfl (by kernel_rfl) (by kernel_rfl) z1
  simp only [List.append_nil] at hW
  exact law_true (Vt.VaultPlays_ct n0 l1 a1 c1) (⟨r1, s1.each⟩) rfl hW rfl (t := 4) (by kernel_rfl) (by kernel_rfl) (by kernel_rfl) rfl

theorem over : Rows.vaultPlaysRow.holds Try.pinned (OpenSpec.ofChange Rows.vaultPlaysSpec) :=
  OpenClaim.holds_of_wide 10 Try.f10 rfl rfl rfl rfl rfl rfl rfl ⟨rfl, rfl, rfl, rfl, rfl⟩ rfl rfl rfl rfl rfl (by kernel_rfl) Try.func10 (by kernel_rfl)
    (of_decide_eq_true (by kernel_rfl)) (by unfold Func.isWrapper; first | (rw [if_pos (by decide +kernel)]; kernel_rfl) | (rw [if_neg (by decide +kernel)]; exact ⟨rfl, rfl⟩))
    (fun os started H enc _ => lifted os started H enc)
end Go.Proofs.Ytolgclfbllcjhaa.vaultPlays
namespace Go.Proofs.Ytolgclfbllcjhaa
theorem vaultPlays_proved : Rows.VaultPlaysSaid := vaultPlays.over
end Go.Proofs.Ytolgclfbllcjhaa
#print axioms Go.Proofs.Ytolgclfbllcjhaa.vaultPlays_proved
