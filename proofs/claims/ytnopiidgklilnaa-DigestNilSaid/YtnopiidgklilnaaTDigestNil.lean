/- DigestNil: the nil digest takes a text and gives nothing; the text reads as it did. -/
import Derived.Test.YtnopiidgklilnaaRows
import Derived.Test.YtnopiidgklilnaaW10
import Derived.Test.YtnopiidgklilnaaSlRow
namespace Go.Proofs.Ytnopiidgklilnaa.digestNil
open Go Go.Sl Go.RowKit Go.WideShapes Go.ChangeShapes Go.ChangeMaps
set_option linter.unusedVariables false
set_option linter.unusedSimpArgs false

theorem own : ownKnob Try.prog.godebug = none := by kernel_rfl

set_option maxRecDepth 100000 in
theorem lifted (os : Os) (started : os.Started) (H : Type) (enc : TypeId × Value → H) :
    ReturnsInHanded {} Try.checked os 6 .any (Rows.digestNilSpec.pre6 enc Try.prog Try.f6 Rows.digestNilRow.domain false) (Rows.digestNilSpec.post enc Try.prog Try.f6 false true false false) := by
  refine returnsInHanded_of_change_sized (C := Try.checked) own started (by kernel_rfl) Try.func6
    (ChangeSpec.witness6 (enc := enc) (C := Try.checked) false ⟨#[], #[.string ⟨#[]⟩], []⟩ 8 (by kernel_rfl) (by kernel_rfl) (by kernel_rfl) (by kernel_rfl)) ?_
  intro W base args ds gs before hval hW _ hsz _
  have hW' := hW
  obtain ⟨p, q, hA, hV, _, _, _⟩ := hW'
  obtain ⟨rfl, rfl⟩ := trodVars_none hV
  have hA2 : DataW.TrodAll enc Try.prog W 0 (fun _ => true) true [9] args.toList ds p := hA
  obtain ⟨v0, vs0, d0, ds0, p0, q0, e0, rfl, _, t0, r0⟩ := trodAll_cons hA2
  obtain ⟨rfl, rfl, _⟩ := trodAll_nil r0
  obtain rfl : args = [v0].toArray := by apply Array.toList_inj.1; rw [e0]
  obtain ⟨l0, rfl, rfl, _⟩ := arg_string (t := 9) (by kernel_rfl) (hval 0 9 v0 rfl rfl) t0
  have h0 : l0.length ≤ reachBytes := sized_string hsz (j := 0) (t := 9) rfl rfl
  simp only [List.append_nil] at hW
  exact law_true (DigestNil_ct l0) trivial rfl hW rfl (t := 4) (by kernel_rfl) (by kernel_rfl) (by kernel_rfl) rfl

theorem over : Rows.digestNilRow.holds Try.pinned (OpenSpec.ofChange Rows.digestNilSpec) :=
  OpenClaim.holds_of_wide 6 Try.f6 rfl rfl rfl rfl rfl rfl rfl ⟨rfl, rfl, rfl, rfl, rfl⟩ rfl rfl rfl rfl rfl (by kernel_rfl) Try.func6 (by kernel_rfl)
    (of_decide_eq_true (by kernel_rfl)) (by unfold Func.isWrapper; first | (rw [if_pos (by decide +kernel)]; kernel_rfl) | (rw [if_neg (by decide +kernel)]; exact ⟨rfl, rfl⟩))
    (fun os started H enc _ => lifted os started H enc)
end Go.Proofs.Ytnopiidgklilnaa.digestNil
namespace Go.Proofs.Ytnopiidgklilnaa
theorem digestNil_proved : Rows.DigestNilSaid := digestNil.over
end Go.Proofs.Ytnopiidgklilnaa
#print axioms Go.Proofs.Ytnopiidgklilnaa.digestNil_proved
