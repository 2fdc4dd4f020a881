/- DigestTwins: a twin goes its own way, and both give the digest of what each was given; the texts read as they did. -/
import Derived.Test.YtnopiidgklilnaaRows
import Derived.Test.YtnopiidgklilnaaW10
import Derived.Test.YtnopiidgklilnaaSlRow
namespace Go.Proofs.Ytnopiidgklilnaa.digestTwins
open Go Go.Sl Go.RowKit Go.WideShapes Go.ChangeShapes Go.ChangeMaps
set_option linter.unusedVariables false
set_option linter.unusedSimpArgs false

theorem own : ownKnob Try.prog.godebug = none := by kernel_rfl

set_option maxRecDepth 100000 in
theorem lifted (os : Os) (started : os.Started) (H : Type) (enc : TypeId × Value → H) :
    ReturnsInHanded {} Try.checked os 5 .any (Rows.digestTwinsSpec.pre6 enc Try.prog Try.f5 Rows.digestTwinsRow.domain false) (Rows.digestTwinsSpec.post enc Try.prog Try.f5 false true false false) := by
  refine returnsInHanded_of_change_sized (C := Try.checked) own started (by kernel_rfl) Try.func5
    (ChangeSpec.witness6 (enc := enc) (C := Try.checked) false ⟨#[], #[.string ⟨#[]⟩, .string ⟨#[]⟩, .string ⟨#[]⟩], []⟩ 8 (by kernel_rfl) (by kernel_rfl) (by kernel_rfl) (by kernel_rfl)) ?_
  intro W base args ds gs before hval hW _ hsz _
  have hW' := hW
  obtain ⟨p, q, hA, hV, _, _, _⟩ := hW'
  obtain ⟨rfl, rfl⟩ := trodVars_none hV
  have hA2 : DataW.TrodAll enc Try.prog W 0 (fun _ => true) true [9, 9, 9] args.toList ds p := hA
  obtain ⟨v0, vs0, d0, ds0, p0, q0, e0, rfl, _, t0, r0⟩ := trodAll_cons hA2
  obtain ⟨v1, vs1, d1, ds1, p1, q1, rfl, rfl, _, t1, r1⟩ := trodAll_cons r0
  obtain ⟨v2, vs2, d2, ds2, p2, q2, rfl, rfl, _, t2, r2⟩ := trodAll_cons r1
  obtain ⟨rfl, rfl, _⟩ := trodAll_nil r2
  obtain rfl : args = [v0, v1, v2].toArray := by apply Array.toList_inj.1; rw [e0]
  obtain ⟨l0, rfl, rfl, _⟩ := arg_string (t := 9) (by kernel_rfl) (hval 0 9 v0 rfl rfl) t0
  have h0 : l0.length ≤ reachBytes := sized_string hsz (j := 0) (t := 9) rfl rfl
  obtain ⟨l1, rfl, rfl, _⟩ := arg_string (t := 9) (by kernel_rfl) (hval 1 9 v1 rfl rfl) t1
  have h1 : l1.length ≤ reachBytes := sized_string hsz (j := 1) (t := 9) rfl rfl
  obtain ⟨l2, rfl, rfl, _⟩ := arg_string (t := 9) (by kernel_rfl) (hval 2 9 v2 rfl rfl) t2
  have h2 : l2.length ≤ reachBytes := sized_string hsz (j := 2) (t := 9) rfl rfl
  simp only [List.append_nil] at hW
  exact law_true (DigestTwins_ct l0 l1 l2 h0 h1 h2) trivial rfl hW rfl (t := 4) (by kernel_rfl) (by kernel_rfl) (by kernel_rfl) rfl

theorem over : Rows.digestTwinsRow.holds Try.pinned (OpenSpec.ofChange Rows.digestTwinsSpec) :=
  OpenClaim.holds_of_wide 5 Try.f5 rfl rfl rfl rfl rfl rfl rfl ⟨rfl, rfl, rfl, rfl, rfl⟩ rfl rfl rfl rfl rfl (by kernel_rfl) Try.func5 (by kernel_rfl)
    (of_decide_eq_true (by kernel_rfl)) (by unfold Func.isWrapper; first | (rw [if_pos (by decide +kernel)]; kernel_rfl) | (rw [if_neg (by decide +kernel)]; exact ⟨rfl, rfl⟩))
    (fun os started H enc _ => lifted os started H enc)
end Go.Proofs.Ytnopiidgklilnaa.digestTwins
namespace Go.Proofs.Ytnopiidgklilnaa
theorem digestTwins_proved : Rows.DigestTwinsSaid := digestTwins.over
end Go.Proofs.Ytnopiidgklilnaa
#print axioms Go.Proofs.Ytnopiidgklilnaa.digestTwins_proved
