/- DigestPieces, where the pieces are of bulk at most 1048576: written one behind the other they give the whole text's digest; they read as they did. -/
import Derived.Test.YtnopiidgklilnaaRows
import Derived.Test.YtnopiidgklilnaaW10
import Derived.Test.YtnopiidgklilnaaSlRow
namespace Go.Proofs.Ytnopiidgklilnaa.digestPieces
open Go Go.Sl Go.RowKit Go.WideShapes Go.ChangeShapes Go.ChangeMaps
set_option linter.unusedVariables false
set_option linter.unusedSimpArgs false

theorem own : ownKnob Try.prog.godebug = none := by kernel_rfl
theorem bulk_flat {H : Type} (ls : List (List UInt8)) : Rows.uptoBulkAll (ls.map fun l => DataW.lit (H := H) (.string l)) = ls.flatten.length + ls.length := by
  induction ls with
  | nil => rfl
  | cons l r ih => simp only [List.map_cons, Rows.uptoBulkAll, Rows.uptoBulk, ih, List.flatten_cons, List.length_append, List.length_cons]; omega

set_option maxRecDepth 100000 in
theorem lifted (os : Os) (started : os.Started) (H : Type) (enc : TypeId × Value → H) (F : Stop.Interp) :
    ReturnsInHanded {} Try.checked os 4 .any ((Rows.OpenSpec.upto Rows.digestPiecesSpec).pre6 enc Try.prog Try.f4 Rows.digestPiecesUptoRow.domain false) (((Rows.OpenSpec.upto Rows.digestPiecesSpec).at F).post enc Try.prog Try.f4 false true false false) := by
  refine returnsInHanded_of_cond (C := Try.checked) (s := Rows.OpenSpec.upto Rows.digestPiecesSpec) (k := Rows.uptoSmall) rfl own started (by kernel_rfl) Try.func4
    (OpenSpec.witness (enc := enc) (C := Try.checked) (s := Rows.OpenSpec.upto Rows.digestPiecesSpec) (k := Rows.uptoSmall) rfl false ⟨#[], #[.slice none 0 0], []⟩ 8 (by kernel_rfl) (by kernel_rfl) (by kernel_rfl)
      (x := ([.nil], [], [])) (by kernel_rfl) rfl (by kernel_rfl)) ?_
  intro W base args ds gs before hval hW _ hk _
  have hW' := hW
  obtain ⟨p, q, hA, hV, _, _, _⟩ := hW'
  obtain ⟨rfl, rfl⟩ := trodVars_none hV
  have hA2 : DataW.TrodAll enc Try.prog W 0 (fun _ => true) true [25] args.toList ds p := hA
  obtain ⟨v0, vs0, d0, ds0, p0, q0, e0, rfl, _, t0, r0⟩ := trodAll_cons hA2
  obtain ⟨rfl, rfl, _⟩ := trodAll_nil r0
  obtain rfl : args = [v0].toArray := by apply Array.toList_inj.1; rw [e0]
  obtain ⟨a0, ls, c0, rfl, hlc, hcm, hrd, hd⟩ := arg_strings (t := 25) (e := 9) (by kernel_rfl) (by kernel_rfl) (by kernel_rfl) (hval 0 25 v0 rfl rfl) t0
  have hb : ls.flatten.length + ls.length ≤ 1048576 := by
    have h1 : Rows.uptoBulkAll ([d0] ++ []) ≤ 1048576 := of_decide_eq_true hk
    rcases hd with ⟨rfl, rfl⟩ | ⟨spare, rfl⟩
    · simp
    · simp only [List.append_nil, Rows.uptoBulkAll, Rows.uptoBulk] at h1
      rw [bulk_flat] at h1
      omega
  simp only [List.append_nil] at hW
  exact law_true (DigestPieces_ct ls a0 c0 (by omega) (by omega)) hrd rfl hW rfl (t := 4) (by kernel_rfl) (by kernel_rfl) (by kernel_rfl) rfl

theorem over : Rows.digestPiecesUptoRow.holds Try.pinned (Rows.OpenSpec.upto Rows.digestPiecesSpec) :=
  OpenClaim.holds_of_cond 4 Try.f4 rfl rfl rfl rfl rfl rfl rfl ⟨rfl, rfl, rfl, rfl, rfl⟩ rfl rfl rfl rfl rfl (by kernel_rfl) Try.func4 (by kernel_rfl)
    (of_decide_eq_true (by kernel_rfl)) (by unfold Func.isWrapper; first | (rw [if_pos (by decide +kernel)]; kernel_rfl) | (rw [if_neg (by decide +kernel)]; exact ⟨rfl, rfl⟩))
    (fun os started H enc _ F => lifted os started H enc F)
end Go.Proofs.Ytnopiidgklilnaa.digestPieces
namespace Go.Proofs.Ytnopiidgklilnaa
theorem digestPieces_proved : Rows.DigestPiecesUptoSaid := digestPieces.over
end Go.Proofs.Ytnopiidgklilnaa
#print axioms Go.Proofs.Ytnopiidgklilnaa.digestPieces_proved
