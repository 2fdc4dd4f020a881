/- QuorumTexts: the law answers true for all arguments, of bulk at most 1048576; they read as they did. -/
import Derived.Test.YtodcghipfolejaaRows
import Derived.Test.YtodcghipfolejaaQ14
import Derived.Test.YtodcghipfolejaaSlRow
namespace Go.Proofs.Ytodcghipfolejaa.quorumTexts
open Go Go.Sl Go.RowKit Go.WideShapes Go.ChangeShapes Go.ChangeMaps
set_option linter.unusedVariables false
set_option linter.unusedSimpArgs false

theorem own : ownKnob Try.prog.godebug = none := by kernel_rfl

mutual
theorem bulk_eq {H : Type} : ∀ d : DataW H, Rows.uptoBulk d = bulkOf d
  | .lit l => by cases l <;> rfl
  | .nil => rfl
  | .ptr d => by simp only [Rows.uptoBulk, bulkOf, bulk_eq d]
  | .slice e s => by simp only [Rows.uptoBulk, bulkOf, bulk_all e, bulk_all s]
  | .agg p => by simp only [Rows.uptoBulk, bulkOf, bulk_all p]
  | .iface _ d => by simp only [Rows.uptoBulk, bulkOf, bulk_eq d]
  | .map e => by simp only [Rows.uptoBulk, bulkOf, bulk_entries e]
  | .held _ => rfl
theorem bulk_all {H : Type} : ∀ l : List (DataW H), Rows.uptoBulkAll l = bulkAll l
  | [] => rfl
  | d :: r => by simp only [Rows.uptoBulkAll, bulkAll, bulk_eq d, bulk_all r]
theorem bulk_entries {H : Type} : ∀ l : List (Lit × DataW H), Rows.uptoBulkEntries l = bulkEntries l
  | [] => rfl
  | x :: r => by simp only [Rows.uptoBulkEntries, bulkEntries, bulk_entry x, bulk_entries r]
theorem bulk_entry {H : Type} : ∀ x : Lit × DataW H, Rows.uptoBulkEntry x = bulkEntry x
  | (l, d) => by cases l <;> simp only [Rows.uptoBulkEntry, bulkEntry, bulk_eq d]
end

set_option maxRecDepth 100000 in
theorem lifted (os : Os) (started : os.Started) (H : Type) (enc : TypeId × Value → H) (F : Stop.Interp) :
    ReturnsInHanded {} Try.checked os 15 .any ((Rows.OpenSpec.upto Rows.quorumTextsSpec).pre6 enc Try.prog Try.f15 Rows.quorumTextsUptoRow.domain false) (((Rows.OpenSpec.upto Rows.quorumTextsSpec).at F).post enc Try.prog Try.f15 false true false false) := by
  refine returnsInHanded_of_cond (C := Try.checked) (s := Rows.OpenSpec.upto Rows.quorumTextsSpec) (k := Rows.uptoSmall) rfl own started (by kernel_rfl) Try.func15
    (OpenSpec.witness (enc := enc) (C := Try.checked) (s := Rows.OpenSpec.upto Rows.quorumTextsSpec) (k := Rows.uptoSmall) rfl false ⟨#[], #[.slice none 0 0, .string ⟨#[]⟩], []⟩ 8 (by kernel_rfl) (by kernel_rfl) (by kernel_rfl)
      (x := ([.nil, .lit (.string [])], [], [])) (by kernel_rfl) rfl (by kernel_rfl)) ?_
  intro W base args ds gs before hval hW _ hk _
  have hW' := hW
  obtain ⟨p, q, hA, hV, _, _, _⟩ := hW'
  obtain ⟨rfl, rfl⟩ := trodVars_none hV
  have hA2 : DataW.TrodAll enc Try.prog W 0 (fun _ => true) true [22, 9] args.toList ds p := hA
  obtain ⟨v0, vs0, d0, ds0, p0, q0, ee, rfl, _, t0, rr0⟩ := trodAll_cons hA2
  obtain ⟨v1, vs1, d1, ds1, p1, q1, rfl, rfl, _, t1, rr1⟩ := trodAll_cons rr0
  obtain ⟨rfl, rfl, _⟩ := trodAll_nil rr1
  obtain rfl : args = [v0, v1].toArray := by apply Array.toList_inj.1; rw [ee]
  obtain ⟨a0, l0, c0, rfl, s0, z0, b0⟩ := arg_slice (t := 22) (e := 3) (by kernel_rfl) (shp_int (by kernel_rfl)) (n := 1) (by kernel_rfl) (fun _ => rfl) (by decide) (hval 0 22 v0 rfl rfl) t0
  have r0 := s0.rd
  rw [flat_ints] at r0
  obtain ⟨l1, rfl, e1, m1, b1⟩ := arg_str (t := 9) (by kernel_rfl) (hval 1 9 v1 rfl rfl) t1
  have len0 : l0.length + 1 ≤ bulkOf d0 := by rw [sum_ones] at b0; exact b0
  have hbulk : bulkOf d0 + bulkOf d1 ≤ 1048576 := by
    have h1 : Rows.uptoBulkAll ([d0, d1] ++ []) ≤ 1048576 := of_decide_eq_true hk
    rw [bulk_all] at h1
    simp only [List.append_nil, bulkAll] at h1
    omega
  simp only [List.append_nil] at hW
  exact law_true (QuorumTexts_ct l0 l1 a0 c0 (by have := len0; omega) (by omega)) (r0) rfl hW rfl (t := 4) (by kernel_rfl) (by kernel_rfl) (by kernel_rfl) rfl

theorem over : Rows.quorumTextsUptoRow.holds Try.pinned (Rows.OpenSpec.upto Rows.quorumTextsSpec) :=
  OpenClaim.holds_of_cond 15 Try.f15 rfl rfl rfl rfl rfl rfl rfl ⟨rfl, rfl, rfl, rfl, rfl⟩ rfl rfl rfl rfl rfl (by kernel_rfl) Try.func15 (by kernel_rfl)
    (of_decide_eq_true (by kernel_rfl)) (by unfold Func.isWrapper; first | (rw [if_pos (by decide +kernel)]; kernel_rfl) | (rw [if_neg (by decide +kernel)]; exact ⟨rfl, rfl⟩))
    (fun os started H enc _ F => lifted os started H enc F)
end Go.Proofs.Ytodcghipfolejaa.quorumTexts
namespace Go.Proofs.Ytodcghipfolejaa
theorem quorumTexts_proved : Rows.QuorumTextsUptoSaid := quorumTexts.over
end Go.Proofs.Ytodcghipfolejaa
#print axioms Go.Proofs.Ytodcghipfolejaa.quorumTexts_proved
