/- TailLooks: the law answers true for all arguments, of bulk at most 1048576; they read as they did. -/
import Derived.Test.YtodcghipfolejaaRows
import Derived.Test.YtodcghipfolejaaU18
import Derived.Test.YtodcghipfolejaaSlRow
namespace Go.Proofs.Ytodcghipfolejaa.tailLooks
open Go Go.Sl Go.RowKit Go.WideShapes Go.ChangeShapes Go.ChangeMaps
set_option linter.unusedVariables false
set_option linter.unusedSimpArgs false

theorem own : ownKnob Try.prog.godebug = none := by kernel_rfl

mutual
theorem bulk_eq {H : Type} : ∀ d : DataW H, Rows.uptoBulk d = bulkOf d
  | .lit l => by cases l <;> rfl
  | .nil => rfl
  | .ptr d => by simp only [Rows.uptoBulk, bulkOf, bulk_eq d]
  | .slice e s => by simp only [Rows.uptoBulk, bulkOf, bulk_all e, bulk_all s]
  | .agg p => by simp only [Rows.uptoBulk, bulkOf, bulk_all p]
  | .iface _ d => by simp only [Rows.uptoBulk, bulkOf, bulk_eq d]
  | .map e => by simp only [Rows.uptoBulk, bulkOf, bulk_entries e]
  | .held _ => rfl
theorem bulk_all {H : Type} : ∀ l : List (DataW H), Rows.uptoBulkAll l = bulkAll l
  | [] => rfl
  | d :: r => by simp only [Rows.uptoBulkAll, bulkAll, bulk_eq d, bulk_all r]
theorem bulk_entries {H : Type} : ∀ l : List (Lit × DataW H), Rows.uptoBulkEntries l = bulkEntries l
  | [] => rfl
  | x :: r => by simp only [Rows.uptoBulkEntries, bulkEntries, bulk_entry x, bulk_entries r]
theorem bulk_entry {H : Type} : ∀ x : Lit × DataW H, Rows.uptoBulkEntry x = bulkEntry x
  | (l, d) => by cases l <;> simp only [Rows.uptoBulkEntry, bulkEntry, bulk_eq d]
end

set_option maxRecDepth 100000 in
theorem lifted (os : Os) (started : os.Started) (H : Type) (enc : TypeId × Value → H) (F : Stop.Interp) :
    ReturnsInHanded {} Try.checked os 14 .any ((Rows.OpenSpec.upto Rows.tailLooksSpec).pre6 enc Try.prog Try.f14 Rows.tailLooksUptoRow.domain false) (((Rows.OpenSpec.upto Rows.tailLooksSpec).at F).post enc Try.prog Try.f14 false true false false) := by
  refine returnsInHanded_of_cond (C := Try.checked) (s := Rows.OpenSpec.upto Rows.tailLooksSpec) (k := Rows.uptoSmall) rfl own started (by kernel_rfl) Try.func14
    (OpenSpec.witness (enc := enc) (C := Try.checked) (s := Rows.OpenSpec.upto Rows.tailLooksSpec) (k := Rows.uptoSmall) rfl false ⟨#[], #[.agg #[.int .u64 0, .int .u64 0, .slice none 0 0, .slice none 0 0], .int .u64 0, .int .i64 0, .int .u64 0], []⟩ 8 (by kernel_rfl) (by kernel_rfl) (by kernel_rfl)
      (x := ([.agg [.lit (.int .u64 0), .lit (.int .u64 0), .nil, .nil], .lit (.int .u64 0), .lit (.int .i64 0), .lit (.int .u64 0)], [], [])) (by kernel_rfl) rfl (by kernel_rfl)) ?_
  intro W base args ds gs before hval hW _ hk _
  have hW' := hW
  obtain ⟨p, q, hA, hV, _, _, _⟩ := hW'
  obtain ⟨rfl, rfl⟩ := trodVars_none hV
  have hA2 : DataW.TrodAll enc Try.prog W 0 (fun _ => true) true [47, 27, 3, 27] args.toList ds p := hA
  obtain ⟨v0, vs0, d0, ds0, p0, q0, ee, rfl, _, t0, rr0⟩ := trodAll_cons hA2
  obtain ⟨v1, vs1, d1, ds1, p1, q1, rfl, rfl, _, t1, rr1⟩ := trodAll_cons rr0
  obtain ⟨v2, vs2, d2, ds2, p2, q2, rfl, rfl, _, t2, rr2⟩ := trodAll_cons rr1
  obtain ⟨v3, vs3, d3, ds3, p3, q3, rfl, rfl, _, t3, rr3⟩ := trodAll_cons rr2
  obtain ⟨rfl, rfl, _⟩ := trodAll_nil rr3
  obtain rfl : args = [v0, v1, v2, v3].toArray := by apply Array.toList_inj.1; rw [ee]
  obtain ⟨y0, rfl, o0, b0⟩ := arg_struct (t := 47) Try.underlying47 shpLog (hval 0 47 v0 rfl rfl) t0
  obtain ⟨n1, rfl, w1⟩ := arg_int (t := 27) (k := .u64) (by kernel_rfl) (hval 1 27 v1 rfl rfl) t1
  obtain ⟨n2, rfl, w2⟩ := arg_int (t := 3) (k := .i64) (by kernel_rfl) (hval 2 3 v2 rfl rfl) t2
  obtain ⟨n3, rfl, w3⟩ := arg_int (t := 27) (k := .u64) (by kernel_rfl) (hval 3 27 v3 rfl rfl) t3
  have hbulk : bulkOf d0 + bulkOf d1 + bulkOf d2 + bulkOf d3 ≤ 1048576 := by
    have h1 : Rows.uptoBulkAll ([d0, d1, d2, d3] ++ []) ≤ 1048576 := of_decide_eq_true hk
    rw [bulk_all] at h1
    simp only [List.append_nil, bulkAll] at h1
    omega
  simp only [List.append_nil] at hW
  exact law_true (TailLooks_ct y0 n1 n2 n3 o0.base.1 o0.cap o0.cl o0.len (dat_of_bulk (g := y0) (N := 1048576) (by omega) (by decide)) (wf_u64 w1) (wf_i64 w2)) (o0.ok) rfl hW rfl (t := 4) (by kernel_rfl) (by kernel_rfl) (by kernel_rfl) rfl

theorem over : Rows.tailLooksUptoRow.holds Try.pinned (Rows.OpenSpec.upto Rows.tailLooksSpec) :=
  OpenClaim.holds_of_cond 14 Try.f14 rfl rfl rfl rfl rfl rfl rfl ⟨rfl, rfl, rfl, rfl, rfl⟩ rfl rfl rfl rfl rfl (by kernel_rfl) Try.func14 (by kernel_rfl)
    (of_decide_eq_true (by kernel_rfl)) (by unfold Func.isWrapper; first | (rw [if_pos (by decide +kernel)]; kernel_rfl) | (rw [if_neg (by decide +kernel)]; exact ⟨rfl, rfl⟩))
    (fun os started H enc _ F => lifted os started H enc F)
end Go.Proofs.Ytodcghipfolejaa.tailLooks
namespace Go.Proofs.Ytodcghipfolejaa
theorem tailLooks_proved : Rows.TailLooksUptoSaid := tailLooks.over
end Go.Proofs.Ytodcghipfolejaa
#print axioms Go.Proofs.Ytodcghipfolejaa.tailLooks_proved
