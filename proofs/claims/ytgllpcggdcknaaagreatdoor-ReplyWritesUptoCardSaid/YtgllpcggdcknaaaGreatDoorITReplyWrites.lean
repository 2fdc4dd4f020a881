import Derived.Test.YtgllpcggdcknaaaGreatDoorCards
import Derived.Test.YtgllpcggdcknaaaGreatDoorTie
import Derived.Test.YtgllpcggdcknaaaGreatDoorIx13
/- ReplyWrites, of bulk at most 1048576: the law answers true for all arguments, and they read as they did; the variables that it lists are tied to the program's text. -/
set_option linter.unusedVariables false
set_option linter.unusedSimpArgs false
namespace Go.Proofs.YtgllpcggdcknaaaGreatDoor.replyWrites
open Go Go.Sl Go.RowKit Go.WideShapes Go.ChangeShapes Go.ChangeMaps
theorem reads (os : Os) {H : Type} (enc : TypeId × Value → H) : ∃ places, DataW.whole enc Tryz.prog ((Rp.laidWorld os).forCall (fun _ _ => 0) ⟨#[], #[.agg #[.int .i64 0, .string ⟨#[]⟩, .string ⟨#[]⟩, .string ⟨#[]⟩, .int .u64 0, .slice none 0 0, .int .u64 0, .slice none 0 0, .string ⟨#[]⟩, .slice none 0 0]], []⟩).memory Tryz.f3.params.toList Rows.replyWritesSpec.vars false #[.agg #[.int .i64 0, .string ⟨#[]⟩, .string ⟨#[]⟩, .string ⟨#[]⟩, .int .u64 0, .slice none 0 0, .int .u64 0, .slice none 0 0, .string ⟨#[]⟩, .slice none 0 0]].toList 8 = some ([.agg [.lit (.int .i64 0), .lit (.string []), .lit (.string []), .lit (.string []), .lit (.int .u64 0), .nil, .lit (.int .u64 0), .nil, .lit (.string []), .nil]], [], places) :=
 ⟨[], by kernel_rfl⟩
set_option maxRecDepth 100000 in
theorem lifted (os : Os) (started : os.Started) (H : Type) (enc : TypeId × Value → H) (F : Stop.Interp) :
  ReturnsInHanded {} Tryz.checked os 3 .any ((Rows.OpenSpec.upto Rows.replyWritesSpec).preRow enc Tryz.prog Tryz.f3 Rows.replyWritesUptoRow.domain false Rows.replyWritesUptoRow.laid) (((Rows.OpenSpec.upto Rows.replyWritesSpec).at F).post enc Tryz.prog Tryz.f3 false true false false) := by
 obtain ⟨places, hx⟩ := reads os enc
 refine returnsInHanded_of_row (C := Tryz.checked) (s := Rows.OpenSpec.upto Rows.replyWritesSpec) Rp.own started z_5 Tryz.func3
  (witness_row_atRef (enc := enc) (C := Tryz.checked) false (Rp.laidWorld os) #[.agg #[.int .i64 0, .string ⟨#[]⟩, .string ⟨#[]⟩, .string ⟨#[]⟩, .int .u64 0, .slice none 0 0, .int .u64 0, .slice none 0 0, .string ⟨#[]⟩, .slice none 0 0]] rfl (Rp.laid_vars os _) (Rp.laid_rest os _) z_5
   (OpenSpec.preRow_of_cond 8 hx z_5 (fun k hk => by cases hk; kernel_rfl) z_5 (Rp.laid_met os _))) ?_
 intro W base args ds gs before hval hW _ hcond _ hL hO _
 have hk := hcond _ rfl
 have hG : Rp.Gl (hp W) := Rp.gl_of_laid hL hO
 have hW' := hW
 obtain ⟨p, q, hA, hV, _, _, _⟩ := hW'
 obtain ⟨rfl, rfl⟩ := trodVars_none hV
 have hA2 : DataW.TrodAll enc Tryz.prog W 0 (fun _ => true) true [27] args.toList ds p := hA
 obtain ⟨v0, vs0, d0, ds0, p0, q0, ee, rfl, _, t0, rr0⟩ := trodAll_cons hA2
 obtain ⟨rfl, rfl, _⟩ := trodAll_nil rr0
 obtain rfl : args = [v0].toArray := by apply Array.toList_inj.1; rw [ee]
 obtain ⟨y0, rfl, o0, b0⟩ := arg_struct (t := 27) Tryz.underlying27 Rp.shpRep (hval 0 27 v0 rfl rfl) t0
 have hbulk : bulkOf d0 ≤ 1048576 := by
  have h1 : Rows.uptoBulkAll ([d0] ++ []) ≤ 1048576 := of_decide_eq_true hk
  rw [Rp.bulk_all] at h1
  simp only [List.append_nil, bulkAll] at h1
  omega
 simp only [List.append_nil] at hW
 exact law_true (Rp.ReplyWrites_ct y0.r y0.x (Rp.szW_w o0 (by omega)) o0.cap o0.rd.vals (by have := Rp.textP_w o0 (by omega); omega)) (⟨hG, o0.rd⟩) rfl hW rfl (t := 4) z_5 z_5 z_5 rfl
theorem over : Rows.replyWritesUptoRow.holds Tryz.pinned (Rows.OpenSpec.upto Rows.replyWritesSpec) :=
 OpenClaim.holds_of_cond 3 Tryz.f3 rfl rfl rfl rfl rfl rfl rfl ⟨rfl, rfl, rfl, rfl, rfl⟩ rfl rfl rfl rfl rfl z_5 Tryz.func3 z_5
  (of_decide_eq_true z_5) (by unfold Func.isWrapper; first | (rw [if_pos (by decide +kernel)]; kernel_rfl) | (rw [if_neg (by decide +kernel)]; exact ⟨rfl, rfl⟩))
  (fun os started H enc _ F => by rw [OpenClaim.pre_eq_preRow]; exact lifted os started H enc F)
theorem card : Rows.ReplyWritesUptoCardSaid :=
 Claim7.holds_tied_plain_at .later [] _ _ _ _ over (fun _ h => by cases h) z_5 (fun _ h => by cases h) replyWritesUpto_row_tie rfl ⟨rfl, rfl⟩ z_5 rfl
  (fun f fn hf hfn => by
   obtain rfl : f = 3 := Option.some.inj ((show Tryz.prog.funcNamed Rows.replyWritesUptoRow.func = some 3 by kernel_rfl).symm.trans hf) |>.symm
   obtain rfl : fn = Tryz.f3 := (Option.some.inj (Tryz.func3.symm.trans hfn)).symm
   refine ⟨by kernel_rfl, fun j t ht => ?_⟩
   rw [Tryz.params3] at ht
   have hm := Array.mem_of_getElem? ht
   simp only [List.mem_toArray, List.mem_cons, List.not_mem_nil, or_false] at hm
   rcases hm with rfl
   ·exact (show Tryz.prog.wantsStandIn 27 = false by kernel_rfl))
  z_5
end Go.Proofs.YtgllpcggdcknaaaGreatDoor.replyWrites
namespace Go.Proofs.YtgllpcggdcknaaaGreatDoor
theorem replyWrites_proved : Rows.ReplyWritesUptoCardSaid := replyWrites.card
end Go.Proofs.YtgllpcggdcknaaaGreatDoor
#print axioms Go.Proofs.YtgllpcggdcknaaaGreatDoor.replyWrites_proved
