import Derived.Test.YtgllpcggdcknaaaGreatDoorCards
import Derived.Test.YtgllpcggdcknaaaGreatDoorTie
import Derived.Test.YtgllpcggdcknaaaGreatDoorGx11
/- ReplyBack, of bulk at most 1048576: the law answers true for all arguments, and they read as they did; the variables that it lists are tied to the program's text. -/
set_option linter.unusedVariables false
set_option linter.unusedSimpArgs false
namespace Go.Proofs.YtgllpcggdcknaaaGreatDoor.replyBack
open Go Go.Sl Go.RowKit Go.WideShapes Go.ChangeShapes Go.ChangeMaps
theorem reads (os : Os) {H : Type} (enc : TypeId × Value → H) : ∃ places, DataW.whole enc Tryz.prog ((Rp.laidWorld os).forCall (fun _ _ => 0) ⟨#[], #[.agg #[.int .i64 0, .string ⟨#[]⟩, .string ⟨#[]⟩, .string ⟨#[]⟩, .int .u64 0, .slice none 0 0, .int .u64 0, .slice none 0 0, .string ⟨#[]⟩, .slice none 0 0], .string ⟨#[]⟩], []⟩).memory Tryz.f5.params.toList Rows.replyBackSpec.vars false #[.agg #[.int .i64 0, .string ⟨#[]⟩, .string ⟨#[]⟩, .string ⟨#[]⟩, .int .u64 0, .slice none 0 0, .int .u64 0, .slice none 0 0, .string ⟨#[]⟩, .slice none 0 0], .string ⟨#[]⟩].toList 8 = some ([.agg [.lit (.int .i64 0), .lit (.string []), .lit (.string []), .lit (.string []), .lit (.int .u64 0), .nil, .lit (.int .u64 0), .nil, .lit (.string []), .nil], .lit (.string [])], [], places) :=
 ⟨[], by kernel_rfl⟩
set_option maxRecDepth 100000 in
theorem lifted (os : Os) (started : os.Started) (H : Type) (enc : TypeId × Value → H) (F : Stop.Interp) :
  ReturnsInHanded {} Tryz.checked os 5 .any ((Rows.OpenSpec.upto Rows.replyBackSpec).preRow enc Tryz.prog Tryz.f5 Rows.replyBackUptoRow.domain false Rows.replyBackUptoRow.laid) (((Rows.OpenSpec.upto Rows.replyBackSpec).at F).post enc Tryz.prog Tryz.f5 false true false false) := by
 obtain ⟨places, hx⟩ := reads os enc
 refine returnsInHanded_of_row (C := Tryz.checked) (s := Rows.OpenSpec.upto Rows.replyBackSpec) Rp.own started z_5 Tryz.func5
  (witness_row_atRef (enc := enc) (C := Tryz.checked) false (Rp.laidWorld os) #[.agg #[.int .i64 0, .string ⟨#[]⟩, .string ⟨#[]⟩, .string ⟨#[]⟩, .int .u64 0, .slice none 0 0, .int .u64 0, .slice none 0 0, .string ⟨#[]⟩, .slice none 0 0], .string ⟨#[]⟩] rfl (Rp.laid_vars os _) (Rp.laid_rest os _) z_5
   (OpenSpec.preRow_of_cond 8 hx z_5 (fun k hk => by cases hk; kernel_rfl) z_5 (Rp.laid_met os _))) ?_
 intro W base args ds gs before hval hW _ hcond _ hL hO _
 have hk := hcond _ rfl
 have hG : Rp.Gl (hp W) := Rp.gl_of_laid hL hO
 have hW' := hW
 obtain ⟨p, q, hA, hV, _, _, _⟩ := hW'
 obtain ⟨rfl, rfl⟩ := trodVars_none hV
 have hA2 : DataW.TrodAll enc Tryz.prog W 0 (fun _ => true) true [27, 9] args.toList ds p := hA
 obtain ⟨v0, vs0, d0, ds0, p0, q0, ee, rfl, _, t0, rr0⟩ := trodAll_cons hA2
 obtain ⟨v1, vs1, d1, ds1, p1, q1, rfl, rfl, _, t1, rr1⟩ := trodAll_cons rr0
 obtain ⟨rfl, rfl, _⟩ := trodAll_nil rr1
 obtain rfl : args = [v0, v1].toArray := by apply Array.toList_inj.1; rw [ee]
 obtain ⟨y0, rfl, o0, b0⟩ := arg_struct (t := 27) Tryz.underlying27 Rp.shpRep (hval 0 27 v0 rfl rfl) t0
 obtain ⟨l1, rfl, e1, m1, b1⟩ := arg_str (t := 9) z_5 (hval 1 9 v1 rfl rfl) t1
 have hbulk : bulkOf d0 + bulkOf d1 ≤ 1048576 := by
  have h1 : Rows.uptoBulkAll ([d0, d1] ++ []) ≤ 1048576 := of_decide_eq_true hk
  rw [Rp.bulk_all] at h1
  simp only [List.append_nil, bulkAll] at h1
  omega
 simp only [List.append_nil] at hW
 exact law_true (Rp.ReplyBack_ct y0.r y0.x l1 (Rp.szW_w o0 (by omega)) o0.cap o0.rd.vals (by have := Rp.textP_w o0 (by omega); omega)) (⟨hG, o0.rd⟩) rfl hW rfl (t := 4) z_5 z_5 z_5 rfl
theorem over : Rows.replyBackUptoRow.holds Tryz.pinned (Rows.OpenSpec.upto Rows.replyBackSpec) :=
 OpenClaim.holds_of_cond 5 Tryz.f5 rfl rfl rfl rfl rfl rfl rfl ⟨rfl, rfl, rfl, rfl, rfl⟩ rfl rfl rfl rfl rfl z_5 Tryz.func5 z_5
  (of_decide_eq_true z_5) (by unfold Func.isWrapper; first | (rw [if_pos (by decide +kernel)]; kernel_rfl) | (rw [if_neg (by decide +kernel)]; exact ⟨rfl, rfl⟩))
  (fun os started H enc _ F => by rw [OpenClaim.pre_eq_preRow]; exact lifted os started H enc F)
theorem card : Rows.ReplyBackUptoCardSaid :=
 Claim7.holds_tied_plain_at .later [] _ _ _ _ over (fun _ h => by cases h) z_5 (fun _ h => by cases h) replyBackUpto_row_tie rfl ⟨rfl, rfl⟩ z_5 rfl
  (fun f fn hf hfn => by
   obtain rfl : f = 5 := Option.some.inj ((show Tryz.prog.funcNamed Rows.replyBackUptoRow.func = some 5 by kernel_rfl).symm.trans hf) |>.symm
   obtain rfl : fn = Tryz.f5 := (Option.some.inj (Tryz.func5.symm.trans hfn)).symm
   refine ⟨by kernel_rfl, fun j t ht => ?_⟩
   rw [Tryz.params5] at ht
   have hm := Array.mem_of_getElem? ht
   simp only [List.mem_toArray, List.mem_cons, List.not_mem_nil, or_false] at hm
   rcases hm with rfl | rfl
   ·exact (show Tryz.prog.wantsStandIn 27 = false by kernel_rfl)
   ·exact (show Tryz.prog.wantsStandIn 9 = false by kernel_rfl))
  z_5
end Go.Proofs.YtgllpcggdcknaaaGreatDoor.replyBack
namespace Go.Proofs.YtgllpcggdcknaaaGreatDoor
theorem replyBack_proved : Rows.ReplyBackUptoCardSaid := replyBack.card
end Go.Proofs.YtgllpcggdcknaaaGreatDoor
#print axioms Go.Proofs.YtgllpcggdcknaaaGreatDoor.replyBack_proved
