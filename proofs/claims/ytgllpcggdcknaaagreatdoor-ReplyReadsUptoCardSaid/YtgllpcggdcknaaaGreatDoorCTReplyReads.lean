import Derived.Test.YtgllpcggdcknaaaGreatDoorCards
import Derived.Test.YtgllpcggdcknaaaGreatDoorTie
import Derived.Test.YtgllpcggdcknaaaGreatDoorCx16
/- ReplyReads, of bulk at most 1048576: the law answers true for all arguments, and they read as they did; the variables that it lists are tied to the program's text. -/
set_option linter.unusedVariables false
set_option linter.unusedSimpArgs false
namespace Go.Proofs.YtgllpcggdcknaaaGreatDoor.replyReads
open Go Go.Sl Go.RowKit Go.WideShapes Go.ChangeShapes Go.ChangeMaps
theorem reads (os : Os) {H : Type} (enc : TypeId × Value → H) : ∃ places, DataW.whole enc Tryz.prog ((Rp.laidWorld os).forCall (fun _ _ => 0) ⟨#[], #[.string ⟨#[]⟩], []⟩).memory Tryz.f4.params.toList Rows.replyReadsSpec.vars false #[.string ⟨#[]⟩].toList 8 = some ([.lit (.string [])], [], places) :=
 ⟨[], by kernel_rfl⟩
set_option maxRecDepth 100000 in
theorem lifted (os : Os) (started : os.Started) (H : Type) (enc : TypeId × Value → H) (F : Stop.Interp) :
  ReturnsInHanded {} Tryz.checked os 4 .any ((Rows.OpenSpec.upto Rows.replyReadsSpec).preRow enc Tryz.prog Tryz.f4 Rows.replyReadsUptoRow.domain false Rows.replyReadsUptoRow.laid) (((Rows.OpenSpec.upto Rows.replyReadsSpec).at F).post enc Tryz.prog Tryz.f4 false true false false) := by
 obtain ⟨places, hx⟩ := reads os enc
 refine returnsInHanded_of_row (C := Tryz.checked) (s := Rows.OpenSpec.upto Rows.replyReadsSpec) Rp.own started z_6 Tryz.func4
  (witness_row_atRef (enc := enc) (C := Tryz.checked) false (Rp.laidWorld os) #[.string ⟨#[]⟩] rfl (Rp.laid_vars os _) (Rp.laid_rest os _) z_6
   (OpenSpec.preRow_of_cond 8 hx z_6 (fun k hk => by cases hk; kernel_rfl) z_6 (Rp.laid_met os _))) ?_
 intro W base args ds gs before hval hW _ hcond _ hL hO _
 have hk := hcond _ rfl
 have hG : Rp.Gl (hp W) := Rp.gl_of_laid hL hO
 have hW' := hW
 obtain ⟨p, q, hA, hV, _, _, _⟩ := hW'
 obtain ⟨rfl, rfl⟩ := trodVars_none hV
 have hA2 : DataW.TrodAll enc Tryz.prog W 0 (fun _ => true) true [9] args.toList ds p := hA
 obtain ⟨v0, vs0, d0, ds0, p0, q0, ee, rfl, _, t0, rr0⟩ := trodAll_cons hA2
 obtain ⟨rfl, rfl, _⟩ := trodAll_nil rr0
 obtain rfl : args = [v0].toArray := by apply Array.toList_inj.1; rw [ee]
 obtain ⟨l0, rfl, e0, m0, b0⟩ := arg_str (t := 9) z_6 (hval 0 9 v0 rfl rfl) t0
 have hbulk : bulkOf d0 ≤ 1048576 := by
  have h1 : Rows.uptoBulkAll ([d0] ++ []) ≤ 1048576 := of_decide_eq_true hk
  rw [Rp.bulk_all] at h1
  simp only [List.append_nil, bulkAll] at h1
  omega
 simp only [List.append_nil] at hW
 exact law_true (Rp.ReplyReads_ct l0 (by omega)) (hG) rfl hW rfl (t := 4) z_6 z_6 z_6 rfl
theorem over : Rows.replyReadsUptoRow.holds Tryz.pinned (Rows.OpenSpec.upto Rows.replyReadsSpec) :=
 OpenClaim.holds_of_cond 4 Tryz.f4 rfl rfl rfl rfl rfl rfl rfl ⟨rfl, rfl, rfl, rfl, rfl⟩ rfl rfl rfl rfl rfl z_6 Tryz.func4 z_6
  (of_decide_eq_true z_6) (by unfold Func.isWrapper; first | (rw [if_pos (by decide +kernel)]; kernel_rfl) | (rw [if_neg (by decide +kernel)]; exact ⟨rfl, rfl⟩))
  (fun os started H enc _ F => by rw [OpenClaim.pre_eq_preRow]; exact lifted os started H enc F)
theorem card : Rows.ReplyReadsUptoCardSaid :=
 Claim7.holds_tied_plain_at .later [] _ _ _ _ over (fun _ h => by cases h) z_6 (fun _ h => by cases h) replyReadsUpto_row_tie rfl ⟨rfl, rfl⟩ z_6 rfl
  (fun f fn hf hfn => by
   obtain rfl : f = 4 := Option.some.inj ((show Tryz.prog.funcNamed Rows.replyReadsUptoRow.func = some 4 by kernel_rfl).symm.trans hf) |>.symm
   obtain rfl : fn = Tryz.f4 := (Option.some.inj (Tryz.func4.symm.trans hfn)).symm
   refine ⟨by kernel_rfl, fun j t ht => ?_⟩
   rw [Tryz.params4] at ht
   have hm := Array.mem_of_getElem? ht
   simp only [List.mem_toArray, List.mem_cons, List.not_mem_nil, or_false] at hm
   rcases hm with rfl
   ·exact (show Tryz.prog.wantsStandIn 9 = false by kernel_rfl))
  z_6
end Go.Proofs.YtgllpcggdcknaaaGreatDoor.replyReads
namespace Go.Proofs.YtgllpcggdcknaaaGreatDoor
theorem replyReads_proved : Rows.ReplyReadsUptoCardSaid := replyReads.card
end Go.Proofs.YtgllpcggdcknaaaGreatDoor
#print axioms Go.Proofs.YtgllpcggdcknaaaGreatDoor.replyReads_proved
