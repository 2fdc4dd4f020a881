import Derived.Test.YtgllpcggdcknaaaGreatDoorCards
import Derived.Test.YtgllpcggdcknaaaGreatDoorTie
import Derived.Test.YtgllpcggdcknaaaGreatDoorKx11
/- ReplyRows, of bulk at most 1048576: the law answers true for all arguments, and they read as they did; the variables that it lists are tied to the program's text. -/
set_option linter.unusedVariables false
set_option linter.unusedSimpArgs false
namespace Go.Proofs.YtgllpcggdcknaaaGreatDoor.replyRows
open Go Go.Sl Go.RowKit Go.WideShapes Go.ChangeShapes Go.ChangeMaps
theorem reads (os : Os) {H : Type} (enc : TypeId × Value → H) : ∃ places, DataW.whole enc Tryz.prog ((Rp.laidWorld os).forCall (fun _ _ => 0) ⟨#[], #[.slice none 0 0], []⟩).memory Tryz.f7.params.toList Rows.replyRowsSpec.vars false #[.slice none 0 0].toList 8 = some ([.nil], [], places) :=
 ⟨[], by kernel_rfl⟩
set_option maxRecDepth 100000 in
theorem lifted (os : Os) (started : os.Started) (H : Type) (enc : TypeId × Value → H) (F : Stop.Interp) :
  ReturnsInHanded {} Tryz.checked os 7 .any ((Rows.OpenSpec.upto Rows.replyRowsSpec).preRow enc Tryz.prog Tryz.f7 Rows.replyRowsUptoRow.domain false Rows.replyRowsUptoRow.laid) (((Rows.OpenSpec.upto Rows.replyRowsSpec).at F).post enc Tryz.prog Tryz.f7 false true false false) := by
 obtain ⟨places, hx⟩ := reads os enc
 refine returnsInHanded_of_row (C := Tryz.checked) (s := Rows.OpenSpec.upto Rows.replyRowsSpec) Rp.own started z_5 Tryz.func7
  (witness_row_atRef (enc := enc) (C := Tryz.checked) false (Rp.laidWorld os) #[.slice none 0 0] rfl (Rp.laid_vars os _) (Rp.laid_rest os _) z_5
   (OpenSpec.preRow_of_cond 8 hx z_5 (fun k hk => by cases hk; kernel_rfl) z_5 (Rp.laid_met os _))) ?_
 intro W base args ds gs before hval hW _ hcond _ hL hO _
 have hk := hcond _ rfl
 have hG : Rp.Gl (hp W) := Rp.gl_of_laid hL hO
 have hW' := hW
 obtain ⟨p, q, hA, hV, _, _, _⟩ := hW'
 obtain ⟨rfl, rfl⟩ := trodVars_none hV
 have hA2 : DataW.TrodAll enc Tryz.prog W 0 (fun _ => true) true [42] args.toList ds p := hA
 obtain ⟨v0, vs0, d0, ds0, p0, q0, ee, rfl, _, t0, rr0⟩ := trodAll_cons hA2
 obtain ⟨rfl, rfl, _⟩ := trodAll_nil rr0
 obtain rfl : args = [v0].toArray := by apply Array.toList_inj.1; rw [ee]
 obtain ⟨a0, l0, c0, rfl, s0, z0, b0⟩ := arg_slice (t := 42) (e := 27) z_5 Rp.shpRep (n := 10) z_5 (fun _ => rfl) (by decide) (hval 0 42 v0 rfl rfl) t0
 have r0 := s0.rd
 have hbulk : bulkOf d0 ≤ 1048576 := by
  have h1 : Rows.uptoBulkAll ([d0] ++ []) ≤ 1048576 := of_decide_eq_true hk
  rw [Rp.bulk_all] at h1
  simp only [List.append_nil, bulkAll] at h1
  omega
 simp only [List.append_nil] at hW
 exact law_true (Rp.ReplyRows_ct l0 a0 c0 (by have := Rp.sum_len l0; omega) (fun m hm => Rp.szW_w (s0.each m hm) (by have := Rp.sum_mem (f := Rp.wR) hm; omega)) (fun m hm => (s0.each m hm).cap) (fun m hm => (s0.each m hm).rd.vals) (fun m hm => by have h1 := Rp.sum_mem (f := Rp.wR) hm; have := Rp.textP_w (s0.each m hm) (by omega); omega) (by have := Rp.txts_w s0.each (by omega); omega)) (⟨hG, ⟨s0.rd, fun m hm => (s0.each m hm).rd⟩⟩) rfl hW rfl (t := 4) z_5 z_5 z_5 rfl
theorem over : Rows.replyRowsUptoRow.holds Tryz.pinned (Rows.OpenSpec.upto Rows.replyRowsSpec) :=
 OpenClaim.holds_of_cond 7 Tryz.f7 rfl rfl rfl rfl rfl rfl rfl ⟨rfl, rfl, rfl, rfl, rfl⟩ rfl rfl rfl rfl rfl z_5 Tryz.func7 z_5
  (of_decide_eq_true z_5) (by unfold Func.isWrapper; first | (rw [if_pos (by decide +kernel)]; kernel_rfl) | (rw [if_neg (by decide +kernel)]; exact ⟨rfl, rfl⟩))
  (fun os started H enc _ F => by rw [OpenClaim.pre_eq_preRow]; exact lifted os started H enc F)
theorem card : Rows.ReplyRowsUptoCardSaid :=
 Claim7.holds_tied_plain_at .later [] _ _ _ _ over (fun _ h => by cases h) z_5 (fun _ h => by cases h) replyRowsUpto_row_tie rfl ⟨rfl, rfl⟩ z_5 rfl
  (fun f fn hf hfn => by
   obtain rfl : f = 7 := Option.some.inj ((show Tryz.prog.funcNamed Rows.replyRowsUptoRow.func = some 7 by kernel_rfl).symm.trans hf) |>.symm
   obtain rfl : fn = Tryz.f7 := (Option.some.inj (Tryz.func7.symm.trans hfn)).symm
   refine ⟨by kernel_rfl, fun j t ht => ?_⟩
   rw [Tryz.params7] at ht
   have hm := Array.mem_of_getElem? ht
   simp only [List.mem_toArray, List.mem_cons, List.not_mem_nil, or_false] at hm
   rcases hm with rfl
   ·exact (show Tryz.prog.wantsStandIn 42 = false by kernel_rfl))
  z_5
end Go.Proofs.YtgllpcggdcknaaaGreatDoor.replyRows
namespace Go.Proofs.YtgllpcggdcknaaaGreatDoor
theorem replyRows_proved : Rows.ReplyRowsUptoCardSaid := replyRows.card
end Go.Proofs.YtgllpcggdcknaaaGreatDoor
#print axioms Go.Proofs.YtgllpcggdcknaaaGreatDoor.replyRows_proved
