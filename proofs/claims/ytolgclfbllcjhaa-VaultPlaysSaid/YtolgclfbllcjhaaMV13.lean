/- The vault's reference: Name, Put, Get, All, Keep. -/
import Derived.Test.YtolgclfbllcjhaaMV10
namespace Go.Proofs.Ytolgclfbllcjhaa.Vt
open Go Go.Sl
set_option linter.unusedVariables false
set_option linter.unusedSimpArgs false

theorem Name_ct (s : Bs) (hs : s.length ≤ 140737488355328) : Pu Try.prog 91 [B s] (fun _ => True) (B (nmB s)) := by
  have hlen := Dg.hexs_length s
  refine ct_enter 6 Try.func91 rfl rfl rfl ?_
  intro F _
  repeat (first | refine g_seq ?_ | refine at_code ?_ | refine g_skip ?_ | refine g_block ?_ | refine g_exit rfl ?_ | refine g_cond_t rfl ?_ | refine g_cond_f rfl ?_)
  refine g_region ?_
  refine gl_f (s_assign rfl) rfl rfl rfl ?_
  refine gl_nil ?_
  repeat (first | refine g_seq ?_ | refine at_code ?_ | refine g_skip ?_ | refine g_block ?_ | refine g_exit rfl ?_ | refine g_cond_t rfl ?_ | refine g_cond_f rfl ?_)
  refine g_region ?_
  refine gl_f (s_move rfl) rfl rfl rfl ?_
  refine gl_callp rfl (Dg.rHex_ct s hs) (fun _ _ _ => trivial) rfl ?_
  refine gl_f (s_add_str rfl rfl (by (first | omega | (simp only [List.length_append, List.length_cons, List.length_nil, List.length_take, List.length_drop, List.length_map, List.length_replicate]; omega) | (simp only [List.length_append, List.length_cons, List.length_nil, List.length_take, List.length_drop, List.length_map, List.length_replicate] at *; omega)))) rfl rfl rfl ?_
  refine gl_f (s_assign rfl) rfl rfl rfl ?_
  refine gl_nil ?_
  repeat (first | refine g_seq ?_ | refine at_code ?_ | refine g_skip ?_ | refine g_block ?_ | refine g_exit rfl ?_ | refine g_cond_t rfl ?_ | refine g_cond_f rfl ?_)
  refine g_ret ?_
  exact at_end1 rfl rfl [] ⟨rfl, rfl⟩ (fun _ h => h)
/-- a call's end: what it tells, how the reference's disk stands -/
def RV (x x' : DM) (r : RA) (v0 v : Value) (A : List As) : Prop := v = v0 ∧ ∃ r' Z, r'.X = r.X ∧ A = .blk r.X (refO x' r') :: Z ∧ ∀ h, RFacts x r h → (∃ bs, Sat h Z bs) → RFacts x' r' h
theorem RV.same (x : DM) (r : RA) (v : Value) : RV x x r v v [.blk r.X (refO x r)] := ⟨rfl, r, [], rfl, rfl, fun h f _ => f⟩
theorem Sat.tl {h : Heap} {o : As} {Z : List As} (hs : ∃ bs, Sat h (o :: Z) bs) : ∃ bs, Sat h Z bs := by
  obtain ⟨bs, b1, b2, _, _, h2⟩ := hs
  exact ⟨b2, h2⟩
set_option maxRecDepth 8000 in
set_option maxHeartbeats 2000000 in
theorem rPut_ct (x : DM) (r : RA) (b : Bs) (n : Nat) (hw0 : Wf x n) (hn : n ≤ 900000) (hbl : b.length ≤ 140737488351232) :
    Ct Try.prog 74 [Ptr r.X, B b] (RFacts x r) [.blk r.X (refO x r)] (RV x (vpD x b) r (.tuple #[B (vpS x b), .int .i64 (vpE x b)])) := by
  have hI := hw0.inv
  have hsm := hw0.small (show n ≤ 1000000 by omega)
  have hsl := Dg.sha_length b
  have hnl := bN_len b
  refine ct_enter 43 Try.func74 rfl rfl rfl ?_
  intro F hr
  obtain ⟨q1, hq1⟩ : ∃ q, q = decide ((4096 : Int) < (b.length : Nat)) := ⟨_, rfl⟩
  repeat (first | refine g_seq ?_ | refine at_code ?_ | refine g_skip ?_ | refine g_block ?_ | refine g_exit rfl ?_ | refine g_cond_t rfl ?_ | refine g_cond_f rfl ?_)
  refine g_region ?_
  refine gl_f (s_assign rfl) rfl rfl rfl ?_
  refine gl_f (s_assign rfl) rfl rfl rfl ?_
  refine gl_nil ?_
  repeat (first | refine g_seq ?_ | refine at_code ?_ | refine g_skip ?_ | refine g_block ?_ | refine g_exit rfl ?_ | refine g_cond_t rfl ?_ | refine g_cond_f rfl ?_)
  refine g_region ?_
  refine gl_f (s_move rfl) rfl rfl rfl ?_
  refine gl_f (s_len_str rfl) rfl rfl rfl ?_
  refine gl_f ((s_gtr rfl rfl).eq (congrArg Value.bool hq1.symm)) rfl rfl rfl ?_
  refine gl_nil ?_
  repeat (first | refine g_seq ?_ | refine at_code ?_ | refine g_skip ?_ | refine g_block ?_ | refine g_exit rfl ?_ | refine g_cond_t rfl ?_ | refine g_cond_f rfl ?_)
  cases q1
  rotate_left
  · have hl : 4096 < b.length := by have := of_decide_eq_true hq1.symm; omega
    have e1 : vpE x b = 2 := by rw [vpE, if_pos hl]
    have e2 : vpS x b = [] := by rw [vpS, e1, if_neg (by decide)]
    have e3 : vpD x b = x := by rw [vpD, if_pos hl]
    rw [e1, e2, e3]
    repeat (first | refine g_seq ?_ | refine at_code ?_ | refine g_skip ?_ | refine g_block ?_ | refine g_exit rfl ?_ | refine g_cond_t rfl ?_ | refine g_cond_f rfl ?_)
    refine g_region ?_
    refine gl_f (s_assign rfl) rfl rfl rfl ?_
    refine gl_f (s_assign rfl) rfl rfl rfl ?_
    refine gl_nil ?_
    repeat (first | refine g_seq ?_ | refine at_code ?_ | refine g_skip ?_ | refine g_block ?_ | refine g_exit rfl ?_ | refine g_cond_t rfl ?_ | refine g_cond_f rfl ?_)
    refine g_ret ?_
    exact at_end2 rfl rfl rfl [.blk r.X (refO x r)] (RV.same ..) (fun w hw => hw)
  have hl : ¬ 4096 < b.length := by have := of_decide_eq_false hq1.symm; omega
  obtain ⟨re, hre⟩ : ∃ re, re = readE x (bN b) := ⟨_, rfl⟩
  obtain ⟨rs, hrs⟩ : ∃ rs, rs = readS x (bN b) := ⟨_, rfl⟩
  obtain ⟨q2, hq2⟩ : ∃ q, q = decide (re = 0) := ⟨_, rfl⟩
  obtain ⟨q3, hq3⟩ : ∃ q, q = decide (rs = b) := ⟨_, rfl⟩
  have hhas : vpHas x b = (q2 && q3) := by rw [vpHas, ← hre, ← hrs, hq2, hq3]
  repeat (first | refine g_seq ?_ | refine at_code ?_ | refine g_skip ?_ | refine g_block ?_ | refine g_exit rfl ?_ | refine g_cond_t rfl ?_ | refine g_cond_f rfl ?_)
  repeat (first | refine g_seq ?_ | refine at_code ?_ | refine g_skip ?_ | refine g_block ?_ | refine g_exit rfl ?_ | refine g_cond_t rfl ?_ | refine g_cond_f rfl ?_)
  refine g_region ?_
  refine gl_f (s_move rfl) rfl rfl rfl ?_
  refine gl_callp rfl (Dg.rSum_ct b (by omega)) (fun _ _ _ => trivial) rfl ?_
  refine gl_f (s_assign rfl) rfl rfl rfl ?_
  refine gl_nil ?_
  repeat (first | refine g_seq ?_ | refine at_code ?_ | refine g_skip ?_ | refine g_block ?_ | refine g_exit rfl ?_ | refine g_cond_t rfl ?_ | refine g_cond_f rfl ?_)
  repeat (first | refine g_seq ?_ | refine at_code ?_ | refine g_skip ?_ | refine g_block ?_ | refine g_exit rfl ?_ | refine g_cond_t rfl ?_ | refine g_cond_f rfl ?_)
  refine g_region ?_
  refine gl_f (s_move rfl) rfl rfl rfl ?_
  refine gl_f (s_move rfl) rfl rfl rfl ?_
  refine gl_callp rfl (Name_ct (Dg.sha b) (by omega)) (fun _ _ _ => trivial) rfl ?_
  refine gl_callp rfl (rRead_ct x r (bN b) (Nat.le_trans hsm.seen (by decide))) (fun h hh ⟨bs, hb⟩ => ⟨Sat.blk hb (by repeat first|exact .del|apply Upd.there), hr.le hh⟩) rfl ?_; rw [← hre, ← hrs]
  refine gl_f (s_move rfl) rfl rfl rfl ?_
  refine gl_f (s_extract rfl rfl) rfl rfl rfl ?_
  refine gl_f (s_extract rfl rfl) rfl rfl rfl ?_
  refine gl_f (s_assign rfl) rfl rfl rfl ?_
  refine gl_f (s_assign rfl) rfl rfl rfl ?_
  refine gl_nil ?_
  repeat (first | refine g_seq ?_ | refine at_code ?_ | refine g_skip ?_ | refine g_block ?_ | refine g_exit rfl ?_ | refine g_cond_t rfl ?_ | refine g_cond_f rfl ?_)
  have main : vpHas x b = false → ∀ e, e = turnE x (vpC b) → (e = 0 → (vpE x b = syncE (turnD x (vpC b)) ∧ vpD x b = syncD (turnD x (vpC b)))) ∧ (e ≠ 0 → (vpE x b = e ∧ vpD x b = turnD x (vpC b))) := by
    intro hh e he
    refine ⟨fun h0 => ?_, fun h0 => ?_⟩
    · exact ⟨by simp [vpE, hl, hh, ← he, h0], by simp [vpD, hl, hh, ← he, h0]⟩
    · have hno : turnD x (vpC b) = x := turnD_no (by rw [← he]; exact h0)
      exact ⟨by simp [vpE, hl, hh, ← he, h0], by simp [vpD, hl, hh, ← he, h0, hno]⟩
  rcases (show (q2 = true ∧ q3 = true) ∨ q2 = false ∨ (q2 = true ∧ q3 = false) by cases q2 <;> cases q3 <;> simp) with ⟨rfl, rfl⟩ | rfl | ⟨rfl, rfl⟩
  · have e1 : vpE x b = 0 := by rw [vpE, if_neg hl, hhas, if_pos (by decide)]
    have e2 : vpS x b = Dg.sha b := by rw [vpS, e1, if_pos rfl]
    have e3 : vpD x b = x := by rw [vpD, if_neg hl, hhas, if_pos (by decide)]
    rw [e1, e2, e3]
    repeat (first | refine g_seq ?_ | refine at_code ?_ | refine g_skip ?_ | refine g_block ?_ | refine g_exit rfl ?_ | refine g_cond_t rfl ?_ | refine g_cond_f rfl ?_)
    refine g_region ?_
    refine gl_f (s_move rfl) rfl rfl rfl ?_
    refine gl_f ((s_eql rfl rfl).eq (congrArg Value.bool hq2.symm)) rfl rfl rfl ?_
    refine gl_f (s_move rfl) rfl rfl rfl ?_
    (first | refine gl_guard_no rfl rfl rfl rfl rfl rfl rfl ?_ | refine gl_guard_un rfl rfl rfl rfl rfl rfl ?_ | (refine gl_guard_yes rfl rfl rfl ?_; refine gl_f (s_move rfl) rfl rfl rfl ?_))
    (first | refine gl_guard_no rfl rfl rfl rfl rfl rfl rfl ?_ | refine gl_guard_un rfl rfl rfl rfl rfl rfl ?_ | (refine gl_guard_yes rfl rfl rfl ?_; refine gl_f (s_move rfl) rfl rfl rfl ?_))
    (first | refine gl_guard_no rfl rfl rfl rfl rfl rfl rfl ?_ | refine gl_guard_un rfl rfl rfl rfl rfl rfl ?_ | (refine gl_guard_yes rfl rfl rfl ?_; refine gl_f ((s_eql_str rfl rfl).eq (congrArg Value.bool hq3.symm)) rfl rfl rfl ?_))
    refine gl_f (by first | exact s_pick_t rfl rfl | exact s_pick_f rfl rfl) rfl rfl rfl ?_
    refine gl_nil ?_
    repeat (first | refine g_seq ?_ | refine at_code ?_ | refine g_skip ?_ | refine g_block ?_ | refine g_exit rfl ?_ | refine g_cond_t rfl ?_ | refine g_cond_f rfl ?_)
    repeat (first | refine g_seq ?_ | refine at_code ?_ | refine g_skip ?_ | refine g_block ?_ | refine g_exit rfl ?_ | refine g_cond_t rfl ?_ | refine g_cond_f rfl ?_)
    refine g_region ?_
    refine gl_f (s_move rfl) rfl rfl rfl ?_
    refine gl_f (s_assign rfl) rfl rfl rfl ?_
    refine gl_f (s_assign rfl) rfl rfl rfl ?_
    refine gl_nil ?_
    repeat (first | refine g_seq ?_ | refine at_code ?_ | refine g_skip ?_ | refine g_block ?_ | refine g_exit rfl ?_ | refine g_cond_t rfl ?_ | refine g_cond_f rfl ?_)
    refine g_ret ?_
    exact at_end2 rfl rfl rfl [.blk r.X (refO x r)] (RV.same ..) (fun w hw => hw)
  case' inr.inl =>
    repeat (first | refine g_seq ?_ | refine at_code ?_ | refine g_skip ?_ | refine g_block ?_ | refine g_exit rfl ?_ | refine g_cond_t rfl ?_ | refine g_cond_f rfl ?_)
    refine g_region ?_
    refine gl_f (s_move rfl) rfl rfl rfl ?_
    refine gl_f ((s_eql rfl rfl).eq (congrArg Value.bool hq2.symm)) rfl rfl rfl ?_
    refine gl_f (s_move rfl) rfl rfl rfl ?_
    (first | refine gl_guard_no rfl rfl rfl rfl rfl rfl rfl ?_ | refine gl_guard_un rfl rfl rfl rfl rfl rfl ?_ | (refine gl_guard_yes rfl rfl rfl ?_; refine gl_f (s_move rfl) rfl rfl rfl ?_))
    (first | refine gl_guard_no rfl rfl rfl rfl rfl rfl rfl ?_ | refine gl_guard_un rfl rfl rfl rfl rfl rfl ?_ | (refine gl_guard_yes rfl rfl rfl ?_; refine gl_f (s_move rfl) rfl rfl rfl ?_))
    (first | refine gl_guard_no rfl rfl rfl rfl rfl rfl rfl ?_ | refine gl_guard_un rfl rfl rfl rfl rfl rfl ?_ | (refine gl_guard_yes rfl rfl rfl ?_; refine gl_f (s_eql_str rfl rfl) rfl rfl rfl ?_))
    refine gl_f (by first | exact s_pick_t rfl rfl | exact s_pick_f rfl rfl) rfl rfl rfl ?_
    refine gl_nil ?_
    repeat (first | refine g_seq ?_ | refine at_code ?_ | refine g_skip ?_ | refine g_block ?_ | refine g_exit rfl ?_ | refine g_cond_t rfl ?_ | refine g_cond_f rfl ?_)
  case' inr.inr =>
    repeat (first | refine g_seq ?_ | refine at_code ?_ | refine g_skip ?_ | refine g_block ?_ | refine g_exit rfl ?_ | refine g_cond_t rfl ?_ | refine g_cond_f rfl ?_)
    refine g_region ?_
    refine gl_f (s_move rfl) rfl rfl rfl ?_
    refine gl_f ((s_eql rfl rfl).eq (congrArg Value.bool hq2.symm)) rfl rfl rfl ?_
    refine gl_f (s_move rfl) rfl rfl rfl ?_
    (first | refine gl_guard_no rfl rfl rfl rfl rfl rfl rfl ?_ | refine gl_guard_un rfl rfl rfl rfl rfl rfl ?_ | (refine gl_guard_yes rfl rfl rfl ?_; refine gl_f (s_move rfl) rfl rfl rfl ?_))
    (first | refine gl_guard_no rfl rfl rfl rfl rfl rfl rfl ?_ | refine gl_guard_un rfl rfl rfl rfl rfl rfl ?_ | (refine gl_guard_yes rfl rfl rfl ?_; refine gl_f (s_move rfl) rfl rfl rfl ?_))
    (first | refine gl_guard_no rfl rfl rfl rfl rfl rfl rfl ?_ | refine gl_guard_un rfl rfl rfl rfl rfl rfl ?_ | (refine gl_guard_yes rfl rfl rfl ?_; refine gl_f ((s_eql_str rfl rfl).eq (congrArg Value.bool hq3.symm)) rfl rfl rfl ?_))
    refine gl_f (by first | exact s_pick_t rfl rfl | exact s_pick_f rfl rfl) rfl rfl rfl ?_
    refine gl_nil ?_
    repeat (first | refine g_seq ?_ | refine at_code ?_ | refine g_skip ?_ | refine g_block ?_ | refine g_exit rfl ?_ | refine g_cond_t rfl ?_ | refine g_cond_f rfl ?_)
  all_goals
    obtain ⟨e, he⟩ : ∃ e, e = turnE x (vpC b) := ⟨_, rfl⟩
    obtain ⟨m1, m2⟩ := main (by rw [hhas]; rfl) e he
    repeat (first | refine g_seq ?_ | refine at_code ?_ | refine g_skip ?_ | refine g_block ?_ | refine g_exit rfl ?_ | refine g_cond_t rfl ?_ | refine g_cond_f rfl ?_)
    refine g_region ?_
    refine gl_f (s_move rfl) rfl rfl rfl ?_
    refine gl_f (s_move rfl) rfl rfl rfl ?_
    refine gl_callp rfl (Name_ct (Dg.sha b) (by omega)) (fun _ _ _ => trivial) rfl ?_
    refine gl_f (s_move rfl) rfl rfl rfl ?_
    refine gl_f (s_build rfl (run_build_struct (places := [(0, 1), (1, 1), (2, 1)]) rfl (by intro f hf; simp at hf; rcases hf with rfl | rfl | rfl <;> rfl) rfl)) rfl rfl rfl ?_
    refine gl_call [] rfl (rTurnPut_ct x r (bN b) b hI hsm (by omega) (by omega)) (fun w hw => hw) (fun h hh _ => hr.le hh) rfl ?_; rw [show turnE x ⟨2, bN b, b⟩ = e from he.symm]; rintro v A ⟨rfl, r1, Z1, d1, rfl, f1⟩; rw [List.append_nil]
    refine gl_f (s_assign rfl) rfl rfl rfl ?_
    refine gl_nil ?_
    repeat (first | refine g_seq ?_ | refine at_code ?_ | refine g_skip ?_ | refine g_block ?_ | refine g_exit rfl ?_ | refine g_cond_t rfl ?_ | refine g_cond_f rfl ?_)
    by_cases h0 : e = 0
    · obtain ⟨e1, e3⟩ := m1 h0
      obtain ⟨e2, he2⟩ : ∃ e2, e2 = syncE (turnD x (vpC b)) := ⟨_, rfl⟩
      have hw1 := wf_turn hw0 (c := vpC b) (.inr (.inl rfl))
      rw [← d1]
      repeat (first | refine g_seq ?_ | refine at_code ?_ | refine g_skip ?_ | refine g_block ?_ | refine g_exit rfl ?_ | refine g_cond_t rfl ?_ | refine g_cond_f rfl ?_)
      refine g_region ?_
      refine gl_f (s_move rfl) rfl rfl rfl ?_
      refine gl_f ((s_eql rfl rfl).eq (v' := .bool true) (by simp [h0])) rfl rfl rfl ?_
      refine gl_nil ?_
      repeat (first | refine g_seq ?_ | refine at_code ?_ | refine g_skip ?_ | refine g_block ?_ | refine g_exit rfl ?_ | refine g_cond_t rfl ?_ | refine g_cond_f rfl ?_)
      repeat (first | refine g_seq ?_ | refine at_code ?_ | refine g_skip ?_ | refine g_block ?_ | refine g_exit rfl ?_ | refine g_cond_t rfl ?_ | refine g_cond_f rfl ?_)
      refine g_region ?_
      refine gl_f (s_move rfl) rfl rfl rfl ?_
      refine gl_call Z1 rfl (rSync_ct (turnD x (vpC b)) r1 hw1.inv) (fun w hw => hw) (fun h hh ⟨bs, hb⟩ => f1 h (hr.le hh) ⟨bs, hb⟩) rfl ?_; rw [← he2]; rintro v A ⟨rfl, r2, Z2, d2, rfl, f2⟩
      refine gl_f (s_assign rfl) rfl rfl rfl ?_
      refine gl_nil ?_
      repeat (first | refine g_seq ?_ | refine at_code ?_ | refine g_skip ?_ | refine g_block ?_ | refine g_exit rfl ?_ | refine g_cond_t rfl ?_ | refine g_cond_f rfl ?_)
      have hfin : ∀ h, RFacts x r h → (∃ bs, Sat h (Z2 ++ Z1) bs) → RFacts (syncD (turnD x (vpC b))) r2 h := fun h f hs => by
        obtain ⟨s2, s1⟩ := Sat.two hs
        exact f2 h (f1 h f s1) s2
      rw [e3]
      by_cases h2 : e2 = 0
      · have es : vpS x b = Dg.sha b := by rw [vpS, e1, ← he2, if_pos h2]
        rw [es, e1, ← he2, h2]
        repeat (first | refine g_seq ?_ | refine at_code ?_ | refine g_skip ?_ | refine g_block ?_ | refine g_exit rfl ?_ | refine g_cond_t rfl ?_ | refine g_cond_f rfl ?_)
        refine g_region ?_
        refine gl_f (s_move rfl) rfl rfl rfl ?_
        refine gl_f ((s_neq rfl rfl).eq (v' := .bool false) (by simp [h2])) rfl rfl rfl ?_
        refine gl_nil ?_
        repeat (first | refine g_seq ?_ | refine at_code ?_ | refine g_skip ?_ | refine g_block ?_ | refine g_exit rfl ?_ | refine g_cond_t rfl ?_ | refine g_cond_f rfl ?_)
        repeat (first | refine g_seq ?_ | refine at_code ?_ | refine g_skip ?_ | refine g_block ?_ | refine g_exit rfl ?_ | refine g_cond_t rfl ?_ | refine g_cond_f rfl ?_)
        refine g_region ?_
        refine gl_f (s_move rfl) rfl rfl rfl ?_
        refine gl_f (s_assign rfl) rfl rfl rfl ?_
        refine gl_f (s_assign rfl) rfl rfl rfl ?_
        refine gl_nil ?_
        repeat (first | refine g_seq ?_ | refine at_code ?_ | refine g_skip ?_ | refine g_block ?_ | refine g_exit rfl ?_ | refine g_cond_t rfl ?_ | refine g_cond_f rfl ?_)
        refine g_ret ?_
        exact at_end2 rfl rfl rfl (.blk r.X (refO (syncD (turnD x (vpC b))) r2) :: (Z2 ++ Z1)) ⟨rfl, r2, Z2 ++ Z1, d2.trans d1, rfl, hfin⟩ (fun w hw => by rw [← d1]; exact hw)
      · have es : vpS x b = [] := by rw [vpS, e1, ← he2, if_neg h2]
        rw [es, e1, ← he2]
        repeat (first | refine g_seq ?_ | refine at_code ?_ | refine g_skip ?_ | refine g_block ?_ | refine g_exit rfl ?_ | refine g_cond_t rfl ?_ | refine g_cond_f rfl ?_)
        refine g_region ?_
        refine gl_f (s_move rfl) rfl rfl rfl ?_
        refine gl_f ((s_neq rfl rfl).eq (v' := .bool true) (by simp [h2])) rfl rfl rfl ?_
        refine gl_nil ?_
        repeat (first | refine g_seq ?_ | refine at_code ?_ | refine g_skip ?_ | refine g_block ?_ | refine g_exit rfl ?_ | refine g_cond_t rfl ?_ | refine g_cond_f rfl ?_)
        repeat (first | refine g_seq ?_ | refine at_code ?_ | refine g_skip ?_ | refine g_block ?_ | refine g_exit rfl ?_ | refine g_cond_t rfl ?_ | refine g_cond_f rfl ?_)
        refine g_region ?_
        refine gl_f (s_move rfl) rfl rfl rfl ?_
        refine gl_f (s_assign rfl) rfl rfl rfl ?_
        refine gl_f (s_assign rfl) rfl rfl rfl ?_
        refine gl_nil ?_
        repeat (first | refine g_seq ?_ | refine at_code ?_ | refine g_skip ?_ | refine g_block ?_ | refine g_exit rfl ?_ | refine g_cond_t rfl ?_ | refine g_cond_f rfl ?_)
        refine g_ret ?_
        exact at_end2 rfl rfl rfl (.blk r.X (refO (syncD (turnD x (vpC b))) r2) :: (Z2 ++ Z1)) ⟨rfl, r2, Z2 ++ Z1, d2.trans d1, rfl, hfin⟩ (fun w hw => by rw [← d1]; exact hw)
    · obtain ⟨e1, e3⟩ := m2 h0
      have es : vpS x b = [] := by rw [vpS, e1, if_neg h0]
      rw [es, e1, e3]
      repeat (first | refine g_seq ?_ | refine at_code ?_ | refine g_skip ?_ | refine g_block ?_ | refine g_exit rfl ?_ | refine g_cond_t rfl ?_ | refine g_cond_f rfl ?_)
      refine g_region ?_
      refine gl_f (s_move rfl) rfl rfl rfl ?_
      refine gl_f ((s_eql rfl rfl).eq (v' := .bool false) (by simp [h0])) rfl rfl rfl ?_
      refine gl_nil ?_
      repeat (first | refine g_seq ?_ | refine at_code ?_ | refine g_skip ?_ | refine g_block ?_ | refine g_exit rfl ?_ | refine g_cond_t rfl ?_ | refine g_cond_f rfl ?_)
      repeat (first | refine g_seq ?_ | refine at_code ?_ | refine g_skip ?_ | refine g_block ?_ | refine g_exit rfl ?_ | refine g_cond_t rfl ?_ | refine g_cond_f rfl ?_)
      refine g_region ?_
      refine gl_f (s_move rfl) rfl rfl rfl ?_
      refine gl_f ((s_neq rfl rfl).eq (v' := .bool true) (by simp [h0])) rfl rfl rfl ?_
      refine gl_nil ?_
      repeat (first | refine g_seq ?_ | refine at_code ?_ | refine g_skip ?_ | refine g_block ?_ | refine g_exit rfl ?_ | refine g_cond_t rfl ?_ | refine g_cond_f rfl ?_)
      repeat (first | refine g_seq ?_ | refine at_code ?_ | refine g_skip ?_ | refine g_block ?_ | refine g_exit rfl ?_ | refine g_cond_t rfl ?_ | refine g_cond_f rfl ?_)
      refine g_region ?_
      refine gl_f (s_move rfl) rfl rfl rfl ?_
      refine gl_f (s_assign rfl) rfl rfl rfl ?_
      refine gl_f (s_assign rfl) rfl rfl rfl ?_
      refine gl_nil ?_
      repeat (first | refine g_seq ?_ | refine at_code ?_ | refine g_skip ?_ | refine g_block ?_ | refine g_exit rfl ?_ | refine g_cond_t rfl ?_ | refine g_cond_f rfl ?_)
      refine g_ret ?_
      exact at_end2 rfl rfl rfl (.blk r.X (refO (turnD x (vpC b)) r1) :: Z1) ⟨rfl, r1, Z1, d1, rfl, f1⟩ (fun w hw => hw)
set_option maxRecDepth 8000 in
set_option maxHeartbeats 1000000 in
theorem rGet_ct (x : DM) (r : RA) (s : Bs) (hI : Inv x) (hsm : Small x 1000000) : Pu Try.prog 75 [Ptr r.X, B s] (RRd x r) (.tuple #[B (vgS x s), .int .i64 (vgE x s)]) := by
  refine ct_enter 26 Try.func75 rfl rfl rfl ?_
  intro F hX
  obtain ⟨q, hq⟩ : ∃ q, q = decide ((s.length : Int) = 32) := ⟨_, rfl⟩
  cases q
  · have e1 : vgE x s = 1 := by rw [vgE, if_pos (by have := of_decide_eq_false hq.symm; omega)]
    have e2 : vgS x s = [] := by rw [vgS, e1, if_neg (by decide)]
    rw [e1, e2]
    repeat (first | refine g_seq ?_ | refine at_code ?_ | refine g_skip ?_ | refine g_block ?_ | refine g_exit rfl ?_ | refine g_cond_t rfl ?_ | refine g_cond_f rfl ?_)
    refine g_region ?_
    refine gl_f (s_assign rfl) rfl rfl rfl ?_
    refine gl_f (s_assign rfl) rfl rfl rfl ?_
    refine gl_nil ?_
    repeat (first | refine g_seq ?_ | refine at_code ?_ | refine g_skip ?_ | refine g_block ?_ | refine g_exit rfl ?_ | refine g_cond_t rfl ?_ | refine g_cond_f rfl ?_)
    refine g_region ?_
    refine gl_f (s_move rfl) rfl rfl rfl ?_
    refine gl_f (s_len_str rfl) rfl rfl rfl ?_
    refine gl_f ((s_neq rfl rfl).eq (v' := .bool true) (by rw [← hq]; rfl)) rfl rfl rfl ?_
    refine gl_nil ?_
    repeat (first | refine g_seq ?_ | refine at_code ?_ | refine g_skip ?_ | refine g_block ?_ | refine g_exit rfl ?_ | refine g_cond_t rfl ?_ | refine g_cond_f rfl ?_)
    repeat (first | refine g_seq ?_ | refine at_code ?_ | refine g_skip ?_ | refine g_block ?_ | refine g_exit rfl ?_ | refine g_cond_t rfl ?_ | refine g_cond_f rfl ?_)
    refine g_region ?_
    refine gl_f (s_assign rfl) rfl rfl rfl ?_
    refine gl_f (s_assign rfl) rfl rfl rfl ?_
    refine gl_nil ?_
    repeat (first | refine g_seq ?_ | refine at_code ?_ | refine g_skip ?_ | refine g_block ?_ | refine g_exit rfl ?_ | refine g_cond_t rfl ?_ | refine g_cond_f rfl ?_)
    refine g_ret ?_
    exact at_end2 rfl rfl rfl [] ⟨rfl, rfl⟩ (fun _ h => h)
  have hl : s.length = 32 := by have := of_decide_eq_true hq.symm; omega
  obtain ⟨re, hre⟩ : ∃ re, re = readE x (nmB s) := ⟨_, rfl⟩
  obtain ⟨rs, hrs⟩ : ∃ rs, rs = readS x (nmB s) := ⟨_, rfl⟩
  have hrl : rs.length ≤ 1048576 := by rw [hrs]; exact read_len hI _
  repeat (first | refine g_seq ?_ | refine at_code ?_ | refine g_skip ?_ | refine g_block ?_ | refine g_exit rfl ?_ | refine g_cond_t rfl ?_ | refine g_cond_f rfl ?_)
  refine g_region ?_
  refine gl_f (s_assign rfl) rfl rfl rfl ?_
  refine gl_f (s_assign rfl) rfl rfl rfl ?_
  refine gl_nil ?_
  repeat (first | refine g_seq ?_ | refine at_code ?_ | refine g_skip ?_ | refine g_block ?_ | refine g_exit rfl ?_ | refine g_cond_t rfl ?_ | refine g_cond_f rfl ?_)
  refine g_region ?_
  refine gl_f (s_move rfl) rfl rfl rfl ?_
  refine gl_f (s_len_str rfl) rfl rfl rfl ?_
  refine gl_f ((s_neq rfl rfl).eq (v' := .bool false) (by rw [← hq]; rfl)) rfl rfl rfl ?_
  refine gl_nil ?_
  repeat (first | refine g_seq ?_ | refine at_code ?_ | refine g_skip ?_ | refine g_block ?_ | refine g_exit rfl ?_ | refine g_cond_t rfl ?_ | refine g_cond_f rfl ?_)
  repeat (first | refine g_seq ?_ | refine at_code ?_ | refine g_skip ?_ | refine g_block ?_ | refine g_exit rfl ?_ | refine g_cond_t rfl ?_ | refine g_cond_f rfl ?_)
  refine g_region ?_
  refine gl_f (s_move rfl) rfl rfl rfl ?_
  refine gl_f (s_move rfl) rfl rfl rfl ?_
  refine gl_callp rfl (Name_ct s (by omega)) (fun _ _ _ => trivial) rfl ?_
  refine gl_callp rfl (rRead_ct x r (nmB s) (Nat.le_trans hsm.seen (by decide))) (fun h hh _ => ⟨hh _ _ hX.d, hX.f.le hh⟩) rfl ?_; rw [← hre, ← hrs]
  refine gl_f (s_move rfl) rfl rfl rfl ?_
  refine gl_f (s_extract rfl rfl) rfl rfl rfl ?_
  refine gl_f (s_extract rfl rfl) rfl rfl rfl ?_
  refine gl_f (s_assign rfl) rfl rfl rfl ?_
  refine gl_f (s_assign rfl) rfl rfl rfl ?_
  refine gl_nil ?_
  repeat (first | refine g_seq ?_ | refine at_code ?_ | refine g_skip ?_ | refine g_block ?_ | refine g_exit rfl ?_ | refine g_cond_t rfl ?_ | refine g_cond_f rfl ?_)
  by_cases h0 : re = 0
  rotate_left
  · have e1 : vgE x s = re := by rw [vgE, if_neg (by omega), ← hre, if_pos h0]
    have e2 : vgS x s = [] := by rw [vgS, e1, if_neg h0]
    rw [e1, e2]
    repeat (first | refine g_seq ?_ | refine at_code ?_ | refine g_skip ?_ | refine g_block ?_ | refine g_exit rfl ?_ | refine g_cond_t rfl ?_ | refine g_cond_f rfl ?_)
    refine g_region ?_
    refine gl_f (s_move rfl) rfl rfl rfl ?_
    refine gl_f ((s_neq rfl rfl).eq (v' := .bool true) (by simp [h0])) rfl rfl rfl ?_
    refine gl_nil ?_
    repeat (first | refine g_seq ?_ | refine at_code ?_ | refine g_skip ?_ | refine g_block ?_ | refine g_exit rfl ?_ | refine g_cond_t rfl ?_ | refine g_cond_f rfl ?_)
    repeat (first | refine g_seq ?_ | refine at_code ?_ | refine g_skip ?_ | refine g_block ?_ | refine g_exit rfl ?_ | refine g_cond_t rfl ?_ | refine g_cond_f rfl ?_)
    refine g_region ?_
    refine gl_f (s_move rfl) rfl rfl rfl ?_
    refine gl_f (s_assign rfl) rfl rfl rfl ?_
    refine gl_f (s_assign rfl) rfl rfl rfl ?_
    refine gl_nil ?_
    repeat (first | refine g_seq ?_ | refine at_code ?_ | refine g_skip ?_ | refine g_block ?_ | refine g_exit rfl ?_ | refine g_cond_t rfl ?_ | refine g_cond_f rfl ?_)
    refine g_ret ?_
    exact at_end2 rfl rfl rfl [] ⟨rfl, rfl⟩ (fun _ h => h)
  obtain ⟨q2, hq2⟩ : ∃ q, q = decide (Dg.sha rs = s) := ⟨_, rfl⟩
  repeat (first | refine g_seq ?_ | refine at_code ?_ | refine g_skip ?_ | refine g_block ?_ | refine g_exit rfl ?_ | refine g_cond_t rfl ?_ | refine g_cond_f rfl ?_)
  refine g_region ?_
  refine gl_f (s_move rfl) rfl rfl rfl ?_
  refine gl_f ((s_neq rfl rfl).eq (v' := .bool false) (by simp [h0])) rfl rfl rfl ?_
  refine gl_nil ?_
  repeat (first | refine g_seq ?_ | refine at_code ?_ | refine g_skip ?_ | refine g_block ?_ | refine g_exit rfl ?_ | refine g_cond_t rfl ?_ | refine g_cond_f rfl ?_)
  cases q2
  · have h2 := of_decide_eq_false hq2.symm
    have e1 : vgE x s = 5 := by rw [vgE, if_neg (by omega), ← hre, ← hrs, if_neg (by simp [h0]), if_pos h2]
    have e2 : vgS x s = [] := by rw [vgS, e1, if_neg (by decide)]
    rw [e1, e2]
    repeat (first | refine g_seq ?_ | refine at_code ?_ | refine g_skip ?_ | refine g_block ?_ | refine g_exit rfl ?_ | refine g_cond_t rfl ?_ | refine g_cond_f rfl ?_)
    refine g_region ?_
    refine gl_f (s_move rfl) rfl rfl rfl ?_
    refine gl_callp rfl (Dg.rSum_ct rs (by omega)) (fun _ _ _ => trivial) rfl ?_
    refine gl_f (s_move rfl) rfl rfl rfl ?_
    refine gl_f ((s_neq_str rfl rfl).eq (v' := .bool true) (by rw [← hq2]; rfl)) rfl rfl rfl ?_
    refine gl_nil ?_
    repeat (first | refine g_seq ?_ | refine at_code ?_ | refine g_skip ?_ | refine g_block ?_ | refine g_exit rfl ?_ | refine g_cond_t rfl ?_ | refine g_cond_f rfl ?_)
    repeat (first | refine g_seq ?_ | refine at_code ?_ | refine g_skip ?_ | refine g_block ?_ | refine g_exit rfl ?_ | refine g_cond_t rfl ?_ | refine g_cond_f rfl ?_)
    refine g_region ?_
    refine gl_f (s_assign rfl) rfl rfl rfl ?_
    refine gl_f (s_assign rfl) rfl rfl rfl ?_
    refine gl_nil ?_
    repeat (first | refine g_seq ?_ | refine at_code ?_ | refine g_skip ?_ | refine g_block ?_ | refine g_exit rfl ?_ | refine g_cond_t rfl ?_ | refine g_cond_f rfl ?_)
    refine g_ret ?_
    exact at_end2 rfl rfl rfl [] ⟨rfl, rfl⟩ (fun _ h => h)
  · have h2 := of_decide_eq_true hq2.symm
    have e1 : vgE x s = 0 := by rw [vgE, if_neg (by omega), ← hre, ← hrs, if_neg (by simp [h0]), if_neg (by simp [h2])]
    have e2 : vgS x s = rs := by rw [vgS, e1, if_pos rfl, hrs]
    rw [e1, e2]
    repeat (first | refine g_seq ?_ | refine at_code ?_ | refine g_skip ?_ | refine g_block ?_ | refine g_exit rfl ?_ | refine g_cond_t rfl ?_ | refine g_cond_f rfl ?_)
    refine g_region ?_
    refine gl_f (s_move rfl) rfl rfl rfl ?_
    refine gl_callp rfl (Dg.rSum_ct rs (by omega)) (fun _ _ _ => trivial) rfl ?_
    refine gl_f (s_move rfl) rfl rfl rfl ?_
    refine gl_f ((s_neq_str rfl rfl).eq (v' := .bool false) (by rw [← hq2]; rfl)) rfl rfl rfl ?_
    refine gl_nil ?_
    repeat (first | refine g_seq ?_ | refine at_code ?_ | refine g_skip ?_ | refine g_block ?_ | refine g_exit rfl ?_ | refine g_cond_t rfl ?_ | refine g_cond_f rfl ?_)
    repeat (first | refine g_seq ?_ | refine at_code ?_ | refine g_skip ?_ | refine g_block ?_ | refine g_exit rfl ?_ | refine g_cond_t rfl ?_ | refine g_cond_f rfl ?_)
    refine g_region ?_
    refine gl_f (s_move rfl) rfl rfl rfl ?_
    refine gl_f (s_assign rfl) rfl rfl rfl ?_
    refine gl_f (s_assign rfl) rfl rfl rfl ?_
    refine gl_nil ?_
    repeat (first | refine g_seq ?_ | refine at_code ?_ | refine g_skip ?_ | refine g_block ?_ | refine g_exit rfl ?_ | refine g_cond_t rfl ?_ | refine g_cond_f rfl ?_)
    refine g_ret ?_
    exact at_end2 rfl rfl rfl [] ⟨rfl, rfl⟩ (fun _ h => h)
end Go.Proofs.Ytolgclfbllcjhaa.Vt
