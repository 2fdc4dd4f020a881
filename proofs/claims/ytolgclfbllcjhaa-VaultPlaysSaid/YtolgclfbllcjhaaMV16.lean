/- The vault's laws: one call on both. -/
import Derived.Test.YtolgclfbllcjhaaMV15
namespace Go.Proofs.Ytolgclfbllcjhaa.Vt
open Go Go.Sl
set_option linter.unusedVariables false
set_option linter.unusedSimpArgs false

theorem perm_o3 {α : Type} (o p q : α) (A : List α) : (A ++ [o, p, q]).Perm ((p :: q :: A) ++ [o]) :=
  List.perm_append_comm.trans (List.perm_append_comm (l₁ := [o]) (l₂ := p :: q :: A))
theorem perm_o4 {α : Type} (p o g : α) (Z Q : List α) : ((p :: Z) ++ (o :: g :: Q)).Perm ((g :: ((p :: Z) ++ Q)) ++ [o]) :=
  (List.perm_middle.trans (List.perm_middle.cons o)).trans (List.perm_append_comm (l₁ := [o]) (l₂ := g :: ((p :: Z) ++ Q)))
set_option maxRecDepth 8000 in
set_option maxHeartbeats 8000000 in
theorem act_ct (x : DM) (a : DA) (r : RA) (V : Nat) (m : VA) (i : Nat) (hw0 : Wf x (41 * i)) (hi : i ≤ 40) (hok : DOk x a) (hml : m.l.length ≤ 40) :
    Ct Try.prog 45 [Ptr V, Ptr a.D, Ptr r.X, vaV m] (fun h => h V = some (VO a) ∧ BF x a r h ∧ VaOk h m) (bothH x a r) (BP x (actV x m) a r) := by
  have hI := hw0.inv
  have hsm := hw0.small (by omega)
  have hpl := pl_len hw0 (by omega) hok
  obtain ⟨kind, s, t, la, l, lc, k⟩ := m
  simp only at hml
  show Ct Try.prog 45 [Ptr V, Ptr a.D, Ptr r.X, .agg #[.int .i64 kind, B s, B t, .slice la l.length lc, .int .i64 k]] _ _ _
  refine ct_enter 170 Try.func45 rfl rfl rfl ?_
  intro F hF
  have hv := hF.1
  have hb := hF.2.1
  have hr := hb.r
  have hm := hF.2.2
  have hms := hm.s
  have hmt := hm.t
  have hmr := hm.rd
  have hme := hm.each
  have hmk := hm.n
  simp only at hms hmt hmr hme hmk
  obtain ⟨q1, hq1⟩ : ∃ q, q = decide (kind = 1) := ⟨_, rfl⟩
  obtain ⟨q2, hq2⟩ : ∃ q, q = decide (kind = 2) := ⟨_, rfl⟩
  obtain ⟨q3, hq3⟩ : ∃ q, q = decide (kind = 3) := ⟨_, rfl⟩
  obtain ⟨q4, hq4⟩ : ∃ q, q = decide (kind = 4) := ⟨_, rfl⟩
  obtain ⟨q5, hq5⟩ : ∃ q, q = decide (kind = 5) := ⟨_, rfl⟩
  obtain ⟨q6, hq6⟩ : ∃ q, q = decide (kind = 6) := ⟨_, rfl⟩
  obtain ⟨q7, hq7⟩ : ∃ q, q = decide (kind = 7) := ⟨_, rfl⟩
  obtain ⟨q8, hq8⟩ : ∃ q, q = decide (kind = 8) := ⟨_, rfl⟩
  repeat (first | refine g_seq ?_ | refine at_code ?_ | refine g_skip ?_ | refine g_block ?_ | refine g_exit rfl ?_ | refine g_cond_t rfl ?_ | refine g_cond_f rfl ?_)
  refine g_region ?_
  refine gl_boxA rfl rfl ?_; intro g7
  refine gl_f (s_assign rfl) rfl rfl rfl ?_
  refine gl_nil ?_
  repeat (first | refine g_seq ?_ | refine at_code ?_ | refine g_skip ?_ | refine g_block ?_ | refine g_exit rfl ?_ | refine g_cond_t rfl ?_ | refine g_cond_f rfl ?_)
  refine g_region ?_
  refine gl_f (by first | exact s_fieldAddr rfl (by rfl) (by infer_instance) (by decide) | exact s_fieldAddr_o rfl (by assumption) (by rfl) (by infer_instance) (by decide)) rfl rfl rfl ?_
  refine gl_r (by first | exact s_load_blk rfl (by repeat first|exact .del|apply Upd.there) (by rfl) | exact s_load1 rfl (fun w hw => peekB hw (by assumption) (by rfl))) rfl rfl rfl ?_
  refine gl_nil ?_
  repeat (first | refine g_seq ?_ | refine at_code ?_ | refine g_skip ?_ | refine g_block ?_ | refine g_exit rfl ?_ | refine g_cond_t rfl ?_ | refine g_cond_f rfl ?_)
  cases q1
  rotate_left
  · skip
    have hk : kind = 1 := of_decide_eq_true hq1.symm
    have ex : actV x ⟨kind, s, t, la, l, lc, k⟩ = vpD x s := by
      simp only [actV]
      rw [if_pos hk]
    rw [ex]
    repeat (first | refine g_seq ?_ | refine at_code ?_ | refine g_skip ?_ | refine g_block ?_ | refine g_exit rfl ?_ | refine g_cond_t rfl ?_ | refine g_cond_f rfl ?_)
    refine g_region ?_
    refine gl_f ((s_eql rfl rfl).eq (congrArg Value.bool hq1.symm)) rfl rfl rfl ?_
    refine gl_f (s_assign rfl) rfl rfl rfl ?_
    refine gl_nil ?_
    repeat (first | refine g_seq ?_ | refine at_code ?_ | refine g_skip ?_ | refine g_block ?_ | refine g_exit rfl ?_ | refine g_cond_t rfl ?_ | refine g_cond_f rfl ?_)
    repeat (first | refine g_seq ?_ | refine at_code ?_ | refine g_skip ?_ | refine g_block ?_ | refine g_exit rfl ?_ | refine g_cond_t rfl ?_ | refine g_cond_f rfl ?_)
    refine g_region ?_
    refine gl_f (s_move rfl) rfl rfl rfl ?_
    refine gl_f (by first | exact s_fieldAddr rfl (by rfl) (by infer_instance) (by decide) | exact s_fieldAddr_o rfl (by assumption) (by rfl) (by infer_instance) (by decide)) rfl rfl rfl ?_
    refine gl_r (by first | exact s_load_blk rfl (by repeat first|exact .del|apply Upd.there) (by rfl) | exact s_load1 rfl (fun w hw => peekB hw (by assumption) (by rfl))) rfl rfl rfl ?_
    refine gl_call [.blk g7 (.cells #[.int .i64 kind, B s, B t, .slice la l.length lc, .int .i64 k] 71), .blk r.X (refO x r)] rfl (Put_ct x a V s (41 * i) hw0 (by omega) hok (by omega)) (fun w hw => hw.perm (perm_up (by repeat first|exact .del|apply Upd.there) (perm_up (by repeat first|exact .del|apply Upd.there) (perm_up (by repeat first|exact .del|apply Upd.there) (perm_up (by repeat first|exact .del|apply Upd.there) (.refl _)))))) (fun h hh _ => hh _ _ hv) rfl ?_; rintro v A ⟨rfl, a', Z, e1, rfl, hok', f1⟩; refine gl_pull (H' := .blk g7 (.cells #[.int .i64 kind, B s, B t, .slice la l.length lc, .int .i64 k] 71) :: .blk r.X (refO x r) :: (dskH (vpD x s) a' ++ Z)) (fun w hw => hw.perm List.perm_append_comm) ?_
    refine gl_f (s_move rfl) rfl rfl rfl ?_
    refine gl_f (s_extract rfl rfl) rfl rfl rfl ?_
    refine gl_f (s_extract rfl rfl) rfl rfl rfl ?_
    refine gl_f (s_assign rfl) rfl rfl rfl ?_
    refine gl_f (s_assign rfl) rfl rfl rfl ?_
    refine gl_nil ?_
    repeat (first | refine g_seq ?_ | refine at_code ?_ | refine g_skip ?_ | refine g_block ?_ | refine g_exit rfl ?_ | refine g_cond_t rfl ?_ | refine g_cond_f rfl ?_)
    repeat (first | refine g_seq ?_ | refine at_code ?_ | refine g_skip ?_ | refine g_block ?_ | refine g_exit rfl ?_ | refine g_cond_t rfl ?_ | refine g_cond_f rfl ?_)
    refine g_region ?_
    refine gl_f (s_move rfl) rfl rfl rfl ?_
    refine gl_f (by first | exact s_fieldAddr rfl (by rfl) (by infer_instance) (by decide) | exact s_fieldAddr_o rfl (by assumption) (by rfl) (by infer_instance) (by decide)) rfl rfl rfl ?_
    refine gl_r (by first | exact s_load_blk rfl (by repeat first|exact .del|apply Upd.there) (by rfl) | exact s_load1 rfl (fun w hw => peekB hw (by assumption) (by rfl))) rfl rfl rfl ?_
    refine gl_call (.blk g7 (.cells #[.int .i64 kind, B s, B t, .slice la l.length lc, .int .i64 k] 71) :: (dskH (vpD x s) a' ++ Z)) rfl (rPut_ct x r s (41 * i) hw0 (by omega) (by omega)) (fun w hw => hw.perm (perm_up (by repeat first|exact .del|apply Upd.there) (.refl _))) (fun h hh _ => hr.le hh) rfl ?_; rintro v A ⟨rfl, r', Z2, e3, rfl, f2⟩; refine gl_pull (H' := .blk g7 (.cells #[.int .i64 kind, B s, B t, .slice la l.length lc, .int .i64 k] 71) :: ((.blk r.X (refO (vpD x s) r') :: Z2) ++ (dskH (vpD x s) a' ++ Z))) (fun w hw => hw.perm List.perm_middle) ?_
    refine gl_f (s_move rfl) rfl rfl rfl ?_
    refine gl_f (s_extract rfl rfl) rfl rfl rfl ?_
    refine gl_f (s_extract rfl rfl) rfl rfl rfl ?_
    refine gl_f (s_assign rfl) rfl rfl rfl ?_
    refine gl_f (s_assign rfl) rfl rfl rfl ?_
    refine gl_nil ?_
    repeat (first | refine g_seq ?_ | refine at_code ?_ | refine g_skip ?_ | refine g_block ?_ | refine g_exit rfl ?_ | refine g_cond_t rfl ?_ | refine g_cond_f rfl ?_)
    repeat (first | refine g_seq ?_ | refine at_code ?_ | refine g_skip ?_ | refine g_block ?_ | refine g_exit rfl ?_ | refine g_cond_t rfl ?_ | refine g_cond_f rfl ?_)
    refine g_region ?_
    refine gl_f (s_move rfl) rfl rfl rfl ?_
    refine gl_f (s_move rfl) rfl rfl rfl ?_
    refine gl_f ((s_eql_str rfl rfl).eq (v' := .bool true) (by simp)) rfl rfl rfl ?_
    refine gl_f (s_move rfl) rfl rfl rfl ?_
    (first | refine gl_guard_no rfl rfl rfl rfl rfl rfl rfl ?_ | refine gl_guard_un rfl rfl rfl rfl rfl rfl ?_ | (refine gl_guard_yes rfl rfl rfl ?_; refine gl_f (s_move rfl) rfl rfl rfl ?_))
    (first | refine gl_guard_no rfl rfl rfl rfl rfl rfl rfl ?_ | refine gl_guard_un rfl rfl rfl rfl rfl rfl ?_ | (refine gl_guard_yes rfl rfl rfl ?_; refine gl_f (s_move rfl) rfl rfl rfl ?_))
    (first | refine gl_guard_no rfl rfl rfl rfl rfl rfl rfl ?_ | refine gl_guard_un rfl rfl rfl rfl rfl rfl ?_ | (refine gl_guard_yes rfl rfl rfl ?_; refine gl_f ((s_eql rfl rfl).eq (v' := .bool true) (by simp)) rfl rfl rfl ?_))
    refine gl_f (by first | exact s_pick_t rfl rfl | exact s_pick_f rfl rfl) rfl rfl rfl ?_
    refine gl_f (s_assign rfl) rfl rfl rfl ?_
    refine gl_nil ?_
    repeat (first | refine g_seq ?_ | refine at_code ?_ | refine g_skip ?_ | refine g_block ?_ | refine g_exit rfl ?_ | refine g_cond_t rfl ?_ | refine g_cond_f rfl ?_)
    refine g_ret ?_
    refine at_end1 rfl rfl (bothH (vpD x s) a' r' ++ (Z ++ Z2)) ⟨rfl, a', r', Z ++ Z2, e1, e3, rfl, hok', both_done f1 f2⟩ (fun w hw => ?_)
    rw [← e3] at hw
    exact Hp.left (hw.perm (perm_act _ _ (dskH (vpD x s) a') Z Z2))
  repeat (first | refine g_seq ?_ | refine at_code ?_ | refine g_skip ?_ | refine g_block ?_ | refine g_exit rfl ?_ | refine g_cond_t rfl ?_ | refine g_cond_f rfl ?_)
  refine g_region ?_
  refine gl_f ((s_eql rfl rfl).eq (congrArg Value.bool hq1.symm)) rfl rfl rfl ?_
  refine gl_f (s_assign rfl) rfl rfl rfl ?_
  refine gl_nil ?_
  repeat (first | refine g_seq ?_ | refine at_code ?_ | refine g_skip ?_ | refine g_block ?_ | refine g_exit rfl ?_ | refine g_cond_t rfl ?_ | refine g_cond_f rfl ?_)
  cases q2
  rotate_left
  · skip
    have hk : kind = 2 := of_decide_eq_true hq2.symm
    have n1 : ¬ kind = 1 := of_decide_eq_false hq1.symm
    have ex : actV x ⟨kind, s, t, la, l, lc, k⟩ = x := by
      simp only [actV]
      rw [if_neg n1]; rw [if_pos hk]
    rw [ex]
    repeat (first | refine g_seq ?_ | refine at_code ?_ | refine g_skip ?_ | refine g_block ?_ | refine g_exit rfl ?_ | refine g_cond_t rfl ?_ | refine g_cond_f rfl ?_)
    refine g_region ?_
    refine gl_f ((s_eql rfl rfl).eq (congrArg Value.bool hq2.symm)) rfl rfl rfl ?_
    refine gl_f (s_assign rfl) rfl rfl rfl ?_
    refine gl_nil ?_
    repeat (first | refine g_seq ?_ | refine at_code ?_ | refine g_skip ?_ | refine g_block ?_ | refine g_exit rfl ?_ | refine g_cond_t rfl ?_ | refine g_cond_f rfl ?_)
    repeat (first | refine g_seq ?_ | refine at_code ?_ | refine g_skip ?_ | refine g_block ?_ | refine g_exit rfl ?_ | refine g_cond_t rfl ?_ | refine g_cond_f rfl ?_)
    refine g_region ?_
    refine gl_f (by first | exact s_fieldAddr rfl (by rfl) (by infer_instance) (by decide) | exact s_fieldAddr_o rfl (by assumption) (by rfl) (by infer_instance) (by decide)) rfl rfl rfl ?_
    refine gl_r (by first | exact s_load_blk rfl (by repeat first|exact .del|apply Upd.there) (by rfl) | exact s_load1 rfl (fun w hw => peekB hw (by assumption) (by rfl))) rfl rfl rfl ?_
    refine gl_f (s_assign rfl) rfl rfl rfl ?_
    refine gl_nil ?_
    repeat (first | refine g_seq ?_ | refine at_code ?_ | refine g_skip ?_ | refine g_block ?_ | refine g_exit rfl ?_ | refine g_cond_t rfl ?_ | refine g_cond_f rfl ?_)
    repeat (first | refine g_seq ?_ | refine at_code ?_ | refine g_skip ?_ | refine g_block ?_ | refine g_exit rfl ?_ | refine g_cond_t rfl ?_ | refine g_cond_f rfl ?_)
    refine g_region ?_
    refine gl_f (by first | exact s_fieldAddr rfl (by rfl) (by infer_instance) (by decide) | exact s_fieldAddr_o rfl (by assumption) (by rfl) (by infer_instance) (by decide)) rfl rfl rfl ?_
    refine gl_r (by first | exact s_load_blk rfl (by repeat first|exact .del|apply Upd.there) (by rfl) | exact s_load1 rfl (fun w hw => peekB hw (by assumption) (by rfl))) rfl rfl rfl ?_
    refine gl_f ((s_eql rfl rfl).eq (v' := .bool true) (by simp [hk])) rfl rfl rfl ?_
    refine gl_nil ?_
    repeat (first | refine g_seq ?_ | refine at_code ?_ | refine g_skip ?_ | refine g_block ?_ | refine g_exit rfl ?_ | refine g_cond_t rfl ?_ | refine g_cond_f rfl ?_)
    obtain ⟨sm, hsm2⟩ : ∃ sm, sm = Dg.sha s := ⟨_, rfl⟩
    repeat (first | refine g_seq ?_ | refine at_code ?_ | refine g_skip ?_ | refine g_block ?_ | refine g_exit rfl ?_ | refine g_cond_t rfl ?_ | refine g_cond_f rfl ?_)
    refine g_region ?_
    refine gl_f (by first | exact s_fieldAddr rfl (by rfl) (by infer_instance) (by decide) | exact s_fieldAddr_o rfl (by assumption) (by rfl) (by infer_instance) (by decide)) rfl rfl rfl ?_
    refine gl_r (by first | exact s_load_blk rfl (by repeat first|exact .del|apply Upd.there) (by rfl) | exact s_load1 rfl (fun w hw => peekB hw (by assumption) (by rfl))) rfl rfl rfl ?_
    refine gl_callp rfl (Dg.Sum_ct s (by omega)) (fun _ _ _ => trivial) rfl ?_; rw [← hsm2]
    refine gl_f (s_assign rfl) rfl rfl rfl ?_
    refine gl_nil ?_
    repeat (first | refine g_seq ?_ | refine at_code ?_ | refine g_skip ?_ | refine g_block ?_ | refine g_exit rfl ?_ | refine g_cond_t rfl ?_ | refine g_cond_f rfl ?_)
    repeat (first | refine g_seq ?_ | refine at_code ?_ | refine g_skip ?_ | refine g_block ?_ | refine g_exit rfl ?_ | refine g_cond_t rfl ?_ | refine g_cond_f rfl ?_)
    refine g_region ?_
    refine gl_f (s_move rfl) rfl rfl rfl ?_
    refine gl_f (s_move rfl) rfl rfl rfl ?_
    refine gl_callp rfl (Get_ct x a V sm hI hok) (fun h hh ⟨bs, hb⟩ => ⟨⟨Sat.blk hb (by repeat first|exact .del|apply Upd.there), Sat.blk hb (by repeat first|exact .del|apply Upd.there)⟩, hh _ _ hv⟩) rfl ?_
    refine gl_f (s_move rfl) rfl rfl rfl ?_
    refine gl_f (s_extract rfl rfl) rfl rfl rfl ?_
    refine gl_f (s_extract rfl rfl) rfl rfl rfl ?_
    refine gl_f (s_assign rfl) rfl rfl rfl ?_
    refine gl_f (s_assign rfl) rfl rfl rfl ?_
    refine gl_nil ?_
    repeat (first | refine g_seq ?_ | refine at_code ?_ | refine g_skip ?_ | refine g_block ?_ | refine g_exit rfl ?_ | refine g_cond_t rfl ?_ | refine g_cond_f rfl ?_)
    repeat (first | refine g_seq ?_ | refine at_code ?_ | refine g_skip ?_ | refine g_block ?_ | refine g_exit rfl ?_ | refine g_cond_t rfl ?_ | refine g_cond_f rfl ?_)
    refine g_region ?_
    refine gl_f (s_move rfl) rfl rfl rfl ?_
    refine gl_f (s_move rfl) rfl rfl rfl ?_
    refine gl_callp rfl (rGet_ct x r sm hI hsm) (fun h hh ⟨bs, hb⟩ => ⟨Sat.blk hb (by repeat first|exact .del|apply Upd.there), hr.le hh⟩) rfl ?_
    refine gl_f (s_move rfl) rfl rfl rfl ?_
    refine gl_f (s_extract rfl rfl) rfl rfl rfl ?_
    refine gl_f (s_extract rfl rfl) rfl rfl rfl ?_
    refine gl_f (s_assign rfl) rfl rfl rfl ?_
    refine gl_f (s_assign rfl) rfl rfl rfl ?_
    refine gl_nil ?_
    repeat (first | refine g_seq ?_ | refine at_code ?_ | refine g_skip ?_ | refine g_block ?_ | refine g_exit rfl ?_ | refine g_cond_t rfl ?_ | refine g_cond_f rfl ?_)
    repeat (first | refine g_seq ?_ | refine at_code ?_ | refine g_skip ?_ | refine g_block ?_ | refine g_exit rfl ?_ | refine g_cond_t rfl ?_ | refine g_cond_f rfl ?_)
    refine g_region ?_
    refine gl_f (s_move rfl) rfl rfl rfl ?_
    refine gl_f (s_move rfl) rfl rfl rfl ?_
    refine gl_f ((s_eql_str rfl rfl).eq (v' := .bool true) (by simp)) rfl rfl rfl ?_
    refine gl_f (s_move rfl) rfl rfl rfl ?_
    (first | refine gl_guard_no rfl rfl rfl rfl rfl rfl rfl ?_ | refine gl_guard_un rfl rfl rfl rfl rfl rfl ?_ | (refine gl_guard_yes rfl rfl rfl ?_; refine gl_f (s_move rfl) rfl rfl rfl ?_))
    (first | refine gl_guard_no rfl rfl rfl rfl rfl rfl rfl ?_ | refine gl_guard_un rfl rfl rfl rfl rfl rfl ?_ | (refine gl_guard_yes rfl rfl rfl ?_; refine gl_f (s_move rfl) rfl rfl rfl ?_))
    (first | refine gl_guard_no rfl rfl rfl rfl rfl rfl rfl ?_ | refine gl_guard_un rfl rfl rfl rfl rfl rfl ?_ | (refine gl_guard_yes rfl rfl rfl ?_; refine gl_f ((s_eql rfl rfl).eq (v' := .bool true) (by simp)) rfl rfl rfl ?_))
    refine gl_f (by first | exact s_pick_t rfl rfl | exact s_pick_f rfl rfl) rfl rfl rfl ?_
    refine gl_f (s_move rfl) rfl rfl rfl ?_
    (first | refine gl_guard_no rfl rfl rfl rfl rfl rfl rfl ?_ | refine gl_guard_un rfl rfl rfl rfl rfl rfl ?_ | (refine gl_guard_yes rfl rfl rfl ?_; refine gl_f (s_move rfl) rfl rfl rfl ?_))
    (first | refine gl_guard_no rfl rfl rfl rfl rfl rfl rfl ?_ | refine gl_guard_un rfl rfl rfl rfl rfl rfl ?_ | (refine gl_guard_yes rfl rfl rfl ?_; refine gl_f (s_move rfl) rfl rfl rfl ?_))
    (first | refine gl_guard_no rfl rfl rfl rfl rfl rfl rfl ?_ | refine gl_guard_un rfl rfl rfl rfl rfl rfl ?_ | (refine gl_guard_yes rfl rfl rfl ?_; refine gl_callp rfl (Has_ct x a V sm hI hok) (fun h hh ⟨bs, hb⟩ => ⟨⟨Sat.blk hb (by repeat first|exact .del|apply Upd.there), Sat.blk hb (by repeat first|exact .del|apply Upd.there)⟩, hh _ _ hv⟩) rfl ?_))
    (first | refine gl_guard_no rfl rfl rfl rfl rfl rfl rfl ?_ | refine gl_guard_un rfl rfl rfl rfl rfl rfl ?_ | (refine gl_guard_yes rfl rfl rfl ?_; refine gl_f (s_move rfl) rfl rfl rfl ?_))
    (first | refine gl_guard_no rfl rfl rfl rfl rfl rfl rfl ?_ | refine gl_guard_un rfl rfl rfl rfl rfl rfl ?_ | (refine gl_guard_yes rfl rfl rfl ?_; refine gl_f (s_eql rfl rfl) rfl rfl rfl ?_))
    (first | refine gl_guard_no rfl rfl rfl rfl rfl rfl rfl ?_ | refine gl_guard_un rfl rfl rfl rfl rfl rfl ?_ | (refine gl_guard_yes rfl rfl rfl ?_; refine gl_f ((s_eql_bool rfl rfl).eq (v' := .bool true) (by simp)) rfl rfl rfl ?_))
    refine gl_f (by first | exact s_pick_t rfl rfl | exact s_pick_f rfl rfl) rfl rfl rfl ?_
    refine gl_f (s_assign rfl) rfl rfl rfl ?_
    refine gl_nil ?_
    repeat (first | refine g_seq ?_ | refine at_code ?_ | refine g_skip ?_ | refine g_block ?_ | refine g_exit rfl ?_ | refine g_cond_t rfl ?_ | refine g_cond_f rfl ?_)
    refine g_ret ?_
    exact at_end1 rfl rfl (bothH x a r ++ []) ⟨rfl, a, r, [], rfl, rfl, rfl, hok, fun h f _ => f⟩ (fun w hw => hw.drop)
  repeat (first | refine g_seq ?_ | refine at_code ?_ | refine g_skip ?_ | refine g_block ?_ | refine g_exit rfl ?_ | refine g_cond_t rfl ?_ | refine g_cond_f rfl ?_)
  refine g_region ?_
  refine gl_f ((s_eql rfl rfl).eq (congrArg Value.bool hq2.symm)) rfl rfl rfl ?_
  refine gl_f (s_assign rfl) rfl rfl rfl ?_
  refine gl_nil ?_
  repeat (first | refine g_seq ?_ | refine at_code ?_ | refine g_skip ?_ | refine g_block ?_ | refine g_exit rfl ?_ | refine g_cond_t rfl ?_ | refine g_cond_f rfl ?_)
  cases q3
  rotate_left
  · skip
    have hk : kind = 3 := of_decide_eq_true hq3.symm
    have n1 : ¬ kind = 1 := of_decide_eq_false hq1.symm
    have n2 : ¬ kind = 2 := of_decide_eq_false hq2.symm
    have ex : actV x ⟨kind, s, t, la, l, lc, k⟩ = x := by
      simp only [actV]
      rw [if_neg n1]; rw [if_neg n2]; rw [if_pos hk]
    rw [ex]
    repeat (first | refine g_seq ?_ | refine at_code ?_ | refine g_skip ?_ | refine g_block ?_ | refine g_exit rfl ?_ | refine g_cond_t rfl ?_ | refine g_cond_f rfl ?_)
    refine g_region ?_
    refine gl_f ((s_eql rfl rfl).eq (congrArg Value.bool hq3.symm)) rfl rfl rfl ?_
    refine gl_f (s_assign rfl) rfl rfl rfl ?_
    refine gl_nil ?_
    repeat (first | refine g_seq ?_ | refine at_code ?_ | refine g_skip ?_ | refine g_block ?_ | refine g_exit rfl ?_ | refine g_cond_t rfl ?_ | refine g_cond_f rfl ?_)
    repeat (first | refine g_seq ?_ | refine at_code ?_ | refine g_skip ?_ | refine g_block ?_ | refine g_exit rfl ?_ | refine g_cond_t rfl ?_ | refine g_cond_f rfl ?_)
    refine g_region ?_
    refine gl_f (by first | exact s_fieldAddr rfl (by rfl) (by infer_instance) (by decide) | exact s_fieldAddr_o rfl (by assumption) (by rfl) (by infer_instance) (by decide)) rfl rfl rfl ?_
    refine gl_r (by first | exact s_load_blk rfl (by repeat first|exact .del|apply Upd.there) (by rfl) | exact s_load1 rfl (fun w hw => peekB hw (by assumption) (by rfl))) rfl rfl rfl ?_
    refine gl_f (s_assign rfl) rfl rfl rfl ?_
    refine gl_nil ?_
    repeat (first | refine g_seq ?_ | refine at_code ?_ | refine g_skip ?_ | refine g_block ?_ | refine g_exit rfl ?_ | refine g_cond_t rfl ?_ | refine g_cond_f rfl ?_)
    repeat (first | refine g_seq ?_ | refine at_code ?_ | refine g_skip ?_ | refine g_block ?_ | refine g_exit rfl ?_ | refine g_cond_t rfl ?_ | refine g_cond_f rfl ?_)
    refine g_region ?_
    refine gl_f (by first | exact s_fieldAddr rfl (by rfl) (by infer_instance) (by decide) | exact s_fieldAddr_o rfl (by assumption) (by rfl) (by infer_instance) (by decide)) rfl rfl rfl ?_
    refine gl_r (by first | exact s_load_blk rfl (by repeat first|exact .del|apply Upd.there) (by rfl) | exact s_load1 rfl (fun w hw => peekB hw (by assumption) (by rfl))) rfl rfl rfl ?_
    refine gl_f ((s_eql rfl rfl).eq (v' := .bool false) (by simp [hk])) rfl rfl rfl ?_
    refine gl_nil ?_
    repeat (first | refine g_seq ?_ | refine at_code ?_ | refine g_skip ?_ | refine g_block ?_ | refine g_exit rfl ?_ | refine g_cond_t rfl ?_ | refine g_cond_f rfl ?_)
    obtain ⟨sm, hsm2⟩ : ∃ sm, sm = s := ⟨_, rfl⟩
    subst hsm2
    repeat (first | refine g_seq ?_ | refine at_code ?_ | refine g_skip ?_ | refine g_block ?_ | refine g_exit rfl ?_ | refine g_cond_t rfl ?_ | refine g_cond_f rfl ?_)
    refine g_region ?_
    refine gl_f (s_move rfl) rfl rfl rfl ?_
    refine gl_f (s_move rfl) rfl rfl rfl ?_
    refine gl_callp rfl (Get_ct x a V sm hI hok) (fun h hh ⟨bs, hb⟩ => ⟨⟨Sat.blk hb (by repeat first|exact .del|apply Upd.there), Sat.blk hb (by repeat first|exact .del|apply Upd.there)⟩, hh _ _ hv⟩) rfl ?_
    refine gl_f (s_move rfl) rfl rfl rfl ?_
    refine gl_f (s_extract rfl rfl) rfl rfl rfl ?_
    refine gl_f (s_extract rfl rfl) rfl rfl rfl ?_
    refine gl_f (s_assign rfl) rfl rfl rfl ?_
    refine gl_f (s_assign rfl) rfl rfl rfl ?_
    refine gl_nil ?_
    repeat (first | refine g_seq ?_ | refine at_code ?_ | refine g_skip ?_ | refine g_block ?_ | refine g_exit rfl ?_ | refine g_cond_t rfl ?_ | refine g_cond_f rfl ?_)
    repeat (first | refine g_seq ?_ | refine at_code ?_ | refine g_skip ?_ | refine g_block ?_ | refine g_exit rfl ?_ | refine g_cond_t rfl ?_ | refine g_cond_f rfl ?_)
    refine g_region ?_
    refine gl_f (s_move rfl) rfl rfl rfl ?_
    refine gl_f (s_move rfl) rfl rfl rfl ?_
    refine gl_callp rfl (rGet_ct x r sm hI hsm) (fun h hh ⟨bs, hb⟩ => ⟨Sat.blk hb (by repeat first|exact .del|apply Upd.there), hr.le hh⟩) rfl ?_
    refine gl_f (s_move rfl) rfl rfl rfl ?_
    refine gl_f (s_extract rfl rfl) rfl rfl rfl ?_
    refine gl_f (s_extract rfl rfl) rfl rfl rfl ?_
    refine gl_f (s_assign rfl) rfl rfl rfl ?_
    refine gl_f (s_assign rfl) rfl rfl rfl ?_
    refine gl_nil ?_
    repeat (first | refine g_seq ?_ | refine at_code ?_ | refine g_skip ?_ | refine g_block ?_ | refine g_exit rfl ?_ | refine g_cond_t rfl ?_ | refine g_cond_f rfl ?_)
    repeat (first | refine g_seq ?_ | refine at_code ?_ | refine g_skip ?_ | refine g_block ?_ | refine g_exit rfl ?_ | refine g_cond_t rfl ?_ | refine g_cond_f rfl ?_)
    refine g_region ?_
    refine gl_f (s_move rfl) rfl rfl rfl ?_
    refine gl_f (s_move rfl) rfl rfl rfl ?_
    refine gl_f ((s_eql_str rfl rfl).eq (v' := .bool true) (by simp)) rfl rfl rfl ?_
    refine gl_f (s_move rfl) rfl rfl rfl ?_
    (first | refine gl_guard_no rfl rfl rfl rfl rfl rfl rfl ?_ | refine gl_guard_un rfl rfl rfl rfl rfl rfl ?_ | (refine gl_guard_yes rfl rfl rfl ?_; refine gl_f (s_move rfl) rfl rfl rfl ?_))
    (first | refine gl_guard_no rfl rfl rfl rfl rfl rfl rfl ?_ | refine gl_guard_un rfl rfl rfl rfl rfl rfl ?_ | (refine gl_guard_yes rfl rfl rfl ?_; refine gl_f (s_move rfl) rfl rfl rfl ?_))
    (first | refine gl_guard_no rfl rfl rfl rfl rfl rfl rfl ?_ | refine gl_guard_un rfl rfl rfl rfl rfl rfl ?_ | (refine gl_guard_yes rfl rfl rfl ?_; refine gl_f ((s_eql rfl rfl).eq (v' := .bool true) (by simp)) rfl rfl rfl ?_))
    refine gl_f (by first | exact s_pick_t rfl rfl | exact s_pick_f rfl rfl) rfl rfl rfl ?_
    refine gl_f (s_move rfl) rfl rfl rfl ?_
    (first | refine gl_guard_no rfl rfl rfl rfl rfl rfl rfl ?_ | refine gl_guard_un rfl rfl rfl rfl rfl rfl ?_ | (refine gl_guard_yes rfl rfl rfl ?_; refine gl_f (s_move rfl) rfl rfl rfl ?_))
    (first | refine gl_guard_no rfl rfl rfl rfl rfl rfl rfl ?_ | refine gl_guard_un rfl rfl rfl rfl rfl rfl ?_ | (refine gl_guard_yes rfl rfl rfl ?_; refine gl_f (s_move rfl) rfl rfl rfl ?_))
    (first | refine gl_guard_no rfl rfl rfl rfl rfl rfl rfl ?_ | refine gl_guard_un rfl rfl rfl rfl rfl rfl ?_ | (refine gl_guard_yes rfl rfl rfl ?_; refine gl_callp rfl (Has_ct x a V sm hI hok) (fun h hh ⟨bs, hb⟩ => ⟨⟨Sat.blk hb (by repeat first|exact .del|apply Upd.there), Sat.blk hb (by repeat first|exact .del|apply Upd.there)⟩, hh _ _ hv⟩) rfl ?_))
    (first | refine gl_guard_no rfl rfl rfl rfl rfl rfl rfl ?_ | refine gl_guard_un rfl rfl rfl rfl rfl rfl ?_ | (refine gl_guard_yes rfl rfl rfl ?_; refine gl_f (s_move rfl) rfl rfl rfl ?_))
    (first | refine gl_guard_no rfl rfl rfl rfl rfl rfl rfl ?_ | refine gl_guard_un rfl rfl rfl rfl rfl rfl ?_ | (refine gl_guard_yes rfl rfl rfl ?_; refine gl_f (s_eql rfl rfl) rfl rfl rfl ?_))
    (first | refine gl_guard_no rfl rfl rfl rfl rfl rfl rfl ?_ | refine gl_guard_un rfl rfl rfl rfl rfl rfl ?_ | (refine gl_guard_yes rfl rfl rfl ?_; refine gl_f ((s_eql_bool rfl rfl).eq (v' := .bool true) (by simp)) rfl rfl rfl ?_))
    refine gl_f (by first | exact s_pick_t rfl rfl | exact s_pick_f rfl rfl) rfl rfl rfl ?_
    refine gl_f (s_assign rfl) rfl rfl rfl ?_
    refine gl_nil ?_
    repeat (first | refine g_seq ?_ | refine at_code ?_ | refine g_skip ?_ | refine g_block ?_ | refine g_exit rfl ?_ | refine g_cond_t rfl ?_ | refine g_cond_f rfl ?_)
    refine g_ret ?_
    exact at_end1 rfl rfl (bothH x a r ++ []) ⟨rfl, a, r, [], rfl, rfl, rfl, hok, fun h f _ => f⟩ (fun w hw => hw.drop)
  repeat (first | refine g_seq ?_ | refine at_code ?_ | refine g_skip ?_ | refine g_block ?_ | refine g_exit rfl ?_ | refine g_cond_t rfl ?_ | refine g_cond_f rfl ?_)
  refine g_region ?_
  refine gl_f ((s_eql rfl rfl).eq (congrArg Value.bool hq3.symm)) rfl rfl rfl ?_
  refine gl_f (s_assign rfl) rfl rfl rfl ?_
  refine gl_nil ?_
  repeat (first | refine g_seq ?_ | refine at_code ?_ | refine g_skip ?_ | refine g_block ?_ | refine g_exit rfl ?_ | refine g_cond_t rfl ?_ | refine g_cond_f rfl ?_)
  cases q4
  rotate_left
  · skip
    have hk : kind = 4 := of_decide_eq_true hq4.symm
    have n1 : ¬ kind = 1 := of_decide_eq_false hq1.symm
    have n2 : ¬ kind = 2 := of_decide_eq_false hq2.symm
    have n3 : ¬ kind = 3 := of_decide_eq_false hq3.symm
    have ex : actV x ⟨kind, s, t, la, l, lc, k⟩ = (kpX (l.map Dg.sha) x).1 := by
      simp only [actV]
      rw [if_neg n1]; rw [if_neg n2]; rw [if_neg n3]; rw [if_pos hk]
    rw [ex]
    have hKc := Keep_ct x a V (41 * i) (l.map Dg.sha)
    have hRc := rKeep_ct x r (41 * i) (l.map Dg.sha)
    rw [List.length_map] at hKc hRc
    generalize kpX (l.map Dg.sha) x = K at hKc hRc ⊢
    obtain ⟨X, kn, ke⟩ := K
    simp only at hKc hRc ⊢
    repeat (first | refine g_seq ?_ | refine at_code ?_ | refine g_skip ?_ | refine g_block ?_ | refine g_exit rfl ?_ | refine g_cond_t rfl ?_ | refine g_cond_f rfl ?_)
    refine g_region ?_
    refine gl_f ((s_eql rfl rfl).eq (congrArg Value.bool hq4.symm)) rfl rfl rfl ?_
    refine gl_f (s_assign rfl) rfl rfl rfl ?_
    refine gl_nil ?_
    repeat (first | refine g_seq ?_ | refine at_code ?_ | refine g_skip ?_ | refine g_block ?_ | refine g_exit rfl ?_ | refine g_cond_t rfl ?_ | refine g_cond_f rfl ?_)
    repeat (first | refine g_seq ?_ | refine at_code ?_ | refine g_skip ?_ | refine g_block ?_ | refine g_exit rfl ?_ | refine g_cond_t rfl ?_ | refine g_cond_f rfl ?_)
    refine g_region ?_
    refine gl_f (s_move rfl) rfl rfl rfl ?_
    refine gl_f (by first | exact s_fieldAddr rfl (by rfl) (by infer_instance) (by decide) | exact s_fieldAddr_o rfl (by assumption) (by rfl) (by infer_instance) (by decide)) rfl rfl rfl ?_
    refine gl_r (by first | exact s_load_blk rfl (by repeat first|exact .del|apply Upd.there) (by rfl) | exact s_load1 rfl (fun w hw => peekB hw (by assumption) (by rfl))) rfl rfl rfl ?_
    refine gl_call _ rfl (sums_ct l la lc (by omega) (fun s hs => by have := hme s hs; omega)) (fun w hw => hw) (fun h hh _ => hmr.le hh) rfl ?_; rintro v A ⟨sa, sc, rfl, rfl⟩
    refine gl_call [OwnB sa (l.map Dg.sha) sc, .blk g7 (.cells #[.int .i64 kind, B s, B t, .slice la l.length lc, .int .i64 k] 71), .blk r.X (refO x r)] rfl (hKc sa sc hw0 (by omega) hok (by omega)) (fun w hw => hw.perm (perm_up (by repeat first|exact .del|apply Upd.there) (perm_up (by repeat first|exact .del|apply Upd.there) (perm_up (by repeat first|exact .del|apply Upd.there) (perm_up (by repeat first|exact .del|apply Upd.there) (.refl _)))))) (fun h hh ⟨bs, hb⟩ => ⟨hh _ _ hv, by rw [← stV_map]; exact Sat.rd (a := sa) hb (by repeat first|exact .del|apply Upd.there)⟩) rfl ?_; rintro v A ⟨rfl, a', Z, e1, rfl, hok', f1⟩; refine gl_pull (H' := .blk g7 (.cells #[.int .i64 kind, B s, B t, .slice la l.length lc, .int .i64 k] 71) :: .blk r.X (refO x r) :: (dskH X a' ++ Z)) (fun w hw => Hp.left (A := .blk g7 (.cells #[.int .i64 kind, B s, B t, .slice la l.length lc, .int .i64 k] 71) :: .blk r.X (refO x r) :: (dskH X a' ++ Z)) (R := [OwnB sa (l.map Dg.sha) sc]) (hw.perm (perm_o3 ..))) ?_
    refine gl_f (s_move rfl) rfl rfl rfl ?_
    refine gl_f (s_extract rfl rfl) rfl rfl rfl ?_
    refine gl_f (s_extract rfl rfl) rfl rfl rfl ?_
    refine gl_f (s_assign rfl) rfl rfl rfl ?_
    refine gl_f (s_assign rfl) rfl rfl rfl ?_
    refine gl_nil ?_
    repeat (first | refine g_seq ?_ | refine at_code ?_ | refine g_skip ?_ | refine g_block ?_ | refine g_exit rfl ?_ | refine g_cond_t rfl ?_ | refine g_cond_f rfl ?_)
    repeat (first | refine g_seq ?_ | refine at_code ?_ | refine g_skip ?_ | refine g_block ?_ | refine g_exit rfl ?_ | refine g_cond_t rfl ?_ | refine g_cond_f rfl ?_)
    refine g_region ?_
    refine gl_f (s_move rfl) rfl rfl rfl ?_
    refine gl_f (by first | exact s_fieldAddr rfl (by rfl) (by infer_instance) (by decide) | exact s_fieldAddr_o rfl (by assumption) (by rfl) (by infer_instance) (by decide)) rfl rfl rfl ?_
    refine gl_r (by first | exact s_load_blk rfl (by repeat first|exact .del|apply Upd.there) (by rfl) | exact s_load1 rfl (fun w hw => peekB hw (by assumption) (by rfl))) rfl rfl rfl ?_
    refine gl_call _ rfl (sums_ct l la lc (by omega) (fun s hs => by have := hme s hs; omega)) (fun w hw => hw) (fun h hh _ => hmr.le hh) rfl ?_; rintro v A ⟨sb, sd, rfl, rfl⟩
    refine gl_call (OwnB sb (l.map Dg.sha) sd :: .blk g7 (.cells #[.int .i64 kind, B s, B t, .slice la l.length lc, .int .i64 k] 71) :: (dskH X a' ++ Z)) rfl (hRc sb sd hw0 (by omega) (by omega)) (fun w hw => hw.perm (perm_up (by repeat first|exact .del|apply Upd.there) (.refl _))) (fun h hh ⟨bs, hb⟩ => ⟨hr.le hh, by rw [← stV_map]; exact Sat.rd (a := sb) hb (by repeat first|exact .del|apply Upd.there)⟩) rfl ?_; rintro v A ⟨rfl, r', Z2, e3, rfl, f2⟩; refine gl_pull (H' := .blk g7 (.cells #[.int .i64 kind, B s, B t, .slice la l.length lc, .int .i64 k] 71) :: ((.blk r.X (refO X r') :: Z2) ++ (dskH X a' ++ Z))) (fun w hw => Hp.left (A := .blk g7 (.cells #[.int .i64 kind, B s, B t, .slice la l.length lc, .int .i64 k] 71) :: ((.blk r.X (refO X r') :: Z2) ++ (dskH X a' ++ Z))) (R := [OwnB sb (l.map Dg.sha) sd]) (hw.perm (perm_o4 ..))) ?_
    refine gl_f (s_move rfl) rfl rfl rfl ?_
    refine gl_f (s_extract rfl rfl) rfl rfl rfl ?_
    refine gl_f (s_extract rfl rfl) rfl rfl rfl ?_
    refine gl_f (s_assign rfl) rfl rfl rfl ?_
    refine gl_f (s_assign rfl) rfl rfl rfl ?_
    refine gl_nil ?_
    repeat (first | refine g_seq ?_ | refine at_code ?_ | refine g_skip ?_ | refine g_block ?_ | refine g_exit rfl ?_ | refine g_cond_t rfl ?_ | refine g_cond_f rfl ?_)
    repeat (first | refine g_seq ?_ | refine at_code ?_ | refine g_skip ?_ | refine g_block ?_ | refine g_exit rfl ?_ | refine g_cond_t rfl ?_ | refine g_cond_f rfl ?_)
    refine g_region ?_
    refine gl_f (s_move rfl) rfl rfl rfl ?_
    refine gl_f (s_move rfl) rfl rfl rfl ?_
    refine gl_f ((s_eql rfl rfl).eq (v' := .bool true) (by simp)) rfl rfl rfl ?_
    refine gl_f (s_move rfl) rfl rfl rfl ?_
    (first | refine gl_guard_no rfl rfl rfl rfl rfl rfl rfl ?_ | refine gl_guard_un rfl rfl rfl rfl rfl rfl ?_ | (refine gl_guard_yes rfl rfl rfl ?_; refine gl_f (s_move rfl) rfl rfl rfl ?_))
    (first | refine gl_guard_no rfl rfl rfl rfl rfl rfl rfl ?_ | refine gl_guard_un rfl rfl rfl rfl rfl rfl ?_ | (refine gl_guard_yes rfl rfl rfl ?_; refine gl_f (s_move rfl) rfl rfl rfl ?_))
    (first | refine gl_guard_no rfl rfl rfl rfl rfl rfl rfl ?_ | refine gl_guard_un rfl rfl rfl rfl rfl rfl ?_ | (refine gl_guard_yes rfl rfl rfl ?_; refine gl_f ((s_eql rfl rfl).eq (v' := .bool true) (by simp)) rfl rfl rfl ?_))
    refine gl_f (by first | exact s_pick_t rfl rfl | exact s_pick_f rfl rfl) rfl rfl rfl ?_
    refine gl_f (s_assign rfl) rfl rfl rfl ?_
    refine gl_nil ?_
    repeat (first | refine g_seq ?_ | refine at_code ?_ | refine g_skip ?_ | refine g_block ?_ | refine g_exit rfl ?_ | refine g_cond_t rfl ?_ | refine g_cond_f rfl ?_)
    refine g_ret ?_
    refine at_end1 rfl rfl (bothH (X) a' r' ++ (Z ++ Z2)) ⟨rfl, a', r', Z ++ Z2, e1, e3, rfl, hok', both_done f1 f2⟩ (fun w hw => ?_)
    rw [← e3] at hw
    exact Hp.left (hw.perm (perm_act _ _ (dskH (X) a') Z Z2))
  repeat (first | refine g_seq ?_ | refine at_code ?_ | refine g_skip ?_ | refine g_block ?_ | refine g_exit rfl ?_ | refine g_cond_t rfl ?_ | refine g_cond_f rfl ?_)
  refine g_region ?_
  refine gl_f ((s_eql rfl rfl).eq (congrArg Value.bool hq4.symm)) rfl rfl rfl ?_
  refine gl_f (s_assign rfl) rfl rfl rfl ?_
  refine gl_nil ?_
  repeat (first | refine g_seq ?_ | refine at_code ?_ | refine g_skip ?_ | refine g_block ?_ | refine g_exit rfl ?_ | refine g_cond_t rfl ?_ | refine g_cond_f rfl ?_)
  cases q5
  rotate_left
  · skip
    have hnl := bN_len s
    have hk : kind = 5 := of_decide_eq_true hq5.symm
    have n1 : ¬ kind = 1 := of_decide_eq_false hq1.symm
    have n2 : ¬ kind = 2 := of_decide_eq_false hq2.symm
    have n3 : ¬ kind = 3 := of_decide_eq_false hq3.symm
    have n4 : ¬ kind = 4 := of_decide_eq_false hq4.symm
    have ex : actV x ⟨kind, s, t, la, l, lc, k⟩ = turnD x ⟨2, bN s, t⟩ := by
      simp only [actV]
      rw [if_neg n1]; rw [if_neg n2]; rw [if_neg n3]; rw [if_neg n4]; rw [if_pos hk]
    rw [ex]
    repeat (first | refine g_seq ?_ | refine at_code ?_ | refine g_skip ?_ | refine g_block ?_ | refine g_exit rfl ?_ | refine g_cond_t rfl ?_ | refine g_cond_f rfl ?_)
    refine g_region ?_
    refine gl_f ((s_eql rfl rfl).eq (congrArg Value.bool hq5.symm)) rfl rfl rfl ?_
    refine gl_f (s_assign rfl) rfl rfl rfl ?_
    refine gl_nil ?_
    repeat (first | refine g_seq ?_ | refine at_code ?_ | refine g_skip ?_ | refine g_block ?_ | refine g_exit rfl ?_ | refine g_cond_t rfl ?_ | refine g_cond_f rfl ?_)
    repeat (first | refine g_seq ?_ | refine at_code ?_ | refine g_skip ?_ | refine g_block ?_ | refine g_exit rfl ?_ | refine g_cond_t rfl ?_ | refine g_cond_f rfl ?_)
    refine g_region ?_
    refine gl_f (by first | exact s_fieldAddr rfl (by rfl) (by infer_instance) (by decide) | exact s_fieldAddr_o rfl (by assumption) (by rfl) (by infer_instance) (by decide)) rfl rfl rfl ?_
    refine gl_r (by first | exact s_load_blk rfl (by repeat first|exact .del|apply Upd.there) (by rfl) | exact s_load1 rfl (fun w hw => peekB hw (by assumption) (by rfl))) rfl rfl rfl ?_
    refine gl_callp rfl (Dg.Sum_ct s (by omega)) (fun _ _ _ => trivial) rfl ?_
    refine gl_callp rfl (Dg.Hex_ct (Dg.sha s) (by rw [Dg.sha_length]; omega)) (fun _ _ _ => trivial) rfl ?_
    refine gl_f ((s_add_str (l := [98]) (l' := Dg.hexs (Dg.sha s)) rfl rfl (by rw [Dg.hexs_length, Dg.sha_length]; decide)).eq (v' := B (bN s)) rfl) rfl rfl rfl ?_
    refine gl_f (s_assign rfl) rfl rfl rfl ?_
    refine gl_nil ?_
    repeat (first | refine g_seq ?_ | refine at_code ?_ | refine g_skip ?_ | refine g_block ?_ | refine g_exit rfl ?_ | refine g_cond_t rfl ?_ | refine g_cond_f rfl ?_)
    repeat (first | refine g_seq ?_ | refine at_code ?_ | refine g_skip ?_ | refine g_block ?_ | refine g_exit rfl ?_ | refine g_cond_t rfl ?_ | refine g_cond_f rfl ?_)
    refine g_draw [3, 8] [.blk g7 (.cells #[.int .i64 kind, B s, B t, .slice la l.length lc, .int .i64 k] 71)] 13 rfl ?_
    refine ga_free 0 rfl (s_move rfl) rfl rfl rfl (by kernel_rfl) ?_
    refine ga_free 1 rfl (s_move rfl) rfl rfl rfl (by kernel_rfl) ?_
    refine ga_free 2 rfl (by first | exact s_fieldAddr rfl (by rfl) (by infer_instance) (by decide) | exact s_fieldAddr_o rfl (by assumption) (by rfl) (by infer_instance) (by decide)) rfl rfl rfl (by kernel_rfl) ?_
    (first | refine ga_read_k 3 rfl (by first | exact .head _ | exact .tail _ (.head _) | exact .tail _ (.tail _ (.head _)) | exact .tail _ (.tail _ (.tail _ (.head _)))) (s_load_blk rfl .del (by rfl)) (by (first | exact fun _ h => h | (repeat first | exact sub_nil | refine sub_cons (by repeat first | exact List.Mem.head _ | apply List.Mem.tail) ?_))) rfl rfl rfl (by kernel_rfl) ?_ | refine ga_readF 3 rfl (s_load1 rfl (fun w hw => peekB hw (by assumption) (by rfl))) (by (first | exact fun _ h => h | (repeat first | exact sub_nil | refine sub_cons (by repeat first | exact List.Mem.head _ | apply List.Mem.tail) ?_))) rfl rfl rfl (by kernel_rfl) ?_)
    refine ga_free 5 rfl (s_move rfl) rfl rfl rfl (by kernel_rfl) ?_
    refine ga_free 6 rfl (s_move rfl) rfl rfl rfl (by kernel_rfl) ?_
    refine ga_free 7 rfl (by first | exact s_fieldAddr rfl (by rfl) (by infer_instance) (by decide) | exact s_fieldAddr_o rfl (by assumption) (by rfl) (by infer_instance) (by decide)) rfl rfl rfl (by kernel_rfl) ?_
    (first | refine ga_read_k 8 rfl (by first | exact .head _ | exact .tail _ (.head _) | exact .tail _ (.tail _ (.head _)) | exact .tail _ (.tail _ (.tail _ (.head _)))) (s_load_blk rfl .del (by rfl)) (by (first | exact fun _ h => h | (repeat first | exact sub_nil | refine sub_cons (by repeat first | exact List.Mem.head _ | apply List.Mem.tail) ?_))) rfl rfl rfl (by kernel_rfl) ?_ | refine ga_readF 8 rfl (s_load1 rfl (fun w hw => peekB hw (by assumption) (by rfl))) (by (first | exact fun _ h => h | (repeat first | exact sub_nil | refine sub_cons (by repeat first | exact List.Mem.head _ | apply List.Mem.tail) ?_))) rfl rfl rfl (by kernel_rfl) ?_)
    refine ga_free 9 rfl (s_build rfl (run_build_struct (places := [(0, 1), (1, 1), (2, 1)]) rfl (by intro f hf; simp at hf; rcases hf with rfl | rfl | rfl <;> rfl) rfl)) rfl rfl rfl (by kernel_rfl) ?_
    refine ga_one 4 rfl (by kernel_rfl) ?_
    refine gl_call [.blk g7 (.cells #[.int .i64 kind, B s, B t, .slice la l.length lc, .int .i64 k] 71), .blk r.X (refO x r)] rfl (Ytolgclfbllcjhaa.Put_ct x a (bN s) t hI hok hpl (by omega) (by omega)) (fun w hw => hw.perm (perm_up (by repeat first|exact .del|apply Upd.there) (perm_up (by repeat first|exact .del|apply Upd.there) (perm_up (by repeat first|exact .del|apply Upd.there) (perm_up (by repeat first|exact .del|apply Upd.there) (.refl _)))))) (fun _ _ _ => trivial) rfl ?_; rintro v A ⟨rfl, a', Z, e1, rfl, hok', f1⟩; refine gl_pull (H' := .blk g7 (.cells #[.int .i64 kind, B s, B t, .slice la l.length lc, .int .i64 k] 71) :: .blk r.X (refO x r) :: (dskH (turnD x ⟨2, bN s, t⟩) a' ++ Z)) (fun w hw => hw.perm List.perm_append_comm) ?_
    refine gl_nil ?_
    refine at_ga (.inr (by exact keeps_of (by (first | exact fun _ h => h | (repeat first | exact sub_nil | refine sub_cons (by repeat first | exact List.Mem.head _ | apply List.Mem.tail) ?_))))) ?_
    refine ga_one 10 rfl (by kernel_rfl) ?_
    refine gl_call (.blk g7 (.cells #[.int .i64 kind, B s, B t, .slice la l.length lc, .int .i64 k] 71) :: (dskH (turnD x ⟨2, bN s, t⟩) a' ++ Z)) rfl (rTurnPut_ct x r (bN s) t hI hsm (by omega) (by omega)) (fun w hw => hw.perm (perm_up (by repeat first|exact .del|apply Upd.there) (.refl _))) (fun h hh _ => hr.le hh) rfl ?_; rintro v A ⟨rfl, r', Z2, e3, rfl, f2⟩; refine gl_pull (H' := .blk g7 (.cells #[.int .i64 kind, B s, B t, .slice la l.length lc, .int .i64 k] 71) :: ((.blk r.X (refO (turnD x ⟨2, bN s, t⟩) r') :: Z2) ++ (dskH (turnD x ⟨2, bN s, t⟩) a' ++ Z))) (fun w hw => hw.perm List.perm_middle) ?_
    refine gl_nil ?_
    refine at_ga (.inr (by exact keeps_of (by (first | exact fun _ h => h | (repeat first | exact sub_nil | refine sub_cons (by repeat first | exact List.Mem.head _ | apply List.Mem.tail) ?_))))) ?_
    refine ga_free 11 rfl ((s_eql rfl rfl).eq (v' := .bool true) (by simp)) rfl rfl rfl (by kernel_rfl) ?_
    refine ga_free 12 rfl (s_assign rfl) rfl rfl rfl (by kernel_rfl) ?_
    refine ga_done (by kernel_rfl) ?_
    repeat (first | refine g_seq ?_ | refine at_code ?_ | refine g_skip ?_ | refine g_block ?_ | refine g_exit rfl ?_ | refine g_cond_t rfl ?_ | refine g_cond_f rfl ?_)
    refine g_ret ?_
    refine at_end1 rfl rfl (bothH (turnD x ⟨2, bN s, t⟩) a' r' ++ (Z ++ Z2)) ⟨rfl, a', r', Z ++ Z2, e1, e3, rfl, hok', both_done f1 f2⟩ (fun w hw => ?_)
    rw [← e3] at hw
    exact Hp.left (hw.perm (perm_act _ _ (dskH (turnD x ⟨2, bN s, t⟩) a') Z Z2))
  repeat (first | refine g_seq ?_ | refine at_code ?_ | refine g_skip ?_ | refine g_block ?_ | refine g_exit rfl ?_ | refine g_cond_t rfl ?_ | refine g_cond_f rfl ?_)
  refine g_region ?_
  refine gl_f ((s_eql rfl rfl).eq (congrArg Value.bool hq5.symm)) rfl rfl rfl ?_
  refine gl_f (s_assign rfl) rfl rfl rfl ?_
  refine gl_nil ?_
  repeat (first | refine g_seq ?_ | refine at_code ?_ | refine g_skip ?_ | refine g_block ?_ | refine g_exit rfl ?_ | refine g_cond_t rfl ?_ | refine g_cond_f rfl ?_)
  cases q6
  rotate_left
  · skip
    have hk : kind = 6 := of_decide_eq_true hq6.symm
    have n1 : ¬ kind = 1 := of_decide_eq_false hq1.symm
    have n2 : ¬ kind = 2 := of_decide_eq_false hq2.symm
    have n3 : ¬ kind = 3 := of_decide_eq_false hq3.symm
    have n4 : ¬ kind = 4 := of_decide_eq_false hq4.symm
    have n5 : ¬ kind = 5 := of_decide_eq_false hq5.symm
    have ex : actV x ⟨kind, s, t, la, l, lc, k⟩ = fuseD x k := by
      simp only [actV]
      rw [if_neg n1]; rw [if_neg n2]; rw [if_neg n3]; rw [if_neg n4]; rw [if_neg n5]; rw [if_pos hk]
    rw [ex]
    repeat (first | refine g_seq ?_ | refine at_code ?_ | refine g_skip ?_ | refine g_block ?_ | refine g_exit rfl ?_ | refine g_cond_t rfl ?_ | refine g_cond_f rfl ?_)
    refine g_region ?_
    refine gl_f ((s_eql rfl rfl).eq (congrArg Value.bool hq6.symm)) rfl rfl rfl ?_
    refine gl_f (s_assign rfl) rfl rfl rfl ?_
    refine gl_nil ?_
    repeat (first | refine g_seq ?_ | refine at_code ?_ | refine g_skip ?_ | refine g_block ?_ | refine g_exit rfl ?_ | refine g_cond_t rfl ?_ | refine g_cond_f rfl ?_)
    repeat (first | refine g_seq ?_ | refine at_code ?_ | refine g_skip ?_ | refine g_block ?_ | refine g_exit rfl ?_ | refine g_cond_t rfl ?_ | refine g_cond_f rfl ?_)
    refine g_region ?_
    refine gl_f (s_move rfl) rfl rfl rfl ?_
    refine gl_f (by first | exact s_fieldAddr rfl (by rfl) (by infer_instance) (by decide) | exact s_fieldAddr_o rfl (by assumption) (by rfl) (by infer_instance) (by decide)) rfl rfl rfl ?_
    refine gl_r (by first | exact s_load_blk rfl (by repeat first|exact .del|apply Upd.there) (by rfl) | exact s_load1 rfl (fun w hw => peekB hw (by assumption) (by rfl))) rfl rfl rfl ?_
    refine gl_call [.blk g7 (.cells #[.int .i64 kind, B s, B t, .slice la l.length lc, .int .i64 k] 71), .blk r.X (refO x r)] rfl (Fuse_ct x a k hok) (fun w hw => hw.perm (perm_up (by repeat first|exact .del|apply Upd.there) (perm_up (by repeat first|exact .del|apply Upd.there) (perm_up (by repeat first|exact .del|apply Upd.there) (perm_up (by repeat first|exact .del|apply Upd.there) (.refl _)))))) (fun _ _ _ => trivial) rfl ?_; rintro v A ⟨rfl, rfl⟩
    refine gl_nil ?_
    repeat (first | refine g_seq ?_ | refine at_code ?_ | refine g_skip ?_ | refine g_block ?_ | refine g_exit rfl ?_ | refine g_cond_t rfl ?_ | refine g_cond_f rfl ?_)
    repeat (first | refine g_seq ?_ | refine at_code ?_ | refine g_skip ?_ | refine g_block ?_ | refine g_exit rfl ?_ | refine g_cond_t rfl ?_ | refine g_cond_f rfl ?_)
    refine g_region ?_
    refine gl_f (s_move rfl) rfl rfl rfl ?_
    refine gl_f (by first | exact s_fieldAddr rfl (by rfl) (by infer_instance) (by decide) | exact s_fieldAddr_o rfl (by assumption) (by rfl) (by infer_instance) (by decide)) rfl rfl rfl ?_
    refine gl_r (by first | exact s_load_blk rfl (by repeat first|exact .del|apply Upd.there) (by rfl) | exact s_load1 rfl (fun w hw => peekB hw (by assumption) (by rfl))) rfl rfl rfl ?_
    refine gl_call (dskH (fuseD x k) a ++ [.blk g7 (.cells #[.int .i64 kind, B s, B t, .slice la l.length lc, .int .i64 k] 71)]) rfl (rFuse_ct x r k) (fun w hw => hw.perm (perm_up (by repeat first|exact .del|apply Upd.there) (.refl _))) (fun _ _ _ => trivial) rfl ?_; rintro v A ⟨rfl, rfl⟩
    refine gl_nil ?_
    repeat (first | refine g_seq ?_ | refine at_code ?_ | refine g_skip ?_ | refine g_block ?_ | refine g_exit rfl ?_ | refine g_cond_t rfl ?_ | refine g_cond_f rfl ?_)
    repeat (first | refine g_seq ?_ | refine at_code ?_ | refine g_skip ?_ | refine g_block ?_ | refine g_exit rfl ?_ | refine g_cond_t rfl ?_ | refine g_cond_f rfl ?_)
    refine g_region ?_
    refine gl_f (s_assign rfl) rfl rfl rfl ?_
    refine gl_nil ?_
    repeat (first | refine g_seq ?_ | refine at_code ?_ | refine g_skip ?_ | refine g_block ?_ | refine g_exit rfl ?_ | refine g_cond_t rfl ?_ | refine g_cond_f rfl ?_)
    refine g_ret ?_
    exact at_end1 rfl rfl (bothH (fuseD x k) a r ++ []) ⟨rfl, a, r, [], rfl, rfl, rfl, ⟨hok.seen, hok.lasts, hok.pl⟩, fun h f _ => ⟨f.p, ⟨f.r.seen, f.r.lasts, f.r.pend⟩⟩⟩ (fun w hw => Hp.left (hw.perm (perm_up (by repeat first|exact .del|apply Upd.there) (perm_up (by repeat first|exact .del|apply Upd.there) (perm_up (by repeat first|exact .del|apply Upd.there) (perm_up (by repeat first|exact .del|apply Upd.there) (perm_up (by repeat first|exact .del|apply Upd.there) (.refl _))))))))
  repeat (first | refine g_seq ?_ | refine at_code ?_ | refine g_skip ?_ | refine g_block ?_ | refine g_exit rfl ?_ | refine g_cond_t rfl ?_ | refine g_cond_f rfl ?_)
  refine g_region ?_
  refine gl_f ((s_eql rfl rfl).eq (congrArg Value.bool hq6.symm)) rfl rfl rfl ?_
  refine gl_f (s_assign rfl) rfl rfl rfl ?_
  refine gl_nil ?_
  repeat (first | refine g_seq ?_ | refine at_code ?_ | refine g_skip ?_ | refine g_block ?_ | refine g_exit rfl ?_ | refine g_cond_t rfl ?_ | refine g_cond_f rfl ?_)
  cases q7
  rotate_left
  · skip
    have hk : kind = 7 := of_decide_eq_true hq7.symm
    have n1 : ¬ kind = 1 := of_decide_eq_false hq1.symm
    have n2 : ¬ kind = 2 := of_decide_eq_false hq2.symm
    have n3 : ¬ kind = 3 := of_decide_eq_false hq3.symm
    have n4 : ¬ kind = 4 := of_decide_eq_false hq4.symm
    have n5 : ¬ kind = 5 := of_decide_eq_false hq5.symm
    have n6 : ¬ kind = 6 := of_decide_eq_false hq6.symm
    have ex : actV x ⟨kind, s, t, la, l, lc, k⟩ = crashD x k := by
      simp only [actV]
      rw [if_neg n1]; rw [if_neg n2]; rw [if_neg n3]; rw [if_neg n4]; rw [if_neg n5]; rw [if_neg n6]; rw [if_pos hk]
    rw [ex]
    repeat (first | refine g_seq ?_ | refine at_code ?_ | refine g_skip ?_ | refine g_block ?_ | refine g_exit rfl ?_ | refine g_cond_t rfl ?_ | refine g_cond_f rfl ?_)
    refine g_region ?_
    refine gl_f ((s_eql rfl rfl).eq (congrArg Value.bool hq7.symm)) rfl rfl rfl ?_
    refine gl_f (s_assign rfl) rfl rfl rfl ?_
    refine gl_nil ?_
    repeat (first | refine g_seq ?_ | refine at_code ?_ | refine g_skip ?_ | refine g_block ?_ | refine g_exit rfl ?_ | refine g_cond_t rfl ?_ | refine g_cond_f rfl ?_)
    repeat (first | refine g_seq ?_ | refine at_code ?_ | refine g_skip ?_ | refine g_block ?_ | refine g_exit rfl ?_ | refine g_cond_t rfl ?_ | refine g_cond_f rfl ?_)
    refine g_draw [2, 6] [.blk g7 (.cells #[.int .i64 kind, B s, B t, .slice la l.length lc, .int .i64 k] 71)] 10 rfl ?_
    refine ga_free 0 rfl (s_move rfl) rfl rfl rfl (by kernel_rfl) ?_
    refine ga_free 1 rfl (by first | exact s_fieldAddr rfl (by rfl) (by infer_instance) (by decide) | exact s_fieldAddr_o rfl (by assumption) (by rfl) (by infer_instance) (by decide)) rfl rfl rfl (by kernel_rfl) ?_
    (first | refine ga_read_k 2 rfl (by first | exact .head _ | exact .tail _ (.head _) | exact .tail _ (.tail _ (.head _)) | exact .tail _ (.tail _ (.tail _ (.head _)))) (s_load_blk rfl .del (by rfl)) (by (first | exact fun _ h => h | (repeat first | exact sub_nil | refine sub_cons (by repeat first | exact List.Mem.head _ | apply List.Mem.tail) ?_))) rfl rfl rfl (by kernel_rfl) ?_ | refine ga_readF 2 rfl (s_load1 rfl (fun w hw => peekB hw (by assumption) (by rfl))) (by (first | exact fun _ h => h | (repeat first | exact sub_nil | refine sub_cons (by repeat first | exact List.Mem.head _ | apply List.Mem.tail) ?_))) rfl rfl rfl (by kernel_rfl) ?_)
    refine ga_free 4 rfl (s_move rfl) rfl rfl rfl (by kernel_rfl) ?_
    refine ga_free 5 rfl (by first | exact s_fieldAddr rfl (by rfl) (by infer_instance) (by decide) | exact s_fieldAddr_o rfl (by assumption) (by rfl) (by infer_instance) (by decide)) rfl rfl rfl (by kernel_rfl) ?_
    (first | refine ga_read_k 6 rfl (by first | exact .head _ | exact .tail _ (.head _) | exact .tail _ (.tail _ (.head _)) | exact .tail _ (.tail _ (.tail _ (.head _)))) (s_load_blk rfl .del (by rfl)) (by (first | exact fun _ h => h | (repeat first | exact sub_nil | refine sub_cons (by repeat first | exact List.Mem.head _ | apply List.Mem.tail) ?_))) rfl rfl rfl (by kernel_rfl) ?_ | refine ga_readF 6 rfl (s_load1 rfl (fun w hw => peekB hw (by assumption) (by rfl))) (by (first | exact fun _ h => h | (repeat first | exact sub_nil | refine sub_cons (by repeat first | exact List.Mem.head _ | apply List.Mem.tail) ?_))) rfl rfl rfl (by kernel_rfl) ?_)
    refine ga_one 3 rfl (by kernel_rfl) ?_
    refine gl_call [.blk g7 (.cells #[.int .i64 kind, B s, B t, .slice la l.length lc, .int .i64 k] 71), .blk r.X (refO x r)] rfl (Ct.post_mono (Crash_ct x a k hI hok hpl hmk) (fun v A h => CrP.dp h)) (fun w hw => hw.perm (perm_up (by repeat first|exact .del|apply Upd.there) (perm_up (by repeat first|exact .del|apply Upd.there) (perm_up (by repeat first|exact .del|apply Upd.there) (perm_up (by repeat first|exact .del|apply Upd.there) (.refl _)))))) (fun h hh _ p hp => (hb.p p hp).le hh) rfl ?_; rintro v A ⟨rfl, a', Z, e1, rfl, hok', f1⟩; refine gl_pull (H' := .blk g7 (.cells #[.int .i64 kind, B s, B t, .slice la l.length lc, .int .i64 k] 71) :: .blk r.X (refO x r) :: (dskH (crashD x k) a' ++ Z)) (fun w hw => hw.perm List.perm_append_comm) ?_
    refine gl_nil ?_
    refine at_ga (.inr (by exact keeps_of (by (first | exact fun _ h => h | (repeat first | exact sub_nil | refine sub_cons (by repeat first | exact List.Mem.head _ | apply List.Mem.tail) ?_))))) ?_
    refine ga_one 7 rfl (by kernel_rfl) ?_
    refine gl_call (.blk g7 (.cells #[.int .i64 kind, B s, B t, .slice la l.length lc, .int .i64 k] 71) :: (dskH (crashD x k) a' ++ Z)) rfl (rCrash_ct x r k hI hsm hmk) (fun w hw => hw.perm (perm_up (by repeat first|exact .del|apply Upd.there) (.refl _))) (fun h hh _ => hr.le hh) rfl ?_; rintro v A ⟨rfl, r', Z2, e3, rfl, f2⟩; refine gl_pull (H' := .blk g7 (.cells #[.int .i64 kind, B s, B t, .slice la l.length lc, .int .i64 k] 71) :: ((.blk r.X (refO (crashD x k) r') :: Z2) ++ (dskH (crashD x k) a' ++ Z))) (fun w hw => hw.perm List.perm_middle) ?_
    refine gl_nil ?_
    refine at_ga (.inr (by exact keeps_of (by (first | exact fun _ h => h | (repeat first | exact sub_nil | refine sub_cons (by repeat first | exact List.Mem.head _ | apply List.Mem.tail) ?_))))) ?_
    refine ga_free 8 rfl ((s_eql rfl rfl).eq (v' := .bool true) (by simp)) rfl rfl rfl (by kernel_rfl) ?_
    refine ga_free 9 rfl (s_assign rfl) rfl rfl rfl (by kernel_rfl) ?_
    refine ga_done (by kernel_rfl) ?_
    repeat (first | refine g_seq ?_ | refine at_code ?_ | refine g_skip ?_ | refine g_block ?_ | refine g_exit rfl ?_ | refine g_cond_t rfl ?_ | refine g_cond_f rfl ?_)
    refine g_ret ?_
    refine at_end1 rfl rfl (bothH (crashD x k) a' r' ++ (Z ++ Z2)) ⟨rfl, a', r', Z ++ Z2, e1, e3, rfl, hok', both_done f1 f2⟩ (fun w hw => ?_)
    rw [← e3] at hw
    exact Hp.left (hw.perm (perm_act _ _ (dskH (crashD x k) a') Z Z2))
  repeat (first | refine g_seq ?_ | refine at_code ?_ | refine g_skip ?_ | refine g_block ?_ | refine g_exit rfl ?_ | refine g_cond_t rfl ?_ | refine g_cond_f rfl ?_)
  refine g_region ?_
  refine gl_f ((s_eql rfl rfl).eq (congrArg Value.bool hq7.symm)) rfl rfl rfl ?_
  refine gl_f (s_assign rfl) rfl rfl rfl ?_
  refine gl_nil ?_
  repeat (first | refine g_seq ?_ | refine at_code ?_ | refine g_skip ?_ | refine g_block ?_ | refine g_exit rfl ?_ | refine g_cond_t rfl ?_ | refine g_cond_f rfl ?_)
  cases q8
  rotate_left
  · skip
    have hk : kind = 8 := of_decide_eq_true hq8.symm
    have n1 : ¬ kind = 1 := of_decide_eq_false hq1.symm
    have n2 : ¬ kind = 2 := of_decide_eq_false hq2.symm
    have n3 : ¬ kind = 3 := of_decide_eq_false hq3.symm
    have n4 : ¬ kind = 4 := of_decide_eq_false hq4.symm
    have n5 : ¬ kind = 5 := of_decide_eq_false hq5.symm
    have n6 : ¬ kind = 6 := of_decide_eq_false hq6.symm
    have n7 : ¬ kind = 7 := of_decide_eq_false hq7.symm
    have ex : actV x ⟨kind, s, t, la, l, lc, k⟩ = turnD x ⟨2, s, t⟩ := by
      simp only [actV]
      rw [if_neg n1]; rw [if_neg n2]; rw [if_neg n3]; rw [if_neg n4]; rw [if_neg n5]; rw [if_neg n6]; rw [if_neg n7]; rw [if_pos hk]
    rw [ex]
    repeat (first | refine g_seq ?_ | refine at_code ?_ | refine g_skip ?_ | refine g_block ?_ | refine g_exit rfl ?_ | refine g_cond_t rfl ?_ | refine g_cond_f rfl ?_)
    refine g_region ?_
    refine gl_f ((s_eql rfl rfl).eq (congrArg Value.bool hq8.symm)) rfl rfl rfl ?_
    refine gl_f (s_assign rfl) rfl rfl rfl ?_
    refine gl_nil ?_
    repeat (first | refine g_seq ?_ | refine at_code ?_ | refine g_skip ?_ | refine g_block ?_ | refine g_exit rfl ?_ | refine g_cond_t rfl ?_ | refine g_cond_f rfl ?_)
    repeat (first | refine g_seq ?_ | refine at_code ?_ | refine g_skip ?_ | refine g_block ?_ | refine g_exit rfl ?_ | refine g_cond_t rfl ?_ | refine g_cond_f rfl ?_)
    refine g_draw [2, 4, 8, 10] [.blk g7 (.cells #[.int .i64 kind, B s, B t, .slice la l.length lc, .int .i64 k] 71)] 15 rfl ?_
    refine ga_free 0 rfl (s_move rfl) rfl rfl rfl (by kernel_rfl) ?_
    refine ga_free 1 rfl (by first | exact s_fieldAddr rfl (by rfl) (by infer_instance) (by decide) | exact s_fieldAddr_o rfl (by assumption) (by rfl) (by infer_instance) (by decide)) rfl rfl rfl (by kernel_rfl) ?_
    (first | refine ga_read_k 2 rfl (by first | exact .head _ | exact .tail _ (.head _) | exact .tail _ (.tail _ (.head _)) | exact .tail _ (.tail _ (.tail _ (.head _)))) (s_load_blk rfl .del (by rfl)) (by (first | exact fun _ h => h | (repeat first | exact sub_nil | refine sub_cons (by repeat first | exact List.Mem.head _ | apply List.Mem.tail) ?_))) rfl rfl rfl (by kernel_rfl) ?_ | refine ga_readF 2 rfl (s_load1 rfl (fun w hw => peekB hw (by assumption) (by rfl))) (by (first | exact fun _ h => h | (repeat first | exact sub_nil | refine sub_cons (by repeat first | exact List.Mem.head _ | apply List.Mem.tail) ?_))) rfl rfl rfl (by kernel_rfl) ?_)
    refine ga_free 3 rfl (by first | exact s_fieldAddr rfl (by rfl) (by infer_instance) (by decide) | exact s_fieldAddr_o rfl (by assumption) (by rfl) (by infer_instance) (by decide)) rfl rfl rfl (by kernel_rfl) ?_
    (first | refine ga_read_k 4 rfl (by first | exact .head _ | exact .tail _ (.head _) | exact .tail _ (.tail _ (.head _)) | exact .tail _ (.tail _ (.tail _ (.head _)))) (s_load_blk rfl .del (by rfl)) (by (first | exact fun _ h => h | (repeat first | exact sub_nil | refine sub_cons (by repeat first | exact List.Mem.head _ | apply List.Mem.tail) ?_))) rfl rfl rfl (by kernel_rfl) ?_ | refine ga_readF 4 rfl (s_load1 rfl (fun w hw => peekB hw (by assumption) (by rfl))) (by (first | exact fun _ h => h | (repeat first | exact sub_nil | refine sub_cons (by repeat first | exact List.Mem.head _ | apply List.Mem.tail) ?_))) rfl rfl rfl (by kernel_rfl) ?_)
    refine ga_free 6 rfl (s_move rfl) rfl rfl rfl (by kernel_rfl) ?_
    refine ga_free 7 rfl (by first | exact s_fieldAddr rfl (by rfl) (by infer_instance) (by decide) | exact s_fieldAddr_o rfl (by assumption) (by rfl) (by infer_instance) (by decide)) rfl rfl rfl (by kernel_rfl) ?_
    (first | refine ga_read_k 8 rfl (by first | exact .head _ | exact .tail _ (.head _) | exact .tail _ (.tail _ (.head _)) | exact .tail _ (.tail _ (.tail _ (.head _)))) (s_load_blk rfl .del (by rfl)) (by (first | exact fun _ h => h | (repeat first | exact sub_nil | refine sub_cons (by repeat first | exact List.Mem.head _ | apply List.Mem.tail) ?_))) rfl rfl rfl (by kernel_rfl) ?_ | refine ga_readF 8 rfl (s_load1 rfl (fun w hw => peekB hw (by assumption) (by rfl))) (by (first | exact fun _ h => h | (repeat first | exact sub_nil | refine sub_cons (by repeat first | exact List.Mem.head _ | apply List.Mem.tail) ?_))) rfl rfl rfl (by kernel_rfl) ?_)
    refine ga_free 9 rfl (by first | exact s_fieldAddr rfl (by rfl) (by infer_instance) (by decide) | exact s_fieldAddr_o rfl (by assumption) (by rfl) (by infer_instance) (by decide)) rfl rfl rfl (by kernel_rfl) ?_
    (first | refine ga_read_k 10 rfl (by first | exact .head _ | exact .tail _ (.head _) | exact .tail _ (.tail _ (.head _)) | exact .tail _ (.tail _ (.tail _ (.head _)))) (s_load_blk rfl .del (by rfl)) (by (first | exact fun _ h => h | (repeat first | exact sub_nil | refine sub_cons (by repeat first | exact List.Mem.head _ | apply List.Mem.tail) ?_))) rfl rfl rfl (by kernel_rfl) ?_ | refine ga_readF 10 rfl (s_load1 rfl (fun w hw => peekB hw (by assumption) (by rfl))) (by (first | exact fun _ h => h | (repeat first | exact sub_nil | refine sub_cons (by repeat first | exact List.Mem.head _ | apply List.Mem.tail) ?_))) rfl rfl rfl (by kernel_rfl) ?_)
    refine ga_free 11 rfl (s_build rfl (run_build_struct (places := [(0, 1), (1, 1), (2, 1)]) rfl (by intro f hf; simp at hf; rcases hf with rfl | rfl | rfl <;> rfl) rfl)) rfl rfl rfl (by kernel_rfl) ?_
    refine ga_one 5 rfl (by kernel_rfl) ?_
    refine gl_call [.blk g7 (.cells #[.int .i64 kind, B s, B t, .slice la l.length lc, .int .i64 k] 71), .blk r.X (refO x r)] rfl (Ytolgclfbllcjhaa.Put_ct x a s t hI hok hpl (by omega) (by omega)) (fun w hw => hw.perm (perm_up (by repeat first|exact .del|apply Upd.there) (perm_up (by repeat first|exact .del|apply Upd.there) (perm_up (by repeat first|exact .del|apply Upd.there) (perm_up (by repeat first|exact .del|apply Upd.there) (.refl _)))))) (fun _ _ _ => trivial) rfl ?_; rintro v A ⟨rfl, a', Z, e1, rfl, hok', f1⟩; refine gl_pull (H' := .blk g7 (.cells #[.int .i64 kind, B s, B t, .slice la l.length lc, .int .i64 k] 71) :: .blk r.X (refO x r) :: (dskH (turnD x ⟨2, s, t⟩) a' ++ Z)) (fun w hw => hw.perm List.perm_append_comm) ?_
    refine gl_nil ?_
    refine at_ga (.inr (by exact keeps_of (by (first | exact fun _ h => h | (repeat first | exact sub_nil | refine sub_cons (by repeat first | exact List.Mem.head _ | apply List.Mem.tail) ?_))))) ?_
    refine ga_one 12 rfl (by kernel_rfl) ?_
    refine gl_call (.blk g7 (.cells #[.int .i64 kind, B s, B t, .slice la l.length lc, .int .i64 k] 71) :: (dskH (turnD x ⟨2, s, t⟩) a' ++ Z)) rfl (rTurnPut_ct x r s t hI hsm (by omega) (by omega)) (fun w hw => hw.perm (perm_up (by repeat first|exact .del|apply Upd.there) (.refl _))) (fun h hh _ => hr.le hh) rfl ?_; rintro v A ⟨rfl, r', Z2, e3, rfl, f2⟩; refine gl_pull (H' := .blk g7 (.cells #[.int .i64 kind, B s, B t, .slice la l.length lc, .int .i64 k] 71) :: ((.blk r.X (refO (turnD x ⟨2, s, t⟩) r') :: Z2) ++ (dskH (turnD x ⟨2, s, t⟩) a' ++ Z))) (fun w hw => hw.perm List.perm_middle) ?_
    refine gl_nil ?_
    refine at_ga (.inr (by exact keeps_of (by (first | exact fun _ h => h | (repeat first | exact sub_nil | refine sub_cons (by repeat first | exact List.Mem.head _ | apply List.Mem.tail) ?_))))) ?_
    refine ga_free 13 rfl ((s_eql rfl rfl).eq (v' := .bool true) (by simp)) rfl rfl rfl (by kernel_rfl) ?_
    refine ga_free 14 rfl (s_assign rfl) rfl rfl rfl (by kernel_rfl) ?_
    refine ga_done (by kernel_rfl) ?_
    repeat (first | refine g_seq ?_ | refine at_code ?_ | refine g_skip ?_ | refine g_block ?_ | refine g_exit rfl ?_ | refine g_cond_t rfl ?_ | refine g_cond_f rfl ?_)
    refine g_ret ?_
    refine at_end1 rfl rfl (bothH (turnD x ⟨2, s, t⟩) a' r' ++ (Z ++ Z2)) ⟨rfl, a', r', Z ++ Z2, e1, e3, rfl, hok', both_done f1 f2⟩ (fun w hw => ?_)
    rw [← e3] at hw
    exact Hp.left (hw.perm (perm_act _ _ (dskH (turnD x ⟨2, s, t⟩) a') Z Z2))
  repeat (first | refine g_seq ?_ | refine at_code ?_ | refine g_skip ?_ | refine g_block ?_ | refine g_exit rfl ?_ | refine g_cond_t rfl ?_ | refine g_cond_f rfl ?_)
  refine g_region ?_
  refine gl_f ((s_eql rfl rfl).eq (congrArg Value.bool hq8.symm)) rfl rfl rfl ?_
  refine gl_f (s_assign rfl) rfl rfl rfl ?_
  refine gl_nil ?_
  repeat (first | refine g_seq ?_ | refine at_code ?_ | refine g_skip ?_ | refine g_block ?_ | refine g_exit rfl ?_ | refine g_cond_t rfl ?_ | refine g_cond_f rfl ?_)
  have n1 : ¬ kind = 1 := of_decide_eq_false hq1.symm
  have n2 : ¬ kind = 2 := of_decide_eq_false hq2.symm
  have n3 : ¬ kind = 3 := of_decide_eq_false hq3.symm
  have n4 : ¬ kind = 4 := of_decide_eq_false hq4.symm
  have n5 : ¬ kind = 5 := of_decide_eq_false hq5.symm
  have n6 : ¬ kind = 6 := of_decide_eq_false hq6.symm
  have n7 : ¬ kind = 7 := of_decide_eq_false hq7.symm
  have n8 : ¬ kind = 8 := of_decide_eq_false hq8.symm
  have ex : actV x ⟨kind, s, t, la, l, lc, k⟩ = x := by
    simp only [actV]
    rw [if_neg n1]; rw [if_neg n2]; rw [if_neg n3]; rw [if_neg n4]; rw [if_neg n5]; rw [if_neg n6]; rw [if_neg n7]; rw [if_neg n8]
  rw [ex]
  repeat (first | refine g_seq ?_ | refine at_code ?_ | refine g_skip ?_ | refine g_block ?_ | refine g_exit rfl ?_ | refine g_cond_t rfl ?_ | refine g_cond_f rfl ?_)
  refine g_region ?_
  refine gl_f (s_assign rfl) rfl rfl rfl ?_
  refine gl_nil ?_
  repeat (first | refine g_seq ?_ | refine at_code ?_ | refine g_skip ?_ | refine g_block ?_ | refine g_exit rfl ?_ | refine g_cond_t rfl ?_ | refine g_cond_f rfl ?_)
  refine g_ret ?_
  exact at_end1 rfl rfl (bothH x a r ++ []) ⟨rfl, a, r, [], rfl, rfl, rfl, hok, fun h f _ => f⟩ (fun w hw => hw.drop)
end Go.Proofs.Ytolgclfbllcjhaa.Vt
