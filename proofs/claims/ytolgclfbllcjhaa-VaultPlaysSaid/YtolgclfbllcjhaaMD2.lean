/- The reference's disk: calls. -/
import Derived.Test.YtolgclfbllcjhaaMD1
namespace Go.Proofs.Ytolgclfbllcjhaa
open Go Go.Sl
set_option linter.unusedVariables false
set_option linter.unusedSimpArgs false

theorem Steps_ct (c : Cl) : Pu Try.prog 77 [rcA c] (fun _ => True) (.int .i64 (stepsC c : Nat)) := by
  refine ct_enter 9 Try.func77 rfl rfl rfl ?_
  intro F _
  repeat (first | refine g_seq ?_ | refine at_code ?_ | refine g_skip ?_ | refine g_block ?_ | refine g_exit rfl ?_ | refine g_cond_t rfl ?_ | refine g_cond_f rfl ?_)
  refine g_region ?_
  refine gl_boxA rfl rfl ?_; intro g1
  refine gl_f (s_assign rfl) rfl rfl rfl ?_
  refine gl_nil ?_
  repeat (first | refine g_seq ?_ | refine at_code ?_ | refine g_skip ?_ | refine g_block ?_ | refine g_exit rfl ?_ | refine g_cond_t rfl ?_ | refine g_cond_f rfl ?_)
  obtain ⟨q, hq⟩ : ∃ q, q = decide (c.kind = 1) := ⟨_, rfl⟩
  cases q
  · have e : stepsC c = 1 := by rw [stepsC, if_neg (of_decide_eq_false hq.symm)]
    repeat (first | refine g_seq ?_ | refine at_code ?_ | refine g_skip ?_ | refine g_block ?_ | refine g_exit rfl ?_ | refine g_cond_t rfl ?_ | refine g_cond_f rfl ?_)
    refine g_region ?_
    refine gl_f (by first | exact s_fieldAddr rfl (by rfl) (by infer_instance) (by decide) | exact s_fieldAddr_o rfl (by assumption) (by rfl) (by infer_instance) (by decide)) rfl rfl rfl ?_
    refine gl_r (by first | exact s_load_blk rfl (by repeat first|exact .del|apply Upd.there) (by rfl) | exact s_load1 rfl (fun w hw => peekB hw (by assumption) (by rfl))) rfl rfl rfl ?_
    refine gl_f ((s_eql rfl rfl).eq (congrArg Value.bool hq.symm)) rfl rfl rfl ?_
    refine gl_nil ?_
    repeat (first | refine g_seq ?_ | refine at_code ?_ | refine g_skip ?_ | refine g_block ?_ | refine g_exit rfl ?_ | refine g_cond_t rfl ?_ | refine g_cond_f rfl ?_)
    repeat (first | refine g_seq ?_ | refine at_code ?_ | refine g_skip ?_ | refine g_block ?_ | refine g_exit rfl ?_ | refine g_cond_t rfl ?_ | refine g_cond_f rfl ?_)
    refine g_region ?_
    refine gl_f (s_assign rfl) rfl rfl rfl ?_
    refine gl_nil ?_
    repeat (first | refine g_seq ?_ | refine at_code ?_ | refine g_skip ?_ | refine g_block ?_ | refine g_exit rfl ?_ | refine g_cond_t rfl ?_ | refine g_cond_f rfl ?_)
    refine g_ret ?_
    rw [e]
    exact at_end1 rfl rfl [] ⟨rfl, rfl⟩ (fun _ h => h.dropAll)
  · have e : stepsC c = c.s.length := by rw [stepsC, if_pos (of_decide_eq_true hq.symm)]
    repeat (first | refine g_seq ?_ | refine at_code ?_ | refine g_skip ?_ | refine g_block ?_ | refine g_exit rfl ?_ | refine g_cond_t rfl ?_ | refine g_cond_f rfl ?_)
    refine g_region ?_
    refine gl_f (by first | exact s_fieldAddr rfl (by rfl) (by infer_instance) (by decide) | exact s_fieldAddr_o rfl (by assumption) (by rfl) (by infer_instance) (by decide)) rfl rfl rfl ?_
    refine gl_r (by first | exact s_load_blk rfl (by repeat first|exact .del|apply Upd.there) (by rfl) | exact s_load1 rfl (fun w hw => peekB hw (by assumption) (by rfl))) rfl rfl rfl ?_
    refine gl_f ((s_eql rfl rfl).eq (congrArg Value.bool hq.symm)) rfl rfl rfl ?_
    refine gl_nil ?_
    repeat (first | refine g_seq ?_ | refine at_code ?_ | refine g_skip ?_ | refine g_block ?_ | refine g_exit rfl ?_ | refine g_cond_t rfl ?_ | refine g_cond_f rfl ?_)
    repeat (first | refine g_seq ?_ | refine at_code ?_ | refine g_skip ?_ | refine g_block ?_ | refine g_exit rfl ?_ | refine g_cond_t rfl ?_ | refine g_cond_f rfl ?_)
    refine g_region ?_
    refine gl_f (by first | exact s_fieldAddr rfl (by rfl) (by infer_instance) (by decide) | exact s_fieldAddr_o rfl (by assumption) (by rfl) (by infer_instance) (by decide)) rfl rfl rfl ?_
    refine gl_r (by first | exact s_load_blk rfl (by repeat first|exact .del|apply Upd.there) (by rfl) | exact s_load1 rfl (fun w hw => peekB hw (by assumption) (by rfl))) rfl rfl rfl ?_
    refine gl_f (s_len_str rfl) rfl rfl rfl ?_
    refine gl_f (s_assign rfl) rfl rfl rfl ?_
    refine gl_nil ?_
    repeat (first | refine g_seq ?_ | refine at_code ?_ | refine g_skip ?_ | refine g_block ?_ | refine g_exit rfl ?_ | refine g_cond_t rfl ?_ | refine g_cond_f rfl ?_)
    refine g_ret ?_
    rw [e]
    exact at_end1 rfl rfl [] ⟨rfl, rfl⟩ (fun _ h => h.dropAll)
def DoneP (l : List Fl) (c : Cl) (k : Nat) (a : Option Addr) (ac : Nat) (v : Value) (A : List As) : Prop := (k = 0 ∧ v = .slice a l.length ac ∧ A = []) ∨ (k ≠ 0 ∧ FlP (doneL l c k) v A)
set_option maxRecDepth 8000 in
set_option maxHeartbeats 2000000 in
theorem Done_ct (l : List Fl) (c : Cl) (k : Nat) (a : Option Addr) (ac : Nat) (hl : l.length ≤ 1000000000) (hk : c.kind = 1 ∨ c.kind = 2 ∨ c.kind = 3) (hks : k ≤ stepsC c) (hsz : ((getL l c.name).getD []).length + c.s.length ≤ 9223372036854775807) :
    Ct Try.prog 81 [.slice a l.length ac, rcA c, .int .i64 (k : Nat)] (fun h => RdS h a (flV l)) [] (DoneP l c k a ac) := by
  obtain ⟨kind, name, s⟩ := c
  simp only at hk hsz
  show Ct Try.prog 81 [.slice a l.length ac, .agg #[.int .i64 kind, B name, B s], .int .i64 (k : Nat)] _ _ _
  refine ct_enter 47 Try.func81 rfl rfl rfl ?_
  intro F hrd
  repeat (first | refine g_seq ?_ | refine at_code ?_ | refine g_skip ?_ | refine g_block ?_ | refine g_exit rfl ?_ | refine g_cond_t rfl ?_ | refine g_cond_f rfl ?_)
  refine g_region ?_
  refine gl_boxA rfl rfl ?_; intro g4
  refine gl_f (s_assign rfl) rfl rfl rfl ?_
  refine gl_nil ?_
  repeat (first | refine g_seq ?_ | refine at_code ?_ | refine g_skip ?_ | refine g_block ?_ | refine g_exit rfl ?_ | refine g_cond_t rfl ?_ | refine g_cond_f rfl ?_)
  obtain ⟨q, hq⟩ : ∃ q, q = decide ((k : Int) < 1) := ⟨_, rfl⟩
  cases q
  rotate_left
  · have hk0 : k = 0 := by have := of_decide_eq_true hq.symm; omega
    repeat (first | refine g_seq ?_ | refine at_code ?_ | refine g_skip ?_ | refine g_block ?_ | refine g_exit rfl ?_ | refine g_cond_t rfl ?_ | refine g_cond_f rfl ?_)
    refine g_region ?_
    refine gl_f (s_move rfl) rfl rfl rfl ?_
    refine gl_f ((s_lss rfl rfl).eq (congrArg Value.bool hq.symm)) rfl rfl rfl ?_
    refine gl_nil ?_
    repeat (first | refine g_seq ?_ | refine at_code ?_ | refine g_skip ?_ | refine g_block ?_ | refine g_exit rfl ?_ | refine g_cond_t rfl ?_ | refine g_cond_f rfl ?_)
    repeat (first | refine g_seq ?_ | refine at_code ?_ | refine g_skip ?_ | refine g_block ?_ | refine g_exit rfl ?_ | refine g_cond_t rfl ?_ | refine g_cond_f rfl ?_)
    refine g_region ?_
    refine gl_f (s_move rfl) rfl rfl rfl ?_
    refine gl_f (s_assign rfl) rfl rfl rfl ?_
    refine gl_nil ?_
    repeat (first | refine g_seq ?_ | refine at_code ?_ | refine g_skip ?_ | refine g_block ?_ | refine g_exit rfl ?_ | refine g_cond_t rfl ?_ | refine g_cond_f rfl ?_)
    refine g_ret ?_
    exact at_end1 rfl rfl [] (.inl ⟨hk0, rfl, rfl⟩) (fun _ h => h.dropAll)
  have hk0 : k ≠ 0 := by have := of_decide_eq_false hq.symm; omega
  repeat (first | refine g_seq ?_ | refine at_code ?_ | refine g_skip ?_ | refine g_block ?_ | refine g_exit rfl ?_ | refine g_cond_t rfl ?_ | refine g_cond_f rfl ?_)
  refine g_region ?_
  refine gl_f (s_move rfl) rfl rfl rfl ?_
  refine gl_f ((s_lss rfl rfl).eq (congrArg Value.bool hq.symm)) rfl rfl rfl ?_
  refine gl_nil ?_
  repeat (first | refine g_seq ?_ | refine at_code ?_ | refine g_skip ?_ | refine g_block ?_ | refine g_exit rfl ?_ | refine g_cond_t rfl ?_ | refine g_cond_f rfl ?_)
  rcases hk with rfl | rfl | rfl
  · have hks' : k ≤ s.length := by simpa [stepsC] using hks
    have e : doneL l ⟨1, name, s⟩ k = withL l name ((getL l name).getD [] ++ s.take k) := by simp [doneL, hk0]
    repeat (first | refine g_seq ?_ | refine at_code ?_ | refine g_skip ?_ | refine g_block ?_ | refine g_exit rfl ?_ | refine g_cond_t rfl ?_ | refine g_cond_f rfl ?_)
    refine g_region ?_
    refine gl_f (by first | exact s_fieldAddr rfl (by rfl) (by infer_instance) (by decide) | exact s_fieldAddr_o rfl (by assumption) (by rfl) (by infer_instance) (by decide)) rfl rfl rfl ?_
    refine gl_r (by first | exact s_load_blk rfl (by repeat first|exact .del|apply Upd.there) (by rfl) | exact s_load1 rfl (fun w hw => peekB hw (by assumption) (by rfl))) rfl rfl rfl ?_
    refine gl_nil ?_
    repeat (first | refine g_seq ?_ | refine at_code ?_ | refine g_skip ?_ | refine g_block ?_ | refine g_exit rfl ?_ | refine g_cond_t rfl ?_ | refine g_cond_f rfl ?_)
    refine g_region ?_
    refine gl_f (s_eql rfl rfl) rfl rfl rfl ?_
    refine gl_f (s_assign rfl) rfl rfl rfl ?_
    refine gl_nil ?_
    repeat (first | refine g_seq ?_ | refine at_code ?_ | refine g_skip ?_ | refine g_block ?_ | refine g_exit rfl ?_ | refine g_cond_t rfl ?_ | refine g_cond_f rfl ?_)
    refine g_region ?_
    refine gl_f (s_move rfl) rfl rfl rfl ?_
    refine gl_f (by first | exact s_fieldAddr rfl (by rfl) (by infer_instance) (by decide) | exact s_fieldAddr_o rfl (by assumption) (by rfl) (by infer_instance) (by decide)) rfl rfl rfl ?_
    refine gl_r (by first | exact s_load_blk rfl (by repeat first|exact .del|apply Upd.there) (by rfl) | exact s_load1 rfl (fun w hw => peekB hw (by assumption) (by rfl))) rfl rfl rfl ?_
    refine gl_callp rfl (Get_ct l name a ac (by omega)) (fun h hh _ => hrd.le hh) rfl ?_
    refine gl_f (s_move rfl) rfl rfl rfl ?_
    refine gl_f (s_extract rfl rfl) rfl rfl rfl ?_
    refine gl_f (s_extract rfl rfl) rfl rfl rfl ?_
    refine gl_f (s_assign rfl) rfl rfl rfl ?_
    refine gl_f (s_assign rfl) rfl rfl rfl ?_
    refine gl_nil ?_
    repeat (first | refine g_seq ?_ | refine at_code ?_ | refine g_skip ?_ | refine g_block ?_ | refine g_exit rfl ?_ | refine g_cond_t rfl ?_ | refine g_cond_f rfl ?_)
    repeat (first | refine g_seq ?_ | refine at_code ?_ | refine g_skip ?_ | refine g_block ?_ | refine g_exit rfl ?_ | refine g_cond_t rfl ?_ | refine g_cond_f rfl ?_)
    refine g_draw0 [2, 5] 12 rfl ?_
    refine ga_free 0 rfl (s_move rfl) rfl rfl rfl (by kernel_rfl) ?_
    refine ga_free 1 rfl (by first | exact s_fieldAddr rfl (by rfl) (by infer_instance) (by decide) | exact s_fieldAddr_o rfl (by assumption) (by rfl) (by infer_instance) (by decide)) rfl rfl rfl (by kernel_rfl) ?_
    (first | refine ga_read 2 rfl (by repeat first|exact .del|apply Upd.there) (s_load_blk rfl .del (by rfl)) rfl rfl rfl (by kernel_rfl) ?_ | refine ga_readF 2 rfl (s_load1 rfl (fun w hw => peekB hw (by assumption) (by rfl))) (by (first | exact fun _ h => h | (repeat first | exact sub_nil | refine sub_cons (by repeat first | exact List.Mem.head _ | apply List.Mem.tail) ?_))) rfl rfl rfl (by kernel_rfl) ?_)
    refine ga_free 3 rfl (s_move rfl) rfl rfl rfl (by kernel_rfl) ?_
    refine ga_free 4 rfl (by first | exact s_fieldAddr rfl (by rfl) (by infer_instance) (by decide) | exact s_fieldAddr_o rfl (by assumption) (by rfl) (by infer_instance) (by decide)) rfl rfl rfl (by kernel_rfl) ?_
    (first | refine ga_read 5 rfl (by repeat first|exact .del|apply Upd.there) (s_load_blk rfl .del (by rfl)) rfl rfl rfl (by kernel_rfl) ?_ | refine ga_readF 5 rfl (s_load1 rfl (fun w hw => peekB hw (by assumption) (by rfl))) (by (first | exact fun _ h => h | (repeat first | exact sub_nil | refine sub_cons (by repeat first | exact List.Mem.head _ | apply List.Mem.tail) ?_))) rfl rfl rfl (by kernel_rfl) ?_)
    refine ga_free 6 rfl (s_move rfl) rfl rfl rfl (by kernel_rfl) ?_
    refine ga_free 7 rfl ((s_slice_str rfl rfl rfl (by omega)).eq (v' := B (s.take k)) (by simp)) rfl rfl rfl (by kernel_rfl) ?_
    refine ga_free 8 rfl (s_add_str rfl rfl (by rw [List.length_take]; omega)) rfl rfl rfl (by kernel_rfl) ?_
    refine ga_free 9 rfl (s_build rfl (run_build_struct (places := [(0, 1), (1, 1)]) rfl (by intro f hf; simp at hf; rcases hf with rfl | rfl <;> rfl) rfl)) rfl rfl rfl (by kernel_rfl) ?_
    refine ga_one 10 rfl (by kernel_rfl) ?_
    refine gl_call _ rfl (with_ct l name ((getL l name).getD [] ++ s.take k) a ac hl) (fun w hw => hw) (fun h hh _ => hrd.le hh) rfl ?_; rw [← e]; rintro v A ⟨ra, rc, rfl, rfl⟩
    refine gl_nil ?_
    refine at_ga (.inr (by exact keeps_of (by (first | exact fun _ h => h | (repeat first | exact sub_nil | refine sub_cons (by repeat first | exact List.Mem.head _ | apply List.Mem.tail) ?_))))) ?_
    refine ga_free 11 rfl (s_assign rfl) rfl rfl rfl (by kernel_rfl) ?_
    refine ga_done (by kernel_rfl) ?_
    repeat (first | refine g_seq ?_ | refine at_code ?_ | refine g_skip ?_ | refine g_block ?_ | refine g_exit rfl ?_ | refine g_cond_t rfl ?_ | refine g_cond_f rfl ?_)
    refine g_ret ?_
    exact at_end1 rfl rfl [OwnF ra (doneL l ⟨1, name, s⟩ k) rc] (.inr ⟨hk0, ra, rc, rfl, rfl⟩) (fun w hw => Hp.left (R := [_]) hw)
  · have e : doneL l ⟨2, name, s⟩ k = withL l name s := by simp [doneL, hk0]
    repeat (first | refine g_seq ?_ | refine at_code ?_ | refine g_skip ?_ | refine g_block ?_ | refine g_exit rfl ?_ | refine g_cond_t rfl ?_ | refine g_cond_f rfl ?_)
    refine g_region ?_
    refine gl_f (by first | exact s_fieldAddr rfl (by rfl) (by infer_instance) (by decide) | exact s_fieldAddr_o rfl (by assumption) (by rfl) (by infer_instance) (by decide)) rfl rfl rfl ?_
    refine gl_r (by first | exact s_load_blk rfl (by repeat first|exact .del|apply Upd.there) (by rfl) | exact s_load1 rfl (fun w hw => peekB hw (by assumption) (by rfl))) rfl rfl rfl ?_
    refine gl_nil ?_
    repeat (first | refine g_seq ?_ | refine at_code ?_ | refine g_skip ?_ | refine g_block ?_ | refine g_exit rfl ?_ | refine g_cond_t rfl ?_ | refine g_cond_f rfl ?_)
    refine g_region ?_
    refine gl_f (s_eql rfl rfl) rfl rfl rfl ?_
    refine gl_f (s_assign rfl) rfl rfl rfl ?_
    refine gl_nil ?_
    repeat (first | refine g_seq ?_ | refine at_code ?_ | refine g_skip ?_ | refine g_block ?_ | refine g_exit rfl ?_ | refine g_cond_t rfl ?_ | refine g_cond_f rfl ?_)
    refine g_region ?_
    refine gl_f (s_eql rfl rfl) rfl rfl rfl ?_
    refine gl_f (s_assign rfl) rfl rfl rfl ?_
    refine gl_nil ?_
    repeat (first | refine g_seq ?_ | refine at_code ?_ | refine g_skip ?_ | refine g_block ?_ | refine g_exit rfl ?_ | refine g_cond_t rfl ?_ | refine g_cond_f rfl ?_)
    refine g_region ?_
    refine gl_f (s_move rfl) rfl rfl rfl ?_
    refine gl_f (by first | exact s_fieldAddr rfl (by rfl) (by infer_instance) (by decide) | exact s_fieldAddr_o rfl (by assumption) (by rfl) (by infer_instance) (by decide)) rfl rfl rfl ?_
    refine gl_r (by first | exact s_load_blk rfl (by repeat first|exact .del|apply Upd.there) (by rfl) | exact s_load1 rfl (fun w hw => peekB hw (by assumption) (by rfl))) rfl rfl rfl ?_
    refine gl_f (by first | exact s_fieldAddr rfl (by rfl) (by infer_instance) (by decide) | exact s_fieldAddr_o rfl (by assumption) (by rfl) (by infer_instance) (by decide)) rfl rfl rfl ?_
    refine gl_r (by first | exact s_load_blk rfl (by repeat first|exact .del|apply Upd.there) (by rfl) | exact s_load1 rfl (fun w hw => peekB hw (by assumption) (by rfl))) rfl rfl rfl ?_
    refine gl_f (s_build rfl (run_build_struct (places := [(0, 1), (1, 1)]) rfl (by intro f hf; simp at hf; rcases hf with rfl | rfl <;> rfl) rfl)) rfl rfl rfl ?_
    refine gl_call _ rfl (with_ct l name s a ac hl) (fun w hw => hw) (fun h hh _ => hrd.le hh) rfl ?_; rw [← e]; rintro v A ⟨ra, rc, rfl, rfl⟩
    refine gl_f (s_assign rfl) rfl rfl rfl ?_
    refine gl_nil ?_
    repeat (first | refine g_seq ?_ | refine at_code ?_ | refine g_skip ?_ | refine g_block ?_ | refine g_exit rfl ?_ | refine g_cond_t rfl ?_ | refine g_cond_f rfl ?_)
    refine g_ret ?_
    exact at_end1 rfl rfl [OwnF ra (doneL l ⟨2, name, s⟩ k) rc] (.inr ⟨hk0, ra, rc, rfl, rfl⟩) (fun w hw => Hp.left (R := [_]) hw)
  · have e : doneL l ⟨3, name, s⟩ k = withoutL l name := by simp [doneL, hk0]
    repeat (first | refine g_seq ?_ | refine at_code ?_ | refine g_skip ?_ | refine g_block ?_ | refine g_exit rfl ?_ | refine g_cond_t rfl ?_ | refine g_cond_f rfl ?_)
    refine g_region ?_
    refine gl_f (by first | exact s_fieldAddr rfl (by rfl) (by infer_instance) (by decide) | exact s_fieldAddr_o rfl (by assumption) (by rfl) (by infer_instance) (by decide)) rfl rfl rfl ?_
    refine gl_r (by first | exact s_load_blk rfl (by repeat first|exact .del|apply Upd.there) (by rfl) | exact s_load1 rfl (fun w hw => peekB hw (by assumption) (by rfl))) rfl rfl rfl ?_
    refine gl_nil ?_
    repeat (first | refine g_seq ?_ | refine at_code ?_ | refine g_skip ?_ | refine g_block ?_ | refine g_exit rfl ?_ | refine g_cond_t rfl ?_ | refine g_cond_f rfl ?_)
    refine g_region ?_
    refine gl_f (s_eql rfl rfl) rfl rfl rfl ?_
    refine gl_f (s_assign rfl) rfl rfl rfl ?_
    refine gl_nil ?_
    repeat (first | refine g_seq ?_ | refine at_code ?_ | refine g_skip ?_ | refine g_block ?_ | refine g_exit rfl ?_ | refine g_cond_t rfl ?_ | refine g_cond_f rfl ?_)
    refine g_region ?_
    refine gl_f (s_eql rfl rfl) rfl rfl rfl ?_
    refine gl_f (s_assign rfl) rfl rfl rfl ?_
    refine gl_nil ?_
    repeat (first | refine g_seq ?_ | refine at_code ?_ | refine g_skip ?_ | refine g_block ?_ | refine g_exit rfl ?_ | refine g_cond_t rfl ?_ | refine g_cond_f rfl ?_)
    refine g_region ?_
    refine gl_f (s_move rfl) rfl rfl rfl ?_
    refine gl_f (by first | exact s_fieldAddr rfl (by rfl) (by infer_instance) (by decide) | exact s_fieldAddr_o rfl (by assumption) (by rfl) (by infer_instance) (by decide)) rfl rfl rfl ?_
    refine gl_r (by first | exact s_load_blk rfl (by repeat first|exact .del|apply Upd.there) (by rfl) | exact s_load1 rfl (fun w hw => peekB hw (by assumption) (by rfl))) rfl rfl rfl ?_
    refine gl_call _ rfl (without_ct l name a ac hl) (fun w hw => hw) (fun h hh _ => hrd.le hh) rfl ?_; rw [← e]; rintro v A ⟨ra, rc, rfl, rfl⟩
    refine gl_f (s_assign rfl) rfl rfl rfl ?_
    refine gl_nil ?_
    repeat (first | refine g_seq ?_ | refine at_code ?_ | refine g_skip ?_ | refine g_block ?_ | refine g_exit rfl ?_ | refine g_cond_t rfl ?_ | refine g_cond_f rfl ?_)
    refine g_ret ?_
    exact at_end1 rfl rfl [OwnF ra (doneL l ⟨3, name, s⟩ k) rc] (.inr ⟨hk0, ra, rc, rfl, rfl⟩) (fun w hw => Hp.left (R := [_]) hw)

theorem used_take_succ {l : List Fl} {k : Nat} (hk : k < l.length) : usedL (l.take (k + 1)) = usedL (l.take k) + (l.getD k F0).2.length := by
  rw [take_get hk]; simp [usedL]
theorem used_take_le (l : List Fl) (k : Nat) : usedL (l.take k) ≤ usedL l := by
  have h : usedL l = usedL (l.take k) + usedL (l.drop k) := by
    unfold usedL
    rw [← List.sum_append, ← List.map_append, List.take_append_drop]
  omega
theorem rUsed_ct (l : List Fl) (a : Option Addr) (c : Nat) (hl : l.length ≤ 1000000000000) (hu : usedL l ≤ 9223372036854775807) : Pu Try.prog 46 [.slice a l.length c] (fun h => RdS h a (flV l)) (.int .i64 (usedL l : Nat)) := by
  refine ct_enter 20 Try.func46 rfl rfl rfl ?_
  intro F hrd
  repeat (first | refine g_seq ?_ | refine at_code ?_ | refine g_skip ?_ | refine g_block ?_ | refine g_exit rfl ?_ | refine g_cond_t rfl ?_ | refine g_cond_f rfl ?_)
  refine g_region ?_
  refine gl_f (s_assign rfl) rfl rfl rfl ?_
  refine gl_nil ?_
  repeat (first | refine g_seq ?_ | refine at_code ?_ | refine g_skip ?_ | refine g_block ?_ | refine g_exit rfl ?_ | refine g_cond_t rfl ?_ | refine g_cond_f rfl ?_)
  refine g_region ?_
  refine gl_f (s_assign rfl) rfl rfl rfl ?_
  refine gl_nil ?_
  repeat (first | refine g_seq ?_ | refine at_code ?_ | refine g_skip ?_ | refine g_block ?_ | refine g_exit rfl ?_ | refine g_cond_t rfl ?_ | refine g_cond_f rfl ?_)
  refine g_region ?_
  refine gl_f (s_assign rfl) rfl rfl rfl ?_
  refine gl_nil ?_
  repeat (first | refine g_seq ?_ | refine at_code ?_ | refine g_skip ?_ | refine g_block ?_ | refine g_exit rfl ?_ | refine g_cond_t rfl ?_ | refine g_cond_f rfl ?_)
  refine g_loop (ι := Nat) (fun k => k ≤ l.length) (fun k => [(0, .slice a l.length c), (3, .int .i64 (usedL (l.take k) : Nat)), (4, .int .i64 (k : Nat))]) (fun _ => []) (fun k => l.length - k) 0 (by omega) ?_ ?_ ?_
  · (repeat (first | exact Sub.nil _ | refine Sub.cons rfl ?_))
  · intro w hw; exact hw
  · intro k hk
    repeat (first | refine g_seq ?_ | refine at_code ?_ | refine g_skip ?_ | refine g_block ?_ | refine g_exit rfl ?_ | refine g_cond_t rfl ?_ | refine g_cond_f rfl ?_)
    refine g_region ?_
    refine gl_f (s_move rfl) rfl rfl rfl ?_
    refine gl_f (s_move rfl) rfl rfl rfl ?_
    refine gl_f (s_len_sl rfl) rfl rfl rfl ?_
    refine gl_f (s_lss rfl rfl) rfl rfl rfl ?_
    refine gl_nil ?_
    repeat (first | refine g_seq ?_ | refine at_code ?_ | refine g_skip ?_ | refine g_block ?_ | refine g_exit rfl ?_ | refine g_cond_t rfl ?_ | refine g_cond_f rfl ?_)
    refine g_cond rfl (fun h => ?_) (fun h => ?_)
    · have hk' : k < l.length := by simp at h; omega
      have hsome := rdF_some hrd hk'
      have e1 := used_take_succ hk'
      have e2 := used_take_le l (k + 1)
      repeat (first | refine g_seq ?_ | refine at_code ?_ | refine g_skip ?_ | refine g_block ?_ | refine g_exit rfl ?_ | refine g_cond_t rfl ?_ | refine g_cond_f rfl ?_)
      refine g_region ?_
      refine gl_f (s_move rfl) rfl rfl rfl ?_
      refine gl_f (s_move rfl) rfl rfl rfl ?_
      refine gl_f (s_move rfl) rfl rfl rfl ?_
      refine gl_f (s_indexAddr rfl (by assumption) rfl (by omega)) rfl rfl rfl ?_
      refine gl_f (by first | exact s_fieldAddr rfl (by rfl) (by infer_instance) (by decide) | exact s_fieldAddr_o rfl (by assumption) (by rfl) (by infer_instance) (by decide)) rfl rfl rfl ?_
      refine gl_r (s_load1 rfl (fun w hw => rdF1 hw hrd (i := k) (by omega) hk')) rfl rfl rfl ?_
      refine gl_f (s_len_str rfl) rfl rfl rfl ?_
      refine gl_f ((s_add_i64 rfl rfl (by omega)).eq (v' := .int .i64 (usedL (l.take (k + 1)) : Nat)) (by rw [e1]; congr 1)) rfl rfl rfl ?_
      refine gl_f (s_assign rfl) rfl rfl rfl ?_
      refine gl_nil ?_
      repeat (first | refine g_seq ?_ | refine at_code ?_ | refine g_skip ?_ | refine g_block ?_ | refine g_exit rfl ?_ | refine g_cond_t rfl ?_ | refine g_cond_f rfl ?_)
      repeat (first | refine g_seq ?_ | refine at_code ?_ | refine g_skip ?_ | refine g_block ?_ | refine g_exit rfl ?_ | refine g_cond_t rfl ?_ | refine g_cond_f rfl ?_)
      refine g_region ?_
      refine gl_f (s_move rfl) rfl rfl rfl ?_
      refine gl_f (s_add_i64 rfl rfl (by omega)) rfl rfl rfl ?_
      refine gl_f (s_assign rfl) rfl rfl rfl ?_
      refine gl_nil ?_
      repeat (first | refine g_seq ?_ | refine at_code ?_ | refine g_skip ?_ | refine g_block ?_ | refine g_exit rfl ?_ | refine g_cond_t rfl ?_ | refine g_cond_f rfl ?_)
      refine at_next (k + 1) (by omega) (by omega) ?_ ?_
      · (repeat (first | exact Sub.nil _ | refine Sub.cons rfl ?_))
      · intro w hw; exact hw
    · have hkl : k = l.length := by simp at h; omega
      subst hkl
      rw [List.take_length]
      repeat (first | refine g_seq ?_ | refine at_code ?_ | refine g_skip ?_ | refine g_block ?_ | refine g_exit rfl ?_ | refine g_cond_t rfl ?_ | refine g_cond_f rfl ?_)
      repeat (first | refine g_seq ?_ | refine at_code ?_ | refine g_skip ?_ | refine g_block ?_ | refine g_exit rfl ?_ | refine g_cond_t rfl ?_ | refine g_cond_f rfl ?_)
      refine g_region ?_
      refine gl_f (s_move rfl) rfl rfl rfl ?_
      refine gl_f (s_assign rfl) rfl rfl rfl ?_
      refine gl_nil ?_
      repeat (first | refine g_seq ?_ | refine at_code ?_ | refine g_skip ?_ | refine g_block ?_ | refine g_exit rfl ?_ | refine g_cond_t rfl ?_ | refine g_cond_f rfl ?_)
      refine g_ret ?_
      exact at_end1 rfl rfl [] ⟨rfl, rfl⟩ (fun _ h => h)

/-- Off -/
theorem rOff_ct (x : DM) (r : RA) : Pu Try.prog 48 [Ptr r.X] (fun h => h r.X = some (refO x r)) (.bool (offD x)) := by
  refine ct_enter 14 Try.func48 rfl rfl rfl ?_
  intro F hX
  obtain ⟨q1, hq1⟩ : ∃ q, q = x.fused := ⟨_, rfl⟩
  obtain ⟨q2, hq2⟩ : ∃ q, q = decide (x.left < 1) := ⟨_, rfl⟩
  have e : offD x = (q1 && q2) := by rw [offD, hq1, hq2]
  rw [e]
  rw [refO, ← hq1] at hX
  clear e
  cases q1
  · repeat (first | refine g_seq ?_ | refine at_code ?_ | refine g_skip ?_ | refine g_block ?_ | refine g_exit rfl ?_ | refine g_cond_t rfl ?_ | refine g_cond_f rfl ?_)
    refine g_region ?_
    refine gl_f (s_assign rfl) rfl rfl rfl ?_
    refine gl_nil ?_
    repeat (first | refine g_seq ?_ | refine at_code ?_ | refine g_skip ?_ | refine g_block ?_ | refine g_exit rfl ?_ | refine g_cond_t rfl ?_ | refine g_cond_f rfl ?_)
    refine g_region ?_
    refine gl_f (s_move rfl) rfl rfl rfl ?_
    refine gl_f (s_nilCheck rfl) rfl rfl rfl ?_
    refine gl_f (by first | exact s_fieldAddr rfl (by rfl) (by infer_instance) (by decide) | exact s_fieldAddr_o rfl (by assumption) (by rfl) (by infer_instance) (by decide)) rfl rfl rfl ?_
    refine gl_r (by first | exact s_load_blk rfl (by repeat first|exact .del|apply Upd.there) (by rfl) | exact s_load1 rfl (fun w hw => peekB hw (by assumption) (by rfl))) rfl rfl rfl ?_
    refine gl_f (s_move rfl) rfl rfl rfl ?_
    (first | refine gl_guard_no rfl rfl rfl rfl rfl rfl rfl ?_ | refine gl_guard_un rfl rfl rfl rfl rfl rfl ?_ | (refine gl_guard_yes rfl rfl rfl ?_; refine gl_f (s_move rfl) rfl rfl rfl ?_))
    (first | refine gl_guard_no rfl rfl rfl rfl rfl rfl rfl ?_ | refine gl_guard_un rfl rfl rfl rfl rfl rfl ?_ | (refine gl_guard_yes rfl rfl rfl ?_; refine gl_f (s_nilCheck rfl) rfl rfl rfl ?_))
    (first | refine gl_guard_no rfl rfl rfl rfl rfl rfl rfl ?_ | refine gl_guard_un rfl rfl rfl rfl rfl rfl ?_ | (refine gl_guard_yes rfl rfl rfl ?_; refine gl_f (by first | exact s_fieldAddr rfl (by rfl) (by infer_instance) (by decide) | exact s_fieldAddr_o rfl (by assumption) (by rfl) (by infer_instance) (by decide)) rfl rfl rfl ?_))
    (first | refine gl_guard_no rfl rfl rfl rfl rfl rfl rfl ?_ | refine gl_guard_un rfl rfl rfl rfl rfl rfl ?_ | (refine gl_guard_yes rfl rfl rfl ?_; refine gl_r (by first | exact s_load_blk rfl (by repeat first|exact .del|apply Upd.there) (by rfl) | exact s_load1 rfl (fun w hw => peekB hw (by assumption) (by rfl))) rfl rfl rfl ?_))
    (first | refine gl_guard_no rfl rfl rfl rfl rfl rfl rfl ?_ | refine gl_guard_un rfl rfl rfl rfl rfl rfl ?_ | (refine gl_guard_yes rfl rfl rfl ?_; refine gl_f (s_lss rfl rfl) rfl rfl rfl ?_))
    refine gl_f (by first | exact s_pick_t rfl rfl | exact s_pick_f rfl rfl) rfl rfl rfl ?_
    refine gl_f (s_assign rfl) rfl rfl rfl ?_
    refine gl_nil ?_
    repeat (first | refine g_seq ?_ | refine at_code ?_ | refine g_skip ?_ | refine g_block ?_ | refine g_exit rfl ?_ | refine g_cond_t rfl ?_ | refine g_cond_f rfl ?_)
    refine g_ret ?_
    exact at_end1 rfl rfl [] ⟨rfl, rfl⟩ (fun _ h => h)
  · repeat (first | refine g_seq ?_ | refine at_code ?_ | refine g_skip ?_ | refine g_block ?_ | refine g_exit rfl ?_ | refine g_cond_t rfl ?_ | refine g_cond_f rfl ?_)
    refine g_region ?_
    refine gl_f (s_assign rfl) rfl rfl rfl ?_
    refine gl_nil ?_
    repeat (first | refine g_seq ?_ | refine at_code ?_ | refine g_skip ?_ | refine g_block ?_ | refine g_exit rfl ?_ | refine g_cond_t rfl ?_ | refine g_cond_f rfl ?_)
    refine g_region ?_
    refine gl_f (s_move rfl) rfl rfl rfl ?_
    refine gl_f (s_nilCheck rfl) rfl rfl rfl ?_
    refine gl_f (by first | exact s_fieldAddr rfl (by rfl) (by infer_instance) (by decide) | exact s_fieldAddr_o rfl (by assumption) (by rfl) (by infer_instance) (by decide)) rfl rfl rfl ?_
    refine gl_r (by first | exact s_load_blk rfl (by repeat first|exact .del|apply Upd.there) (by rfl) | exact s_load1 rfl (fun w hw => peekB hw (by assumption) (by rfl))) rfl rfl rfl ?_
    refine gl_f (s_move rfl) rfl rfl rfl ?_
    (first | refine gl_guard_no rfl rfl rfl rfl rfl rfl rfl ?_ | refine gl_guard_un rfl rfl rfl rfl rfl rfl ?_ | (refine gl_guard_yes rfl rfl rfl ?_; refine gl_f (s_move rfl) rfl rfl rfl ?_))
    (first | refine gl_guard_no rfl rfl rfl rfl rfl rfl rfl ?_ | refine gl_guard_un rfl rfl rfl rfl rfl rfl ?_ | (refine gl_guard_yes rfl rfl rfl ?_; refine gl_f (s_nilCheck rfl) rfl rfl rfl ?_))
    (first | refine gl_guard_no rfl rfl rfl rfl rfl rfl rfl ?_ | refine gl_guard_un rfl rfl rfl rfl rfl rfl ?_ | (refine gl_guard_yes rfl rfl rfl ?_; refine gl_f (by first | exact s_fieldAddr rfl (by rfl) (by infer_instance) (by decide) | exact s_fieldAddr_o rfl (by assumption) (by rfl) (by infer_instance) (by decide)) rfl rfl rfl ?_))
    (first | refine gl_guard_no rfl rfl rfl rfl rfl rfl rfl ?_ | refine gl_guard_un rfl rfl rfl rfl rfl rfl ?_ | (refine gl_guard_yes rfl rfl rfl ?_; refine gl_r (by first | exact s_load_blk rfl (by repeat first|exact .del|apply Upd.there) (by rfl) | exact s_load1 rfl (fun w hw => peekB hw (by assumption) (by rfl))) rfl rfl rfl ?_))
    (first | refine gl_guard_no rfl rfl rfl rfl rfl rfl rfl ?_ | refine gl_guard_un rfl rfl rfl rfl rfl rfl ?_ | (refine gl_guard_yes rfl rfl rfl ?_; refine gl_f ((s_lss rfl rfl).eq (congrArg Value.bool hq2.symm)) rfl rfl rfl ?_))
    refine gl_f (by first | exact s_pick_t rfl rfl | exact s_pick_f rfl rfl) rfl rfl rfl ?_
    refine gl_f (s_assign rfl) rfl rfl rfl ?_
    refine gl_nil ?_
    repeat (first | refine g_seq ?_ | refine at_code ?_ | refine g_skip ?_ | refine g_block ?_ | refine g_exit rfl ?_ | refine g_cond_t rfl ?_ | refine g_cond_f rfl ?_)
    refine g_ret ?_
    exact at_end1 rfl rfl [] ⟨rfl, rfl⟩ (fun _ h => h)
theorem spendD_ref (x : DM) (r : RA) : refO (spendD x) r = .cells #[.int .i64 x.cap, .slice r.sa x.seen.length r.sc, .slice r.la x.lasts.length r.lc, .slice r.pa x.pend.length r.pc, .bool x.fused, .int .i64 (if x.fused = true then x.left - 1 else x.left)] 75 := by
  unfold spendD; split <;> rename_i h <;> simp [h]
/-- spend -/
theorem rSpend_ct (x : DM) (r : RA) (hl : x.fused = true → -9223372036854775808 < x.left ∧ x.left ≤ 9223372036854775807) : Ct Try.prog 83 [Ptr r.X] (fun _ => True) [.blk r.X (refO x r)] (fun v A => v = .tuple #[] ∧ A = [.blk r.X (refO (spendD x) r)]) := by
  refine ct_enter 13 Try.func83 rfl rfl rfl ?_
  intro F _
  rw [spendD_ref]
  obtain ⟨q1, hq1⟩ : ∃ q, q = x.fused := ⟨_, rfl⟩
  rw [refO, ← hq1]
  cases q1
  · repeat (first | refine g_seq ?_ | refine at_code ?_ | refine g_skip ?_ | refine g_block ?_ | refine g_exit rfl ?_ | refine g_cond_t rfl ?_ | refine g_cond_f rfl ?_)
    refine g_region ?_
    refine gl_f (s_move rfl) rfl rfl rfl ?_
    refine gl_f (s_nilCheck rfl) rfl rfl rfl ?_
    refine gl_f (by first | exact s_fieldAddr rfl (by rfl) (by infer_instance) (by decide) | exact s_fieldAddr_o rfl (by assumption) (by rfl) (by infer_instance) (by decide)) rfl rfl rfl ?_
    refine gl_r (by first | exact s_load_blk rfl (by repeat first|exact .del|apply Upd.there) (by rfl) | exact s_load1 rfl (fun w hw => peekB hw (by assumption) (by rfl))) rfl rfl rfl ?_
    refine gl_nil ?_
    repeat (first | refine g_seq ?_ | refine at_code ?_ | refine g_skip ?_ | refine g_block ?_ | refine g_exit rfl ?_ | refine g_cond_t rfl ?_ | refine g_cond_f rfl ?_)
    exact at_end0 rfl [_] ⟨rfl, rfl⟩ (fun _ h => h)
  · have hl := hl hq1.symm
    repeat (first | refine g_seq ?_ | refine at_code ?_ | refine g_skip ?_ | refine g_block ?_ | refine g_exit rfl ?_ | refine g_cond_t rfl ?_ | refine g_cond_f rfl ?_)
    refine g_region ?_
    refine gl_f (s_move rfl) rfl rfl rfl ?_
    refine gl_f (s_nilCheck rfl) rfl rfl rfl ?_
    refine gl_f (by first | exact s_fieldAddr rfl (by rfl) (by infer_instance) (by decide) | exact s_fieldAddr_o rfl (by assumption) (by rfl) (by infer_instance) (by decide)) rfl rfl rfl ?_
    refine gl_r (by first | exact s_load_blk rfl (by repeat first|exact .del|apply Upd.there) (by rfl) | exact s_load1 rfl (fun w hw => peekB hw (by assumption) (by rfl))) rfl rfl rfl ?_
    refine gl_nil ?_
    repeat (first | refine g_seq ?_ | refine at_code ?_ | refine g_skip ?_ | refine g_block ?_ | refine g_exit rfl ?_ | refine g_cond_t rfl ?_ | refine g_cond_f rfl ?_)
    refine g_region ?_
    refine gl_f (s_move rfl) rfl rfl rfl ?_
    refine gl_f (s_nilCheck rfl) rfl rfl rfl ?_
    refine gl_f (by first | exact s_fieldAddr rfl (by rfl) (by infer_instance) (by decide) | exact s_fieldAddr_o rfl (by assumption) (by rfl) (by infer_instance) (by decide)) rfl rfl rfl ?_
    refine gl_r (by first | exact s_load_blk rfl (by repeat first|exact .del|apply Upd.there) (by rfl) | exact s_load1 rfl (fun w hw => peekB hw (by assumption) (by rfl))) rfl rfl rfl ?_
    refine gl_f (s_sub_i64 rfl rfl (by omega)) rfl rfl rfl ?_
    refine gl_f (s_nilCheck rfl) rfl rfl rfl ?_
    refine gl_f (by first | exact s_fieldAddr rfl (by rfl) (by infer_instance) (by decide) | exact s_fieldAddr_o rfl (by assumption) (by rfl) (by infer_instance) (by decide)) rfl rfl rfl ?_
    (first | refine gl_store_blkC (pre := [_, _, _, _, _]) (post := []) rfl rfl (by repeat first|exact .here|apply Upd.there) (by rfl) (by rfl) (by rfl) ?_ | refine gl_store_blk rfl rfl (by repeat first|exact .here|apply Upd.there) (by rfl) (by (intro q hq; simp [Value.cells] at hq; first | (subst hq; rfl) | (rcases hq with rfl | rfl | rfl | rfl | rfl | rfl | rfl | rfl <;> rfl) | (rcases hq with rfl | rfl | rfl | rfl | rfl | rfl | rfl <;> rfl) | (rcases hq with rfl | rfl | rfl | rfl | rfl | rfl <;> rfl) | (rcases hq with rfl | rfl | rfl | rfl | rfl <;> rfl) | (rcases hq with rfl | rfl | rfl | rfl <;> rfl) | (rcases hq with rfl | rfl | rfl <;> rfl) | (rcases hq with rfl | rfl <;> rfl))) (by rfl) ?_)
    refine gl_nil ?_
    repeat (first | refine g_seq ?_ | refine at_code ?_ | refine g_skip ?_ | refine g_block ?_ | refine g_exit rfl ?_ | refine g_cond_t rfl ?_ | refine g_cond_f rfl ?_)
    exact at_end0 rfl [_] ⟨rfl, rfl⟩ (fun _ h => h)
end Go.Proofs.Ytolgclfbllcjhaa
