/- Tail: Conf, ConfAt, Compact. -/
import Derived.Test.YtodcghipfolejaaCU9
namespace Go.Proofs.Ytodcghipfolejaa
open Go Go.Sl
set_option linter.unusedVariables false
set_option linter.unusedSimpArgs false

theorem lastI_rng {g : LM} (hf : g.fit) : 0 ≤ lastI g ∧ lastI g ≤ 18446744073709551615 := by
  have h1 := hf.lo
  have h2 := hf.hi
  have h3 := hf.len
  unfold lastI; omega
theorem Conf_ct (g : LM) (hf : g.fit) (hd : g.dat) : Ct Try.prog 54 [g.v] g.ok [] (MemP (confAt g (lastI g))) := by
  refine ct_enter 10 Try.func54 rfl rfl rfl ?_
  intro F hr
  repeat (first | refine g_seq ?_ | refine at_code ?_ | refine g_skip ?_ | refine g_block ?_ | refine g_exit rfl ?_ | refine g_cond_t rfl ?_ | refine g_cond_f rfl ?_)
  refine g_region ?_
  refine gl_boxA rfl rfl ?_; intro g1
  refine gl_f (s_assign rfl) rfl rfl rfl ?_
  refine gl_f (s_assign rfl) rfl rfl rfl ?_
  refine gl_nil ?_
  repeat (first | refine g_seq ?_ | refine at_code ?_ | refine g_skip ?_ | refine g_block ?_ | refine g_exit rfl ?_ | refine g_cond_t rfl ?_ | refine g_cond_f rfl ?_)
  refine g_draw0 ([0, 1], [0, 0, 2, 7, 15, 15, 63, 127], [2, 3]) 8 rfl ?_
  (first | refine ga_read 0 rfl (by repeat first|exact .del|apply Upd.there) (s_load_blkW rfl .del (by rfl)) rfl rfl rfl (by kernel_rfl) ?_ | refine ga_read 0 rfl (by repeat first|exact .del|apply Upd.there) (s_load_blkN rfl .del (by rfl)) rfl rfl rfl (by kernel_rfl) ?_ | refine ga_readF 0 rfl (s_loadN rfl (fun w hw => peekBN hw (by assumption)) (by rfl)) (by (first | exact fun _ h => h | (repeat first | exact sub_nil | refine sub_cons (by repeat first | exact List.Mem.head _ | apply List.Mem.tail) ?_))) rfl rfl rfl (by kernel_rfl) ?_)
  (first | refine ga_read 1 rfl (by repeat first|exact .del|apply Upd.there) (s_load_blkW rfl .del (by rfl)) rfl rfl rfl (by kernel_rfl) ?_ | refine ga_read 1 rfl (by repeat first|exact .del|apply Upd.there) (s_load_blkN rfl .del (by rfl)) rfl rfl rfl (by kernel_rfl) ?_ | refine ga_readF 1 rfl (s_loadN rfl (fun w hw => peekBN hw (by assumption)) (by rfl)) (by (first | exact fun _ h => h | (repeat first | exact sub_nil | refine sub_cons (by repeat first | exact List.Mem.head _ | apply List.Mem.tail) ?_))) rfl rfl rfl (by kernel_rfl) ?_)
  refine ga_one 2 rfl (by kernel_rfl) ?_
  refine gl_callp rfl (end_ct g hf) (fun _ _ _ => trivial) rfl ?_
  refine gl_nil ?_
  refine at_ga (.inr (by exact keeps_of (by (first | exact fun _ h => h | (repeat first | exact sub_nil | refine sub_cons (by repeat first | exact List.Mem.head _ | apply List.Mem.tail) ?_))))) ?_
  refine ga_one 3 rfl (by kernel_rfl) ?_
  refine gl_call _ rfl (tailMembers_ct g (lastI g) hf hd (lastI_rng hf)) (fun w hw => hw) (fun h hh _ => hr.le hh) rfl ?_; rintro v A ⟨a, c, rfl, rfl⟩
  refine gl_nil ?_
  refine at_ga (.inl (by kernel_rfl)) ?_
  refine ga_free 4 rfl (s_extract rfl rfl) rfl rfl rfl (by kernel_rfl) ?_
  refine ga_free 5 rfl (s_extract rfl rfl) rfl rfl rfl (by kernel_rfl) ?_
  refine ga_free 6 rfl (s_assign rfl) rfl rfl rfl (by kernel_rfl) ?_
  refine ga_free 7 rfl (s_assign rfl) rfl rfl rfl (by kernel_rfl) ?_
  refine ga_done (by kernel_rfl) ?_
  repeat (first | refine g_seq ?_ | refine at_code ?_ | refine g_skip ?_ | refine g_block ?_ | refine g_exit rfl ?_ | refine g_cond_t rfl ?_ | refine g_cond_f rfl ?_)
  refine g_ret ?_
  exact at_end2 rfl rfl rfl [OwnC a (confAt g (lastI g)).1 c] ⟨a, c, rfl, rfl⟩ (fun w hw => Hp.left (R := [_]) hw)
theorem ConfAt_ct (g : LM) (i : Int) (hf : g.fit) (hd : g.dat) (hi : 0 ≤ i ∧ i ≤ 18446744073709551615) : Ct Try.prog 50 [g.v, .int .u64 i] g.ok [] (LsP (confAt g i).1) := by
  refine ct_enter 14 Try.func50 rfl rfl rfl ?_
  intro F hr
  repeat (first | refine g_seq ?_ | refine at_code ?_ | refine g_skip ?_ | refine g_block ?_ | refine g_exit rfl ?_ | refine g_cond_t rfl ?_ | refine g_cond_f rfl ?_)
  refine g_region ?_
  refine gl_boxA rfl rfl ?_; intro g2
  refine gl_f (s_assign rfl) rfl rfl rfl ?_
  refine gl_nil ?_
  repeat (first | refine g_seq ?_ | refine at_code ?_ | refine g_skip ?_ | refine g_block ?_ | refine g_exit rfl ?_ | refine g_cond_t rfl ?_ | refine g_cond_f rfl ?_)
  refine g_region ?_
  refine gl_r (by first | exact s_load_blkW rfl (by repeat first|exact .del|apply Upd.there) (by rfl) | exact s_load_blkN rfl (by repeat first|exact .del|apply Upd.there) (by rfl) | exact s_loadN rfl (fun w hw => peekBN hw (by assumption)) (by rfl)) rfl rfl rfl ?_
  refine gl_f (s_move rfl) rfl rfl rfl ?_
  refine gl_call _ rfl (tailMembers_ct g i hf hd hi) (fun w hw => hw) (fun h hh _ => hr.le hh) rfl ?_; rintro v A ⟨a, c, rfl, rfl⟩
  refine gl_f (s_move rfl) rfl rfl rfl ?_
  refine gl_f (s_extract rfl rfl) rfl rfl rfl ?_
  refine gl_f (s_extract rfl rfl) rfl rfl rfl ?_
  refine gl_f (s_assign rfl) rfl rfl rfl ?_
  refine gl_f (s_assign rfl) rfl rfl rfl ?_
  refine gl_nil ?_
  repeat (first | refine g_seq ?_ | refine at_code ?_ | refine g_skip ?_ | refine g_block ?_ | refine g_exit rfl ?_ | refine g_cond_t rfl ?_ | refine g_cond_f rfl ?_)
  repeat (first | refine g_seq ?_ | refine at_code ?_ | refine g_skip ?_ | refine g_block ?_ | refine g_exit rfl ?_ | refine g_cond_t rfl ?_ | refine g_cond_f rfl ?_)
  refine g_region ?_
  refine gl_f (s_move rfl) rfl rfl rfl ?_
  refine gl_f (s_assign rfl) rfl rfl rfl ?_
  refine gl_nil ?_
  repeat (first | refine g_seq ?_ | refine at_code ?_ | refine g_skip ?_ | refine g_block ?_ | refine g_exit rfl ?_ | refine g_cond_t rfl ?_ | refine g_cond_f rfl ?_)
  refine g_ret ?_
  exact at_end1 rfl rfl [OwnC a (confAt g i).1 c] ⟨a, c, rfl, rfl⟩ (fun w hw => Hp.left (R := [_]) hw)
end Go.Proofs.Ytodcghipfolejaa
