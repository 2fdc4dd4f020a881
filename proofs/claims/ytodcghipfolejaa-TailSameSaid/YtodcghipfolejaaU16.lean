/- Tail: what was merged stands in both alike. -/
import Derived.Test.YtodcghipfolejaaU16m
namespace Go.Proofs.Ytodcghipfolejaa
open Go Go.Sl
set_option linter.unusedVariables false
set_option linter.unusedSimpArgs false

theorem wrap_next (prev : Int) (hp : 0 ≤ prev ∧ prev ≤ 18446744073709551615) : ∃ f, IntKind.u64.wrap (prev + 1) = f ∧ 0 ≤ f ∧ f ≤ 18446744073709551615 ∧ (f = prev + 1 ∨ f = 0 ∧ prev = 18446744073709551615) := by
  refine ⟨_, rfl, ?_⟩
  rw [IntKind.wrap_u64]; omega
set_option maxRecDepth 8000 in
set_option maxHeartbeats 8000000 in
theorem TailSame_ct (g h : LM) (prev most : Int) (h0 : 0 ≤ g.base) (hcap : g.l.length ≤ g.lc) (hc : g.conf.length ≤ 9223372036854775807) (hl : g.l.length ≤ 9223372036854775807) (k0 : 0 ≤ h.base) (kcap : h.l.length ≤ h.lc) (kc : h.conf.length ≤ 9223372036854775807) (kl : h.l.length ≤ 9223372036854775807) (hp : 0 ≤ prev ∧ prev ≤ 18446744073709551615) (hm : -9223372036854775808 ≤ most ∧ most ≤ 9223372036854775807) : Pu Try.prog 12 [g.v, h.v, .int .u64 prev, .int .i64 most] (fun w => g.ok w ∧ h.ok w) (.bool true) := by
  refine ct_enter 173 Try.func12 rfl rfl rfl ?_
  intro F hr0
  obtain ⟨hr, kr⟩ := hr0
  repeat (first | refine g_seq ?_ | refine at_code ?_ | refine g_skip ?_ | refine g_block ?_ | refine g_exit rfl ?_ | refine g_cond_t rfl ?_ | refine g_cond_f rfl ?_)
  refine g_region ?_
  refine gl_boxA rfl rfl ?_; intro g4
  refine gl_boxA rfl rfl ?_; intro g5
  refine gl_f (s_assign rfl) rfl rfl rfl ?_
  refine gl_nil ?_
  repeat (first | refine g_seq ?_ | refine at_code ?_ | refine g_skip ?_ | refine g_block ?_ | refine g_exit rfl ?_ | refine g_cond_t rfl ?_ | refine g_cond_f rfl ?_)
  refine g_region ?_
  refine gl_callp rfl talive_ct (fun _ _ _ => trivial) rfl ?_
  refine gl_f (s_not rfl) rfl rfl rfl ?_
  refine gl_nil ?_
  repeat (first | refine g_seq ?_ | refine at_code ?_ | refine g_skip ?_ | refine g_block ?_ | refine g_exit rfl ?_ | refine g_cond_t rfl ?_ | refine g_cond_f rfl ?_)
  obtain ⟨q, hq⟩ : ∃ q, q = right60 g := ⟨_, rfl⟩
  obtain ⟨q2, hq2⟩ : ∃ q, q = right60 h := ⟨_, rfl⟩
  cases q
  · repeat (first | refine g_seq ?_ | refine at_code ?_ | refine g_skip ?_ | refine g_block ?_ | refine g_exit rfl ?_ | refine g_cond_t rfl ?_ | refine g_cond_f rfl ?_)
    refine g_region ?_
    refine gl_r (by first | exact s_load_blkW rfl (by repeat first|exact .del|apply Upd.there) (by rfl) | exact s_load_blkN rfl (by repeat first|exact .del|apply Upd.there) (by rfl)) rfl rfl rfl ?_
    refine gl_callp rfl (right_ct g hc hl) (fun h hh _ => hr.le hh) rfl ?_; rw [← hq]
    refine gl_f (s_not rfl) rfl rfl rfl ?_
    refine gl_f (s_move rfl) rfl rfl rfl ?_
    (first | refine gl_guard_no rfl rfl rfl rfl rfl rfl rfl ?_ | refine gl_guard_un rfl rfl rfl rfl rfl rfl ?_ | (refine gl_guard_yes rfl rfl rfl ?_; refine gl_r (by first | exact s_load_blkW rfl (by repeat first|exact .del|apply Upd.there) (by rfl) | exact s_load_blkN rfl (by repeat first|exact .del|apply Upd.there) (by rfl)) rfl rfl rfl ?_))
    (first | refine gl_guard_no rfl rfl rfl rfl rfl rfl rfl ?_ | refine gl_guard_un rfl rfl rfl rfl rfl rfl ?_ | (refine gl_guard_yes rfl rfl rfl ?_; fail))
    (first | refine gl_guard_no rfl rfl rfl rfl rfl rfl rfl ?_ | refine gl_guard_un rfl rfl rfl rfl rfl rfl ?_ | (refine gl_guard_yes rfl rfl rfl ?_; refine gl_f (s_not rfl) rfl rfl rfl ?_))
    refine gl_f (by first | exact s_pick_t rfl rfl | exact s_pick_f rfl rfl) rfl rfl rfl ?_
    refine gl_nil ?_
    repeat (first | refine g_seq ?_ | refine at_code ?_ | refine g_skip ?_ | refine g_block ?_ | refine g_exit rfl ?_ | refine g_cond_t rfl ?_ | refine g_cond_f rfl ?_)
    repeat (first | refine g_seq ?_ | refine at_code ?_ | refine g_skip ?_ | refine g_block ?_ | refine g_exit rfl ?_ | refine g_cond_t rfl ?_ | refine g_cond_f rfl ?_)
    refine g_region ?_
    refine gl_f (s_assign rfl) rfl rfl rfl ?_
    refine gl_nil ?_
    repeat (first | refine g_seq ?_ | refine at_code ?_ | refine g_skip ?_ | refine g_block ?_ | refine g_exit rfl ?_ | refine g_cond_t rfl ?_ | refine g_cond_f rfl ?_)
    refine g_ret ?_
    exact at_end1 rfl rfl [] ⟨rfl, rfl⟩ (fun _ h => h.dropAll)
  cases q2
  · repeat (first | refine g_seq ?_ | refine at_code ?_ | refine g_skip ?_ | refine g_block ?_ | refine g_exit rfl ?_ | refine g_cond_t rfl ?_ | refine g_cond_f rfl ?_)
    refine g_region ?_
    refine gl_r (by first | exact s_load_blkW rfl (by repeat first|exact .del|apply Upd.there) (by rfl) | exact s_load_blkN rfl (by repeat first|exact .del|apply Upd.there) (by rfl)) rfl rfl rfl ?_
    refine gl_callp rfl (right_ct g hc hl) (fun h hh _ => hr.le hh) rfl ?_; rw [← hq]
    refine gl_f (s_not rfl) rfl rfl rfl ?_
    refine gl_f (s_move rfl) rfl rfl rfl ?_
    (first | refine gl_guard_no rfl rfl rfl rfl rfl rfl rfl ?_ | refine gl_guard_un rfl rfl rfl rfl rfl rfl ?_ | (refine gl_guard_yes rfl rfl rfl ?_; refine gl_r (by first | exact s_load_blkW rfl (by repeat first|exact .del|apply Upd.there) (by rfl) | exact s_load_blkN rfl (by repeat first|exact .del|apply Upd.there) (by rfl)) rfl rfl rfl ?_))
    (first | refine gl_guard_no rfl rfl rfl rfl rfl rfl rfl ?_ | refine gl_guard_un rfl rfl rfl rfl rfl rfl ?_ | (refine gl_guard_yes rfl rfl rfl ?_; refine gl_callp rfl (right_ct h kc kl) (fun h hh _ => kr.le hh) rfl ?_; rw [← hq2]))
    (first | refine gl_guard_no rfl rfl rfl rfl rfl rfl rfl ?_ | refine gl_guard_un rfl rfl rfl rfl rfl rfl ?_ | (refine gl_guard_yes rfl rfl rfl ?_; refine gl_f (s_not rfl) rfl rfl rfl ?_))
    refine gl_f (by first | exact s_pick_t rfl rfl | exact s_pick_f rfl rfl) rfl rfl rfl ?_
    refine gl_nil ?_
    repeat (first | refine g_seq ?_ | refine at_code ?_ | refine g_skip ?_ | refine g_block ?_ | refine g_exit rfl ?_ | refine g_cond_t rfl ?_ | refine g_cond_f rfl ?_)
    repeat (first | refine g_seq ?_ | refine at_code ?_ | refine g_skip ?_ | refine g_block ?_ | refine g_exit rfl ?_ | refine g_cond_t rfl ?_ | refine g_cond_f rfl ?_)
    refine g_region ?_
    refine gl_f (s_assign rfl) rfl rfl rfl ?_
    refine gl_nil ?_
    repeat (first | refine g_seq ?_ | refine at_code ?_ | refine g_skip ?_ | refine g_block ?_ | refine g_exit rfl ?_ | refine g_cond_t rfl ?_ | refine g_cond_f rfl ?_)
    refine g_ret ?_
    exact at_end1 rfl rfl [] ⟨rfl, rfl⟩ (fun _ h => h.dropAll)
  obtain ⟨hf, hl60⟩ := right60_spec hq.symm h0 hcap
  obtain ⟨kf, kl60⟩ := right60_spec hq2.symm k0 kcap
  have h1 := hf.lo
  have h2 := hf.hi
  have h3 := hf.len
  have k1 := kf.lo
  have k2 := kf.hi
  have k3 := kf.len
  have k4 := kf.cl
  have hrg : rightG g = true := by have := hq.symm; rw [right60, Bool.and_eq_true] at this; exact this.1
  have hrh : rightG h = true := by have := hq2.symm; rw [right60, Bool.and_eq_true] at this; exact this.1
  repeat (first | refine g_seq ?_ | refine at_code ?_ | refine g_skip ?_ | refine g_block ?_ | refine g_exit rfl ?_ | refine g_cond_t rfl ?_ | refine g_cond_f rfl ?_)
  refine g_region ?_
  refine gl_r (by first | exact s_load_blkW rfl (by repeat first|exact .del|apply Upd.there) (by rfl) | exact s_load_blkN rfl (by repeat first|exact .del|apply Upd.there) (by rfl)) rfl rfl rfl ?_
  refine gl_callp rfl (right_ct g hc hl) (fun h hh _ => hr.le hh) rfl ?_; rw [← hq]
  refine gl_f (s_not rfl) rfl rfl rfl ?_
  refine gl_f (s_move rfl) rfl rfl rfl ?_
  (first | refine gl_guard_no rfl rfl rfl rfl rfl rfl rfl ?_ | refine gl_guard_un rfl rfl rfl rfl rfl rfl ?_ | (refine gl_guard_yes rfl rfl rfl ?_; refine gl_r (by first | exact s_load_blkW rfl (by repeat first|exact .del|apply Upd.there) (by rfl) | exact s_load_blkN rfl (by repeat first|exact .del|apply Upd.there) (by rfl)) rfl rfl rfl ?_))
  (first | refine gl_guard_no rfl rfl rfl rfl rfl rfl rfl ?_ | refine gl_guard_un rfl rfl rfl rfl rfl rfl ?_ | (refine gl_guard_yes rfl rfl rfl ?_; refine gl_callp rfl (right_ct h kc kl) (fun h hh _ => kr.le hh) rfl ?_; rw [← hq2]))
  (first | refine gl_guard_no rfl rfl rfl rfl rfl rfl rfl ?_ | refine gl_guard_un rfl rfl rfl rfl rfl rfl ?_ | (refine gl_guard_yes rfl rfl rfl ?_; refine gl_f (s_not rfl) rfl rfl rfl ?_))
  refine gl_f (by first | exact s_pick_t rfl rfl | exact s_pick_f rfl rfl) rfl rfl rfl ?_
  refine gl_nil ?_
  repeat (first | refine g_seq ?_ | refine at_code ?_ | refine g_skip ?_ | refine g_block ?_ | refine g_exit rfl ?_ | refine g_cond_t rfl ?_ | refine g_cond_f rfl ?_)
  obtain ⟨f, hfw, hf0, hf1, hf2⟩ := wrap_next prev hp
  have hsl := slice_le g f most
  obtain ⟨q3, hq3⟩ : ∃ q, q = hasL g prev := ⟨_, rfl⟩
  cases q3
  · repeat (first | refine g_seq ?_ | refine at_code ?_ | refine g_skip ?_ | refine g_block ?_ | refine g_exit rfl ?_ | refine g_cond_t rfl ?_ | refine g_cond_f rfl ?_)
    refine g_region ?_
    refine gl_r (by first | exact s_load_blkW rfl (by repeat first|exact .del|apply Upd.there) (by rfl) | exact s_load_blkN rfl (by repeat first|exact .del|apply Upd.there) (by rfl)) rfl rfl rfl ?_
    refine gl_f (s_move rfl) rfl rfl rfl ?_
    refine gl_callp rfl (Term_ct g prev hf hp) (fun h hh _ => hr.2.le hh) rfl ?_; rw [← hq3]
    refine gl_f (s_move rfl) rfl rfl rfl ?_
    refine gl_f (s_extract rfl rfl) rfl rfl rfl ?_
    refine gl_f (s_extract rfl rfl) rfl rfl rfl ?_
    refine gl_f (s_assign rfl) rfl rfl rfl ?_
    refine gl_f (s_assign rfl) rfl rfl rfl ?_
    refine gl_nil ?_
    repeat (first | refine g_seq ?_ | refine at_code ?_ | refine g_skip ?_ | refine g_block ?_ | refine g_exit rfl ?_ | refine g_cond_t rfl ?_ | refine g_cond_f rfl ?_)
    repeat (first | refine g_seq ?_ | refine at_code ?_ | refine g_skip ?_ | refine g_block ?_ | refine g_exit rfl ?_ | refine g_cond_t rfl ?_ | refine g_cond_f rfl ?_)
    refine g_region ?_
    refine gl_r (by first | exact s_load_blkW rfl (by repeat first|exact .del|apply Upd.there) (by rfl) | exact s_load_blkN rfl (by repeat first|exact .del|apply Upd.there) (by rfl)) rfl rfl rfl ?_
    refine gl_f (s_move rfl) rfl rfl rfl ?_
    refine gl_f (s_add_in rfl rfl hfw) rfl rfl rfl ?_
    refine gl_f (s_move rfl) rfl rfl rfl ?_
    refine gl_call _ rfl (Slice_ct g f most hf ⟨hf0, hf1⟩ hm) (fun w hw => hw) (fun h hh _ => hr.2.le hh) rfl ?_; rintro v A ⟨sa, sc, rfl, rfl⟩
    refine gl_f (s_assign rfl) rfl rfl rfl ?_
    refine gl_nil ?_
    repeat (first | refine g_seq ?_ | refine at_code ?_ | refine g_skip ?_ | refine g_block ?_ | refine g_exit rfl ?_ | refine g_cond_t rfl ?_ | refine g_cond_f rfl ?_)
    repeat (first | refine g_seq ?_ | refine at_code ?_ | refine g_skip ?_ | refine g_block ?_ | refine g_exit rfl ?_ | refine g_cond_t rfl ?_ | refine g_cond_f rfl ?_)
    refine g_region ?_
    refine gl_f (s_move rfl) rfl rfl rfl ?_
    refine gl_f (s_not rfl) rfl rfl rfl ?_
    refine gl_f (s_move rfl) rfl rfl rfl ?_
    (first | refine gl_guard_no rfl rfl rfl rfl rfl rfl rfl ?_ | refine gl_guard_un rfl rfl rfl rfl rfl rfl ?_ | (refine gl_guard_yes rfl rfl rfl ?_; refine gl_f (s_move rfl) rfl rfl rfl ?_))
    (first | refine gl_guard_no rfl rfl rfl rfl rfl rfl rfl ?_ | refine gl_guard_un rfl rfl rfl rfl rfl rfl ?_ | (refine gl_guard_yes rfl rfl rfl ?_; refine gl_f (by first | exact s_fieldAddr rfl (by rfl) (by infer_instance) (by decide) | exact s_fieldAddr_o rfl (by assumption) (by rfl) (by infer_instance) (by decide)) rfl rfl rfl ?_))
    (first | refine gl_guard_no rfl rfl rfl rfl rfl rfl rfl ?_ | refine gl_guard_un rfl rfl rfl rfl rfl rfl ?_ | (refine gl_guard_yes rfl rfl rfl ?_; refine gl_r (s_load_blk rfl (by repeat first|exact .del|apply Upd.there) (by rfl)) rfl rfl rfl ?_))
    (first | refine gl_guard_no rfl rfl rfl rfl rfl rfl rfl ?_ | refine gl_guard_un rfl rfl rfl rfl rfl rfl ?_ | (refine gl_guard_yes rfl rfl rfl ?_; refine gl_f (s_lss rfl rfl) rfl rfl rfl ?_))
    refine gl_f (by first | exact s_pick_t rfl rfl | exact s_pick_f rfl rfl) rfl rfl rfl ?_
    refine gl_nil ?_
    repeat (first | refine g_seq ?_ | refine at_code ?_ | refine g_skip ?_ | refine g_block ?_ | refine g_exit rfl ?_ | refine g_cond_t rfl ?_ | refine g_cond_f rfl ?_)
    repeat (first | refine g_seq ?_ | refine at_code ?_ | refine g_skip ?_ | refine g_block ?_ | refine g_exit rfl ?_ | refine g_cond_t rfl ?_ | refine g_cond_f rfl ?_)
    refine g_region ?_
    refine gl_f (s_assign rfl) rfl rfl rfl ?_
    refine gl_nil ?_
    repeat (first | refine g_seq ?_ | refine at_code ?_ | refine g_skip ?_ | refine g_block ?_ | refine g_exit rfl ?_ | refine g_cond_t rfl ?_ | refine g_cond_f rfl ?_)
    refine g_ret ?_
    exact at_end1 rfl rfl [] ⟨rfl, rfl⟩ (fun _ h => h.dropAll)
  have hh := (hasL_iff g prev).1 hq3.symm
  obtain rfl : f = prev + 1 := by omega
  obtain ⟨q4, hq4⟩ : ∃ q, q = decide (prev < h.base) := ⟨_, rfl⟩
  cases q4
  rotate_left
  · repeat (first | refine g_seq ?_ | refine at_code ?_ | refine g_skip ?_ | refine g_block ?_ | refine g_exit rfl ?_ | refine g_cond_t rfl ?_ | refine g_cond_f rfl ?_)
    refine g_region ?_
    refine gl_r (by first | exact s_load_blkW rfl (by repeat first|exact .del|apply Upd.there) (by rfl) | exact s_load_blkN rfl (by repeat first|exact .del|apply Upd.there) (by rfl)) rfl rfl rfl ?_
    refine gl_f (s_move rfl) rfl rfl rfl ?_
    refine gl_callp rfl (Term_ct g prev hf hp) (fun h hh _ => hr.2.le hh) rfl ?_; rw [← hq3]
    refine gl_f (s_move rfl) rfl rfl rfl ?_
    refine gl_f (s_extract rfl rfl) rfl rfl rfl ?_
    refine gl_f (s_extract rfl rfl) rfl rfl rfl ?_
    refine gl_f (s_assign rfl) rfl rfl rfl ?_
    refine gl_f (s_assign rfl) rfl rfl rfl ?_
    refine gl_nil ?_
    repeat (first | refine g_seq ?_ | refine at_code ?_ | refine g_skip ?_ | refine g_block ?_ | refine g_exit rfl ?_ | refine g_cond_t rfl ?_ | refine g_cond_f rfl ?_)
    repeat (first | refine g_seq ?_ | refine at_code ?_ | refine g_skip ?_ | refine g_block ?_ | refine g_exit rfl ?_ | refine g_cond_t rfl ?_ | refine g_cond_f rfl ?_)
    refine g_region ?_
    refine gl_r (by first | exact s_load_blkW rfl (by repeat first|exact .del|apply Upd.there) (by rfl) | exact s_load_blkN rfl (by repeat first|exact .del|apply Upd.there) (by rfl)) rfl rfl rfl ?_
    refine gl_f (s_move rfl) rfl rfl rfl ?_
    refine gl_f (s_add_in rfl rfl hfw) rfl rfl rfl ?_
    refine gl_f (s_move rfl) rfl rfl rfl ?_
    refine gl_call _ rfl (Slice_ct g (prev + 1) most hf ⟨hf0, hf1⟩ hm) (fun w hw => hw) (fun h hh _ => hr.2.le hh) rfl ?_; rintro v A ⟨sa, sc, rfl, rfl⟩
    refine gl_f (s_assign rfl) rfl rfl rfl ?_
    refine gl_nil ?_
    repeat (first | refine g_seq ?_ | refine at_code ?_ | refine g_skip ?_ | refine g_block ?_ | refine g_exit rfl ?_ | refine g_cond_t rfl ?_ | refine g_cond_f rfl ?_)
    repeat (first | refine g_seq ?_ | refine at_code ?_ | refine g_skip ?_ | refine g_block ?_ | refine g_exit rfl ?_ | refine g_cond_t rfl ?_ | refine g_cond_f rfl ?_)
    refine g_region ?_
    refine gl_f (s_move rfl) rfl rfl rfl ?_
    refine gl_f (s_not rfl) rfl rfl rfl ?_
    refine gl_f (s_move rfl) rfl rfl rfl ?_
    (first | refine gl_guard_no rfl rfl rfl rfl rfl rfl rfl ?_ | refine gl_guard_un rfl rfl rfl rfl rfl rfl ?_ | (refine gl_guard_yes rfl rfl rfl ?_; refine gl_f (s_move rfl) rfl rfl rfl ?_))
    (first | refine gl_guard_no rfl rfl rfl rfl rfl rfl rfl ?_ | refine gl_guard_un rfl rfl rfl rfl rfl rfl ?_ | (refine gl_guard_yes rfl rfl rfl ?_; refine gl_f (by first | exact s_fieldAddr rfl (by rfl) (by infer_instance) (by decide) | exact s_fieldAddr_o rfl (by assumption) (by rfl) (by infer_instance) (by decide)) rfl rfl rfl ?_))
    (first | refine gl_guard_no rfl rfl rfl rfl rfl rfl rfl ?_ | refine gl_guard_un rfl rfl rfl rfl rfl rfl ?_ | (refine gl_guard_yes rfl rfl rfl ?_; refine gl_r (s_load_blk rfl (by repeat first|exact .del|apply Upd.there) (by rfl)) rfl rfl rfl ?_))
    (first | refine gl_guard_no rfl rfl rfl rfl rfl rfl rfl ?_ | refine gl_guard_un rfl rfl rfl rfl rfl rfl ?_ | (refine gl_guard_yes rfl rfl rfl ?_; refine gl_f ((s_lss rfl rfl).eq (congrArg Value.bool hq4.symm)) rfl rfl rfl ?_))
    refine gl_f (by first | exact s_pick_t rfl rfl | exact s_pick_f rfl rfl) rfl rfl rfl ?_
    refine gl_nil ?_
    repeat (first | refine g_seq ?_ | refine at_code ?_ | refine g_skip ?_ | refine g_block ?_ | refine g_exit rfl ?_ | refine g_cond_t rfl ?_ | refine g_cond_f rfl ?_)
    repeat (first | refine g_seq ?_ | refine at_code ?_ | refine g_skip ?_ | refine g_block ?_ | refine g_exit rfl ?_ | refine g_cond_t rfl ?_ | refine g_cond_f rfl ?_)
    refine g_region ?_
    refine gl_f (s_assign rfl) rfl rfl rfl ?_
    refine gl_nil ?_
    repeat (first | refine g_seq ?_ | refine at_code ?_ | refine g_skip ?_ | refine g_block ?_ | refine g_exit rfl ?_ | refine g_cond_t rfl ?_ | refine g_cond_f rfl ?_)
    refine g_ret ?_
    exact at_end1 rfl rfl [] ⟨rfl, rfl⟩ (fun _ h => h.dropAll)
  have hbp : h.base ≤ prev := by have := of_decide_eq_false hq4.symm; omega
  repeat (first | refine g_seq ?_ | refine at_code ?_ | refine g_skip ?_ | refine g_block ?_ | refine g_exit rfl ?_ | refine g_cond_t rfl ?_ | refine g_cond_f rfl ?_)
  refine g_region ?_
  refine gl_r (by first | exact s_load_blkW rfl (by repeat first|exact .del|apply Upd.there) (by rfl) | exact s_load_blkN rfl (by repeat first|exact .del|apply Upd.there) (by rfl)) rfl rfl rfl ?_
  refine gl_f (s_move rfl) rfl rfl rfl ?_
  refine gl_callp rfl (Term_ct g prev hf hp) (fun h hh _ => hr.2.le hh) rfl ?_; rw [← hq3]
  refine gl_f (s_move rfl) rfl rfl rfl ?_
  refine gl_f (s_extract rfl rfl) rfl rfl rfl ?_
  refine gl_f (s_extract rfl rfl) rfl rfl rfl ?_
  refine gl_f (s_assign rfl) rfl rfl rfl ?_
  refine gl_f (s_assign rfl) rfl rfl rfl ?_
  refine gl_nil ?_
  repeat (first | refine g_seq ?_ | refine at_code ?_ | refine g_skip ?_ | refine g_block ?_ | refine g_exit rfl ?_ | refine g_cond_t rfl ?_ | refine g_cond_f rfl ?_)
  repeat (first | refine g_seq ?_ | refine at_code ?_ | refine g_skip ?_ | refine g_block ?_ | refine g_exit rfl ?_ | refine g_cond_t rfl ?_ | refine g_cond_f rfl ?_)
  refine g_region ?_
  refine gl_r (by first | exact s_load_blkW rfl (by repeat first|exact .del|apply Upd.there) (by rfl) | exact s_load_blkN rfl (by repeat first|exact .del|apply Upd.there) (by rfl)) rfl rfl rfl ?_
  refine gl_f (s_move rfl) rfl rfl rfl ?_
  refine gl_f (s_add_in rfl rfl hfw) rfl rfl rfl ?_
  refine gl_f (s_move rfl) rfl rfl rfl ?_
  refine gl_call _ rfl (Slice_ct g (prev + 1) most hf ⟨hf0, hf1⟩ hm) (fun w hw => hw) (fun h hh _ => hr.2.le hh) rfl ?_; rintro v A ⟨sa, sc, rfl, rfl⟩; refine gl_ownN (a := sa) (by repeat first|exact .del|apply Upd.there) (fun _ hcs hsa => ?_)
  refine gl_f (s_assign rfl) rfl rfl rfl ?_
  refine gl_nil ?_
  repeat (first | refine g_seq ?_ | refine at_code ?_ | refine g_skip ?_ | refine g_block ?_ | refine g_exit rfl ?_ | refine g_cond_t rfl ?_ | refine g_cond_f rfl ?_)
  repeat (first | refine g_seq ?_ | refine at_code ?_ | refine g_skip ?_ | refine g_block ?_ | refine g_exit rfl ?_ | refine g_cond_t rfl ?_ | refine g_cond_f rfl ?_)
  refine g_region ?_
  refine gl_f (s_move rfl) rfl rfl rfl ?_
  refine gl_f (s_not rfl) rfl rfl rfl ?_
  refine gl_f (s_move rfl) rfl rfl rfl ?_
  (first | refine gl_guard_no rfl rfl rfl rfl rfl rfl rfl ?_ | refine gl_guard_un rfl rfl rfl rfl rfl rfl ?_ | (refine gl_guard_yes rfl rfl rfl ?_; refine gl_f (s_move rfl) rfl rfl rfl ?_))
  (first | refine gl_guard_no rfl rfl rfl rfl rfl rfl rfl ?_ | refine gl_guard_un rfl rfl rfl rfl rfl rfl ?_ | (refine gl_guard_yes rfl rfl rfl ?_; refine gl_f (by first | exact s_fieldAddr rfl (by rfl) (by infer_instance) (by decide) | exact s_fieldAddr_o rfl (by assumption) (by rfl) (by infer_instance) (by decide)) rfl rfl rfl ?_))
  (first | refine gl_guard_no rfl rfl rfl rfl rfl rfl rfl ?_ | refine gl_guard_un rfl rfl rfl rfl rfl rfl ?_ | (refine gl_guard_yes rfl rfl rfl ?_; refine gl_r (s_load_blk rfl (by repeat first|exact .del|apply Upd.there) (by rfl)) rfl rfl rfl ?_))
  (first | refine gl_guard_no rfl rfl rfl rfl rfl rfl rfl ?_ | refine gl_guard_un rfl rfl rfl rfl rfl rfl ?_ | (refine gl_guard_yes rfl rfl rfl ?_; refine gl_f ((s_lss rfl rfl).eq (congrArg Value.bool hq4.symm)) rfl rfl rfl ?_))
  refine gl_f (by first | exact s_pick_t rfl rfl | exact s_pick_f rfl rfl) rfl rfl rfl ?_
  refine gl_nil ?_
  repeat (first | refine g_seq ?_ | refine at_code ?_ | refine g_skip ?_ | refine g_block ?_ | refine g_exit rfl ?_ | refine g_cond_t rfl ?_ | refine g_cond_f rfl ?_)
  obtain ⟨l, hle⟩ : ∃ l, l = sliceL g (prev + 1) most := ⟨_, rfl⟩
  rw [← hle] at hcs hsa hsl ⊢
  obtain ⟨term, hte⟩ : ∃ t, t = termV g prev := ⟨_, rfl⟩
  rw [← hte]
  obtain ⟨rl, ra, ro, hre⟩ : ∃ rl ra ro, mrgL h prev term l = ⟨rl, ra, ro⟩ := ⟨_, _, _, rfl⟩
  have hreB : mrgB h prev term l = ⟨rl, ra, ro⟩ := by rw [← hre, mrgL, if_neg (by omega)]
  have hl60' : l.length ≤ 60 := by omega
  have hlen := mrg_len h prev term l
  rw [hre] at hlen
  have hrl : rl.length ≤ 120 := by simp only at hlen; omega
  repeat (first | refine g_seq ?_ | refine at_code ?_ | refine g_skip ?_ | refine g_block ?_ | refine g_exit rfl ?_ | refine g_cond_t rfl ?_ | refine g_cond_f rfl ?_)
  refine g_region ?_
  refine gl_r (by first | exact s_load_blkW rfl (by repeat first|exact .del|apply Upd.there) (by rfl) | exact s_load_blkN rfl (by repeat first|exact .del|apply Upd.there) (by rfl)) rfl rfl rfl ?_
  refine gl_f (s_move rfl) rfl rfl rfl ?_
  refine gl_f (s_move rfl) rfl rfl rfl ?_
  refine gl_f (s_move rfl) rfl rfl rfl ?_
  refine gl_call _ rfl (Merge_ct h prev term l sa sc kf hp (by omega) hcs) (fun w hw => hw) (fun w hh ⟨bs, hb⟩ => ⟨kr.le hh, Sat.rd (a := sa) hb (by repeat first|exact .del|apply Upd.there)⟩) rfl ?_; rw [hre]; rintro v A ⟨ma, mc, na, nc, rfl, rfl⟩
  refine gl_f (s_move rfl) rfl rfl rfl ?_
  refine gl_f (s_extract rfl rfl) rfl rfl rfl ?_
  refine gl_f (s_extract rfl rfl) rfl rfl rfl ?_
  refine gl_f (s_extract rfl rfl) rfl rfl rfl ?_
  refine gl_allocA rfl ?_; intro g12
  (first | refine gl_store_blkW rfl rfl (by repeat first|exact .here|apply Upd.there) (by rfl) (by rfl) (by (intro q hq; simp [Value.cells] at hq; first | (subst hq; rfl) | (rcases hq with rfl | rfl | rfl | rfl | rfl | rfl | rfl | rfl <;> rfl) | (rcases hq with rfl | rfl | rfl | rfl | rfl | rfl | rfl <;> rfl) | (rcases hq with rfl | rfl | rfl | rfl | rfl | rfl <;> rfl) | (rcases hq with rfl | rfl | rfl | rfl | rfl <;> rfl) | (rcases hq with rfl | rfl | rfl | rfl <;> rfl) | (rcases hq with rfl | rfl | rfl <;> rfl) | (rcases hq with rfl | rfl <;> rfl))) ?_ | refine gl_store_blk rfl rfl (by repeat first|exact .here|apply Upd.there) (by rfl) (by (intro q hq; simp [Value.cells] at hq; first | (subst hq; rfl) | (rcases hq with rfl | rfl | rfl | rfl | rfl | rfl | rfl | rfl <;> rfl) | (rcases hq with rfl | rfl | rfl | rfl | rfl | rfl | rfl <;> rfl) | (rcases hq with rfl | rfl | rfl | rfl | rfl | rfl <;> rfl) | (rcases hq with rfl | rfl | rfl | rfl | rfl <;> rfl) | (rcases hq with rfl | rfl | rfl | rfl <;> rfl) | (rcases hq with rfl | rfl | rfl <;> rfl) | (rcases hq with rfl | rfl <;> rfl))) (by rfl) ?_)
  refine gl_f (s_assign rfl) rfl rfl rfl ?_
  refine gl_f (s_assign rfl) rfl rfl rfl ?_
  refine gl_nil ?_
  repeat (first | refine g_seq ?_ | refine at_code ?_ | refine g_skip ?_ | refine g_block ?_ | refine g_exit rfl ?_ | refine g_cond_t rfl ?_ | refine g_cond_f rfl ?_)
  refine g_weak (L' := [(2, .int .u64 prev), (3, .int .i64 most), (4, Ptr g4), (5, Ptr g5), (9, .int .u64 term), (11, .slice sa l.length sc), (12, Ptr g12), (13, .int .u64 ra), (14, .bool ro)]) (H' := [blkG g12 h.base h.bt ma h.conf.length mc na rl.length nc, OwnL na rl nc, OwnC ma h.conf mc, OwnL sa l sc, blkG g5 h.base h.bt h.ca h.conf.length h.cc h.la h.l.length h.lc, blkG g4 g.base g.bt g.ca g.conf.length g.cc g.la g.l.length g.lc]) (by (repeat (first | exact Sub.nil _ | refine Sub.cons rfl ?_))) (fun w hw => hw.perm (perm_up (by repeat first|exact .del|apply Upd.there) (perm_up (by repeat first|exact .del|apply Upd.there) (perm_up (by repeat first|exact .del|apply Upd.there) (perm_up (by repeat first|exact .del|apply Upd.there) (perm_up (by repeat first|exact .del|apply Upd.there) (perm_up (by repeat first|exact .del|apply Upd.there) (.refl _)))))))) ?_
  refine g_ownN (a := na) (by repeat first|exact .del|apply Upd.there) (fun _ hnc _ => ?_)
  obtain ⟨m, hme⟩ : ∃ m : LM, m = ⟨h.base, h.bt, h.conf, rl, ma, mc, na, nc⟩ := ⟨_, rfl⟩
  have mf : LM.fit ⟨h.base, h.bt, h.conf, rl, ma, mc, na, nc⟩ := ⟨k1, k2, by simp only; omega, k4, hnc⟩
  obtain ⟨b3, hb3⟩ : ∃ q, q = hasL h prev := ⟨_, rfl⟩
  obtain ⟨b4, hb4⟩ : ∃ q, q = decide (termV h prev = term) := ⟨_, rfl⟩
  by_cases hgo : b3 = true ∧ b4 = true
  · obtain ⟨rfl, rfl⟩ := hgo
    have hte2 : termV h prev = term := of_decide_eq_true hb4.symm
    have hat := mrg_at (l := l) k0 hbp hb3.symm hte2
    rw [hreB] at hat
    simp only at hat
    obtain ⟨rfl, hat⟩ := hat
    have hin := fun k => mrg_in (m := ⟨h.base, h.bt, h.conf, rl, ma, mc, na, nc⟩) (l := l) (k := k) k0 hbp hb3.symm hte2 rfl (by rw [hreB])
    have hah := mrg_ahead (m := ⟨h.base, h.bt, h.conf, rl, ma, mc, na, nc⟩) (l := l) k0 hbp hb3.symm hte2 rfl (by rw [hreB])
    have hkin : ∀ e ∈ rl, kindOk e := fun e he => by
      have h5 : e ∈ (mrgB h prev term l).l := by rw [hreB]; exact he
      rcases mrg_mem h5 with h6 | h6
      · exact right_kinds hrh e h6
      · rw [hle] at h6; exact right_kinds hrg e (slice_mem h6)
    have hso := fun hs => sorted_right (m := ⟨h.base, h.bt, h.conf, rl, ma, mc, na, nc⟩) hrh rfl rfl hkin hs
    repeat (first | refine g_seq ?_ | refine at_code ?_ | refine g_skip ?_ | refine g_block ?_ | refine g_exit rfl ?_ | refine g_cond_t rfl ?_ | refine g_cond_f rfl ?_)
    refine g_region ?_
    refine gl_r (by first | exact s_load_blkW rfl (by repeat first|exact .del|apply Upd.there) (by rfl) | exact s_load_blkN rfl (by repeat first|exact .del|apply Upd.there) (by rfl)) rfl rfl rfl ?_
    refine gl_f (s_move rfl) rfl rfl rfl ?_
    refine gl_callp rfl (Term_ct h prev kf hp) (fun w hh _ => kr.2.le hh) rfl ?_; rw [← hb3]
    refine gl_f (s_move rfl) rfl rfl rfl ?_
    refine gl_f (s_extract rfl rfl) rfl rfl rfl ?_
    refine gl_f (s_extract rfl rfl) rfl rfl rfl ?_
    refine gl_f (s_assign rfl) rfl rfl rfl ?_
    refine gl_f (s_assign rfl) rfl rfl rfl ?_
    refine gl_nil ?_
    repeat (first | refine g_seq ?_ | refine at_code ?_ | refine g_skip ?_ | refine g_block ?_ | refine g_exit rfl ?_ | refine g_cond_t rfl ?_ | refine g_cond_f rfl ?_)
    repeat (first | refine g_seq ?_ | refine at_code ?_ | refine g_skip ?_ | refine g_block ?_ | refine g_exit rfl ?_ | refine g_cond_t rfl ?_ | refine g_cond_f rfl ?_)
    refine g_region ?_
    refine gl_f (s_move rfl) rfl rfl rfl ?_
    refine gl_f (s_move rfl) rfl rfl rfl ?_
    refine gl_f (s_move rfl) rfl rfl rfl ?_
    (first | refine gl_guard_no rfl rfl rfl rfl rfl rfl rfl ?_ | refine gl_guard_un rfl rfl rfl rfl rfl rfl ?_ | (refine gl_guard_yes rfl rfl rfl ?_; refine gl_f (s_move rfl) rfl rfl rfl ?_))
    (first | refine gl_guard_no rfl rfl rfl rfl rfl rfl rfl ?_ | refine gl_guard_un rfl rfl rfl rfl rfl rfl ?_ | (refine gl_guard_yes rfl rfl rfl ?_; refine gl_f (s_move rfl) rfl rfl rfl ?_))
    (first | refine gl_guard_no rfl rfl rfl rfl rfl rfl rfl ?_ | refine gl_guard_un rfl rfl rfl rfl rfl rfl ?_ | (refine gl_guard_yes rfl rfl rfl ?_; refine gl_f ((s_eql rfl rfl).eq (congrArg Value.bool hb4.symm)) rfl rfl rfl ?_))
    refine gl_f (by first | exact s_pick_t rfl rfl | exact s_pick_f rfl rfl) rfl rfl rfl ?_
    refine gl_f ((s_neq_bool rfl rfl).eq (v' := .bool false) rfl) rfl rfl rfl ?_
    refine gl_f (s_move rfl) rfl rfl rfl ?_
    (first | refine gl_guard_no rfl rfl rfl rfl rfl rfl rfl ?_ | refine gl_guard_un rfl rfl rfl rfl rfl rfl ?_ | (refine gl_guard_yes rfl rfl rfl ?_; refine gl_f (s_move rfl) rfl rfl rfl ?_))
    (first | refine gl_guard_no rfl rfl rfl rfl rfl rfl rfl ?_ | refine gl_guard_un rfl rfl rfl rfl rfl rfl ?_ | (refine gl_guard_yes rfl rfl rfl ?_; refine gl_f (s_not rfl) rfl rfl rfl ?_))
    refine gl_f (by first | exact s_pick_t rfl rfl | exact s_pick_f rfl rfl) rfl rfl rfl ?_
    refine gl_nil ?_
    repeat (first | refine g_seq ?_ | refine at_code ?_ | refine g_skip ?_ | refine g_block ?_ | refine g_exit rfl ?_ | refine g_cond_t rfl ?_ | refine g_cond_f rfl ?_)
    repeat (first | refine g_seq ?_ | refine at_code ?_ | refine g_skip ?_ | refine g_block ?_ | refine g_exit rfl ?_ | refine g_cond_t rfl ?_ | refine g_cond_f rfl ?_)
    refine g_region ?_
    refine gl_f (s_assign rfl) rfl rfl rfl ?_
    refine gl_nil ?_
    repeat (first | refine g_seq ?_ | refine at_code ?_ | refine g_skip ?_ | refine g_block ?_ | refine g_exit rfl ?_ | refine g_cond_t rfl ?_ | refine g_cond_f rfl ?_)
    refine g_loop (ι := Nat) (fun k => k ≤ l.length) (fun k => [(2, .int .u64 prev), (3, .int .i64 most), (5, Ptr g5), (9, .int .u64 term), (11, .slice sa l.length sc), (12, Ptr g12), (13, .int .u64 ra), (17, .int .i64 (k : Nat))]) (fun _ => [blkG g12 h.base h.bt ma h.conf.length mc na rl.length nc, OwnL na rl nc, OwnC ma h.conf mc, OwnL sa l sc, blkG g5 h.base h.bt h.ca h.conf.length h.cc h.la h.l.length h.lc, blkG g4 g.base g.bt g.ca g.conf.length g.cc g.la g.l.length g.lc]) (fun k => l.length - k) 0 (by omega) ?_ ?_ ?_
    · (repeat (first | exact Sub.nil _ | refine Sub.cons rfl ?_))
    · intro w hw; exact hw
    · intro k hk
      repeat (first | refine g_seq ?_ | refine at_code ?_ | refine g_skip ?_ | refine g_block ?_ | refine g_exit rfl ?_ | refine g_cond_t rfl ?_ | refine g_cond_f rfl ?_)
      refine g_region ?_
      refine gl_f (s_move rfl) rfl rfl rfl ?_
      refine gl_f (s_move rfl) rfl rfl rfl ?_
      refine gl_f (s_len_sl rfl) rfl rfl rfl ?_
      refine gl_f (s_lss rfl rfl) rfl rfl rfl ?_
      refine gl_nil ?_
      repeat (first | refine g_seq ?_ | refine at_code ?_ | refine g_skip ?_ | refine g_block ?_ | refine g_exit rfl ?_ | refine g_cond_t rfl ?_ | refine g_cond_f rfl ?_)
      refine g_cond rfl (fun h5 => ?_) (fun h5 => ?_)
      · have hk' : k < l.length := by simp at h5; omega
        obtain ⟨i1, i2⟩ := hin k hk'
        repeat (first | refine g_seq ?_ | refine at_code ?_ | refine g_skip ?_ | refine g_block ?_ | refine g_exit rfl ?_ | refine g_cond_t rfl ?_ | refine g_cond_f rfl ?_)
        refine g_region ?_
        refine gl_r (by first | exact s_load_blkW rfl (by repeat first|exact .del|apply Upd.there) (by rfl) | exact s_load_blkN rfl (by repeat first|exact .del|apply Upd.there) (by rfl)) rfl rfl rfl ?_
        refine gl_f (s_move rfl) rfl rfl rfl ?_
        refine gl_f (s_add_u64 rfl rfl (by omega)) rfl rfl rfl ?_
        refine gl_f (s_move rfl) rfl rfl rfl ?_
        refine gl_f (s_conv_keep_u64 rfl (by omega)) rfl rfl rfl ?_
        refine gl_f (s_add_u64 rfl rfl (by omega)) rfl rfl rfl ?_
        refine gl_callp rfl (Term_ct ⟨h.base, h.bt, h.conf, rl, ma, mc, na, nc⟩ (prev + 1 + (k : Int)) mf (by omega)) (fun w hh ⟨bs, hb⟩ => Sat.rd (a := na) hb (by repeat first|exact .del|apply Upd.there)) rfl ?_; rw [i1, i2]
        refine gl_f (s_move rfl) rfl rfl rfl ?_
        refine gl_f (s_extract rfl rfl) rfl rfl rfl ?_
        refine gl_f (s_extract rfl rfl) rfl rfl rfl ?_
        refine gl_f (s_assign rfl) rfl rfl rfl ?_
        refine gl_f (s_assign rfl) rfl rfl rfl ?_
        refine gl_nil ?_
        repeat (first | refine g_seq ?_ | refine at_code ?_ | refine g_skip ?_ | refine g_block ?_ | refine g_exit rfl ?_ | refine g_cond_t rfl ?_ | refine g_cond_f rfl ?_)
        have hsome : ∃ ad, sa = some ad := hsa (by omega)
        repeat (first | refine g_seq ?_ | refine at_code ?_ | refine g_skip ?_ | refine g_block ?_ | refine g_exit rfl ?_ | refine g_cond_t rfl ?_ | refine g_cond_f rfl ?_)
        refine g_region ?_
        refine gl_f (s_move rfl) rfl rfl rfl ?_
        refine gl_f (s_not rfl) rfl rfl rfl ?_
        refine gl_f (s_move rfl) rfl rfl rfl ?_
        (first | refine gl_guard_no rfl rfl rfl rfl rfl rfl rfl ?_ | refine gl_guard_un rfl rfl rfl rfl rfl rfl ?_ | (refine gl_guard_yes rfl rfl rfl ?_; refine gl_f (s_move rfl) rfl rfl rfl ?_))
        (first | refine gl_guard_no rfl rfl rfl rfl rfl rfl rfl ?_ | refine gl_guard_un rfl rfl rfl rfl rfl rfl ?_ | (refine gl_guard_yes rfl rfl rfl ?_; refine gl_f (s_move rfl) rfl rfl rfl ?_))
        (first | refine gl_guard_no rfl rfl rfl rfl rfl rfl rfl ?_ | refine gl_guard_un rfl rfl rfl rfl rfl rfl ?_ | (refine gl_guard_yes rfl rfl rfl ?_; refine gl_f (s_move rfl) rfl rfl rfl ?_))
        (first | refine gl_guard_no rfl rfl rfl rfl rfl rfl rfl ?_ | refine gl_guard_un rfl rfl rfl rfl rfl rfl ?_ | (refine gl_guard_yes rfl rfl rfl ?_; refine gl_f (s_indexAddr rfl (by assumption) rfl (by omega)) rfl rfl rfl ?_))
        (first | refine gl_guard_no rfl rfl rfl rfl rfl rfl rfl ?_ | refine gl_guard_un rfl rfl rfl rfl rfl rfl ?_ | (refine gl_guard_yes rfl rfl rfl ?_; refine gl_f (by first | exact s_fieldAddr rfl (by rfl) (by infer_instance) (by decide) | exact s_fieldAddr_o rfl (by assumption) (by rfl) (by infer_instance) (by decide)) rfl rfl rfl ?_))
        (first | refine gl_guard_no rfl rfl rfl rfl rfl rfl rfl ?_ | refine gl_guard_un rfl rfl rfl rfl rfl rfl ?_ | (refine gl_guard_yes rfl rfl rfl ?_; refine gl_r (s_load1 rfl (fun w hw => rdE0_own (a := sa) hw (by repeat first|exact .del|apply Upd.there) (i := k) (by omega) hk')) rfl rfl rfl ?_))
        (first | refine gl_guard_no rfl rfl rfl rfl rfl rfl rfl ?_ | refine gl_guard_un rfl rfl rfl rfl rfl rfl ?_ | (refine gl_guard_yes rfl rfl rfl ?_; refine gl_f ((s_neq rfl rfl).eq (v' := .bool false) (by simp)) rfl rfl rfl ?_))
        refine gl_f (by first | exact s_pick_t rfl rfl | exact s_pick_f rfl rfl) rfl rfl rfl ?_
        refine gl_nil ?_
        repeat (first | refine g_seq ?_ | refine at_code ?_ | refine g_skip ?_ | refine g_block ?_ | refine g_exit rfl ?_ | refine g_cond_t rfl ?_ | refine g_cond_f rfl ?_)
        repeat (first | refine g_seq ?_ | refine at_code ?_ | refine g_skip ?_ | refine g_block ?_ | refine g_exit rfl ?_ | refine g_cond_t rfl ?_ | refine g_cond_f rfl ?_)
        refine g_region ?_
        refine gl_f (s_move rfl) rfl rfl rfl ?_
        refine gl_f (s_add_i64 rfl rfl (by omega)) rfl rfl rfl ?_
        refine gl_f (s_assign rfl) rfl rfl rfl ?_
        refine gl_nil ?_
        repeat (first | refine g_seq ?_ | refine at_code ?_ | refine g_skip ?_ | refine g_block ?_ | refine g_exit rfl ?_ | refine g_cond_t rfl ?_ | refine g_cond_f rfl ?_)
        refine at_next (k + 1) (by omega) (by omega) ?_ ?_
        · (repeat (first | exact Sub.nil _ | refine Sub.cons rfl ?_))
        · intro w hw; exact hw
      · repeat (first | refine g_seq ?_ | refine at_code ?_ | refine g_skip ?_ | refine g_block ?_ | refine g_exit rfl ?_ | refine g_cond_t rfl ?_ | refine g_cond_f rfl ?_)
        have hah' : sliceL ⟨h.base, h.bt, h.conf, rl, ma, mc, na, nc⟩ (h.base + 1) (prev - h.base) = sliceL h (h.base + 1) (prev - h.base) := hah
        have hsh := slice_le h (h.base + 1) (prev - h.base)
        obtain ⟨q5, hq5⟩ : ∃ q, q = decide (0 < ra) := ⟨_, rfl⟩
        repeat (first | refine g_seq ?_ | refine at_code ?_ | refine g_skip ?_ | refine g_block ?_ | refine g_exit rfl ?_ | refine g_cond_t rfl ?_ | refine g_cond_f rfl ?_)
        refine g_region ?_
        refine gl_r (by first | exact s_load_blkW rfl (by repeat first|exact .del|apply Upd.there) (by rfl) | exact s_load_blkN rfl (by repeat first|exact .del|apply Upd.there) (by rfl)) rfl rfl rfl ?_
        refine gl_callp rfl (Last_ct ⟨h.base, h.bt, h.conf, rl, ma, mc, na, nc⟩ mf) (fun w hh ⟨bs, hb⟩ => Sat.rd (a := na) hb (by repeat first|exact .del|apply Upd.there)) rfl ?_
        refine gl_f (s_move rfl) rfl rfl rfl ?_
        refine gl_f (s_extract rfl rfl) rfl rfl rfl ?_
        refine gl_f (s_extract rfl rfl) rfl rfl rfl ?_
        refine gl_f (s_assign rfl) rfl rfl rfl ?_
        refine gl_f (s_assign rfl) rfl rfl rfl ?_
        refine gl_nil ?_
        repeat (first | refine g_seq ?_ | refine at_code ?_ | refine g_skip ?_ | refine g_block ?_ | refine g_exit rfl ?_ | refine g_cond_t rfl ?_ | refine g_cond_f rfl ?_)
        refine g_weak (L' := [(2, .int .u64 prev), (5, Ptr g5), (9, .int .u64 term), (11, .slice sa l.length sc), (12, Ptr g12), (13, .int .u64 ra), (20, .int .u64 (lastI ⟨h.base, h.bt, h.conf, rl, ma, mc, na, nc⟩))]) (H' := [blkG g12 h.base h.bt ma h.conf.length mc na rl.length nc, OwnL na rl nc, OwnC ma h.conf mc, OwnL sa l sc, blkG g5 h.base h.bt h.ca h.conf.length h.cc h.la h.l.length h.lc, blkG g4 g.base g.bt g.ca g.conf.length g.cc g.la g.l.length g.lc]) (by (repeat (first | exact Sub.nil _ | refine Sub.cons rfl ?_))) (fun w hw => hw) ?_
        cases q5
        · repeat (first | refine g_seq ?_ | refine at_code ?_ | refine g_skip ?_ | refine g_block ?_ | refine g_exit rfl ?_ | refine g_cond_t rfl ?_ | refine g_cond_f rfl ?_)
          refine g_region ?_
          refine gl_f (s_move rfl) rfl rfl rfl ?_
          refine gl_f ((s_gtr rfl rfl).eq (congrArg Value.bool hq5.symm)) rfl rfl rfl ?_
          refine gl_f (s_move rfl) rfl rfl rfl ?_
          (first | refine gl_guard_no rfl rfl rfl rfl rfl rfl rfl ?_ | refine gl_guard_un rfl rfl rfl rfl rfl rfl ?_ | (refine gl_guard_yes rfl rfl rfl ?_; refine gl_f (s_move rfl) rfl rfl rfl ?_))
          (first | refine gl_guard_no rfl rfl rfl rfl rfl rfl rfl ?_ | refine gl_guard_un rfl rfl rfl rfl rfl rfl ?_ | (refine gl_guard_yes rfl rfl rfl ?_; refine gl_f (s_move rfl) rfl rfl rfl ?_))
          (first | refine gl_guard_no rfl rfl rfl rfl rfl rfl rfl ?_ | refine gl_guard_un rfl rfl rfl rfl rfl rfl ?_ | (refine gl_guard_yes rfl rfl rfl ?_; refine gl_f (s_leq rfl rfl) rfl rfl rfl ?_))
          (first | refine gl_guard_no rfl rfl rfl rfl rfl rfl rfl ?_ | refine gl_guard_un rfl rfl rfl rfl rfl rfl ?_ | (refine gl_guard_yes rfl rfl rfl ?_; refine gl_f (s_move rfl) rfl rfl rfl ?_))
          (first | refine gl_guard_no rfl rfl rfl rfl rfl rfl rfl ?_ | refine gl_guard_un rfl rfl rfl rfl rfl rfl ?_ | (refine gl_guard_yes rfl rfl rfl ?_; refine gl_f (s_move rfl) rfl rfl rfl ?_))
          (first | refine gl_guard_no rfl rfl rfl rfl rfl rfl rfl ?_ | refine gl_guard_un rfl rfl rfl rfl rfl rfl ?_ | (refine gl_guard_yes rfl rfl rfl ?_; refine gl_f (s_move rfl) rfl rfl rfl ?_))
          (first | refine gl_guard_no rfl rfl rfl rfl rfl rfl rfl ?_ | refine gl_guard_un rfl rfl rfl rfl rfl rfl ?_ | (refine gl_guard_yes rfl rfl rfl ?_; refine gl_f (s_move rfl) rfl rfl rfl ?_))
          (first | refine gl_guard_no rfl rfl rfl rfl rfl rfl rfl ?_ | refine gl_guard_un rfl rfl rfl rfl rfl rfl ?_ | (refine gl_guard_yes rfl rfl rfl ?_; refine gl_f (s_len_sl rfl) rfl rfl rfl ?_))
          (first | refine gl_guard_no rfl rfl rfl rfl rfl rfl rfl ?_ | refine gl_guard_un rfl rfl rfl rfl rfl rfl ?_ | (refine gl_guard_yes rfl rfl rfl ?_; refine gl_f (s_conv_keep_u64 rfl (by omega)) rfl rfl rfl ?_))
          (first | refine gl_guard_no rfl rfl rfl rfl rfl rfl rfl ?_ | refine gl_guard_un rfl rfl rfl rfl rfl rfl ?_ | (refine gl_guard_yes rfl rfl rfl ?_; refine gl_f (s_add_u64 rfl rfl (by omega)) rfl rfl rfl ?_))
          (first | refine gl_guard_no rfl rfl rfl rfl rfl rfl rfl ?_ | refine gl_guard_un rfl rfl rfl rfl rfl rfl ?_ | (refine gl_guard_yes rfl rfl rfl ?_; refine gl_f (s_neq rfl rfl) rfl rfl rfl ?_))
          (first | refine gl_guard_no rfl rfl rfl rfl rfl rfl rfl ?_ | refine gl_guard_un rfl rfl rfl rfl rfl rfl ?_ | (refine gl_guard_yes rfl rfl rfl ?_; refine gl_f (by first | exact s_pick_t rfl rfl | exact s_pick_f rfl rfl) rfl rfl rfl ?_))
          (first | refine gl_guard_no rfl rfl rfl rfl rfl rfl rfl ?_ | refine gl_guard_un rfl rfl rfl rfl rfl rfl ?_ | (refine gl_guard_yes rfl rfl rfl ?_; refine gl_f (s_move rfl) rfl rfl rfl ?_))
          (first | refine gl_guard_no rfl rfl rfl rfl rfl rfl rfl ?_ | refine gl_guard_un rfl rfl rfl rfl rfl rfl ?_ | (refine gl_guard_yes rfl rfl rfl ?_; refine gl_r (by first | exact s_load_blkW rfl (by repeat first|exact .del|apply Upd.there) (by rfl) | exact s_load_blkN rfl (by repeat first|exact .del|apply Upd.there) (by rfl)) rfl rfl rfl ?_))
          (first | refine gl_guard_no rfl rfl rfl rfl rfl rfl rfl ?_ | refine gl_guard_un rfl rfl rfl rfl rfl rfl ?_ | (refine gl_guard_yes rfl rfl rfl ?_; fail))
          (first | refine gl_guard_no rfl rfl rfl rfl rfl rfl rfl ?_ | refine gl_guard_un rfl rfl rfl rfl rfl rfl ?_ | (refine gl_guard_yes rfl rfl rfl ?_; refine gl_f (s_not rfl) rfl rfl rfl ?_))
          (first | refine gl_guard_no rfl rfl rfl rfl rfl rfl rfl ?_ | refine gl_guard_un rfl rfl rfl rfl rfl rfl ?_ | (refine gl_guard_yes rfl rfl rfl ?_; refine gl_f (s_move rfl) rfl rfl rfl ?_))
          (first | refine gl_guard_no rfl rfl rfl rfl rfl rfl rfl ?_ | refine gl_guard_un rfl rfl rfl rfl rfl rfl ?_ | (refine gl_guard_yes rfl rfl rfl ?_; refine gl_f (s_move rfl) rfl rfl rfl ?_))
          (first | refine gl_guard_no rfl rfl rfl rfl rfl rfl rfl ?_ | refine gl_guard_un rfl rfl rfl rfl rfl rfl ?_ | (refine gl_guard_yes rfl rfl rfl ?_; refine gl_f (s_gtr rfl rfl) rfl rfl rfl ?_))
          (first | refine gl_guard_no rfl rfl rfl rfl rfl rfl rfl ?_ | refine gl_guard_un rfl rfl rfl rfl rfl rfl ?_ | (refine gl_guard_yes rfl rfl rfl ?_; refine gl_f (by first | exact s_pick_t rfl rfl | exact s_pick_f rfl rfl) rfl rfl rfl ?_))
          (first | refine gl_guard_no rfl rfl rfl rfl rfl rfl rfl ?_ | refine gl_guard_un rfl rfl rfl rfl rfl rfl ?_ | (refine gl_guard_yes rfl rfl rfl ?_; refine gl_f (s_move rfl) rfl rfl rfl ?_))
          (first | refine gl_guard_no rfl rfl rfl rfl rfl rfl rfl ?_ | refine gl_guard_un rfl rfl rfl rfl rfl rfl ?_ | (refine gl_guard_yes rfl rfl rfl ?_; refine gl_f (s_move rfl) rfl rfl rfl ?_))
          (first | refine gl_guard_no rfl rfl rfl rfl rfl rfl rfl ?_ | refine gl_guard_un rfl rfl rfl rfl rfl rfl ?_ | (refine gl_guard_yes rfl rfl rfl ?_; refine gl_f (by first | exact s_fieldAddr rfl (by rfl) (by infer_instance) (by decide) | exact s_fieldAddr_o rfl (by assumption) (by rfl) (by infer_instance) (by decide)) rfl rfl rfl ?_))
          (first | refine gl_guard_no rfl rfl rfl rfl rfl rfl rfl ?_ | refine gl_guard_un rfl rfl rfl rfl rfl rfl ?_ | (refine gl_guard_yes rfl rfl rfl ?_; refine gl_r (s_load_blk rfl (by repeat first|exact .del|apply Upd.there) (by rfl)) rfl rfl rfl ?_))
          (first | refine gl_guard_no rfl rfl rfl rfl rfl rfl rfl ?_ | refine gl_guard_un rfl rfl rfl rfl rfl rfl ?_ | (refine gl_guard_yes rfl rfl rfl ?_; refine gl_f (s_geq rfl rfl) rfl rfl rfl ?_))
          (first | refine gl_guard_no rfl rfl rfl rfl rfl rfl rfl ?_ | refine gl_guard_un rfl rfl rfl rfl rfl rfl ?_ | (refine gl_guard_yes rfl rfl rfl ?_; refine gl_f (by first | exact s_pick_t rfl rfl | exact s_pick_f rfl rfl) rfl rfl rfl ?_))
          (first | refine gl_guard_no rfl rfl rfl rfl rfl rfl rfl ?_ | refine gl_guard_un rfl rfl rfl rfl rfl rfl ?_ | (refine gl_guard_yes rfl rfl rfl ?_; refine gl_f (s_move rfl) rfl rfl rfl ?_))
          (first | refine gl_guard_no rfl rfl rfl rfl rfl rfl rfl ?_ | refine gl_guard_un rfl rfl rfl rfl rfl rfl ?_ | (refine gl_guard_yes rfl rfl rfl ?_; refine gl_r (by first | exact s_load_blkW rfl (by repeat first|exact .del|apply Upd.there) (by rfl) | exact s_load_blkN rfl (by repeat first|exact .del|apply Upd.there) (by rfl)) rfl rfl rfl ?_))
          (first | refine gl_guard_no rfl rfl rfl rfl rfl rfl rfl ?_ | refine gl_guard_un rfl rfl rfl rfl rfl rfl ?_ | (refine gl_guard_yes rfl rfl rfl ?_; refine gl_f (s_move rfl) rfl rfl rfl ?_))
          (first | refine gl_guard_no rfl rfl rfl rfl rfl rfl rfl ?_ | refine gl_guard_un rfl rfl rfl rfl rfl rfl ?_ | (refine gl_guard_yes rfl rfl rfl ?_; fail))
          (first | refine gl_guard_no rfl rfl rfl rfl rfl rfl rfl ?_ | refine gl_guard_un rfl rfl rfl rfl rfl rfl ?_ | (refine gl_guard_yes rfl rfl rfl ?_; refine gl_f (by first | exact s_pick_t rfl rfl | exact s_pick_f rfl rfl) rfl rfl rfl ?_))
          (first | refine gl_guard_no rfl rfl rfl rfl rfl rfl rfl ?_ | refine gl_guard_un rfl rfl rfl rfl rfl rfl ?_ | (refine gl_guard_yes rfl rfl rfl ?_; refine gl_f (by first | exact s_pick_t rfl rfl | exact s_pick_f rfl rfl) rfl rfl rfl ?_))
          refine gl_f (by first | exact s_pick_t rfl rfl | exact s_pick_f rfl rfl) rfl rfl rfl ?_
          refine gl_nil ?_
          repeat (first | refine g_seq ?_ | refine at_code ?_ | refine g_skip ?_ | refine g_block ?_ | refine g_exit rfl ?_ | refine g_cond_t rfl ?_ | refine g_cond_f rfl ?_)
          repeat (first | refine g_seq ?_ | refine at_code ?_ | refine g_skip ?_ | refine g_block ?_ | refine g_exit rfl ?_ | refine g_cond_t rfl ?_ | refine g_cond_f rfl ?_)
          refine g_draw [0, 2, 6, 10, 12, 16] [blkG g12 h.base h.bt ma h.conf.length mc na rl.length nc, blkG g5 h.base h.bt h.ca h.conf.length h.cc h.la h.l.length h.lc] 22 rfl ?_
          (first | refine ga_read_k 0 rfl (by first | exact .head _ | exact .tail _ (.head _) | exact .tail _ (.tail _ (.head _)) | exact .tail _ (.tail _ (.tail _ (.head _)))) (s_load_blkW rfl .del (by rfl)) (by (first | exact fun _ h => h | (repeat first | exact sub_nil | refine sub_cons (by repeat first | exact List.Mem.head _ | apply List.Mem.tail) ?_))) rfl rfl rfl (by kernel_rfl) ?_ | refine ga_read_k 0 rfl (by first | exact .head _ | exact .tail _ (.head _) | exact .tail _ (.tail _ (.head _)) | exact .tail _ (.tail _ (.tail _ (.head _)))) (s_load_blkN rfl .del (by rfl)) (by (first | exact fun _ h => h | (repeat first | exact sub_nil | refine sub_cons (by repeat first | exact List.Mem.head _ | apply List.Mem.tail) ?_))) rfl rfl rfl (by kernel_rfl) ?_)
          refine ga_free 1 rfl (by first | exact s_fieldAddr rfl (by rfl) (by infer_instance) (by decide) | exact s_fieldAddr_o rfl (by assumption) (by rfl) (by infer_instance) (by decide)) rfl rfl rfl (by kernel_rfl) ?_
          refine ga_read_k 2 rfl (by first | exact .head _ | exact .tail _ (.head _) | exact .tail _ (.tail _ (.head _)) | exact .tail _ (.tail _ (.tail _ (.head _)))) (s_load_blk rfl .del (by rfl)) (by (first | exact fun _ h => h | (repeat first | exact sub_nil | refine sub_cons (by repeat first | exact List.Mem.head _ | apply List.Mem.tail) ?_))) rfl rfl rfl (by kernel_rfl) ?_
          refine ga_free 3 rfl (s_add_u64 rfl rfl (by omega)) rfl rfl rfl (by kernel_rfl) ?_
          refine ga_free 4 rfl (s_move rfl) rfl rfl rfl (by kernel_rfl) ?_
          refine ga_free 5 rfl (by first | exact s_fieldAddr rfl (by rfl) (by infer_instance) (by decide) | exact s_fieldAddr_o rfl (by assumption) (by rfl) (by infer_instance) (by decide)) rfl rfl rfl (by kernel_rfl) ?_
          refine ga_read_k 6 rfl (by first | exact .head _ | exact .tail _ (.head _) | exact .tail _ (.tail _ (.head _)) | exact .tail _ (.tail _ (.tail _ (.head _)))) (s_load_blk rfl .del (by rfl)) (by (first | exact fun _ h => h | (repeat first | exact sub_nil | refine sub_cons (by repeat first | exact List.Mem.head _ | apply List.Mem.tail) ?_))) rfl rfl rfl (by kernel_rfl) ?_
          refine ga_free 7 rfl (s_sub_u64 rfl rfl (by omega)) rfl rfl rfl (by kernel_rfl) ?_
          refine ga_free 8 rfl (s_conv_keep_i64 rfl (by omega)) rfl rfl rfl (by kernel_rfl) ?_
          (first | refine ga_read_k 10 rfl (by first | exact .head _ | exact .tail _ (.head _) | exact .tail _ (.tail _ (.head _)) | exact .tail _ (.tail _ (.tail _ (.head _)))) (s_load_blkW rfl .del (by rfl)) (by (first | exact fun _ h => h | (repeat first | exact sub_nil | refine sub_cons (by repeat first | exact List.Mem.head _ | apply List.Mem.tail) ?_))) rfl rfl rfl (by kernel_rfl) ?_ | refine ga_read_k 10 rfl (by first | exact .head _ | exact .tail _ (.head _) | exact .tail _ (.tail _ (.head _)) | exact .tail _ (.tail _ (.tail _ (.head _)))) (s_load_blkN rfl .del (by rfl)) (by (first | exact fun _ h => h | (repeat first | exact sub_nil | refine sub_cons (by repeat first | exact List.Mem.head _ | apply List.Mem.tail) ?_))) rfl rfl rfl (by kernel_rfl) ?_)
          refine ga_free 11 rfl (by first | exact s_fieldAddr rfl (by rfl) (by infer_instance) (by decide) | exact s_fieldAddr_o rfl (by assumption) (by rfl) (by infer_instance) (by decide)) rfl rfl rfl (by kernel_rfl) ?_
          refine ga_read_k 12 rfl (by first | exact .head _ | exact .tail _ (.head _) | exact .tail _ (.tail _ (.head _)) | exact .tail _ (.tail _ (.tail _ (.head _)))) (s_load_blk rfl .del (by rfl)) (by (first | exact fun _ h => h | (repeat first | exact sub_nil | refine sub_cons (by repeat first | exact List.Mem.head _ | apply List.Mem.tail) ?_))) rfl rfl rfl (by kernel_rfl) ?_
          refine ga_free 13 rfl (s_add_u64 rfl rfl (by omega)) rfl rfl rfl (by kernel_rfl) ?_
          refine ga_free 14 rfl (s_move rfl) rfl rfl rfl (by kernel_rfl) ?_
          refine ga_free 15 rfl (by first | exact s_fieldAddr rfl (by rfl) (by infer_instance) (by decide) | exact s_fieldAddr_o rfl (by assumption) (by rfl) (by infer_instance) (by decide)) rfl rfl rfl (by kernel_rfl) ?_
          refine ga_read_k 16 rfl (by first | exact .head _ | exact .tail _ (.head _) | exact .tail _ (.tail _ (.head _)) | exact .tail _ (.tail _ (.tail _ (.head _)))) (s_load_blk rfl .del (by rfl)) (by (first | exact fun _ h => h | (repeat first | exact sub_nil | refine sub_cons (by repeat first | exact List.Mem.head _ | apply List.Mem.tail) ?_))) rfl rfl rfl (by kernel_rfl) ?_
          refine ga_free 17 rfl (s_sub_u64 rfl rfl (by omega)) rfl rfl rfl (by kernel_rfl) ?_
          refine ga_free 18 rfl (s_conv_keep_i64 rfl (by omega)) rfl rfl rfl (by kernel_rfl) ?_
          refine ga_one 9 rfl (by kernel_rfl) ?_
          refine gl_call _ rfl (Slice_ct ⟨h.base, h.bt, h.conf, rl, ma, mc, na, nc⟩ (h.base + 1) (prev - h.base) mf (by omega) (by omega)) (fun w hw => hw) (fun w hh ⟨bs, hb⟩ => Sat.rd (a := na) hb (by repeat first|exact .del|apply Upd.there)) rfl ?_; rw [hah']; rintro v A ⟨xa, xc, rfl, rfl⟩
          refine gl_nil ?_
          refine at_ga (.inr (by exact keeps_of (by (first | exact fun _ h => h | (repeat first | exact sub_nil | refine sub_cons (by repeat first | exact List.Mem.head _ | apply List.Mem.tail) ?_))))) ?_
          refine ga_one 19 rfl (by kernel_rfl) ?_
          refine gl_call _ rfl (Slice_ct h (h.base + 1) (prev - h.base) kf (by omega) (by omega)) (fun w hw => hw) (fun w hh _ => kr.2.le hh) rfl ?_; rintro v A ⟨ya, yc, rfl, rfl⟩
          refine gl_nil ?_
          refine at_ga (.inr (by exact keeps_of (by (first | exact fun _ h => h | (repeat first | exact sub_nil | refine sub_cons (by repeat first | exact List.Mem.head _ | apply List.Mem.tail) ?_))))) ?_
          refine ga_one 20 rfl (by kernel_rfl) ?_
          refine gl_callp rfl (SameEntries_ct (sliceL h (h.base + 1) (prev - h.base)) (sliceL h (h.base + 1) (prev - h.base)) xa ya xc yc (by omega)) (fun w hh ⟨bs, hb⟩ => ⟨Sat.rd (a := xa) hb (by repeat first|exact .del|apply Upd.there), Sat.rd (a := ya) hb (by repeat first|exact .del|apply Upd.there)⟩) rfl ?_; rw [show decide (sliceL h (h.base + 1) (prev - h.base) = sliceL h (h.base + 1) (prev - h.base)) = true from decide_eq_true rfl]
          refine gl_nil ?_
          refine at_ga (.inr (by exact keeps_of (by (first | exact fun _ h => h | (repeat first | exact sub_nil | refine sub_cons (by repeat first | exact List.Mem.head _ | apply List.Mem.tail) ?_))))) ?_
          refine ga_free 21 rfl (s_assign rfl) rfl rfl rfl (by kernel_rfl) ?_
          refine ga_done (by kernel_rfl) ?_
          repeat (first | refine g_seq ?_ | refine at_code ?_ | refine g_skip ?_ | refine g_block ?_ | refine g_exit rfl ?_ | refine g_cond_t rfl ?_ | refine g_cond_f rfl ?_)
          refine g_ret ?_
          exact at_end1 rfl rfl [] ⟨rfl, rfl⟩ (fun _ h => h.dropAll)
        · have hra : 0 < ra := of_decide_eq_true hq5.symm
          obtain ⟨a1, a2, a3⟩ : prev < ra ∧ ra ≤ prev + (l.length : Int) ∧ h.base + (rl.length : Int) = prev + (l.length : Int) := by
            rcases hat with h6 | h6
            · omega
            · exact h6
          have hla : lastI ⟨h.base, h.bt, h.conf, rl, ma, mc, na, nc⟩ = prev + (l.length : Int) := a3
          obtain ⟨q6, hq6⟩ : ∃ q, q = rightG ⟨h.base, h.bt, h.conf, rl, ma, mc, na, nc⟩ := ⟨_, rfl⟩
          obtain ⟨q7, hq7⟩ : ∃ q, q = decide (0 < prev) := ⟨_, rfl⟩
          obtain ⟨q8, hq8⟩ : ∃ q, q = decide (h.bt ≤ term) := ⟨_, rfl⟩
          have hso' : q6 = false → sortedL ⟨h.base, h.bt, h.conf, rl, ma, mc, na, nc⟩ = false := fun h6 => by
            cases h7 : sortedL ⟨h.base, h.bt, h.conf, rl, ma, mc, na, nc⟩
            · rfl
            · have := hso h7; rw [← hq6, h6] at this; cases this
          cases q6
          rotate_left
          · repeat (first | refine g_seq ?_ | refine at_code ?_ | refine g_skip ?_ | refine g_block ?_ | refine g_exit rfl ?_ | refine g_cond_t rfl ?_ | refine g_cond_f rfl ?_)
            refine g_region ?_
            refine gl_f (s_move rfl) rfl rfl rfl ?_
            refine gl_f ((s_gtr rfl rfl).eq (congrArg Value.bool hq5.symm)) rfl rfl rfl ?_
            refine gl_f (s_move rfl) rfl rfl rfl ?_
            (first | refine gl_guard_no rfl rfl rfl rfl rfl rfl rfl ?_ | refine gl_guard_un rfl rfl rfl rfl rfl rfl ?_ | (refine gl_guard_yes rfl rfl rfl ?_; refine gl_f (s_move rfl) rfl rfl rfl ?_))
            (first | refine gl_guard_no rfl rfl rfl rfl rfl rfl rfl ?_ | refine gl_guard_un rfl rfl rfl rfl rfl rfl ?_ | (refine gl_guard_yes rfl rfl rfl ?_; refine gl_f (s_move rfl) rfl rfl rfl ?_))
            (first | refine gl_guard_no rfl rfl rfl rfl rfl rfl rfl ?_ | refine gl_guard_un rfl rfl rfl rfl rfl rfl ?_ | (refine gl_guard_yes rfl rfl rfl ?_; refine gl_f ((s_leq rfl rfl).eq (v' := .bool false) (congrArg Value.bool (decide_eq_false (by omega)))) rfl rfl rfl ?_))
            (first | refine gl_guard_no rfl rfl rfl rfl rfl rfl rfl ?_ | refine gl_guard_un rfl rfl rfl rfl rfl rfl ?_ | (refine gl_guard_yes rfl rfl rfl ?_; refine gl_f (s_move rfl) rfl rfl rfl ?_))
            (first | refine gl_guard_no rfl rfl rfl rfl rfl rfl rfl ?_ | refine gl_guard_un rfl rfl rfl rfl rfl rfl ?_ | (refine gl_guard_yes rfl rfl rfl ?_; refine gl_f (s_move rfl) rfl rfl rfl ?_))
            (first | refine gl_guard_no rfl rfl rfl rfl rfl rfl rfl ?_ | refine gl_guard_un rfl rfl rfl rfl rfl rfl ?_ | (refine gl_guard_yes rfl rfl rfl ?_; refine gl_f (s_move rfl) rfl rfl rfl ?_))
            (first | refine gl_guard_no rfl rfl rfl rfl rfl rfl rfl ?_ | refine gl_guard_un rfl rfl rfl rfl rfl rfl ?_ | (refine gl_guard_yes rfl rfl rfl ?_; refine gl_f (s_move rfl) rfl rfl rfl ?_))
            (first | refine gl_guard_no rfl rfl rfl rfl rfl rfl rfl ?_ | refine gl_guard_un rfl rfl rfl rfl rfl rfl ?_ | (refine gl_guard_yes rfl rfl rfl ?_; refine gl_f (s_len_sl rfl) rfl rfl rfl ?_))
            (first | refine gl_guard_no rfl rfl rfl rfl rfl rfl rfl ?_ | refine gl_guard_un rfl rfl rfl rfl rfl rfl ?_ | (refine gl_guard_yes rfl rfl rfl ?_; refine gl_f (s_conv_keep_u64 rfl (by omega)) rfl rfl rfl ?_))
            (first | refine gl_guard_no rfl rfl rfl rfl rfl rfl rfl ?_ | refine gl_guard_un rfl rfl rfl rfl rfl rfl ?_ | (refine gl_guard_yes rfl rfl rfl ?_; refine gl_f (s_add_u64 rfl rfl (by omega)) rfl rfl rfl ?_))
            (first | refine gl_guard_no rfl rfl rfl rfl rfl rfl rfl ?_ | refine gl_guard_un rfl rfl rfl rfl rfl rfl ?_ | (refine gl_guard_yes rfl rfl rfl ?_; refine gl_f ((s_neq rfl rfl).eq (v' := .bool false) (by rw [hla, decide_eq_true rfl]; rfl)) rfl rfl rfl ?_))
            (first | refine gl_guard_no rfl rfl rfl rfl rfl rfl rfl ?_ | refine gl_guard_un rfl rfl rfl rfl rfl rfl ?_ | (refine gl_guard_yes rfl rfl rfl ?_; refine gl_f (by first | exact s_pick_t rfl rfl | exact s_pick_f rfl rfl) rfl rfl rfl ?_))
            (first | refine gl_guard_no rfl rfl rfl rfl rfl rfl rfl ?_ | refine gl_guard_un rfl rfl rfl rfl rfl rfl ?_ | (refine gl_guard_yes rfl rfl rfl ?_; refine gl_f (s_move rfl) rfl rfl rfl ?_))
            (first | refine gl_guard_no rfl rfl rfl rfl rfl rfl rfl ?_ | refine gl_guard_un rfl rfl rfl rfl rfl rfl ?_ | (refine gl_guard_yes rfl rfl rfl ?_; refine gl_r (by first | exact s_load_blkW rfl (by repeat first|exact .del|apply Upd.there) (by rfl) | exact s_load_blkN rfl (by repeat first|exact .del|apply Upd.there) (by rfl)) rfl rfl rfl ?_))
            (first | refine gl_guard_no rfl rfl rfl rfl rfl rfl rfl ?_ | refine gl_guard_un rfl rfl rfl rfl rfl rfl ?_ | (refine gl_guard_yes rfl rfl rfl ?_; refine gl_callp rfl (Right_g_ct ⟨h.base, h.bt, h.conf, rl, ma, mc, na, nc⟩ (Nat.le_trans k4 (by decide)) (by simp only; omega)) (fun w hh ⟨bs, hb⟩ => ⟨Sat.rd (a := ma) hb (by repeat first|exact .del|apply Upd.there), Sat.rd (a := na) hb (by repeat first|exact .del|apply Upd.there)⟩) rfl ?_; rw [← hq6]))
            (first | refine gl_guard_no rfl rfl rfl rfl rfl rfl rfl ?_ | refine gl_guard_un rfl rfl rfl rfl rfl rfl ?_ | (refine gl_guard_yes rfl rfl rfl ?_; refine gl_f (s_not rfl) rfl rfl rfl ?_))
            (first | refine gl_guard_no rfl rfl rfl rfl rfl rfl rfl ?_ | refine gl_guard_un rfl rfl rfl rfl rfl rfl ?_ | (refine gl_guard_yes rfl rfl rfl ?_; refine gl_f (s_move rfl) rfl rfl rfl ?_))
            (first | refine gl_guard_no rfl rfl rfl rfl rfl rfl rfl ?_ | refine gl_guard_un rfl rfl rfl rfl rfl rfl ?_ | (refine gl_guard_yes rfl rfl rfl ?_; refine gl_f (s_move rfl) rfl rfl rfl ?_))
            (first | refine gl_guard_no rfl rfl rfl rfl rfl rfl rfl ?_ | refine gl_guard_un rfl rfl rfl rfl rfl rfl ?_ | (refine gl_guard_yes rfl rfl rfl ?_; refine gl_f (s_gtr rfl rfl) rfl rfl rfl ?_))
            (first | refine gl_guard_no rfl rfl rfl rfl rfl rfl rfl ?_ | refine gl_guard_un rfl rfl rfl rfl rfl rfl ?_ | (refine gl_guard_yes rfl rfl rfl ?_; refine gl_f (by first | exact s_pick_t rfl rfl | exact s_pick_f rfl rfl) rfl rfl rfl ?_))
            (first | refine gl_guard_no rfl rfl rfl rfl rfl rfl rfl ?_ | refine gl_guard_un rfl rfl rfl rfl rfl rfl ?_ | (refine gl_guard_yes rfl rfl rfl ?_; refine gl_f (s_move rfl) rfl rfl rfl ?_))
            (first | refine gl_guard_no rfl rfl rfl rfl rfl rfl rfl ?_ | refine gl_guard_un rfl rfl rfl rfl rfl rfl ?_ | (refine gl_guard_yes rfl rfl rfl ?_; refine gl_f (s_move rfl) rfl rfl rfl ?_))
            (first | refine gl_guard_no rfl rfl rfl rfl rfl rfl rfl ?_ | refine gl_guard_un rfl rfl rfl rfl rfl rfl ?_ | (refine gl_guard_yes rfl rfl rfl ?_; refine gl_f (by first | exact s_fieldAddr rfl (by rfl) (by infer_instance) (by decide) | exact s_fieldAddr_o rfl (by assumption) (by rfl) (by infer_instance) (by decide)) rfl rfl rfl ?_))
            (first | refine gl_guard_no rfl rfl rfl rfl rfl rfl rfl ?_ | refine gl_guard_un rfl rfl rfl rfl rfl rfl ?_ | (refine gl_guard_yes rfl rfl rfl ?_; refine gl_r (s_load_blk rfl (by repeat first|exact .del|apply Upd.there) (by rfl)) rfl rfl rfl ?_))
            (first | refine gl_guard_no rfl rfl rfl rfl rfl rfl rfl ?_ | refine gl_guard_un rfl rfl rfl rfl rfl rfl ?_ | (refine gl_guard_yes rfl rfl rfl ?_; refine gl_f (s_geq rfl rfl) rfl rfl rfl ?_))
            (first | refine gl_guard_no rfl rfl rfl rfl rfl rfl rfl ?_ | refine gl_guard_un rfl rfl rfl rfl rfl rfl ?_ | (refine gl_guard_yes rfl rfl rfl ?_; refine gl_f (by first | exact s_pick_t rfl rfl | exact s_pick_f rfl rfl) rfl rfl rfl ?_))
            (first | refine gl_guard_no rfl rfl rfl rfl rfl rfl rfl ?_ | refine gl_guard_un rfl rfl rfl rfl rfl rfl ?_ | (refine gl_guard_yes rfl rfl rfl ?_; refine gl_f (s_move rfl) rfl rfl rfl ?_))
            (first | refine gl_guard_no rfl rfl rfl rfl rfl rfl rfl ?_ | refine gl_guard_un rfl rfl rfl rfl rfl rfl ?_ | (refine gl_guard_yes rfl rfl rfl ?_; refine gl_r (by first | exact s_load_blkW rfl (by repeat first|exact .del|apply Upd.there) (by rfl) | exact s_load_blkN rfl (by repeat first|exact .del|apply Upd.there) (by rfl)) rfl rfl rfl ?_))
            (first | refine gl_guard_no rfl rfl rfl rfl rfl rfl rfl ?_ | refine gl_guard_un rfl rfl rfl rfl rfl rfl ?_ | (refine gl_guard_yes rfl rfl rfl ?_; refine gl_f (s_move rfl) rfl rfl rfl ?_))
            (first | refine gl_guard_no rfl rfl rfl rfl rfl rfl rfl ?_ | refine gl_guard_un rfl rfl rfl rfl rfl rfl ?_ | (refine gl_guard_yes rfl rfl rfl ?_; fail))
            (first | refine gl_guard_no rfl rfl rfl rfl rfl rfl rfl ?_ | refine gl_guard_un rfl rfl rfl rfl rfl rfl ?_ | (refine gl_guard_yes rfl rfl rfl ?_; refine gl_f (by first | exact s_pick_t rfl rfl | exact s_pick_f rfl rfl) rfl rfl rfl ?_))
            (first | refine gl_guard_no rfl rfl rfl rfl rfl rfl rfl ?_ | refine gl_guard_un rfl rfl rfl rfl rfl rfl ?_ | (refine gl_guard_yes rfl rfl rfl ?_; refine gl_f (by first | exact s_pick_t rfl rfl | exact s_pick_f rfl rfl) rfl rfl rfl ?_))
            refine gl_f (by first | exact s_pick_t rfl rfl | exact s_pick_f rfl rfl) rfl rfl rfl ?_
            refine gl_nil ?_
            repeat (first | refine g_seq ?_ | refine at_code ?_ | refine g_skip ?_ | refine g_block ?_ | refine g_exit rfl ?_ | refine g_cond_t rfl ?_ | refine g_cond_f rfl ?_)
            repeat (first | refine g_seq ?_ | refine at_code ?_ | refine g_skip ?_ | refine g_block ?_ | refine g_exit rfl ?_ | refine g_cond_t rfl ?_ | refine g_cond_f rfl ?_)
            refine g_draw [0, 2, 6, 10, 12, 16] [blkG g12 h.base h.bt ma h.conf.length mc na rl.length nc, blkG g5 h.base h.bt h.ca h.conf.length h.cc h.la h.l.length h.lc] 22 rfl ?_
            (first | refine ga_read_k 0 rfl (by first | exact .head _ | exact .tail _ (.head _) | exact .tail _ (.tail _ (.head _)) | exact .tail _ (.tail _ (.tail _ (.head _)))) (s_load_blkW rfl .del (by rfl)) (by (first | exact fun _ h => h | (repeat first | exact sub_nil | refine sub_cons (by repeat first | exact List.Mem.head _ | apply List.Mem.tail) ?_))) rfl rfl rfl (by kernel_rfl) ?_ | refine ga_read_k 0 rfl (by first | exact .head _ | exact .tail _ (.head _) | exact .tail _ (.tail _ (.head _)) | exact .tail _ (.tail _ (.tail _ (.head _)))) (s_load_blkN rfl .del (by rfl)) (by (first | exact fun _ h => h | (repeat first | exact sub_nil | refine sub_cons (by repeat first | exact List.Mem.head _ | apply List.Mem.tail) ?_))) rfl rfl rfl (by kernel_rfl) ?_)
            refine ga_free 1 rfl (by first | exact s_fieldAddr rfl (by rfl) (by infer_instance) (by decide) | exact s_fieldAddr_o rfl (by assumption) (by rfl) (by infer_instance) (by decide)) rfl rfl rfl (by kernel_rfl) ?_
            refine ga_read_k 2 rfl (by first | exact .head _ | exact .tail _ (.head _) | exact .tail _ (.tail _ (.head _)) | exact .tail _ (.tail _ (.tail _ (.head _)))) (s_load_blk rfl .del (by rfl)) (by (first | exact fun _ h => h | (repeat first | exact sub_nil | refine sub_cons (by repeat first | exact List.Mem.head _ | apply List.Mem.tail) ?_))) rfl rfl rfl (by kernel_rfl) ?_
            refine ga_free 3 rfl (s_add_u64 rfl rfl (by omega)) rfl rfl rfl (by kernel_rfl) ?_
            refine ga_free 4 rfl (s_move rfl) rfl rfl rfl (by kernel_rfl) ?_
            refine ga_free 5 rfl (by first | exact s_fieldAddr rfl (by rfl) (by infer_instance) (by decide) | exact s_fieldAddr_o rfl (by assumption) (by rfl) (by infer_instance) (by decide)) rfl rfl rfl (by kernel_rfl) ?_
            refine ga_read_k 6 rfl (by first | exact .head _ | exact .tail _ (.head _) | exact .tail _ (.tail _ (.head _)) | exact .tail _ (.tail _ (.tail _ (.head _)))) (s_load_blk rfl .del (by rfl)) (by (first | exact fun _ h => h | (repeat first | exact sub_nil | refine sub_cons (by repeat first | exact List.Mem.head _ | apply List.Mem.tail) ?_))) rfl rfl rfl (by kernel_rfl) ?_
            refine ga_free 7 rfl (s_sub_u64 rfl rfl (by omega)) rfl rfl rfl (by kernel_rfl) ?_
            refine ga_free 8 rfl (s_conv_keep_i64 rfl (by omega)) rfl rfl rfl (by kernel_rfl) ?_
            (first | refine ga_read_k 10 rfl (by first | exact .head _ | exact .tail _ (.head _) | exact .tail _ (.tail _ (.head _)) | exact .tail _ (.tail _ (.tail _ (.head _)))) (s_load_blkW rfl .del (by rfl)) (by (first | exact fun _ h => h | (repeat first | exact sub_nil | refine sub_cons (by repeat first | exact List.Mem.head _ | apply List.Mem.tail) ?_))) rfl rfl rfl (by kernel_rfl) ?_ | refine ga_read_k 10 rfl (by first | exact .head _ | exact .tail _ (.head _) | exact .tail _ (.tail _ (.head _)) | exact .tail _ (.tail _ (.tail _ (.head _)))) (s_load_blkN rfl .del (by rfl)) (by (first | exact fun _ h => h | (repeat first | exact sub_nil | refine sub_cons (by repeat first | exact List.Mem.head _ | apply List.Mem.tail) ?_))) rfl rfl rfl (by kernel_rfl) ?_)
            refine ga_free 11 rfl (by first | exact s_fieldAddr rfl (by rfl) (by infer_instance) (by decide) | exact s_fieldAddr_o rfl (by assumption) (by rfl) (by infer_instance) (by decide)) rfl rfl rfl (by kernel_rfl) ?_
            refine ga_read_k 12 rfl (by first | exact .head _ | exact .tail _ (.head _) | exact .tail _ (.tail _ (.head _)) | exact .tail _ (.tail _ (.tail _ (.head _)))) (s_load_blk rfl .del (by rfl)) (by (first | exact fun _ h => h | (repeat first | exact sub_nil | refine sub_cons (by repeat first | exact List.Mem.head _ | apply List.Mem.tail) ?_))) rfl rfl rfl (by kernel_rfl) ?_
            refine ga_free 13 rfl (s_add_u64 rfl rfl (by omega)) rfl rfl rfl (by kernel_rfl) ?_
            refine ga_free 14 rfl (s_move rfl) rfl rfl rfl (by kernel_rfl) ?_
            refine ga_free 15 rfl (by first | exact s_fieldAddr rfl (by rfl) (by infer_instance) (by decide) | exact s_fieldAddr_o rfl (by assumption) (by rfl) (by infer_instance) (by decide)) rfl rfl rfl (by kernel_rfl) ?_
            refine ga_read_k 16 rfl (by first | exact .head _ | exact .tail _ (.head _) | exact .tail _ (.tail _ (.head _)) | exact .tail _ (.tail _ (.tail _ (.head _)))) (s_load_blk rfl .del (by rfl)) (by (first | exact fun _ h => h | (repeat first | exact sub_nil | refine sub_cons (by repeat first | exact List.Mem.head _ | apply List.Mem.tail) ?_))) rfl rfl rfl (by kernel_rfl) ?_
            refine ga_free 17 rfl (s_sub_u64 rfl rfl (by omega)) rfl rfl rfl (by kernel_rfl) ?_
            refine ga_free 18 rfl (s_conv_keep_i64 rfl (by omega)) rfl rfl rfl (by kernel_rfl) ?_
            refine ga_one 9 rfl (by kernel_rfl) ?_
            refine gl_call _ rfl (Slice_ct ⟨h.base, h.bt, h.conf, rl, ma, mc, na, nc⟩ (h.base + 1) (prev - h.base) mf (by omega) (by omega)) (fun w hw => hw) (fun w hh ⟨bs, hb⟩ => Sat.rd (a := na) hb (by repeat first|exact .del|apply Upd.there)) rfl ?_; rw [hah']; rintro v A ⟨xa, xc, rfl, rfl⟩
            refine gl_nil ?_
            refine at_ga (.inr (by exact keeps_of (by (first | exact fun _ h => h | (repeat first | exact sub_nil | refine sub_cons (by repeat first | exact List.Mem.head _ | apply List.Mem.tail) ?_))))) ?_
            refine ga_one 19 rfl (by kernel_rfl) ?_
            refine gl_call _ rfl (Slice_ct h (h.base + 1) (prev - h.base) kf (by omega) (by omega)) (fun w hw => hw) (fun w hh _ => kr.2.le hh) rfl ?_; rintro v A ⟨ya, yc, rfl, rfl⟩
            refine gl_nil ?_
            refine at_ga (.inr (by exact keeps_of (by (first | exact fun _ h => h | (repeat first | exact sub_nil | refine sub_cons (by repeat first | exact List.Mem.head _ | apply List.Mem.tail) ?_))))) ?_
            refine ga_one 20 rfl (by kernel_rfl) ?_
            refine gl_callp rfl (SameEntries_ct (sliceL h (h.base + 1) (prev - h.base)) (sliceL h (h.base + 1) (prev - h.base)) xa ya xc yc (by omega)) (fun w hh ⟨bs, hb⟩ => ⟨Sat.rd (a := xa) hb (by repeat first|exact .del|apply Upd.there), Sat.rd (a := ya) hb (by repeat first|exact .del|apply Upd.there)⟩) rfl ?_; rw [show decide (sliceL h (h.base + 1) (prev - h.base) = sliceL h (h.base + 1) (prev - h.base)) = true from decide_eq_true rfl]
            refine gl_nil ?_
            refine at_ga (.inr (by exact keeps_of (by (first | exact fun _ h => h | (repeat first | exact sub_nil | refine sub_cons (by repeat first | exact List.Mem.head _ | apply List.Mem.tail) ?_))))) ?_
            refine ga_free 21 rfl (s_assign rfl) rfl rfl rfl (by kernel_rfl) ?_
            refine ga_done (by kernel_rfl) ?_
            repeat (first | refine g_seq ?_ | refine at_code ?_ | refine g_skip ?_ | refine g_block ?_ | refine g_exit rfl ?_ | refine g_cond_t rfl ?_ | refine g_cond_f rfl ?_)
            refine g_ret ?_
            exact at_end1 rfl rfl [] ⟨rfl, rfl⟩ (fun _ h => h.dropAll)
          cases q7
          · repeat (first | refine g_seq ?_ | refine at_code ?_ | refine g_skip ?_ | refine g_block ?_ | refine g_exit rfl ?_ | refine g_cond_t rfl ?_ | refine g_cond_f rfl ?_)
            refine g_region ?_
            refine gl_f (s_move rfl) rfl rfl rfl ?_
            refine gl_f ((s_gtr rfl rfl).eq (congrArg Value.bool hq5.symm)) rfl rfl rfl ?_
            refine gl_f (s_move rfl) rfl rfl rfl ?_
            (first | refine gl_guard_no rfl rfl rfl rfl rfl rfl rfl ?_ | refine gl_guard_un rfl rfl rfl rfl rfl rfl ?_ | (refine gl_guard_yes rfl rfl rfl ?_; refine gl_f (s_move rfl) rfl rfl rfl ?_))
            (first | refine gl_guard_no rfl rfl rfl rfl rfl rfl rfl ?_ | refine gl_guard_un rfl rfl rfl rfl rfl rfl ?_ | (refine gl_guard_yes rfl rfl rfl ?_; refine gl_f (s_move rfl) rfl rfl rfl ?_))
            (first | refine gl_guard_no rfl rfl rfl rfl rfl rfl rfl ?_ | refine gl_guard_un rfl rfl rfl rfl rfl rfl ?_ | (refine gl_guard_yes rfl rfl rfl ?_; refine gl_f ((s_leq rfl rfl).eq (v' := .bool false) (congrArg Value.bool (decide_eq_false (by omega)))) rfl rfl rfl ?_))
            (first | refine gl_guard_no rfl rfl rfl rfl rfl rfl rfl ?_ | refine gl_guard_un rfl rfl rfl rfl rfl rfl ?_ | (refine gl_guard_yes rfl rfl rfl ?_; refine gl_f (s_move rfl) rfl rfl rfl ?_))
            (first | refine gl_guard_no rfl rfl rfl rfl rfl rfl rfl ?_ | refine gl_guard_un rfl rfl rfl rfl rfl rfl ?_ | (refine gl_guard_yes rfl rfl rfl ?_; refine gl_f (s_move rfl) rfl rfl rfl ?_))
            (first | refine gl_guard_no rfl rfl rfl rfl rfl rfl rfl ?_ | refine gl_guard_un rfl rfl rfl rfl rfl rfl ?_ | (refine gl_guard_yes rfl rfl rfl ?_; refine gl_f (s_move rfl) rfl rfl rfl ?_))
            (first | refine gl_guard_no rfl rfl rfl rfl rfl rfl rfl ?_ | refine gl_guard_un rfl rfl rfl rfl rfl rfl ?_ | (refine gl_guard_yes rfl rfl rfl ?_; refine gl_f (s_move rfl) rfl rfl rfl ?_))
            (first | refine gl_guard_no rfl rfl rfl rfl rfl rfl rfl ?_ | refine gl_guard_un rfl rfl rfl rfl rfl rfl ?_ | (refine gl_guard_yes rfl rfl rfl ?_; refine gl_f (s_len_sl rfl) rfl rfl rfl ?_))
            (first | refine gl_guard_no rfl rfl rfl rfl rfl rfl rfl ?_ | refine gl_guard_un rfl rfl rfl rfl rfl rfl ?_ | (refine gl_guard_yes rfl rfl rfl ?_; refine gl_f (s_conv_keep_u64 rfl (by omega)) rfl rfl rfl ?_))
            (first | refine gl_guard_no rfl rfl rfl rfl rfl rfl rfl ?_ | refine gl_guard_un rfl rfl rfl rfl rfl rfl ?_ | (refine gl_guard_yes rfl rfl rfl ?_; refine gl_f (s_add_u64 rfl rfl (by omega)) rfl rfl rfl ?_))
            (first | refine gl_guard_no rfl rfl rfl rfl rfl rfl rfl ?_ | refine gl_guard_un rfl rfl rfl rfl rfl rfl ?_ | (refine gl_guard_yes rfl rfl rfl ?_; refine gl_f ((s_neq rfl rfl).eq (v' := .bool false) (by rw [hla, decide_eq_true rfl]; rfl)) rfl rfl rfl ?_))
            (first | refine gl_guard_no rfl rfl rfl rfl rfl rfl rfl ?_ | refine gl_guard_un rfl rfl rfl rfl rfl rfl ?_ | (refine gl_guard_yes rfl rfl rfl ?_; refine gl_f (by first | exact s_pick_t rfl rfl | exact s_pick_f rfl rfl) rfl rfl rfl ?_))
            (first | refine gl_guard_no rfl rfl rfl rfl rfl rfl rfl ?_ | refine gl_guard_un rfl rfl rfl rfl rfl rfl ?_ | (refine gl_guard_yes rfl rfl rfl ?_; refine gl_f (s_move rfl) rfl rfl rfl ?_))
            (first | refine gl_guard_no rfl rfl rfl rfl rfl rfl rfl ?_ | refine gl_guard_un rfl rfl rfl rfl rfl rfl ?_ | (refine gl_guard_yes rfl rfl rfl ?_; refine gl_r (by first | exact s_load_blkW rfl (by repeat first|exact .del|apply Upd.there) (by rfl) | exact s_load_blkN rfl (by repeat first|exact .del|apply Upd.there) (by rfl)) rfl rfl rfl ?_))
            (first | refine gl_guard_no rfl rfl rfl rfl rfl rfl rfl ?_ | refine gl_guard_un rfl rfl rfl rfl rfl rfl ?_ | (refine gl_guard_yes rfl rfl rfl ?_; refine gl_callp rfl (Right_g_ct ⟨h.base, h.bt, h.conf, rl, ma, mc, na, nc⟩ (Nat.le_trans k4 (by decide)) (by simp only; omega)) (fun w hh ⟨bs, hb⟩ => ⟨Sat.rd (a := ma) hb (by repeat first|exact .del|apply Upd.there), Sat.rd (a := na) hb (by repeat first|exact .del|apply Upd.there)⟩) rfl ?_; rw [← hq6]))
            (first | refine gl_guard_no rfl rfl rfl rfl rfl rfl rfl ?_ | refine gl_guard_un rfl rfl rfl rfl rfl rfl ?_ | (refine gl_guard_yes rfl rfl rfl ?_; refine gl_f (s_not rfl) rfl rfl rfl ?_))
            (first | refine gl_guard_no rfl rfl rfl rfl rfl rfl rfl ?_ | refine gl_guard_un rfl rfl rfl rfl rfl rfl ?_ | (refine gl_guard_yes rfl rfl rfl ?_; refine gl_f (s_move rfl) rfl rfl rfl ?_))
            (first | refine gl_guard_no rfl rfl rfl rfl rfl rfl rfl ?_ | refine gl_guard_un rfl rfl rfl rfl rfl rfl ?_ | (refine gl_guard_yes rfl rfl rfl ?_; refine gl_f (s_move rfl) rfl rfl rfl ?_))
            (first | refine gl_guard_no rfl rfl rfl rfl rfl rfl rfl ?_ | refine gl_guard_un rfl rfl rfl rfl rfl rfl ?_ | (refine gl_guard_yes rfl rfl rfl ?_; refine gl_f ((s_gtr rfl rfl).eq (congrArg Value.bool hq7.symm)) rfl rfl rfl ?_))
            (first | refine gl_guard_no rfl rfl rfl rfl rfl rfl rfl ?_ | refine gl_guard_un rfl rfl rfl rfl rfl rfl ?_ | (refine gl_guard_yes rfl rfl rfl ?_; refine gl_f (by first | exact s_pick_t rfl rfl | exact s_pick_f rfl rfl) rfl rfl rfl ?_))
            (first | refine gl_guard_no rfl rfl rfl rfl rfl rfl rfl ?_ | refine gl_guard_un rfl rfl rfl rfl rfl rfl ?_ | (refine gl_guard_yes rfl rfl rfl ?_; refine gl_f (s_move rfl) rfl rfl rfl ?_))
            (first | refine gl_guard_no rfl rfl rfl rfl rfl rfl rfl ?_ | refine gl_guard_un rfl rfl rfl rfl rfl rfl ?_ | (refine gl_guard_yes rfl rfl rfl ?_; refine gl_f (s_move rfl) rfl rfl rfl ?_))
            (first | refine gl_guard_no rfl rfl rfl rfl rfl rfl rfl ?_ | refine gl_guard_un rfl rfl rfl rfl rfl rfl ?_ | (refine gl_guard_yes rfl rfl rfl ?_; refine gl_f (by first | exact s_fieldAddr rfl (by rfl) (by infer_instance) (by decide) | exact s_fieldAddr_o rfl (by assumption) (by rfl) (by infer_instance) (by decide)) rfl rfl rfl ?_))
            (first | refine gl_guard_no rfl rfl rfl rfl rfl rfl rfl ?_ | refine gl_guard_un rfl rfl rfl rfl rfl rfl ?_ | (refine gl_guard_yes rfl rfl rfl ?_; refine gl_r (s_load_blk rfl (by repeat first|exact .del|apply Upd.there) (by rfl)) rfl rfl rfl ?_))
            (first | refine gl_guard_no rfl rfl rfl rfl rfl rfl rfl ?_ | refine gl_guard_un rfl rfl rfl rfl rfl rfl ?_ | (refine gl_guard_yes rfl rfl rfl ?_; refine gl_f (s_geq rfl rfl) rfl rfl rfl ?_))
            (first | refine gl_guard_no rfl rfl rfl rfl rfl rfl rfl ?_ | refine gl_guard_un rfl rfl rfl rfl rfl rfl ?_ | (refine gl_guard_yes rfl rfl rfl ?_; refine gl_f (by first | exact s_pick_t rfl rfl | exact s_pick_f rfl rfl) rfl rfl rfl ?_))
            (first | refine gl_guard_no rfl rfl rfl rfl rfl rfl rfl ?_ | refine gl_guard_un rfl rfl rfl rfl rfl rfl ?_ | (refine gl_guard_yes rfl rfl rfl ?_; refine gl_f (s_move rfl) rfl rfl rfl ?_))
            (first | refine gl_guard_no rfl rfl rfl rfl rfl rfl rfl ?_ | refine gl_guard_un rfl rfl rfl rfl rfl rfl ?_ | (refine gl_guard_yes rfl rfl rfl ?_; refine gl_r (by first | exact s_load_blkW rfl (by repeat first|exact .del|apply Upd.there) (by rfl) | exact s_load_blkN rfl (by repeat first|exact .del|apply Upd.there) (by rfl)) rfl rfl rfl ?_))
            (first | refine gl_guard_no rfl rfl rfl rfl rfl rfl rfl ?_ | refine gl_guard_un rfl rfl rfl rfl rfl rfl ?_ | (refine gl_guard_yes rfl rfl rfl ?_; refine gl_f (s_move rfl) rfl rfl rfl ?_))
            (first | refine gl_guard_no rfl rfl rfl rfl rfl rfl rfl ?_ | refine gl_guard_un rfl rfl rfl rfl rfl rfl ?_ | (refine gl_guard_yes rfl rfl rfl ?_; fail))
            (first | refine gl_guard_no rfl rfl rfl rfl rfl rfl rfl ?_ | refine gl_guard_un rfl rfl rfl rfl rfl rfl ?_ | (refine gl_guard_yes rfl rfl rfl ?_; refine gl_f (by first | exact s_pick_t rfl rfl | exact s_pick_f rfl rfl) rfl rfl rfl ?_))
            (first | refine gl_guard_no rfl rfl rfl rfl rfl rfl rfl ?_ | refine gl_guard_un rfl rfl rfl rfl rfl rfl ?_ | (refine gl_guard_yes rfl rfl rfl ?_; refine gl_f (by first | exact s_pick_t rfl rfl | exact s_pick_f rfl rfl) rfl rfl rfl ?_))
            refine gl_f (by first | exact s_pick_t rfl rfl | exact s_pick_f rfl rfl) rfl rfl rfl ?_
            refine gl_nil ?_
            repeat (first | refine g_seq ?_ | refine at_code ?_ | refine g_skip ?_ | refine g_block ?_ | refine g_exit rfl ?_ | refine g_cond_t rfl ?_ | refine g_cond_f rfl ?_)
            repeat (first | refine g_seq ?_ | refine at_code ?_ | refine g_skip ?_ | refine g_block ?_ | refine g_exit rfl ?_ | refine g_cond_t rfl ?_ | refine g_cond_f rfl ?_)
            refine g_draw [0, 2, 6, 10, 12, 16] [blkG g12 h.base h.bt ma h.conf.length mc na rl.length nc, blkG g5 h.base h.bt h.ca h.conf.length h.cc h.la h.l.length h.lc] 22 rfl ?_
            (first | refine ga_read_k 0 rfl (by first | exact .head _ | exact .tail _ (.head _) | exact .tail _ (.tail _ (.head _)) | exact .tail _ (.tail _ (.tail _ (.head _)))) (s_load_blkW rfl .del (by rfl)) (by (first | exact fun _ h => h | (repeat first | exact sub_nil | refine sub_cons (by repeat first | exact List.Mem.head _ | apply List.Mem.tail) ?_))) rfl rfl rfl (by kernel_rfl) ?_ | refine ga_read_k 0 rfl (by first | exact .head _ | exact .tail _ (.head _) | exact .tail _ (.tail _ (.head _)) | exact .tail _ (.tail _ (.tail _ (.head _)))) (s_load_blkN rfl .del (by rfl)) (by (first | exact fun _ h => h | (repeat first | exact sub_nil | refine sub_cons (by repeat first | exact List.Mem.head _ | apply List.Mem.tail) ?_))) rfl rfl rfl (by kernel_rfl) ?_)
            refine ga_free 1 rfl (by first | exact s_fieldAddr rfl (by rfl) (by infer_instance) (by decide) | exact s_fieldAddr_o rfl (by assumption) (by rfl) (by infer_instance) (by decide)) rfl rfl rfl (by kernel_rfl) ?_
            refine ga_read_k 2 rfl (by first | exact .head _ | exact .tail _ (.head _) | exact .tail _ (.tail _ (.head _)) | exact .tail _ (.tail _ (.tail _ (.head _)))) (s_load_blk rfl .del (by rfl)) (by (first | exact fun _ h => h | (repeat first | exact sub_nil | refine sub_cons (by repeat first | exact List.Mem.head _ | apply List.Mem.tail) ?_))) rfl rfl rfl (by kernel_rfl) ?_
            refine ga_free 3 rfl (s_add_u64 rfl rfl (by omega)) rfl rfl rfl (by kernel_rfl) ?_
            refine ga_free 4 rfl (s_move rfl) rfl rfl rfl (by kernel_rfl) ?_
            refine ga_free 5 rfl (by first | exact s_fieldAddr rfl (by rfl) (by infer_instance) (by decide) | exact s_fieldAddr_o rfl (by assumption) (by rfl) (by infer_instance) (by decide)) rfl rfl rfl (by kernel_rfl) ?_
            refine ga_read_k 6 rfl (by first | exact .head _ | exact .tail _ (.head _) | exact .tail _ (.tail _ (.head _)) | exact .tail _ (.tail _ (.tail _ (.head _)))) (s_load_blk rfl .del (by rfl)) (by (first | exact fun _ h => h | (repeat first | exact sub_nil | refine sub_cons (by repeat first | exact List.Mem.head _ | apply List.Mem.tail) ?_))) rfl rfl rfl (by kernel_rfl) ?_
            refine ga_free 7 rfl (s_sub_u64 rfl rfl (by omega)) rfl rfl rfl (by kernel_rfl) ?_
            refine ga_free 8 rfl (s_conv_keep_i64 rfl (by omega)) rfl rfl rfl (by kernel_rfl) ?_
            (first | refine ga_read_k 10 rfl (by first | exact .head _ | exact .tail _ (.head _) | exact .tail _ (.tail _ (.head _)) | exact .tail _ (.tail _ (.tail _ (.head _)))) (s_load_blkW rfl .del (by rfl)) (by (first | exact fun _ h => h | (repeat first | exact sub_nil | refine sub_cons (by repeat first | exact List.Mem.head _ | apply List.Mem.tail) ?_))) rfl rfl rfl (by kernel_rfl) ?_ | refine ga_read_k 10 rfl (by first | exact .head _ | exact .tail _ (.head _) | exact .tail _ (.tail _ (.head _)) | exact .tail _ (.tail _ (.tail _ (.head _)))) (s_load_blkN rfl .del (by rfl)) (by (first | exact fun _ h => h | (repeat first | exact sub_nil | refine sub_cons (by repeat first | exact List.Mem.head _ | apply List.Mem.tail) ?_))) rfl rfl rfl (by kernel_rfl) ?_)
            refine ga_free 11 rfl (by first | exact s_fieldAddr rfl (by rfl) (by infer_instance) (by decide) | exact s_fieldAddr_o rfl (by assumption) (by rfl) (by infer_instance) (by decide)) rfl rfl rfl (by kernel_rfl) ?_
            refine ga_read_k 12 rfl (by first | exact .head _ | exact .tail _ (.head _) | exact .tail _ (.tail _ (.head _)) | exact .tail _ (.tail _ (.tail _ (.head _)))) (s_load_blk rfl .del (by rfl)) (by (first | exact fun _ h => h | (repeat first | exact sub_nil | refine sub_cons (by repeat first | exact List.Mem.head _ | apply List.Mem.tail) ?_))) rfl rfl rfl (by kernel_rfl) ?_
            refine ga_free 13 rfl (s_add_u64 rfl rfl (by omega)) rfl rfl rfl (by kernel_rfl) ?_
            refine ga_free 14 rfl (s_move rfl) rfl rfl rfl (by kernel_rfl) ?_
            refine ga_free 15 rfl (by first | exact s_fieldAddr rfl (by rfl) (by infer_instance) (by decide) | exact s_fieldAddr_o rfl (by assumption) (by rfl) (by infer_instance) (by decide)) rfl rfl rfl (by kernel_rfl) ?_
            refine ga_read_k 16 rfl (by first | exact .head _ | exact .tail _ (.head _) | exact .tail _ (.tail _ (.head _)) | exact .tail _ (.tail _ (.tail _ (.head _)))) (s_load_blk rfl .del (by rfl)) (by (first | exact fun _ h => h | (repeat first | exact sub_nil | refine sub_cons (by repeat first | exact List.Mem.head _ | apply List.Mem.tail) ?_))) rfl rfl rfl (by kernel_rfl) ?_
            refine ga_free 17 rfl (s_sub_u64 rfl rfl (by omega)) rfl rfl rfl (by kernel_rfl) ?_
            refine ga_free 18 rfl (s_conv_keep_i64 rfl (by omega)) rfl rfl rfl (by kernel_rfl) ?_
            refine ga_one 9 rfl (by kernel_rfl) ?_
            refine gl_call _ rfl (Slice_ct ⟨h.base, h.bt, h.conf, rl, ma, mc, na, nc⟩ (h.base + 1) (prev - h.base) mf (by omega) (by omega)) (fun w hw => hw) (fun w hh ⟨bs, hb⟩ => Sat.rd (a := na) hb (by repeat first|exact .del|apply Upd.there)) rfl ?_; rw [hah']; rintro v A ⟨xa, xc, rfl, rfl⟩
            refine gl_nil ?_
            refine at_ga (.inr (by exact keeps_of (by (first | exact fun _ h => h | (repeat first | exact sub_nil | refine sub_cons (by repeat first | exact List.Mem.head _ | apply List.Mem.tail) ?_))))) ?_
            refine ga_one 19 rfl (by kernel_rfl) ?_
            refine gl_call _ rfl (Slice_ct h (h.base + 1) (prev - h.base) kf (by omega) (by omega)) (fun w hw => hw) (fun w hh _ => kr.2.le hh) rfl ?_; rintro v A ⟨ya, yc, rfl, rfl⟩
            refine gl_nil ?_
            refine at_ga (.inr (by exact keeps_of (by (first | exact fun _ h => h | (repeat first | exact sub_nil | refine sub_cons (by repeat first | exact List.Mem.head _ | apply List.Mem.tail) ?_))))) ?_
            refine ga_one 20 rfl (by kernel_rfl) ?_
            refine gl_callp rfl (SameEntries_ct (sliceL h (h.base + 1) (prev - h.base)) (sliceL h (h.base + 1) (prev - h.base)) xa ya xc yc (by omega)) (fun w hh ⟨bs, hb⟩ => ⟨Sat.rd (a := xa) hb (by repeat first|exact .del|apply Upd.there), Sat.rd (a := ya) hb (by repeat first|exact .del|apply Upd.there)⟩) rfl ?_; rw [show decide (sliceL h (h.base + 1) (prev - h.base) = sliceL h (h.base + 1) (prev - h.base)) = true from decide_eq_true rfl]
            refine gl_nil ?_
            refine at_ga (.inr (by exact keeps_of (by (first | exact fun _ h => h | (repeat first | exact sub_nil | refine sub_cons (by repeat first | exact List.Mem.head _ | apply List.Mem.tail) ?_))))) ?_
            refine ga_free 21 rfl (s_assign rfl) rfl rfl rfl (by kernel_rfl) ?_
            refine ga_done (by kernel_rfl) ?_
            repeat (first | refine g_seq ?_ | refine at_code ?_ | refine g_skip ?_ | refine g_block ?_ | refine g_exit rfl ?_ | refine g_cond_t rfl ?_ | refine g_cond_f rfl ?_)
            refine g_ret ?_
            exact at_end1 rfl rfl [] ⟨rfl, rfl⟩ (fun _ h => h.dropAll)
          cases q8
          · repeat (first | refine g_seq ?_ | refine at_code ?_ | refine g_skip ?_ | refine g_block ?_ | refine g_exit rfl ?_ | refine g_cond_t rfl ?_ | refine g_cond_f rfl ?_)
            refine g_region ?_
            refine gl_f (s_move rfl) rfl rfl rfl ?_
            refine gl_f ((s_gtr rfl rfl).eq (congrArg Value.bool hq5.symm)) rfl rfl rfl ?_
            refine gl_f (s_move rfl) rfl rfl rfl ?_
            (first | refine gl_guard_no rfl rfl rfl rfl rfl rfl rfl ?_ | refine gl_guard_un rfl rfl rfl rfl rfl rfl ?_ | (refine gl_guard_yes rfl rfl rfl ?_; refine gl_f (s_move rfl) rfl rfl rfl ?_))
            (first | refine gl_guard_no rfl rfl rfl rfl rfl rfl rfl ?_ | refine gl_guard_un rfl rfl rfl rfl rfl rfl ?_ | (refine gl_guard_yes rfl rfl rfl ?_; refine gl_f (s_move rfl) rfl rfl rfl ?_))
            (first | refine gl_guard_no rfl rfl rfl rfl rfl rfl rfl ?_ | refine gl_guard_un rfl rfl rfl rfl rfl rfl ?_ | (refine gl_guard_yes rfl rfl rfl ?_; refine gl_f ((s_leq rfl rfl).eq (v' := .bool false) (congrArg Value.bool (decide_eq_false (by omega)))) rfl rfl rfl ?_))
            (first | refine gl_guard_no rfl rfl rfl rfl rfl rfl rfl ?_ | refine gl_guard_un rfl rfl rfl rfl rfl rfl ?_ | (refine gl_guard_yes rfl rfl rfl ?_; refine gl_f (s_move rfl) rfl rfl rfl ?_))
            (first | refine gl_guard_no rfl rfl rfl rfl rfl rfl rfl ?_ | refine gl_guard_un rfl rfl rfl rfl rfl rfl ?_ | (refine gl_guard_yes rfl rfl rfl ?_; refine gl_f (s_move rfl) rfl rfl rfl ?_))
            (first | refine gl_guard_no rfl rfl rfl rfl rfl rfl rfl ?_ | refine gl_guard_un rfl rfl rfl rfl rfl rfl ?_ | (refine gl_guard_yes rfl rfl rfl ?_; refine gl_f (s_move rfl) rfl rfl rfl ?_))
            (first | refine gl_guard_no rfl rfl rfl rfl rfl rfl rfl ?_ | refine gl_guard_un rfl rfl rfl rfl rfl rfl ?_ | (refine gl_guard_yes rfl rfl rfl ?_; refine gl_f (s_move rfl) rfl rfl rfl ?_))
            (first | refine gl_guard_no rfl rfl rfl rfl rfl rfl rfl ?_ | refine gl_guard_un rfl rfl rfl rfl rfl rfl ?_ | (refine gl_guard_yes rfl rfl rfl ?_; refine gl_f (s_len_sl rfl) rfl rfl rfl ?_))
            (first | refine gl_guard_no rfl rfl rfl rfl rfl rfl rfl ?_ | refine gl_guard_un rfl rfl rfl rfl rfl rfl ?_ | (refine gl_guard_yes rfl rfl rfl ?_; refine gl_f (s_conv_keep_u64 rfl (by omega)) rfl rfl rfl ?_))
            (first | refine gl_guard_no rfl rfl rfl rfl rfl rfl rfl ?_ | refine gl_guard_un rfl rfl rfl rfl rfl rfl ?_ | (refine gl_guard_yes rfl rfl rfl ?_; refine gl_f (s_add_u64 rfl rfl (by omega)) rfl rfl rfl ?_))
            (first | refine gl_guard_no rfl rfl rfl rfl rfl rfl rfl ?_ | refine gl_guard_un rfl rfl rfl rfl rfl rfl ?_ | (refine gl_guard_yes rfl rfl rfl ?_; refine gl_f ((s_neq rfl rfl).eq (v' := .bool false) (by rw [hla, decide_eq_true rfl]; rfl)) rfl rfl rfl ?_))
            (first | refine gl_guard_no rfl rfl rfl rfl rfl rfl rfl ?_ | refine gl_guard_un rfl rfl rfl rfl rfl rfl ?_ | (refine gl_guard_yes rfl rfl rfl ?_; refine gl_f (by first | exact s_pick_t rfl rfl | exact s_pick_f rfl rfl) rfl rfl rfl ?_))
            (first | refine gl_guard_no rfl rfl rfl rfl rfl rfl rfl ?_ | refine gl_guard_un rfl rfl rfl rfl rfl rfl ?_ | (refine gl_guard_yes rfl rfl rfl ?_; refine gl_f (s_move rfl) rfl rfl rfl ?_))
            (first | refine gl_guard_no rfl rfl rfl rfl rfl rfl rfl ?_ | refine gl_guard_un rfl rfl rfl rfl rfl rfl ?_ | (refine gl_guard_yes rfl rfl rfl ?_; refine gl_r (by first | exact s_load_blkW rfl (by repeat first|exact .del|apply Upd.there) (by rfl) | exact s_load_blkN rfl (by repeat first|exact .del|apply Upd.there) (by rfl)) rfl rfl rfl ?_))
            (first | refine gl_guard_no rfl rfl rfl rfl rfl rfl rfl ?_ | refine gl_guard_un rfl rfl rfl rfl rfl rfl ?_ | (refine gl_guard_yes rfl rfl rfl ?_; refine gl_callp rfl (Right_g_ct ⟨h.base, h.bt, h.conf, rl, ma, mc, na, nc⟩ (Nat.le_trans k4 (by decide)) (by simp only; omega)) (fun w hh ⟨bs, hb⟩ => ⟨Sat.rd (a := ma) hb (by repeat first|exact .del|apply Upd.there), Sat.rd (a := na) hb (by repeat first|exact .del|apply Upd.there)⟩) rfl ?_; rw [← hq6]))
            (first | refine gl_guard_no rfl rfl rfl rfl rfl rfl rfl ?_ | refine gl_guard_un rfl rfl rfl rfl rfl rfl ?_ | (refine gl_guard_yes rfl rfl rfl ?_; refine gl_f (s_not rfl) rfl rfl rfl ?_))
            (first | refine gl_guard_no rfl rfl rfl rfl rfl rfl rfl ?_ | refine gl_guard_un rfl rfl rfl rfl rfl rfl ?_ | (refine gl_guard_yes rfl rfl rfl ?_; refine gl_f (s_move rfl) rfl rfl rfl ?_))
            (first | refine gl_guard_no rfl rfl rfl rfl rfl rfl rfl ?_ | refine gl_guard_un rfl rfl rfl rfl rfl rfl ?_ | (refine gl_guard_yes rfl rfl rfl ?_; refine gl_f (s_move rfl) rfl rfl rfl ?_))
            (first | refine gl_guard_no rfl rfl rfl rfl rfl rfl rfl ?_ | refine gl_guard_un rfl rfl rfl rfl rfl rfl ?_ | (refine gl_guard_yes rfl rfl rfl ?_; refine gl_f ((s_gtr rfl rfl).eq (congrArg Value.bool hq7.symm)) rfl rfl rfl ?_))
            (first | refine gl_guard_no rfl rfl rfl rfl rfl rfl rfl ?_ | refine gl_guard_un rfl rfl rfl rfl rfl rfl ?_ | (refine gl_guard_yes rfl rfl rfl ?_; refine gl_f (by first | exact s_pick_t rfl rfl | exact s_pick_f rfl rfl) rfl rfl rfl ?_))
            (first | refine gl_guard_no rfl rfl rfl rfl rfl rfl rfl ?_ | refine gl_guard_un rfl rfl rfl rfl rfl rfl ?_ | (refine gl_guard_yes rfl rfl rfl ?_; refine gl_f (s_move rfl) rfl rfl rfl ?_))
            (first | refine gl_guard_no rfl rfl rfl rfl rfl rfl rfl ?_ | refine gl_guard_un rfl rfl rfl rfl rfl rfl ?_ | (refine gl_guard_yes rfl rfl rfl ?_; refine gl_f (s_move rfl) rfl rfl rfl ?_))
            (first | refine gl_guard_no rfl rfl rfl rfl rfl rfl rfl ?_ | refine gl_guard_un rfl rfl rfl rfl rfl rfl ?_ | (refine gl_guard_yes rfl rfl rfl ?_; refine gl_f (by first | exact s_fieldAddr rfl (by rfl) (by infer_instance) (by decide) | exact s_fieldAddr_o rfl (by assumption) (by rfl) (by infer_instance) (by decide)) rfl rfl rfl ?_))
            (first | refine gl_guard_no rfl rfl rfl rfl rfl rfl rfl ?_ | refine gl_guard_un rfl rfl rfl rfl rfl rfl ?_ | (refine gl_guard_yes rfl rfl rfl ?_; refine gl_r (s_load_blk rfl (by repeat first|exact .del|apply Upd.there) (by rfl)) rfl rfl rfl ?_))
            (first | refine gl_guard_no rfl rfl rfl rfl rfl rfl rfl ?_ | refine gl_guard_un rfl rfl rfl rfl rfl rfl ?_ | (refine gl_guard_yes rfl rfl rfl ?_; refine gl_f ((s_geq rfl rfl).eq (congrArg Value.bool hq8.symm)) rfl rfl rfl ?_))
            (first | refine gl_guard_no rfl rfl rfl rfl rfl rfl rfl ?_ | refine gl_guard_un rfl rfl rfl rfl rfl rfl ?_ | (refine gl_guard_yes rfl rfl rfl ?_; refine gl_f (by first | exact s_pick_t rfl rfl | exact s_pick_f rfl rfl) rfl rfl rfl ?_))
            (first | refine gl_guard_no rfl rfl rfl rfl rfl rfl rfl ?_ | refine gl_guard_un rfl rfl rfl rfl rfl rfl ?_ | (refine gl_guard_yes rfl rfl rfl ?_; refine gl_f (s_move rfl) rfl rfl rfl ?_))
            (first | refine gl_guard_no rfl rfl rfl rfl rfl rfl rfl ?_ | refine gl_guard_un rfl rfl rfl rfl rfl rfl ?_ | (refine gl_guard_yes rfl rfl rfl ?_; refine gl_r (by first | exact s_load_blkW rfl (by repeat first|exact .del|apply Upd.there) (by rfl) | exact s_load_blkN rfl (by repeat first|exact .del|apply Upd.there) (by rfl)) rfl rfl rfl ?_))
            (first | refine gl_guard_no rfl rfl rfl rfl rfl rfl rfl ?_ | refine gl_guard_un rfl rfl rfl rfl rfl rfl ?_ | (refine gl_guard_yes rfl rfl rfl ?_; refine gl_f (s_move rfl) rfl rfl rfl ?_))
            (first | refine gl_guard_no rfl rfl rfl rfl rfl rfl rfl ?_ | refine gl_guard_un rfl rfl rfl rfl rfl rfl ?_ | (refine gl_guard_yes rfl rfl rfl ?_; fail))
            (first | refine gl_guard_no rfl rfl rfl rfl rfl rfl rfl ?_ | refine gl_guard_un rfl rfl rfl rfl rfl rfl ?_ | (refine gl_guard_yes rfl rfl rfl ?_; refine gl_f (by first | exact s_pick_t rfl rfl | exact s_pick_f rfl rfl) rfl rfl rfl ?_))
            (first | refine gl_guard_no rfl rfl rfl rfl rfl rfl rfl ?_ | refine gl_guard_un rfl rfl rfl rfl rfl rfl ?_ | (refine gl_guard_yes rfl rfl rfl ?_; refine gl_f (by first | exact s_pick_t rfl rfl | exact s_pick_f rfl rfl) rfl rfl rfl ?_))
            refine gl_f (by first | exact s_pick_t rfl rfl | exact s_pick_f rfl rfl) rfl rfl rfl ?_
            refine gl_nil ?_
            repeat (first | refine g_seq ?_ | refine at_code ?_ | refine g_skip ?_ | refine g_block ?_ | refine g_exit rfl ?_ | refine g_cond_t rfl ?_ | refine g_cond_f rfl ?_)
            repeat (first | refine g_seq ?_ | refine at_code ?_ | refine g_skip ?_ | refine g_block ?_ | refine g_exit rfl ?_ | refine g_cond_t rfl ?_ | refine g_cond_f rfl ?_)
            refine g_draw [0, 2, 6, 10, 12, 16] [blkG g12 h.base h.bt ma h.conf.length mc na rl.length nc, blkG g5 h.base h.bt h.ca h.conf.length h.cc h.la h.l.length h.lc] 22 rfl ?_
            (first | refine ga_read_k 0 rfl (by first | exact .head _ | exact .tail _ (.head _) | exact .tail _ (.tail _ (.head _)) | exact .tail _ (.tail _ (.tail _ (.head _)))) (s_load_blkW rfl .del (by rfl)) (by (first | exact fun _ h => h | (repeat first | exact sub_nil | refine sub_cons (by repeat first | exact List.Mem.head _ | apply List.Mem.tail) ?_))) rfl rfl rfl (by kernel_rfl) ?_ | refine ga_read_k 0 rfl (by first | exact .head _ | exact .tail _ (.head _) | exact .tail _ (.tail _ (.head _)) | exact .tail _ (.tail _ (.tail _ (.head _)))) (s_load_blkN rfl .del (by rfl)) (by (first | exact fun _ h => h | (repeat first | exact sub_nil | refine sub_cons (by repeat first | exact List.Mem.head _ | apply List.Mem.tail) ?_))) rfl rfl rfl (by kernel_rfl) ?_)
            refine ga_free 1 rfl (by first | exact s_fieldAddr rfl (by rfl) (by infer_instance) (by decide) | exact s_fieldAddr_o rfl (by assumption) (by rfl) (by infer_instance) (by decide)) rfl rfl rfl (by kernel_rfl) ?_
            refine ga_read_k 2 rfl (by first | exact .head _ | exact .tail _ (.head _) | exact .tail _ (.tail _ (.head _)) | exact .tail _ (.tail _ (.tail _ (.head _)))) (s_load_blk rfl .del (by rfl)) (by (first | exact fun _ h => h | (repeat first | exact sub_nil | refine sub_cons (by repeat first | exact List.Mem.head _ | apply List.Mem.tail) ?_))) rfl rfl rfl (by kernel_rfl) ?_
            refine ga_free 3 rfl (s_add_u64 rfl rfl (by omega)) rfl rfl rfl (by kernel_rfl) ?_
            refine ga_free 4 rfl (s_move rfl) rfl rfl rfl (by kernel_rfl) ?_
            refine ga_free 5 rfl (by first | exact s_fieldAddr rfl (by rfl) (by infer_instance) (by decide) | exact s_fieldAddr_o rfl (by assumption) (by rfl) (by infer_instance) (by decide)) rfl rfl rfl (by kernel_rfl) ?_
            refine ga_read_k 6 rfl (by first | exact .head _ | exact .tail _ (.head _) | exact .tail _ (.tail _ (.head _)) | exact .tail _ (.tail _ (.tail _ (.head _)))) (s_load_blk rfl .del (by rfl)) (by (first | exact fun _ h => h | (repeat first | exact sub_nil | refine sub_cons (by repeat first | exact List.Mem.head _ | apply List.Mem.tail) ?_))) rfl rfl rfl (by kernel_rfl) ?_
            refine ga_free 7 rfl (s_sub_u64 rfl rfl (by omega)) rfl rfl rfl (by kernel_rfl) ?_
            refine ga_free 8 rfl (s_conv_keep_i64 rfl (by omega)) rfl rfl rfl (by kernel_rfl) ?_
            (first | refine ga_read_k 10 rfl (by first | exact .head _ | exact .tail _ (.head _) | exact .tail _ (.tail _ (.head _)) | exact .tail _ (.tail _ (.tail _ (.head _)))) (s_load_blkW rfl .del (by rfl)) (by (first | exact fun _ h => h | (repeat first | exact sub_nil | refine sub_cons (by repeat first | exact List.Mem.head _ | apply List.Mem.tail) ?_))) rfl rfl rfl (by kernel_rfl) ?_ | refine ga_read_k 10 rfl (by first | exact .head _ | exact .tail _ (.head _) | exact .tail _ (.tail _ (.head _)) | exact .tail _ (.tail _ (.tail _ (.head _)))) (s_load_blkN rfl .del (by rfl)) (by (first | exact fun _ h => h | (repeat first | exact sub_nil | refine sub_cons (by repeat first | exact List.Mem.head _ | apply List.Mem.tail) ?_))) rfl rfl rfl (by kernel_rfl) ?_)
            refine ga_free 11 rfl (by first | exact s_fieldAddr rfl (by rfl) (by infer_instance) (by decide) | exact s_fieldAddr_o rfl (by assumption) (by rfl) (by infer_instance) (by decide)) rfl rfl rfl (by kernel_rfl) ?_
            refine ga_read_k 12 rfl (by first | exact .head _ | exact .tail _ (.head _) | exact .tail _ (.tail _ (.head _)) | exact .tail _ (.tail _ (.tail _ (.head _)))) (s_load_blk rfl .del (by rfl)) (by (first | exact fun _ h => h | (repeat first | exact sub_nil | refine sub_cons (by repeat first | exact List.Mem.head _ | apply List.Mem.tail) ?_))) rfl rfl rfl (by kernel_rfl) ?_
            refine ga_free 13 rfl (s_add_u64 rfl rfl (by omega)) rfl rfl rfl (by kernel_rfl) ?_
            refine ga_free 14 rfl (s_move rfl) rfl rfl rfl (by kernel_rfl) ?_
            refine ga_free 15 rfl (by first | exact s_fieldAddr rfl (by rfl) (by infer_instance) (by decide) | exact s_fieldAddr_o rfl (by assumption) (by rfl) (by infer_instance) (by decide)) rfl rfl rfl (by kernel_rfl) ?_
            refine ga_read_k 16 rfl (by first | exact .head _ | exact .tail _ (.head _) | exact .tail _ (.tail _ (.head _)) | exact .tail _ (.tail _ (.tail _ (.head _)))) (s_load_blk rfl .del (by rfl)) (by (first | exact fun _ h => h | (repeat first | exact sub_nil | refine sub_cons (by repeat first | exact List.Mem.head _ | apply List.Mem.tail) ?_))) rfl rfl rfl (by kernel_rfl) ?_
            refine ga_free 17 rfl (s_sub_u64 rfl rfl (by omega)) rfl rfl rfl (by kernel_rfl) ?_
            refine ga_free 18 rfl (s_conv_keep_i64 rfl (by omega)) rfl rfl rfl (by kernel_rfl) ?_
            refine ga_one 9 rfl (by kernel_rfl) ?_
            refine gl_call _ rfl (Slice_ct ⟨h.base, h.bt, h.conf, rl, ma, mc, na, nc⟩ (h.base + 1) (prev - h.base) mf (by omega) (by omega)) (fun w hw => hw) (fun w hh ⟨bs, hb⟩ => Sat.rd (a := na) hb (by repeat first|exact .del|apply Upd.there)) rfl ?_; rw [hah']; rintro v A ⟨xa, xc, rfl, rfl⟩
            refine gl_nil ?_
            refine at_ga (.inr (by exact keeps_of (by (first | exact fun _ h => h | (repeat first | exact sub_nil | refine sub_cons (by repeat first | exact List.Mem.head _ | apply List.Mem.tail) ?_))))) ?_
            refine ga_one 19 rfl (by kernel_rfl) ?_
            refine gl_call _ rfl (Slice_ct h (h.base + 1) (prev - h.base) kf (by omega) (by omega)) (fun w hw => hw) (fun w hh _ => kr.2.le hh) rfl ?_; rintro v A ⟨ya, yc, rfl, rfl⟩
            refine gl_nil ?_
            refine at_ga (.inr (by exact keeps_of (by (first | exact fun _ h => h | (repeat first | exact sub_nil | refine sub_cons (by repeat first | exact List.Mem.head _ | apply List.Mem.tail) ?_))))) ?_
            refine ga_one 20 rfl (by kernel_rfl) ?_
            refine gl_callp rfl (SameEntries_ct (sliceL h (h.base + 1) (prev - h.base)) (sliceL h (h.base + 1) (prev - h.base)) xa ya xc yc (by omega)) (fun w hh ⟨bs, hb⟩ => ⟨Sat.rd (a := xa) hb (by repeat first|exact .del|apply Upd.there), Sat.rd (a := ya) hb (by repeat first|exact .del|apply Upd.there)⟩) rfl ?_; rw [show decide (sliceL h (h.base + 1) (prev - h.base) = sliceL h (h.base + 1) (prev - h.base)) = true from decide_eq_true rfl]
            refine gl_nil ?_
            refine at_ga (.inr (by exact keeps_of (by (first | exact fun _ h => h | (repeat first | exact sub_nil | refine sub_cons (by repeat first | exact List.Mem.head _ | apply List.Mem.tail) ?_))))) ?_
            refine ga_free 21 rfl (s_assign rfl) rfl rfl rfl (by kernel_rfl) ?_
            refine ga_done (by kernel_rfl) ?_
            repeat (first | refine g_seq ?_ | refine at_code ?_ | refine g_skip ?_ | refine g_block ?_ | refine g_exit rfl ?_ | refine g_cond_t rfl ?_ | refine g_cond_f rfl ?_)
            refine g_ret ?_
            exact at_end1 rfl rfl [] ⟨rfl, rfl⟩ (fun _ h => h.dropAll)
          repeat (first | refine g_seq ?_ | refine at_code ?_ | refine g_skip ?_ | refine g_block ?_ | refine g_exit rfl ?_ | refine g_cond_t rfl ?_ | refine g_cond_f rfl ?_)
          refine g_region ?_
          refine gl_f (s_move rfl) rfl rfl rfl ?_
          refine gl_f ((s_gtr rfl rfl).eq (congrArg Value.bool hq5.symm)) rfl rfl rfl ?_
          refine gl_f (s_move rfl) rfl rfl rfl ?_
          (first | refine gl_guard_no rfl rfl rfl rfl rfl rfl rfl ?_ | refine gl_guard_un rfl rfl rfl rfl rfl rfl ?_ | (refine gl_guard_yes rfl rfl rfl ?_; refine gl_f (s_move rfl) rfl rfl rfl ?_))
          (first | refine gl_guard_no rfl rfl rfl rfl rfl rfl rfl ?_ | refine gl_guard_un rfl rfl rfl rfl rfl rfl ?_ | (refine gl_guard_yes rfl rfl rfl ?_; refine gl_f (s_move rfl) rfl rfl rfl ?_))
          (first | refine gl_guard_no rfl rfl rfl rfl rfl rfl rfl ?_ | refine gl_guard_un rfl rfl rfl rfl rfl rfl ?_ | (refine gl_guard_yes rfl rfl rfl ?_; refine gl_f ((s_leq rfl rfl).eq (v' := .bool false) (congrArg Value.bool (decide_eq_false (by omega)))) rfl rfl rfl ?_))
          (first | refine gl_guard_no rfl rfl rfl rfl rfl rfl rfl ?_ | refine gl_guard_un rfl rfl rfl rfl rfl rfl ?_ | (refine gl_guard_yes rfl rfl rfl ?_; refine gl_f (s_move rfl) rfl rfl rfl ?_))
          (first | refine gl_guard_no rfl rfl rfl rfl rfl rfl rfl ?_ | refine gl_guard_un rfl rfl rfl rfl rfl rfl ?_ | (refine gl_guard_yes rfl rfl rfl ?_; refine gl_f (s_move rfl) rfl rfl rfl ?_))
          (first | refine gl_guard_no rfl rfl rfl rfl rfl rfl rfl ?_ | refine gl_guard_un rfl rfl rfl rfl rfl rfl ?_ | (refine gl_guard_yes rfl rfl rfl ?_; refine gl_f (s_move rfl) rfl rfl rfl ?_))
          (first | refine gl_guard_no rfl rfl rfl rfl rfl rfl rfl ?_ | refine gl_guard_un rfl rfl rfl rfl rfl rfl ?_ | (refine gl_guard_yes rfl rfl rfl ?_; refine gl_f (s_move rfl) rfl rfl rfl ?_))
          (first | refine gl_guard_no rfl rfl rfl rfl rfl rfl rfl ?_ | refine gl_guard_un rfl rfl rfl rfl rfl rfl ?_ | (refine gl_guard_yes rfl rfl rfl ?_; refine gl_f (s_len_sl rfl) rfl rfl rfl ?_))
          (first | refine gl_guard_no rfl rfl rfl rfl rfl rfl rfl ?_ | refine gl_guard_un rfl rfl rfl rfl rfl rfl ?_ | (refine gl_guard_yes rfl rfl rfl ?_; refine gl_f (s_conv_keep_u64 rfl (by omega)) rfl rfl rfl ?_))
          (first | refine gl_guard_no rfl rfl rfl rfl rfl rfl rfl ?_ | refine gl_guard_un rfl rfl rfl rfl rfl rfl ?_ | (refine gl_guard_yes rfl rfl rfl ?_; refine gl_f (s_add_u64 rfl rfl (by omega)) rfl rfl rfl ?_))
          (first | refine gl_guard_no rfl rfl rfl rfl rfl rfl rfl ?_ | refine gl_guard_un rfl rfl rfl rfl rfl rfl ?_ | (refine gl_guard_yes rfl rfl rfl ?_; refine gl_f ((s_neq rfl rfl).eq (v' := .bool false) (by rw [hla, decide_eq_true rfl]; rfl)) rfl rfl rfl ?_))
          (first | refine gl_guard_no rfl rfl rfl rfl rfl rfl rfl ?_ | refine gl_guard_un rfl rfl rfl rfl rfl rfl ?_ | (refine gl_guard_yes rfl rfl rfl ?_; refine gl_f (by first | exact s_pick_t rfl rfl | exact s_pick_f rfl rfl) rfl rfl rfl ?_))
          (first | refine gl_guard_no rfl rfl rfl rfl rfl rfl rfl ?_ | refine gl_guard_un rfl rfl rfl rfl rfl rfl ?_ | (refine gl_guard_yes rfl rfl rfl ?_; refine gl_f (s_move rfl) rfl rfl rfl ?_))
          (first | refine gl_guard_no rfl rfl rfl rfl rfl rfl rfl ?_ | refine gl_guard_un rfl rfl rfl rfl rfl rfl ?_ | (refine gl_guard_yes rfl rfl rfl ?_; refine gl_r (by first | exact s_load_blkW rfl (by repeat first|exact .del|apply Upd.there) (by rfl) | exact s_load_blkN rfl (by repeat first|exact .del|apply Upd.there) (by rfl)) rfl rfl rfl ?_))
          (first | refine gl_guard_no rfl rfl rfl rfl rfl rfl rfl ?_ | refine gl_guard_un rfl rfl rfl rfl rfl rfl ?_ | (refine gl_guard_yes rfl rfl rfl ?_; refine gl_callp rfl (Right_g_ct ⟨h.base, h.bt, h.conf, rl, ma, mc, na, nc⟩ (Nat.le_trans k4 (by decide)) (by simp only; omega)) (fun w hh ⟨bs, hb⟩ => ⟨Sat.rd (a := ma) hb (by repeat first|exact .del|apply Upd.there), Sat.rd (a := na) hb (by repeat first|exact .del|apply Upd.there)⟩) rfl ?_; rw [← hq6]))
          (first | refine gl_guard_no rfl rfl rfl rfl rfl rfl rfl ?_ | refine gl_guard_un rfl rfl rfl rfl rfl rfl ?_ | (refine gl_guard_yes rfl rfl rfl ?_; refine gl_f (s_not rfl) rfl rfl rfl ?_))
          (first | refine gl_guard_no rfl rfl rfl rfl rfl rfl rfl ?_ | refine gl_guard_un rfl rfl rfl rfl rfl rfl ?_ | (refine gl_guard_yes rfl rfl rfl ?_; refine gl_f (s_move rfl) rfl rfl rfl ?_))
          (first | refine gl_guard_no rfl rfl rfl rfl rfl rfl rfl ?_ | refine gl_guard_un rfl rfl rfl rfl rfl rfl ?_ | (refine gl_guard_yes rfl rfl rfl ?_; refine gl_f (s_move rfl) rfl rfl rfl ?_))
          (first | refine gl_guard_no rfl rfl rfl rfl rfl rfl rfl ?_ | refine gl_guard_un rfl rfl rfl rfl rfl rfl ?_ | (refine gl_guard_yes rfl rfl rfl ?_; refine gl_f ((s_gtr rfl rfl).eq (congrArg Value.bool hq7.symm)) rfl rfl rfl ?_))
          (first | refine gl_guard_no rfl rfl rfl rfl rfl rfl rfl ?_ | refine gl_guard_un rfl rfl rfl rfl rfl rfl ?_ | (refine gl_guard_yes rfl rfl rfl ?_; refine gl_f (by first | exact s_pick_t rfl rfl | exact s_pick_f rfl rfl) rfl rfl rfl ?_))
          (first | refine gl_guard_no rfl rfl rfl rfl rfl rfl rfl ?_ | refine gl_guard_un rfl rfl rfl rfl rfl rfl ?_ | (refine gl_guard_yes rfl rfl rfl ?_; refine gl_f (s_move rfl) rfl rfl rfl ?_))
          (first | refine gl_guard_no rfl rfl rfl rfl rfl rfl rfl ?_ | refine gl_guard_un rfl rfl rfl rfl rfl rfl ?_ | (refine gl_guard_yes rfl rfl rfl ?_; refine gl_f (s_move rfl) rfl rfl rfl ?_))
          (first | refine gl_guard_no rfl rfl rfl rfl rfl rfl rfl ?_ | refine gl_guard_un rfl rfl rfl rfl rfl rfl ?_ | (refine gl_guard_yes rfl rfl rfl ?_; refine gl_f (by first | exact s_fieldAddr rfl (by rfl) (by infer_instance) (by decide) | exact s_fieldAddr_o rfl (by assumption) (by rfl) (by infer_instance) (by decide)) rfl rfl rfl ?_))
          (first | refine gl_guard_no rfl rfl rfl rfl rfl rfl rfl ?_ | refine gl_guard_un rfl rfl rfl rfl rfl rfl ?_ | (refine gl_guard_yes rfl rfl rfl ?_; refine gl_r (s_load_blk rfl (by repeat first|exact .del|apply Upd.there) (by rfl)) rfl rfl rfl ?_))
          (first | refine gl_guard_no rfl rfl rfl rfl rfl rfl rfl ?_ | refine gl_guard_un rfl rfl rfl rfl rfl rfl ?_ | (refine gl_guard_yes rfl rfl rfl ?_; refine gl_f ((s_geq rfl rfl).eq (congrArg Value.bool hq8.symm)) rfl rfl rfl ?_))
          (first | refine gl_guard_no rfl rfl rfl rfl rfl rfl rfl ?_ | refine gl_guard_un rfl rfl rfl rfl rfl rfl ?_ | (refine gl_guard_yes rfl rfl rfl ?_; refine gl_f (by first | exact s_pick_t rfl rfl | exact s_pick_f rfl rfl) rfl rfl rfl ?_))
          (first | refine gl_guard_no rfl rfl rfl rfl rfl rfl rfl ?_ | refine gl_guard_un rfl rfl rfl rfl rfl rfl ?_ | (refine gl_guard_yes rfl rfl rfl ?_; refine gl_f (s_move rfl) rfl rfl rfl ?_))
          (first | refine gl_guard_no rfl rfl rfl rfl rfl rfl rfl ?_ | refine gl_guard_un rfl rfl rfl rfl rfl rfl ?_ | (refine gl_guard_yes rfl rfl rfl ?_; refine gl_r (by first | exact s_load_blkW rfl (by repeat first|exact .del|apply Upd.there) (by rfl) | exact s_load_blkN rfl (by repeat first|exact .del|apply Upd.there) (by rfl)) rfl rfl rfl ?_))
          (first | refine gl_guard_no rfl rfl rfl rfl rfl rfl rfl ?_ | refine gl_guard_un rfl rfl rfl rfl rfl rfl ?_ | (refine gl_guard_yes rfl rfl rfl ?_; refine gl_f (s_move rfl) rfl rfl rfl ?_))
          (first | refine gl_guard_no rfl rfl rfl rfl rfl rfl rfl ?_ | refine gl_guard_un rfl rfl rfl rfl rfl rfl ?_ | (refine gl_guard_yes rfl rfl rfl ?_; refine gl_callp rfl (sorted_ct ⟨h.base, h.bt, h.conf, rl, ma, mc, na, nc⟩ prev (by simp only; omega)) (fun w hh ⟨bs, hb⟩ => Sat.rd (a := na) hb (by repeat first|exact .del|apply Upd.there)) rfl ?_; rw [hso' rfl]))
          (first | refine gl_guard_no rfl rfl rfl rfl rfl rfl rfl ?_ | refine gl_guard_un rfl rfl rfl rfl rfl rfl ?_ | (refine gl_guard_yes rfl rfl rfl ?_; refine gl_f (by first | exact s_pick_t rfl rfl | exact s_pick_f rfl rfl) rfl rfl rfl ?_))
          (first | refine gl_guard_no rfl rfl rfl rfl rfl rfl rfl ?_ | refine gl_guard_un rfl rfl rfl rfl rfl rfl ?_ | (refine gl_guard_yes rfl rfl rfl ?_; refine gl_f (by first | exact s_pick_t rfl rfl | exact s_pick_f rfl rfl) rfl rfl rfl ?_))
          refine gl_f (by first | exact s_pick_t rfl rfl | exact s_pick_f rfl rfl) rfl rfl rfl ?_
          refine gl_nil ?_
          repeat (first | refine g_seq ?_ | refine at_code ?_ | refine g_skip ?_ | refine g_block ?_ | refine g_exit rfl ?_ | refine g_cond_t rfl ?_ | refine g_cond_f rfl ?_)
          repeat (first | refine g_seq ?_ | refine at_code ?_ | refine g_skip ?_ | refine g_block ?_ | refine g_exit rfl ?_ | refine g_cond_t rfl ?_ | refine g_cond_f rfl ?_)
          refine g_draw [0, 2, 6, 10, 12, 16] [blkG g12 h.base h.bt ma h.conf.length mc na rl.length nc, blkG g5 h.base h.bt h.ca h.conf.length h.cc h.la h.l.length h.lc] 22 rfl ?_
          (first | refine ga_read_k 0 rfl (by first | exact .head _ | exact .tail _ (.head _) | exact .tail _ (.tail _ (.head _)) | exact .tail _ (.tail _ (.tail _ (.head _)))) (s_load_blkW rfl .del (by rfl)) (by (first | exact fun _ h => h | (repeat first | exact sub_nil | refine sub_cons (by repeat first | exact List.Mem.head _ | apply List.Mem.tail) ?_))) rfl rfl rfl (by kernel_rfl) ?_ | refine ga_read_k 0 rfl (by first | exact .head _ | exact .tail _ (.head _) | exact .tail _ (.tail _ (.head _)) | exact .tail _ (.tail _ (.tail _ (.head _)))) (s_load_blkN rfl .del (by rfl)) (by (first | exact fun _ h => h | (repeat first | exact sub_nil | refine sub_cons (by repeat first | exact List.Mem.head _ | apply List.Mem.tail) ?_))) rfl rfl rfl (by kernel_rfl) ?_)
          refine ga_free 1 rfl (by first | exact s_fieldAddr rfl (by rfl) (by infer_instance) (by decide) | exact s_fieldAddr_o rfl (by assumption) (by rfl) (by infer_instance) (by decide)) rfl rfl rfl (by kernel_rfl) ?_
          refine ga_read_k 2 rfl (by first | exact .head _ | exact .tail _ (.head _) | exact .tail _ (.tail _ (.head _)) | exact .tail _ (.tail _ (.tail _ (.head _)))) (s_load_blk rfl .del (by rfl)) (by (first | exact fun _ h => h | (repeat first | exact sub_nil | refine sub_cons (by repeat first | exact List.Mem.head _ | apply List.Mem.tail) ?_))) rfl rfl rfl (by kernel_rfl) ?_
          refine ga_free 3 rfl (s_add_u64 rfl rfl (by omega)) rfl rfl rfl (by kernel_rfl) ?_
          refine ga_free 4 rfl (s_move rfl) rfl rfl rfl (by kernel_rfl) ?_
          refine ga_free 5 rfl (by first | exact s_fieldAddr rfl (by rfl) (by infer_instance) (by decide) | exact s_fieldAddr_o rfl (by assumption) (by rfl) (by infer_instance) (by decide)) rfl rfl rfl (by kernel_rfl) ?_
          refine ga_read_k 6 rfl (by first | exact .head _ | exact .tail _ (.head _) | exact .tail _ (.tail _ (.head _)) | exact .tail _ (.tail _ (.tail _ (.head _)))) (s_load_blk rfl .del (by rfl)) (by (first | exact fun _ h => h | (repeat first | exact sub_nil | refine sub_cons (by repeat first | exact List.Mem.head _ | apply List.Mem.tail) ?_))) rfl rfl rfl (by kernel_rfl) ?_
          refine ga_free 7 rfl (s_sub_u64 rfl rfl (by omega)) rfl rfl rfl (by kernel_rfl) ?_
          refine ga_free 8 rfl (s_conv_keep_i64 rfl (by omega)) rfl rfl rfl (by kernel_rfl) ?_
          (first | refine ga_read_k 10 rfl (by first | exact .head _ | exact .tail _ (.head _) | exact .tail _ (.tail _ (.head _)) | exact .tail _ (.tail _ (.tail _ (.head _)))) (s_load_blkW rfl .del (by rfl)) (by (first | exact fun _ h => h | (repeat first | exact sub_nil | refine sub_cons (by repeat first | exact List.Mem.head _ | apply List.Mem.tail) ?_))) rfl rfl rfl (by kernel_rfl) ?_ | refine ga_read_k 10 rfl (by first | exact .head _ | exact .tail _ (.head _) | exact .tail _ (.tail _ (.head _)) | exact .tail _ (.tail _ (.tail _ (.head _)))) (s_load_blkN rfl .del (by rfl)) (by (first | exact fun _ h => h | (repeat first | exact sub_nil | refine sub_cons (by repeat first | exact List.Mem.head _ | apply List.Mem.tail) ?_))) rfl rfl rfl (by kernel_rfl) ?_)
          refine ga_free 11 rfl (by first | exact s_fieldAddr rfl (by rfl) (by infer_instance) (by decide) | exact s_fieldAddr_o rfl (by assumption) (by rfl) (by infer_instance) (by decide)) rfl rfl rfl (by kernel_rfl) ?_
          refine ga_read_k 12 rfl (by first | exact .head _ | exact .tail _ (.head _) | exact .tail _ (.tail _ (.head _)) | exact .tail _ (.tail _ (.tail _ (.head _)))) (s_load_blk rfl .del (by rfl)) (by (first | exact fun _ h => h | (repeat first | exact sub_nil | refine sub_cons (by repeat first | exact List.Mem.head _ | apply List.Mem.tail) ?_))) rfl rfl rfl (by kernel_rfl) ?_
          refine ga_free 13 rfl (s_add_u64 rfl rfl (by omega)) rfl rfl rfl (by kernel_rfl) ?_
          refine ga_free 14 rfl (s_move rfl) rfl rfl rfl (by kernel_rfl) ?_
          refine ga_free 15 rfl (by first | exact s_fieldAddr rfl (by rfl) (by infer_instance) (by decide) | exact s_fieldAddr_o rfl (by assumption) (by rfl) (by infer_instance) (by decide)) rfl rfl rfl (by kernel_rfl) ?_
          refine ga_read_k 16 rfl (by first | exact .head _ | exact .tail _ (.head _) | exact .tail _ (.tail _ (.head _)) | exact .tail _ (.tail _ (.tail _ (.head _)))) (s_load_blk rfl .del (by rfl)) (by (first | exact fun _ h => h | (repeat first | exact sub_nil | refine sub_cons (by repeat first | exact List.Mem.head _ | apply List.Mem.tail) ?_))) rfl rfl rfl (by kernel_rfl) ?_
          refine ga_free 17 rfl (s_sub_u64 rfl rfl (by omega)) rfl rfl rfl (by kernel_rfl) ?_
          refine ga_free 18 rfl (s_conv_keep_i64 rfl (by omega)) rfl rfl rfl (by kernel_rfl) ?_
          refine ga_one 9 rfl (by kernel_rfl) ?_
          refine gl_call _ rfl (Slice_ct ⟨h.base, h.bt, h.conf, rl, ma, mc, na, nc⟩ (h.base + 1) (prev - h.base) mf (by omega) (by omega)) (fun w hw => hw) (fun w hh ⟨bs, hb⟩ => Sat.rd (a := na) hb (by repeat first|exact .del|apply Upd.there)) rfl ?_; rw [hah']; rintro v A ⟨xa, xc, rfl, rfl⟩
          refine gl_nil ?_
          refine at_ga (.inr (by exact keeps_of (by (first | exact fun _ h => h | (repeat first | exact sub_nil | refine sub_cons (by repeat first | exact List.Mem.head _ | apply List.Mem.tail) ?_))))) ?_
          refine ga_one 19 rfl (by kernel_rfl) ?_
          refine gl_call _ rfl (Slice_ct h (h.base + 1) (prev - h.base) kf (by omega) (by omega)) (fun w hw => hw) (fun w hh _ => kr.2.le hh) rfl ?_; rintro v A ⟨ya, yc, rfl, rfl⟩
          refine gl_nil ?_
          refine at_ga (.inr (by exact keeps_of (by (first | exact fun _ h => h | (repeat first | exact sub_nil | refine sub_cons (by repeat first | exact List.Mem.head _ | apply List.Mem.tail) ?_))))) ?_
          refine ga_one 20 rfl (by kernel_rfl) ?_
          refine gl_callp rfl (SameEntries_ct (sliceL h (h.base + 1) (prev - h.base)) (sliceL h (h.base + 1) (prev - h.base)) xa ya xc yc (by omega)) (fun w hh ⟨bs, hb⟩ => ⟨Sat.rd (a := xa) hb (by repeat first|exact .del|apply Upd.there), Sat.rd (a := ya) hb (by repeat first|exact .del|apply Upd.there)⟩) rfl ?_; rw [show decide (sliceL h (h.base + 1) (prev - h.base) = sliceL h (h.base + 1) (prev - h.base)) = true from decide_eq_true rfl]
          refine gl_nil ?_
          refine at_ga (.inr (by exact keeps_of (by (first | exact fun _ h => h | (repeat first | exact sub_nil | refine sub_cons (by repeat first | exact List.Mem.head _ | apply List.Mem.tail) ?_))))) ?_
          refine ga_free 21 rfl (s_assign rfl) rfl rfl rfl (by kernel_rfl) ?_
          refine ga_done (by kernel_rfl) ?_
          repeat (first | refine g_seq ?_ | refine at_code ?_ | refine g_skip ?_ | refine g_block ?_ | refine g_exit rfl ?_ | refine g_cond_t rfl ?_ | refine g_cond_f rfl ?_)
          refine g_ret ?_
          exact at_end1 rfl rfl [] ⟨rfl, rfl⟩ (fun _ h => h.dropAll)
  · have hno : (hasL h prev && decide (termV h prev = term)) = false := by
      rw [← hb3, ← hb4]
      cases b3 <;> cases b4 <;> simp_all
    have e9 : mrgB h prev term l = ⟨h.l, 0, false⟩ := by rw [mrgB, if_pos hno]
    rw [hreB] at e9
    injection e9 with e9 e10 e11
    subst e9 e10 e11
    cases b3
    · repeat (first | refine g_seq ?_ | refine at_code ?_ | refine g_skip ?_ | refine g_block ?_ | refine g_exit rfl ?_ | refine g_cond_t rfl ?_ | refine g_cond_f rfl ?_)
      refine g_region ?_
      refine gl_r (by first | exact s_load_blkW rfl (by repeat first|exact .del|apply Upd.there) (by rfl) | exact s_load_blkN rfl (by repeat first|exact .del|apply Upd.there) (by rfl)) rfl rfl rfl ?_
      refine gl_f (s_move rfl) rfl rfl rfl ?_
      refine gl_callp rfl (Term_ct h prev kf hp) (fun w hh _ => kr.2.le hh) rfl ?_; rw [← hb3]
      refine gl_f (s_move rfl) rfl rfl rfl ?_
      refine gl_f (s_extract rfl rfl) rfl rfl rfl ?_
      refine gl_f (s_extract rfl rfl) rfl rfl rfl ?_
      refine gl_f (s_assign rfl) rfl rfl rfl ?_
      refine gl_f (s_assign rfl) rfl rfl rfl ?_
      refine gl_nil ?_
      repeat (first | refine g_seq ?_ | refine at_code ?_ | refine g_skip ?_ | refine g_block ?_ | refine g_exit rfl ?_ | refine g_cond_t rfl ?_ | refine g_cond_f rfl ?_)
      repeat (first | refine g_seq ?_ | refine at_code ?_ | refine g_skip ?_ | refine g_block ?_ | refine g_exit rfl ?_ | refine g_cond_t rfl ?_ | refine g_cond_f rfl ?_)
      refine g_region ?_
      refine gl_f (s_move rfl) rfl rfl rfl ?_
      refine gl_f (s_move rfl) rfl rfl rfl ?_
      refine gl_f (s_move rfl) rfl rfl rfl ?_
      (first | refine gl_guard_no rfl rfl rfl rfl rfl rfl rfl ?_ | refine gl_guard_un rfl rfl rfl rfl rfl rfl ?_ | (refine gl_guard_yes rfl rfl rfl ?_; refine gl_f (s_move rfl) rfl rfl rfl ?_))
      (first | refine gl_guard_no rfl rfl rfl rfl rfl rfl rfl ?_ | refine gl_guard_un rfl rfl rfl rfl rfl rfl ?_ | (refine gl_guard_yes rfl rfl rfl ?_; refine gl_f (s_move rfl) rfl rfl rfl ?_))
      (first | refine gl_guard_no rfl rfl rfl rfl rfl rfl rfl ?_ | refine gl_guard_un rfl rfl rfl rfl rfl rfl ?_ | (refine gl_guard_yes rfl rfl rfl ?_; refine gl_f (s_eql rfl rfl) rfl rfl rfl ?_))
      refine gl_f (by first | exact s_pick_t rfl rfl | exact s_pick_f rfl rfl) rfl rfl rfl ?_
      refine gl_f ((s_neq_bool rfl rfl).eq (v' := .bool false) rfl) rfl rfl rfl ?_
      refine gl_f (s_move rfl) rfl rfl rfl ?_
      (first | refine gl_guard_no rfl rfl rfl rfl rfl rfl rfl ?_ | refine gl_guard_un rfl rfl rfl rfl rfl rfl ?_ | (refine gl_guard_yes rfl rfl rfl ?_; refine gl_f (s_move rfl) rfl rfl rfl ?_))
      (first | refine gl_guard_no rfl rfl rfl rfl rfl rfl rfl ?_ | refine gl_guard_un rfl rfl rfl rfl rfl rfl ?_ | (refine gl_guard_yes rfl rfl rfl ?_; refine gl_f (s_not rfl) rfl rfl rfl ?_))
      refine gl_f (by first | exact s_pick_t rfl rfl | exact s_pick_f rfl rfl) rfl rfl rfl ?_
      refine gl_nil ?_
      repeat (first | refine g_seq ?_ | refine at_code ?_ | refine g_skip ?_ | refine g_block ?_ | refine g_exit rfl ?_ | refine g_cond_t rfl ?_ | refine g_cond_f rfl ?_)
      repeat (first | refine g_seq ?_ | refine at_code ?_ | refine g_skip ?_ | refine g_block ?_ | refine g_exit rfl ?_ | refine g_cond_t rfl ?_ | refine g_cond_f rfl ?_)
      refine g_region ?_
      refine gl_f (s_move rfl) rfl rfl rfl ?_
      refine gl_f (s_not rfl) rfl rfl rfl ?_
      refine gl_f (s_move rfl) rfl rfl rfl ?_
      (first | refine gl_guard_no rfl rfl rfl rfl rfl rfl rfl ?_ | refine gl_guard_un rfl rfl rfl rfl rfl rfl ?_ | (refine gl_guard_yes rfl rfl rfl ?_; refine gl_f (s_move rfl) rfl rfl rfl ?_))
      (first | refine gl_guard_no rfl rfl rfl rfl rfl rfl rfl ?_ | refine gl_guard_un rfl rfl rfl rfl rfl rfl ?_ | (refine gl_guard_yes rfl rfl rfl ?_; refine gl_f ((s_eql rfl rfl).eq (v' := .bool true) (congrArg Value.bool (decide_eq_true rfl))) rfl rfl rfl ?_))
      refine gl_f (by first | exact s_pick_t rfl rfl | exact s_pick_f rfl rfl) rfl rfl rfl ?_
      refine gl_f (s_assign rfl) rfl rfl rfl ?_
      refine gl_nil ?_
      repeat (first | refine g_seq ?_ | refine at_code ?_ | refine g_skip ?_ | refine g_block ?_ | refine g_exit rfl ?_ | refine g_cond_t rfl ?_ | refine g_cond_f rfl ?_)
      refine g_ret ?_
      exact at_end1 rfl rfl [] ⟨rfl, rfl⟩ (fun _ h => h.dropAll)
    · obtain rfl : b4 = false := by cases b4 <;> simp_all
      repeat (first | refine g_seq ?_ | refine at_code ?_ | refine g_skip ?_ | refine g_block ?_ | refine g_exit rfl ?_ | refine g_cond_t rfl ?_ | refine g_cond_f rfl ?_)
      refine g_region ?_
      refine gl_r (by first | exact s_load_blkW rfl (by repeat first|exact .del|apply Upd.there) (by rfl) | exact s_load_blkN rfl (by repeat first|exact .del|apply Upd.there) (by rfl)) rfl rfl rfl ?_
      refine gl_f (s_move rfl) rfl rfl rfl ?_
      refine gl_callp rfl (Term_ct h prev kf hp) (fun w hh _ => kr.2.le hh) rfl ?_; rw [← hb3]
      refine gl_f (s_move rfl) rfl rfl rfl ?_
      refine gl_f (s_extract rfl rfl) rfl rfl rfl ?_
      refine gl_f (s_extract rfl rfl) rfl rfl rfl ?_
      refine gl_f (s_assign rfl) rfl rfl rfl ?_
      refine gl_f (s_assign rfl) rfl rfl rfl ?_
      refine gl_nil ?_
      repeat (first | refine g_seq ?_ | refine at_code ?_ | refine g_skip ?_ | refine g_block ?_ | refine g_exit rfl ?_ | refine g_cond_t rfl ?_ | refine g_cond_f rfl ?_)
      repeat (first | refine g_seq ?_ | refine at_code ?_ | refine g_skip ?_ | refine g_block ?_ | refine g_exit rfl ?_ | refine g_cond_t rfl ?_ | refine g_cond_f rfl ?_)
      refine g_region ?_
      refine gl_f (s_move rfl) rfl rfl rfl ?_
      refine gl_f (s_move rfl) rfl rfl rfl ?_
      refine gl_f (s_move rfl) rfl rfl rfl ?_
      (first | refine gl_guard_no rfl rfl rfl rfl rfl rfl rfl ?_ | refine gl_guard_un rfl rfl rfl rfl rfl rfl ?_ | (refine gl_guard_yes rfl rfl rfl ?_; refine gl_f (s_move rfl) rfl rfl rfl ?_))
      (first | refine gl_guard_no rfl rfl rfl rfl rfl rfl rfl ?_ | refine gl_guard_un rfl rfl rfl rfl rfl rfl ?_ | (refine gl_guard_yes rfl rfl rfl ?_; refine gl_f (s_move rfl) rfl rfl rfl ?_))
      (first | refine gl_guard_no rfl rfl rfl rfl rfl rfl rfl ?_ | refine gl_guard_un rfl rfl rfl rfl rfl rfl ?_ | (refine gl_guard_yes rfl rfl rfl ?_; refine gl_f ((s_eql rfl rfl).eq (congrArg Value.bool hb4.symm)) rfl rfl rfl ?_))
      refine gl_f (by first | exact s_pick_t rfl rfl | exact s_pick_f rfl rfl) rfl rfl rfl ?_
      refine gl_f ((s_neq_bool rfl rfl).eq (v' := .bool false) rfl) rfl rfl rfl ?_
      refine gl_f (s_move rfl) rfl rfl rfl ?_
      (first | refine gl_guard_no rfl rfl rfl rfl rfl rfl rfl ?_ | refine gl_guard_un rfl rfl rfl rfl rfl rfl ?_ | (refine gl_guard_yes rfl rfl rfl ?_; refine gl_f (s_move rfl) rfl rfl rfl ?_))
      (first | refine gl_guard_no rfl rfl rfl rfl rfl rfl rfl ?_ | refine gl_guard_un rfl rfl rfl rfl rfl rfl ?_ | (refine gl_guard_yes rfl rfl rfl ?_; refine gl_f (s_not rfl) rfl rfl rfl ?_))
      refine gl_f (by first | exact s_pick_t rfl rfl | exact s_pick_f rfl rfl) rfl rfl rfl ?_
      refine gl_nil ?_
      repeat (first | refine g_seq ?_ | refine at_code ?_ | refine g_skip ?_ | refine g_block ?_ | refine g_exit rfl ?_ | refine g_cond_t rfl ?_ | refine g_cond_f rfl ?_)
      repeat (first | refine g_seq ?_ | refine at_code ?_ | refine g_skip ?_ | refine g_block ?_ | refine g_exit rfl ?_ | refine g_cond_t rfl ?_ | refine g_cond_f rfl ?_)
      refine g_region ?_
      refine gl_f (s_move rfl) rfl rfl rfl ?_
      refine gl_f (s_not rfl) rfl rfl rfl ?_
      refine gl_f (s_move rfl) rfl rfl rfl ?_
      (first | refine gl_guard_no rfl rfl rfl rfl rfl rfl rfl ?_ | refine gl_guard_un rfl rfl rfl rfl rfl rfl ?_ | (refine gl_guard_yes rfl rfl rfl ?_; refine gl_f (s_move rfl) rfl rfl rfl ?_))
      (first | refine gl_guard_no rfl rfl rfl rfl rfl rfl rfl ?_ | refine gl_guard_un rfl rfl rfl rfl rfl rfl ?_ | (refine gl_guard_yes rfl rfl rfl ?_; refine gl_f ((s_eql rfl rfl).eq (v' := .bool true) (congrArg Value.bool (decide_eq_true rfl))) rfl rfl rfl ?_))
      refine gl_f (by first | exact s_pick_t rfl rfl | exact s_pick_f rfl rfl) rfl rfl rfl ?_
      refine gl_f (s_assign rfl) rfl rfl rfl ?_
      refine gl_nil ?_
      repeat (first | refine g_seq ?_ | refine at_code ?_ | refine g_skip ?_ | refine g_block ?_ | refine g_exit rfl ?_ | refine g_cond_t rfl ?_ | refine g_cond_f rfl ?_)
      refine g_ret ?_
      exact at_end1 rfl rfl [] ⟨rfl, rfl⟩ (fun _ h => h.dropAll)
end Go.Proofs.Ytodcghipfolejaa
