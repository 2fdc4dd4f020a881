/- Tail: what is there already, merged again. -/
import Derived.Test.YtodcghipfolejaaU11
namespace Go.Proofs.Ytodcghipfolejaa
open Go Go.Sl
set_option linter.unusedVariables false
set_option linter.unusedSimpArgs false

theorem mrg_again (g : LM) (prev most : Int) (h0 : 0 ≤ g.base) (h : hasL g prev = true) : mrgL g prev (termV g prev) (sliceL g (prev + 1) most) = ⟨g.l, 0, true⟩ := by
  have hh := h
  simp only [hasL, Bool.and_eq_true, decide_eq_true_eq] at hh
  rw [mrgL, if_neg (by omega), mrgB, if_neg (by simp [h]), if_pos]
  refine firstD_end (fun k hk => ?_)
  unfold sliceL at hk ⊢
  split at hk
  · rename_i h1
    rw [List.length_take, List.length_drop] at hk
    rw [if_pos h1]
    have e1 : hasL g (prev + 1 + (k : Int)) = true := by
      simp only [hasL, Bool.and_eq_true, decide_eq_true_eq]; omega
    rw [same, e1, termV, if_pos e1, if_neg (by omega)]
    simp only [Bool.true_and, decide_eq_true_eq]
    rw [List.getD_eq_getElem?_getD, List.getD_eq_getElem?_getD, List.getElem?_take_of_lt (by omega), List.getElem?_drop]
    congr 4
    omega
  · simp at hk
theorem sameLg_self (g : LM) (a : Option Addr) (b : Nat) (c : Option Addr) (d : Nat) : sameLg ⟨g.base, g.bt, g.conf, g.l, a, b, c, d⟩ g = true := by simp [sameLg]
theorem right60_spec {g : LM} (h : right60 g = true) (h0 : 0 ≤ g.base) (hcap : g.l.length ≤ g.lc) : g.fit ∧ g.l.length ≤ 60 := by
  rw [right60, Bool.and_eq_true, decide_eq_true_eq] at h
  exact ⟨(rightG_fit h.1 h0 hcap).1, h.2⟩
set_option maxRecDepth 4000 in
set_option maxHeartbeats 4000000 in
theorem TailStays_ct (g : LM) (prev most : Int) (h0 : 0 ≤ g.base) (hcap : g.l.length ≤ g.lc) (hc : g.conf.length ≤ 9223372036854775807) (hl : g.l.length ≤ 9223372036854775807) (hp : 0 ≤ prev ∧ prev ≤ 18446744073709551615) (hm : -9223372036854775808 ≤ most ∧ most ≤ 9223372036854775807) : Pu Try.prog 11 [g.v, .int .u64 prev, .int .i64 most] g.ok (.bool true) := by
  refine ct_enter 48 Try.func11 rfl rfl rfl ?_
  intro F hr
  repeat (first | refine g_seq ?_ | refine at_code ?_ | refine g_skip ?_ | refine g_block ?_ | refine g_exit rfl ?_ | refine g_cond_t rfl ?_ | refine g_cond_f rfl ?_)
  refine g_region ?_
  refine gl_boxA rfl rfl ?_; intro g3
  refine gl_f (s_assign rfl) rfl rfl rfl ?_
  refine gl_nil ?_
  repeat (first | refine g_seq ?_ | refine at_code ?_ | refine g_skip ?_ | refine g_block ?_ | refine g_exit rfl ?_ | refine g_cond_t rfl ?_ | refine g_cond_f rfl ?_)
  refine g_region ?_
  refine gl_callp rfl talive_ct (fun _ _ _ => trivial) rfl ?_
  refine gl_f (s_not rfl) rfl rfl rfl ?_
  refine gl_nil ?_
  repeat (first | refine g_seq ?_ | refine at_code ?_ | refine g_skip ?_ | refine g_block ?_ | refine g_exit rfl ?_ | refine g_cond_t rfl ?_ | refine g_cond_f rfl ?_)
  obtain ⟨q, hq⟩ : ∃ q, q = right60 g := ⟨_, rfl⟩
  cases q
  · repeat (first | refine g_seq ?_ | refine at_code ?_ | refine g_skip ?_ | refine g_block ?_ | refine g_exit rfl ?_ | refine g_cond_t rfl ?_ | refine g_cond_f rfl ?_)
    refine g_region ?_
    refine gl_r (by first | exact s_load_blkW rfl (by repeat first|exact .del|apply Upd.there) (by rfl) | exact s_load_blkN rfl (by repeat first|exact .del|apply Upd.there) (by rfl)) rfl rfl rfl ?_
    refine gl_callp rfl (right_ct g hc hl) (fun h hh _ => hr.le hh) rfl ?_; rw [← hq]
    refine gl_f (s_not rfl) rfl rfl rfl ?_
    refine gl_nil ?_
    repeat (first | refine g_seq ?_ | refine at_code ?_ | refine g_skip ?_ | refine g_block ?_ | refine g_exit rfl ?_ | refine g_cond_t rfl ?_ | refine g_cond_f rfl ?_)
    repeat (first | refine g_seq ?_ | refine at_code ?_ | refine g_skip ?_ | refine g_block ?_ | refine g_exit rfl ?_ | refine g_cond_t rfl ?_ | refine g_cond_f rfl ?_)
    refine g_region ?_
    refine gl_f (s_assign rfl) rfl rfl rfl ?_
    refine gl_nil ?_
    repeat (first | refine g_seq ?_ | refine at_code ?_ | refine g_skip ?_ | refine g_block ?_ | refine g_exit rfl ?_ | refine g_cond_t rfl ?_ | refine g_cond_f rfl ?_)
    refine g_ret ?_
    exact at_end1 rfl rfl [] ⟨rfl, rfl⟩ (fun _ h => h.dropAll)
  obtain ⟨hf, hl60⟩ := right60_spec hq.symm h0 hcap
  have h1 := hf.lo
  have h2 := hf.hi
  have h3 := hf.len
  repeat (first | refine g_seq ?_ | refine at_code ?_ | refine g_skip ?_ | refine g_block ?_ | refine g_exit rfl ?_ | refine g_cond_t rfl ?_ | refine g_cond_f rfl ?_)
  refine g_region ?_
  refine gl_r (by first | exact s_load_blkW rfl (by repeat first|exact .del|apply Upd.there) (by rfl) | exact s_load_blkN rfl (by repeat first|exact .del|apply Upd.there) (by rfl)) rfl rfl rfl ?_
  refine gl_callp rfl (right_ct g hc hl) (fun h hh _ => hr.le hh) rfl ?_; rw [← hq]
  refine gl_f (s_not rfl) rfl rfl rfl ?_
  refine gl_nil ?_
  repeat (first | refine g_seq ?_ | refine at_code ?_ | refine g_skip ?_ | refine g_block ?_ | refine g_exit rfl ?_ | refine g_cond_t rfl ?_ | refine g_cond_f rfl ?_)
  obtain ⟨q2, hq2⟩ : ∃ q, q = hasL g prev := ⟨_, rfl⟩
  cases q2
  · repeat (first | refine g_seq ?_ | refine at_code ?_ | refine g_skip ?_ | refine g_block ?_ | refine g_exit rfl ?_ | refine g_cond_t rfl ?_ | refine g_cond_f rfl ?_)
    refine g_region ?_
    refine gl_r (by first | exact s_load_blkW rfl (by repeat first|exact .del|apply Upd.there) (by rfl) | exact s_load_blkN rfl (by repeat first|exact .del|apply Upd.there) (by rfl)) rfl rfl rfl ?_
    refine gl_f (s_move rfl) rfl rfl rfl ?_
    refine gl_callp rfl (Term_ct g prev hf hp) (fun h hh _ => hr.2.le hh) rfl ?_; rw [← hq2]
    refine gl_f (s_move rfl) rfl rfl rfl ?_
    refine gl_f (s_extract rfl rfl) rfl rfl rfl ?_
    refine gl_f (s_extract rfl rfl) rfl rfl rfl ?_
    refine gl_f (s_assign rfl) rfl rfl rfl ?_
    refine gl_f (s_assign rfl) rfl rfl rfl ?_
    refine gl_nil ?_
    repeat (first | refine g_seq ?_ | refine at_code ?_ | refine g_skip ?_ | refine g_block ?_ | refine g_exit rfl ?_ | refine g_cond_t rfl ?_ | refine g_cond_f rfl ?_)
    repeat (first | refine g_seq ?_ | refine at_code ?_ | refine g_skip ?_ | refine g_block ?_ | refine g_exit rfl ?_ | refine g_cond_t rfl ?_ | refine g_cond_f rfl ?_)
    refine g_region ?_
    refine gl_f (s_move rfl) rfl rfl rfl ?_
    refine gl_f (s_not rfl) rfl rfl rfl ?_
    refine gl_nil ?_
    repeat (first | refine g_seq ?_ | refine at_code ?_ | refine g_skip ?_ | refine g_block ?_ | refine g_exit rfl ?_ | refine g_cond_t rfl ?_ | refine g_cond_f rfl ?_)
    refine g_region ?_
    refine gl_f (s_assign rfl) rfl rfl rfl ?_
    refine gl_nil ?_
    repeat (first | refine g_seq ?_ | refine at_code ?_ | refine g_skip ?_ | refine g_block ?_ | refine g_exit rfl ?_ | refine g_cond_t rfl ?_ | refine g_cond_f rfl ?_)
    refine g_ret ?_
    exact at_end1 rfl rfl [] ⟨rfl, rfl⟩ (fun _ h => h.dropAll)
  have hh := hq2.symm
  simp only [hasL, Bool.and_eq_true, decide_eq_true_eq] at hh
  have hsl := slice_le g (prev + 1) most
  repeat (first | refine g_seq ?_ | refine at_code ?_ | refine g_skip ?_ | refine g_block ?_ | refine g_exit rfl ?_ | refine g_cond_t rfl ?_ | refine g_cond_f rfl ?_)
  refine g_region ?_
  refine gl_r (by first | exact s_load_blkW rfl (by repeat first|exact .del|apply Upd.there) (by rfl) | exact s_load_blkN rfl (by repeat first|exact .del|apply Upd.there) (by rfl)) rfl rfl rfl ?_
  refine gl_f (s_move rfl) rfl rfl rfl ?_
  refine gl_callp rfl (Term_ct g prev hf hp) (fun h hh _ => hr.2.le hh) rfl ?_; rw [← hq2]
  refine gl_f (s_move rfl) rfl rfl rfl ?_
  refine gl_f (s_extract rfl rfl) rfl rfl rfl ?_
  refine gl_f (s_extract rfl rfl) rfl rfl rfl ?_
  refine gl_f (s_assign rfl) rfl rfl rfl ?_
  refine gl_f (s_assign rfl) rfl rfl rfl ?_
  refine gl_nil ?_
  repeat (first | refine g_seq ?_ | refine at_code ?_ | refine g_skip ?_ | refine g_block ?_ | refine g_exit rfl ?_ | refine g_cond_t rfl ?_ | refine g_cond_f rfl ?_)
  repeat (first | refine g_seq ?_ | refine at_code ?_ | refine g_skip ?_ | refine g_block ?_ | refine g_exit rfl ?_ | refine g_cond_t rfl ?_ | refine g_cond_f rfl ?_)
  refine g_region ?_
  refine gl_f (s_move rfl) rfl rfl rfl ?_
  refine gl_f (s_not rfl) rfl rfl rfl ?_
  refine gl_nil ?_
  repeat (first | refine g_seq ?_ | refine at_code ?_ | refine g_skip ?_ | refine g_block ?_ | refine g_exit rfl ?_ | refine g_cond_t rfl ?_ | refine g_cond_f rfl ?_)
  refine g_draw [0, 3] [blkG g3 g.base g.bt g.ca g.conf.length g.cc g.la g.l.length g.lc] 17 rfl ?_
  (first | refine ga_read_k 0 rfl (by first | exact .head _ | exact .tail _ (.head _) | exact .tail _ (.tail _ (.head _)) | exact .tail _ (.tail _ (.tail _ (.head _)))) (s_load_blkW rfl .del (by rfl)) (by (first | exact fun _ h => h | (repeat first | exact sub_nil | refine sub_cons (by repeat first | exact List.Mem.head _ | apply List.Mem.tail) ?_))) rfl rfl rfl (by kernel_rfl) ?_ | refine ga_read_k 0 rfl (by first | exact .head _ | exact .tail _ (.head _) | exact .tail _ (.tail _ (.head _)) | exact .tail _ (.tail _ (.tail _ (.head _)))) (s_load_blkN rfl .del (by rfl)) (by (first | exact fun _ h => h | (repeat first | exact sub_nil | refine sub_cons (by repeat first | exact List.Mem.head _ | apply List.Mem.tail) ?_))) rfl rfl rfl (by kernel_rfl) ?_)
  refine ga_free 1 rfl (s_move rfl) rfl rfl rfl (by kernel_rfl) ?_
  refine ga_free 2 rfl (s_move rfl) rfl rfl rfl (by kernel_rfl) ?_
  (first | refine ga_read_k 3 rfl (by first | exact .head _ | exact .tail _ (.head _) | exact .tail _ (.tail _ (.head _)) | exact .tail _ (.tail _ (.tail _ (.head _)))) (s_load_blkW rfl .del (by rfl)) (by (first | exact fun _ h => h | (repeat first | exact sub_nil | refine sub_cons (by repeat first | exact List.Mem.head _ | apply List.Mem.tail) ?_))) rfl rfl rfl (by kernel_rfl) ?_ | refine ga_read_k 3 rfl (by first | exact .head _ | exact .tail _ (.head _) | exact .tail _ (.tail _ (.head _)) | exact .tail _ (.tail _ (.tail _ (.head _)))) (s_load_blkN rfl .del (by rfl)) (by (first | exact fun _ h => h | (repeat first | exact sub_nil | refine sub_cons (by repeat first | exact List.Mem.head _ | apply List.Mem.tail) ?_))) rfl rfl rfl (by kernel_rfl) ?_)
  refine ga_free 4 rfl (s_move rfl) rfl rfl rfl (by kernel_rfl) ?_
  refine ga_free 5 rfl (s_add_u64 rfl rfl (by omega)) rfl rfl rfl (by kernel_rfl) ?_
  refine ga_free 6 rfl (s_move rfl) rfl rfl rfl (by kernel_rfl) ?_
  refine ga_two 7 13 rfl rfl (by kernel_rfl) ?_ ?_
  refine gl_call _ rfl (Slice_ct g (prev + 1) most hf (by omega) hm) (fun w hw => hw) (fun h hh _ => hr.2.le hh) rfl ?_; rintro v A ⟨sa, sc, rfl, rfl⟩; refine gl_ownN (a := sa) (by repeat first|exact .del|apply Upd.there) (fun _ hcs _ => ?_)
  refine gl_nil ?_
  refine at_ga (.inr (by exact keeps_of (by (first | exact fun _ h => h | (repeat first | exact sub_nil | refine sub_cons (by repeat first | exact List.Mem.head _ | apply List.Mem.tail) ?_))))) ?_
  refine ga_two 8 13 rfl rfl (by kernel_rfl) ?_ ?_
  refine gl_call _ rfl (Merge_ct g prev (termV g prev) (sliceL g (prev + 1) most) sa sc hf hp (by omega) hcs) (fun w hw => hw) (fun h hh ⟨bs, hb⟩ => ⟨hr.le hh, Sat.rd (a := sa) hb (by repeat first|exact .del|apply Upd.there)⟩) rfl ?_; rw [mrg_again g prev most h0 hq2.symm]; rintro v A ⟨ma, mc, na, nc, rfl, rfl⟩
  refine gl_nil ?_
  refine at_ga (.inr (by exact keeps_of (by (first | exact fun _ h => h | (repeat first | exact sub_nil | refine sub_cons (by repeat first | exact List.Mem.head _ | apply List.Mem.tail) ?_))))) ?_
  refine ga_free 9 rfl (s_move rfl) rfl rfl rfl (by kernel_rfl) ?_
  refine ga_free 10 rfl (s_extract rfl rfl) rfl rfl rfl (by kernel_rfl) ?_
  refine ga_free 11 rfl (s_extract rfl rfl) rfl rfl rfl (by kernel_rfl) ?_
  refine ga_free 12 rfl (s_extract rfl rfl) rfl rfl rfl (by kernel_rfl) ?_
  refine ga_one 13 rfl (by kernel_rfl) ?_
  refine gl_allocA rfl ?_; intro g9
  refine gl_nil ?_
  refine at_ga (.inr (by exact keeps_of (by (first | exact fun _ h => h | (repeat first | exact sub_nil | refine sub_cons (by repeat first | exact List.Mem.head _ | apply List.Mem.tail) ?_))))) ?_
  refine ga_one 14 rfl (by kernel_rfl) ?_
  (first | refine gl_store_blkW rfl rfl (by repeat first|exact .here|apply Upd.there) (by rfl) (by rfl) (by (intro q hq; simp [Value.cells] at hq; first | (subst hq; rfl) | (rcases hq with rfl | rfl | rfl | rfl | rfl | rfl | rfl | rfl <;> rfl) | (rcases hq with rfl | rfl | rfl | rfl | rfl | rfl | rfl <;> rfl) | (rcases hq with rfl | rfl | rfl | rfl | rfl | rfl <;> rfl) | (rcases hq with rfl | rfl | rfl | rfl | rfl <;> rfl) | (rcases hq with rfl | rfl | rfl | rfl <;> rfl) | (rcases hq with rfl | rfl | rfl <;> rfl) | (rcases hq with rfl | rfl <;> rfl))) ?_ | refine gl_store_blk rfl rfl (by repeat first|exact .here|apply Upd.there) (by rfl) (by (intro q hq; simp [Value.cells] at hq; first | (subst hq; rfl) | (rcases hq with rfl | rfl | rfl | rfl | rfl | rfl | rfl | rfl <;> rfl) | (rcases hq with rfl | rfl | rfl | rfl | rfl | rfl | rfl <;> rfl) | (rcases hq with rfl | rfl | rfl | rfl | rfl | rfl <;> rfl) | (rcases hq with rfl | rfl | rfl | rfl | rfl <;> rfl) | (rcases hq with rfl | rfl | rfl | rfl <;> rfl) | (rcases hq with rfl | rfl | rfl <;> rfl) | (rcases hq with rfl | rfl <;> rfl))) (by rfl) ?_)
  refine gl_nil ?_
  refine at_ga (.inl (by kernel_rfl)) ?_
  refine ga_free 15 rfl (s_assign rfl) rfl rfl rfl (by kernel_rfl) ?_
  refine ga_free 16 rfl (s_assign rfl) rfl rfl rfl (by kernel_rfl) ?_
  refine ga_done (by kernel_rfl) ?_
  rotate_left 1
  refine gl_allocA rfl ?_; intro g9
  refine gl_nil ?_
  refine at_ga (.inr (by exact keeps_of (by (first | exact fun _ h => h | (repeat first | exact sub_nil | refine sub_cons (by repeat first | exact List.Mem.head _ | apply List.Mem.tail) ?_))))) ?_
  refine ga_one 8 rfl (by kernel_rfl) ?_
  refine gl_call _ rfl (Merge_ct g prev (termV g prev) (sliceL g (prev + 1) most) sa sc hf hp (by omega) hcs) (fun w hw => hw) (fun h hh ⟨bs, hb⟩ => ⟨hr.le hh, Sat.rd (a := sa) hb (by repeat first|exact .del|apply Upd.there)⟩) rfl ?_; rw [mrg_again g prev most h0 hq2.symm]; rintro v A ⟨ma, mc, na, nc, rfl, rfl⟩
  refine gl_nil ?_
  refine at_ga (.inr (by exact keeps_of (by (first | exact fun _ h => h | (repeat first | exact sub_nil | refine sub_cons (by repeat first | exact List.Mem.head _ | apply List.Mem.tail) ?_))))) ?_
  refine ga_free 9 rfl (s_move rfl) rfl rfl rfl (by kernel_rfl) ?_
  refine ga_free 10 rfl (s_extract rfl rfl) rfl rfl rfl (by kernel_rfl) ?_
  refine ga_free 11 rfl (s_extract rfl rfl) rfl rfl rfl (by kernel_rfl) ?_
  refine ga_free 12 rfl (s_extract rfl rfl) rfl rfl rfl (by kernel_rfl) ?_
  refine ga_one 14 rfl (by kernel_rfl) ?_
  (first | refine gl_store_blkW rfl rfl (by repeat first|exact .here|apply Upd.there) (by rfl) (by rfl) (by (intro q hq; simp [Value.cells] at hq; first | (subst hq; rfl) | (rcases hq with rfl | rfl | rfl | rfl | rfl | rfl | rfl | rfl <;> rfl) | (rcases hq with rfl | rfl | rfl | rfl | rfl | rfl | rfl <;> rfl) | (rcases hq with rfl | rfl | rfl | rfl | rfl | rfl <;> rfl) | (rcases hq with rfl | rfl | rfl | rfl | rfl <;> rfl) | (rcases hq with rfl | rfl | rfl | rfl <;> rfl) | (rcases hq with rfl | rfl | rfl <;> rfl) | (rcases hq with rfl | rfl <;> rfl))) ?_ | refine gl_store_blk rfl rfl (by repeat first|exact .here|apply Upd.there) (by rfl) (by (intro q hq; simp [Value.cells] at hq; first | (subst hq; rfl) | (rcases hq with rfl | rfl | rfl | rfl | rfl | rfl | rfl | rfl <;> rfl) | (rcases hq with rfl | rfl | rfl | rfl | rfl | rfl | rfl <;> rfl) | (rcases hq with rfl | rfl | rfl | rfl | rfl | rfl <;> rfl) | (rcases hq with rfl | rfl | rfl | rfl | rfl <;> rfl) | (rcases hq with rfl | rfl | rfl | rfl <;> rfl) | (rcases hq with rfl | rfl | rfl <;> rfl) | (rcases hq with rfl | rfl <;> rfl))) (by rfl) ?_)
  refine gl_nil ?_
  refine at_ga (.inl (by kernel_rfl)) ?_
  refine ga_free 15 rfl (s_assign rfl) rfl rfl rfl (by kernel_rfl) ?_
  refine ga_free 16 rfl (s_assign rfl) rfl rfl rfl (by kernel_rfl) ?_
  refine ga_done (by kernel_rfl) ?_
  rotate_left 1
  refine gl_allocA rfl ?_; intro g9
  refine gl_nil ?_
  refine at_ga (.inr (by exact keeps_of (by (first | exact fun _ h => h | (repeat first | exact sub_nil | refine sub_cons (by repeat first | exact List.Mem.head _ | apply List.Mem.tail) ?_))))) ?_
  refine ga_one 7 rfl (by kernel_rfl) ?_
  refine gl_call _ rfl (Slice_ct g (prev + 1) most hf (by omega) hm) (fun w hw => hw) (fun h hh _ => hr.2.le hh) rfl ?_; rintro v A ⟨sa, sc, rfl, rfl⟩; refine gl_ownN (a := sa) (by repeat first|exact .del|apply Upd.there) (fun _ hcs _ => ?_)
  refine gl_nil ?_
  refine at_ga (.inr (by exact keeps_of (by (first | exact fun _ h => h | (repeat first | exact sub_nil | refine sub_cons (by repeat first | exact List.Mem.head _ | apply List.Mem.tail) ?_))))) ?_
  refine ga_one 8 rfl (by kernel_rfl) ?_
  refine gl_call _ rfl (Merge_ct g prev (termV g prev) (sliceL g (prev + 1) most) sa sc hf hp (by omega) hcs) (fun w hw => hw) (fun h hh ⟨bs, hb⟩ => ⟨hr.le hh, Sat.rd (a := sa) hb (by repeat first|exact .del|apply Upd.there)⟩) rfl ?_; rw [mrg_again g prev most h0 hq2.symm]; rintro v A ⟨ma, mc, na, nc, rfl, rfl⟩
  refine gl_nil ?_
  refine at_ga (.inr (by exact keeps_of (by (first | exact fun _ h => h | (repeat first | exact sub_nil | refine sub_cons (by repeat first | exact List.Mem.head _ | apply List.Mem.tail) ?_))))) ?_
  refine ga_free 9 rfl (s_move rfl) rfl rfl rfl (by kernel_rfl) ?_
  refine ga_free 10 rfl (s_extract rfl rfl) rfl rfl rfl (by kernel_rfl) ?_
  refine ga_free 11 rfl (s_extract rfl rfl) rfl rfl rfl (by kernel_rfl) ?_
  refine ga_free 12 rfl (s_extract rfl rfl) rfl rfl rfl (by kernel_rfl) ?_
  refine ga_one 14 rfl (by kernel_rfl) ?_
  (first | refine gl_store_blkW rfl rfl (by repeat first|exact .here|apply Upd.there) (by rfl) (by rfl) (by (intro q hq; simp [Value.cells] at hq; first | (subst hq; rfl) | (rcases hq with rfl | rfl | rfl | rfl | rfl | rfl | rfl | rfl <;> rfl) | (rcases hq with rfl | rfl | rfl | rfl | rfl | rfl | rfl <;> rfl) | (rcases hq with rfl | rfl | rfl | rfl | rfl | rfl <;> rfl) | (rcases hq with rfl | rfl | rfl | rfl | rfl <;> rfl) | (rcases hq with rfl | rfl | rfl | rfl <;> rfl) | (rcases hq with rfl | rfl | rfl <;> rfl) | (rcases hq with rfl | rfl <;> rfl))) ?_ | refine gl_store_blk rfl rfl (by repeat first|exact .here|apply Upd.there) (by rfl) (by (intro q hq; simp [Value.cells] at hq; first | (subst hq; rfl) | (rcases hq with rfl | rfl | rfl | rfl | rfl | rfl | rfl | rfl <;> rfl) | (rcases hq with rfl | rfl | rfl | rfl | rfl | rfl | rfl <;> rfl) | (rcases hq with rfl | rfl | rfl | rfl | rfl | rfl <;> rfl) | (rcases hq with rfl | rfl | rfl | rfl | rfl <;> rfl) | (rcases hq with rfl | rfl | rfl | rfl <;> rfl) | (rcases hq with rfl | rfl | rfl <;> rfl) | (rcases hq with rfl | rfl <;> rfl))) (by rfl) ?_)
  refine gl_nil ?_
  refine at_ga (.inl (by kernel_rfl)) ?_
  refine ga_free 15 rfl (s_assign rfl) rfl rfl rfl (by kernel_rfl) ?_
  refine ga_free 16 rfl (s_assign rfl) rfl rfl rfl (by kernel_rfl) ?_
  refine ga_done (by kernel_rfl) ?_
  rotate_left 1
  all_goals (repeat (first | refine g_seq ?_ | refine at_code ?_ | refine g_skip ?_ | refine g_block ?_ | refine g_exit rfl ?_ | refine g_cond_t rfl ?_ | refine g_cond_f rfl ?_))
  all_goals (
    repeat (first | refine g_seq ?_ | refine at_code ?_ | refine g_skip ?_ | refine g_block ?_ | refine g_exit rfl ?_ | refine g_cond_t rfl ?_ | refine g_cond_f rfl ?_)
    refine g_region ?_
    refine gl_f (s_move rfl) rfl rfl rfl ?_
    refine gl_f (s_move rfl) rfl rfl rfl ?_
    (first | refine gl_guard_no rfl rfl rfl rfl rfl rfl rfl ?_ | refine gl_guard_un rfl rfl rfl rfl rfl rfl ?_ | (refine gl_guard_yes rfl rfl rfl ?_; refine gl_f (s_move rfl) rfl rfl rfl ?_))
    (first | refine gl_guard_no rfl rfl rfl rfl rfl rfl rfl ?_ | refine gl_guard_un rfl rfl rfl rfl rfl rfl ?_ | (refine gl_guard_yes rfl rfl rfl ?_; refine gl_f (s_eql rfl rfl) rfl rfl rfl ?_))
    refine gl_f (by first | exact s_pick_t rfl rfl | exact s_pick_f rfl rfl) rfl rfl rfl ?_
    refine gl_f (s_move rfl) rfl rfl rfl ?_
    (first | refine gl_guard_no rfl rfl rfl rfl rfl rfl rfl ?_ | refine gl_guard_un rfl rfl rfl rfl rfl rfl ?_ | (refine gl_guard_yes rfl rfl rfl ?_; refine gl_r (by first | exact s_load_blkW rfl (by repeat first|exact .del|apply Upd.there) (by rfl) | exact s_load_blkN rfl (by repeat first|exact .del|apply Upd.there) (by rfl)) rfl rfl rfl ?_))
    (first | refine gl_guard_no rfl rfl rfl rfl rfl rfl rfl ?_ | refine gl_guard_un rfl rfl rfl rfl rfl rfl ?_ | (refine gl_guard_yes rfl rfl rfl ?_; refine gl_r (by first | exact s_load_blkW rfl (by repeat first|exact .del|apply Upd.there) (by rfl) | exact s_load_blkN rfl (by repeat first|exact .del|apply Upd.there) (by rfl)) rfl rfl rfl ?_))
    (first | refine gl_guard_no rfl rfl rfl rfl rfl rfl rfl ?_ | refine gl_guard_un rfl rfl rfl rfl rfl rfl ?_ | (refine gl_guard_yes rfl rfl rfl ?_; refine gl_callp rfl (SameLogs_ct ⟨g.base, g.bt, g.conf, g.l, ma, mc, na, nc⟩ g (Nat.le_trans hf.cl (by decide)) (Nat.le_trans hf.len (by decide))) (fun h hh ⟨bs, hb⟩ => ⟨⟨Sat.rd (a := ma) hb (by repeat first|exact .del|apply Upd.there), Sat.rd (a := na) hb (by repeat first|exact .del|apply Upd.there)⟩, hr.le hh⟩) rfl ?_; rw [sameLg_self]))
    refine gl_f (by first | exact s_pick_t rfl rfl | exact s_pick_f rfl rfl) rfl rfl rfl ?_
    refine gl_f (s_assign rfl) rfl rfl rfl ?_
    refine gl_nil ?_
    repeat (first | refine g_seq ?_ | refine at_code ?_ | refine g_skip ?_ | refine g_block ?_ | refine g_exit rfl ?_ | refine g_cond_t rfl ?_ | refine g_cond_f rfl ?_))
  all_goals (
    refine g_ret ?_
    exact at_end1 rfl rfl [] ⟨rfl, rfl⟩ (fun _ h => h.dropAll))
end Go.Proofs.Ytodcghipfolejaa
