/- The walk of the reference's block. -/
import Derived.Test.YtolgclfbllcjhaaMG4
namespace Go.Proofs.Ytolgclfbllcjhaa.Dg
open Go Go.Sl
set_option linter.unusedVariables false
set_option linter.unusedSimpArgs false

theorem and_byte (a b : UInt8) (s t : Nat) (h : t + 8 ≤ s) (hs : s + 8 ≤ 32) : ((BitVec.ofNat 32 a.toNat : W) <<< s) &&& ((BitVec.ofNat 32 b.toNat : W) <<< t) = 0#32 := by
  apply BitVec.eq_of_getLsbD_eq
  intro i hi
  simp only [BitVec.getLsbD_and, BitVec.getLsbD_shiftLeft, BitVec.getLsbD_ofNat, BitVec.getLsbD_zero]
  by_cases h1 : i < s
  · simp [h1]
  · have : Nat.testBit b.toNat (i - t) = false := Nat.testBit_lt_two_pow (Nat.lt_of_lt_of_le b.toNat_lt (by
      have := Nat.pow_le_pow_right (n := 2) (by omega) (show 8 ≤ i - t by omega)
      simpa using this))
    simp [this]
theorem and_byte0 (a b : UInt8) (s : Nat) (h : 8 ≤ s) (hs : s + 8 ≤ 32) : ((BitVec.ofNat 32 a.toNat : W) <<< s) &&& (BitVec.ofNat 32 b.toNat : W) = 0#32 := by
  have := and_byte a b s 0 (by omega) hs
  simpa using this
theorem sum_word (a b c d : UInt8) : (BitVec.ofNat 32 a.toNat : W) <<< 24 + (BitVec.ofNat 32 b.toNat : W) <<< 16 + (BitVec.ofNat 32 c.toNat : W) <<< 8 + (BitVec.ofNat 32 d.toNat : W) =
    (BitVec.ofNat 32 a.toNat : W) <<< 24 ||| (BitVec.ofNat 32 b.toNat : W) <<< 16 ||| (BitVec.ofNat 32 c.toNat : W) <<< 8 ||| (BitVec.ofNat 32 d.toNat : W) := by
  rw [BitVec.add_eq_or_of_and_eq_zero _ _ (and_byte a b 24 16 (by omega) (by omega))]
  have e1 : ((BitVec.ofNat 32 a.toNat : W) <<< 24 ||| (BitVec.ofNat 32 b.toNat : W) <<< 16) &&& (BitVec.ofNat 32 c.toNat : W) <<< 8 = 0#32 := by
    rw [BitVec.and_comm, BitVec.and_or_distrib_left, BitVec.and_comm, and_byte a c 24 8 (by omega) (by omega), BitVec.and_comm, and_byte b c 16 8 (by omega) (by omega)]; rfl
  rw [BitVec.add_eq_or_of_and_eq_zero _ _ e1]
  have e2 : ((BitVec.ofNat 32 a.toNat : W) <<< 24 ||| (BitVec.ofNat 32 b.toNat : W) <<< 16 ||| (BitVec.ofNat 32 c.toNat : W) <<< 8) &&& (BitVec.ofNat 32 d.toNat : W) = 0#32 := by
    rw [BitVec.and_comm, BitVec.and_or_distrib_left, BitVec.and_or_distrib_left, BitVec.and_comm, and_byte0 a d 24 (by omega) (by omega), BitVec.and_comm, and_byte0 b d 16 (by omega) (by omega), BitVec.and_comm, and_byte0 c d 8 (by omega) (by omega)]; rfl
  rw [BitVec.add_eq_or_of_and_eq_zero _ _ e2]
theorem rd_byte {F : Snap} {w : World} {H : List As} {a : Option Addr} {l : List UInt8} (hw : Hp F w H) (r : RdS F.heap a (bytesV l)) {q i : Nat} (h : q = i) (hi : i < l.length) : PeekC (hp w) (addO a q) [.int .u8 ((l.getD i 0).toNat : Nat)] :=
  peek_rd hw r (by simp) (fun j u hu => by
    match j, hu with
    | 0, hu =>
      simp at hu; subst hu h
      simp [bytesV, hi])
theorem rd_some {h : Heap} {a : Option Addr} {l : List UInt8} (r : RdS h a (bytesV l)) (hl : 0 < l.length) : ∃ ad, a = some ad := by
  obtain ⟨ad, e, _⟩ := r (by simp [bytesV]; rintro rfl; simp at hl)
  exact ⟨ad, e⟩

set_option maxHeartbeats 1000000 in
theorem rblock_ct (S : Nat → W) (l : List UInt8) (hl : l.length = 64) (ma : Option Addr) (mc : Nat) :
    Pu Try.prog 101 [.agg (oct S).toArray, .slice ma 64 mc, .agg (kks.map W32).toArray] (fun h => RdS h ma (bytesV l)) (.agg (oct (blk S l)).toArray) := by
  refine ct_enter 212 Try.func101 rfl rfl rfl ?_
  intro F hrd
  have hsome := rd_some hrd (by omega)
  repeat (first | refine g_seq ?_ | refine at_code ?_ | refine g_skip ?_ | refine g_block ?_ | refine g_exit rfl ?_ | refine g_cond_t rfl ?_ | refine g_cond_f rfl ?_)
  refine g_region ?_
  refine gl_boxA rfl rfl ?_; intro g3
  refine gl_boxA rfl rfl ?_; intro g5
  refine gl_allocA rfl ?_; intro g6
  refine gl_nil ?_
  repeat (first | refine g_seq ?_ | refine at_code ?_ | refine g_skip ?_ | refine g_block ?_ | refine g_exit rfl ?_ | refine g_cond_t rfl ?_ | refine g_cond_f rfl ?_)
  refine g_region ?_
  refine gl_allocA rfl ?_; intro g7
  refine gl_nil ?_
  repeat (first | refine g_seq ?_ | refine at_code ?_ | refine g_skip ?_ | refine g_block ?_ | refine g_exit rfl ?_ | refine g_cond_t rfl ?_ | refine g_cond_f rfl ?_)
  refine g_region ?_
  refine gl_f (s_assign rfl) rfl rfl rfl ?_
  refine gl_nil ?_
  repeat (first | refine g_seq ?_ | refine at_code ?_ | refine g_skip ?_ | refine g_block ?_ | refine g_exit rfl ?_ | refine g_cond_t rfl ?_ | refine g_cond_f rfl ?_)
  refine g_loop (ι := Nat) (fun k => k ≤ 64) (fun k => [(1, .slice ma 64 mc), (3, .pointer (some ⟨g3, 0, none⟩)), (5, .pointer (some ⟨g5, 0, none⟩)), (6, .pointer (some ⟨g6, 0, none⟩)), (7, .pointer (some ⟨g7, 0, none⟩)), (8, .int .i64 (k : Nat))])
    (fun k => [.blk g7 (.cells (wcells l k) 132), .blk g6 (.cells (oct (fun _ => 0#32)).toArray 121), .blk g5 (.cells (kks.map W32).toArray 132), .blk g3 (.cells (oct S).toArray 121)]) (fun k => 64 - k) 0 (by omega) ?_ ?_ ?_
  · (repeat (first | exact Sub.nil _ | refine Sub.cons rfl ?_))
  · intro w hw
    rw [← zero64]
    exact hw
  · intro k hk
    repeat (first | refine g_seq ?_ | refine at_code ?_ | refine g_skip ?_ | refine g_block ?_ | refine g_exit rfl ?_ | refine g_cond_t rfl ?_ | refine g_cond_f rfl ?_)
    refine g_region ?_
    refine gl_f (s_move rfl) rfl rfl rfl ?_
    refine gl_f (s_lss rfl rfl) rfl rfl rfl ?_
    refine gl_nil ?_
    repeat (first | refine g_seq ?_ | refine at_code ?_ | refine g_skip ?_ | refine g_block ?_ | refine g_exit rfl ?_ | refine g_cond_t rfl ?_ | refine g_cond_f rfl ?_)
    refine g_cond rfl (fun h => ?_) (fun h => ?_)
    · simp only [decide_eq_true_eq] at h
      repeat (first | refine g_seq ?_ | refine at_code ?_ | refine g_skip ?_ | refine g_block ?_ | refine g_exit rfl ?_ | refine g_cond_t rfl ?_ | refine g_cond_f rfl ?_)
      refine g_region ?_
      refine gl_f (s_move rfl) rfl rfl rfl ?_
      refine gl_f (s_lss rfl rfl) rfl rfl rfl ?_
      refine gl_nil ?_
      repeat (first | refine g_seq ?_ | refine at_code ?_ | refine g_skip ?_ | refine g_block ?_ | refine g_exit rfl ?_ | refine g_cond_t rfl ?_ | refine g_cond_f rfl ?_)
      refine g_cond rfl (fun h16 => ?_) (fun h16 => ?_)
      · simp only [decide_eq_true_eq] at h16
        repeat (first | refine g_seq ?_ | refine at_code ?_ | refine g_skip ?_ | refine g_block ?_ | refine g_exit rfl ?_ | refine g_cond_t rfl ?_ | refine g_cond_f rfl ?_)
        refine g_draw0 [5, 13, 22, 31] 36 rfl ?_
        refine ga_free 0 rfl (s_move rfl) rfl rfl rfl (by kernel_rfl) ?_
        refine ga_free 1 rfl (s_move rfl) rfl rfl rfl (by kernel_rfl) ?_
        refine ga_free 2 rfl (s_move rfl) rfl rfl rfl (by kernel_rfl) ?_
        refine ga_free 3 rfl (s_mul_i64 rfl rfl (by omega)) rfl rfl rfl (by kernel_rfl) ?_
        refine ga_free 4 rfl (s_indexAddr rfl hsome rfl (by omega)) rfl rfl rfl (by kernel_rfl) ?_
        refine ga_readF 5 rfl (s_load1 rfl (fun w hw => rd_byte hw hrd (i := 4 * k) (by omega) (by omega))) (by (first | exact fun _ h => h | (repeat first | exact sub_nil | refine sub_cons (by repeat first | exact List.Mem.head _ | apply List.Mem.tail) ?_))) rfl rfl rfl (by kernel_rfl) ?_
        refine ga_free 6 rfl (s_convW _ rfl) rfl rfl rfl (by kernel_rfl) ?_
        refine ga_free 7 rfl (s_shlW 24 rfl rfl rfl (by omega)) rfl rfl rfl (by kernel_rfl) ?_
        refine ga_free 8 rfl (s_move rfl) rfl rfl rfl (by kernel_rfl) ?_
        refine ga_free 9 rfl (s_move rfl) rfl rfl rfl (by kernel_rfl) ?_
        refine ga_free 10 rfl (s_mul_i64 rfl rfl (by omega)) rfl rfl rfl (by kernel_rfl) ?_
        refine ga_free 11 rfl (s_add_i64 rfl rfl (by omega)) rfl rfl rfl (by kernel_rfl) ?_
        refine ga_free 12 rfl (s_indexAddr rfl hsome rfl (by omega)) rfl rfl rfl (by kernel_rfl) ?_
        refine ga_readF 13 rfl (s_load1 rfl (fun w hw => rd_byte hw hrd (i := 4 * k + 1) (by omega) (by omega))) (by (first | exact fun _ h => h | (repeat first | exact sub_nil | refine sub_cons (by repeat first | exact List.Mem.head _ | apply List.Mem.tail) ?_))) rfl rfl rfl (by kernel_rfl) ?_
        refine ga_free 14 rfl (s_convW _ rfl) rfl rfl rfl (by kernel_rfl) ?_
        refine ga_free 15 rfl (s_shlW 16 rfl rfl rfl (by omega)) rfl rfl rfl (by kernel_rfl) ?_
        refine ga_free 16 rfl (s_addW rfl rfl) rfl rfl rfl (by kernel_rfl) ?_
        refine ga_free 17 rfl (s_move rfl) rfl rfl rfl (by kernel_rfl) ?_
        refine ga_free 18 rfl (s_move rfl) rfl rfl rfl (by kernel_rfl) ?_
        refine ga_free 19 rfl (s_mul_i64 rfl rfl (by omega)) rfl rfl rfl (by kernel_rfl) ?_
        refine ga_free 20 rfl (s_add_i64 rfl rfl (by omega)) rfl rfl rfl (by kernel_rfl) ?_
        refine ga_free 21 rfl (s_indexAddr rfl hsome rfl (by omega)) rfl rfl rfl (by kernel_rfl) ?_
        refine ga_readF 22 rfl (s_load1 rfl (fun w hw => rd_byte hw hrd (i := 4 * k + 2) (by omega) (by omega))) (by (first | exact fun _ h => h | (repeat first | exact sub_nil | refine sub_cons (by repeat first | exact List.Mem.head _ | apply List.Mem.tail) ?_))) rfl rfl rfl (by kernel_rfl) ?_
        refine ga_free 23 rfl (s_convW _ rfl) rfl rfl rfl (by kernel_rfl) ?_
        refine ga_free 24 rfl (s_shlW 8 rfl rfl rfl (by omega)) rfl rfl rfl (by kernel_rfl) ?_
        refine ga_free 25 rfl (s_addW rfl rfl) rfl rfl rfl (by kernel_rfl) ?_
        refine ga_free 26 rfl (s_move rfl) rfl rfl rfl (by kernel_rfl) ?_
        refine ga_free 27 rfl (s_move rfl) rfl rfl rfl (by kernel_rfl) ?_
        refine ga_free 28 rfl (s_mul_i64 rfl rfl (by omega)) rfl rfl rfl (by kernel_rfl) ?_
        refine ga_free 29 rfl (s_add_i64 rfl rfl (by omega)) rfl rfl rfl (by kernel_rfl) ?_
        refine ga_free 30 rfl (s_indexAddr rfl hsome rfl (by omega)) rfl rfl rfl (by kernel_rfl) ?_
        refine ga_readF 31 rfl (s_load1 rfl (fun w hw => rd_byte hw hrd (i := 4 * k + 3) (by omega) (by omega))) (by (first | exact fun _ h => h | (repeat first | exact sub_nil | refine sub_cons (by repeat first | exact List.Mem.head _ | apply List.Mem.tail) ?_))) rfl rfl rfl (by kernel_rfl) ?_
        refine ga_free 32 rfl (s_convW _ rfl) rfl rfl rfl (by kernel_rfl) ?_
        refine ga_free 33 rfl (s_addW rfl rfl) rfl rfl rfl (by kernel_rfl) ?_
        refine ga_free 34 rfl (s_indexAddr_arr rfl rfl (by omega)) rfl rfl rfl (by kernel_rfl) ?_
        refine ga_one 35 rfl (by kernel_rfl) ?_
        refine gl_store_blkP rfl rfl (by repeat first|exact .here|apply Upd.there) (by rfl) (by (intro q hq; simp [Value.cells] at hq; first | (subst hq; rfl) | (rcases hq with rfl | rfl | rfl | rfl | rfl | rfl | rfl | rfl <;> rfl) | (rcases hq with rfl | rfl | rfl | rfl | rfl | rfl | rfl <;> rfl) | (rcases hq with rfl | rfl | rfl | rfl | rfl | rfl <;> rfl) | (rcases hq with rfl | rfl | rfl | rfl | rfl <;> rfl) | (rcases hq with rfl | rfl | rfl | rfl <;> rfl) | (rcases hq with rfl | rfl | rfl <;> rfl) | (rcases hq with rfl | rfl <;> rfl))) (by rw [wcells_size l k (by omega)]; omega) ?_
        refine gl_nil ?_
        refine at_ga (.inl (by kernel_rfl)) ?_
        refine ga_done (by kernel_rfl) ?_
        repeat (first | refine g_seq ?_ | refine at_code ?_ | refine g_skip ?_ | refine g_block ?_ | refine g_exit rfl ?_ | refine g_cond_t rfl ?_ | refine g_cond_f rfl ?_)
        repeat (first | refine g_seq ?_ | refine at_code ?_ | refine g_skip ?_ | refine g_block ?_ | refine g_exit rfl ?_ | refine g_cond_t rfl ?_ | refine g_cond_f rfl ?_)
        refine g_region ?_
        refine gl_f (s_move rfl) rfl rfl rfl ?_
        refine gl_f (s_add_i64 rfl rfl (by omega)) rfl rfl rfl ?_
        refine gl_f (s_assign rfl) rfl rfl rfl ?_
        refine gl_nil ?_
        repeat (first | refine g_seq ?_ | refine at_code ?_ | refine g_skip ?_ | refine g_block ?_ | refine g_exit rfl ?_ | refine g_cond_t rfl ?_ | refine g_cond_f rfl ?_)
        refine at_next (k + 1) (by omega) (by omega) ?_ ?_
        · (repeat (first | exact Sub.nil _ | refine Sub.cons rfl ?_))
        · intro w hw
          rw [← wput l (o := 0 + (k : Int).toNat * 1) (by omega) (by omega) (by rw [sched_lo l (by omega)])]
          rw [sum_word] at hw
          exact hw
      · simp only [decide_eq_false_iff_not] at h16
        repeat (first | refine g_seq ?_ | refine at_code ?_ | refine g_skip ?_ | refine g_block ?_ | refine g_exit rfl ?_ | refine g_cond_t rfl ?_ | refine g_cond_f rfl ?_)
        refine g_draw0 [3, 7] 10 rfl ?_
        refine ga_free 0 rfl (s_move rfl) rfl rfl rfl (by kernel_rfl) ?_
        refine ga_free 1 rfl (s_sub_i64 rfl rfl (by omega)) rfl rfl rfl (by kernel_rfl) ?_
        refine ga_free 2 rfl (s_indexAddr_arr rfl rfl (by omega)) rfl rfl rfl (by kernel_rfl) ?_
        refine ga_read 3 rfl (by repeat first|exact .del|apply Upd.there) (s_load_blk rfl .del (wget l (i := k - 15) (by omega) (by omega))) rfl rfl rfl (by kernel_rfl) ?_
        refine ga_free 4 rfl (s_move rfl) rfl rfl rfl (by kernel_rfl) ?_
        refine ga_free 5 rfl (s_sub_i64 rfl rfl (by omega)) rfl rfl rfl (by kernel_rfl) ?_
        refine ga_free 6 rfl (s_indexAddr_arr rfl rfl (by omega)) rfl rfl rfl (by kernel_rfl) ?_
        refine ga_read 7 rfl (by repeat first|exact .del|apply Upd.there) (s_load_blk rfl .del (wget l (i := k - 2) (by omega) (by omega))) rfl rfl rfl (by kernel_rfl) ?_
        refine ga_free 8 rfl (s_assign rfl) rfl rfl rfl (by kernel_rfl) ?_
        refine ga_free 9 rfl (s_assign rfl) rfl rfl rfl (by kernel_rfl) ?_
        refine ga_done (by kernel_rfl) ?_
        repeat (first | refine g_seq ?_ | refine at_code ?_ | refine g_skip ?_ | refine g_block ?_ | refine g_exit rfl ?_ | refine g_cond_t rfl ?_ | refine g_cond_f rfl ?_)
        repeat (first | refine g_seq ?_ | refine at_code ?_ | refine g_skip ?_ | refine g_block ?_ | refine g_exit rfl ?_ | refine g_cond_t rfl ?_ | refine g_cond_f rfl ?_)
        refine g_draw0 [12, 26] 30 rfl ?_
        refine ga_free 0 rfl (s_move rfl) rfl rfl rfl (by kernel_rfl) ?_
        refine ga_free 1 rfl (s_move rfl) rfl rfl rfl (by kernel_rfl) ?_
        refine ga_free 3 rfl (s_move rfl) rfl rfl rfl (by kernel_rfl) ?_
        refine ga_free 6 rfl (s_move rfl) rfl rfl rfl (by kernel_rfl) ?_
        refine ga_free 7 rfl (s_shrW 10 rfl rfl rfl (by omega)) rfl rfl rfl (by kernel_rfl) ?_
        refine ga_free 9 rfl (s_move rfl) rfl rfl rfl (by kernel_rfl) ?_
        refine ga_free 10 rfl (s_sub_i64 rfl rfl (by omega)) rfl rfl rfl (by kernel_rfl) ?_
        refine ga_free 11 rfl (s_indexAddr_arr rfl rfl (by omega)) rfl rfl rfl (by kernel_rfl) ?_
        refine ga_read 12 rfl (by repeat first|exact .del|apply Upd.there) (s_load_blk rfl .del (wget l (i := k - 7) (by omega) (by omega))) rfl rfl rfl (by kernel_rfl) ?_
        refine ga_free 14 rfl (s_move rfl) rfl rfl rfl (by kernel_rfl) ?_
        refine ga_free 16 rfl (s_move rfl) rfl rfl rfl (by kernel_rfl) ?_
        refine ga_free 19 rfl (s_move rfl) rfl rfl rfl (by kernel_rfl) ?_
        refine ga_free 20 rfl (s_shrW 3 rfl rfl rfl (by omega)) rfl rfl rfl (by kernel_rfl) ?_
        refine ga_free 23 rfl (s_move rfl) rfl rfl rfl (by kernel_rfl) ?_
        refine ga_free 24 rfl (s_sub_i64 rfl rfl (by omega)) rfl rfl rfl (by kernel_rfl) ?_
        refine ga_free 25 rfl (s_indexAddr_arr rfl rfl (by omega)) rfl rfl rfl (by kernel_rfl) ?_
        refine ga_read 26 rfl (by repeat first|exact .del|apply Upd.there) (s_load_blk rfl .del (wget l (i := k - 16) (by omega) (by omega))) rfl rfl rfl (by kernel_rfl) ?_
        refine ga_one 2 rfl (by kernel_rfl) ?_
        refine gl_callp rfl (turn_ct _ _ 17 rfl (by omega)) (fun _ _ _ => trivial) rfl ?_
        refine gl_nil ?_
        refine at_ga (.inr (by exact keeps_of (by (first | exact fun _ h => h | (repeat first | exact sub_nil | refine sub_cons (by repeat first | exact List.Mem.head _ | apply List.Mem.tail) ?_))))) ?_
        refine ga_one 4 rfl (by kernel_rfl) ?_
        refine gl_callp rfl (turn_ct _ _ 19 rfl (by omega)) (fun _ _ _ => trivial) rfl ?_
        refine gl_nil ?_
        refine at_ga (.inr (by exact keeps_of (by (first | exact fun _ h => h | (repeat first | exact sub_nil | refine sub_cons (by repeat first | exact List.Mem.head _ | apply List.Mem.tail) ?_))))) ?_
        refine ga_free 5 rfl (s_xorW rfl rfl) rfl rfl rfl (by kernel_rfl) ?_
        refine ga_free 8 rfl (s_xorW rfl rfl) rfl rfl rfl (by kernel_rfl) ?_
        refine ga_free 13 rfl (s_addW rfl rfl) rfl rfl rfl (by kernel_rfl) ?_
        refine ga_one 15 rfl (by kernel_rfl) ?_
        refine gl_callp rfl (turn_ct _ _ 7 rfl (by omega)) (fun _ _ _ => trivial) rfl ?_
        refine gl_nil ?_
        refine at_ga (.inr (by exact keeps_of (by (first | exact fun _ h => h | (repeat first | exact sub_nil | refine sub_cons (by repeat first | exact List.Mem.head _ | apply List.Mem.tail) ?_))))) ?_
        refine ga_one 17 rfl (by kernel_rfl) ?_
        refine gl_callp rfl (turn_ct _ _ 18 rfl (by omega)) (fun _ _ _ => trivial) rfl ?_
        refine gl_nil ?_
        refine at_ga (.inr (by exact keeps_of (by (first | exact fun _ h => h | (repeat first | exact sub_nil | refine sub_cons (by repeat first | exact List.Mem.head _ | apply List.Mem.tail) ?_))))) ?_
        refine ga_free 18 rfl (s_xorW rfl rfl) rfl rfl rfl (by kernel_rfl) ?_
        refine ga_free 21 rfl (s_xorW rfl rfl) rfl rfl rfl (by kernel_rfl) ?_
        refine ga_free 22 rfl (s_addW rfl rfl) rfl rfl rfl (by kernel_rfl) ?_
        refine ga_free 27 rfl (s_addW rfl rfl) rfl rfl rfl (by kernel_rfl) ?_
        refine ga_free 28 rfl (s_indexAddr_arr rfl rfl (by omega)) rfl rfl rfl (by kernel_rfl) ?_
        refine ga_one 29 rfl (by kernel_rfl) ?_
        refine gl_store_blkP rfl rfl (by repeat first|exact .here|apply Upd.there) (by rfl) (by (intro q hq; simp [Value.cells] at hq; first | (subst hq; rfl) | (rcases hq with rfl | rfl | rfl | rfl | rfl | rfl | rfl | rfl <;> rfl) | (rcases hq with rfl | rfl | rfl | rfl | rfl | rfl | rfl <;> rfl) | (rcases hq with rfl | rfl | rfl | rfl | rfl | rfl <;> rfl) | (rcases hq with rfl | rfl | rfl | rfl | rfl <;> rfl) | (rcases hq with rfl | rfl | rfl | rfl <;> rfl) | (rcases hq with rfl | rfl | rfl <;> rfl) | (rcases hq with rfl | rfl <;> rfl))) (by rw [wcells_size l k (by omega)]; omega) ?_
        refine gl_nil ?_
        refine at_ga (.inl (by kernel_rfl)) ?_
        refine ga_done (by kernel_rfl) ?_
        repeat (first | refine g_seq ?_ | refine at_code ?_ | refine g_skip ?_ | refine g_block ?_ | refine g_exit rfl ?_ | refine g_cond_t rfl ?_ | refine g_cond_f rfl ?_)
        repeat (first | refine g_seq ?_ | refine at_code ?_ | refine g_skip ?_ | refine g_block ?_ | refine g_exit rfl ?_ | refine g_cond_t rfl ?_ | refine g_cond_f rfl ?_)
        refine g_region ?_
        refine gl_f (s_move rfl) rfl rfl rfl ?_
        refine gl_f (s_add_i64 rfl rfl (by omega)) rfl rfl rfl ?_
        refine gl_f (s_assign rfl) rfl rfl rfl ?_
        refine gl_nil ?_
        repeat (first | refine g_seq ?_ | refine at_code ?_ | refine g_skip ?_ | refine g_block ?_ | refine g_exit rfl ?_ | refine g_cond_t rfl ?_ | refine g_cond_f rfl ?_)
        refine at_next (k + 1) (by omega) (by omega) ?_ ?_
        · (repeat (first | exact Sub.nil _ | refine Sub.cons rfl ?_))
        · intro w hw
          rw [← wput l (o := 0 + (k : Int).toNat * 1) (by omega) (by omega) (by rw [sched_hi l (by omega)])]
          exact hw
    · have hk64 : k = 64 := by simp at h; omega
      subst hk64
      repeat (first | refine g_seq ?_ | refine at_code ?_ | refine g_skip ?_ | refine g_block ?_ | refine g_exit rfl ?_ | refine g_cond_t rfl ?_ | refine g_cond_f rfl ?_)
      refine g_pull (H' := [.blk g3 (.cells (oct S).toArray 121), .blk g7 (.cells (wcells l 64) 132), .blk g6 (.cells (oct (fun _ => 0#32)).toArray 121), .blk g5 (.cells (kks.map W32).toArray 132)]) (fun w hw => hw.front (.there (.there (.there .del)))) ?_
      repeat (first | refine g_seq ?_ | refine at_code ?_ | refine g_skip ?_ | refine g_block ?_ | refine g_exit rfl ?_ | refine g_cond_t rfl ?_ | refine g_cond_f rfl ?_)
      refine g_draw0 [1, 3, 5, 7, 9, 11, 13, 15] 24 rfl ?_
      refine ga_free 0 rfl (s_indexAddr_arr rfl rfl (by omega)) rfl rfl rfl (by kernel_rfl) ?_
      (first | refine ga_read 1 rfl (by repeat first|exact .del|apply Upd.there) (s_load_blk rfl .del (by rfl)) rfl rfl rfl (by kernel_rfl) ?_ | refine ga_readF 1 rfl (s_load1 rfl (fun w hw => peekB hw (by assumption) (by rfl))) (by (first | exact fun _ h => h | (repeat first | exact sub_nil | refine sub_cons (by repeat first | exact List.Mem.head _ | apply List.Mem.tail) ?_))) rfl rfl rfl (by kernel_rfl) ?_)
      refine ga_free 2 rfl (s_indexAddr_arr rfl rfl (by omega)) rfl rfl rfl (by kernel_rfl) ?_
      (first | refine ga_read 3 rfl (by repeat first|exact .del|apply Upd.there) (s_load_blk rfl .del (by rfl)) rfl rfl rfl (by kernel_rfl) ?_ | refine ga_readF 3 rfl (s_load1 rfl (fun w hw => peekB hw (by assumption) (by rfl))) (by (first | exact fun _ h => h | (repeat first | exact sub_nil | refine sub_cons (by repeat first | exact List.Mem.head _ | apply List.Mem.tail) ?_))) rfl rfl rfl (by kernel_rfl) ?_)
      refine ga_free 4 rfl (s_indexAddr_arr rfl rfl (by omega)) rfl rfl rfl (by kernel_rfl) ?_
      (first | refine ga_read 5 rfl (by repeat first|exact .del|apply Upd.there) (s_load_blk rfl .del (by rfl)) rfl rfl rfl (by kernel_rfl) ?_ | refine ga_readF 5 rfl (s_load1 rfl (fun w hw => peekB hw (by assumption) (by rfl))) (by (first | exact fun _ h => h | (repeat first | exact sub_nil | refine sub_cons (by repeat first | exact List.Mem.head _ | apply List.Mem.tail) ?_))) rfl rfl rfl (by kernel_rfl) ?_)
      refine ga_free 6 rfl (s_indexAddr_arr rfl rfl (by omega)) rfl rfl rfl (by kernel_rfl) ?_
      (first | refine ga_read 7 rfl (by repeat first|exact .del|apply Upd.there) (s_load_blk rfl .del (by rfl)) rfl rfl rfl (by kernel_rfl) ?_ | refine ga_readF 7 rfl (s_load1 rfl (fun w hw => peekB hw (by assumption) (by rfl))) (by (first | exact fun _ h => h | (repeat first | exact sub_nil | refine sub_cons (by repeat first | exact List.Mem.head _ | apply List.Mem.tail) ?_))) rfl rfl rfl (by kernel_rfl) ?_)
      refine ga_free 8 rfl (s_indexAddr_arr rfl rfl (by omega)) rfl rfl rfl (by kernel_rfl) ?_
      (first | refine ga_read 9 rfl (by repeat first|exact .del|apply Upd.there) (s_load_blk rfl .del (by rfl)) rfl rfl rfl (by kernel_rfl) ?_ | refine ga_readF 9 rfl (s_load1 rfl (fun w hw => peekB hw (by assumption) (by rfl))) (by (first | exact fun _ h => h | (repeat first | exact sub_nil | refine sub_cons (by repeat first | exact List.Mem.head _ | apply List.Mem.tail) ?_))) rfl rfl rfl (by kernel_rfl) ?_)
      refine ga_free 10 rfl (s_indexAddr_arr rfl rfl (by omega)) rfl rfl rfl (by kernel_rfl) ?_
      (first | refine ga_read 11 rfl (by repeat first|exact .del|apply Upd.there) (s_load_blk rfl .del (by rfl)) rfl rfl rfl (by kernel_rfl) ?_ | refine ga_readF 11 rfl (s_load1 rfl (fun w hw => peekB hw (by assumption) (by rfl))) (by (first | exact fun _ h => h | (repeat first | exact sub_nil | refine sub_cons (by repeat first | exact List.Mem.head _ | apply List.Mem.tail) ?_))) rfl rfl rfl (by kernel_rfl) ?_)
      refine ga_free 12 rfl (s_indexAddr_arr rfl rfl (by omega)) rfl rfl rfl (by kernel_rfl) ?_
      (first | refine ga_read 13 rfl (by repeat first|exact .del|apply Upd.there) (s_load_blk rfl .del (by rfl)) rfl rfl rfl (by kernel_rfl) ?_ | refine ga_readF 13 rfl (s_load1 rfl (fun w hw => peekB hw (by assumption) (by rfl))) (by (first | exact fun _ h => h | (repeat first | exact sub_nil | refine sub_cons (by repeat first | exact List.Mem.head _ | apply List.Mem.tail) ?_))) rfl rfl rfl (by kernel_rfl) ?_)
      refine ga_free 14 rfl (s_indexAddr_arr rfl rfl (by omega)) rfl rfl rfl (by kernel_rfl) ?_
      (first | refine ga_read 15 rfl (by repeat first|exact .del|apply Upd.there) (s_load_blk rfl .del (by rfl)) rfl rfl rfl (by kernel_rfl) ?_ | refine ga_readF 15 rfl (s_load1 rfl (fun w hw => peekB hw (by assumption) (by rfl))) (by (first | exact fun _ h => h | (repeat first | exact sub_nil | refine sub_cons (by repeat first | exact List.Mem.head _ | apply List.Mem.tail) ?_))) rfl rfl rfl (by kernel_rfl) ?_)
      refine ga_free 16 rfl (s_assign rfl) rfl rfl rfl (by kernel_rfl) ?_
      refine ga_free 17 rfl (s_assign rfl) rfl rfl rfl (by kernel_rfl) ?_
      refine ga_free 18 rfl (s_assign rfl) rfl rfl rfl (by kernel_rfl) ?_
      refine ga_free 19 rfl (s_assign rfl) rfl rfl rfl (by kernel_rfl) ?_
      refine ga_free 20 rfl (s_assign rfl) rfl rfl rfl (by kernel_rfl) ?_
      refine ga_free 21 rfl (s_assign rfl) rfl rfl rfl (by kernel_rfl) ?_
      refine ga_free 22 rfl (s_assign rfl) rfl rfl rfl (by kernel_rfl) ?_
      refine ga_free 23 rfl (s_assign rfl) rfl rfl rfl (by kernel_rfl) ?_
      refine ga_done (by kernel_rfl) ?_
      repeat (first | refine g_seq ?_ | refine at_code ?_ | refine g_skip ?_ | refine g_block ?_ | refine g_exit rfl ?_ | refine g_cond_t rfl ?_ | refine g_cond_f rfl ?_)
      repeat (first | refine g_seq ?_ | refine at_code ?_ | refine g_skip ?_ | refine g_block ?_ | refine g_exit rfl ?_ | refine g_cond_t rfl ?_ | refine g_cond_f rfl ?_)
      refine g_region ?_
      refine gl_f (s_assign rfl) rfl rfl rfl ?_
      refine gl_nil ?_
      repeat (first | refine g_seq ?_ | refine at_code ?_ | refine g_skip ?_ | refine g_block ?_ | refine g_exit rfl ?_ | refine g_cond_t rfl ?_ | refine g_cond_f rfl ?_)
      refine g_loop (ι := Nat) (fun k => k ≤ 64) (fun k => [(3, .pointer (some ⟨g3, 0, none⟩)), (5, .pointer (some ⟨g5, 0, none⟩)), (6, .pointer (some ⟨g6, 0, none⟩)), (7, .pointer (some ⟨g7, 0, none⟩)), (11, W32 (rounds l S k 0)), (12, W32 (rounds l S k 1)), (13, W32 (rounds l S k 2)), (14, W32 (rounds l S k 3)), (15, W32 (rounds l S k 4)), (16, W32 (rounds l S k 5)), (17, W32 (rounds l S k 6)), (18, W32 (rounds l S k 7)), (19, .int .i64 (k : Nat))])
        (fun k => [.blk g3 (.cells (oct S).toArray 121), .blk g7 (.cells (wcells l 64) 132), .blk g6 (.cells (oct (fun _ => 0#32)).toArray 121), .blk g5 (.cells (kks.map W32).toArray 132)]) (fun k => 64 - k) 0 (by omega) ?_ ?_ ?_
      · (repeat (first | exact Sub.nil _ | refine Sub.cons rfl ?_))
      · intro w hw; exact hw
      · intro k hk
        repeat (first | refine g_seq ?_ | refine at_code ?_ | refine g_skip ?_ | refine g_block ?_ | refine g_exit rfl ?_ | refine g_cond_t rfl ?_ | refine g_cond_f rfl ?_)
        refine g_region ?_
        refine gl_f (s_move rfl) rfl rfl rfl ?_
        refine gl_f (s_lss rfl rfl) rfl rfl rfl ?_
        refine gl_nil ?_
        repeat (first | refine g_seq ?_ | refine at_code ?_ | refine g_skip ?_ | refine g_block ?_ | refine g_exit rfl ?_ | refine g_cond_t rfl ?_ | refine g_cond_f rfl ?_)
        refine g_cond rfl (fun h => ?_) (fun h => ?_)
        · simp only [decide_eq_true_eq] at h
          repeat (first | refine g_seq ?_ | refine at_code ?_ | refine g_skip ?_ | refine g_block ?_ | refine g_exit rfl ?_ | refine g_cond_t rfl ?_ | refine g_cond_f rfl ?_)
          refine g_draw0 [21, 25] 28 rfl ?_
          refine ga_free 0 rfl (s_move rfl) rfl rfl rfl (by kernel_rfl) ?_
          refine ga_free 1 rfl (s_move rfl) rfl rfl rfl (by kernel_rfl) ?_
          refine ga_free 3 rfl (s_move rfl) rfl rfl rfl (by kernel_rfl) ?_
          refine ga_free 6 rfl (s_move rfl) rfl rfl rfl (by kernel_rfl) ?_
          refine ga_free 10 rfl (s_move rfl) rfl rfl rfl (by kernel_rfl) ?_
          refine ga_free 11 rfl (s_move rfl) rfl rfl rfl (by kernel_rfl) ?_
          refine ga_free 12 rfl (s_andW rfl rfl) rfl rfl rfl (by kernel_rfl) ?_
          refine ga_free 13 rfl (s_move rfl) rfl rfl rfl (by kernel_rfl) ?_
          refine ga_free 14 rfl (s_comW rfl) rfl rfl rfl (by kernel_rfl) ?_
          refine ga_free 15 rfl (s_move rfl) rfl rfl rfl (by kernel_rfl) ?_
          refine ga_free 16 rfl (s_andW rfl rfl) rfl rfl rfl (by kernel_rfl) ?_
          refine ga_free 17 rfl (s_xorW rfl rfl) rfl rfl rfl (by kernel_rfl) ?_
          refine ga_free 19 rfl (s_move rfl) rfl rfl rfl (by kernel_rfl) ?_
          refine ga_free 20 rfl (s_indexAddr_arr rfl rfl (by omega)) rfl rfl rfl (by kernel_rfl) ?_
          refine ga_read 21 rfl (by repeat first|exact .del|apply Upd.there) (s_load_blk rfl .del (kget (i := k) (by omega) (by omega))) rfl rfl rfl (by kernel_rfl) ?_
          refine ga_free 23 rfl (s_move rfl) rfl rfl rfl (by kernel_rfl) ?_
          refine ga_free 24 rfl (s_indexAddr_arr rfl rfl (by omega)) rfl rfl rfl (by kernel_rfl) ?_
          refine ga_read 25 rfl (by repeat first|exact .del|apply Upd.there) (s_load_blk rfl .del (wget l (i := k) (by omega) (by omega))) rfl rfl rfl (by kernel_rfl) ?_
          refine ga_one 2 rfl (by kernel_rfl) ?_
          refine gl_callp rfl (turn_ct _ _ 6 rfl (by omega)) (fun _ _ _ => trivial) rfl ?_
          refine gl_nil ?_
          refine at_ga (.inr (by exact keeps_of (by (first | exact fun _ h => h | (repeat first | exact sub_nil | refine sub_cons (by repeat first | exact List.Mem.head _ | apply List.Mem.tail) ?_))))) ?_
          refine ga_one 4 rfl (by kernel_rfl) ?_
          refine gl_callp rfl (turn_ct _ _ 11 rfl (by omega)) (fun _ _ _ => trivial) rfl ?_
          refine gl_nil ?_
          refine at_ga (.inr (by exact keeps_of (by (first | exact fun _ h => h | (repeat first | exact sub_nil | refine sub_cons (by repeat first | exact List.Mem.head _ | apply List.Mem.tail) ?_))))) ?_
          refine ga_free 5 rfl (s_xorW rfl rfl) rfl rfl rfl (by kernel_rfl) ?_
          refine ga_one 7 rfl (by kernel_rfl) ?_
          refine gl_callp rfl (turn_ct _ _ 25 rfl (by omega)) (fun _ _ _ => trivial) rfl ?_
          refine gl_nil ?_
          refine at_ga (.inr (by exact keeps_of (by (first | exact fun _ h => h | (repeat first | exact sub_nil | refine sub_cons (by repeat first | exact List.Mem.head _ | apply List.Mem.tail) ?_))))) ?_
          refine ga_free 8 rfl (s_xorW rfl rfl) rfl rfl rfl (by kernel_rfl) ?_
          refine ga_free 9 rfl (s_addW rfl rfl) rfl rfl rfl (by kernel_rfl) ?_
          refine ga_free 18 rfl (s_addW rfl rfl) rfl rfl rfl (by kernel_rfl) ?_
          refine ga_free 22 rfl (s_addW rfl rfl) rfl rfl rfl (by kernel_rfl) ?_
          refine ga_free 26 rfl (s_addW rfl rfl) rfl rfl rfl (by kernel_rfl) ?_
          refine ga_free 27 rfl (s_assign rfl) rfl rfl rfl (by kernel_rfl) ?_
          refine ga_done (by kernel_rfl) ?_
          repeat (first | refine g_seq ?_ | refine at_code ?_ | refine g_skip ?_ | refine g_block ?_ | refine g_exit rfl ?_ | refine g_cond_t rfl ?_ | refine g_cond_f rfl ?_)
          repeat (first | refine g_seq ?_ | refine at_code ?_ | refine g_skip ?_ | refine g_block ?_ | refine g_exit rfl ?_ | refine g_cond_t rfl ?_ | refine g_cond_f rfl ?_)
          refine g_region ?_
          refine gl_f (s_move rfl) rfl rfl rfl ?_
          refine gl_callp rfl (turn_ct _ _ 2 rfl (by omega)) (fun _ _ _ => trivial) rfl ?_
          refine gl_f (s_move rfl) rfl rfl rfl ?_
          refine gl_callp rfl (turn_ct _ _ 13 rfl (by omega)) (fun _ _ _ => trivial) rfl ?_
          refine gl_f (s_xorW rfl rfl) rfl rfl rfl ?_
          refine gl_f (s_move rfl) rfl rfl rfl ?_
          refine gl_callp rfl (turn_ct _ _ 22 rfl (by omega)) (fun _ _ _ => trivial) rfl ?_
          refine gl_f (s_xorW rfl rfl) rfl rfl rfl ?_
          refine gl_f (s_move rfl) rfl rfl rfl ?_
          refine gl_f (s_move rfl) rfl rfl rfl ?_
          refine gl_f (s_andW rfl rfl) rfl rfl rfl ?_
          refine gl_f (s_move rfl) rfl rfl rfl ?_
          refine gl_f (s_move rfl) rfl rfl rfl ?_
          refine gl_f (s_andW rfl rfl) rfl rfl rfl ?_
          refine gl_f (s_xorW rfl rfl) rfl rfl rfl ?_
          refine gl_f (s_move rfl) rfl rfl rfl ?_
          refine gl_f (s_move rfl) rfl rfl rfl ?_
          refine gl_f (s_andW rfl rfl) rfl rfl rfl ?_
          refine gl_f (s_xorW rfl rfl) rfl rfl rfl ?_
          refine gl_f (s_addW rfl rfl) rfl rfl rfl ?_
          refine gl_f (s_assign rfl) rfl rfl rfl ?_
          refine gl_nil ?_
          repeat (first | refine g_seq ?_ | refine at_code ?_ | refine g_skip ?_ | refine g_block ?_ | refine g_exit rfl ?_ | refine g_cond_t rfl ?_ | refine g_cond_f rfl ?_)
          repeat (first | refine g_seq ?_ | refine at_code ?_ | refine g_skip ?_ | refine g_block ?_ | refine g_exit rfl ?_ | refine g_cond_t rfl ?_ | refine g_cond_f rfl ?_)
          refine g_region ?_
          refine gl_f (s_move rfl) rfl rfl rfl ?_
          refine gl_f (s_move rfl) rfl rfl rfl ?_
          refine gl_f (s_move rfl) rfl rfl rfl ?_
          refine gl_f (s_move rfl) rfl rfl rfl ?_
          refine gl_f (s_move rfl) rfl rfl rfl ?_
          refine gl_f (s_addW rfl rfl) rfl rfl rfl ?_
          refine gl_f (s_move rfl) rfl rfl rfl ?_
          refine gl_f (s_move rfl) rfl rfl rfl ?_
          refine gl_f (s_move rfl) rfl rfl rfl ?_
          refine gl_f (s_move rfl) rfl rfl rfl ?_
          refine gl_f (s_move rfl) rfl rfl rfl ?_
          refine gl_f (s_addW rfl rfl) rfl rfl rfl ?_
          refine gl_f (s_assign rfl) rfl rfl rfl ?_
          refine gl_f (s_assign rfl) rfl rfl rfl ?_
          refine gl_f (s_assign rfl) rfl rfl rfl ?_
          refine gl_f (s_assign rfl) rfl rfl rfl ?_
          refine gl_f (s_assign rfl) rfl rfl rfl ?_
          refine gl_f (s_assign rfl) rfl rfl rfl ?_
          refine gl_f (s_assign rfl) rfl rfl rfl ?_
          refine gl_f (s_assign rfl) rfl rfl rfl ?_
          refine gl_nil ?_
          repeat (first | refine g_seq ?_ | refine at_code ?_ | refine g_skip ?_ | refine g_block ?_ | refine g_exit rfl ?_ | refine g_cond_t rfl ?_ | refine g_cond_f rfl ?_)
          repeat (first | refine g_seq ?_ | refine at_code ?_ | refine g_skip ?_ | refine g_block ?_ | refine g_exit rfl ?_ | refine g_cond_t rfl ?_ | refine g_cond_f rfl ?_)
          refine g_region ?_
          refine gl_f (s_move rfl) rfl rfl rfl ?_
          refine gl_f (s_add_i64 rfl rfl (by omega)) rfl rfl rfl ?_
          refine gl_f (s_assign rfl) rfl rfl rfl ?_
          refine gl_nil ?_
          repeat (first | refine g_seq ?_ | refine at_code ?_ | refine g_skip ?_ | refine g_block ?_ | refine g_exit rfl ?_ | refine g_cond_t rfl ?_ | refine g_cond_f rfl ?_)
          refine at_next (k + 1) (by omega) (by omega) ?_ ?_
          · (repeat (first | exact Sub.nil _ | refine Sub.cons rfl ?_))
          · intro w hw; exact hw
        · have hk64 : k = 64 := by simp at h; omega
          subst hk64
          repeat (first | refine g_seq ?_ | refine at_code ?_ | refine g_skip ?_ | refine g_block ?_ | refine g_exit rfl ?_ | refine g_cond_t rfl ?_ | refine g_cond_f rfl ?_)
          refine g_region ?_
          refine gl_f (s_indexAddr_arr rfl rfl (by omega)) rfl rfl rfl ?_
          refine gl_r (by first | exact s_load_blk rfl (by repeat first|exact .del|apply Upd.there) (by rfl) | exact s_load1 rfl (fun w hw => peekB hw (by assumption) (by rfl))) rfl rfl rfl ?_
          refine gl_f (s_move rfl) rfl rfl rfl ?_
          refine gl_f (s_addW rfl rfl) rfl rfl rfl ?_
          refine gl_f (s_indexAddr_arr rfl rfl (by omega)) rfl rfl rfl ?_
          refine gl_r (by first | exact s_load_blk rfl (by repeat first|exact .del|apply Upd.there) (by rfl) | exact s_load1 rfl (fun w hw => peekB hw (by assumption) (by rfl))) rfl rfl rfl ?_
          refine gl_f (s_move rfl) rfl rfl rfl ?_
          refine gl_f (s_addW rfl rfl) rfl rfl rfl ?_
          refine gl_f (s_indexAddr_arr rfl rfl (by omega)) rfl rfl rfl ?_
          refine gl_r (by first | exact s_load_blk rfl (by repeat first|exact .del|apply Upd.there) (by rfl) | exact s_load1 rfl (fun w hw => peekB hw (by assumption) (by rfl))) rfl rfl rfl ?_
          refine gl_f (s_move rfl) rfl rfl rfl ?_
          refine gl_f (s_addW rfl rfl) rfl rfl rfl ?_
          refine gl_f (s_indexAddr_arr rfl rfl (by omega)) rfl rfl rfl ?_
          refine gl_r (by first | exact s_load_blk rfl (by repeat first|exact .del|apply Upd.there) (by rfl) | exact s_load1 rfl (fun w hw => peekB hw (by assumption) (by rfl))) rfl rfl rfl ?_
          refine gl_f (s_move rfl) rfl rfl rfl ?_
          refine gl_f (s_addW rfl rfl) rfl rfl rfl ?_
          refine gl_f (s_indexAddr_arr rfl rfl (by omega)) rfl rfl rfl ?_
          refine gl_r (by first | exact s_load_blk rfl (by repeat first|exact .del|apply Upd.there) (by rfl) | exact s_load1 rfl (fun w hw => peekB hw (by assumption) (by rfl))) rfl rfl rfl ?_
          refine gl_f (s_move rfl) rfl rfl rfl ?_
          refine gl_f (s_addW rfl rfl) rfl rfl rfl ?_
          refine gl_f (s_indexAddr_arr rfl rfl (by omega)) rfl rfl rfl ?_
          refine gl_r (by first | exact s_load_blk rfl (by repeat first|exact .del|apply Upd.there) (by rfl) | exact s_load1 rfl (fun w hw => peekB hw (by assumption) (by rfl))) rfl rfl rfl ?_
          refine gl_f (s_move rfl) rfl rfl rfl ?_
          refine gl_f (s_addW rfl rfl) rfl rfl rfl ?_
          refine gl_f (s_indexAddr_arr rfl rfl (by omega)) rfl rfl rfl ?_
          refine gl_r (by first | exact s_load_blk rfl (by repeat first|exact .del|apply Upd.there) (by rfl) | exact s_load1 rfl (fun w hw => peekB hw (by assumption) (by rfl))) rfl rfl rfl ?_
          refine gl_f (s_move rfl) rfl rfl rfl ?_
          refine gl_f (s_addW rfl rfl) rfl rfl rfl ?_
          refine gl_f (s_indexAddr_arr rfl rfl (by omega)) rfl rfl rfl ?_
          refine gl_r (by first | exact s_load_blk rfl (by repeat first|exact .del|apply Upd.there) (by rfl) | exact s_load1 rfl (fun w hw => peekB hw (by assumption) (by rfl))) rfl rfl rfl ?_
          refine gl_f (s_move rfl) rfl rfl rfl ?_
          refine gl_f (s_addW rfl rfl) rfl rfl rfl ?_
          refine gl_f (s_build rfl (v := .agg (oct (blk S l)).toArray) (fun w => by kernel_rfl)) rfl rfl rfl ?_
          refine gl_store_blk rfl rfl (by repeat first|exact .here|apply Upd.there) (by rfl) (oct_one _) (by rfl) ?_
          refine gl_nil ?_
          repeat (first | refine g_seq ?_ | refine at_code ?_ | refine g_skip ?_ | refine g_block ?_ | refine g_exit rfl ?_ | refine g_cond_t rfl ?_ | refine g_cond_f rfl ?_)
          refine g_ret ?_
          exact at_endc rfl rfl (fun w hw => peek_blkN (n := 8) hw (by repeat first|exact .del|apply Upd.there)) (by kernel_rfl) [] ⟨by kernel_rfl, rfl⟩ (fun _ h => h.dropAll)
end Go.Proofs.Ytolgclfbllcjhaa.Dg
