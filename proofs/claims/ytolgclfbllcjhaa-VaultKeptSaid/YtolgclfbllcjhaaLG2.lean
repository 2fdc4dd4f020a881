/- The walk of the program's block. -/
import Derived.Test.YtolgclfbllcjhaaLG1
namespace Go.Proofs.Ytolgclfbllcjhaa.Dg
open Go Go.Sl
set_option linter.unusedVariables false

def wcells (l : List UInt8) (n : Nat) : Array Value := ((sched l n).map W32 ++ List.replicate (64 - n) (W32 0#32)).toArray
theorem wcells_size (l : List UInt8) (n : Nat) (h : n ≤ 64) : (wcells l n).size = 64 := by simp [wcells, sched_length]; omega
theorem wget (l : List UInt8) {n o i : Nat} (h : o = i) (hi : i < n) : (wcells l n)[o]? = some (W32 ((sched l n).getD i 0)) := by
  subst h
  have hl := sched_length l n
  simp only [wcells, List.getElem?_toArray]
  rw [List.getElem?_append_left (by simp [hl]; omega)]
  simp [hl, hi]
theorem wput (l : List UInt8) {n o : Nat} {v : Value} (h : o = n) (hn : n < 64) (hv : v = W32 ((sched l (n + 1)).getD n 0)) : putL (wcells l n) o [v] = wcells l (n + 1) := by
  subst h hv
  have hl := sched_length l o
  have hr : List.replicate (64 - o) (W32 0#32) = W32 0#32 :: List.replicate (64 - (o + 1)) (W32 0#32) := by
    rw [show 64 - o = (64 - (o + 1)) + 1 by omega, List.replicate_succ]
  have hg : (sched l (o + 1)).getD o 0 = if o < 16 then word l o else s1 ((sched l o).getD (o - 2) 0) + (sched l o).getD (o - 7) 0 + s0 ((sched l o).getD (o - 15) 0) + (sched l o).getD (o - 16) 0 := by
    simp [sched, hl]
  rw [hg]
  apply Array.toList_inj.1
  simp only [putL, wcells, hr]
  rw [List.take_left' (by simp [hl])]
  simp only [List.length_singleton]
  rw [List.drop_append, List.drop_of_length_le (by simp [hl])]
  simp [hl, sched]
theorem sched_lo (l : List UInt8) {n : Nat} (h : n < 16) : (sched l (n + 1)).getD n 0 = word l n := by simp [sched, sched_length, h]
theorem sched_hi (l : List UInt8) {n : Nat} (h : 16 ≤ n) : (sched l (n + 1)).getD n 0 = s1 ((sched l n).getD (n - 2) 0) + (sched l n).getD (n - 7) 0 + s0 ((sched l n).getD (n - 15) 0) + (sched l n).getD (n - 16) 0 := by
  simp [sched, sched_length, show ¬ n < 16 by omega]
theorem kget {o i : Nat} (h : o = i) (hi : i < 64) : (kks.map W32).toArray[o]? = some (W32 (kk i)) := by
  subst h
  have hl : kks.length = 64 := rfl
  simp [kk, hl, hi]
theorem zero64 (l : List UInt8) : (Value.cells (.agg (#[.int .u32 0, .int .u32 0, .int .u32 0, .int .u32 0, .int .u32 0, .int .u32 0, .int .u32 0, .int .u32 0, .int .u32 0, .int .u32 0, .int .u32 0, .int .u32 0, .int .u32 0, .int .u32 0, .int .u32 0, .int .u32 0, .int .u32 0, .int .u32 0, .int .u32 0, .int .u32 0, .int .u32 0, .int .u32 0, .int .u32 0, .int .u32 0, .int .u32 0, .int .u32 0, .int .u32 0, .int .u32 0, .int .u32 0, .int .u32 0, .int .u32 0, .int .u32 0, .int .u32 0, .int .u32 0, .int .u32 0, .int .u32 0, .int .u32 0, .int .u32 0, .int .u32 0, .int .u32 0, .int .u32 0, .int .u32 0, .int .u32 0, .int .u32 0, .int .u32 0, .int .u32 0, .int .u32 0, .int .u32 0, .int .u32 0, .int .u32 0, .int .u32 0, .int .u32 0, .int .u32 0, .int .u32 0, .int .u32 0, .int .u32 0, .int .u32 0, .int .u32 0, .int .u32 0, .int .u32 0, .int .u32 0, .int .u32 0, .int .u32 0, .int .u32 0]))) = wcells l 0 := by kernel_rfl

def upto (S X : Nat → W) (k : Nat) : Nat → W := fun i => if i < k then S i + X i else S i
theorem hget {S : Nat → W} {r : List UInt8} {n : Int} {o i : Nat} (h : o = i) (hi : i < 8) : (hc S r n)[o]? = some (W32 (S i)) := by
  subst h
  rcases (show o = 0 ∨ o = 1 ∨ o = 2 ∨ o = 3 ∨ o = 4 ∨ o = 5 ∨ o = 6 ∨ o = 7 by omega) with rfl | rfl | rfl | rfl | rfl | rfl | rfl | rfl <;> rfl
theorem oget {S : Nat → W} {o i : Nat} (h : o = i) (hi : i < 8) : (oct S).toArray[o]? = some (W32 (S i)) := by
  subst h
  rcases (show o = 0 ∨ o = 1 ∨ o = 2 ∨ o = 3 ∨ o = 4 ∨ o = 5 ∨ o = 6 ∨ o = 7 by omega) with rfl | rfl | rfl | rfl | rfl | rfl | rfl | rfl <;> rfl
theorem hput (S X : Nat → W) (r : List UInt8) (n : Int) {k o : Nat} (h : o = k) (hk : k < 8) : putL (hc (upto S X k) r n) o [W32 (upto S X k k + X k)] = hc (upto S X (k + 1)) r n := by
  subst h
  rcases (show o = 0 ∨ o = 1 ∨ o = 2 ∨ o = 3 ∨ o = 4 ∨ o = 5 ∨ o = 6 ∨ o = 7 by omega) with rfl | rfl | rfl | rfl | rfl | rfl | rfl | rfl <;> rfl
def zk64 : Value := .agg (#[.int .u32 0, .int .u32 0, .int .u32 0, .int .u32 0, .int .u32 0, .int .u32 0, .int .u32 0, .int .u32 0, .int .u32 0, .int .u32 0, .int .u32 0, .int .u32 0, .int .u32 0, .int .u32 0, .int .u32 0, .int .u32 0, .int .u32 0, .int .u32 0, .int .u32 0, .int .u32 0, .int .u32 0, .int .u32 0, .int .u32 0, .int .u32 0, .int .u32 0, .int .u32 0, .int .u32 0, .int .u32 0, .int .u32 0, .int .u32 0, .int .u32 0, .int .u32 0, .int .u32 0, .int .u32 0, .int .u32 0, .int .u32 0, .int .u32 0, .int .u32 0, .int .u32 0, .int .u32 0, .int .u32 0, .int .u32 0, .int .u32 0, .int .u32 0, .int .u32 0, .int .u32 0, .int .u32 0, .int .u32 0, .int .u32 0, .int .u32 0, .int .u32 0, .int .u32 0, .int .u32 0, .int .u32 0, .int .u32 0, .int .u32 0, .int .u32 0, .int .u32 0, .int .u32 0, .int .u32 0, .int .u32 0, .int .u32 0, .int .u32 0, .int .u32 0])
theorem oct_one (S : Nat → W) : ∀ q ∈ (Value.cells (.agg (oct S).toArray)).toList, q.oneCell' = true := fun q hq => by
  simp [Value.cells, oct] at hq; rcases hq with rfl | rfl | rfl | rfl | rfl | rfl | rfl | rfl <;> rfl
set_option maxHeartbeats 1000000 in
theorem block_ct (b : Nat) (S : Nat → W) (r : List UInt8) (n : Int) (l : List UInt8) (hl : l.length = 64) :
    Ct Try.prog 87 [.pointer (some ⟨b, 0, none⟩), B l] (fun _ => True) [HashAt b S r n] (fun v A => v = .tuple #[] ∧ A = [HashAt b (blk S l) r n]) := by
  refine ct_enter 169 Try.func87 rfl rfl rfl ?_
  intro F _
  repeat (first | refine g_seq ?_ | refine at_code ?_ | refine g_skip ?_ | refine g_block ?_ | refine g_exit rfl ?_ | refine g_cond_t rfl ?_ | refine g_cond_f rfl ?_)
  refine g_region ?_
  refine gl_allocA rfl ?_; intro g4
  refine gl_nil ?_
  repeat (first | refine g_seq ?_ | refine at_code ?_ | refine g_skip ?_ | refine g_block ?_ | refine g_exit rfl ?_ | refine g_cond_t rfl ?_ | refine g_cond_f rfl ?_)
  refine g_region ?_
  refine gl_f (s_move rfl) rfl rfl rfl ?_
  refine gl_nil ?_
  repeat (first | refine g_seq ?_ | refine at_code ?_ | refine g_skip ?_ | refine g_block ?_ | refine g_exit rfl ?_ | refine g_cond_t rfl ?_ | refine g_cond_f rfl ?_)
  refine g_loop (ι := Nat) (fun k => k ≤ 16) (fun k => [(0, .pointer (some ⟨b, 0, none⟩)), (1, B l), (4, .pointer (some ⟨g4, 0, none⟩)), (13, .int .i64 (k : Nat))]) (fun k => [.blk g4 (.cells (wcells l k) 132), HashAt b S r n]) (fun k => 16 - k) 0 (by omega) ?_ ?_ ?_
  · (repeat (first | exact Sub.nil _ | refine Sub.cons rfl ?_))
  · intro w hw
    rw [← zero64]
    exact hw
  · intro k hk
    repeat (first | refine g_seq ?_ | refine at_code ?_ | refine g_skip ?_ | refine g_block ?_ | refine g_exit rfl ?_ | refine g_cond_t rfl ?_ | refine g_cond_f rfl ?_)
    refine g_region ?_
    refine gl_f (s_lss rfl rfl) rfl rfl rfl ?_
    refine gl_nil ?_
    repeat (first | refine g_seq ?_ | refine at_code ?_ | refine g_skip ?_ | refine g_block ?_ | refine g_exit rfl ?_ | refine g_cond_t rfl ?_ | refine g_cond_f rfl ?_)
    refine g_cond rfl (fun h => ?_) (fun h => ?_)
    · simp only [decide_eq_true_eq] at h
      repeat (first | refine g_seq ?_ | refine at_code ?_ | refine g_skip ?_ | refine g_block ?_ | refine g_exit rfl ?_ | refine g_cond_t rfl ?_ | refine g_cond_f rfl ?_)
      refine g_region ?_
      refine gl_f (s_move rfl) rfl rfl rfl ?_
      refine gl_f (s_assign rfl) rfl rfl rfl ?_
      refine gl_nil ?_
      repeat (first | refine g_seq ?_ | refine at_code ?_ | refine g_skip ?_ | refine g_block ?_ | refine g_exit rfl ?_ | refine g_cond_t rfl ?_ | refine g_cond_f rfl ?_)
      repeat (first | refine g_seq ?_ | refine at_code ?_ | refine g_skip ?_ | refine g_block ?_ | refine g_exit rfl ?_ | refine g_cond_t rfl ?_ | refine g_cond_f rfl ?_)
      refine g_draw0 [] 32 rfl ?_
      refine ga_free 0 rfl (s_move rfl) rfl rfl rfl (by kernel_rfl) ?_
      refine ga_free 1 rfl (s_move rfl) rfl rfl rfl (by kernel_rfl) ?_
      refine ga_free 2 rfl (s_move rfl) rfl rfl rfl (by kernel_rfl) ?_
      refine ga_free 3 rfl (s_mul_i64 rfl rfl (by omega)) rfl rfl rfl (by kernel_rfl) ?_
      refine ga_free 4 rfl ((s_index_str rfl rfl (by omega)).eq (v' := .int .u8 ((l.getD (4 * k) 0).toNat : Nat)) (by rw [show (4 * (k : Int)).toNat = 4 * k by omega])) rfl rfl rfl (by kernel_rfl) ?_
      refine ga_free 5 rfl (s_convW _ rfl) rfl rfl rfl (by kernel_rfl) ?_
      refine ga_free 6 rfl (s_shlW 24 rfl rfl rfl (by omega)) rfl rfl rfl (by kernel_rfl) ?_
      refine ga_free 7 rfl (s_move rfl) rfl rfl rfl (by kernel_rfl) ?_
      refine ga_free 8 rfl (s_move rfl) rfl rfl rfl (by kernel_rfl) ?_
      refine ga_free 9 rfl (s_mul_i64 rfl rfl (by omega)) rfl rfl rfl (by kernel_rfl) ?_
      refine ga_free 10 rfl (s_add_i64 rfl rfl (by omega)) rfl rfl rfl (by kernel_rfl) ?_
      refine ga_free 11 rfl ((s_index_str rfl rfl (by omega)).eq (v' := .int .u8 ((l.getD (4 * k + 1) 0).toNat : Nat)) (by rw [show (4 * (k : Int) + 1).toNat = 4 * k + 1 by omega])) rfl rfl rfl (by kernel_rfl) ?_
      refine ga_free 12 rfl (s_convW _ rfl) rfl rfl rfl (by kernel_rfl) ?_
      refine ga_free 13 rfl (s_shlW 16 rfl rfl rfl (by omega)) rfl rfl rfl (by kernel_rfl) ?_
      refine ga_free 14 rfl (s_orW rfl rfl) rfl rfl rfl (by kernel_rfl) ?_
      refine ga_free 15 rfl (s_move rfl) rfl rfl rfl (by kernel_rfl) ?_
      refine ga_free 16 rfl (s_move rfl) rfl rfl rfl (by kernel_rfl) ?_
      refine ga_free 17 rfl (s_mul_i64 rfl rfl (by omega)) rfl rfl rfl (by kernel_rfl) ?_
      refine ga_free 18 rfl (s_add_i64 rfl rfl (by omega)) rfl rfl rfl (by kernel_rfl) ?_
      refine ga_free 19 rfl ((s_index_str rfl rfl (by omega)).eq (v' := .int .u8 ((l.getD (4 * k + 2) 0).toNat : Nat)) (by rw [show (4 * (k : Int) + 2).toNat = 4 * k + 2 by omega])) rfl rfl rfl (by kernel_rfl) ?_
      refine ga_free 20 rfl (s_convW _ rfl) rfl rfl rfl (by kernel_rfl) ?_
      refine ga_free 21 rfl (s_shlW 8 rfl rfl rfl (by omega)) rfl rfl rfl (by kernel_rfl) ?_
      refine ga_free 22 rfl (s_orW rfl rfl) rfl rfl rfl (by kernel_rfl) ?_
      refine ga_free 23 rfl (s_move rfl) rfl rfl rfl (by kernel_rfl) ?_
      refine ga_free 24 rfl (s_move rfl) rfl rfl rfl (by kernel_rfl) ?_
      refine ga_free 25 rfl (s_mul_i64 rfl rfl (by omega)) rfl rfl rfl (by kernel_rfl) ?_
      refine ga_free 26 rfl (s_add_i64 rfl rfl (by omega)) rfl rfl rfl (by kernel_rfl) ?_
      refine ga_free 27 rfl ((s_index_str rfl rfl (by omega)).eq (v' := .int .u8 ((l.getD (4 * k + 3) 0).toNat : Nat)) (by rw [show (4 * (k : Int) + 3).toNat = 4 * k + 3 by omega])) rfl rfl rfl (by kernel_rfl) ?_
      refine ga_free 28 rfl (s_convW _ rfl) rfl rfl rfl (by kernel_rfl) ?_
      refine ga_free 29 rfl (s_orW rfl rfl) rfl rfl rfl (by kernel_rfl) ?_
      refine ga_free 30 rfl (s_indexAddr_arr rfl rfl (by omega)) rfl rfl rfl (by kernel_rfl) ?_
      refine ga_one 31 rfl (by kernel_rfl) ?_
      refine gl_store_blkP rfl rfl (by repeat first|exact .here|apply Upd.there) (by rfl) (by (intro q hq; simp [Value.cells] at hq; first | (subst hq; rfl) | (rcases hq with rfl | rfl | rfl | rfl | rfl | rfl | rfl | rfl <;> rfl) | (rcases hq with rfl | rfl | rfl | rfl | rfl | rfl | rfl <;> rfl) | (rcases hq with rfl | rfl | rfl | rfl | rfl | rfl <;> rfl) | (rcases hq with rfl | rfl | rfl | rfl | rfl <;> rfl) | (rcases hq with rfl | rfl | rfl | rfl <;> rfl) | (rcases hq with rfl | rfl | rfl <;> rfl) | (rcases hq with rfl | rfl <;> rfl))) (by rw [wcells_size l k (by omega)]; omega) ?_
      refine gl_nil ?_
      refine at_ga (.inl (by kernel_rfl)) ?_
      refine ga_done (by kernel_rfl) ?_
      repeat (first | refine g_seq ?_ | refine at_code ?_ | refine g_skip ?_ | refine g_block ?_ | refine g_exit rfl ?_ | refine g_cond_t rfl ?_ | refine g_cond_f rfl ?_)
      repeat (first | refine g_seq ?_ | refine at_code ?_ | refine g_skip ?_ | refine g_block ?_ | refine g_exit rfl ?_ | refine g_cond_t rfl ?_ | refine g_cond_f rfl ?_)
      refine g_region ?_
      refine gl_f (s_add_i64 rfl rfl (by omega)) rfl rfl rfl ?_
      refine gl_f (s_move rfl) rfl rfl rfl ?_
      refine gl_nil ?_
      repeat (first | refine g_seq ?_ | refine at_code ?_ | refine g_skip ?_ | refine g_block ?_ | refine g_exit rfl ?_ | refine g_cond_t rfl ?_ | refine g_cond_f rfl ?_)
      refine at_next (k + 1) (by omega) (by omega) ?_ ?_
      · (repeat (first | exact Sub.nil _ | refine Sub.cons rfl ?_))
      · intro w hw
        rw [← wput l (o := 0 + (k : Int).toNat * 1) (by omega) (by omega) (by rw [sched_lo l (by omega)])]
        exact hw
    · have hk16 : k = 16 := by simp at h; omega
      subst hk16
      repeat (first | refine g_seq ?_ | refine at_code ?_ | refine g_skip ?_ | refine g_block ?_ | refine g_exit rfl ?_ | refine g_cond_t rfl ?_ | refine g_cond_f rfl ?_)
      refine g_region ?_
      refine gl_f (s_assign rfl) rfl rfl rfl ?_
      refine gl_nil ?_
      repeat (first | refine g_seq ?_ | refine at_code ?_ | refine g_skip ?_ | refine g_block ?_ | refine g_exit rfl ?_ | refine g_cond_t rfl ?_ | refine g_cond_f rfl ?_)
      refine g_loop (ι := Nat) (fun k => 16 ≤ k ∧ k ≤ 64) (fun k => [(0, .pointer (some ⟨b, 0, none⟩)), (4, .pointer (some ⟨g4, 0, none⟩)), (6, .int .i64 (k : Nat))]) (fun k => [.blk g4 (.cells (wcells l k) 132), HashAt b S r n]) (fun k => 64 - k) 16 (by omega) ?_ ?_ ?_
      · (repeat (first | exact Sub.nil _ | refine Sub.cons rfl ?_))
      · intro w hw; exact hw
      · intro k hk
        repeat (first | refine g_seq ?_ | refine at_code ?_ | refine g_skip ?_ | refine g_block ?_ | refine g_exit rfl ?_ | refine g_cond_t rfl ?_ | refine g_cond_f rfl ?_)
        refine g_region ?_
        refine gl_f (s_move rfl) rfl rfl rfl ?_
        refine gl_f (s_lss rfl rfl) rfl rfl rfl ?_
        refine gl_nil ?_
        repeat (first | refine g_seq ?_ | refine at_code ?_ | refine g_skip ?_ | refine g_block ?_ | refine g_exit rfl ?_ | refine g_cond_t rfl ?_ | refine g_cond_f rfl ?_)
        refine g_cond rfl (fun h => ?_) (fun h => ?_)
        · simp only [decide_eq_true_eq] at h
          repeat (first | refine g_seq ?_ | refine at_code ?_ | refine g_skip ?_ | refine g_block ?_ | refine g_exit rfl ?_ | refine g_cond_t rfl ?_ | refine g_cond_f rfl ?_)
          refine g_draw0 [4, 9, 14, 20] 24 rfl ?_
          refine ga_free 0 rfl (s_move rfl) rfl rfl rfl (by kernel_rfl) ?_
          refine ga_free 1 rfl (s_move rfl) rfl rfl rfl (by kernel_rfl) ?_
          refine ga_free 2 rfl (s_sub_i64 rfl rfl (by omega)) rfl rfl rfl (by kernel_rfl) ?_
          refine ga_free 3 rfl (s_indexAddr_arr rfl rfl (by omega)) rfl rfl rfl (by kernel_rfl) ?_
          refine ga_read 4 rfl (by repeat first|exact .del|apply Upd.there) (s_load_blk rfl .del (wget l (i := k - 2) (by omega) (by omega))) rfl rfl rfl (by kernel_rfl) ?_
          refine ga_free 6 rfl (s_move rfl) rfl rfl rfl (by kernel_rfl) ?_
          refine ga_free 7 rfl (s_sub_i64 rfl rfl (by omega)) rfl rfl rfl (by kernel_rfl) ?_
          refine ga_free 8 rfl (s_indexAddr_arr rfl rfl (by omega)) rfl rfl rfl (by kernel_rfl) ?_
          refine ga_read 9 rfl (by repeat first|exact .del|apply Upd.there) (s_load_blk rfl .del (wget l (i := k - 7) (by omega) (by omega))) rfl rfl rfl (by kernel_rfl) ?_
          refine ga_free 11 rfl (s_move rfl) rfl rfl rfl (by kernel_rfl) ?_
          refine ga_free 12 rfl (s_sub_i64 rfl rfl (by omega)) rfl rfl rfl (by kernel_rfl) ?_
          refine ga_free 13 rfl (s_indexAddr_arr rfl rfl (by omega)) rfl rfl rfl (by kernel_rfl) ?_
          refine ga_read 14 rfl (by repeat first|exact .del|apply Upd.there) (s_load_blk rfl .del (wget l (i := k - 15) (by omega) (by omega))) rfl rfl rfl (by kernel_rfl) ?_
          refine ga_free 17 rfl (s_move rfl) rfl rfl rfl (by kernel_rfl) ?_
          refine ga_free 18 rfl (s_sub_i64 rfl rfl (by omega)) rfl rfl rfl (by kernel_rfl) ?_
          refine ga_free 19 rfl (s_indexAddr_arr rfl rfl (by omega)) rfl rfl rfl (by kernel_rfl) ?_
          refine ga_read 20 rfl (by repeat first|exact .del|apply Upd.there) (s_load_blk rfl .del (wget l (i := k - 16) (by omega) (by omega))) rfl rfl rfl (by kernel_rfl) ?_
          refine ga_one 5 rfl (by kernel_rfl) ?_
          refine gl_callp rfl (mixed_yes_ct _ 17 19 10 _ _ _ rfl rfl rfl (by omega) (by omega) (by omega)) (fun _ _ _ => trivial) rfl ?_
          refine gl_nil ?_
          refine at_ga (.inr (by exact keeps_of (by (first | exact fun _ h => h | (repeat first | exact sub_nil | refine sub_cons (by repeat first | exact List.Mem.head _ | apply List.Mem.tail) ?_))))) ?_
          refine ga_free 10 rfl (s_addW rfl rfl) rfl rfl rfl (by kernel_rfl) ?_
          refine ga_one 15 rfl (by kernel_rfl) ?_
          refine gl_callp rfl (mixed_yes_ct _ 7 18 3 _ _ _ rfl rfl rfl (by omega) (by omega) (by omega)) (fun _ _ _ => trivial) rfl ?_
          refine gl_nil ?_
          refine at_ga (.inr (by exact keeps_of (by (first | exact fun _ h => h | (repeat first | exact sub_nil | refine sub_cons (by repeat first | exact List.Mem.head _ | apply List.Mem.tail) ?_))))) ?_
          refine ga_free 16 rfl (s_addW rfl rfl) rfl rfl rfl (by kernel_rfl) ?_
          refine ga_free 21 rfl (s_addW rfl rfl) rfl rfl rfl (by kernel_rfl) ?_
          refine ga_free 22 rfl (s_indexAddr_arr rfl rfl (by omega)) rfl rfl rfl (by kernel_rfl) ?_
          refine ga_one 23 rfl (by kernel_rfl) ?_
          refine gl_store_blkP rfl rfl (by repeat first|exact .here|apply Upd.there) (by rfl) (by (intro q hq; simp [Value.cells] at hq; first | (subst hq; rfl) | (rcases hq with rfl | rfl | rfl | rfl | rfl | rfl | rfl | rfl <;> rfl) | (rcases hq with rfl | rfl | rfl | rfl | rfl | rfl | rfl <;> rfl) | (rcases hq with rfl | rfl | rfl | rfl | rfl | rfl <;> rfl) | (rcases hq with rfl | rfl | rfl | rfl | rfl <;> rfl) | (rcases hq with rfl | rfl | rfl | rfl <;> rfl) | (rcases hq with rfl | rfl | rfl <;> rfl) | (rcases hq with rfl | rfl <;> rfl))) (by rw [wcells_size l k (by omega)]; omega) ?_
          refine gl_nil ?_
          refine at_ga (.inl (by kernel_rfl)) ?_
          refine ga_done (by kernel_rfl) ?_
          repeat (first | refine g_seq ?_ | refine at_code ?_ | refine g_skip ?_ | refine g_block ?_ | refine g_exit rfl ?_ | refine g_cond_t rfl ?_ | refine g_cond_f rfl ?_)
          repeat (first | refine g_seq ?_ | refine at_code ?_ | refine g_skip ?_ | refine g_block ?_ | refine g_exit rfl ?_ | refine g_cond_t rfl ?_ | refine g_cond_f rfl ?_)
          refine g_region ?_
          refine gl_f (s_move rfl) rfl rfl rfl ?_
          refine gl_f (s_add_i64 rfl rfl (by omega)) rfl rfl rfl ?_
          refine gl_f (s_assign rfl) rfl rfl rfl ?_
          refine gl_nil ?_
          repeat (first | refine g_seq ?_ | refine at_code ?_ | refine g_skip ?_ | refine g_block ?_ | refine g_exit rfl ?_ | refine g_cond_t rfl ?_ | refine g_cond_f rfl ?_)
          refine at_next (k + 1) (by omega) (by omega) ?_ ?_
          · (repeat (first | exact Sub.nil _ | refine Sub.cons rfl ?_))
          · intro w hw
            rw [← wput l (o := 0 + (k : Int).toNat * 1) (by omega) (by omega) (by rw [sched_hi l (by omega)])]
            exact hw
        · have hk64 : k = 64 := by simp at h; omega
          subst hk64
          repeat (first | refine g_seq ?_ | refine at_code ?_ | refine g_skip ?_ | refine g_block ?_ | refine g_exit rfl ?_ | refine g_cond_t rfl ?_ | refine g_cond_f rfl ?_)
          refine g_region ?_
          refine gl_callp rfl keys_ct (fun _ _ _ => trivial) rfl ?_
          refine gl_allocA rfl ?_; intro g7
          refine gl_store_blk rfl rfl (by repeat first|exact .here|apply Upd.there) (by rfl) (fun q hq => by simp only [Value.cells, List.toList_toArray, List.mem_map] at hq; obtain ⟨p, _, rfl⟩ := hq; rfl) (by rfl) ?_
          refine gl_nil ?_
          repeat (first | refine g_seq ?_ | refine at_code ?_ | refine g_skip ?_ | refine g_block ?_ | refine g_exit rfl ?_ | refine g_cond_t rfl ?_ | refine g_cond_f rfl ?_)
          repeat (first | refine g_seq ?_ | refine at_code ?_ | refine g_skip ?_ | refine g_block ?_ | refine g_exit rfl ?_ | refine g_cond_t rfl ?_ | refine g_cond_f rfl ?_)
          refine g_region ?_
          refine gl_f (s_move rfl) rfl rfl rfl ?_
          refine gl_f (s_nilCheck rfl) rfl rfl rfl ?_
          refine gl_f (by first | exact s_fieldAddr rfl (by rfl) (by infer_instance) (by decide) | exact s_fieldAddr_o rfl (by assumption) (by rfl) (by infer_instance) (by decide)) rfl rfl rfl ?_
          refine gl_r (by first | exact s_load_blkW rfl (by repeat first|exact .del|apply Upd.there) (by rfl) | exact s_load_blkN rfl (by repeat first|exact .del|apply Upd.there) (by rfl) | exact s_loadN rfl (fun w hw => peekBN hw (by assumption)) (by rfl)) rfl rfl rfl ?_
          refine gl_allocA rfl ?_; intro g8
          refine gl_store_blk rfl rfl (by repeat first|exact .here|apply Upd.there) (by rfl) (oct_one _) (by rfl) ?_
          refine gl_nil ?_
          repeat (first | refine g_seq ?_ | refine at_code ?_ | refine g_skip ?_ | refine g_block ?_ | refine g_exit rfl ?_ | refine g_cond_t rfl ?_ | refine g_cond_f rfl ?_)
          repeat (first | refine g_seq ?_ | refine at_code ?_ | refine g_skip ?_ | refine g_block ?_ | refine g_exit rfl ?_ | refine g_cond_t rfl ?_ | refine g_cond_f rfl ?_)
          refine g_region ?_
          refine gl_f (s_move rfl) rfl rfl rfl ?_
          refine gl_nil ?_
          repeat (first | refine g_seq ?_ | refine at_code ?_ | refine g_skip ?_ | refine g_block ?_ | refine g_exit rfl ?_ | refine g_cond_t rfl ?_ | refine g_cond_f rfl ?_)
          refine g_loop (ι := Nat) (fun k => k ≤ 64) (fun k => [(0, .pointer (some ⟨b, 0, none⟩)), (4, .pointer (some ⟨g4, 0, none⟩)), (7, .pointer (some ⟨g7, 0, none⟩)), (8, .pointer (some ⟨g8, 0, none⟩)), (80, .int .i64 (k : Nat))])
            (fun k => [.blk g8 (.cells (oct (rounds l S k)).toArray 121), .blk g7 (.cells (kks.map W32).toArray 132), .blk g4 (.cells (wcells l 64) 132), HashAt b S r n]) (fun k => 64 - k) 0 (by omega) ?_ ?_ ?_
          · (repeat (first | exact Sub.nil _ | refine Sub.cons rfl ?_))
          · intro w hw
            have e : putL (Value.cells zk64) 0 (Value.cells (.agg (kks.map W32).toArray)).toList = (kks.map W32).toArray := by kernel_rfl
            rw [← e]
            exact hw
          · intro k hk
            repeat (first | refine g_seq ?_ | refine at_code ?_ | refine g_skip ?_ | refine g_block ?_ | refine g_exit rfl ?_ | refine g_cond_t rfl ?_ | refine g_cond_f rfl ?_)
            refine g_region ?_
            refine gl_f (s_lss rfl rfl) rfl rfl rfl ?_
            refine gl_nil ?_
            repeat (first | refine g_seq ?_ | refine at_code ?_ | refine g_skip ?_ | refine g_block ?_ | refine g_exit rfl ?_ | refine g_cond_t rfl ?_ | refine g_cond_f rfl ?_)
            refine g_cond rfl (fun h => ?_) (fun h => ?_)
            · simp only [decide_eq_true_eq] at h
              repeat (first | refine g_seq ?_ | refine at_code ?_ | refine g_skip ?_ | refine g_block ?_ | refine g_exit rfl ?_ | refine g_cond_t rfl ?_ | refine g_cond_f rfl ?_)
              refine g_region ?_
              refine gl_f (s_move rfl) rfl rfl rfl ?_
              refine gl_f (s_assign rfl) rfl rfl rfl ?_
              refine gl_nil ?_
              repeat (first | refine g_seq ?_ | refine at_code ?_ | refine g_skip ?_ | refine g_block ?_ | refine g_exit rfl ?_ | refine g_cond_t rfl ?_ | refine g_cond_f rfl ?_)
              repeat (first | refine g_seq ?_ | refine at_code ?_ | refine g_skip ?_ | refine g_block ?_ | refine g_exit rfl ?_ | refine g_cond_t rfl ?_ | refine g_cond_f rfl ?_)
              refine g_draw0 [1, 3, 7, 9, 12, 15, 21, 25] 28 rfl ?_
              refine ga_free 0 rfl (s_indexAddr_arr rfl rfl (by omega)) rfl rfl rfl (by kernel_rfl) ?_
              (first | refine ga_read 1 rfl (by repeat first|exact .del|apply Upd.there) (s_load_blk rfl .del (by rfl)) rfl rfl rfl (by kernel_rfl) ?_ | refine ga_readF 1 rfl (s_load1 rfl (fun w hw => peekB hw (by assumption) (by rfl))) (by (first | exact fun _ h => h | (repeat first | exact sub_nil | refine sub_cons (by repeat first | exact List.Mem.head _ | apply List.Mem.tail) ?_))) rfl rfl rfl (by kernel_rfl) ?_)
              refine ga_free 2 rfl (s_indexAddr_arr rfl rfl (by omega)) rfl rfl rfl (by kernel_rfl) ?_
              (first | refine ga_read 3 rfl (by repeat first|exact .del|apply Upd.there) (s_load_blk rfl .del (by rfl)) rfl rfl rfl (by kernel_rfl) ?_ | refine ga_readF 3 rfl (s_load1 rfl (fun w hw => peekB hw (by assumption) (by rfl))) (by (first | exact fun _ h => h | (repeat first | exact sub_nil | refine sub_cons (by repeat first | exact List.Mem.head _ | apply List.Mem.tail) ?_))) rfl rfl rfl (by kernel_rfl) ?_)
              refine ga_free 6 rfl (s_indexAddr_arr rfl rfl (by omega)) rfl rfl rfl (by kernel_rfl) ?_
              (first | refine ga_read 7 rfl (by repeat first|exact .del|apply Upd.there) (s_load_blk rfl .del (by rfl)) rfl rfl rfl (by kernel_rfl) ?_ | refine ga_readF 7 rfl (s_load1 rfl (fun w hw => peekB hw (by assumption) (by rfl))) (by (first | exact fun _ h => h | (repeat first | exact sub_nil | refine sub_cons (by repeat first | exact List.Mem.head _ | apply List.Mem.tail) ?_))) rfl rfl rfl (by kernel_rfl) ?_)
              refine ga_free 8 rfl (s_indexAddr_arr rfl rfl (by omega)) rfl rfl rfl (by kernel_rfl) ?_
              (first | refine ga_read 9 rfl (by repeat first|exact .del|apply Upd.there) (s_load_blk rfl .del (by rfl)) rfl rfl rfl (by kernel_rfl) ?_ | refine ga_readF 9 rfl (s_load1 rfl (fun w hw => peekB hw (by assumption) (by rfl))) (by (first | exact fun _ h => h | (repeat first | exact sub_nil | refine sub_cons (by repeat first | exact List.Mem.head _ | apply List.Mem.tail) ?_))) rfl rfl rfl (by kernel_rfl) ?_)
              refine ga_free 10 rfl (s_andW rfl rfl) rfl rfl rfl (by kernel_rfl) ?_
              refine ga_free 11 rfl (s_indexAddr_arr rfl rfl (by omega)) rfl rfl rfl (by kernel_rfl) ?_
              (first | refine ga_read 12 rfl (by repeat first|exact .del|apply Upd.there) (s_load_blk rfl .del (by rfl)) rfl rfl rfl (by kernel_rfl) ?_ | refine ga_readF 12 rfl (s_load1 rfl (fun w hw => peekB hw (by assumption) (by rfl))) (by (first | exact fun _ h => h | (repeat first | exact sub_nil | refine sub_cons (by repeat first | exact List.Mem.head _ | apply List.Mem.tail) ?_))) rfl rfl rfl (by kernel_rfl) ?_)
              refine ga_free 13 rfl (s_comW rfl) rfl rfl rfl (by kernel_rfl) ?_
              refine ga_free 14 rfl (s_indexAddr_arr rfl rfl (by omega)) rfl rfl rfl (by kernel_rfl) ?_
              (first | refine ga_read 15 rfl (by repeat first|exact .del|apply Upd.there) (s_load_blk rfl .del (by rfl)) rfl rfl rfl (by kernel_rfl) ?_ | refine ga_readF 15 rfl (s_load1 rfl (fun w hw => peekB hw (by assumption) (by rfl))) (by (first | exact fun _ h => h | (repeat first | exact sub_nil | refine sub_cons (by repeat first | exact List.Mem.head _ | apply List.Mem.tail) ?_))) rfl rfl rfl (by kernel_rfl) ?_)
              refine ga_free 16 rfl (s_andW rfl rfl) rfl rfl rfl (by kernel_rfl) ?_
              refine ga_free 17 rfl (s_xorW rfl rfl) rfl rfl rfl (by kernel_rfl) ?_
              refine ga_free 19 rfl (s_move rfl) rfl rfl rfl (by kernel_rfl) ?_
              refine ga_free 20 rfl (s_indexAddr_arr rfl rfl (by omega)) rfl rfl rfl (by kernel_rfl) ?_
              refine ga_read 21 rfl (by repeat first|exact .del|apply Upd.there) (s_load_blk rfl .del (kget (i := k) (by omega) (by omega))) rfl rfl rfl (by kernel_rfl) ?_
              refine ga_free 23 rfl (s_move rfl) rfl rfl rfl (by kernel_rfl) ?_
              refine ga_free 24 rfl (s_indexAddr_arr rfl rfl (by omega)) rfl rfl rfl (by kernel_rfl) ?_
              refine ga_read 25 rfl (by repeat first|exact .del|apply Upd.there) (s_load_blk rfl .del (wget l (i := k) (by omega) (by omega))) rfl rfl rfl (by kernel_rfl) ?_
              refine ga_one 4 rfl (by kernel_rfl) ?_
              refine gl_callp rfl (mixed_no_ct _ 6 11 25 _ _ _ rfl rfl rfl (by omega) (by omega) (by omega)) (fun _ _ _ => trivial) rfl ?_
              refine gl_nil ?_
              refine at_ga (.inr (by exact keeps_of (by (first | exact fun _ h => h | (repeat first | exact sub_nil | refine sub_cons (by repeat first | exact List.Mem.head _ | apply List.Mem.tail) ?_))))) ?_
              refine ga_free 5 rfl (s_addW rfl rfl) rfl rfl rfl (by kernel_rfl) ?_
              refine ga_free 18 rfl (s_addW rfl rfl) rfl rfl rfl (by kernel_rfl) ?_
              refine ga_free 22 rfl (s_addW rfl rfl) rfl rfl rfl (by kernel_rfl) ?_
              refine ga_free 26 rfl (s_addW rfl rfl) rfl rfl rfl (by kernel_rfl) ?_
              refine ga_free 27 rfl (s_assign rfl) rfl rfl rfl (by kernel_rfl) ?_
              refine ga_done (by kernel_rfl) ?_
              repeat (first | refine g_seq ?_ | refine at_code ?_ | refine g_skip ?_ | refine g_block ?_ | refine g_exit rfl ?_ | refine g_cond_t rfl ?_ | refine g_cond_f rfl ?_)
              repeat (first | refine g_seq ?_ | refine at_code ?_ | refine g_skip ?_ | refine g_block ?_ | refine g_exit rfl ?_ | refine g_cond_t rfl ?_ | refine g_cond_f rfl ?_)
              refine g_draw0 [1, 4, 6, 9, 11, 15, 17] 22 rfl ?_
              refine ga_free 0 rfl (s_indexAddr_arr rfl rfl (by omega)) rfl rfl rfl (by kernel_rfl) ?_
              (first | refine ga_read 1 rfl (by repeat first|exact .del|apply Upd.there) (s_load_blk rfl .del (by rfl)) rfl rfl rfl (by kernel_rfl) ?_ | refine ga_readF 1 rfl (s_load1 rfl (fun w hw => peekB hw (by assumption) (by rfl))) (by (first | exact fun _ h => h | (repeat first | exact sub_nil | refine sub_cons (by repeat first | exact List.Mem.head _ | apply List.Mem.tail) ?_))) rfl rfl rfl (by kernel_rfl) ?_)
              refine ga_free 3 rfl (s_indexAddr_arr rfl rfl (by omega)) rfl rfl rfl (by kernel_rfl) ?_
              (first | refine ga_read 4 rfl (by repeat first|exact .del|apply Upd.there) (s_load_blk rfl .del (by rfl)) rfl rfl rfl (by kernel_rfl) ?_ | refine ga_readF 4 rfl (s_load1 rfl (fun w hw => peekB hw (by assumption) (by rfl))) (by (first | exact fun _ h => h | (repeat first | exact sub_nil | refine sub_cons (by repeat first | exact List.Mem.head _ | apply List.Mem.tail) ?_))) rfl rfl rfl (by kernel_rfl) ?_)
              refine ga_free 5 rfl (s_indexAddr_arr rfl rfl (by omega)) rfl rfl rfl (by kernel_rfl) ?_
              (first | refine ga_read 6 rfl (by repeat first|exact .del|apply Upd.there) (s_load_blk rfl .del (by rfl)) rfl rfl rfl (by kernel_rfl) ?_ | refine ga_readF 6 rfl (s_load1 rfl (fun w hw => peekB hw (by assumption) (by rfl))) (by (first | exact fun _ h => h | (repeat first | exact sub_nil | refine sub_cons (by repeat first | exact List.Mem.head _ | apply List.Mem.tail) ?_))) rfl rfl rfl (by kernel_rfl) ?_)
              refine ga_free 7 rfl (s_andW rfl rfl) rfl rfl rfl (by kernel_rfl) ?_
              refine ga_free 8 rfl (s_indexAddr_arr rfl rfl (by omega)) rfl rfl rfl (by kernel_rfl) ?_
              (first | refine ga_read 9 rfl (by repeat first|exact .del|apply Upd.there) (s_load_blk rfl .del (by rfl)) rfl rfl rfl (by kernel_rfl) ?_ | refine ga_readF 9 rfl (s_load1 rfl (fun w hw => peekB hw (by assumption) (by rfl))) (by (first | exact fun _ h => h | (repeat first | exact sub_nil | refine sub_cons (by repeat first | exact List.Mem.head _ | apply List.Mem.tail) ?_))) rfl rfl rfl (by kernel_rfl) ?_)
              refine ga_free 10 rfl (s_indexAddr_arr rfl rfl (by omega)) rfl rfl rfl (by kernel_rfl) ?_
              (first | refine ga_read 11 rfl (by repeat first|exact .del|apply Upd.there) (s_load_blk rfl .del (by rfl)) rfl rfl rfl (by kernel_rfl) ?_ | refine ga_readF 11 rfl (s_load1 rfl (fun w hw => peekB hw (by assumption) (by rfl))) (by (first | exact fun _ h => h | (repeat first | exact sub_nil | refine sub_cons (by repeat first | exact List.Mem.head _ | apply List.Mem.tail) ?_))) rfl rfl rfl (by kernel_rfl) ?_)
              refine ga_free 12 rfl (s_andW rfl rfl) rfl rfl rfl (by kernel_rfl) ?_
              refine ga_free 13 rfl (s_xorW rfl rfl) rfl rfl rfl (by kernel_rfl) ?_
              refine ga_free 14 rfl (s_indexAddr_arr rfl rfl (by omega)) rfl rfl rfl (by kernel_rfl) ?_
              (first | refine ga_read 15 rfl (by repeat first|exact .del|apply Upd.there) (s_load_blk rfl .del (by rfl)) rfl rfl rfl (by kernel_rfl) ?_ | refine ga_readF 15 rfl (s_load1 rfl (fun w hw => peekB hw (by assumption) (by rfl))) (by (first | exact fun _ h => h | (repeat first | exact sub_nil | refine sub_cons (by repeat first | exact List.Mem.head _ | apply List.Mem.tail) ?_))) rfl rfl rfl (by kernel_rfl) ?_)
              refine ga_free 16 rfl (s_indexAddr_arr rfl rfl (by omega)) rfl rfl rfl (by kernel_rfl) ?_
              (first | refine ga_read 17 rfl (by repeat first|exact .del|apply Upd.there) (s_load_blk rfl .del (by rfl)) rfl rfl rfl (by kernel_rfl) ?_ | refine ga_readF 17 rfl (s_load1 rfl (fun w hw => peekB hw (by assumption) (by rfl))) (by (first | exact fun _ h => h | (repeat first | exact sub_nil | refine sub_cons (by repeat first | exact List.Mem.head _ | apply List.Mem.tail) ?_))) rfl rfl rfl (by kernel_rfl) ?_)
              refine ga_free 18 rfl (s_andW rfl rfl) rfl rfl rfl (by kernel_rfl) ?_
              refine ga_free 19 rfl (s_xorW rfl rfl) rfl rfl rfl (by kernel_rfl) ?_
              refine ga_one 2 rfl (by kernel_rfl) ?_
              refine gl_callp rfl (mixed_no_ct _ 2 13 22 _ _ _ rfl rfl rfl (by omega) (by omega) (by omega)) (fun _ _ _ => trivial) rfl ?_
              refine gl_nil ?_
              refine at_ga (.inr (by exact keeps_of (by (first | exact fun _ h => h | (repeat first | exact sub_nil | refine sub_cons (by repeat first | exact List.Mem.head _ | apply List.Mem.tail) ?_))))) ?_
              refine ga_free 20 rfl (s_addW rfl rfl) rfl rfl rfl (by kernel_rfl) ?_
              refine ga_free 21 rfl (s_assign rfl) rfl rfl rfl (by kernel_rfl) ?_
              refine ga_done (by kernel_rfl) ?_
              repeat (first | refine g_seq ?_ | refine at_code ?_ | refine g_skip ?_ | refine g_block ?_ | refine g_exit rfl ?_ | refine g_cond_t rfl ?_ | refine g_cond_f rfl ?_)
              repeat (first | refine g_seq ?_ | refine at_code ?_ | refine g_skip ?_ | refine g_block ?_ | refine g_exit rfl ?_ | refine g_cond_t rfl ?_ | refine g_cond_f rfl ?_)
              refine g_region ?_
              refine gl_f (s_move rfl) rfl rfl rfl ?_
              refine gl_f (s_move rfl) rfl rfl rfl ?_
              refine gl_f (s_addW rfl rfl) rfl rfl rfl ?_
              refine gl_f (s_indexAddr_arr rfl rfl (by omega)) rfl rfl rfl ?_
              refine gl_r (by first | exact s_load_blk rfl (by repeat first|exact .del|apply Upd.there) (by rfl) | exact s_load1 rfl (fun w hw => peekB hw (by assumption) (by rfl))) rfl rfl rfl ?_
              refine gl_f (s_indexAddr_arr rfl rfl (by omega)) rfl rfl rfl ?_
              refine gl_r (by first | exact s_load_blk rfl (by repeat first|exact .del|apply Upd.there) (by rfl) | exact s_load1 rfl (fun w hw => peekB hw (by assumption) (by rfl))) rfl rfl rfl ?_
              refine gl_f (s_indexAddr_arr rfl rfl (by omega)) rfl rfl rfl ?_
              refine gl_r (by first | exact s_load_blk rfl (by repeat first|exact .del|apply Upd.there) (by rfl) | exact s_load1 rfl (fun w hw => peekB hw (by assumption) (by rfl))) rfl rfl rfl ?_
              refine gl_f (s_indexAddr_arr rfl rfl (by omega)) rfl rfl rfl ?_
              refine gl_r (by first | exact s_load_blk rfl (by repeat first|exact .del|apply Upd.there) (by rfl) | exact s_load1 rfl (fun w hw => peekB hw (by assumption) (by rfl))) rfl rfl rfl ?_
              refine gl_f (s_move rfl) rfl rfl rfl ?_
              refine gl_f (s_addW rfl rfl) rfl rfl rfl ?_
              refine gl_f (s_indexAddr_arr rfl rfl (by omega)) rfl rfl rfl ?_
              refine gl_r (by first | exact s_load_blk rfl (by repeat first|exact .del|apply Upd.there) (by rfl) | exact s_load1 rfl (fun w hw => peekB hw (by assumption) (by rfl))) rfl rfl rfl ?_
              refine gl_f (s_indexAddr_arr rfl rfl (by omega)) rfl rfl rfl ?_
              refine gl_r (by first | exact s_load_blk rfl (by repeat first|exact .del|apply Upd.there) (by rfl) | exact s_load1 rfl (fun w hw => peekB hw (by assumption) (by rfl))) rfl rfl rfl ?_
              refine gl_f (s_indexAddr_arr rfl rfl (by omega)) rfl rfl rfl ?_
              refine gl_r (by first | exact s_load_blk rfl (by repeat first|exact .del|apply Upd.there) (by rfl) | exact s_load1 rfl (fun w hw => peekB hw (by assumption) (by rfl))) rfl rfl rfl ?_
              refine gl_f (s_build rfl (v := .agg (oct (rounds l S (k + 1))).toArray) (fun w => by kernel_rfl)) rfl rfl rfl ?_
              refine gl_store_blk rfl rfl (by repeat first|exact .here|apply Upd.there) (by rfl) (oct_one _) (by rfl) ?_
              refine gl_nil ?_
              repeat (first | refine g_seq ?_ | refine at_code ?_ | refine g_skip ?_ | refine g_block ?_ | refine g_exit rfl ?_ | refine g_cond_t rfl ?_ | refine g_cond_f rfl ?_)
              repeat (first | refine g_seq ?_ | refine at_code ?_ | refine g_skip ?_ | refine g_block ?_ | refine g_exit rfl ?_ | refine g_cond_t rfl ?_ | refine g_cond_f rfl ?_)
              refine g_region ?_
              refine gl_f (s_add_i64 rfl rfl (by omega)) rfl rfl rfl ?_
              refine gl_f (s_move rfl) rfl rfl rfl ?_
              refine gl_nil ?_
              repeat (first | refine g_seq ?_ | refine at_code ?_ | refine g_skip ?_ | refine g_block ?_ | refine g_exit rfl ?_ | refine g_cond_t rfl ?_ | refine g_cond_f rfl ?_)
              refine at_next (k + 1) (by omega) (by omega) ?_ ?_
              · (repeat (first | exact Sub.nil _ | refine Sub.cons rfl ?_))
              · intro w hw; exact hw
            · have hk64 : k = 64 := by simp at h; omega
              subst hk64
              repeat (first | refine g_seq ?_ | refine at_code ?_ | refine g_skip ?_ | refine g_block ?_ | refine g_exit rfl ?_ | refine g_cond_t rfl ?_ | refine g_cond_f rfl ?_)
              refine g_region ?_
              refine gl_f (s_move rfl) rfl rfl rfl ?_
              refine gl_nil ?_
              repeat (first | refine g_seq ?_ | refine at_code ?_ | refine g_skip ?_ | refine g_block ?_ | refine g_exit rfl ?_ | refine g_cond_t rfl ?_ | refine g_cond_f rfl ?_)
              refine g_loop (ι := Nat) (fun k => k ≤ 8) (fun k => [(0, .pointer (some ⟨b, 0, none⟩)), (8, .pointer (some ⟨g8, 0, none⟩)), (152, .int .i64 (k : Nat))])
                (fun k => [HashAt b (upto S (rounds l S 64) k) r n, .blk g8 (.cells (oct (rounds l S 64)).toArray 121)]) (fun k => 8 - k) 0 (by omega) ?_ ?_ ?_
              · (repeat (first | exact Sub.nil _ | refine Sub.cons rfl ?_))
              · intro w hw
                exact ((hw.front (.there (.there (.there .del)))).upd_same (.there (.there .del))).upd_same (.there (.there .del))
              · intro k hk
                repeat (first | refine g_seq ?_ | refine at_code ?_ | refine g_skip ?_ | refine g_block ?_ | refine g_exit rfl ?_ | refine g_cond_t rfl ?_ | refine g_cond_f rfl ?_)
                refine g_region ?_
                refine gl_f (s_lss rfl rfl) rfl rfl rfl ?_
                refine gl_nil ?_
                repeat (first | refine g_seq ?_ | refine at_code ?_ | refine g_skip ?_ | refine g_block ?_ | refine g_exit rfl ?_ | refine g_cond_t rfl ?_ | refine g_cond_f rfl ?_)
                refine g_cond rfl (fun h => ?_) (fun h => ?_)
                · simp only [decide_eq_true_eq] at h
                  repeat (first | refine g_seq ?_ | refine at_code ?_ | refine g_skip ?_ | refine g_block ?_ | refine g_exit rfl ?_ | refine g_cond_t rfl ?_ | refine g_cond_f rfl ?_)
                  refine g_region ?_
                  refine gl_f (s_move rfl) rfl rfl rfl ?_
                  refine gl_f (s_assign rfl) rfl rfl rfl ?_
                  refine gl_nil ?_
                  repeat (first | refine g_seq ?_ | refine at_code ?_ | refine g_skip ?_ | refine g_block ?_ | refine g_exit rfl ?_ | refine g_cond_t rfl ?_ | refine g_cond_f rfl ?_)
                  repeat (first | refine g_seq ?_ | refine at_code ?_ | refine g_skip ?_ | refine g_block ?_ | refine g_exit rfl ?_ | refine g_cond_t rfl ?_ | refine g_cond_f rfl ?_)
                  refine g_draw0 [5, 8] 14 rfl ?_
                  refine ga_free 0 rfl (s_move rfl) rfl rfl rfl (by kernel_rfl) ?_
                  refine ga_free 1 rfl (s_move rfl) rfl rfl rfl (by kernel_rfl) ?_
                  refine ga_free 2 rfl (s_nilCheck rfl) rfl rfl rfl (by kernel_rfl) ?_
                  refine ga_free 3 rfl (by first | exact s_fieldAddr rfl (by rfl) (by infer_instance) (by decide) | exact s_fieldAddr_o rfl (by assumption) (by rfl) (by infer_instance) (by decide)) rfl rfl rfl (by kernel_rfl) ?_
                  refine ga_free 4 rfl (s_indexAddr_arr rfl rfl (by omega)) rfl rfl rfl (by kernel_rfl) ?_
                  refine ga_read 5 rfl (by repeat first|exact .del|apply Upd.there) (s_load_blk rfl .del (hget (i := k) (by omega) (by omega))) rfl rfl rfl (by kernel_rfl) ?_
                  refine ga_free 6 rfl (s_move rfl) rfl rfl rfl (by kernel_rfl) ?_
                  refine ga_free 7 rfl (s_indexAddr_arr rfl rfl (by omega)) rfl rfl rfl (by kernel_rfl) ?_
                  refine ga_read 8 rfl (by repeat first|exact .del|apply Upd.there) (s_load_blk rfl .del (oget (i := k) (by omega) (by omega))) rfl rfl rfl (by kernel_rfl) ?_
                  refine ga_free 9 rfl (s_addW rfl rfl) rfl rfl rfl (by kernel_rfl) ?_
                  refine ga_free 10 rfl (s_nilCheck rfl) rfl rfl rfl (by kernel_rfl) ?_
                  refine ga_free 11 rfl (by first | exact s_fieldAddr rfl (by rfl) (by infer_instance) (by decide) | exact s_fieldAddr_o rfl (by assumption) (by rfl) (by infer_instance) (by decide)) rfl rfl rfl (by kernel_rfl) ?_
                  refine ga_free 12 rfl (s_indexAddr_arr rfl rfl (by omega)) rfl rfl rfl (by kernel_rfl) ?_
                  refine ga_one 13 rfl (by kernel_rfl) ?_
                  refine gl_store_blkP rfl rfl (by repeat first|exact .here|apply Upd.there) (by rfl) (by (intro q hq; simp [Value.cells] at hq; first | (subst hq; rfl) | (rcases hq with rfl | rfl | rfl | rfl | rfl | rfl | rfl | rfl <;> rfl) | (rcases hq with rfl | rfl | rfl | rfl | rfl | rfl | rfl <;> rfl) | (rcases hq with rfl | rfl | rfl | rfl | rfl | rfl <;> rfl) | (rcases hq with rfl | rfl | rfl | rfl | rfl <;> rfl) | (rcases hq with rfl | rfl | rfl | rfl <;> rfl) | (rcases hq with rfl | rfl | rfl <;> rfl) | (rcases hq with rfl | rfl <;> rfl))) (by simp [hc, oct]; omega) ?_
                  refine gl_nil ?_
                  refine at_ga (.inl (by kernel_rfl)) ?_
                  refine ga_done (by kernel_rfl) ?_
                  repeat (first | refine g_seq ?_ | refine at_code ?_ | refine g_skip ?_ | refine g_block ?_ | refine g_exit rfl ?_ | refine g_cond_t rfl ?_ | refine g_cond_f rfl ?_)
                  repeat (first | refine g_seq ?_ | refine at_code ?_ | refine g_skip ?_ | refine g_block ?_ | refine g_exit rfl ?_ | refine g_cond_t rfl ?_ | refine g_cond_f rfl ?_)
                  refine g_region ?_
                  refine gl_f (s_add_i64 rfl rfl (by omega)) rfl rfl rfl ?_
                  refine gl_f (s_move rfl) rfl rfl rfl ?_
                  refine gl_nil ?_
                  repeat (first | refine g_seq ?_ | refine at_code ?_ | refine g_skip ?_ | refine g_block ?_ | refine g_exit rfl ?_ | refine g_cond_t rfl ?_ | refine g_cond_f rfl ?_)
                  refine at_next (k + 1) (by omega) (by omega) ?_ ?_
                  · (repeat (first | exact Sub.nil _ | refine Sub.cons rfl ?_))
                  · intro w hw
                    unfold HashAt
                    rw [← hput S (rounds l S 64) r n (k := k) (o := 0 + 0 + (k : Int).toNat * 1) (by omega) (by omega)]
                    exact hw
                · have hk8 : k = 8 := by simp at h; omega
                  subst hk8
                  repeat (first | refine g_seq ?_ | refine at_code ?_ | refine g_skip ?_ | refine g_block ?_ | refine g_exit rfl ?_ | refine g_cond_t rfl ?_ | refine g_cond_f rfl ?_)
                  exact at_end0 rfl [HashAt b (blk S l) r n] ⟨rfl, rfl⟩ (fun w hw => hw.upd_same (.there .del))
end Go.Proofs.Ytolgclfbllcjhaa.Dg
