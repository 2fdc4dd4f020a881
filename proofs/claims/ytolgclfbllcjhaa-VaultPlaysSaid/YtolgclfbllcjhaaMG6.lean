/- The walk of the reference's Sum. -/
import Derived.Test.YtolgclfbllcjhaaMG5
namespace Go.Proofs.Ytolgclfbllcjhaa.Dg
open Go Go.Sl
set_option linter.unusedVariables false
set_option linter.unusedSimpArgs false

theorem tailn_len' (n k : Nat) : (tailn n k).length = 1 + (119 - n % 64) % 64 + k := by simp [tailn, be8n]; omega
theorem sbytes_take (S : Nat → W) {i : Nat} (hi : i < 8) : (sbytes S).take (4 * (i + 1)) = (sbytes S).take (4 * i) ++ wbytes (S i) := by
  rcases (show i = 0 ∨ i = 1 ∨ i = 2 ∨ i = 3 ∨ i = 4 ∨ i = 5 ∨ i = 6 ∨ i = 7 by omega) with rfl | rfl | rfl | rfl | rfl | rfl | rfl | rfl <;> rfl
theorem bytesV_append (a b : List UInt8) : bytesV (a ++ b) = bytesV a ++ bytesV b := by simp [bytesV]
theorem bytesV_one (l : List UInt8) : ∀ q ∈ bytesV l, q.oneCell' = true := fun q hq => by
  simp only [bytesV, List.mem_map] at hq; obtain ⟨p, _, rfl⟩ := hq; rfl
theorem bytesV_cut (T : List UInt8) (j : Nat) : ((bytesV T).drop (64 * j * 1)).take ((64 * j + 64 - 64 * j) * 1) = bytesV ((T.drop (64 * j)).take 64) := by
  simp only [bytesV, Nat.mul_one, List.map_take, List.map_drop]
  congr 1; omega

set_option maxHeartbeats 2000000 in
theorem rSum_ct (s : List UInt8) (hs : s.length ≤ 140737488351232) : Pu Try.prog 90 [B s] (fun _ => True) (B (sha s)) := by
  refine ct_enter 85 Try.func90 rfl rfl rfl ?_
  intro F _
  repeat (first | refine g_seq ?_ | refine at_code ?_ | refine g_skip ?_ | refine g_block ?_ | refine g_exit rfl ?_ | refine g_cond_t rfl ?_ | refine g_cond_f rfl ?_)
  refine g_region ?_
  refine gl_f (s_assign rfl) rfl rfl rfl ?_
  refine gl_nil ?_
  repeat (first | refine g_seq ?_ | refine at_code ?_ | refine g_skip ?_ | refine g_block ?_ | refine g_exit rfl ?_ | refine g_cond_t rfl ?_ | refine g_cond_f rfl ?_)
  repeat (first | refine g_seq ?_ | refine at_code ?_ | refine g_skip ?_ | refine g_block ?_ | refine g_exit rfl ?_ | refine g_cond_t rfl ?_ | refine g_cond_f rfl ?_)
  refine g_region ?_
  refine gl_f (s_move rfl) rfl rfl rfl ?_
  refine gl_bytes rfl rfl ?_; intro a1 c1 hc1
  refine gl_f (s_assign rfl) rfl rfl rfl ?_
  refine gl_nil ?_
  repeat (first | refine g_seq ?_ | refine at_code ?_ | refine g_skip ?_ | refine g_block ?_ | refine g_exit rfl ?_ | refine g_cond_t rfl ?_ | refine g_cond_f rfl ?_)
  repeat (first | refine g_seq ?_ | refine at_code ?_ | refine g_skip ?_ | refine g_block ?_ | refine g_exit rfl ?_ | refine g_cond_t rfl ?_ | refine g_cond_f rfl ?_)
  refine g_region ?_
  refine gl_f (s_move rfl) rfl rfl rfl ?_
  refine gl_buildSliceU rfl rfl rfl rfl rfl rfl (xs := bytesV [128]) rfl rfl ?_; intro a2 ha2
  refine gl_append rfl rfl (fun a' c' => .there .here) (fun w hw => (hw.ownN (by repeat first|exact .del|apply Upd.there)).2.2.1) rfl rfl rfl (bytesV_one _) (by show (_ + 1) * 1 ≤ _; omega) (by omega) rfl ?_; intro a3 c3 hc3
  refine gl_f (s_assign rfl) rfl rfl rfl ?_
  refine gl_nil ?_
  repeat (first | refine g_seq ?_ | refine at_code ?_ | refine g_skip ?_ | refine g_block ?_ | refine g_exit rfl ?_ | refine g_cond_t rfl ?_ | refine g_cond_f rfl ?_)
  generalize hZ : (119 - s.length % 64) % 64 = Z at *
  refine g_loop (ι := Nat × Option Addr × Nat) (fun i => i.1 ≤ Z) (fun i => [(0, B s), (3, .slice i.2.1 (s.length + 1 + i.1) i.2.2)]) (fun i => [.own (.slice i.2.1 (s.length + 1 + i.1) i.2.2) 5 1 (bytesV (s ++ [128] ++ List.replicate i.1 0))]) (fun i => Z - i.1) (0, a3, c3) (by omega) ?_ ?_ ?_
  · (repeat (first | exact Sub.nil _ | refine Sub.cons rfl ?_))
  · intro w hw
    simp only [List.replicate_zero, List.append_nil, bytesV_append s]
    exact hw.drop
  · rintro ⟨j, a, c⟩ hj
    simp only at hj
    repeat (first | refine g_seq ?_ | refine at_code ?_ | refine g_skip ?_ | refine g_block ?_ | refine g_exit rfl ?_ | refine g_cond_t rfl ?_ | refine g_cond_f rfl ?_)
    refine g_region ?_
    refine gl_f (s_move rfl) rfl rfl rfl ?_
    refine gl_f (s_len_sl rfl) rfl rfl rfl ?_
    refine gl_f (s_rem_pos rfl rfl (by omega)) rfl rfl rfl ?_
    refine gl_f (s_neq rfl rfl) rfl rfl rfl ?_
    refine gl_nil ?_
    repeat (first | refine g_seq ?_ | refine at_code ?_ | refine g_skip ?_ | refine g_block ?_ | refine g_exit rfl ?_ | refine g_cond_t rfl ?_ | refine g_cond_f rfl ?_)
    refine g_cond rfl (fun h => ?_) (fun h => ?_)
    · have hjZ : j < Z := by
        simp at h
        omega
      repeat (first | refine g_seq ?_ | refine at_code ?_ | refine g_skip ?_ | refine g_block ?_ | refine g_exit rfl ?_ | refine g_cond_t rfl ?_ | refine g_cond_f rfl ?_)
      refine g_region ?_
      refine gl_f (s_move rfl) rfl rfl rfl ?_
      refine gl_buildSliceU rfl rfl rfl rfl rfl rfl (xs := bytesV [0]) rfl rfl ?_; intro a4 ha4
      refine gl_append rfl rfl (fun a' c' => .there .here) (fun w hw => (hw.ownN (by repeat first|exact .del|apply Upd.there)).2.2.1) rfl rfl rfl (bytesV_one _) (by show (_ + 1) * 1 ≤ _; omega) (by omega) rfl ?_; intro a5 c5 hc5
      refine gl_f (s_assign rfl) rfl rfl rfl ?_
      refine gl_nil ?_
      repeat (first | refine g_seq ?_ | refine at_code ?_ | refine g_skip ?_ | refine g_block ?_ | refine g_exit rfl ?_ | refine g_cond_t rfl ?_ | refine g_cond_f rfl ?_)
      refine at_next (j + 1, a5, c5) (by simp only; omega) (by simp only; omega) ?_ ?_
      · (repeat (first | exact Sub.nil _ | refine Sub.cons rfl ?_))
      · intro w hw
        simp only [List.replicate_succ', ← List.append_assoc]
        rw [bytesV_append (s ++ [128] ++ List.replicate j 0)]
        exact hw.drop
    · have hjZ : j = Z := by
        simp at h
        omega
      subst hjZ
      repeat (first | refine g_seq ?_ | refine at_code ?_ | refine g_skip ?_ | refine g_block ?_ | refine g_exit rfl ?_ | refine g_cond_t rfl ?_ | refine g_cond_f rfl ?_)
      repeat (first | refine g_seq ?_ | refine at_code ?_ | refine g_skip ?_ | refine g_block ?_ | refine g_exit rfl ?_ | refine g_cond_t rfl ?_ | refine g_cond_f rfl ?_)
      refine g_region ?_
      refine gl_f (s_move rfl) rfl rfl rfl ?_
      refine gl_f (s_len_str rfl) rfl rfl rfl ?_
      refine gl_f (s_conv_keep_u64 rfl (by omega)) rfl rfl rfl ?_
      refine gl_f (s_mul_raw rfl rfl) rfl rfl rfl ?_
      refine gl_f (s_assign rfl) rfl rfl rfl ?_
      refine gl_nil ?_
      repeat (first | refine g_seq ?_ | refine at_code ?_ | refine g_skip ?_ | refine g_block ?_ | refine g_exit rfl ?_ | refine g_cond_t rfl ?_ | refine g_cond_f rfl ?_)
      repeat (first | refine g_seq ?_ | refine at_code ?_ | refine g_skip ?_ | refine g_block ?_ | refine g_exit rfl ?_ | refine g_cond_t rfl ?_ | refine g_cond_f rfl ?_)
      refine g_region ?_
      refine gl_f (s_assign rfl) rfl rfl rfl ?_
      refine gl_nil ?_
      repeat (first | refine g_seq ?_ | refine at_code ?_ | refine g_skip ?_ | refine g_block ?_ | refine g_exit rfl ?_ | refine g_cond_t rfl ?_ | refine g_cond_f rfl ?_)
      refine g_loop (ι := Nat × Option Addr × Nat) (fun i => i.1 ≤ 8) (fun i => [(3, .slice i.2.1 (s.length + 1 + j + i.1) i.2.2), (4, .int .u64 (IntKind.u64.wrap ((s.length : Int) * 8))), (5, .int .i64 (i.1 : Nat))]) (fun i => [.own (.slice i.2.1 (s.length + 1 + j + i.1) i.2.2) 5 1 (bytesV (s ++ tailn s.length i.1))]) (fun i => 8 - i.1) (0, a, c) (by omega) ?_ ?_ ?_
      · (repeat (first | exact Sub.nil _ | refine Sub.cons rfl ?_))
      · intro w hw
        have e : s ++ tailn s.length 0 = s ++ [128] ++ List.replicate j 0 := by simp [tailn, be8n, hZ]
        simp only [e]
        exact hw
      · rintro ⟨k, a, c⟩ hk
        simp only at hk
        repeat (first | refine g_seq ?_ | refine at_code ?_ | refine g_skip ?_ | refine g_block ?_ | refine g_exit rfl ?_ | refine g_cond_t rfl ?_ | refine g_cond_f rfl ?_)
        refine g_region ?_
        refine gl_f (s_move rfl) rfl rfl rfl ?_
        refine gl_f (s_lss rfl rfl) rfl rfl rfl ?_
        refine gl_nil ?_
        repeat (first | refine g_seq ?_ | refine at_code ?_ | refine g_skip ?_ | refine g_block ?_ | refine g_exit rfl ?_ | refine g_cond_t rfl ?_ | refine g_cond_f rfl ?_)
        refine g_cond rfl (fun h2 => ?_) (fun h2 => ?_)
        · simp only [decide_eq_true_eq] at h2
          repeat (first | refine g_seq ?_ | refine at_code ?_ | refine g_skip ?_ | refine g_block ?_ | refine g_exit rfl ?_ | refine g_cond_t rfl ?_ | refine g_cond_f rfl ?_)
          refine g_region ?_
          refine gl_f (s_move rfl) rfl rfl rfl ?_
          refine gl_f (s_move rfl) rfl rfl rfl ?_
          refine gl_f (s_move rfl) rfl rfl rfl ?_
          refine gl_f (s_conv_keep_u64 rfl (by omega)) rfl rfl rfl ?_
          refine gl_f (s_mul_u64 rfl rfl (by omega)) rfl rfl rfl ?_
          refine gl_f (s_sub_u64 rfl rfl (by omega)) rfl rfl rfl ?_
          refine gl_f (s_shr rfl rfl (by omega)) rfl rfl rfl ?_
          refine gl_f ((s_conv_int rfl).eq (cnt_byte s.length k (by omega))) rfl rfl rfl ?_
          refine gl_buildSliceU rfl rfl rfl rfl rfl rfl (xs := bytesV [UInt8.ofNat (s.length * 8 % 2 ^ 64 / 2 ^ (56 - 8 * k))]) rfl rfl ?_; intro a4 ha4
          refine gl_append rfl rfl (fun a' c' => .there .here) (fun w hw => (hw.ownN (by repeat first|exact .del|apply Upd.there)).2.2.1) rfl rfl rfl (bytesV_one _) (by show (_ + 1) * 1 ≤ _; omega) (by omega) rfl ?_; intro a5 c5 hc5
          refine gl_f (s_assign rfl) rfl rfl rfl ?_
          refine gl_nil ?_
          repeat (first | refine g_seq ?_ | refine at_code ?_ | refine g_skip ?_ | refine g_block ?_ | refine g_exit rfl ?_ | refine g_cond_t rfl ?_ | refine g_cond_f rfl ?_)
          repeat (first | refine g_seq ?_ | refine at_code ?_ | refine g_skip ?_ | refine g_block ?_ | refine g_exit rfl ?_ | refine g_cond_t rfl ?_ | refine g_cond_f rfl ?_)
          refine g_region ?_
          refine gl_f (s_move rfl) rfl rfl rfl ?_
          refine gl_f (s_add_i64 rfl rfl (by omega)) rfl rfl rfl ?_
          refine gl_f (s_assign rfl) rfl rfl rfl ?_
          refine gl_nil ?_
          repeat (first | refine g_seq ?_ | refine at_code ?_ | refine g_skip ?_ | refine g_block ?_ | refine g_exit rfl ?_ | refine g_cond_t rfl ?_ | refine g_cond_f rfl ?_)
          refine at_next (k + 1, a5, c5) (by simp only; omega) (by simp only; omega) ?_ ?_
          · (repeat (first | exact Sub.nil _ | refine Sub.cons rfl ?_))
          · intro w hw
            simp only [tailn_succ, ← List.append_assoc]
            rw [bytesV_append (s ++ tailn s.length k)]
            exact hw.drop
        · have hk8 : k = 8 := by simp at h2; omega
          subst hk8
          have hsha : sha s = sbytes (st (s ++ tailn s.length 8)) := rfl
          have hTl : (s ++ tailn s.length 8).length = s.length + 1 + j + 8 := by rw [List.length_append, tailn_len', hZ]; omega
          generalize hT : s ++ tailn s.length 8 = T at *
          refine g_ownN .del (fun _ hnc0 _ => ?_)
          have hnc : s.length + 1 + j + 8 ≤ c := hnc0
          repeat (first | refine g_seq ?_ | refine at_code ?_ | refine g_skip ?_ | refine g_block ?_ | refine g_exit rfl ?_ | refine g_cond_t rfl ?_ | refine g_cond_f rfl ?_)
          refine g_region ?_
          refine gl_callp rfl words_ct (fun _ _ _ => trivial) rfl ?_
          refine gl_allocA rfl ?_; intro g6
          refine gl_store_blk rfl rfl (by repeat first|exact .here|apply Upd.there) (by rfl) (fun q hq => by simp only [Value.cells, List.toList_toArray, List.mem_map] at hq; obtain ⟨p, _, rfl⟩ := hq; rfl) (by rfl) ?_
          refine gl_nil ?_
          repeat (first | refine g_seq ?_ | refine at_code ?_ | refine g_skip ?_ | refine g_block ?_ | refine g_exit rfl ?_ | refine g_cond_t rfl ?_ | refine g_cond_f rfl ?_)
          repeat (first | refine g_seq ?_ | refine at_code ?_ | refine g_skip ?_ | refine g_block ?_ | refine g_exit rfl ?_ | refine g_cond_t rfl ?_ | refine g_cond_f rfl ?_)
          refine g_region ?_
          refine gl_callp rfl first_ct (fun _ _ _ => trivial) rfl ?_
          refine gl_allocA rfl ?_; intro g7
          refine gl_store_blk rfl rfl (by repeat first|exact .here|apply Upd.there) (by rfl) (oct_one _) (by rfl) ?_
          refine gl_nil ?_
          repeat (first | refine g_seq ?_ | refine at_code ?_ | refine g_skip ?_ | refine g_block ?_ | refine g_exit rfl ?_ | refine g_cond_t rfl ?_ | refine g_cond_f rfl ?_)
          repeat (first | refine g_seq ?_ | refine at_code ?_ | refine g_skip ?_ | refine g_block ?_ | refine g_exit rfl ?_ | refine g_cond_t rfl ?_ | refine g_cond_f rfl ?_)
          refine g_region ?_
          refine gl_f (s_assign rfl) rfl rfl rfl ?_
          refine gl_nil ?_
          repeat (first | refine g_seq ?_ | refine at_code ?_ | refine g_skip ?_ | refine g_block ?_ | refine g_exit rfl ?_ | refine g_cond_t rfl ?_ | refine g_cond_f rfl ?_)
          refine g_loop (ι := Nat) (fun i => i ≤ T.length / 64) (fun i => [(3, .slice a (s.length + 1 + j + 8) c), (6, .pointer (some ⟨g6, 0, none⟩)), (7, .pointer (some ⟨g7, 0, none⟩)), (8, .int .i64 ((64 * i : Nat) : Int))])
            (fun i => [.blk g7 (.cells (oct (stN T i)).toArray 121), .blk g6 (.cells (kks.map W32).toArray 132), .own (.slice a (s.length + 1 + j + 8) c) 5 1 (bytesV T)]) (fun i => T.length / 64 - i) 0 (by omega) ?_ ?_ ?_
          · (repeat (first | exact Sub.nil _ | refine Sub.cons rfl ?_))
          · intro w hw
            have e : putL (Value.cells zk64) 0 (Value.cells (.agg (kks.map W32).toArray)).toList = (kks.map W32).toArray := by kernel_rfl
            rw [← e]
            exact hw
          · intro i hi
            repeat (first | refine g_seq ?_ | refine at_code ?_ | refine g_skip ?_ | refine g_block ?_ | refine g_exit rfl ?_ | refine g_cond_t rfl ?_ | refine g_cond_f rfl ?_)
            refine g_region ?_
            refine gl_f (s_move rfl) rfl rfl rfl ?_
            refine gl_f (s_move rfl) rfl rfl rfl ?_
            refine gl_f (s_len_sl rfl) rfl rfl rfl ?_
            refine gl_f (s_lss rfl rfl) rfl rfl rfl ?_
            refine gl_nil ?_
            repeat (first | refine g_seq ?_ | refine at_code ?_ | refine g_skip ?_ | refine g_block ?_ | refine g_exit rfl ?_ | refine g_cond_t rfl ?_ | refine g_cond_f rfl ?_)
            refine g_cond rfl (fun h3 => ?_) (fun h3 => ?_)
            · simp only [decide_eq_true_eq] at h3
              repeat (first | refine g_seq ?_ | refine at_code ?_ | refine g_skip ?_ | refine g_block ?_ | refine g_exit rfl ?_ | refine g_cond_t rfl ?_ | refine g_cond_f rfl ?_)
              refine g_draw0 [0, 6] 9 rfl ?_
              (first | refine ga_read 0 rfl (by repeat first|exact .del|apply Upd.there) (s_load_blkW rfl .del (by rfl)) rfl rfl rfl (by kernel_rfl) ?_ | refine ga_read 0 rfl (by repeat first|exact .del|apply Upd.there) (s_load_blkN rfl .del (by rfl)) rfl rfl rfl (by kernel_rfl) ?_ | refine ga_readF 0 rfl (s_loadN rfl (fun w hw => peekBN hw (by assumption)) (by rfl)) (by (first | exact fun _ h => h | (repeat first | exact sub_nil | refine sub_cons (by repeat first | exact List.Mem.head _ | apply List.Mem.tail) ?_))) rfl rfl rfl (by kernel_rfl) ?_)
              refine ga_free 1 rfl (s_move rfl) rfl rfl rfl (by kernel_rfl) ?_
              refine ga_free 2 rfl (s_move rfl) rfl rfl rfl (by kernel_rfl) ?_
              refine ga_free 3 rfl (s_move rfl) rfl rfl rfl (by kernel_rfl) ?_
              refine ga_free 4 rfl (s_add_i64 rfl rfl (by omega)) rfl rfl rfl (by kernel_rfl) ?_
              refine ga_free 5 rfl ((s_slice_sl rfl rfl rfl (by omega)).eq (v' := .slice (cutA a c (64 * i) 1) 64 (c - 64 * i)) (by simp only [Value.slice.injEq]; refine ⟨?_, ?_, ?_⟩ <;> first | omega | rfl)) rfl rfl rfl (by kernel_rfl) ?_
              (first | refine ga_read 6 rfl (by repeat first|exact .del|apply Upd.there) (s_load_blkW rfl .del (by rfl)) rfl rfl rfl (by kernel_rfl) ?_ | refine ga_read 6 rfl (by repeat first|exact .del|apply Upd.there) (s_load_blkN rfl .del (by rfl)) rfl rfl rfl (by kernel_rfl) ?_ | refine ga_readF 6 rfl (s_loadN rfl (fun w hw => peekBN hw (by assumption)) (by rfl)) (by (first | exact fun _ h => h | (repeat first | exact sub_nil | refine sub_cons (by repeat first | exact List.Mem.head _ | apply List.Mem.tail) ?_))) rfl rfl rfl (by kernel_rfl) ?_)
              refine ga_one 7 rfl (by kernel_rfl) ?_
              refine gl_callp rfl (rblock_ct _ ((T.drop (64 * i)).take 64) (by rw [List.length_take, List.length_drop]; omega) _ _) (fun hh _ ⟨bs, hb⟩ => by have := (Sat.rd hb (by repeat first|exact .del|apply Upd.there)).cut (n := s.length + 1 + j + 8) (c := c) (sz := 1) (by simp [bytesV, hTl]) hnc (64 * i) (64 * i + 64) (by omega) (by omega); rwa [bytesV_cut] at this) rfl ?_
              refine gl_nil ?_
              refine at_ga (.inl (by kernel_rfl)) ?_
              refine ga_one 8 rfl (by kernel_rfl) ?_
              refine gl_store_blk rfl rfl (by repeat first|exact .here|apply Upd.there) (by rfl) (oct_one _) (by rfl) ?_
              refine gl_nil ?_
              refine at_ga (.inl (by kernel_rfl)) ?_
              refine ga_done (by kernel_rfl) ?_
              repeat (first | refine g_seq ?_ | refine at_code ?_ | refine g_skip ?_ | refine g_block ?_ | refine g_exit rfl ?_ | refine g_cond_t rfl ?_ | refine g_cond_f rfl ?_)
              repeat (first | refine g_seq ?_ | refine at_code ?_ | refine g_skip ?_ | refine g_block ?_ | refine g_exit rfl ?_ | refine g_cond_t rfl ?_ | refine g_cond_f rfl ?_)
              refine g_region ?_
              refine gl_f (s_move rfl) rfl rfl rfl ?_
              refine gl_f (s_add_i64 rfl rfl (by omega)) rfl rfl rfl ?_
              refine gl_f (s_assign rfl) rfl rfl rfl ?_
              refine gl_nil ?_
              repeat (first | refine g_seq ?_ | refine at_code ?_ | refine g_skip ?_ | refine g_block ?_ | refine g_exit rfl ?_ | refine g_cond_t rfl ?_ | refine g_cond_f rfl ?_)
              refine at_next (i + 1) (by omega) (by omega) ?_ ?_
              · (repeat (first | exact Sub.nil _ | refine Sub.cons rfl ?_))
              · intro w hw; exact hw
            · have hi2 : i = T.length / 64 := by simp at h3; omega
              subst hi2
              repeat (first | refine g_seq ?_ | refine at_code ?_ | refine g_skip ?_ | refine g_block ?_ | refine g_exit rfl ?_ | refine g_cond_t rfl ?_ | refine g_cond_f rfl ?_)
              refine g_region ?_
              refine gl_f (s_assign rfl) rfl rfl rfl ?_
              refine gl_nil ?_
              repeat (first | refine g_seq ?_ | refine at_code ?_ | refine g_skip ?_ | refine g_block ?_ | refine g_exit rfl ?_ | refine g_cond_t rfl ?_ | refine g_cond_f rfl ?_)
              repeat (first | refine g_seq ?_ | refine at_code ?_ | refine g_skip ?_ | refine g_block ?_ | refine g_exit rfl ?_ | refine g_cond_t rfl ?_ | refine g_cond_f rfl ?_)
              refine g_region ?_
              refine gl_f (s_assign rfl) rfl rfl rfl ?_
              refine gl_nil ?_
              repeat (first | refine g_seq ?_ | refine at_code ?_ | refine g_skip ?_ | refine g_block ?_ | refine g_exit rfl ?_ | refine g_cond_t rfl ?_ | refine g_cond_f rfl ?_)
              refine g_own_nil 5 1 ?_
              refine g_loop (ι := Nat × Option Addr × Nat) (fun i => i.1 ≤ 8) (fun i => [(7, .pointer (some ⟨g7, 0, none⟩)), (9, .slice i.2.1 (4 * i.1) i.2.2), (10, .int .i64 (i.1 : Nat))]) (fun i => [.own (.slice i.2.1 (4 * i.1) i.2.2) 5 1 (bytesV ((sbytes (st T)).take (4 * i.1))), .blk g7 (.cells (oct (st T)).toArray 121)]) (fun i => 8 - i.1) (0, none, 0) (by omega) ?_ ?_ ?_
              · (repeat (first | exact Sub.nil _ | refine Sub.cons rfl ?_))
              · intro w hw
                exact (hw.upd_same (.there (.there .del))).upd_same (.there (.there .del))
              · rintro ⟨q, a, c⟩ hq
                simp only at hq
                repeat (first | refine g_seq ?_ | refine at_code ?_ | refine g_skip ?_ | refine g_block ?_ | refine g_exit rfl ?_ | refine g_cond_t rfl ?_ | refine g_cond_f rfl ?_)
                refine g_region ?_
                refine gl_f (s_move rfl) rfl rfl rfl ?_
                refine gl_f (s_lss rfl rfl) rfl rfl rfl ?_
                refine gl_nil ?_
                repeat (first | refine g_seq ?_ | refine at_code ?_ | refine g_skip ?_ | refine g_block ?_ | refine g_exit rfl ?_ | refine g_cond_t rfl ?_ | refine g_cond_f rfl ?_)
                refine g_cond rfl (fun h4 => ?_) (fun h4 => ?_)
                · simp only [decide_eq_true_eq] at h4
                  repeat (first | refine g_seq ?_ | refine at_code ?_ | refine g_skip ?_ | refine g_block ?_ | refine g_exit rfl ?_ | refine g_cond_t rfl ?_ | refine g_cond_f rfl ?_)
                  refine g_draw [3, 8, 13, 18] [.blk g7 (.cells (oct (st T)).toArray 121)] 23 rfl ?_
                  refine ga_free 0 rfl (s_move rfl) rfl rfl rfl (by kernel_rfl) ?_
                  refine ga_free 1 rfl (s_move rfl) rfl rfl rfl (by kernel_rfl) ?_
                  refine ga_free 2 rfl (s_indexAddr_arr rfl rfl (by omega)) rfl rfl rfl (by kernel_rfl) ?_
                  refine ga_read_k 3 rfl (by first | exact .head _ | exact .tail _ (.head _) | exact .tail _ (.tail _ (.head _)) | exact .tail _ (.tail _ (.tail _ (.head _)))) (s_load_blk rfl .del (oget (i := q) (by omega) (by omega))) (by (first | exact fun _ h => h | (repeat first | exact sub_nil | refine sub_cons (by repeat first | exact List.Mem.head _ | apply List.Mem.tail) ?_))) rfl rfl rfl (by kernel_rfl) ?_
                  refine ga_free 4 rfl (s_shrW 24 rfl rfl rfl (by omega)) rfl rfl rfl (by kernel_rfl) ?_
                  refine ga_free 5 rfl ((s_conv_int rfl).eq (shr_byte (st T q) (k := 0) (by omega))) rfl rfl rfl (by kernel_rfl) ?_
                  refine ga_free 6 rfl (s_move rfl) rfl rfl rfl (by kernel_rfl) ?_
                  refine ga_free 7 rfl (s_indexAddr_arr rfl rfl (by omega)) rfl rfl rfl (by kernel_rfl) ?_
                  refine ga_read_k 8 rfl (by first | exact .head _ | exact .tail _ (.head _) | exact .tail _ (.tail _ (.head _)) | exact .tail _ (.tail _ (.tail _ (.head _)))) (s_load_blk rfl .del (oget (i := q) (by omega) (by omega))) (by (first | exact fun _ h => h | (repeat first | exact sub_nil | refine sub_cons (by repeat first | exact List.Mem.head _ | apply List.Mem.tail) ?_))) rfl rfl rfl (by kernel_rfl) ?_
                  refine ga_free 9 rfl (s_shrW 16 rfl rfl rfl (by omega)) rfl rfl rfl (by kernel_rfl) ?_
                  refine ga_free 10 rfl ((s_conv_int rfl).eq (shr_byte (st T q) (k := 1) (by omega))) rfl rfl rfl (by kernel_rfl) ?_
                  refine ga_free 11 rfl (s_move rfl) rfl rfl rfl (by kernel_rfl) ?_
                  refine ga_free 12 rfl (s_indexAddr_arr rfl rfl (by omega)) rfl rfl rfl (by kernel_rfl) ?_
                  refine ga_read_k 13 rfl (by first | exact .head _ | exact .tail _ (.head _) | exact .tail _ (.tail _ (.head _)) | exact .tail _ (.tail _ (.tail _ (.head _)))) (s_load_blk rfl .del (oget (i := q) (by omega) (by omega))) (by (first | exact fun _ h => h | (repeat first | exact sub_nil | refine sub_cons (by repeat first | exact List.Mem.head _ | apply List.Mem.tail) ?_))) rfl rfl rfl (by kernel_rfl) ?_
                  refine ga_free 14 rfl (s_shrW 8 rfl rfl rfl (by omega)) rfl rfl rfl (by kernel_rfl) ?_
                  refine ga_free 15 rfl ((s_conv_int rfl).eq (shr_byte (st T q) (k := 2) (by omega))) rfl rfl rfl (by kernel_rfl) ?_
                  refine ga_free 16 rfl (s_move rfl) rfl rfl rfl (by kernel_rfl) ?_
                  refine ga_free 17 rfl (s_indexAddr_arr rfl rfl (by omega)) rfl rfl rfl (by kernel_rfl) ?_
                  refine ga_read_k 18 rfl (by first | exact .head _ | exact .tail _ (.head _) | exact .tail _ (.tail _ (.head _)) | exact .tail _ (.tail _ (.tail _ (.head _)))) (s_load_blk rfl .del (oget (i := q) (by omega) (by omega))) (by (first | exact fun _ h => h | (repeat first | exact sub_nil | refine sub_cons (by repeat first | exact List.Mem.head _ | apply List.Mem.tail) ?_))) rfl rfl rfl (by kernel_rfl) ?_
                  refine ga_free 19 rfl ((s_conv_int rfl).eq (v' := .int .u8 ((UInt8.ofNat (st T q).toNat).toNat : Nat)) (by rw [u8_byte])) rfl rfl rfl (by kernel_rfl) ?_
                  refine ga_one 20 rfl (by kernel_rfl) ?_
                  refine gl_buildSliceU rfl rfl rfl rfl rfl rfl (xs := bytesV (wbytes (st T q))) rfl rfl ?_; intro a4 ha4
                  refine gl_nil ?_
                  refine at_ga (.inr (by exact keeps_of (by (first | exact fun _ h => h | (repeat first | exact sub_nil | refine sub_cons (by repeat first | exact List.Mem.head _ | apply List.Mem.tail) ?_))))) ?_
                  refine ga_one 21 rfl (by kernel_rfl) ?_
                  refine gl_append rfl rfl (fun a' c' => .there .here) (fun w hw => (hw.ownN (by repeat first|exact .del|apply Upd.there)).2.2.1) rfl rfl rfl (bytesV_one _) (by show (_ + 4) * 1 ≤ _; omega) (by omega) rfl ?_; intro a5 c5 hc5
                  refine gl_nil ?_
                  refine at_ga (.inr (by exact keeps_of (by (first | exact fun _ h => h | (repeat first | exact sub_nil | refine sub_cons (by repeat first | exact List.Mem.head _ | apply List.Mem.tail) ?_))))) ?_
                  refine ga_free 22 rfl (s_assign rfl) rfl rfl rfl (by kernel_rfl) ?_
                  refine ga_done (by kernel_rfl) ?_
                  repeat (first | refine g_seq ?_ | refine at_code ?_ | refine g_skip ?_ | refine g_block ?_ | refine g_exit rfl ?_ | refine g_cond_t rfl ?_ | refine g_cond_f rfl ?_)
                  repeat (first | refine g_seq ?_ | refine at_code ?_ | refine g_skip ?_ | refine g_block ?_ | refine g_exit rfl ?_ | refine g_cond_t rfl ?_ | refine g_cond_f rfl ?_)
                  refine g_region ?_
                  refine gl_f (s_move rfl) rfl rfl rfl ?_
                  refine gl_f (s_add_i64 rfl rfl (by omega)) rfl rfl rfl ?_
                  refine gl_f (s_assign rfl) rfl rfl rfl ?_
                  refine gl_nil ?_
                  repeat (first | refine g_seq ?_ | refine at_code ?_ | refine g_skip ?_ | refine g_block ?_ | refine g_exit rfl ?_ | refine g_cond_t rfl ?_ | refine g_cond_f rfl ?_)
                  refine at_next (q + 1, a5, c5) (by simp only; omega) (by simp only; omega) ?_ ?_
                  · (repeat (first | exact Sub.nil _ | refine Sub.cons rfl ?_))
                  · intro w hw
                    simp only [sbytes_take (st T) (show q < 8 by omega), bytesV_append]
                    exact hw.drop
                · have hq8 : q = 8 := by simp at h4; omega
                  subst hq8
                  repeat (first | refine g_seq ?_ | refine at_code ?_ | refine g_skip ?_ | refine g_block ?_ | refine g_exit rfl ?_ | refine g_cond_t rfl ?_ | refine g_cond_f rfl ?_)
                  refine g_region ?_
                  refine gl_f (s_move rfl) rfl rfl rfl ?_
                  refine gl_r (s_string (l := sha s) rfl (by rw [hsha, sbytes_length]; rfl) (fun w hw => by rw [hsha]; have := (hw.ownN .del).2.2.1; rwa [List.take_of_length_le (by rw [sbytes_length]; exact Nat.le_refl 32)] at this)) rfl rfl rfl ?_
                  refine gl_f (s_assign rfl) rfl rfl rfl ?_
                  refine gl_nil ?_
                  repeat (first | refine g_seq ?_ | refine at_code ?_ | refine g_skip ?_ | refine g_block ?_ | refine g_exit rfl ?_ | refine g_cond_t rfl ?_ | refine g_cond_f rfl ?_)
                  refine g_ret ?_
                  exact at_end1 rfl rfl [] ⟨rfl, rfl⟩ (fun _ h => h.dropAll)
end Go.Proofs.Ytolgclfbllcjhaa.Dg
