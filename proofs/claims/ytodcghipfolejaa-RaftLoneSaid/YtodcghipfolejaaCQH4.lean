/- The walk of the heap's down, of Push and of Pop. -/
import Derived.Test.YtodcghipfolejaaCQH3
namespace Go.Proofs.Ytodcghipfolejaa
open Go Go.Sl
set_option linter.unusedVariables false
set_option linter.unusedSimpArgs false

structure Dn (xs ys : List Int) (n : Nat) : Prop where
  perm : ys.Perm xs
  len : ys.length = xs.length
  far : ∀ k, n ≤ k → ys.getD k 0 = xs.getD k 0
set_option maxHeartbeats 2000000 in
theorem down_ct (b : Nat) (a : Option Addr) (c : Nat) (xs : List Int) (n : Nat) (hn : n < xs.length) (hd : DnI xs n 0) (hl : xs.length ≤ 1000000000) :
    Ct Try.prog 93 [Ifc b, .int .i64 0, .int .i64 (n : Nat)] (fun _ => True) (HX b a c xs) (fun u A => ∃ ys, Dn xs ys n ∧ Mx ys n ∧ A = HX b a c ys) := by
  refine ct_enter 48 Try.func93 rfl rfl rfl ?_
  intro F _
  unfold HX HU64
  repeat (first | refine g_seq ?_ | refine at_code ?_ | refine g_skip ?_ | refine g_block ?_ | refine g_exit rfl ?_ | refine g_cond_t rfl ?_ | refine g_cond_f rfl ?_)
  refine g_region ?_
  refine gl_f (s_assign rfl) rfl rfl rfl ?_
  refine gl_nil ?_
  repeat (first | refine g_seq ?_ | refine at_code ?_ | refine g_skip ?_ | refine g_block ?_ | refine g_exit rfl ?_ | refine g_cond_t rfl ?_ | refine g_cond_f rfl ?_)
  refine g_region ?_
  refine gl_f (s_move rfl) rfl rfl rfl ?_
  refine gl_f (s_assign rfl) rfl rfl rfl ?_
  refine gl_nil ?_
  repeat (first | refine g_seq ?_ | refine at_code ?_ | refine g_skip ?_ | refine g_block ?_ | refine g_exit rfl ?_ | refine g_cond_t rfl ?_ | refine g_cond_f rfl ?_)
  refine g_loop (ι := Nat × List Int) (fun i => i.1 < xs.length ∧ Dn xs i.2 n ∧ DnI i.2 n i.1) (fun i => [(0, Ifc b), (1, .int .i64 0), (2, .int .i64 (n : Nat)), (7, .int .i64 (i.1 : Nat))]) (fun i => [.blk b (.cells #[.slice a i.2.length c] 103), HU64 a c i.2]) (fun i => xs.length - i.1) (0, xs) ⟨by simp only; omega, ⟨.refl _, rfl, fun _ _ => rfl⟩, hd⟩ ?_ ?_ ?_
  · (repeat (first | exact Sub.nil _ | refine Sub.cons rfl ?_))
  · intro w hw; exact hw
  · rintro ⟨i, ys⟩ ⟨hi, hD, hI⟩
    have hyl := hD.len
    simp only at hi hyl hI
    repeat (first | refine g_seq ?_ | refine at_code ?_ | refine g_skip ?_ | refine g_block ?_ | refine g_exit rfl ?_ | refine g_cond_t rfl ?_ | refine g_cond_f rfl ?_)
    repeat (first | refine g_seq ?_ | refine at_code ?_ | refine g_skip ?_ | refine g_block ?_ | refine g_exit rfl ?_ | refine g_cond_t rfl ?_ | refine g_cond_f rfl ?_)
    refine g_region ?_
    refine gl_f (s_move rfl) rfl rfl rfl ?_
    refine gl_f (s_mul_i64 rfl rfl (by omega)) rfl rfl rfl ?_
    refine gl_f (s_add_i64 rfl rfl (by omega)) rfl rfl rfl ?_
    refine gl_f (s_assign rfl) rfl rfl rfl ?_
    refine gl_nil ?_
    repeat (first | refine g_seq ?_ | refine at_code ?_ | refine g_skip ?_ | refine g_block ?_ | refine g_exit rfl ?_ | refine g_cond_t rfl ?_ | refine g_cond_f rfl ?_)
    obtain ⟨q0, hq0⟩ : ∃ q, q = decide (((n : Nat) : Int) ≤ 2 * (i : Int) + 1) := ⟨_, rfl⟩
    refine g_cutK [(0, Ifc b), (1, .int .i64 0), (2, .int .i64 (n : Nat)), (7, .int .i64 (i : Nat)), (8, .int .i64 (2 * (i : Int) + 1)), (21, .bool q0)] [.blk b (.cells #[.slice a ys.length c] 103), HU64 a c ys] ?_ ?_
    · cases q0
      all_goals (
        repeat (first | refine g_seq ?_ | refine at_code ?_ | refine g_skip ?_ | refine g_block ?_ | refine g_exit rfl ?_ | refine g_cond_t rfl ?_ | refine g_cond_f rfl ?_)
        refine g_region ?_
        refine gl_f (s_move rfl) rfl rfl rfl ?_
        refine gl_f (s_move rfl) rfl rfl rfl ?_
        refine gl_f ((s_geq rfl rfl).eq (congrArg Value.bool hq0.symm)) rfl rfl rfl ?_
        refine gl_f (s_move rfl) rfl rfl rfl ?_
        (first | refine gl_guard_no rfl rfl rfl rfl rfl rfl rfl ?_ | refine gl_guard_un rfl rfl rfl rfl rfl rfl ?_ | (refine gl_guard_yes rfl rfl rfl ?_; refine gl_f (s_move rfl) rfl rfl rfl ?_))
        (first | refine gl_guard_no rfl rfl rfl rfl rfl rfl rfl ?_ | refine gl_guard_un rfl rfl rfl rfl rfl rfl ?_ | (refine gl_guard_yes rfl rfl rfl ?_; refine gl_f ((s_lss rfl rfl).eq (v' := .bool false) (congrArg Value.bool (decide_eq_false (by omega)))) rfl rfl rfl ?_))
        refine gl_f (by first | exact s_pick_t rfl rfl | exact s_pick_f rfl rfl) rfl rfl rfl ?_
        refine gl_nil ?_
        repeat (first | refine g_seq ?_ | refine at_code ?_ | refine g_skip ?_ | refine g_block ?_ | refine g_exit rfl ?_ | refine g_cond_t rfl ?_ | refine g_cond_f rfl ?_))
      all_goals exact at_cut (by (repeat (first | exact Sub.nil _ | refine Sub.cons rfl ?_))) (fun w hw => hw)
    · repeat (first | refine g_seq ?_ | refine at_code ?_ | refine g_skip ?_ | refine g_block ?_ | refine g_exit rfl ?_ | refine g_cond_t rfl ?_ | refine g_cond_f rfl ?_)
      refine g_cond rfl (fun h => ?_) (fun h => ?_)
      · have h0 : n ≤ 2 * i + 1 := by have := of_decide_eq_true (hq0.symm.trans h); omega
        repeat (first | refine g_seq ?_ | refine at_code ?_ | refine g_skip ?_ | refine g_block ?_ | refine g_exit rfl ?_ | refine g_cond_t rfl ?_ | refine g_cond_f rfl ?_)
        repeat (first | refine g_seq ?_ | refine at_code ?_ | refine g_skip ?_ | refine g_block ?_ | refine g_exit rfl ?_ | refine g_cond_t rfl ?_ | refine g_cond_f rfl ?_)
        refine g_region ?_
        refine gl_f (s_move rfl) rfl rfl rfl ?_
        refine gl_f (s_move rfl) rfl rfl rfl ?_
        refine gl_f (s_gtr rfl rfl) rfl rfl rfl ?_
        refine gl_f (s_assign rfl) rfl rfl rfl ?_
        refine gl_nil ?_
        repeat (first | refine g_seq ?_ | refine at_code ?_ | refine g_skip ?_ | refine g_block ?_ | refine g_exit rfl ?_ | refine g_cond_t rfl ?_ | refine g_cond_f rfl ?_)
        refine g_ret ?_
        exact at_end1 rfl rfl _ ⟨ys, hD, dn_stop hI (fun k hk hkn he => by omega), rfl⟩ (fun w hw => hw)
      · have h0 : 2 * i + 1 < n := by have := of_decide_eq_false (hq0.symm.trans h); omega
        repeat (first | refine g_seq ?_ | refine at_code ?_ | refine g_skip ?_ | refine g_block ?_ | refine g_exit rfl ?_ | refine g_cond_t rfl ?_ | refine g_cond_f rfl ?_)
        repeat (first | refine g_seq ?_ | refine at_code ?_ | refine g_skip ?_ | refine g_block ?_ | refine g_exit rfl ?_ | refine g_cond_t rfl ?_ | refine g_cond_f rfl ?_)
        refine g_region ?_
        refine gl_f (s_move rfl) rfl rfl rfl ?_
        refine gl_f (s_assign rfl) rfl rfl rfl ?_
        refine gl_nil ?_
        repeat (first | refine g_seq ?_ | refine at_code ?_ | refine g_skip ?_ | refine g_block ?_ | refine g_exit rfl ?_ | refine g_cond_t rfl ?_ | refine g_cond_f rfl ?_)
        refine g_region ?_
        refine gl_f (s_move rfl) rfl rfl rfl ?_
        refine gl_f (s_add_i64 rfl rfl (by omega)) rfl rfl rfl ?_
        refine gl_f (s_assign rfl) rfl rfl rfl ?_
        refine gl_nil ?_
        repeat (first | refine g_seq ?_ | refine at_code ?_ | refine g_skip ?_ | refine g_block ?_ | refine g_exit rfl ?_ | refine g_cond_t rfl ?_ | refine g_cond_f rfl ?_)
        obtain ⟨q1, hq1⟩ : ∃ q, q = decide (2 * (i : Int) + 1 + 1 < ((n : Nat) : Int)) := ⟨_, rfl⟩
        obtain ⟨q2, hq2⟩ : ∃ q, q = decide (ys.getD (2 * i + 1) 0 < ys.getD (2 * i + 2) 0) := ⟨_, rfl⟩
        refine g_cutK [(0, Ifc b), (1, .int .i64 0), (2, .int .i64 (n : Nat)), (7, .int .i64 (i : Nat)), (9, .int .i64 (2 * (i : Int) + 1)), (10, .int .i64 (2 * (i : Int) + 1 + 1)), (33, .bool (q1 && q2))] [.blk b (.cells #[.slice a ys.length c] 103), HU64 a c ys] ?_ ?_
        · cases q1
          · repeat (first | refine g_seq ?_ | refine at_code ?_ | refine g_skip ?_ | refine g_block ?_ | refine g_exit rfl ?_ | refine g_cond_t rfl ?_ | refine g_cond_f rfl ?_)
            refine g_region ?_
            refine gl_f (s_move rfl) rfl rfl rfl ?_
            refine gl_f (s_move rfl) rfl rfl rfl ?_
            refine gl_f ((s_lss rfl rfl).eq (congrArg Value.bool hq1.symm)) rfl rfl rfl ?_
            refine gl_f (s_move rfl) rfl rfl rfl ?_
            (first | refine gl_guard_no rfl rfl rfl rfl rfl rfl rfl ?_ | refine gl_guard_un rfl rfl rfl rfl rfl rfl ?_ | (refine gl_guard_yes rfl rfl rfl ?_; refine gl_f (s_move rfl) rfl rfl rfl ?_))
            (first | refine gl_guard_no rfl rfl rfl rfl rfl rfl rfl ?_ | refine gl_guard_un rfl rfl rfl rfl rfl rfl ?_ | (refine gl_guard_yes rfl rfl rfl ?_; refine gl_f (s_move rfl) rfl rfl rfl ?_))
            (first | refine gl_guard_no rfl rfl rfl rfl rfl rfl rfl ?_ | refine gl_guard_un rfl rfl rfl rfl rfl rfl ?_ | (refine gl_guard_yes rfl rfl rfl ?_; refine gl_f (s_move rfl) rfl rfl rfl ?_))
            (first | refine gl_guard_no rfl rfl rfl rfl rfl rfl rfl ?_ | refine gl_guard_un rfl rfl rfl rfl rfl rfl ?_ | (refine gl_guard_yes rfl rfl rfl ?_; fail))
            refine gl_f (by first | exact s_pick_t rfl rfl | exact s_pick_f rfl rfl) rfl rfl rfl ?_
            refine gl_nil ?_
            repeat (first | refine g_seq ?_ | refine at_code ?_ | refine g_skip ?_ | refine g_block ?_ | refine g_exit rfl ?_ | refine g_cond_t rfl ?_ | refine g_cond_f rfl ?_)
            exact at_cut (by (repeat (first | exact Sub.nil _ | refine Sub.cons rfl ?_))) (fun w hw => hw)
          · have h1 : 2 * i + 2 < n := by have := of_decide_eq_true hq1.symm; omega
            repeat (first | refine g_seq ?_ | refine at_code ?_ | refine g_skip ?_ | refine g_block ?_ | refine g_exit rfl ?_ | refine g_cond_t rfl ?_ | refine g_cond_f rfl ?_)
            refine g_region ?_
            refine gl_f (s_move rfl) rfl rfl rfl ?_
            refine gl_f (s_move rfl) rfl rfl rfl ?_
            refine gl_f ((s_lss rfl rfl).eq (congrArg Value.bool hq1.symm)) rfl rfl rfl ?_
            refine gl_f (s_move rfl) rfl rfl rfl ?_
            (first | refine gl_guard_no rfl rfl rfl rfl rfl rfl rfl ?_ | refine gl_guard_un rfl rfl rfl rfl rfl rfl ?_ | (refine gl_guard_yes rfl rfl rfl ?_; refine gl_f (s_move rfl) rfl rfl rfl ?_))
            (first | refine gl_guard_no rfl rfl rfl rfl rfl rfl rfl ?_ | refine gl_guard_un rfl rfl rfl rfl rfl rfl ?_ | (refine gl_guard_yes rfl rfl rfl ?_; refine gl_f (s_move rfl) rfl rfl rfl ?_))
            (first | refine gl_guard_no rfl rfl rfl rfl rfl rfl rfl ?_ | refine gl_guard_un rfl rfl rfl rfl rfl rfl ?_ | (refine gl_guard_yes rfl rfl rfl ?_; refine gl_f (s_move rfl) rfl rfl rfl ?_))
            (first | refine gl_guard_no rfl rfl rfl rfl rfl rfl rfl ?_ | refine gl_guard_un rfl rfl rfl rfl rfl rfl ?_ | (refine gl_guard_yes rfl rfl rfl ?_; refine gl_invokeV [.blk b (.cells #[.slice a ys.length c] 103), HU64 a c ys] rfl rfl row_less (fun w hw => peek_blk hw .del rfl) (Less_ct ys (2 * i + 2) (2 * i + 1) _ _ (by omega) (by omega) a c (by omega) (by omega)) (fun w hw => hw) (fun h hh ⟨bs, hb⟩ => Sat.rd hb (.there .del)) rfl ?_; rintro v A ⟨rfl, rfl⟩; rw [← hq2]))
            refine gl_f (by first | exact s_pick_t rfl rfl | exact s_pick_f rfl rfl) rfl rfl rfl ?_
            refine gl_nil ?_
            repeat (first | refine g_seq ?_ | refine at_code ?_ | refine g_skip ?_ | refine g_block ?_ | refine g_exit rfl ?_ | refine g_cond_t rfl ?_ | refine g_cond_f rfl ?_)
            exact at_cut (by (repeat (first | exact Sub.nil _ | refine Sub.cons rfl ?_))) (fun w hw => hw)
        · obtain ⟨j, hj⟩ : ∃ j, j = if (q1 && q2) = true then 2 * i + 2 else 2 * i + 1 := ⟨_, rfl⟩
          have hjf : (j - 1) / 2 = i ∧ 0 < j ∧ j < n ∧ ∀ k, 0 < k → k < n → (k - 1) / 2 = i → ys.getD k 0 ≤ ys.getD j 0 := by
            cases q1
            · have h1 : ¬ 2 * i + 2 < n := by have := of_decide_eq_false hq1.symm; omega
              simp at hj; subst hj
              refine ⟨by omega, by omega, by omega, fun k hk hkn he => ?_⟩
              obtain rfl : k = 2 * i + 1 := by omega
              exact Int.le_refl _
            · have h1 : 2 * i + 2 < n := by have := of_decide_eq_true hq1.symm; omega
              cases q2
              · have h2 := of_decide_eq_false hq2.symm
                simp at hj; subst hj
                refine ⟨by omega, by omega, by omega, fun k hk hkn he => ?_⟩
                rcases (show k = 2 * i + 1 ∨ k = 2 * i + 2 by omega) with rfl | rfl <;> omega
              · have h2 := of_decide_eq_true hq2.symm
                simp at hj; subst hj
                refine ⟨by omega, by omega, by omega, fun k hk hkn he => ?_⟩
                rcases (show k = 2 * i + 1 ∨ k = 2 * i + 2 by omega) with rfl | rfl <;> omega
          obtain ⟨j1, j2, j3, j4⟩ := hjf
          repeat (first | refine g_seq ?_ | refine at_code ?_ | refine g_skip ?_ | refine g_block ?_ | refine g_exit rfl ?_ | refine g_cond_t rfl ?_ | refine g_cond_f rfl ?_)
          refine g_cutK [(0, Ifc b), (1, .int .i64 0), (2, .int .i64 (n : Nat)), (7, .int .i64 (i : Nat)), (9, .int .i64 (j : Nat))] [.blk b (.cells #[.slice a ys.length c] 103), HU64 a c ys] ?_ ?_
          · refine g_cond rfl (fun h2 => ?_) (fun h2 => ?_)
            · have e : ((j : Nat) : Int) = 2 * (i : Int) + 1 + 1 := by rw [hj, if_pos h2]; omega
              rw [e]
              repeat (first | refine g_seq ?_ | refine at_code ?_ | refine g_skip ?_ | refine g_block ?_ | refine g_exit rfl ?_ | refine g_cond_t rfl ?_ | refine g_cond_f rfl ?_)
              refine g_region ?_
              refine gl_f (s_move rfl) rfl rfl rfl ?_
              refine gl_f (s_assign rfl) rfl rfl rfl ?_
              refine gl_nil ?_
              repeat (first | refine g_seq ?_ | refine at_code ?_ | refine g_skip ?_ | refine g_block ?_ | refine g_exit rfl ?_ | refine g_cond_t rfl ?_ | refine g_cond_f rfl ?_)
              exact at_cut (by (repeat (first | exact Sub.nil _ | refine Sub.cons rfl ?_))) (fun w hw => hw)
            · have e : ((j : Nat) : Int) = 2 * (i : Int) + 1 := by rw [hj, if_neg (by rw [h2]; simp)]; omega
              rw [e]
              repeat (first | refine g_seq ?_ | refine at_code ?_ | refine g_skip ?_ | refine g_block ?_ | refine g_exit rfl ?_ | refine g_cond_t rfl ?_ | refine g_cond_f rfl ?_)
              exact at_cut (by (repeat (first | exact Sub.nil _ | refine Sub.cons rfl ?_))) (fun w hw => hw)
          · clear hj hq1 hq2 hq0 h
            repeat (first | refine g_seq ?_ | refine at_code ?_ | refine g_skip ?_ | refine g_block ?_ | refine g_exit rfl ?_ | refine g_cond_t rfl ?_ | refine g_cond_f rfl ?_)
            repeat (first | refine g_seq ?_ | refine at_code ?_ | refine g_skip ?_ | refine g_block ?_ | refine g_exit rfl ?_ | refine g_cond_t rfl ?_ | refine g_cond_f rfl ?_)
            refine g_region ?_
            refine gl_f (s_move rfl) rfl rfl rfl ?_
            refine gl_f (s_move rfl) rfl rfl rfl ?_
            refine gl_f (s_move rfl) rfl rfl rfl ?_
            refine gl_invokeV [.blk b (.cells #[.slice a ys.length c] 103), HU64 a c ys] rfl rfl row_less (fun w hw => peek_blk hw .del rfl) (Less_ct ys j i _ _ rfl rfl a c (by omega) (by omega)) (fun w hw => hw) (fun h hh ⟨bs, hb⟩ => Sat.rd hb (.there .del)) rfl ?_; rintro v A ⟨rfl, rfl⟩
            refine gl_f (s_not rfl) rfl rfl rfl ?_
            refine gl_nil ?_
            repeat (first | refine g_seq ?_ | refine at_code ?_ | refine g_skip ?_ | refine g_block ?_ | refine g_exit rfl ?_ | refine g_cond_t rfl ?_ | refine g_cond_f rfl ?_)
            refine g_cond rfl (fun h => ?_) (fun h => ?_)
            · have h2 : ¬ ys.getD i 0 < ys.getD j 0 := by simpa using h
              repeat (first | refine g_seq ?_ | refine at_code ?_ | refine g_skip ?_ | refine g_block ?_ | refine g_exit rfl ?_ | refine g_cond_t rfl ?_ | refine g_cond_f rfl ?_)
              repeat (first | refine g_seq ?_ | refine at_code ?_ | refine g_skip ?_ | refine g_block ?_ | refine g_exit rfl ?_ | refine g_cond_t rfl ?_ | refine g_cond_f rfl ?_)
              refine g_region ?_
              refine gl_f (s_move rfl) rfl rfl rfl ?_
              refine gl_f (s_move rfl) rfl rfl rfl ?_
              refine gl_f (s_gtr rfl rfl) rfl rfl rfl ?_
              refine gl_f (s_assign rfl) rfl rfl rfl ?_
              refine gl_nil ?_
              repeat (first | refine g_seq ?_ | refine at_code ?_ | refine g_skip ?_ | refine g_block ?_ | refine g_exit rfl ?_ | refine g_cond_t rfl ?_ | refine g_cond_f rfl ?_)
              refine g_ret ?_
              exact at_end1 rfl rfl _ ⟨ys, hD, dn_stop hI (fun k hk hkn he => by have := j4 k hk hkn he; omega), rfl⟩ (fun w hw => hw)
            · have h2 : ys.getD i 0 < ys.getD j 0 := by
                rw [Bool.not_eq_false', decide_eq_true_eq] at h; exact h
              repeat (first | refine g_seq ?_ | refine at_code ?_ | refine g_skip ?_ | refine g_block ?_ | refine g_exit rfl ?_ | refine g_cond_t rfl ?_ | refine g_cond_f rfl ?_)
              repeat (first | refine g_seq ?_ | refine at_code ?_ | refine g_skip ?_ | refine g_block ?_ | refine g_exit rfl ?_ | refine g_cond_t rfl ?_ | refine g_cond_f rfl ?_)
              refine g_region ?_
              refine gl_f (s_move rfl) rfl rfl rfl ?_
              refine gl_f (s_move rfl) rfl rfl rfl ?_
              refine gl_f (s_move rfl) rfl rfl rfl ?_
              refine gl_invokeV [.blk b (.cells #[.slice a ys.length c] 103)] rfl rfl row_swap (fun w hw => peek_blk hw .del rfl) (Swap_ct ys i j _ _ rfl rfl a c (by omega) (by omega)) (fun w hw => hw.front (.there .del)) (fun _ _ _ => trivial) rfl ?_; rintro v A ⟨rfl, rfl⟩
              refine gl_nil ?_
              repeat (first | refine g_seq ?_ | refine at_code ?_ | refine g_skip ?_ | refine g_block ?_ | refine g_exit rfl ?_ | refine g_cond_t rfl ?_ | refine g_cond_f rfl ?_)
              repeat (first | refine g_seq ?_ | refine at_code ?_ | refine g_skip ?_ | refine g_block ?_ | refine g_exit rfl ?_ | refine g_cond_t rfl ?_ | refine g_cond_f rfl ?_)
              refine g_region ?_
              refine gl_f (s_move rfl) rfl rfl rfl ?_
              refine gl_f (s_assign rfl) rfl rfl rfl ?_
              refine gl_nil ?_
              repeat (first | refine g_seq ?_ | refine at_code ?_ | refine g_skip ?_ | refine g_block ?_ | refine g_exit rfl ?_ | refine g_cond_t rfl ?_ | refine g_cond_f rfl ?_)
              refine at_next (j, swp ys i j) ⟨by simp only; omega, ⟨(swp_perm (by omega) (by omega)).trans hD.perm, by simp only [swp_length]; exact hyl, fun k hk => ?_⟩, dn_step hI (by omega) j1 j2 j3 h2 j4⟩ (by simp only; omega) ?_ ?_
              · rw [← hD.far k hk, swp_get (by omega) (by omega), if_neg (by omega), if_neg (by omega)]
              · (repeat (first | exact Sub.nil _ | refine Sub.cons rfl ?_))
              · intro w hw
                simp only [swp_length]
                exact hw.front (.there .del)
end Go.Proofs.Ytodcghipfolejaa
