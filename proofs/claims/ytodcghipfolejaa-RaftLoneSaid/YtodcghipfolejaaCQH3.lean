/- The walks of the heap's up and down, of Push and Pop. -/
import Derived.Test.YtodcghipfolejaaCQH2
namespace Go.Proofs.Ytodcghipfolejaa
open Go Go.Sl
set_option linter.unusedVariables false
set_option linter.unusedSimpArgs false

abbrev Ifc (b : Nat) : Value := .iface 105 (Ptr b)
theorem row_len : methRow Try.prog 105 "Len" = some (160, false) := by kernel_rfl
theorem row_less : methRow Try.prog 105 "Less" = some (161, false) := by kernel_rfl
theorem row_swap : methRow Try.prog 105 "Swap" = some (162, false) := by kernel_rfl
theorem row_push : methRow Try.prog 105 "Push" = some (164, true) := by kernel_rfl
theorem row_pop : methRow Try.prog 105 "Pop" = some (163, true) := by kernel_rfl
theorem s_quo_par {P : Program} {L : Lcs} {ty : TypeId} {pos : String} {af : Array Edge} {dst : Option Nat} {gd : Option (Nat × Bool)} {x y : Operand} {t t' : TypeId} {j : Nat} (hj : j ≤ 1000000000) (hx : ev L x = some (.int .i64 ((j : Int) - 1))) (hy : ev L y = some (.int .i64 2)) : OpF P ⟨dst, .binOp .quo t x y t', ty, pos, af, gd⟩ L (.int .i64 (((j - 1) / 2 : Nat) : Int)) :=
  s_bin hx hy (fun w => by
    have h2 : ((j : Int) - 1).tdiv 2 = (((j - 1) / 2 : Nat) : Int) := by
      by_cases h0 : j = 0
      · subst h0; rfl
      · rw [Int.tdiv_eq_ediv_of_nonneg (by omega)]; omega
    have h3 : IntKind.i64.wrap (((j - 1) / 2 : Nat) : Int) = (((j - 1) / 2 : Nat) : Int) := by rw [IntKind.wrap_i64]; omega
    generalize (j - 1) / 2 = p at *
    simp [go_sem, Op.intDiv, h2, h3])
theorem up_ct (b : Nat) (a : Option Addr) (c : Nat) (xs : List Int) (j0 : Nat) (hj0 : j0 < xs.length) (hup : UpI xs j0) (hl : xs.length ≤ 1000000000) :
    Ct Try.prog 92 [Ifc b, .int .i64 (j0 : Nat)] (fun _ => True) (HX b a c xs) (fun u A => u = .tuple #[] ∧ ∃ ys, ys.Perm xs ∧ ys.length = xs.length ∧ Mx ys ys.length ∧ A = HX b a c ys) := by
  refine ct_enter 23 Try.func92 rfl rfl rfl ?_
  intro F _
  unfold HX HU64
  repeat (first | refine g_seq ?_ | refine at_code ?_ | refine g_skip ?_ | refine g_block ?_ | refine g_exit rfl ?_ | refine g_cond_t rfl ?_ | refine g_cond_f rfl ?_)
  refine g_loop (ι := Nat × List Int) (fun i => i.1 < xs.length ∧ i.2.Perm xs ∧ i.2.length = xs.length ∧ UpI i.2 i.1) (fun i => [(0, Ifc b), (1, .int .i64 (i.1 : Nat))]) (fun i => [.blk b (.cells #[.slice a i.2.length c] 103), HU64 a c i.2]) (fun i => i.1) (j0, xs) ⟨hj0, .refl _, rfl, hup⟩ ?_ ?_ ?_
  · (repeat (first | exact Sub.nil _ | refine Sub.cons rfl ?_))
  · intro w hw; exact hw
  · rintro ⟨j, ys⟩ ⟨hj, hp, hyl, hu⟩
    simp only at hj hp hyl hu
    repeat (first | refine g_seq ?_ | refine at_code ?_ | refine g_skip ?_ | refine g_block ?_ | refine g_exit rfl ?_ | refine g_cond_t rfl ?_ | refine g_cond_f rfl ?_)
    repeat (first | refine g_seq ?_ | refine at_code ?_ | refine g_skip ?_ | refine g_block ?_ | refine g_exit rfl ?_ | refine g_cond_t rfl ?_ | refine g_cond_f rfl ?_)
    refine g_region ?_
    refine gl_f (s_move rfl) rfl rfl rfl ?_
    refine gl_f (s_sub_i64 rfl rfl (by omega)) rfl rfl rfl ?_
    refine gl_f (s_quo_par (j := j) (by omega) rfl rfl) rfl rfl rfl ?_
    refine gl_f (s_assign rfl) rfl rfl rfl ?_
    refine gl_nil ?_
    repeat (first | refine g_seq ?_ | refine at_code ?_ | refine g_skip ?_ | refine g_block ?_ | refine g_exit rfl ?_ | refine g_cond_t rfl ?_ | refine g_cond_f rfl ?_)
    obtain ⟨q, hq⟩ : ∃ q, q = decide (ys.getD ((j - 1) / 2) 0 < ys.getD j 0) := ⟨_, rfl⟩
    obtain ⟨q0, hq0⟩ : ∃ q, q = decide ((((j - 1) / 2 : Nat) : Int) = (j : Int)) := ⟨_, rfl⟩
    refine g_cutK [(0, Ifc b), (1, .int .i64 (j : Nat)), (4, .int .i64 (((j - 1) / 2 : Nat) : Int)), (17, .bool (q0 || !q))] [.blk b (.cells #[.slice a ys.length c] 103), HU64 a c ys] ?_ ?_
    · cases q0 <;> cases q
      all_goals (
        repeat (first | refine g_seq ?_ | refine at_code ?_ | refine g_skip ?_ | refine g_block ?_ | refine g_exit rfl ?_ | refine g_cond_t rfl ?_ | refine g_cond_f rfl ?_)
        refine g_region ?_
        refine gl_f (s_move rfl) rfl rfl rfl ?_
        refine gl_f (s_move rfl) rfl rfl rfl ?_
        refine gl_f ((s_eql rfl rfl).eq (congrArg Value.bool hq0.symm)) rfl rfl rfl ?_
        refine gl_f (s_move rfl) rfl rfl rfl ?_
        (first | refine gl_guard_no rfl rfl rfl rfl rfl rfl rfl ?_ | refine gl_guard_un rfl rfl rfl rfl rfl rfl ?_ | (refine gl_guard_yes rfl rfl rfl ?_; refine gl_f (s_move rfl) rfl rfl rfl ?_))
        (first | refine gl_guard_no rfl rfl rfl rfl rfl rfl rfl ?_ | refine gl_guard_un rfl rfl rfl rfl rfl rfl ?_ | (refine gl_guard_yes rfl rfl rfl ?_; refine gl_f (s_move rfl) rfl rfl rfl ?_))
        (first | refine gl_guard_no rfl rfl rfl rfl rfl rfl rfl ?_ | refine gl_guard_un rfl rfl rfl rfl rfl rfl ?_ | (refine gl_guard_yes rfl rfl rfl ?_; refine gl_f (s_move rfl) rfl rfl rfl ?_))
        (first | refine gl_guard_no rfl rfl rfl rfl rfl rfl rfl ?_ | refine gl_guard_un rfl rfl rfl rfl rfl rfl ?_ | (refine gl_guard_yes rfl rfl rfl ?_; refine gl_invokeV [.blk b (.cells #[.slice a ys.length c] 103), HU64 a c ys] rfl rfl row_less (fun w hw => peek_blk hw .del rfl) (Less_ct ys j ((j - 1) / 2) _ _ rfl rfl a c (by omega) (by omega)) (fun w hw => hw) (fun h hh ⟨bs, hb⟩ => Sat.rd hb (.there .del)) rfl ?_; rintro v A ⟨rfl, rfl⟩; rw [← hq]))
        (first | refine gl_guard_no rfl rfl rfl rfl rfl rfl rfl ?_ | refine gl_guard_un rfl rfl rfl rfl rfl rfl ?_ | (refine gl_guard_yes rfl rfl rfl ?_; refine gl_f (s_not rfl) rfl rfl rfl ?_))
        refine gl_f (by first | exact s_pick_t rfl rfl | exact s_pick_f rfl rfl) rfl rfl rfl ?_
        refine gl_nil ?_
        repeat (first | refine g_seq ?_ | refine at_code ?_ | refine g_skip ?_ | refine g_block ?_ | refine g_exit rfl ?_ | refine g_cond_t rfl ?_ | refine g_cond_f rfl ?_))
      all_goals exact at_cut (by (repeat (first | exact Sub.nil _ | refine Sub.cons rfl ?_))) (fun w hw => hw)
    · repeat (first | refine g_seq ?_ | refine at_code ?_ | refine g_skip ?_ | refine g_block ?_ | refine g_exit rfl ?_ | refine g_cond_t rfl ?_ | refine g_cond_f rfl ?_)
      refine g_cond rfl (fun h => ?_) (fun h => ?_)
      · have hs : j = 0 ∨ ys.getD j 0 ≤ ys.getD ((j - 1) / 2) 0 := by
          cases q0
          · cases q
            · right
              have := of_decide_eq_false hq.symm
              omega
            · simp at h
          · left
            have := of_decide_eq_true hq0.symm
            omega
        repeat (first | refine g_seq ?_ | refine at_code ?_ | refine g_skip ?_ | refine g_block ?_ | refine g_exit rfl ?_ | refine g_cond_t rfl ?_ | refine g_cond_f rfl ?_)
        exact at_end0 rfl _ ⟨rfl, ys, hp, hyl, up_stop hu hs, rfl⟩ (fun w hw => hw)
      · have hq1 : q = true ∧ q0 = false := by cases q0 <;> cases q <;> simp_all
        have hlt : ys.getD ((j - 1) / 2) 0 < ys.getD j 0 := of_decide_eq_true (by rw [← hq]; exact hq1.1)
        have hj1 : 0 < j := by
          have := of_decide_eq_false (by rw [← hq0]; exact hq1.2)
          omega
        repeat (first | refine g_seq ?_ | refine at_code ?_ | refine g_skip ?_ | refine g_block ?_ | refine g_exit rfl ?_ | refine g_cond_t rfl ?_ | refine g_cond_f rfl ?_)
        repeat (first | refine g_seq ?_ | refine at_code ?_ | refine g_skip ?_ | refine g_block ?_ | refine g_exit rfl ?_ | refine g_cond_t rfl ?_ | refine g_cond_f rfl ?_)
        refine g_region ?_
        refine gl_f (s_move rfl) rfl rfl rfl ?_
        refine gl_f (s_move rfl) rfl rfl rfl ?_
        refine gl_f (s_move rfl) rfl rfl rfl ?_
        refine gl_invokeV [.blk b (.cells #[.slice a ys.length c] 103)] rfl rfl row_swap (fun w hw => peek_blk hw .del rfl) (Swap_ct ys ((j - 1) / 2) j _ _ rfl rfl a c (by omega) (by omega)) (fun w hw => hw.front (.there .del)) (fun _ _ _ => trivial) rfl ?_; rintro v A ⟨rfl, rfl⟩
        refine gl_nil ?_
        repeat (first | refine g_seq ?_ | refine at_code ?_ | refine g_skip ?_ | refine g_block ?_ | refine g_exit rfl ?_ | refine g_cond_t rfl ?_ | refine g_cond_f rfl ?_)
        repeat (first | refine g_seq ?_ | refine at_code ?_ | refine g_skip ?_ | refine g_block ?_ | refine g_exit rfl ?_ | refine g_cond_t rfl ?_ | refine g_cond_f rfl ?_)
        refine g_region ?_
        refine gl_f (s_move rfl) rfl rfl rfl ?_
        refine gl_f (s_assign rfl) rfl rfl rfl ?_
        refine gl_nil ?_
        repeat (first | refine g_seq ?_ | refine at_code ?_ | refine g_skip ?_ | refine g_block ?_ | refine g_exit rfl ?_ | refine g_cond_t rfl ?_ | refine g_cond_f rfl ?_)
        refine at_next ((j - 1) / 2, swp ys ((j - 1) / 2) j) ⟨by simp only; omega, (swp_perm (by omega) (by omega)).trans hp, by simp only [swp_length]; exact hyl, up_step hu hj1 (by omega) hlt⟩ (by simp only; omega) ?_ ?_
        · (repeat (first | exact Sub.nil _ | refine Sub.cons rfl ?_))
        · intro w hw
          simp only [swp_length]
          exact hw.front (.there .del)
end Go.Proofs.Ytodcghipfolejaa
