/- The walk of QuorumMeets. -/
import Derived.Test.YtodcghipfolejaaQ10
namespace Go.Proofs.Ytodcghipfolejaa
open Go Go.Sl
set_option linter.unusedVariables false
set_option linter.unusedSimpArgs false

def U5 : List Int := (List.range 5).map fun i => ((i : Nat) : Int) + 1
theorem cnt_len {l : List Int} (h : rightB l = true) : l.length = U5.countP (inB l) := by
  have h1 := right_pick h
  conv => lhs; rw [← h1]
  rw [pick, List.countP_eq_length_filter]; rfl
theorem cnt_both {l : List Int} (x : List Int) (h : rightB l = true) : cntB l x = U5.countP (fun n => inB x n && inB l n) := by
  have h1 := right_pick h
  rw [cntB]
  conv => lhs; rw [← h1]
  rw [pick, List.countP_filter]; rfl
theorem diff_cnt (a b : List Int) : diffN a b 5 = U5.countP (fun n => !decide (inB a n = inB b n)) := by
  rw [U5, List.countP_map]; rfl
theorem meet_count (l m x y : Int → Bool) : ∀ (u : List Int), (∀ n ∈ u, (x n && y n) = false) → 2 * (u.countP (fun n => x n && l n) + u.countP (fun n => y n && m n)) ≤ u.countP l + u.countP m + u.countP (fun n => !decide (l n = m n)) := by
  intro u
  induction u with
  | nil => intro _; simp
  | cons n u ih =>
    intro h
    have h1 := ih fun k hk => h k (List.mem_cons_of_mem _ hk)
    have h2 := h n (List.mem_cons_self ..)
    simp only [List.countP_cons]
    cases hl : l n <;> cases hm : m n <;> cases hx : x n <;> cases hy : y n <;> simp_all <;> omega
theorem meets {l m x y : List Int} (h1 : mostB l x = true) (h2 : mostB m y = true) (h3 : l = m ∨ stepS l m = true) : ∃ n, n ∈ x ∧ n ∈ y := by
  have e1 : rightB l = true ∧ l.length < 2 * cntB l x := by simpa [mostB] using h1
  have e2 : rightB m = true ∧ m.length < 2 * cntB m y := by simpa [mostB] using h2
  have hd : diffN l m 5 ≤ 1 := by
    rcases h3 with rfl | h3
    · have : diffN l l 5 = 0 := by simp [diffN]
      omega
    · have : diffN l m 5 = 1 := by simp only [stepS, Bool.and_eq_true, decide_eq_true_eq] at h3; exact h3.2
      omega
  apply Classical.byContradiction
  intro hno
  have h5 := meet_count (inB l) (inB m) (inB x) (inB y) U5 (fun n _ => by
    apply Bool.eq_false_iff.2
    intro hb
    simp only [Bool.and_eq_true, inB, decide_eq_true_eq] at hb
    exact hno ⟨n, hb.1, hb.2⟩)
  rw [← cnt_both x e1.1, ← cnt_both y e2.1, ← cnt_len e1.1, ← cnt_len e2.1, ← diff_cnt] at h5
  omega

set_option maxHeartbeats 2000000 in
theorem QuorumMeets_ct (n1 n2 n3 n4 : Int) : Pu Try.prog 7 [.int .i64 n1, .int .i64 n2, .int .i64 n3, .int .i64 n4] (fun _ => True) (.bool true) := by
  have p1 := pick_le (bitOf n1) 5
  have p2 := pick_le (bitOf n2) 5
  have p3 := pick_le (bitOf n3) 5
  have p4 := pick_le (bitOf n4) 5
  refine ct_enter 58 Try.func7 rfl rfl rfl ?_
  intro F _
  repeat (first | refine g_seq ?_ | refine at_code ?_ | refine g_skip ?_ | refine g_block ?_ | refine g_exit rfl ?_ | refine g_cond_t rfl ?_ | refine g_cond_f rfl ?_)
  refine g_region ?_
  refine gl_f (s_assign rfl) rfl rfl rfl ?_
  refine gl_nil ?_
  repeat (first | refine g_seq ?_ | refine at_code ?_ | refine g_skip ?_ | refine g_block ?_ | refine g_exit rfl ?_ | refine g_cond_t rfl ?_ | refine g_cond_f rfl ?_)
  refine g_region ?_
  refine gl_callp rfl (alive_ct) (fun h hh hb => by first | trivial | (first | exact RdS.le (by assumption) hh | (obtain ⟨bs, hb⟩ := hb; exact Sat.rd hb ((by first | exact .del | exact .there .del | exact .there (.there .del) | exact .there (.there (.there .del)) | exact .there (.there (.there (.there .del))) | exact .there (.there (.there (.there (.there .del)))) | exact .there (.there (.there (.there (.there (.there .del))))))))) | (refine ⟨?_, ?_⟩ <;> (first | exact RdS.le (by assumption) hh | (obtain ⟨bs, hb⟩ := hb; exact Sat.rd hb ((by first | exact .del | exact .there .del | exact .there (.there .del) | exact .there (.there (.there .del)) | exact .there (.there (.there (.there .del))) | exact .there (.there (.there (.there (.there .del)))) | exact .there (.there (.there (.there (.there (.there .del)))))))))) | (refine ⟨?_, ?_, ?_⟩ <;> (first | exact RdS.le (by assumption) hh | (obtain ⟨bs, hb⟩ := hb; exact Sat.rd hb ((by first | exact .del | exact .there .del | exact .there (.there .del) | exact .there (.there (.there .del)) | exact .there (.there (.there (.there .del))) | exact .there (.there (.there (.there (.there .del)))) | exact .there (.there (.there (.there (.there (.there .del))))))))))) rfl ?_
  refine gl_f (s_not rfl) rfl rfl rfl ?_
  refine gl_nil ?_
  repeat (first | refine g_seq ?_ | refine at_code ?_ | refine g_skip ?_ | refine g_block ?_ | refine g_exit rfl ?_ | refine g_cond_t rfl ?_ | refine g_cond_f rfl ?_)
  refine g_region ?_
  refine gl_f (s_move rfl) rfl rfl rfl ?_
  refine gl_call _ rfl (members_ct _) (fun w hw => hw) (fun h hh hb => by first | trivial | (first | exact RdS.le (by assumption) hh | (obtain ⟨bs, hb⟩ := hb; exact Sat.rd hb ((by first | exact .del | exact .there .del | exact .there (.there .del) | exact .there (.there (.there .del)) | exact .there (.there (.there (.there .del))) | exact .there (.there (.there (.there (.there .del)))) | exact .there (.there (.there (.there (.there (.there .del))))))))) | (refine ⟨?_, ?_⟩ <;> (first | exact RdS.le (by assumption) hh | (obtain ⟨bs, hb⟩ := hb; exact Sat.rd hb ((by first | exact .del | exact .there .del | exact .there (.there .del) | exact .there (.there (.there .del)) | exact .there (.there (.there (.there .del))) | exact .there (.there (.there (.there (.there .del)))) | exact .there (.there (.there (.there (.there (.there .del)))))))))) | (refine ⟨?_, ?_, ?_⟩ <;> (first | exact RdS.le (by assumption) hh | (obtain ⟨bs, hb⟩ := hb; exact Sat.rd hb ((by first | exact .del | exact .there .del | exact .there (.there .del) | exact .there (.there (.there .del)) | exact .there (.there (.there (.there .del))) | exact .there (.there (.there (.there (.there .del)))) | exact .there (.there (.there (.there (.there (.there .del))))))))))) rfl ?_; rintro v A ⟨a17, c17, rfl, rfl⟩
  refine gl_f (s_move rfl) rfl rfl rfl ?_
  refine gl_call _ rfl (members_ct _) (fun w hw => hw) (fun h hh hb => by first | trivial | (first | exact RdS.le (by assumption) hh | (obtain ⟨bs, hb⟩ := hb; exact Sat.rd hb ((by first | exact .del | exact .there .del | exact .there (.there .del) | exact .there (.there (.there .del)) | exact .there (.there (.there (.there .del))) | exact .there (.there (.there (.there (.there .del)))) | exact .there (.there (.there (.there (.there (.there .del))))))))) | (refine ⟨?_, ?_⟩ <;> (first | exact RdS.le (by assumption) hh | (obtain ⟨bs, hb⟩ := hb; exact Sat.rd hb ((by first | exact .del | exact .there .del | exact .there (.there .del) | exact .there (.there (.there .del)) | exact .there (.there (.there (.there .del))) | exact .there (.there (.there (.there (.there .del)))) | exact .there (.there (.there (.there (.there (.there .del)))))))))) | (refine ⟨?_, ?_, ?_⟩ <;> (first | exact RdS.le (by assumption) hh | (obtain ⟨bs, hb⟩ := hb; exact Sat.rd hb ((by first | exact .del | exact .there .del | exact .there (.there .del) | exact .there (.there (.there .del)) | exact .there (.there (.there (.there .del))) | exact .there (.there (.there (.there (.there .del)))) | exact .there (.there (.there (.there (.there (.there .del))))))))))) rfl ?_; rintro v A ⟨a19, c19, rfl, rfl⟩
  refine gl_f (s_assign rfl) rfl rfl rfl ?_
  refine gl_f (s_assign rfl) rfl rfl rfl ?_
  refine gl_nil ?_
  repeat (first | refine g_seq ?_ | refine at_code ?_ | refine g_skip ?_ | refine g_block ?_ | refine g_exit rfl ?_ | refine g_cond_t rfl ?_ | refine g_cond_f rfl ?_)
  refine g_region ?_
  refine gl_f (s_move rfl) rfl rfl rfl ?_
  refine gl_call _ rfl (members_ct _) (fun w hw => hw) (fun h hh hb => by first | trivial | (first | exact RdS.le (by assumption) hh | (obtain ⟨bs, hb⟩ := hb; exact Sat.rd hb ((by first | exact .del | exact .there .del | exact .there (.there .del) | exact .there (.there (.there .del)) | exact .there (.there (.there (.there .del))) | exact .there (.there (.there (.there (.there .del)))) | exact .there (.there (.there (.there (.there (.there .del))))))))) | (refine ⟨?_, ?_⟩ <;> (first | exact RdS.le (by assumption) hh | (obtain ⟨bs, hb⟩ := hb; exact Sat.rd hb ((by first | exact .del | exact .there .del | exact .there (.there .del) | exact .there (.there (.there .del)) | exact .there (.there (.there (.there .del))) | exact .there (.there (.there (.there (.there .del)))) | exact .there (.there (.there (.there (.there (.there .del)))))))))) | (refine ⟨?_, ?_, ?_⟩ <;> (first | exact RdS.le (by assumption) hh | (obtain ⟨bs, hb⟩ := hb; exact Sat.rd hb ((by first | exact .del | exact .there .del | exact .there (.there .del) | exact .there (.there (.there .del)) | exact .there (.there (.there (.there .del))) | exact .there (.there (.there (.there (.there .del)))) | exact .there (.there (.there (.there (.there (.there .del))))))))))) rfl ?_; rintro v A ⟨a21, c21, rfl, rfl⟩
  refine gl_f (s_move rfl) rfl rfl rfl ?_
  refine gl_call _ rfl (members_ct _) (fun w hw => hw) (fun h hh hb => by first | trivial | (first | exact RdS.le (by assumption) hh | (obtain ⟨bs, hb⟩ := hb; exact Sat.rd hb ((by first | exact .del | exact .there .del | exact .there (.there .del) | exact .there (.there (.there .del)) | exact .there (.there (.there (.there .del))) | exact .there (.there (.there (.there (.there .del)))) | exact .there (.there (.there (.there (.there (.there .del))))))))) | (refine ⟨?_, ?_⟩ <;> (first | exact RdS.le (by assumption) hh | (obtain ⟨bs, hb⟩ := hb; exact Sat.rd hb ((by first | exact .del | exact .there .del | exact .there (.there .del) | exact .there (.there (.there .del)) | exact .there (.there (.there (.there .del))) | exact .there (.there (.there (.there (.there .del)))) | exact .there (.there (.there (.there (.there (.there .del)))))))))) | (refine ⟨?_, ?_, ?_⟩ <;> (first | exact RdS.le (by assumption) hh | (obtain ⟨bs, hb⟩ := hb; exact Sat.rd hb ((by first | exact .del | exact .there .del | exact .there (.there .del) | exact .there (.there (.there .del)) | exact .there (.there (.there (.there .del))) | exact .there (.there (.there (.there (.there .del)))) | exact .there (.there (.there (.there (.there (.there .del))))))))))) rfl ?_; rintro v A ⟨a23, c23, rfl, rfl⟩
  refine gl_f (s_assign rfl) rfl rfl rfl ?_
  refine gl_f (s_assign rfl) rfl rfl rfl ?_
  refine gl_nil ?_
  repeat (first | refine g_seq ?_ | refine at_code ?_ | refine g_skip ?_ | refine g_block ?_ | refine g_exit rfl ?_ | refine g_cond_t rfl ?_ | refine g_cond_f rfl ?_)
  obtain ⟨l, hl⟩ : ∃ l, l = memL n1 := ⟨_, rfl⟩
  obtain ⟨m, hm⟩ : ∃ l, l = memL n2 := ⟨_, rfl⟩
  obtain ⟨x, hx⟩ : ∃ l, l = memL n3 := ⟨_, rfl⟩
  obtain ⟨y, hy⟩ : ∃ l, l = memL n4 := ⟨_, rfl⟩
  have l1 : l.length ≤ 5 := by rw [hl]; exact p1
  have l2 : m.length ≤ 5 := by rw [hm]; exact p2
  have l3 : x.length ≤ 5 := by rw [hx]; exact p3
  have l4 : y.length ≤ 5 := by rw [hy]; exact p4
  clear p1 p2 p3 p4
  rw [← hl, ← hm, ← hx, ← hy]
  clear hl hm hx hy
  obtain ⟨q1, hq1⟩ : ∃ q, q = mostB l x := ⟨_, rfl⟩
  obtain ⟨q2, hq2⟩ : ∃ q, q = mostB m y := ⟨_, rfl⟩
  obtain ⟨q3, hq3⟩ : ∃ q, q = decide (l = m) := ⟨_, rfl⟩
  obtain ⟨q4, hq4⟩ : ∃ q, q = stepS l m := ⟨_, rfl⟩
  refine g_cutK [(11, .slice a21 x.length c21), (12, .slice a23 y.length c23), (45, .bool (!q1 || (!q2 || (!q3 && !q4))))] [.own (.slice a23 y.length c23) 3 1 (intsV y), .own (.slice a21 x.length c21) 3 1 (intsV x), .own (.slice a19 m.length c19) 3 1 (intsV m), .own (.slice a17 l.length c17) 3 1 (intsV l)] ?_ ?_
  · cases q1 <;> cases q2 <;> cases q3 <;> cases q4
    all_goals (
      repeat (first | refine g_seq ?_ | refine at_code ?_ | refine g_skip ?_ | refine g_block ?_ | refine g_exit rfl ?_ | refine g_cond_t rfl ?_ | refine g_cond_f rfl ?_)
      refine g_region ?_
      refine gl_f (s_move rfl) rfl rfl rfl ?_
      refine gl_f (s_move rfl) rfl rfl rfl ?_
      refine gl_callp rfl (Most_ct l x _ _ _ _ (by omega) (by omega)) (fun h hh ⟨bs, hb⟩ => ⟨Sat.rd hb (by first | exact .del | exact .there .del | exact .there (.there .del) | exact .there (.there (.there .del)) | exact .there (.there (.there (.there .del))) | exact .there (.there (.there (.there (.there .del)))) | exact .there (.there (.there (.there (.there (.there .del)))))), Sat.rd hb (by first | exact .del | exact .there .del | exact .there (.there .del) | exact .there (.there (.there .del)) | exact .there (.there (.there (.there .del))) | exact .there (.there (.there (.there (.there .del)))) | exact .there (.there (.there (.there (.there (.there .del))))))⟩) rfl ?_; rw [← hq1]
      refine gl_f (s_not rfl) rfl rfl rfl ?_
      refine gl_f (s_move rfl) rfl rfl rfl ?_
      (first | refine gl_guard_no rfl rfl rfl rfl rfl rfl rfl ?_ | refine gl_guard_un rfl rfl rfl rfl rfl rfl ?_ | (refine gl_guard_yes rfl rfl rfl ?_; refine gl_f (s_move rfl) rfl rfl rfl ?_))
      (first | refine gl_guard_no rfl rfl rfl rfl rfl rfl rfl ?_ | refine gl_guard_un rfl rfl rfl rfl rfl rfl ?_ | (refine gl_guard_yes rfl rfl rfl ?_; refine gl_f (s_move rfl) rfl rfl rfl ?_))
      (first | refine gl_guard_no rfl rfl rfl rfl rfl rfl rfl ?_ | refine gl_guard_un rfl rfl rfl rfl rfl rfl ?_ | (refine gl_guard_yes rfl rfl rfl ?_; refine gl_callp rfl (Most_ct m y _ _ _ _ (by omega) (by omega)) (fun h hh ⟨bs, hb⟩ => ⟨Sat.rd hb (by first | exact .del | exact .there .del | exact .there (.there .del) | exact .there (.there (.there .del)) | exact .there (.there (.there (.there .del))) | exact .there (.there (.there (.there (.there .del)))) | exact .there (.there (.there (.there (.there (.there .del)))))), Sat.rd hb (by first | exact .del | exact .there .del | exact .there (.there .del) | exact .there (.there (.there .del)) | exact .there (.there (.there (.there .del))) | exact .there (.there (.there (.there (.there .del)))) | exact .there (.there (.there (.there (.there (.there .del))))))⟩) rfl ?_; rw [← hq2]))
      (first | refine gl_guard_no rfl rfl rfl rfl rfl rfl rfl ?_ | refine gl_guard_un rfl rfl rfl rfl rfl rfl ?_ | (refine gl_guard_yes rfl rfl rfl ?_; refine gl_f (s_not rfl) rfl rfl rfl ?_))
      refine gl_f (by first | exact s_pick_t rfl rfl | exact s_pick_f rfl rfl) rfl rfl rfl ?_
      refine gl_f (s_move rfl) rfl rfl rfl ?_
      (first | refine gl_guard_no rfl rfl rfl rfl rfl rfl rfl ?_ | refine gl_guard_un rfl rfl rfl rfl rfl rfl ?_ | (refine gl_guard_yes rfl rfl rfl ?_; refine gl_f (s_move rfl) rfl rfl rfl ?_))
      (first | refine gl_guard_no rfl rfl rfl rfl rfl rfl rfl ?_ | refine gl_guard_un rfl rfl rfl rfl rfl rfl ?_ | (refine gl_guard_yes rfl rfl rfl ?_; refine gl_f (s_move rfl) rfl rfl rfl ?_))
      (first | refine gl_guard_no rfl rfl rfl rfl rfl rfl rfl ?_ | refine gl_guard_un rfl rfl rfl rfl rfl rfl ?_ | (refine gl_guard_yes rfl rfl rfl ?_; refine gl_callp rfl (Same_ct l m _ _ _ _ (by omega)) (fun h hh ⟨bs, hb⟩ => ⟨Sat.rd hb (by first | exact .del | exact .there .del | exact .there (.there .del) | exact .there (.there (.there .del)) | exact .there (.there (.there (.there .del))) | exact .there (.there (.there (.there (.there .del)))) | exact .there (.there (.there (.there (.there (.there .del)))))), Sat.rd hb (by first | exact .del | exact .there .del | exact .there (.there .del) | exact .there (.there (.there .del)) | exact .there (.there (.there (.there .del))) | exact .there (.there (.there (.there (.there .del)))) | exact .there (.there (.there (.there (.there (.there .del))))))⟩) rfl ?_; rw [← hq3]))
      (first | refine gl_guard_no rfl rfl rfl rfl rfl rfl rfl ?_ | refine gl_guard_un rfl rfl rfl rfl rfl rfl ?_ | (refine gl_guard_yes rfl rfl rfl ?_; refine gl_f (s_not rfl) rfl rfl rfl ?_))
      (first | refine gl_guard_no rfl rfl rfl rfl rfl rfl rfl ?_ | refine gl_guard_un rfl rfl rfl rfl rfl rfl ?_ | (refine gl_guard_yes rfl rfl rfl ?_; refine gl_f (s_move rfl) rfl rfl rfl ?_))
      (first | refine gl_guard_no rfl rfl rfl rfl rfl rfl rfl ?_ | refine gl_guard_un rfl rfl rfl rfl rfl rfl ?_ | (refine gl_guard_yes rfl rfl rfl ?_; refine gl_f (s_move rfl) rfl rfl rfl ?_))
      (first | refine gl_guard_no rfl rfl rfl rfl rfl rfl rfl ?_ | refine gl_guard_un rfl rfl rfl rfl rfl rfl ?_ | (refine gl_guard_yes rfl rfl rfl ?_; refine gl_f (s_move rfl) rfl rfl rfl ?_))
      (first | refine gl_guard_no rfl rfl rfl rfl rfl rfl rfl ?_ | refine gl_guard_un rfl rfl rfl rfl rfl rfl ?_ | (refine gl_guard_yes rfl rfl rfl ?_; refine gl_callp rfl (Step_ct l m _ _ _ _ (by omega) (by omega)) (fun h hh ⟨bs, hb⟩ => ⟨Sat.rd hb (by first | exact .del | exact .there .del | exact .there (.there .del) | exact .there (.there (.there .del)) | exact .there (.there (.there (.there .del))) | exact .there (.there (.there (.there (.there .del)))) | exact .there (.there (.there (.there (.there (.there .del)))))), Sat.rd hb (by first | exact .del | exact .there .del | exact .there (.there .del) | exact .there (.there (.there .del)) | exact .there (.there (.there (.there .del))) | exact .there (.there (.there (.there (.there .del)))) | exact .there (.there (.there (.there (.there (.there .del))))))⟩) rfl ?_; rw [← hq4]))
      (first | refine gl_guard_no rfl rfl rfl rfl rfl rfl rfl ?_ | refine gl_guard_un rfl rfl rfl rfl rfl rfl ?_ | (refine gl_guard_yes rfl rfl rfl ?_; refine gl_f (s_not rfl) rfl rfl rfl ?_))
      (first | refine gl_guard_no rfl rfl rfl rfl rfl rfl rfl ?_ | refine gl_guard_un rfl rfl rfl rfl rfl rfl ?_ | (refine gl_guard_yes rfl rfl rfl ?_; refine gl_f (by first | exact s_pick_t rfl rfl | exact s_pick_f rfl rfl) rfl rfl rfl ?_))
      refine gl_f (by first | exact s_pick_t rfl rfl | exact s_pick_f rfl rfl) rfl rfl rfl ?_
      refine gl_nil ?_
      repeat (first | refine g_seq ?_ | refine at_code ?_ | refine g_skip ?_ | refine g_block ?_ | refine g_exit rfl ?_ | refine g_cond_t rfl ?_ | refine g_cond_f rfl ?_))
    all_goals exact at_cut (by (repeat (first | exact Sub.nil _ | refine Sub.cons rfl ?_))) (fun w hw => hw)
  · repeat (first | refine g_seq ?_ | refine at_code ?_ | refine g_skip ?_ | refine g_block ?_ | refine g_exit rfl ?_ | refine g_cond_t rfl ?_ | refine g_cond_f rfl ?_)
    refine g_cond rfl (fun h => ?_) (fun h => ?_)
    · repeat (first | refine g_seq ?_ | refine at_code ?_ | refine g_skip ?_ | refine g_block ?_ | refine g_exit rfl ?_ | refine g_cond_t rfl ?_ | refine g_cond_f rfl ?_)
      refine g_region ?_
      refine gl_f (s_assign rfl) rfl rfl rfl ?_
      refine gl_nil ?_
      repeat (first | refine g_seq ?_ | refine at_code ?_ | refine g_skip ?_ | refine g_block ?_ | refine g_exit rfl ?_ | refine g_cond_t rfl ?_ | refine g_cond_f rfl ?_)
      refine g_ret ?_
      exact at_end1 rfl rfl [] ⟨rfl, rfl⟩ (fun _ h => h.dropAll)
    · have hmeet : ∃ n, n ∈ x ∧ n ∈ y := by
        refine meets (l := l) (m := m) ?_ ?_ ?_
        · rw [← hq1]; cases q1 <;> cases q2 <;> cases q3 <;> cases q4 <;> simp_all
        · rw [← hq2]; cases q1 <;> cases q2 <;> cases q3 <;> cases q4 <;> simp_all
        · cases q3
          · right; rw [← hq4]; cases q1 <;> cases q2 <;> cases q4 <;> simp_all
          · left; exact of_decide_eq_true hq3.symm
      clear h hq1 hq2 hq3 hq4
      repeat (first | refine g_seq ?_ | refine at_code ?_ | refine g_skip ?_ | refine g_block ?_ | refine g_exit rfl ?_ | refine g_cond_t rfl ?_ | refine g_cond_f rfl ?_)
      repeat (first | refine g_seq ?_ | refine at_code ?_ | refine g_skip ?_ | refine g_block ?_ | refine g_exit rfl ?_ | refine g_cond_t rfl ?_ | refine g_cond_f rfl ?_)
      refine g_region ?_
      refine gl_f (s_assign rfl) rfl rfl rfl ?_
      refine gl_nil ?_
      repeat (first | refine g_seq ?_ | refine at_code ?_ | refine g_skip ?_ | refine g_block ?_ | refine g_exit rfl ?_ | refine g_cond_t rfl ?_ | refine g_cond_f rfl ?_)
      refine g_loop (ι := Nat) (fun k => k ≤ x.length ∧ ∀ j, j < k → inB y (x.getD j 0) = false) (fun k => [(11, .slice a21 x.length c21), (12, .slice a23 y.length c23), (13, .int .i64 (k : Nat))]) (fun k => [.own (.slice a23 y.length c23) 3 1 (intsV y), .own (.slice a21 x.length c21) 3 1 (intsV x)]) (fun k => x.length - k) 0 ⟨by omega, fun j hj => absurd hj (by omega)⟩ ?_ ?_ ?_
      · (repeat (first | exact Sub.nil _ | refine Sub.cons rfl ?_))
      · intro w hw; exact (hw.upd_same (.there (.there .del))).upd_same (.there (.there .del))
      · rintro k ⟨hk, hno⟩
        repeat (first | refine g_seq ?_ | refine at_code ?_ | refine g_skip ?_ | refine g_block ?_ | refine g_exit rfl ?_ | refine g_cond_t rfl ?_ | refine g_cond_f rfl ?_)
        refine g_region ?_
        refine gl_f (s_move rfl) rfl rfl rfl ?_
        refine gl_f (s_move rfl) rfl rfl rfl ?_
        refine gl_f (s_len_sl rfl) rfl rfl rfl ?_
        refine gl_f (s_lss rfl rfl) rfl rfl rfl ?_
        refine gl_nil ?_
        repeat (first | refine g_seq ?_ | refine at_code ?_ | refine g_skip ?_ | refine g_block ?_ | refine g_exit rfl ?_ | refine g_cond_t rfl ?_ | refine g_cond_f rfl ?_)
        refine g_cond rfl (fun h => ?_) (fun h => ?_)
        · have hk' : k < x.length := by simp at h; omega
          refine g_ownN (.there .del) (fun _ _ hsm => ?_)
          have hsome := hsm (by omega)
          repeat (first | refine g_seq ?_ | refine at_code ?_ | refine g_skip ?_ | refine g_block ?_ | refine g_exit rfl ?_ | refine g_cond_t rfl ?_ | refine g_cond_f rfl ?_)
          refine g_region ?_
          refine gl_f (s_move rfl) rfl rfl rfl ?_
          refine gl_f (s_move rfl) rfl rfl rfl ?_
          refine gl_f (s_move rfl) rfl rfl rfl ?_
          refine gl_f (s_indexAddr rfl (by assumption) rfl (by omega)) rfl rfl rfl ?_
          refine gl_r (s_load1 rfl (fun w hw => rdI_own hw (.there .del) (i := k) (by omega) hk')) rfl rfl rfl ?_
          refine gl_callp rfl (In_ct y _ _ _ (by omega)) (fun h hh ⟨bs, hb⟩ => Sat.rd (a := a23) hb (by first | exact .del | exact .there .del | exact .there (.there .del) | exact .there (.there (.there .del)) | exact .there (.there (.there (.there .del))) | exact .there (.there (.there (.there (.there .del)))) | exact .there (.there (.there (.there (.there (.there .del))))))) rfl ?_
          refine gl_nil ?_
          repeat (first | refine g_seq ?_ | refine at_code ?_ | refine g_skip ?_ | refine g_block ?_ | refine g_exit rfl ?_ | refine g_cond_t rfl ?_ | refine g_cond_f rfl ?_)
          refine g_cond rfl (fun h2 => ?_) (fun h2 => ?_)
          · repeat (first | refine g_seq ?_ | refine at_code ?_ | refine g_skip ?_ | refine g_block ?_ | refine g_exit rfl ?_ | refine g_cond_t rfl ?_ | refine g_cond_f rfl ?_)
            refine g_region ?_
            refine gl_f (s_assign rfl) rfl rfl rfl ?_
            refine gl_nil ?_
            repeat (first | refine g_seq ?_ | refine at_code ?_ | refine g_skip ?_ | refine g_block ?_ | refine g_exit rfl ?_ | refine g_cond_t rfl ?_ | refine g_cond_f rfl ?_)
            refine g_ret ?_
            exact at_end1 rfl rfl [] ⟨rfl, rfl⟩ (fun _ h => h.dropAll)
          · repeat (first | refine g_seq ?_ | refine at_code ?_ | refine g_skip ?_ | refine g_block ?_ | refine g_exit rfl ?_ | refine g_cond_t rfl ?_ | refine g_cond_f rfl ?_)
            repeat (first | refine g_seq ?_ | refine at_code ?_ | refine g_skip ?_ | refine g_block ?_ | refine g_exit rfl ?_ | refine g_cond_t rfl ?_ | refine g_cond_f rfl ?_)
            refine g_region ?_
            refine gl_f (s_move rfl) rfl rfl rfl ?_
            refine gl_f (s_add_i64 rfl rfl (by omega)) rfl rfl rfl ?_
            refine gl_f (s_assign rfl) rfl rfl rfl ?_
            refine gl_nil ?_
            repeat (first | refine g_seq ?_ | refine at_code ?_ | refine g_skip ?_ | refine g_block ?_ | refine g_exit rfl ?_ | refine g_cond_t rfl ?_ | refine g_cond_f rfl ?_)
            refine at_next (k + 1) ⟨by omega, fun j hj => ?_⟩ (by omega) ?_ ?_
            · rcases Nat.lt_succ_iff_lt_or_eq.1 hj with h4 | rfl
              · exact hno j h4
              · exact h2
            · (repeat (first | exact Sub.nil _ | refine Sub.cons rfl ?_))
            · intro w hw; exact hw
        · exfalso
          have hkl : k = x.length := by simp at h; omega
          subst hkl
          obtain ⟨n, h1, h2⟩ := hmeet
          obtain ⟨j, hj, e⟩ := List.mem_iff_getElem.1 h1
          have h3 := hno j hj
          have e2 : x.getD j 0 = n := by simp [hj, e]
          rw [e2] at h3
          simp [inB, h2] at h3
end Go.Proofs.Ytodcghipfolejaa
