/- The walks of QuorumHas and QuorumMeets. -/
import Derived.Test.YtodcghipfolejaaQ9
namespace Go.Proofs.Ytodcghipfolejaa
open Go Go.Sl
set_option linter.unusedVariables false
set_option linter.unusedSimpArgs false

theorem comI_coms {l : List Int} {hs : List At2} {best : Int} (h : ComI l hs hs.length best) (hr : rightB l = true) : ComS l hs best := by
  have hl := (right_len hr).1
  intro i
  constructor
  · intro hi
    rcases Int.lt_or_le 0 best with hb | hb
    · have h1 : mostB l (whoL hs best) = true := by rcases h.has with h1 | h1; omega; exact h1
      rw [who_most hr hb] at h1
      have := of_decide_eq_true h1
      have := cnt_mono (l := l) (hs := hs) hi
      omega
    · rw [cnt_all (by omega)]; omega
  · intro hc
    rcases Int.lt_or_le 0 i with hi | hi
    · obtain ⟨y, h1, ⟨m, hm, h2⟩, h3⟩ := least_best l hs i (by omega)
      obtain ⟨p, hp, h4⟩ := bst_hit hs m (by omega)
      obtain ⟨j, hj, e⟩ := List.mem_iff_getElem.1 hp
      have e2 : hs.getD j (0, 0) = p := by simp [hj, e]
      have := h.all j hj
      rw [e2, h4, h2, who_most hr (by omega), h3] at this
      have := this (by simpa using hc)
      omega
    · have := h.pos; omega
theorem comI_ex (l : List Int) (hs : List At2) : ∀ k, k ≤ hs.length → ∃ b, ComI l hs k b := by
  intro k
  induction k with
  | zero => intro _; exact ⟨0, Int.le_refl _, .inl rfl, fun j hj => absurd hj (by omega)⟩
  | succ k ih =>
    intro hk
    obtain ⟨b, hb⟩ := ih (by omega)
    have hp := hb.pos
    by_cases h : b < (hs.getD k (0, 0)).2 ∧ mostB l (whoL hs (hs.getD k (0, 0)).2) = true
    · refine ⟨_, by omega, .inr h.2, fun j hj hm => ?_⟩
      rcases Nat.lt_succ_iff_lt_or_eq.1 hj with h4 | rfl
      · have := hb.all j h4 hm; omega
      · exact Int.le_refl _
    · refine ⟨b, hp, hb.has, fun j hj hm => ?_⟩
      rcases Nat.lt_succ_iff_lt_or_eq.1 hj with h4 | rfl
      · exact hb.all j h4 hm
      · apply Classical.byContradiction
        intro hn
        exact h ⟨by omega, hm⟩
theorem com_spec {l : List Int} {hs : List At2} (hr : rightB l = true) : ComS l hs (com l hs) := by
  obtain ⟨b, hb⟩ := comI_ex l hs hs.length (Nat.le_refl _)
  have h := comI_coms hb hr
  rw [com_eq hr h]; exact h
theorem com_more {l : List Int} {hs : List At2} {p : At2} (hr : rightB l = true) : com l hs ≤ com l (hs ++ [p]) := by
  have h1 := (com_spec (hs := hs) hr (com l hs)).1 (Int.le_refl _)
  rw [com_spec (hs := hs ++ [p]) hr]
  have h2 : cntI l hs (com l hs) ≤ cntI l (hs ++ [p]) (com l hs) := by
    unfold cntI
    refine List.countP_mono_left fun m hm hq => ?_
    simp only [decide_eq_true_eq] at *
    rw [bst_append]
    split <;> omega
  omega
theorem has_yes {l : List Int} {hs : List At2} (hr : rightB l = true) (h0 : 0 < com l hs) : mostB l (whoL hs (com l hs)) = true := by
  rw [who_most hr h0]
  exact decide_eq_true ((com_spec hr _).1 (Int.le_refl _))
theorem has_no {l : List Int} {hs : List At2} (hr : rightB l = true) : mostB l (whoL hs (com l hs + 1)) = false := by
  have h0 := ComS_nonneg (com_spec (hs := hs) hr) (right_len hr).1
  rw [who_most hr (by omega)]
  refine decide_eq_false fun h => ?_
  have := (com_spec (hs := hs) hr _).2 h
  omega

set_option maxHeartbeats 2000000 in
theorem QuorumHas_ct (l : List Int) (hs : List At2) (mo : At2) (a b : Option Addr) (c d : Nat) (hl : l.length ≤ 4611686018427387903) : Pu Try.prog 5 [.slice a l.length c, .slice b hs.length d, .agg #[.int .i64 mo.1, .int .u64 mo.2]] (RdLH a b l hs) (.bool true) := by
  refine ct_enter 56 Try.func5 rfl rfl rfl ?_
  intro F hr
  have hrl := hr.1
  have hrh := hr.2
  repeat (first | refine g_seq ?_ | refine at_code ?_ | refine g_skip ?_ | refine g_block ?_ | refine g_exit rfl ?_ | refine g_cond_t rfl ?_ | refine g_cond_f rfl ?_)
  refine g_region ?_
  refine gl_box rfl rfl ?_; intro g5
  refine gl_f (s_assign rfl) rfl rfl rfl ?_
  refine gl_nil ?_
  repeat (first | refine g_seq ?_ | refine at_code ?_ | refine g_skip ?_ | refine g_block ?_ | refine g_exit rfl ?_ | refine g_cond_t rfl ?_ | refine g_cond_f rfl ?_)
  refine g_cutK [(0, .slice a l.length c), (1, .slice b hs.length d), (5, Ptr g5), (14, .bool (decide (300 < (hs.length : Int))))] [.blk g5 (.cells #[.int .i64 mo.1, .int .u64 mo.2] 31)] ?_ ?_
  · repeat (first | refine g_seq ?_ | refine at_code ?_ | refine g_skip ?_ | refine g_block ?_ | refine g_exit rfl ?_ | refine g_cond_t rfl ?_ | refine g_cond_f rfl ?_)
    refine g_region ?_
    refine gl_callp rfl (alive_ct) (fun h hh hb => by first | trivial | (first | exact RdS.le (by assumption) hh | (obtain ⟨bs, hb⟩ := hb; exact Sat.rd hb ((by first | exact .del | exact .there .del | exact .there (.there .del) | exact .there (.there (.there .del)) | exact .there (.there (.there (.there .del))) | exact .there (.there (.there (.there (.there .del)))) | exact .there (.there (.there (.there (.there (.there .del))))))))) | (refine ⟨?_, ?_⟩ <;> (first | exact RdS.le (by assumption) hh | (obtain ⟨bs, hb⟩ := hb; exact Sat.rd hb ((by first | exact .del | exact .there .del | exact .there (.there .del) | exact .there (.there (.there .del)) | exact .there (.there (.there (.there .del))) | exact .there (.there (.there (.there (.there .del)))) | exact .there (.there (.there (.there (.there (.there .del)))))))))) | (refine ⟨?_, ?_, ?_⟩ <;> (first | exact RdS.le (by assumption) hh | (obtain ⟨bs, hb⟩ := hb; exact Sat.rd hb ((by first | exact .del | exact .there .del | exact .there (.there .del) | exact .there (.there (.there .del)) | exact .there (.there (.there (.there .del))) | exact .there (.there (.there (.there (.there .del)))) | exact .there (.there (.there (.there (.there (.there .del))))))))))) rfl ?_
    refine gl_f (s_not rfl) rfl rfl rfl ?_
    refine gl_f (s_move rfl) rfl rfl rfl ?_
    (first | refine gl_guard_no rfl rfl rfl rfl rfl rfl rfl ?_ | refine gl_guard_un rfl rfl rfl rfl rfl rfl ?_ | (refine gl_guard_yes rfl rfl rfl ?_; refine gl_f (s_move rfl) rfl rfl rfl ?_))
    (first | refine gl_guard_no rfl rfl rfl rfl rfl rfl rfl ?_ | refine gl_guard_un rfl rfl rfl rfl rfl rfl ?_ | (refine gl_guard_yes rfl rfl rfl ?_; refine gl_f (s_len_sl rfl) rfl rfl rfl ?_))
    (first | refine gl_guard_no rfl rfl rfl rfl rfl rfl rfl ?_ | refine gl_guard_un rfl rfl rfl rfl rfl rfl ?_ | (refine gl_guard_yes rfl rfl rfl ?_; refine gl_f (s_gtr rfl rfl) rfl rfl rfl ?_))
    refine gl_f (by first | exact s_pick_t rfl rfl | exact s_pick_f rfl rfl) rfl rfl rfl ?_
    refine gl_nil ?_
    repeat (first | refine g_seq ?_ | refine at_code ?_ | refine g_skip ?_ | refine g_block ?_ | refine g_exit rfl ?_ | refine g_cond_t rfl ?_ | refine g_cond_f rfl ?_)
    exact at_cut (by (repeat (first | exact Sub.nil _ | refine Sub.cons rfl ?_))) (fun w hw => hw)
  · repeat (first | refine g_seq ?_ | refine at_code ?_ | refine g_skip ?_ | refine g_block ?_ | refine g_exit rfl ?_ | refine g_cond_t rfl ?_ | refine g_cond_f rfl ?_)
    refine g_cond rfl (fun h => ?_) (fun h => ?_)
    · repeat (first | refine g_seq ?_ | refine at_code ?_ | refine g_skip ?_ | refine g_block ?_ | refine g_exit rfl ?_ | refine g_cond_t rfl ?_ | refine g_cond_f rfl ?_)
      refine g_region ?_
      refine gl_callp rfl (alive_ct) (fun h hh hb => by first | trivial | (first | exact RdS.le (by assumption) hh | (obtain ⟨bs, hb⟩ := hb; exact Sat.rd hb ((by first | exact .del | exact .there .del | exact .there (.there .del) | exact .there (.there (.there .del)) | exact .there (.there (.there (.there .del))) | exact .there (.there (.there (.there (.there .del)))) | exact .there (.there (.there (.there (.there (.there .del))))))))) | (refine ⟨?_, ?_⟩ <;> (first | exact RdS.le (by assumption) hh | (obtain ⟨bs, hb⟩ := hb; exact Sat.rd hb ((by first | exact .del | exact .there .del | exact .there (.there .del) | exact .there (.there (.there .del)) | exact .there (.there (.there (.there .del))) | exact .there (.there (.there (.there (.there .del)))) | exact .there (.there (.there (.there (.there (.there .del)))))))))) | (refine ⟨?_, ?_, ?_⟩ <;> (first | exact RdS.le (by assumption) hh | (obtain ⟨bs, hb⟩ := hb; exact Sat.rd hb ((by first | exact .del | exact .there .del | exact .there (.there .del) | exact .there (.there (.there .del)) | exact .there (.there (.there (.there .del))) | exact .there (.there (.there (.there (.there .del)))) | exact .there (.there (.there (.there (.there (.there .del))))))))))) rfl ?_
      refine gl_f (s_assign rfl) rfl rfl rfl ?_
      refine gl_nil ?_
      repeat (first | refine g_seq ?_ | refine at_code ?_ | refine g_skip ?_ | refine g_block ?_ | refine g_exit rfl ?_ | refine g_cond_t rfl ?_ | refine g_cond_f rfl ?_)
      refine g_ret ?_
      exact at_end1 rfl rfl [] ⟨rfl, rfl⟩ (fun _ h => h.dropAll)
    · have hh : hs.length ≤ 300 := by simp at h; omega
      clear h
      repeat (first | refine g_seq ?_ | refine at_code ?_ | refine g_skip ?_ | refine g_block ?_ | refine g_exit rfl ?_ | refine g_cond_t rfl ?_ | refine g_cond_f rfl ?_)
      obtain ⟨x, hx⟩ : ∃ x, x = com l hs := ⟨_, rfl⟩
      repeat (first | refine g_seq ?_ | refine at_code ?_ | refine g_skip ?_ | refine g_block ?_ | refine g_exit rfl ?_ | refine g_cond_t rfl ?_ | refine g_cond_f rfl ?_)
      refine g_region ?_
      refine gl_f (s_move rfl) rfl rfl rfl ?_
      refine gl_f (s_move rfl) rfl rfl rfl ?_
      refine gl_callp rfl (Commit_ct _ _ _ _ _ _ (by omega) (by omega)) (fun h hh _ => ⟨hrl.le hh, hrh.le hh⟩) rfl ?_; rw [← hx]
      refine gl_f (s_assign rfl) rfl rfl rfl ?_
      refine gl_nil ?_
      repeat (first | refine g_seq ?_ | refine at_code ?_ | refine g_skip ?_ | refine g_block ?_ | refine g_exit rfl ?_ | refine g_cond_t rfl ?_ | refine g_cond_f rfl ?_)
      obtain ⟨q, hq⟩ : ∃ q, q = rightB l := ⟨_, rfl⟩
      cases q
      · rw [com_no hq.symm] at hx
        subst hx
        repeat (first | refine g_seq ?_ | refine at_code ?_ | refine g_skip ?_ | refine g_block ?_ | refine g_exit rfl ?_ | refine g_cond_t rfl ?_ | refine g_cond_f rfl ?_)
        refine g_region ?_
        refine gl_f (s_move rfl) rfl rfl rfl ?_
        refine gl_callp rfl (Right_ct l a c (by omega)) (fun h hh _ => hrl.le hh) rfl ?_; rw [← hq]
        refine gl_f (s_not rfl) rfl rfl rfl ?_
        refine gl_nil ?_
        repeat (first | refine g_seq ?_ | refine at_code ?_ | refine g_skip ?_ | refine g_block ?_ | refine g_exit rfl ?_ | refine g_cond_t rfl ?_ | refine g_cond_f rfl ?_)
        repeat (first | refine g_seq ?_ | refine at_code ?_ | refine g_skip ?_ | refine g_block ?_ | refine g_exit rfl ?_ | refine g_cond_t rfl ?_ | refine g_cond_f rfl ?_)
        refine g_region ?_
        refine gl_f (s_move rfl) rfl rfl rfl ?_
        refine gl_f (s_eql rfl rfl) rfl rfl rfl ?_
        refine gl_f (s_assign rfl) rfl rfl rfl ?_
        refine gl_nil ?_
        repeat (first | refine g_seq ?_ | refine at_code ?_ | refine g_skip ?_ | refine g_block ?_ | refine g_exit rfl ?_ | refine g_cond_t rfl ?_ | refine g_cond_f rfl ?_)
        refine g_ret ?_
        exact at_end1 rfl rfl [] ⟨rfl, rfl⟩ (fun _ h => h.dropAll)
      · have hright : rightB l = true := hq.symm
        repeat (first | refine g_seq ?_ | refine at_code ?_ | refine g_skip ?_ | refine g_block ?_ | refine g_exit rfl ?_ | refine g_cond_t rfl ?_ | refine g_cond_f rfl ?_)
        refine g_region ?_
        refine gl_f (s_move rfl) rfl rfl rfl ?_
        refine gl_callp rfl (Right_ct l a c (by omega)) (fun h hh _ => hrl.le hh) rfl ?_; rw [← hq]
        refine gl_f (s_not rfl) rfl rfl rfl ?_
        refine gl_nil ?_
        repeat (first | refine g_seq ?_ | refine at_code ?_ | refine g_skip ?_ | refine g_block ?_ | refine g_exit rfl ?_ | refine g_cond_t rfl ?_ | refine g_cond_f rfl ?_)
        have hyes : 0 < x → mostB l (whoL hs x) = true := by subst hx; exact has_yes hright
        have hno : mostB l (whoL hs (x + 1)) = false := by subst hx; exact has_no hright
        have hpos : 0 ≤ x := by subst hx; exact ComS_nonneg (com_spec hright) (right_len hright).1
        have hw1 := who_le hs x
        have hw2 := who_le hs (x + 1)
        obtain ⟨q1, hq1⟩ : ∃ q, q = decide (0 < x) := ⟨_, rfl⟩
        obtain ⟨q2, hq2⟩ : ∃ q, q = decide (x < 18446744073709551615) := ⟨_, rfl⟩
        refine g_cutK [(0, .slice a l.length c), (1, .slice b hs.length d), (5, Ptr g5), (7, .int .u64 x), (45, .bool false)] [.blk g5 (.cells #[.int .i64 mo.1, .int .u64 mo.2] 31)] ?_ ?_
        · cases q1 <;> cases q2
          all_goals (
            repeat (first | refine g_seq ?_ | refine at_code ?_ | refine g_skip ?_ | refine g_block ?_ | refine g_exit rfl ?_ | refine g_cond_t rfl ?_ | refine g_cond_f rfl ?_)
            refine g_region ?_
            refine gl_f (s_move rfl) rfl rfl rfl ?_
            refine gl_f ((s_gtr rfl rfl).eq (congrArg Value.bool hq1.symm)) rfl rfl rfl ?_
            refine gl_f (s_move rfl) rfl rfl rfl ?_
            (first | refine gl_guard_no rfl rfl rfl rfl rfl rfl rfl ?_ | refine gl_guard_un rfl rfl rfl rfl rfl rfl ?_ | (refine gl_guard_yes rfl rfl rfl ?_; refine gl_f (s_move rfl) rfl rfl rfl ?_))
            (first | refine gl_guard_no rfl rfl rfl rfl rfl rfl rfl ?_ | refine gl_guard_un rfl rfl rfl rfl rfl rfl ?_ | (refine gl_guard_yes rfl rfl rfl ?_; refine gl_f (s_move rfl) rfl rfl rfl ?_))
            (first | refine gl_guard_no rfl rfl rfl rfl rfl rfl rfl ?_ | refine gl_guard_un rfl rfl rfl rfl rfl rfl ?_ | (refine gl_guard_yes rfl rfl rfl ?_; refine gl_f (s_move rfl) rfl rfl rfl ?_))
            (first | refine gl_guard_no rfl rfl rfl rfl rfl rfl rfl ?_ | refine gl_guard_un rfl rfl rfl rfl rfl rfl ?_ | (refine gl_guard_yes rfl rfl rfl ?_; refine gl_call _ rfl (has_ct hs x b d (by omega)) (fun w hw => hw) (fun h hh _ => hrh.le hh) rfl ?_; rintro v A ⟨wa, wc, rfl, rfl⟩))
            (first | refine gl_guard_no rfl rfl rfl rfl rfl rfl rfl ?_ | refine gl_guard_un rfl rfl rfl rfl rfl rfl ?_ | (refine gl_guard_yes rfl rfl rfl ?_; refine gl_callp rfl (Most_ct l (whoL hs x) a wa c wc (by omega) (by omega)) (fun h hh ⟨bs, hb⟩ => ⟨hrl.le hh, Sat.rd hb (by first | exact .del | exact .there .del | exact .there (.there .del) | exact .there (.there (.there .del)) | exact .there (.there (.there (.there .del))) | exact .there (.there (.there (.there (.there .del)))) | exact .there (.there (.there (.there (.there (.there .del))))))⟩) rfl ?_; rw [hyes (of_decide_eq_true hq1.symm)]))
            (first | refine gl_guard_no rfl rfl rfl rfl rfl rfl rfl ?_ | refine gl_guard_un rfl rfl rfl rfl rfl rfl ?_ | (refine gl_guard_yes rfl rfl rfl ?_; refine gl_f (s_not rfl) rfl rfl rfl ?_))
            refine gl_f (by first | exact s_pick_t rfl rfl | exact s_pick_f rfl rfl) rfl rfl rfl ?_
            refine gl_f (s_move rfl) rfl rfl rfl ?_
            (first | refine gl_guard_no rfl rfl rfl rfl rfl rfl rfl ?_ | refine gl_guard_un rfl rfl rfl rfl rfl rfl ?_ | (refine gl_guard_yes rfl rfl rfl ?_; refine gl_f (s_move rfl) rfl rfl rfl ?_))
            (first | refine gl_guard_no rfl rfl rfl rfl rfl rfl rfl ?_ | refine gl_guard_un rfl rfl rfl rfl rfl rfl ?_ | (refine gl_guard_yes rfl rfl rfl ?_; refine gl_f ((s_lss rfl rfl).eq (congrArg Value.bool hq2.symm)) rfl rfl rfl ?_))
            (first | refine gl_guard_no rfl rfl rfl rfl rfl rfl rfl ?_ | refine gl_guard_un rfl rfl rfl rfl rfl rfl ?_ | (refine gl_guard_yes rfl rfl rfl ?_; refine gl_f (s_move rfl) rfl rfl rfl ?_))
            (first | refine gl_guard_no rfl rfl rfl rfl rfl rfl rfl ?_ | refine gl_guard_un rfl rfl rfl rfl rfl rfl ?_ | (refine gl_guard_yes rfl rfl rfl ?_; refine gl_f (s_move rfl) rfl rfl rfl ?_))
            (first | refine gl_guard_no rfl rfl rfl rfl rfl rfl rfl ?_ | refine gl_guard_un rfl rfl rfl rfl rfl rfl ?_ | (refine gl_guard_yes rfl rfl rfl ?_; refine gl_f (s_move rfl) rfl rfl rfl ?_))
            (first | refine gl_guard_no rfl rfl rfl rfl rfl rfl rfl ?_ | refine gl_guard_un rfl rfl rfl rfl rfl rfl ?_ | (refine gl_guard_yes rfl rfl rfl ?_; refine gl_f (s_move rfl) rfl rfl rfl ?_))
            (first | refine gl_guard_no rfl rfl rfl rfl rfl rfl rfl ?_ | refine gl_guard_un rfl rfl rfl rfl rfl rfl ?_ | (refine gl_guard_yes rfl rfl rfl ?_; refine gl_f (s_add_u64 rfl rfl (by have := of_decide_eq_true hq2.symm; omega)) rfl rfl rfl ?_))
            (first | refine gl_guard_no rfl rfl rfl rfl rfl rfl rfl ?_ | refine gl_guard_un rfl rfl rfl rfl rfl rfl ?_ | (refine gl_guard_yes rfl rfl rfl ?_; refine gl_call _ rfl (has_ct hs (x + 1) b d (by omega)) (fun w hw => hw) (fun h hh _ => hrh.le hh) rfl ?_; rintro v A ⟨wa2, wc2, rfl, rfl⟩))
            (first | refine gl_guard_no rfl rfl rfl rfl rfl rfl rfl ?_ | refine gl_guard_un rfl rfl rfl rfl rfl rfl ?_ | (refine gl_guard_yes rfl rfl rfl ?_; refine gl_callp rfl (Most_ct l (whoL hs (x + 1)) a wa2 c wc2 (by omega) (by omega)) (fun h hh ⟨bs, hb⟩ => ⟨hrl.le hh, Sat.rd hb (by first | exact .del | exact .there .del | exact .there (.there .del) | exact .there (.there (.there .del)) | exact .there (.there (.there (.there .del))) | exact .there (.there (.there (.there (.there .del)))) | exact .there (.there (.there (.there (.there (.there .del))))))⟩) rfl ?_; rw [hno]))
            (first | refine gl_guard_no rfl rfl rfl rfl rfl rfl rfl ?_ | refine gl_guard_un rfl rfl rfl rfl rfl rfl ?_ | (refine gl_guard_yes rfl rfl rfl ?_; refine gl_f (by first | exact s_pick_t rfl rfl | exact s_pick_f rfl rfl) rfl rfl rfl ?_))
            refine gl_f (by first | exact s_pick_t rfl rfl | exact s_pick_f rfl rfl) rfl rfl rfl ?_
            refine gl_nil ?_
            repeat (first | refine g_seq ?_ | refine at_code ?_ | refine g_skip ?_ | refine g_block ?_ | refine g_exit rfl ?_ | refine g_cond_t rfl ?_ | refine g_cond_f rfl ?_))
          all_goals exact at_cut (by (repeat (first | exact Sub.nil _ | refine Sub.cons rfl ?_))) (fun w hw => by first | exact hw | exact hw.drop | exact hw.drop.drop)
        · repeat (first | refine g_seq ?_ | refine at_code ?_ | refine g_skip ?_ | refine g_block ?_ | refine g_exit rfl ?_ | refine g_cond_t rfl ?_ | refine g_cond_f rfl ?_)
          have elen : (hs ++ [mo]).length = 0 + hs.length + 1 := by simp
          have hge : x ≤ com l (hs ++ [mo]) := by rw [hx]; exact com_more hright
          repeat (first | refine g_seq ?_ | refine at_code ?_ | refine g_skip ?_ | refine g_block ?_ | refine g_exit rfl ?_ | refine g_cond_t rfl ?_ | refine g_cond_f rfl ?_)
          refine g_draw0 [4] 11 rfl ?_
          refine ga_free 0 rfl (s_move rfl) rfl rfl rfl (by kernel_rfl) ?_
          refine ga_free 2 rfl (s_move rfl) rfl rfl rfl (by kernel_rfl) ?_
          refine ga_read 4 rfl (by first | exact .del | exact .there .del | exact .there (.there .del) | exact .there (.there (.there .del)) | exact .there (.there (.there (.there .del))) | exact .there (.there (.there (.there (.there .del)))) | exact .there (.there (.there (.there (.there (.there .del)))))) (s_load_blkN rfl .del (by rfl)) rfl rfl rfl (by kernel_rfl) ?_
          refine ga_free 8 rfl (s_move rfl) rfl rfl rfl (by kernel_rfl) ?_
          refine ga_two 1 5 rfl rfl (by kernel_rfl) ?_ ?_
          refine gl_buildSlice0 rfl ?_; intro a1
          refine gl_nil ?_
          refine at_ga (.inr (by (intro w hw; first | exact keeps_self hw | exact ⟨_, hw, by intro y hy; simp at hy ⊢; simp [hy]⟩))) ?_
          refine ga_two 3 5 rfl rfl (by kernel_rfl) ?_ ?_
          refine gl_append rfl rfl (fun a' c' => (by first | exact .here | exact .there .here | exact .there (.there .here) | exact .there (.there (.there .here)) | exact .there (.there (.there (.there .here))) | exact .there (.there (.there (.there (.there .here)))) | exact .there (.there (.there (.there (.there (.there .here))))))) (fun w hw => hrh.le hw.keep) (atV_length hs) rfl rfl (atV_one hs) (by show (_ + _) * 16 ≤ _; omega) (by omega) rfl ?_; intro a3 c3 hc3
          refine gl_nil ?_
          refine at_ga (.inr (by (intro w hw; first | exact keeps_self hw | exact ⟨_, hw, by intro y hy; simp at hy ⊢; simp [hy]⟩))) ?_
          refine ga_one 5 rfl (by kernel_rfl) ?_
          refine gl_buildSliceU rfl rfl rfl rfl rfl rfl (xs := atV [mo]) rfl rfl ?_; intro a5 ha5
          refine gl_nil ?_
          refine at_ga (.inl (by kernel_rfl)) ?_
          refine ga_one 6 rfl (by kernel_rfl) ?_
          refine gl_append rfl rfl (fun a' c' => (by first | exact .here | exact .there .here | exact .there (.there .here) | exact .there (.there (.there .here)) | exact .there (.there (.there (.there .here))) | exact .there (.there (.there (.there (.there .here)))) | exact .there (.there (.there (.there (.there (.there .here))))))) (fun w hw => (hw.ownN (by first | exact .del | exact .there .del | exact .there (.there .del) | exact .there (.there (.there .del)) | exact .there (.there (.there (.there .del))) | exact .there (.there (.there (.there (.there .del)))) | exact .there (.there (.there (.there (.there (.there .del))))))).2.2.1) rfl rfl rfl (atV_one [mo]) (by show (_ + _) * 16 ≤ _; omega) (by omega) rfl ?_; intro a6 c6 hc6
          refine gl_nil ?_
          refine at_ga (.inr (by (intro w hw; first | exact keeps_self hw | exact ⟨_, hw, by intro y hy; simp at hy ⊢; simp [hy]⟩))) ?_
          refine ga_one 7 rfl (by kernel_rfl) ?_
          refine gl_callp (vs := [.slice a l.length c, .slice a6 (hs ++ [mo]).length c6]) (by rw [elen]; rfl) (Commit_ct _ _ _ _ _ _ (by omega) (by omega)) (fun h hh ⟨bs, hb⟩ => ⟨hrl.le hh, by have h9 := Sat.rd (a := a6) hb (by first | exact .del | exact .there .del | exact .there (.there .del) | exact .there (.there (.there .del)) | exact .there (.there (.there (.there .del))) | exact .there (.there (.there (.there (.there .del)))) | exact .there (.there (.there (.there (.there (.there .del)))))); rw [List.nil_append, ← atV_append] at h9; exact h9⟩) rfl ?_
          refine gl_nil ?_
          refine at_ga (.inr (by (intro w hw; first | exact keeps_self hw | exact ⟨_, hw, by intro y hy; simp at hy ⊢; simp [hy]⟩))) ?_
          refine ga_free 9 rfl ((s_geq rfl rfl).eq (v' := .bool true) (congrArg Value.bool (decide_eq_true hge))) rfl rfl rfl (by kernel_rfl) ?_
          refine ga_free 10 rfl (s_assign rfl) rfl rfl rfl (by kernel_rfl) ?_
          refine ga_done (by kernel_rfl) ?_
          rotate_left 1
          refine gl_buildSliceU rfl rfl rfl rfl rfl rfl (xs := atV [mo]) rfl rfl ?_; intro a5 ha5
          refine gl_nil ?_
          refine at_ga (.inl (by kernel_rfl)) ?_
          refine ga_one 3 rfl (by kernel_rfl) ?_
          refine gl_append rfl rfl (fun a' c' => (by first | exact .here | exact .there .here | exact .there (.there .here) | exact .there (.there (.there .here)) | exact .there (.there (.there (.there .here))) | exact .there (.there (.there (.there (.there .here)))) | exact .there (.there (.there (.there (.there (.there .here))))))) (fun w hw => hrh.le hw.keep) (atV_length hs) rfl rfl (atV_one hs) (by show (_ + _) * 16 ≤ _; omega) (by omega) rfl ?_; intro a3 c3 hc3
          refine gl_nil ?_
          refine at_ga (.inr (by (intro w hw; first | exact keeps_self hw | exact ⟨_, hw, by intro y hy; simp at hy ⊢; simp [hy]⟩))) ?_
          refine ga_one 6 rfl (by kernel_rfl) ?_
          refine gl_append rfl rfl (fun a' c' => (by first | exact .here | exact .there .here | exact .there (.there .here) | exact .there (.there (.there .here)) | exact .there (.there (.there (.there .here))) | exact .there (.there (.there (.there (.there .here)))) | exact .there (.there (.there (.there (.there (.there .here))))))) (fun w hw => (hw.ownN (by first | exact .del | exact .there .del | exact .there (.there .del) | exact .there (.there (.there .del)) | exact .there (.there (.there (.there .del))) | exact .there (.there (.there (.there (.there .del)))) | exact .there (.there (.there (.there (.there (.there .del))))))).2.2.1) rfl rfl rfl (atV_one [mo]) (by show (_ + _) * 16 ≤ _; omega) (by omega) rfl ?_; intro a6 c6 hc6
          refine gl_nil ?_
          refine at_ga (.inr (by (intro w hw; first | exact keeps_self hw | exact ⟨_, hw, by intro y hy; simp at hy ⊢; simp [hy]⟩))) ?_
          refine ga_one 7 rfl (by kernel_rfl) ?_
          refine gl_callp (vs := [.slice a l.length c, .slice a6 (hs ++ [mo]).length c6]) (by rw [elen]; rfl) (Commit_ct _ _ _ _ _ _ (by omega) (by omega)) (fun h hh ⟨bs, hb⟩ => ⟨hrl.le hh, by have h9 := Sat.rd (a := a6) hb (by first | exact .del | exact .there .del | exact .there (.there .del) | exact .there (.there (.there .del)) | exact .there (.there (.there (.there .del))) | exact .there (.there (.there (.there (.there .del)))) | exact .there (.there (.there (.there (.there (.there .del)))))); rw [List.nil_append, ← atV_append] at h9; exact h9⟩) rfl ?_
          refine gl_nil ?_
          refine at_ga (.inr (by (intro w hw; first | exact keeps_self hw | exact ⟨_, hw, by intro y hy; simp at hy ⊢; simp [hy]⟩))) ?_
          refine ga_free 9 rfl ((s_geq rfl rfl).eq (v' := .bool true) (congrArg Value.bool (decide_eq_true hge))) rfl rfl rfl (by kernel_rfl) ?_
          refine ga_free 10 rfl (s_assign rfl) rfl rfl rfl (by kernel_rfl) ?_
          refine ga_done (by kernel_rfl) ?_
          rotate_left 1
          refine gl_buildSliceU rfl rfl rfl rfl rfl rfl (xs := atV [mo]) rfl rfl ?_; intro a5 ha5
          refine gl_nil ?_
          refine at_ga (.inl (by kernel_rfl)) ?_
          refine ga_one 1 rfl (by kernel_rfl) ?_
          refine gl_buildSlice0 rfl ?_; intro a1
          refine gl_nil ?_
          refine at_ga (.inr (by (intro w hw; first | exact keeps_self hw | exact ⟨_, hw, by intro y hy; simp at hy ⊢; simp [hy]⟩))) ?_
          refine ga_one 3 rfl (by kernel_rfl) ?_
          refine gl_append rfl rfl (fun a' c' => (by first | exact .here | exact .there .here | exact .there (.there .here) | exact .there (.there (.there .here)) | exact .there (.there (.there (.there .here))) | exact .there (.there (.there (.there (.there .here)))) | exact .there (.there (.there (.there (.there (.there .here))))))) (fun w hw => hrh.le hw.keep) (atV_length hs) rfl rfl (atV_one hs) (by show (_ + _) * 16 ≤ _; omega) (by omega) rfl ?_; intro a3 c3 hc3
          refine gl_nil ?_
          refine at_ga (.inr (by (intro w hw; first | exact keeps_self hw | exact ⟨_, hw, by intro y hy; simp at hy ⊢; simp [hy]⟩))) ?_
          refine ga_one 6 rfl (by kernel_rfl) ?_
          refine gl_append rfl rfl (fun a' c' => (by first | exact .here | exact .there .here | exact .there (.there .here) | exact .there (.there (.there .here)) | exact .there (.there (.there (.there .here))) | exact .there (.there (.there (.there (.there .here)))) | exact .there (.there (.there (.there (.there (.there .here))))))) (fun w hw => (hw.ownN (by first | exact .del | exact .there .del | exact .there (.there .del) | exact .there (.there (.there .del)) | exact .there (.there (.there (.there .del))) | exact .there (.there (.there (.there (.there .del)))) | exact .there (.there (.there (.there (.there (.there .del))))))).2.2.1) rfl rfl rfl (atV_one [mo]) (by show (_ + _) * 16 ≤ _; omega) (by omega) rfl ?_; intro a6 c6 hc6
          refine gl_nil ?_
          refine at_ga (.inr (by (intro w hw; first | exact keeps_self hw | exact ⟨_, hw, by intro y hy; simp at hy ⊢; simp [hy]⟩))) ?_
          refine ga_one 7 rfl (by kernel_rfl) ?_
          refine gl_callp (vs := [.slice a l.length c, .slice a6 (hs ++ [mo]).length c6]) (by rw [elen]; rfl) (Commit_ct _ _ _ _ _ _ (by omega) (by omega)) (fun h hh ⟨bs, hb⟩ => ⟨hrl.le hh, by have h9 := Sat.rd (a := a6) hb (by first | exact .del | exact .there .del | exact .there (.there .del) | exact .there (.there (.there .del)) | exact .there (.there (.there (.there .del))) | exact .there (.there (.there (.there (.there .del)))) | exact .there (.there (.there (.there (.there (.there .del)))))); rw [List.nil_append, ← atV_append] at h9; exact h9⟩) rfl ?_
          refine gl_nil ?_
          refine at_ga (.inr (by (intro w hw; first | exact keeps_self hw | exact ⟨_, hw, by intro y hy; simp at hy ⊢; simp [hy]⟩))) ?_
          refine ga_free 9 rfl ((s_geq rfl rfl).eq (v' := .bool true) (congrArg Value.bool (decide_eq_true hge))) rfl rfl rfl (by kernel_rfl) ?_
          refine ga_free 10 rfl (s_assign rfl) rfl rfl rfl (by kernel_rfl) ?_
          refine ga_done (by kernel_rfl) ?_
          rotate_left 1
          all_goals (repeat (first | refine g_seq ?_ | refine at_code ?_ | refine g_skip ?_ | refine g_block ?_ | refine g_exit rfl ?_ | refine g_cond_t rfl ?_ | refine g_cond_f rfl ?_))
          all_goals (
            refine g_ret ?_
            exact at_end1 rfl rfl [] ⟨rfl, rfl⟩ (fun _ h => h.dropAll))
end Go.Proofs.Ytodcghipfolejaa
