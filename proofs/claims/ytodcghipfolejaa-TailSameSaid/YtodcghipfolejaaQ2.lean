/- The walks of Most, Same, With, Without. -/
import Derived.Test.YtodcghipfolejaaQ1
namespace Go.Proofs.Ytodcghipfolejaa
open Go Go.Sl
set_option linter.unusedVariables false
set_option linter.unusedSimpArgs false

def Rd2 (a b : Option Addr) (l m : List Int) (h : Heap) : Prop := RdS h a (intsV l) ∧ RdS h b (intsV m)
theorem Most_ct (l m : List Int) (a b : Option Addr) (c d : Nat) (hl : l.length ≤ 4611686018427387903) (hm : m.length ≤ 4611686018427387903) : Pu Try.prog 21 [.slice a l.length c, .slice b m.length d] (Rd2 a b l m) (.bool (mostB l m)) := by
  refine ct_enter 29 Try.func21 rfl rfl rfl ?_
  intro F hr
  have hrd := hr.1
  have hrm := hr.2
  repeat (first | refine g_seq ?_ | refine at_code ?_ | refine g_skip ?_ | refine g_block ?_ | refine g_exit rfl ?_ | refine g_cond_t rfl ?_ | refine g_cond_f rfl ?_)
  refine g_region ?_
  refine gl_f (s_assign rfl) rfl rfl rfl ?_
  refine gl_nil ?_
  repeat (first | refine g_seq ?_ | refine at_code ?_ | refine g_skip ?_ | refine g_block ?_ | refine g_exit rfl ?_ | refine g_cond_t rfl ?_ | refine g_cond_f rfl ?_)
  refine g_region ?_
  refine gl_f (s_assign rfl) rfl rfl rfl ?_
  refine gl_nil ?_
  repeat (first | refine g_seq ?_ | refine at_code ?_ | refine g_skip ?_ | refine g_block ?_ | refine g_exit rfl ?_ | refine g_cond_t rfl ?_ | refine g_cond_f rfl ?_)
  refine g_region ?_
  refine gl_f (s_move rfl) rfl rfl rfl ?_
  refine gl_f (s_len_sl rfl) rfl rfl rfl ?_
  refine gl_f (s_move rfl) rfl rfl rfl ?_
  refine gl_nil ?_
  repeat (first | refine g_seq ?_ | refine at_code ?_ | refine g_skip ?_ | refine g_block ?_ | refine g_exit rfl ?_ | refine g_cond_t rfl ?_ | refine g_cond_f rfl ?_)
  refine g_loop (ι := Nat) (fun k => k ≤ l.length) (fun k => [(0, .slice a l.length c), (1, .slice b m.length d), (8, .slice a l.length c), (9, .int .i64 (l.length : Nat)), (10, .int .i64 (k : Nat)), (5, .int .i64 (cntB (l.take k) m : Nat))]) (fun k => []) (fun k => l.length - k) 0 (by omega) ?_ ?_ ?_
  · (repeat (first | exact Sub.nil _ | refine Sub.cons rfl ?_))
  · intro w hw; exact hw
  · intro k hk
    have hcl := cnt_le (l.take k) m
    rw [List.length_take] at hcl
    repeat (first | refine g_seq ?_ | refine at_code ?_ | refine g_skip ?_ | refine g_block ?_ | refine g_exit rfl ?_ | refine g_cond_t rfl ?_ | refine g_cond_f rfl ?_)
    refine g_region ?_
    refine gl_f (s_lss rfl rfl) rfl rfl rfl ?_
    refine gl_nil ?_
    repeat (first | refine g_seq ?_ | refine at_code ?_ | refine g_skip ?_ | refine g_block ?_ | refine g_exit rfl ?_ | refine g_cond_t rfl ?_ | refine g_cond_f rfl ?_)
    refine g_cond rfl (fun h => ?_) (fun h => ?_)
    · have hk' : k < l.length := by simp at h; omega
      have hsome := rdI_some hrd hk'
      repeat (first | refine g_seq ?_ | refine at_code ?_ | refine g_skip ?_ | refine g_block ?_ | refine g_exit rfl ?_ | refine g_cond_t rfl ?_ | refine g_cond_f rfl ?_)
      refine g_region ?_
      refine gl_f (s_indexAddr rfl (by assumption) rfl (by omega)) rfl rfl rfl ?_
      refine gl_r (s_load1 rfl (fun w hw => rdI hw hrd (i := k) (by omega) (by omega))) rfl rfl rfl ?_
      refine gl_f (s_assign rfl) rfl rfl rfl ?_
      refine gl_nil ?_
      repeat (first | refine g_seq ?_ | refine at_code ?_ | refine g_skip ?_ | refine g_block ?_ | refine g_exit rfl ?_ | refine g_cond_t rfl ?_ | refine g_cond_f rfl ?_)
      repeat (first | refine g_seq ?_ | refine at_code ?_ | refine g_skip ?_ | refine g_block ?_ | refine g_exit rfl ?_ | refine g_cond_t rfl ?_ | refine g_cond_f rfl ?_)
      refine g_region ?_
      refine gl_f (s_move rfl) rfl rfl rfl ?_
      refine gl_f (s_move rfl) rfl rfl rfl ?_
      refine gl_callp rfl (Contains_ct m _ b d (by omega)) (fun h hh _ => hrm.le hh) rfl ?_
      refine gl_nil ?_
      repeat (first | refine g_seq ?_ | refine at_code ?_ | refine g_skip ?_ | refine g_block ?_ | refine g_exit rfl ?_ | refine g_cond_t rfl ?_ | refine g_cond_f rfl ?_)
      refine g_cutK [(0, .slice a l.length c), (1, .slice b m.length d), (8, .slice a l.length c), (9, .int .i64 (l.length : Nat)), (10, .int .i64 (k : Nat)), (5, .int .i64 (cntB (l.take (k + 1)) m : Nat))] [] ?_ ?_
      · refine g_cond rfl (fun h2 => ?_) (fun h2 => ?_)
        · have e : ((cntB (l.take (k + 1)) m : Nat) : Int) = (cntB (l.take k) m : Nat) + 1 := by rw [cnt_succ hk', if_pos h2]; omega
          rw [e]
          repeat (first | refine g_seq ?_ | refine at_code ?_ | refine g_skip ?_ | refine g_block ?_ | refine g_exit rfl ?_ | refine g_cond_t rfl ?_ | refine g_cond_f rfl ?_)
          refine g_region ?_
          refine gl_f (s_move rfl) rfl rfl rfl ?_
          refine gl_f (s_add_i64 rfl rfl (by omega)) rfl rfl rfl ?_
          refine gl_f (s_assign rfl) rfl rfl rfl ?_
          refine gl_nil ?_
          repeat (first | refine g_seq ?_ | refine at_code ?_ | refine g_skip ?_ | refine g_block ?_ | refine g_exit rfl ?_ | refine g_cond_t rfl ?_ | refine g_cond_f rfl ?_)
          exact at_cut (by (repeat (first | exact Sub.nil _ | refine Sub.cons rfl ?_))) (fun w hw => hw)
        · have e : cntB (l.take (k + 1)) m = cntB (l.take k) m := by rw [cnt_succ hk', if_neg (by rw [h2]; simp)]; rfl
          rw [e]
          repeat (first | refine g_seq ?_ | refine at_code ?_ | refine g_skip ?_ | refine g_block ?_ | refine g_exit rfl ?_ | refine g_cond_t rfl ?_ | refine g_cond_f rfl ?_)
          exact at_cut (by (repeat (first | exact Sub.nil _ | refine Sub.cons rfl ?_))) (fun w hw => hw)
      · repeat (first | refine g_seq ?_ | refine at_code ?_ | refine g_skip ?_ | refine g_block ?_ | refine g_exit rfl ?_ | refine g_cond_t rfl ?_ | refine g_cond_f rfl ?_)
        repeat (first | refine g_seq ?_ | refine at_code ?_ | refine g_skip ?_ | refine g_block ?_ | refine g_exit rfl ?_ | refine g_cond_t rfl ?_ | refine g_cond_f rfl ?_)
        refine g_region ?_
        refine gl_f (s_add_i64 rfl rfl (by omega)) rfl rfl rfl ?_
        refine gl_f (s_move rfl) rfl rfl rfl ?_
        refine gl_nil ?_
        repeat (first | refine g_seq ?_ | refine at_code ?_ | refine g_skip ?_ | refine g_block ?_ | refine g_exit rfl ?_ | refine g_cond_t rfl ?_ | refine g_cond_f rfl ?_)
        refine at_next (k + 1) (by omega) (by omega) ?_ ?_
        · (repeat (first | exact Sub.nil _ | refine Sub.cons rfl ?_))
        · intro w hw; exact hw
    · have hkl : k = l.length := by simp at h; omega
      subst hkl
      rw [List.take_length] at *
      repeat (first | refine g_seq ?_ | refine at_code ?_ | refine g_skip ?_ | refine g_block ?_ | refine g_exit rfl ?_ | refine g_cond_t rfl ?_ | refine g_cond_f rfl ?_)
      obtain ⟨q, hq⟩ : ∃ q, q = rightB l := ⟨_, rfl⟩
      have e : mostB l m = (q && decide ((l.length : Int) < 2 * (cntB l m : Nat))) := by rw [mostB, hq]; congr 1; exact decide_eq_decide.2 (by omega)
      rw [e]
      cases q
      · repeat (first | refine g_seq ?_ | refine at_code ?_ | refine g_skip ?_ | refine g_block ?_ | refine g_exit rfl ?_ | refine g_cond_t rfl ?_ | refine g_cond_f rfl ?_)
        refine g_region ?_
        refine gl_f (s_move rfl) rfl rfl rfl ?_
        refine gl_callp rfl (Right_ct l a c (by omega)) (fun h hh _ => hrd.le hh) rfl ?_; rw [← hq]
        refine gl_f (s_move rfl) rfl rfl rfl ?_
        (first | refine gl_guard_no rfl rfl rfl rfl rfl rfl rfl ?_ | refine gl_guard_un rfl rfl rfl rfl rfl rfl ?_ | (refine gl_guard_yes rfl rfl rfl ?_; refine gl_f (s_move rfl) rfl rfl rfl ?_))
        (first | refine gl_guard_no rfl rfl rfl rfl rfl rfl rfl ?_ | refine gl_guard_un rfl rfl rfl rfl rfl rfl ?_ | (refine gl_guard_yes rfl rfl rfl ?_; refine gl_f (s_mul_i64 rfl rfl (by omega)) rfl rfl rfl ?_))
        (first | refine gl_guard_no rfl rfl rfl rfl rfl rfl rfl ?_ | refine gl_guard_un rfl rfl rfl rfl rfl rfl ?_ | (refine gl_guard_yes rfl rfl rfl ?_; refine gl_f (s_move rfl) rfl rfl rfl ?_))
        (first | refine gl_guard_no rfl rfl rfl rfl rfl rfl rfl ?_ | refine gl_guard_un rfl rfl rfl rfl rfl rfl ?_ | (refine gl_guard_yes rfl rfl rfl ?_; refine gl_f (s_len_sl rfl) rfl rfl rfl ?_))
        (first | refine gl_guard_no rfl rfl rfl rfl rfl rfl rfl ?_ | refine gl_guard_un rfl rfl rfl rfl rfl rfl ?_ | (refine gl_guard_yes rfl rfl rfl ?_; refine gl_f (s_gtr rfl rfl) rfl rfl rfl ?_))
        refine gl_f (by first | exact s_pick_t rfl rfl | exact s_pick_f rfl rfl) rfl rfl rfl ?_
        refine gl_f (s_assign rfl) rfl rfl rfl ?_
        refine gl_nil ?_
        repeat (first | refine g_seq ?_ | refine at_code ?_ | refine g_skip ?_ | refine g_block ?_ | refine g_exit rfl ?_ | refine g_cond_t rfl ?_ | refine g_cond_f rfl ?_)
        refine g_ret ?_
        exact at_end1 rfl rfl [] ⟨rfl, rfl⟩ (fun _ h => h)
      · repeat (first | refine g_seq ?_ | refine at_code ?_ | refine g_skip ?_ | refine g_block ?_ | refine g_exit rfl ?_ | refine g_cond_t rfl ?_ | refine g_cond_f rfl ?_)
        refine g_region ?_
        refine gl_f (s_move rfl) rfl rfl rfl ?_
        refine gl_callp rfl (Right_ct l a c (by omega)) (fun h hh _ => hrd.le hh) rfl ?_; rw [← hq]
        refine gl_f (s_move rfl) rfl rfl rfl ?_
        (first | refine gl_guard_no rfl rfl rfl rfl rfl rfl rfl ?_ | refine gl_guard_un rfl rfl rfl rfl rfl rfl ?_ | (refine gl_guard_yes rfl rfl rfl ?_; refine gl_f (s_move rfl) rfl rfl rfl ?_))
        (first | refine gl_guard_no rfl rfl rfl rfl rfl rfl rfl ?_ | refine gl_guard_un rfl rfl rfl rfl rfl rfl ?_ | (refine gl_guard_yes rfl rfl rfl ?_; refine gl_f (s_mul_i64 rfl rfl (by omega)) rfl rfl rfl ?_))
        (first | refine gl_guard_no rfl rfl rfl rfl rfl rfl rfl ?_ | refine gl_guard_un rfl rfl rfl rfl rfl rfl ?_ | (refine gl_guard_yes rfl rfl rfl ?_; refine gl_f (s_move rfl) rfl rfl rfl ?_))
        (first | refine gl_guard_no rfl rfl rfl rfl rfl rfl rfl ?_ | refine gl_guard_un rfl rfl rfl rfl rfl rfl ?_ | (refine gl_guard_yes rfl rfl rfl ?_; refine gl_f (s_len_sl rfl) rfl rfl rfl ?_))
        (first | refine gl_guard_no rfl rfl rfl rfl rfl rfl rfl ?_ | refine gl_guard_un rfl rfl rfl rfl rfl rfl ?_ | (refine gl_guard_yes rfl rfl rfl ?_; refine gl_f (s_gtr rfl rfl) rfl rfl rfl ?_))
        refine gl_f (by first | exact s_pick_t rfl rfl | exact s_pick_f rfl rfl) rfl rfl rfl ?_
        refine gl_f (s_assign rfl) rfl rfl rfl ?_
        refine gl_nil ?_
        repeat (first | refine g_seq ?_ | refine at_code ?_ | refine g_skip ?_ | refine g_block ?_ | refine g_exit rfl ?_ | refine g_cond_t rfl ?_ | refine g_cond_f rfl ?_)
        refine g_ret ?_
        exact at_end1 rfl rfl [] ⟨rfl, rfl⟩ (fun _ h => h)

theorem rMost_ct (l m : List Int) (a b : Option Addr) (c d : Nat) (hl : l.length ≤ 4611686018427387903) (hm : m.length ≤ 4611686018427387903) : Pu Try.prog 22 [.slice a l.length c, .slice b m.length d] (Rd2 a b l m) (.bool (mostB l m)) := by
  refine ct_enter 31 Try.func22 rfl rfl rfl ?_
  intro F hr
  have hrd := hr.1
  have hrm := hr.2
  repeat (first | refine g_seq ?_ | refine at_code ?_ | refine g_skip ?_ | refine g_block ?_ | refine g_exit rfl ?_ | refine g_cond_t rfl ?_ | refine g_cond_f rfl ?_)
  refine g_region ?_
  refine gl_f (s_assign rfl) rfl rfl rfl ?_
  refine gl_nil ?_
  repeat (first | refine g_seq ?_ | refine at_code ?_ | refine g_skip ?_ | refine g_block ?_ | refine g_exit rfl ?_ | refine g_cond_t rfl ?_ | refine g_cond_f rfl ?_)
  refine g_region ?_
  refine gl_f (s_assign rfl) rfl rfl rfl ?_
  refine gl_f (s_assign rfl) rfl rfl rfl ?_
  refine gl_nil ?_
  repeat (first | refine g_seq ?_ | refine at_code ?_ | refine g_skip ?_ | refine g_block ?_ | refine g_exit rfl ?_ | refine g_cond_t rfl ?_ | refine g_cond_f rfl ?_)
  refine g_region ?_
  refine gl_f (s_assign rfl) rfl rfl rfl ?_
  refine gl_nil ?_
  repeat (first | refine g_seq ?_ | refine at_code ?_ | refine g_skip ?_ | refine g_block ?_ | refine g_exit rfl ?_ | refine g_cond_t rfl ?_ | refine g_cond_f rfl ?_)
  refine g_loop (ι := Nat) (fun k => k ≤ l.length) (fun k => [(0, .slice a l.length c), (1, .slice b m.length d), (7, .int .i64 (k : Nat)), (5, .int .i64 (cntB (l.take k) m : Nat)), (6, .int .i64 ((k : Nat) - (cntB (l.take k) m : Nat)))]) (fun k => []) (fun k => l.length - k) 0 (by omega) ?_ ?_ ?_
  · (repeat (first | exact Sub.nil _ | refine Sub.cons rfl ?_))
  · intro w hw; exact hw
  · intro k hk
    have hcl := cnt_le (l.take k) m
    rw [List.length_take] at hcl
    repeat (first | refine g_seq ?_ | refine at_code ?_ | refine g_skip ?_ | refine g_block ?_ | refine g_exit rfl ?_ | refine g_cond_t rfl ?_ | refine g_cond_f rfl ?_)
    refine g_region ?_
    refine gl_f (s_move rfl) rfl rfl rfl ?_
    refine gl_f (s_move rfl) rfl rfl rfl ?_
    refine gl_f (s_len_sl rfl) rfl rfl rfl ?_
    refine gl_f (s_lss rfl rfl) rfl rfl rfl ?_
    refine gl_nil ?_
    repeat (first | refine g_seq ?_ | refine at_code ?_ | refine g_skip ?_ | refine g_block ?_ | refine g_exit rfl ?_ | refine g_cond_t rfl ?_ | refine g_cond_f rfl ?_)
    refine g_cond rfl (fun h => ?_) (fun h => ?_)
    · have hk' : k < l.length := by simp at h; omega
      have hsome := rdI_some hrd hk'
      repeat (first | refine g_seq ?_ | refine at_code ?_ | refine g_skip ?_ | refine g_block ?_ | refine g_exit rfl ?_ | refine g_cond_t rfl ?_ | refine g_cond_f rfl ?_)
      refine g_region ?_
      refine gl_f (s_move rfl) rfl rfl rfl ?_
      refine gl_f (s_move rfl) rfl rfl rfl ?_
      refine gl_f (s_move rfl) rfl rfl rfl ?_
      refine gl_f (s_indexAddr rfl (by assumption) rfl (by omega)) rfl rfl rfl ?_
      refine gl_r (s_load1 rfl (fun w hw => rdI hw hrd (i := k) (by omega) (by omega))) rfl rfl rfl ?_
      refine gl_callp rfl (In_ct m _ b d (by omega)) (fun h hh _ => hrm.le hh) rfl ?_
      refine gl_nil ?_
      repeat (first | refine g_seq ?_ | refine at_code ?_ | refine g_skip ?_ | refine g_block ?_ | refine g_exit rfl ?_ | refine g_cond_t rfl ?_ | refine g_cond_f rfl ?_)
      refine g_cutK [(0, .slice a l.length c), (1, .slice b m.length d), (7, .int .i64 (k : Nat)), (5, .int .i64 (cntB (l.take (k + 1)) m : Nat)), (6, .int .i64 (((k + 1 : Nat) : Int) - (cntB (l.take (k + 1)) m : Nat)))] [] ?_ ?_
      · refine g_cond rfl (fun h2 => ?_) (fun h2 => ?_)
        · have e : ((cntB (l.take (k + 1)) m : Nat) : Int) = (cntB (l.take k) m : Nat) + 1 := by rw [cnt_succ hk', if_pos h2]; omega
          have e2 : ((k + 1 : Nat) : Int) - ((cntB (l.take k) m : Nat) + 1) = (k : Nat) - (cntB (l.take k) m : Nat) := by omega
          rw [e, e2]
          repeat (first | refine g_seq ?_ | refine at_code ?_ | refine g_skip ?_ | refine g_block ?_ | refine g_exit rfl ?_ | refine g_cond_t rfl ?_ | refine g_cond_f rfl ?_)
          refine g_region ?_
          refine gl_f (s_move rfl) rfl rfl rfl ?_
          refine gl_f (s_add_i64 rfl rfl (by omega)) rfl rfl rfl ?_
          refine gl_f (s_assign rfl) rfl rfl rfl ?_
          refine gl_nil ?_
          repeat (first | refine g_seq ?_ | refine at_code ?_ | refine g_skip ?_ | refine g_block ?_ | refine g_exit rfl ?_ | refine g_cond_t rfl ?_ | refine g_cond_f rfl ?_)
          exact at_cut (by (repeat (first | exact Sub.nil _ | refine Sub.cons rfl ?_))) (fun w hw => hw)
        · have e : cntB (l.take (k + 1)) m = cntB (l.take k) m := by rw [cnt_succ hk', if_neg (by rw [h2]; simp)]; rfl
          have e2 : ((k + 1 : Nat) : Int) - (cntB (l.take k) m : Nat) = (k : Nat) - (cntB (l.take k) m : Nat) + 1 := by omega
          rw [e, e2]
          repeat (first | refine g_seq ?_ | refine at_code ?_ | refine g_skip ?_ | refine g_block ?_ | refine g_exit rfl ?_ | refine g_cond_t rfl ?_ | refine g_cond_f rfl ?_)
          refine g_region ?_
          refine gl_f (s_move rfl) rfl rfl rfl ?_
          refine gl_f (s_add_i64 rfl rfl (by omega)) rfl rfl rfl ?_
          refine gl_f (s_assign rfl) rfl rfl rfl ?_
          refine gl_nil ?_
          repeat (first | refine g_seq ?_ | refine at_code ?_ | refine g_skip ?_ | refine g_block ?_ | refine g_exit rfl ?_ | refine g_cond_t rfl ?_ | refine g_cond_f rfl ?_)
          exact at_cut (by (repeat (first | exact Sub.nil _ | refine Sub.cons rfl ?_))) (fun w hw => hw)
      · repeat (first | refine g_seq ?_ | refine at_code ?_ | refine g_skip ?_ | refine g_block ?_ | refine g_exit rfl ?_ | refine g_cond_t rfl ?_ | refine g_cond_f rfl ?_)
        repeat (first | refine g_seq ?_ | refine at_code ?_ | refine g_skip ?_ | refine g_block ?_ | refine g_exit rfl ?_ | refine g_cond_t rfl ?_ | refine g_cond_f rfl ?_)
        refine g_region ?_
        refine gl_f (s_move rfl) rfl rfl rfl ?_
        refine gl_f (s_add_i64 rfl rfl (by omega)) rfl rfl rfl ?_
        refine gl_f (s_assign rfl) rfl rfl rfl ?_
        refine gl_nil ?_
        repeat (first | refine g_seq ?_ | refine at_code ?_ | refine g_skip ?_ | refine g_block ?_ | refine g_exit rfl ?_ | refine g_cond_t rfl ?_ | refine g_cond_f rfl ?_)
        refine at_next (k + 1) (by omega) (by omega) ?_ ?_
        · (repeat (first | exact Sub.nil _ | refine Sub.cons rfl ?_))
        · intro w hw; exact hw
    · have hkl : k = l.length := by simp at h; omega
      subst hkl
      rw [List.take_length] at *
      repeat (first | refine g_seq ?_ | refine at_code ?_ | refine g_skip ?_ | refine g_block ?_ | refine g_exit rfl ?_ | refine g_cond_t rfl ?_ | refine g_cond_f rfl ?_)
      obtain ⟨q, hq⟩ : ∃ q, q = rightB l := ⟨_, rfl⟩
      have e : mostB l m = (q && decide ((l.length : Nat) - (cntB l m : Nat) < ((cntB l m : Nat) : Int))) := by rw [mostB, hq]; congr 1; exact decide_eq_decide.2 (by omega)
      rw [e]
      cases q
      · repeat (first | refine g_seq ?_ | refine at_code ?_ | refine g_skip ?_ | refine g_block ?_ | refine g_exit rfl ?_ | refine g_cond_t rfl ?_ | refine g_cond_f rfl ?_)
        refine g_region ?_
        refine gl_f (s_move rfl) rfl rfl rfl ?_
        refine gl_callp rfl (rRight_ct l a c (by omega)) (fun h hh _ => hrd.le hh) rfl ?_; rw [← hq]
        refine gl_f (s_move rfl) rfl rfl rfl ?_
        (first | refine gl_guard_no rfl rfl rfl rfl rfl rfl rfl ?_ | refine gl_guard_un rfl rfl rfl rfl rfl rfl ?_ | (refine gl_guard_yes rfl rfl rfl ?_; refine gl_f (s_move rfl) rfl rfl rfl ?_))
        (first | refine gl_guard_no rfl rfl rfl rfl rfl rfl rfl ?_ | refine gl_guard_un rfl rfl rfl rfl rfl rfl ?_ | (refine gl_guard_yes rfl rfl rfl ?_; refine gl_f (s_move rfl) rfl rfl rfl ?_))
        (first | refine gl_guard_no rfl rfl rfl rfl rfl rfl rfl ?_ | refine gl_guard_un rfl rfl rfl rfl rfl rfl ?_ | (refine gl_guard_yes rfl rfl rfl ?_; refine gl_f (s_gtr rfl rfl) rfl rfl rfl ?_))
        refine gl_f (by first | exact s_pick_t rfl rfl | exact s_pick_f rfl rfl) rfl rfl rfl ?_
        refine gl_f (s_assign rfl) rfl rfl rfl ?_
        refine gl_nil ?_
        repeat (first | refine g_seq ?_ | refine at_code ?_ | refine g_skip ?_ | refine g_block ?_ | refine g_exit rfl ?_ | refine g_cond_t rfl ?_ | refine g_cond_f rfl ?_)
        refine g_ret ?_
        exact at_end1 rfl rfl [] ⟨rfl, rfl⟩ (fun _ h => h)
      · repeat (first | refine g_seq ?_ | refine at_code ?_ | refine g_skip ?_ | refine g_block ?_ | refine g_exit rfl ?_ | refine g_cond_t rfl ?_ | refine g_cond_f rfl ?_)
        refine g_region ?_
        refine gl_f (s_move rfl) rfl rfl rfl ?_
        refine gl_callp rfl (rRight_ct l a c (by omega)) (fun h hh _ => hrd.le hh) rfl ?_; rw [← hq]
        refine gl_f (s_move rfl) rfl rfl rfl ?_
        (first | refine gl_guard_no rfl rfl rfl rfl rfl rfl rfl ?_ | refine gl_guard_un rfl rfl rfl rfl rfl rfl ?_ | (refine gl_guard_yes rfl rfl rfl ?_; refine gl_f (s_move rfl) rfl rfl rfl ?_))
        (first | refine gl_guard_no rfl rfl rfl rfl rfl rfl rfl ?_ | refine gl_guard_un rfl rfl rfl rfl rfl rfl ?_ | (refine gl_guard_yes rfl rfl rfl ?_; refine gl_f (s_move rfl) rfl rfl rfl ?_))
        (first | refine gl_guard_no rfl rfl rfl rfl rfl rfl rfl ?_ | refine gl_guard_un rfl rfl rfl rfl rfl rfl ?_ | (refine gl_guard_yes rfl rfl rfl ?_; refine gl_f (s_gtr rfl rfl) rfl rfl rfl ?_))
        refine gl_f (by first | exact s_pick_t rfl rfl | exact s_pick_f rfl rfl) rfl rfl rfl ?_
        refine gl_f (s_assign rfl) rfl rfl rfl ?_
        refine gl_nil ?_
        repeat (first | refine g_seq ?_ | refine at_code ?_ | refine g_skip ?_ | refine g_block ?_ | refine g_exit rfl ?_ | refine g_cond_t rfl ?_ | refine g_cond_f rfl ?_)
        refine g_ret ?_
        exact at_end1 rfl rfl [] ⟨rfl, rfl⟩ (fun _ h => h)

theorem Same_ct (l m : List Int) (a b : Option Addr) (c d : Nat) (hl : l.length ≤ 4611686018427387903) : Pu Try.prog 30 [.slice a l.length c, .slice b m.length d] (Rd2 a b l m) (.bool (decide (l = m))) := by
  refine ct_enter 26 Try.func30 rfl rfl rfl ?_
  intro F hr
  have hrd := hr.1
  have hrm := hr.2
  repeat (first | refine g_seq ?_ | refine at_code ?_ | refine g_skip ?_ | refine g_block ?_ | refine g_exit rfl ?_ | refine g_cond_t rfl ?_ | refine g_cond_f rfl ?_)
  refine g_region ?_
  refine gl_f (s_assign rfl) rfl rfl rfl ?_
  refine gl_nil ?_
  repeat (first | refine g_seq ?_ | refine at_code ?_ | refine g_skip ?_ | refine g_block ?_ | refine g_exit rfl ?_ | refine g_cond_t rfl ?_ | refine g_cond_f rfl ?_)
  refine g_region ?_
  refine gl_f (s_move rfl) rfl rfl rfl ?_
  refine gl_f (s_len_sl rfl) rfl rfl rfl ?_
  refine gl_f (s_move rfl) rfl rfl rfl ?_
  refine gl_f (s_len_sl rfl) rfl rfl rfl ?_
  refine gl_f (s_neq rfl rfl) rfl rfl rfl ?_
  refine gl_nil ?_
  repeat (first | refine g_seq ?_ | refine at_code ?_ | refine g_skip ?_ | refine g_block ?_ | refine g_exit rfl ?_ | refine g_cond_t rfl ?_ | refine g_cond_f rfl ?_)
  refine g_cond rfl (fun h => ?_) (fun h => ?_)
  · have hne : l ≠ m := by rintro rfl; simp at h
    rw [decide_eq_false hne]
    repeat (first | refine g_seq ?_ | refine at_code ?_ | refine g_skip ?_ | refine g_block ?_ | refine g_exit rfl ?_ | refine g_cond_t rfl ?_ | refine g_cond_f rfl ?_)
    refine g_region ?_
    refine gl_f (s_assign rfl) rfl rfl rfl ?_
    refine gl_nil ?_
    repeat (first | refine g_seq ?_ | refine at_code ?_ | refine g_skip ?_ | refine g_block ?_ | refine g_exit rfl ?_ | refine g_cond_t rfl ?_ | refine g_cond_f rfl ?_)
    refine g_ret ?_
    exact at_end1 rfl rfl [] ⟨rfl, rfl⟩ (fun _ h => h)
  · have hlen : l.length = m.length := by simp at h; omega
    repeat (first | refine g_seq ?_ | refine at_code ?_ | refine g_skip ?_ | refine g_block ?_ | refine g_exit rfl ?_ | refine g_cond_t rfl ?_ | refine g_cond_f rfl ?_)
    repeat (first | refine g_seq ?_ | refine at_code ?_ | refine g_skip ?_ | refine g_block ?_ | refine g_exit rfl ?_ | refine g_cond_t rfl ?_ | refine g_cond_f rfl ?_)
    refine g_region ?_
    refine gl_f (s_assign rfl) rfl rfl rfl ?_
    refine gl_nil ?_
    repeat (first | refine g_seq ?_ | refine at_code ?_ | refine g_skip ?_ | refine g_block ?_ | refine g_exit rfl ?_ | refine g_cond_t rfl ?_ | refine g_cond_f rfl ?_)
    refine g_loop (ι := Nat) (fun k => k ≤ l.length ∧ ∀ i, i < k → l.getD i 0 = m.getD i 0) (fun k => [(0, .slice a l.length c), (1, .slice b m.length d), (5, .int .i64 (k : Nat))]) (fun k => []) (fun k => l.length - k) 0 ⟨by omega, fun j hj => absurd hj (by omega)⟩ ?_ ?_ ?_
    · (repeat (first | exact Sub.nil _ | refine Sub.cons rfl ?_))
    · intro w hw; exact hw
    · intro k hk
      obtain ⟨hk, hok⟩ := hk
      repeat (first | refine g_seq ?_ | refine at_code ?_ | refine g_skip ?_ | refine g_block ?_ | refine g_exit rfl ?_ | refine g_cond_t rfl ?_ | refine g_cond_f rfl ?_)
      refine g_region ?_
      refine gl_f (s_move rfl) rfl rfl rfl ?_
      refine gl_f (s_move rfl) rfl rfl rfl ?_
      refine gl_f (s_len_sl rfl) rfl rfl rfl ?_
      refine gl_f (s_lss rfl rfl) rfl rfl rfl ?_
      refine gl_nil ?_
      repeat (first | refine g_seq ?_ | refine at_code ?_ | refine g_skip ?_ | refine g_block ?_ | refine g_exit rfl ?_ | refine g_cond_t rfl ?_ | refine g_cond_f rfl ?_)
      refine g_cond rfl (fun h => ?_) (fun h => ?_)
      · have hk' : k < l.length := by simp at h; omega
        have hsome := rdI_some hrd hk'
        have hsome2 := rdI_some hrm (i := k) (by omega)
        repeat (first | refine g_seq ?_ | refine at_code ?_ | refine g_skip ?_ | refine g_block ?_ | refine g_exit rfl ?_ | refine g_cond_t rfl ?_ | refine g_cond_f rfl ?_)
        refine g_draw0 [3, 7] 9 rfl ?_
        refine ga_free 0 rfl (s_move rfl) rfl rfl rfl (by kernel_rfl) ?_
        refine ga_free 1 rfl (s_move rfl) rfl rfl rfl (by kernel_rfl) ?_
        refine ga_free 2 rfl (s_indexAddr rfl (by assumption) rfl (by omega)) rfl rfl rfl (by kernel_rfl) ?_
        refine ga_readF 3 rfl (s_load1 rfl (fun w hw => rdI hw hrd (i := k) (by omega) (by omega))) (by (first | exact fun _ h => h | (repeat first | exact sub_nil | refine sub_cons (by repeat first | exact List.Mem.head _ | apply List.Mem.tail) ?_))) rfl rfl rfl (by kernel_rfl) ?_
        refine ga_free 4 rfl (s_move rfl) rfl rfl rfl (by kernel_rfl) ?_
        refine ga_free 5 rfl (s_move rfl) rfl rfl rfl (by kernel_rfl) ?_
        refine ga_free 6 rfl (s_indexAddr rfl (by assumption) rfl (by omega)) rfl rfl rfl (by kernel_rfl) ?_
        refine ga_readF 7 rfl (s_load1 rfl (fun w hw => rdI hw hrm (i := k) (by omega) (by omega))) (by (first | exact fun _ h => h | (repeat first | exact sub_nil | refine sub_cons (by repeat first | exact List.Mem.head _ | apply List.Mem.tail) ?_))) rfl rfl rfl (by kernel_rfl) ?_
        refine ga_free 8 rfl (s_neq rfl rfl) rfl rfl rfl (by kernel_rfl) ?_
        refine ga_done (by kernel_rfl) ?_
        repeat (first | refine g_seq ?_ | refine at_code ?_ | refine g_skip ?_ | refine g_block ?_ | refine g_exit rfl ?_ | refine g_cond_t rfl ?_ | refine g_cond_f rfl ?_)
        refine g_cond rfl (fun h2 => ?_) (fun h2 => ?_)
        · have hne : l ≠ m := by rintro rfl; simp at h2
          rw [decide_eq_false hne]
          repeat (first | refine g_seq ?_ | refine at_code ?_ | refine g_skip ?_ | refine g_block ?_ | refine g_exit rfl ?_ | refine g_cond_t rfl ?_ | refine g_cond_f rfl ?_)
          refine g_region ?_
          refine gl_f (s_assign rfl) rfl rfl rfl ?_
          refine gl_nil ?_
          repeat (first | refine g_seq ?_ | refine at_code ?_ | refine g_skip ?_ | refine g_block ?_ | refine g_exit rfl ?_ | refine g_cond_t rfl ?_ | refine g_cond_f rfl ?_)
          refine g_ret ?_
          exact at_end1 rfl rfl [] ⟨rfl, rfl⟩ (fun _ h => h)
        · have h3 : l.getD k 0 = m.getD k 0 := by rw [Bool.not_eq_false', decide_eq_true_eq] at h2; exact h2
          repeat (first | refine g_seq ?_ | refine at_code ?_ | refine g_skip ?_ | refine g_block ?_ | refine g_exit rfl ?_ | refine g_cond_t rfl ?_ | refine g_cond_f rfl ?_)
          repeat (first | refine g_seq ?_ | refine at_code ?_ | refine g_skip ?_ | refine g_block ?_ | refine g_exit rfl ?_ | refine g_cond_t rfl ?_ | refine g_cond_f rfl ?_)
          refine g_region ?_
          refine gl_f (s_move rfl) rfl rfl rfl ?_
          refine gl_f (s_add_i64 rfl rfl (by omega)) rfl rfl rfl ?_
          refine gl_f (s_assign rfl) rfl rfl rfl ?_
          refine gl_nil ?_
          repeat (first | refine g_seq ?_ | refine at_code ?_ | refine g_skip ?_ | refine g_block ?_ | refine g_exit rfl ?_ | refine g_cond_t rfl ?_ | refine g_cond_f rfl ?_)
          refine at_next (k + 1) ⟨by omega, fun j hj => ?_⟩ (by omega) ?_ ?_
          · rcases Nat.lt_succ_iff_lt_or_eq.1 hj with h4 | rfl
            · exact hok j h4
            · exact h3
          · (repeat (first | exact Sub.nil _ | refine Sub.cons rfl ?_))
          · intro w hw; exact hw
      · have hkl : k = l.length := by simp at h; omega
        subst hkl
        rw [decide_eq_true (same_cases hlen hok)]
        repeat (first | refine g_seq ?_ | refine at_code ?_ | refine g_skip ?_ | refine g_block ?_ | refine g_exit rfl ?_ | refine g_cond_t rfl ?_ | refine g_cond_f rfl ?_)
        repeat (first | refine g_seq ?_ | refine at_code ?_ | refine g_skip ?_ | refine g_block ?_ | refine g_exit rfl ?_ | refine g_cond_t rfl ?_ | refine g_cond_f rfl ?_)
        refine g_region ?_
        refine gl_f (s_assign rfl) rfl rfl rfl ?_
        refine gl_nil ?_
        repeat (first | refine g_seq ?_ | refine at_code ?_ | refine g_skip ?_ | refine g_block ?_ | refine g_exit rfl ?_ | refine g_cond_t rfl ?_ | refine g_cond_f rfl ?_)
        refine g_ret ?_
        exact at_end1 rfl rfl [] ⟨rfl, rfl⟩ (fun _ h => h)

/-- a list of the call's own comes back -/
def LsP (r : List Int) (v : Value) (A : List As) : Prop := ∃ a c, v = .slice a r.length c ∧ A = [.own (.slice a r.length c) 3 1 (intsV r)]
theorem With_ct (l : List Int) (n : Int) (a : Option Addr) (c : Nat) (hl : l.length ≤ 4611686018427387903) : Ct Try.prog 71 [.slice a l.length c, .int .i64 n] (fun h => RdS h a (intsV l)) [] (LsP (withL l n)) := by
  refine ct_enter 24 Try.func71 rfl rfl rfl ?_
  intro F hrd
  repeat (first | refine g_seq ?_ | refine at_code ?_ | refine g_skip ?_ | refine g_block ?_ | refine g_exit rfl ?_ | refine g_cond_t rfl ?_ | refine g_cond_f rfl ?_)
  refine g_region ?_
  refine gl_f (s_assign rfl) rfl rfl rfl ?_
  refine gl_nil ?_
  repeat (first | refine g_seq ?_ | refine at_code ?_ | refine g_skip ?_ | refine g_block ?_ | refine g_exit rfl ?_ | refine g_cond_t rfl ?_ | refine g_cond_f rfl ?_)
  refine g_region ?_
  refine gl_f (s_assign rfl) rfl rfl rfl ?_
  refine gl_nil ?_
  repeat (first | refine g_seq ?_ | refine at_code ?_ | refine g_skip ?_ | refine g_block ?_ | refine g_exit rfl ?_ | refine g_cond_t rfl ?_ | refine g_cond_f rfl ?_)
  refine g_region ?_
  refine gl_f (s_assign rfl) rfl rfl rfl ?_
  refine gl_nil ?_
  repeat (first | refine g_seq ?_ | refine at_code ?_ | refine g_skip ?_ | refine g_block ?_ | refine g_exit rfl ?_ | refine g_cond_t rfl ?_ | refine g_cond_f rfl ?_)
  refine g_own_nil 3 1 ?_
  obtain ⟨p, hp⟩ : ∃ p : Int → Bool, p = fun m => inB l m || decide (m = n) := ⟨_, rfl⟩
  have hw5 : withL l n = pick p 5 := by rw [hp]; rfl
  rw [hw5]
  refine g_loop (ι := Nat × Option Addr × Nat) (fun i => i.1 ≤ 5) (fun i => [(0, .slice a l.length c), (1, .int .i64 n), (5, .slice i.2.1 (pick p i.1).length i.2.2), (6, .int .i64 ((i.1 : Nat) + 1))]) (fun i => [.own (.slice i.2.1 (pick p i.1).length i.2.2) 3 1 (intsV (pick p i.1))]) (fun i => 5 - i.1) (0, none, 0) (by omega) ?_ ?_ ?_
  · (repeat (first | exact Sub.nil _ | refine Sub.cons rfl ?_))
  · intro w hw; exact hw
  · rintro ⟨k, b, d⟩ hk
    have hpl := pick_le p k
    simp only at hk
    repeat (first | refine g_seq ?_ | refine at_code ?_ | refine g_skip ?_ | refine g_block ?_ | refine g_exit rfl ?_ | refine g_cond_t rfl ?_ | refine g_cond_f rfl ?_)
    refine g_region ?_
    refine gl_f (s_move rfl) rfl rfl rfl ?_
    refine gl_f (s_leq rfl rfl) rfl rfl rfl ?_
    refine gl_nil ?_
    repeat (first | refine g_seq ?_ | refine at_code ?_ | refine g_skip ?_ | refine g_block ?_ | refine g_exit rfl ?_ | refine g_cond_t rfl ?_ | refine g_cond_f rfl ?_)
    refine g_cond rfl (fun h => ?_) (fun h => ?_)
    · have hk' : k < 5 := by simp at h; omega
      have hpk : p ((k : Int) + 1) = (inB l ((k : Int) + 1) || decide ((k : Int) + 1 = n)) := by rw [hp]
      repeat (first | refine g_seq ?_ | refine at_code ?_ | refine g_skip ?_ | refine g_block ?_ | refine g_exit rfl ?_ | refine g_cond_t rfl ?_ | refine g_cond_f rfl ?_)
      refine g_cutK [(0, .slice a l.length c), (1, .int .i64 n), (5, .slice b (pick p k).length d), (6, .int .i64 ((k : Nat) + 1)), (18, .bool (p ((k : Int) + 1)))] [.own (.slice b (pick p k).length d) 3 1 (intsV (pick p k))] ?_ ?_
      · rw [hpk]
        cases hq : inB l ((k : Int) + 1)
        all_goals (
          repeat (first | refine g_seq ?_ | refine at_code ?_ | refine g_skip ?_ | refine g_block ?_ | refine g_exit rfl ?_ | refine g_cond_t rfl ?_ | refine g_cond_f rfl ?_)
          refine g_region ?_
          refine gl_f (s_move rfl) rfl rfl rfl ?_
          refine gl_f (s_move rfl) rfl rfl rfl ?_
          refine gl_callp rfl (In_ct l _ a c (by omega)) (fun h hh _ => hrd.le hh) rfl ?_; rw [hq]
          refine gl_f (s_move rfl) rfl rfl rfl ?_
          (first | refine gl_guard_no rfl rfl rfl rfl rfl rfl rfl ?_ | refine gl_guard_un rfl rfl rfl rfl rfl rfl ?_ | (refine gl_guard_yes rfl rfl rfl ?_; refine gl_f (s_move rfl) rfl rfl rfl ?_))
          (first | refine gl_guard_no rfl rfl rfl rfl rfl rfl rfl ?_ | refine gl_guard_un rfl rfl rfl rfl rfl rfl ?_ | (refine gl_guard_yes rfl rfl rfl ?_; refine gl_f (s_move rfl) rfl rfl rfl ?_))
          (first | refine gl_guard_no rfl rfl rfl rfl rfl rfl rfl ?_ | refine gl_guard_un rfl rfl rfl rfl rfl rfl ?_ | (refine gl_guard_yes rfl rfl rfl ?_; refine gl_f (s_eql rfl rfl) rfl rfl rfl ?_))
          refine gl_f (by first | exact s_pick_t rfl rfl | exact s_pick_f rfl rfl) rfl rfl rfl ?_
          refine gl_nil ?_
          repeat (first | refine g_seq ?_ | refine at_code ?_ | refine g_skip ?_ | refine g_block ?_ | refine g_exit rfl ?_ | refine g_cond_t rfl ?_ | refine g_cond_f rfl ?_))
        all_goals exact at_cut (by (repeat (first | exact Sub.nil _ | refine Sub.cons rfl ?_))) (fun w hw => hw)
      · repeat (first | refine g_seq ?_ | refine at_code ?_ | refine g_skip ?_ | refine g_block ?_ | refine g_exit rfl ?_ | refine g_cond_t rfl ?_ | refine g_cond_f rfl ?_)
        refine g_cond rfl (fun h2 => ?_) (fun h2 => ?_)
        · have e : pick p (k + 1) = pick p k ++ [(k : Int) + 1] := by rw [pick_succ, if_pos h2]
          have el : (pick p (k + 1)).length = (pick p k).length + 1 := by rw [e]; simp
          repeat (first | refine g_seq ?_ | refine at_code ?_ | refine g_skip ?_ | refine g_block ?_ | refine g_exit rfl ?_ | refine g_cond_t rfl ?_ | refine g_cond_f rfl ?_)
          refine g_region ?_
          refine gl_f (s_move rfl) rfl rfl rfl ?_
          refine gl_f (s_move rfl) rfl rfl rfl ?_
          refine gl_buildSliceU rfl rfl rfl rfl rfl rfl (xs := intsV [(k : Int) + 1]) rfl rfl ?_; intro a4 ha4
          refine gl_append rfl rfl (fun a' c' => .there .here) (fun w hw => (hw.ownN (by repeat first|exact .del|apply Upd.there)).2.2.1) rfl rfl rfl (intsV_one _) (by show (_ + 1) * 8 ≤ _; omega) (by omega) rfl ?_; intro a5 c5 hc5
          refine gl_f (s_assign rfl) rfl rfl rfl ?_
          refine gl_nil ?_
          repeat (first | refine g_seq ?_ | refine at_code ?_ | refine g_skip ?_ | refine g_block ?_ | refine g_exit rfl ?_ | refine g_cond_t rfl ?_ | refine g_cond_f rfl ?_)
          repeat (first | refine g_seq ?_ | refine at_code ?_ | refine g_skip ?_ | refine g_block ?_ | refine g_exit rfl ?_ | refine g_cond_t rfl ?_ | refine g_cond_f rfl ?_)
          refine g_region ?_
          refine gl_f (s_move rfl) rfl rfl rfl ?_
          refine gl_f (s_add_i64 rfl rfl (by omega)) rfl rfl rfl ?_
          refine gl_f (s_assign rfl) rfl rfl rfl ?_
          refine gl_nil ?_
          repeat (first | refine g_seq ?_ | refine at_code ?_ | refine g_skip ?_ | refine g_block ?_ | refine g_exit rfl ?_ | refine g_cond_t rfl ?_ | refine g_cond_f rfl ?_)
          refine at_next (k + 1, a5, c5) (by simp only; omega) (by simp only; omega) ?_ ?_
          · simp only [el]
            (repeat (first | exact Sub.nil _ | refine Sub.cons rfl ?_))
          · intro w hw
            simp only [el]
            rw [e, intsV_append]
            exact hw.drop
        · have e : pick p (k + 1) = pick p k := by rw [pick_succ, if_neg (by rw [h2]; simp), List.append_nil]
          repeat (first | refine g_seq ?_ | refine at_code ?_ | refine g_skip ?_ | refine g_block ?_ | refine g_exit rfl ?_ | refine g_cond_t rfl ?_ | refine g_cond_f rfl ?_)
          repeat (first | refine g_seq ?_ | refine at_code ?_ | refine g_skip ?_ | refine g_block ?_ | refine g_exit rfl ?_ | refine g_cond_t rfl ?_ | refine g_cond_f rfl ?_)
          refine g_region ?_
          refine gl_f (s_move rfl) rfl rfl rfl ?_
          refine gl_f (s_add_i64 rfl rfl (by omega)) rfl rfl rfl ?_
          refine gl_f (s_assign rfl) rfl rfl rfl ?_
          refine gl_nil ?_
          repeat (first | refine g_seq ?_ | refine at_code ?_ | refine g_skip ?_ | refine g_block ?_ | refine g_exit rfl ?_ | refine g_cond_t rfl ?_ | refine g_cond_f rfl ?_)
          refine at_next (k + 1, b, d) (by simp only; omega) (by simp only; omega) ?_ ?_
          · simp only [e]
            (repeat (first | exact Sub.nil _ | refine Sub.cons rfl ?_))
          · intro w hw
            simp only [e]
            exact hw
    · have hkl : k = 5 := by simp at h; omega
      subst hkl
      repeat (first | refine g_seq ?_ | refine at_code ?_ | refine g_skip ?_ | refine g_block ?_ | refine g_exit rfl ?_ | refine g_cond_t rfl ?_ | refine g_cond_f rfl ?_)
      repeat (first | refine g_seq ?_ | refine at_code ?_ | refine g_skip ?_ | refine g_block ?_ | refine g_exit rfl ?_ | refine g_cond_t rfl ?_ | refine g_cond_f rfl ?_)
      refine g_region ?_
      refine gl_f (s_move rfl) rfl rfl rfl ?_
      refine gl_f (s_assign rfl) rfl rfl rfl ?_
      refine gl_nil ?_
      repeat (first | refine g_seq ?_ | refine at_code ?_ | refine g_skip ?_ | refine g_block ?_ | refine g_exit rfl ?_ | refine g_cond_t rfl ?_ | refine g_cond_f rfl ?_)
      refine g_ret ?_
      exact at_end1 rfl rfl [.own (.slice b (pick p 5).length d) 3 1 (intsV (pick p 5))] ⟨b, d, rfl, rfl⟩ (fun _ h => h)

theorem Without_ct (l : List Int) (n : Int) (a : Option Addr) (c : Nat) (hl : l.length ≤ 1000000000000) : Ct Try.prog 72 [.slice a l.length c, .int .i64 n] (fun h => RdS h a (intsV l)) [] (LsP (withoutL l n)) := by
  refine ct_enter 27 Try.func72 rfl rfl rfl ?_
  intro F hrd
  repeat (first | refine g_seq ?_ | refine at_code ?_ | refine g_skip ?_ | refine g_block ?_ | refine g_exit rfl ?_ | refine g_cond_t rfl ?_ | refine g_cond_f rfl ?_)
  refine g_region ?_
  refine gl_f (s_assign rfl) rfl rfl rfl ?_
  refine gl_nil ?_
  repeat (first | refine g_seq ?_ | refine at_code ?_ | refine g_skip ?_ | refine g_block ?_ | refine g_exit rfl ?_ | refine g_cond_t rfl ?_ | refine g_cond_f rfl ?_)
  refine g_region ?_
  refine gl_f (s_assign rfl) rfl rfl rfl ?_
  refine gl_nil ?_
  repeat (first | refine g_seq ?_ | refine at_code ?_ | refine g_skip ?_ | refine g_block ?_ | refine g_exit rfl ?_ | refine g_cond_t rfl ?_ | refine g_cond_f rfl ?_)
  refine g_region ?_
  refine gl_f (s_assign rfl) rfl rfl rfl ?_
  refine gl_nil ?_
  repeat (first | refine g_seq ?_ | refine at_code ?_ | refine g_skip ?_ | refine g_block ?_ | refine g_exit rfl ?_ | refine g_cond_t rfl ?_ | refine g_cond_f rfl ?_)
  refine g_own_nil 3 1 ?_
  refine g_loop (ι := Nat × Option Addr × Nat) (fun i => i.1 ≤ l.length) (fun i => [(0, .slice a l.length c), (1, .int .i64 n), (5, .slice i.2.1 (withoutL (l.take i.1) n).length i.2.2), (6, .int .i64 (i.1 : Nat))]) (fun i => [.own (.slice i.2.1 (withoutL (l.take i.1) n).length i.2.2) 3 1 (intsV (withoutL (l.take i.1) n))]) (fun i => l.length - i.1) (0, none, 0) (by omega) ?_ ?_ ?_
  · (repeat (first | exact Sub.nil _ | refine Sub.cons rfl ?_))
  · intro w hw; exact hw
  · rintro ⟨k, b, d⟩ hk
    have hpl := without_le (l.take k) n
    rw [List.length_take] at hpl
    simp only at hk
    have hpl' : (withoutL (List.take (k, b, d).fst l) n).length ≤ l.length := by show (withoutL (l.take k) n).length ≤ _; omega
    repeat (first | refine g_seq ?_ | refine at_code ?_ | refine g_skip ?_ | refine g_block ?_ | refine g_exit rfl ?_ | refine g_cond_t rfl ?_ | refine g_cond_f rfl ?_)
    refine g_region ?_
    refine gl_f (s_move rfl) rfl rfl rfl ?_
    refine gl_f (s_move rfl) rfl rfl rfl ?_
    refine gl_f (s_len_sl rfl) rfl rfl rfl ?_
    refine gl_f (s_lss rfl rfl) rfl rfl rfl ?_
    refine gl_nil ?_
    repeat (first | refine g_seq ?_ | refine at_code ?_ | refine g_skip ?_ | refine g_block ?_ | refine g_exit rfl ?_ | refine g_cond_t rfl ?_ | refine g_cond_f rfl ?_)
    refine g_cond rfl (fun h => ?_) (fun h => ?_)
    · have hk' : k < l.length := by simp at h; omega
      have hsome := rdI_some hrd hk'
      repeat (first | refine g_seq ?_ | refine at_code ?_ | refine g_skip ?_ | refine g_block ?_ | refine g_exit rfl ?_ | refine g_cond_t rfl ?_ | refine g_cond_f rfl ?_)
      refine g_region ?_
      refine gl_f (s_move rfl) rfl rfl rfl ?_
      refine gl_f (s_move rfl) rfl rfl rfl ?_
      refine gl_f (s_indexAddr rfl (by assumption) rfl (by omega)) rfl rfl rfl ?_
      refine gl_r (s_load1 rfl (fun w hw => rdI hw hrd (i := k) (by omega) (by omega))) rfl rfl rfl ?_
      refine gl_f (s_move rfl) rfl rfl rfl ?_
      refine gl_f (s_neq rfl rfl) rfl rfl rfl ?_
      refine gl_nil ?_
      repeat (first | refine g_seq ?_ | refine at_code ?_ | refine g_skip ?_ | refine g_block ?_ | refine g_exit rfl ?_ | refine g_cond_t rfl ?_ | refine g_cond_f rfl ?_)
      refine g_cond rfl (fun h2 => ?_) (fun h2 => ?_)
      · have h3 : ¬ l.getD k 0 = n := by rw [Bool.not_eq_true', decide_eq_false_iff_not] at h2; exact h2
        have e : withoutL (l.take (k + 1)) n = withoutL (l.take k) n ++ [l.getD k 0] := by rw [without_succ hk', if_neg h3]
        have el : (withoutL (l.take (k + 1)) n).length = (withoutL (l.take k) n).length + 1 := by rw [e]; simp
        repeat (first | refine g_seq ?_ | refine at_code ?_ | refine g_skip ?_ | refine g_block ?_ | refine g_exit rfl ?_ | refine g_cond_t rfl ?_ | refine g_cond_f rfl ?_)
        refine g_region ?_
        refine gl_f (s_move rfl) rfl rfl rfl ?_
        refine gl_f (s_move rfl) rfl rfl rfl ?_
        refine gl_f (s_move rfl) rfl rfl rfl ?_
        refine gl_f (s_indexAddr rfl (by assumption) rfl (by omega)) rfl rfl rfl ?_
        refine gl_r (s_load1 rfl (fun w hw => rdI hw hrd (i := k) (by omega) (by omega))) rfl rfl rfl ?_
        refine gl_buildSliceU rfl rfl rfl rfl rfl rfl (xs := intsV [l.getD k 0]) rfl rfl ?_; intro a4 ha4
        refine gl_append rfl rfl (fun a' c' => .there .here) (fun w hw => (hw.ownN (by repeat first|exact .del|apply Upd.there)).2.2.1) rfl rfl rfl (intsV_one _) (by show (_ + 1) * 8 ≤ _; omega) (by omega) rfl ?_; intro a5 c5 hc5
        refine gl_f (s_assign rfl) rfl rfl rfl ?_
        refine gl_nil ?_
        repeat (first | refine g_seq ?_ | refine at_code ?_ | refine g_skip ?_ | refine g_block ?_ | refine g_exit rfl ?_ | refine g_cond_t rfl ?_ | refine g_cond_f rfl ?_)
        repeat (first | refine g_seq ?_ | refine at_code ?_ | refine g_skip ?_ | refine g_block ?_ | refine g_exit rfl ?_ | refine g_cond_t rfl ?_ | refine g_cond_f rfl ?_)
        refine g_region ?_
        refine gl_f (s_move rfl) rfl rfl rfl ?_
        refine gl_f (s_add_i64 rfl rfl (by omega)) rfl rfl rfl ?_
        refine gl_f (s_assign rfl) rfl rfl rfl ?_
        refine gl_nil ?_
        repeat (first | refine g_seq ?_ | refine at_code ?_ | refine g_skip ?_ | refine g_block ?_ | refine g_exit rfl ?_ | refine g_cond_t rfl ?_ | refine g_cond_f rfl ?_)
        refine at_next (k + 1, a5, c5) (by simp only; omega) (by simp only; omega) ?_ ?_
        · simp only [el]
          (repeat (first | exact Sub.nil _ | refine Sub.cons rfl ?_))
        · intro w hw
          simp only [el]
          rw [e, intsV_append]
          exact hw.drop
      · have h3 : l.getD k 0 = n := by rw [Bool.not_eq_false', decide_eq_true_eq] at h2; exact h2
        have e : withoutL (l.take (k + 1)) n = withoutL (l.take k) n := by rw [without_succ hk', if_pos h3, List.append_nil]
        repeat (first | refine g_seq ?_ | refine at_code ?_ | refine g_skip ?_ | refine g_block ?_ | refine g_exit rfl ?_ | refine g_cond_t rfl ?_ | refine g_cond_f rfl ?_)
        repeat (first | refine g_seq ?_ | refine at_code ?_ | refine g_skip ?_ | refine g_block ?_ | refine g_exit rfl ?_ | refine g_cond_t rfl ?_ | refine g_cond_f rfl ?_)
        refine g_region ?_
        refine gl_f (s_move rfl) rfl rfl rfl ?_
        refine gl_f (s_add_i64 rfl rfl (by omega)) rfl rfl rfl ?_
        refine gl_f (s_assign rfl) rfl rfl rfl ?_
        refine gl_nil ?_
        repeat (first | refine g_seq ?_ | refine at_code ?_ | refine g_skip ?_ | refine g_block ?_ | refine g_exit rfl ?_ | refine g_cond_t rfl ?_ | refine g_cond_f rfl ?_)
        refine at_next (k + 1, b, d) (by simp only; omega) (by simp only; omega) ?_ ?_
        · simp only [e]
          (repeat (first | exact Sub.nil _ | refine Sub.cons rfl ?_))
        · intro w hw
          simp only [e]
          exact hw
    · have hkl : k = l.length := by simp at h; omega
      subst hkl
      simp only [List.take_length]
      repeat (first | refine g_seq ?_ | refine at_code ?_ | refine g_skip ?_ | refine g_block ?_ | refine g_exit rfl ?_ | refine g_cond_t rfl ?_ | refine g_cond_f rfl ?_)
      repeat (first | refine g_seq ?_ | refine at_code ?_ | refine g_skip ?_ | refine g_block ?_ | refine g_exit rfl ?_ | refine g_cond_t rfl ?_ | refine g_cond_f rfl ?_)
      refine g_region ?_
      refine gl_f (s_move rfl) rfl rfl rfl ?_
      refine gl_f (s_assign rfl) rfl rfl rfl ?_
      refine gl_nil ?_
      repeat (first | refine g_seq ?_ | refine at_code ?_ | refine g_skip ?_ | refine g_block ?_ | refine g_exit rfl ?_ | refine g_cond_t rfl ?_ | refine g_cond_f rfl ?_)
      refine g_ret ?_
      exact at_end1 rfl rfl [.own (.slice b (withoutL l n).length d) 3 1 (intsV (withoutL l n))] ⟨b, d, rfl, rfl⟩ (fun _ h => h)
end Go.Proofs.Ytodcghipfolejaa
