/- The walks of Most, Same, With, Without. -/
import Derived.Test.YtodcghipfolejaaCQ1
namespace Go.Proofs.Ytodcghipfolejaa
open Go Go.Sl
set_option linter.unusedVariables false
set_option linter.unusedSimpArgs false

def Rd2 (a b : Option Addr) (l m : List Int) (h : Heap) : Prop := RdS h a (intsV l) ∧ RdS h b (intsV m)
theorem Most_ct (l m : List Int) (a b : Option Addr) (c d : Nat) (hl : l.length ≤ 4611686018427387903) (hm : m.length ≤ 4611686018427387903) : Pu Try.prog 21 [.slice a l.length c, .slice b m.length d] (Rd2 a b l m) (.bool (mostB l m)) := by
  refine ct_enter 29 Try.func21 rfl rfl rfl ?_
  intro F hr
  have hrd := hr.1
  have hrm := hr.2
  repeat (first | refine g_seq ?_ | refine at_code ?_ | refine g_skip ?_ | refine g_block ?_ | refine g_exit rfl ?_ | refine g_cond_t rfl ?_ | refine g_cond_f rfl ?_)
  refine g_region ?_
  refine gl_f (s_assign rfl) rfl rfl rfl ?_
  refine gl_nil ?_
  repeat (first | refine g_seq ?_ | refine at_code ?_ | refine g_skip ?_ | refine g_block ?_ | refine g_exit rfl ?_ | refine g_cond_t rfl ?_ | refine g_cond_f rfl ?_)
  refine g_region ?_
  refine gl_f (s_assign rfl) rfl rfl rfl ?_
  refine gl_nil ?_
  repeat (first | refine g_seq ?_ | refine at_code ?_ | refine g_skip ?_ | refine g_block ?_ | refine g_exit rfl ?_ | refine g_cond_t rfl ?_ | refine g_cond_f rfl ?_)
  refine g_region ?_
  refine gl_f (s_move rfl) rfl rfl rfl ?_
  refine gl_f (s_len_sl rfl) rfl rfl rfl ?_
  refine gl_f (s_move rfl) rfl rfl rfl ?_
  refine gl_nil ?_
  repeat (first | refine g_seq ?_ | refine at_code ?_ | refine g_skip ?_ | refine g_block ?_ | refine g_exit rfl ?_ | refine g_cond_t rfl ?_ | refine g_cond_f rfl ?_)
  refine g_loop (ι := Nat) (fun k => k ≤ l.length) (fun k => [(0, .slice a l.length c), (1, .slice b m.length d), (8, .slice a l.length c), (9, .int .i64 (l.length : Nat)), (10, .int .i64 (k : Nat)), (5, .int .i64 (cntB (l.take k) m : Nat))]) (fun k => []) (fun k => l.length - k) 0 (by omega) ?_ ?_ ?_
  · (repeat (first | exact Sub.nil _ | refine Sub.cons rfl ?_))
  · intro w hw; exact hw
  · intro k hk
    have hcl := cnt_le (l.take k) m
    rw [List.length_take] at hcl
    repeat (first | refine g_seq ?_ | refine at_code ?_ | refine g_skip ?_ | refine g_block ?_ | refine g_exit rfl ?_ | refine g_cond_t rfl ?_ | refine g_cond_f rfl ?_)
    refine g_region ?_
    refine gl_f (s_lss rfl rfl) rfl rfl rfl ?_
    refine gl_nil ?_
    repeat (first | refine g_seq ?_ | refine at_code ?_ | refine g_skip ?_ | refine g_block ?_ | refine g_exit rfl ?_ | refine g_cond_t rfl ?_ | refine g_cond_f rfl ?_)
    refine g_cond rfl (fun h => ?_) (fun h => ?_)
    · have hk' : k < l.length := by simp at h; omega
      have hsome := rdI_some hrd hk'
      repeat (first | refine g_seq ?_ | refine at_code ?_ | refine g_skip ?_ | refine g_block ?_ | refine g_exit rfl ?_ | refine g_cond_t rfl ?_ | refine g_cond_f rfl ?_)
      refine g_region ?_
      refine gl_f (s_indexAddr rfl (by assumption) rfl (by omega)) rfl rfl rfl ?_
      refine gl_r (s_load1 rfl (fun w hw => rdI hw hrd (i := k) (by omega) (by omega))) rfl rfl rfl ?_
      refine gl_f (s_assign rfl) rfl rfl rfl ?_
      refine gl_nil ?_
      repeat (first | refine g_seq ?_ | refine at_code ?_ | refine g_skip ?_ | refine g_block ?_ | refine g_exit rfl ?_ | refine g_cond_t rfl ?_ | refine g_cond_f rfl ?_)
      repeat (first | refine g_seq ?_ | refine at_code ?_ | refine g_skip ?_ | refine g_block ?_ | refine g_exit rfl ?_ | refine g_cond_t rfl ?_ | refine g_cond_f rfl ?_)
      refine g_region ?_
      refine gl_f (s_move rfl) rfl rfl rfl ?_
      refine gl_f (s_move rfl) rfl rfl rfl ?_
      refine gl_callp rfl (Contains_ct m _ b d (by omega)) (fun h hh _ => hrm.le hh) rfl ?_
      refine gl_nil ?_
      repeat (first | refine g_seq ?_ | refine at_code ?_ | refine g_skip ?_ | refine g_block ?_ | refine g_exit rfl ?_ | refine g_cond_t rfl ?_ | refine g_cond_f rfl ?_)
      refine g_cutK [(0, .slice a l.length c), (1, .slice b m.length d), (8, .slice a l.length c), (9, .int .i64 (l.length : Nat)), (10, .int .i64 (k : Nat)), (5, .int .i64 (cntB (l.take (k + 1)) m : Nat))] [] ?_ ?_
      · refine g_cond rfl (fun h2 => ?_) (fun h2 => ?_)
        · have e : ((cntB (l.take (k + 1)) m : Nat) : Int) = (cntB (l.take k) m : Nat) + 1 := by rw [cnt_succ hk', if_pos h2]; omega
          rw [e]
          repeat (first | refine g_seq ?_ | refine at_code ?_ | refine g_skip ?_ | refine g_block ?_ | refine g_exit rfl ?_ | refine g_cond_t rfl ?_ | refine g_cond_f rfl ?_)
          refine g_region ?_
          refine gl_f (s_move rfl) rfl rfl rfl ?_
          refine gl_f (s_add_i64 rfl rfl (by omega)) rfl rfl rfl ?_
          refine gl_f (s_assign rfl) rfl rfl rfl ?_
          refine gl_nil ?_
          repeat (first | refine g_seq ?_ | refine at_code ?_ | refine g_skip ?_ | refine g_block ?_ | refine g_exit rfl ?_ | refine g_cond_t rfl ?_ | refine g_cond_f rfl ?_)
          exact at_cut (by (repeat (first | exact Sub.nil _ | refine Sub.cons rfl ?_))) (fun w hw => hw)
        · have e : cntB (l.take (k + 1)) m = cntB (l.take k) m := by rw [cnt_succ hk', if_neg (by rw [h2]; simp)]; rfl
          rw [e]
          repeat (first | refine g_seq ?_ | refine at_code ?_ | refine g_skip ?_ | refine g_block ?_ | refine g_exit rfl ?_ | refine g_cond_t rfl ?_ | refine g_cond_f rfl ?_)
          exact at_cut (by (repeat (first | exact Sub.nil _ | refine Sub.cons rfl ?_))) (fun w hw => hw)
      · repeat (first | refine g_seq ?_ | refine at_code ?_ | refine g_skip ?_ | refine g_block ?_ | refine g_exit rfl ?_ | refine g_cond_t rfl ?_ | refine g_cond_f rfl ?_)
        repeat (first | refine g_seq ?_ | refine at_code ?_ | refine g_skip ?_ | refine g_block ?_ | refine g_exit rfl ?_ | refine g_cond_t rfl ?_ | refine g_cond_f rfl ?_)
        refine g_region ?_
        refine gl_f (s_add_i64 rfl rfl (by omega)) rfl rfl rfl ?_
        refine gl_f (s_move rfl) rfl rfl rfl ?_
        refine gl_nil ?_
        repeat (first | refine g_seq ?_ | refine at_code ?_ | refine g_skip ?_ | refine g_block ?_ | refine g_exit rfl ?_ | refine g_cond_t rfl ?_ | refine g_cond_f rfl ?_)
        refine at_next (k + 1) (by omega) (by omega) ?_ ?_
        · (repeat (first | exact Sub.nil _ | refine Sub.cons rfl ?_))
        · intro w hw; exact hw
    · have hkl : k = l.length := by simp at h; omega
      subst hkl
      rw [List.take_length] at *
      repeat (first | refine g_seq ?_ | refine at_code ?_ | refine g_skip ?_ | refine g_block ?_ | refine g_exit rfl ?_ | refine g_cond_t rfl ?_ | refine g_cond_f rfl ?_)
      obtain ⟨q, hq⟩ : ∃ q, q = rightB l := ⟨_, rfl⟩
      have e : mostB l m = (q && decide ((l.length : Int) < 2 * (cntB l m : Nat))) := by rw [mostB, hq]; congr 1; exact decide_eq_decide.2 (by omega)
      rw [e]
      cases q
      · repeat (first | refine g_seq ?_ | refine at_code ?_ | refine g_skip ?_ | refine g_block ?_ | refine g_exit rfl ?_ | refine g_cond_t rfl ?_ | refine g_cond_f rfl ?_)
        refine g_region ?_
        refine gl_f (s_move rfl) rfl rfl rfl ?_
        refine gl_callp rfl (Right_ct l a c (by omega)) (fun h hh _ => hrd.le hh) rfl ?_; rw [← hq]
        refine gl_f (s_move rfl) rfl rfl rfl ?_
        (first | refine gl_guard_no rfl rfl rfl rfl rfl rfl rfl ?_ | refine gl_guard_un rfl rfl rfl rfl rfl rfl ?_ | (refine gl_guard_yes rfl rfl rfl ?_; refine gl_f (s_move rfl) rfl rfl rfl ?_))
        (first | refine gl_guard_no rfl rfl rfl rfl rfl rfl rfl ?_ | refine gl_guard_un rfl rfl rfl rfl rfl rfl ?_ | (refine gl_guard_yes rfl rfl rfl ?_; refine gl_f (s_mul_i64 rfl rfl (by omega)) rfl rfl rfl ?_))
        (first | refine gl_guard_no rfl rfl rfl rfl rfl rfl rfl ?_ | refine gl_guard_un rfl rfl rfl rfl rfl rfl ?_ | (refine gl_guard_yes rfl rfl rfl ?_; refine gl_f (s_move rfl) rfl rfl rfl ?_))
        (first | refine gl_guard_no rfl rfl rfl rfl rfl rfl rfl ?_ | refine gl_guard_un rfl rfl rfl rfl rfl rfl ?_ | (refine gl_guard_yes rfl rfl rfl ?_; refine gl_f (s_len_sl rfl) rfl rfl rfl ?_))
        (first | refine gl_guard_no rfl rfl rfl rfl rfl rfl rfl ?_ | refine gl_guard_un rfl rfl rfl rfl rfl rfl ?_ | (refine gl_guard_yes rfl rfl rfl ?_; refine gl_f (s_gtr rfl rfl) rfl rfl rfl ?_))
        refine gl_f (by first | exact s_pick_t rfl rfl | exact s_pick_f rfl rfl) rfl rfl rfl ?_
        refine gl_f (s_assign rfl) rfl rfl rfl ?_
        refine gl_nil ?_
        repeat (first | refine g_seq ?_ | refine at_code ?_ | refine g_skip ?_ | refine g_block ?_ | refine g_exit rfl ?_ | refine g_cond_t rfl ?_ | refine g_cond_f rfl ?_)
        refine g_ret ?_
        exact at_end1 rfl rfl [] ⟨rfl, rfl⟩ (fun _ h => h)
      · repeat (first | refine g_seq ?_ | refine at_code ?_ | refine g_skip ?_ | refine g_block ?_ | refine g_exit rfl ?_ | refine g_cond_t rfl ?_ | refine g_cond_f rfl ?_)
        refine g_region ?_
        refine gl_f (s_move rfl) rfl rfl rfl ?_
        refine gl_callp rfl (Right_ct l a c (by omega)) (fun h hh _ => hrd.le hh) rfl ?_; rw [← hq]
        refine gl_f (s_move rfl) rfl rfl rfl ?_
        (first | refine gl_guard_no rfl rfl rfl rfl rfl rfl rfl ?_ | refine gl_guard_un rfl rfl rfl rfl rfl rfl ?_ | (refine gl_guard_yes rfl rfl rfl ?_; refine gl_f (s_move rfl) rfl rfl rfl ?_))
        (first | refine gl_guard_no rfl rfl rfl rfl rfl rfl rfl ?_ | refine gl_guard_un rfl rfl rfl rfl rfl rfl ?_ | (refine gl_guard_yes rfl rfl rfl ?_; refine gl_f (s_mul_i64 rfl rfl (by omega)) rfl rfl rfl ?_))
        (first | refine gl_guard_no rfl rfl rfl rfl rfl rfl rfl ?_ | refine gl_guard_un rfl rfl rfl rfl rfl rfl ?_ | (refine gl_guard_yes rfl rfl rfl ?_; refine gl_f (s_move rfl) rfl rfl rfl ?_))
        (first | refine gl_guard_no rfl rfl rfl rfl rfl rfl rfl ?_ | refine gl_guard_un rfl rfl rfl rfl rfl rfl ?_ | (refine gl_guard_yes rfl rfl rfl ?_; refine gl_f (s_len_sl rfl) rfl rfl rfl ?_))
        (first | refine gl_guard_no rfl rfl rfl rfl rfl rfl rfl ?_ | refine gl_guard_un rfl rfl rfl rfl rfl rfl ?_ | (refine gl_guard_yes rfl rfl rfl ?_; refine gl_f (s_gtr rfl rfl) rfl rfl rfl ?_))
        refine gl_f (by first | exact s_pick_t rfl rfl | exact s_pick_f rfl rfl) rfl rfl rfl ?_
        refine gl_f (s_assign rfl) rfl rfl rfl ?_
        refine gl_nil ?_
        repeat (first | refine g_seq ?_ | refine at_code ?_ | refine g_skip ?_ | refine g_block ?_ | refine g_exit rfl ?_ | refine g_cond_t rfl ?_ | refine g_cond_f rfl ?_)
        refine g_ret ?_
        exact at_end1 rfl rfl [] ⟨rfl, rfl⟩ (fun _ h => h)

theorem Same_ct (l m : List Int) (a b : Option Addr) (c d : Nat) (hl : l.length ≤ 4611686018427387903) : Pu Try.prog 30 [.slice a l.length c, .slice b m.length d] (Rd2 a b l m) (.bool (decide (l = m))) := by
  refine ct_enter 26 Try.func30 rfl rfl rfl ?_
  intro F hr
  have hrd := hr.1
  have hrm := hr.2
  repeat (first | refine g_seq ?_ | refine at_code ?_ | refine g_skip ?_ | refine g_block ?_ | refine g_exit rfl ?_ | refine g_cond_t rfl ?_ | refine g_cond_f rfl ?_)
  refine g_region ?_
  refine gl_f (s_assign rfl) rfl rfl rfl ?_
  refine gl_nil ?_
  repeat (first | refine g_seq ?_ | refine at_code ?_ | refine g_skip ?_ | refine g_block ?_ | refine g_exit rfl ?_ | refine g_cond_t rfl ?_ | refine g_cond_f rfl ?_)
  refine g_region ?_
  refine gl_f (s_move rfl) rfl rfl rfl ?_
  refine gl_f (s_len_sl rfl) rfl rfl rfl ?_
  refine gl_f (s_move rfl) rfl rfl rfl ?_
  refine gl_f (s_len_sl rfl) rfl rfl rfl ?_
  refine gl_f (s_neq rfl rfl) rfl rfl rfl ?_
  refine gl_nil ?_
  repeat (first | refine g_seq ?_ | refine at_code ?_ | refine g_skip ?_ | refine g_block ?_ | refine g_exit rfl ?_ | refine g_cond_t rfl ?_ | refine g_cond_f rfl ?_)
  refine g_cond rfl (fun h => ?_) (fun h => ?_)
  · have hne : l ≠ m := by rintro rfl; simp at h
    rw [decide_eq_false hne]
    repeat (first | refine g_seq ?_ | refine at_code ?_ | refine g_skip ?_ | refine g_block ?_ | refine g_exit rfl ?_ | refine g_cond_t rfl ?_ | refine g_cond_f rfl ?_)
    refine g_region ?_
    refine gl_f (s_assign rfl) rfl rfl rfl ?_
    refine gl_nil ?_
    repeat (first | refine g_seq ?_ | refine at_code ?_ | refine g_skip ?_ | refine g_block ?_ | refine g_exit rfl ?_ | refine g_cond_t rfl ?_ | refine g_cond_f rfl ?_)
    refine g_ret ?_
    exact at_end1 rfl rfl [] ⟨rfl, rfl⟩ (fun _ h => h)
  · have hlen : l.length = m.length := by simp at h; omega
    repeat (first | refine g_seq ?_ | refine at_code ?_ | refine g_skip ?_ | refine g_block ?_ | refine g_exit rfl ?_ | refine g_cond_t rfl ?_ | refine g_cond_f rfl ?_)
    repeat (first | refine g_seq ?_ | refine at_code ?_ | refine g_skip ?_ | refine g_block ?_ | refine g_exit rfl ?_ | refine g_cond_t rfl ?_ | refine g_cond_f rfl ?_)
    refine g_region ?_
    refine gl_f (s_assign rfl) rfl rfl rfl ?_
    refine gl_nil ?_
    repeat (first | refine g_seq ?_ | refine at_code ?_ | refine g_skip ?_ | refine g_block ?_ | refine g_exit rfl ?_ | refine g_cond_t rfl ?_ | refine g_cond_f rfl ?_)
    refine g_loop (ι := Nat) (fun k => k ≤ l.length ∧ ∀ i, i < k → l.getD i 0 = m.getD i 0) (fun k => [(0, .slice a l.length c), (1, .slice b m.length d), (5, .int .i64 (k : Nat))]) (fun k => []) (fun k => l.length - k) 0 ⟨by omega, fun j hj => absurd hj (by omega)⟩ ?_ ?_ ?_
    · (repeat (first | exact Sub.nil _ | refine Sub.cons rfl ?_))
    · intro w hw; exact hw
    · intro k hk
      obtain ⟨hk, hok⟩ := hk
      repeat (first | refine g_seq ?_ | refine at_code ?_ | refine g_skip ?_ | refine g_block ?_ | refine g_exit rfl ?_ | refine g_cond_t rfl ?_ | refine g_cond_f rfl ?_)
      refine g_region ?_
      refine gl_f (s_move rfl) rfl rfl rfl ?_
      refine gl_f (s_move rfl) rfl rfl rfl ?_
      refine gl_f (s_len_sl rfl) rfl rfl rfl ?_
      refine gl_f (s_lss rfl rfl) rfl rfl rfl ?_
      refine gl_nil ?_
      repeat (first | refine g_seq ?_ | refine at_code ?_ | refine g_skip ?_ | refine g_block ?_ | refine g_exit rfl ?_ | refine g_cond_t rfl ?_ | refine g_cond_f rfl ?_)
      refine g_cond rfl (fun h => ?_) (fun h => ?_)
      · have hk' : k < l.length := by simp at h; omega
        have hsome := rdI_some hrd hk'
        have hsome2 := rdI_some hrm (i := k) (by omega)
        repeat (first | refine g_seq ?_ | refine at_code ?_ | refine g_skip ?_ | refine g_block ?_ | refine g_exit rfl ?_ | refine g_cond_t rfl ?_ | refine g_cond_f rfl ?_)
        refine g_draw0 ([3, 7], [0, 0, 3, 7, 0, 0, 48, 112, 255], []) 9 rfl ?_
        refine ga_free 0 rfl (s_move rfl) rfl rfl rfl (by kernel_rfl) ?_
        refine ga_free 1 rfl (s_move rfl) rfl rfl rfl (by kernel_rfl) ?_
        refine ga_free 2 rfl (s_indexAddr rfl (by assumption) rfl (by omega)) rfl rfl rfl (by kernel_rfl) ?_
        refine ga_readF 3 rfl (s_load1 rfl (fun w hw => rdI hw hrd (i := k) (by omega) (by omega))) (by (first | exact fun _ h => h | (repeat first | exact sub_nil | refine sub_cons (by repeat first | exact List.Mem.head _ | apply List.Mem.tail) ?_))) rfl rfl rfl (by kernel_rfl) ?_
        refine ga_free 4 rfl (s_move rfl) rfl rfl rfl (by kernel_rfl) ?_
        refine ga_free 5 rfl (s_move rfl) rfl rfl rfl (by kernel_rfl) ?_
        refine ga_free 6 rfl (s_indexAddr rfl (by assumption) rfl (by omega)) rfl rfl rfl (by kernel_rfl) ?_
        refine ga_readF 7 rfl (s_load1 rfl (fun w hw => rdI hw hrm (i := k) (by omega) (by omega))) (by (first | exact fun _ h => h | (repeat first | exact sub_nil | refine sub_cons (by repeat first | exact List.Mem.head _ | apply List.Mem.tail) ?_))) rfl rfl rfl (by kernel_rfl) ?_
        refine ga_free 8 rfl (s_neq rfl rfl) rfl rfl rfl (by kernel_rfl) ?_
        refine ga_done (by kernel_rfl) ?_
        repeat (first | refine g_seq ?_ | refine at_code ?_ | refine g_skip ?_ | refine g_block ?_ | refine g_exit rfl ?_ | refine g_cond_t rfl ?_ | refine g_cond_f rfl ?_)
        refine g_cond rfl (fun h2 => ?_) (fun h2 => ?_)
        · have hne : l ≠ m := by rintro rfl; simp at h2
          rw [decide_eq_false hne]
          repeat (first | refine g_seq ?_ | refine at_code ?_ | refine g_skip ?_ | refine g_block ?_ | refine g_exit rfl ?_ | refine g_cond_t rfl ?_ | refine g_cond_f rfl ?_)
          refine g_region ?_
          refine gl_f (s_assign rfl) rfl rfl rfl ?_
          refine gl_nil ?_
          repeat (first | refine g_seq ?_ | refine at_code ?_ | refine g_skip ?_ | refine g_block ?_ | refine g_exit rfl ?_ | refine g_cond_t rfl ?_ | refine g_cond_f rfl ?_)
          refine g_ret ?_
          exact at_end1 rfl rfl [] ⟨rfl, rfl⟩ (fun _ h => h)
        · have h3 : l.getD k 0 = m.getD k 0 := by rw [Bool.not_eq_false', decide_eq_true_eq] at h2; exact h2
          repeat (first | refine g_seq ?_ | refine at_code ?_ | refine g_skip ?_ | refine g_block ?_ | refine g_exit rfl ?_ | refine g_cond_t rfl ?_ | refine g_cond_f rfl ?_)
          repeat (first | refine g_seq ?_ | refine at_code ?_ | refine g_skip ?_ | refine g_block ?_ | refine g_exit rfl ?_ | refine g_cond_t rfl ?_ | refine g_cond_f rfl ?_)
          refine g_region ?_
          refine gl_f (s_move rfl) rfl rfl rfl ?_
          refine gl_f (s_add_i64 rfl rfl (by omega)) rfl rfl rfl ?_
          refine gl_f (s_assign rfl) rfl rfl rfl ?_
          refine gl_nil ?_
          repeat (first | refine g_seq ?_ | refine at_code ?_ | refine g_skip ?_ | refine g_block ?_ | refine g_exit rfl ?_ | refine g_cond_t rfl ?_ | refine g_cond_f rfl ?_)
          refine at_next (k + 1) ⟨by omega, fun j hj => ?_⟩ (by omega) ?_ ?_
          · rcases Nat.lt_succ_iff_lt_or_eq.1 hj with h4 | rfl
            · exact hok j h4
            · exact h3
          · (repeat (first | exact Sub.nil _ | refine Sub.cons rfl ?_))
          · intro w hw; exact hw
      · have hkl : k = l.length := by simp at h; omega
        subst hkl
        rw [decide_eq_true (same_cases hlen hok)]
        repeat (first | refine g_seq ?_ | refine at_code ?_ | refine g_skip ?_ | refine g_block ?_ | refine g_exit rfl ?_ | refine g_cond_t rfl ?_ | refine g_cond_f rfl ?_)
        repeat (first | refine g_seq ?_ | refine at_code ?_ | refine g_skip ?_ | refine g_block ?_ | refine g_exit rfl ?_ | refine g_cond_t rfl ?_ | refine g_cond_f rfl ?_)
        refine g_region ?_
        refine gl_f (s_assign rfl) rfl rfl rfl ?_
        refine gl_nil ?_
        repeat (first | refine g_seq ?_ | refine at_code ?_ | refine g_skip ?_ | refine g_block ?_ | refine g_exit rfl ?_ | refine g_cond_t rfl ?_ | refine g_cond_f rfl ?_)
        refine g_ret ?_
        exact at_end1 rfl rfl [] ⟨rfl, rfl⟩ (fun _ h => h)

/-- a list of the call's own comes back -/
def LsP (r : List Int) (v : Value) (A : List As) : Prop := ∃ a c, v = .slice a r.length c ∧ A = [.own (.slice a r.length c) 3 1 (intsV r)]
end Go.Proofs.Ytodcghipfolejaa
