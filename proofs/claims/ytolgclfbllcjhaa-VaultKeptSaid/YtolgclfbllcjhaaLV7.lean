/- The vault's program: Keep, and the texts' digests. -/
import Derived.Test.YtolgclfbllcjhaaLV5
namespace Go.Proofs.Ytolgclfbllcjhaa.Vt
open Go Go.Sl
set_option linter.unusedVariables false
set_option linter.unusedSimpArgs false

theorem same_ct (s sum : Bs) (g : Nat) : Pu Try.prog 73 [B s, Ptr g] (fun h => h g = some (.cells #[B sum] 9)) (.bool (decide (s = sum))) := by
  refine ct_enter 7 Try.func73 rfl rfl rfl ?_
  intro F hg
  repeat (first | refine g_seq ?_ | refine at_code ?_ | refine g_skip ?_ | refine g_block ?_ | refine g_exit rfl ?_ | refine g_cond_t rfl ?_ | refine g_cond_f rfl ?_)
  refine g_region ?_
  refine gl_f (s_assign rfl) rfl rfl rfl ?_
  refine gl_nil ?_
  repeat (first | refine g_seq ?_ | refine at_code ?_ | refine g_skip ?_ | refine g_block ?_ | refine g_exit rfl ?_ | refine g_cond_t rfl ?_ | refine g_cond_f rfl ?_)
  refine g_region ?_
  refine gl_f (s_move rfl) rfl rfl rfl ?_
  refine gl_r (by first | exact s_load_blk rfl (by repeat first|exact .del|apply Upd.there) (by rfl) | exact s_load1 rfl (fun w hw => peekB hw (by assumption) (by rfl))) rfl rfl rfl ?_
  refine gl_f (s_eql_str rfl rfl) rfl rfl rfl ?_
  refine gl_f (s_assign rfl) rfl rfl rfl ?_
  refine gl_nil ?_
  repeat (first | refine g_seq ?_ | refine at_code ?_ | refine g_skip ?_ | refine g_block ?_ | refine g_exit rfl ?_ | refine g_cond_t rfl ?_ | refine g_cond_f rfl ?_)
  refine g_ret ?_
  exact at_end1 rfl rfl [] ⟨rfl, rfl⟩ (fun _ h => h)
def IxP (l : List Bs) (sum : Bs) (v : Value) (A : List As) : Prop := ∃ q : Int, v = .int .i64 q ∧ A = [] ∧ (0 ≤ q ↔ sum ∈ l)
set_option maxRecDepth 8000 in
set_option maxHeartbeats 1000000 in
theorem Index_ct (l : List Bs) (a : Option Addr) (c : Nat) (sum : Bs) (g : Nat) (hl : l.length ≤ 1000000000000) : Ct Try.prog 89 [.slice a l.length c, .func (.func 73) #[] #[Ptr g]] (fun h => RdS h a (stV l) ∧ h g = some (.cells #[B sum] 9)) [] (IxP l sum) := by
  refine ct_enter 19 Try.func89 rfl rfl rfl ?_
  intro F hF
  have hrd := hF.1
  have hg := hF.2
  repeat (first | refine g_seq ?_ | refine at_code ?_ | refine g_skip ?_ | refine g_block ?_ | refine g_exit rfl ?_ | refine g_cond_t rfl ?_ | refine g_cond_f rfl ?_)
  refine g_region ?_
  refine gl_f (s_assign rfl) rfl rfl rfl ?_
  refine gl_nil ?_
  repeat (first | refine g_seq ?_ | refine at_code ?_ | refine g_skip ?_ | refine g_block ?_ | refine g_exit rfl ?_ | refine g_cond_t rfl ?_ | refine g_cond_f rfl ?_)
  refine g_region ?_
  refine gl_f (s_move rfl) rfl rfl rfl ?_
  refine gl_f (s_len_sl rfl) rfl rfl rfl ?_
  refine gl_f (s_move rfl) rfl rfl rfl ?_
  refine gl_nil ?_
  repeat (first | refine g_seq ?_ | refine at_code ?_ | refine g_skip ?_ | refine g_block ?_ | refine g_exit rfl ?_ | refine g_cond_t rfl ?_ | refine g_cond_f rfl ?_)
  refine g_loop (ι := Nat) (fun i => i ≤ l.length ∧ ∀ j, j < i → l.getD j [] ≠ sum) (fun i => [(0, .slice a l.length c), (1, .func (.func 73) #[] #[Ptr g]), (7, .int .i64 (l.length : Nat)), (8, .int .i64 (i : Nat))]) (fun i => []) (fun i => l.length - i) 0 ⟨Nat.zero_le _, fun j hj => absurd hj (Nat.not_lt_zero j)⟩ ?_ ?_ ?_
  · (repeat (first | exact Sub.nil _ | refine Sub.cons rfl ?_))
  · intro w hw; exact hw
  rintro i ⟨hi, hno⟩
  repeat (first | refine g_seq ?_ | refine at_code ?_ | refine g_skip ?_ | refine g_block ?_ | refine g_exit rfl ?_ | refine g_cond_t rfl ?_ | refine g_cond_f rfl ?_)
  refine g_region ?_
  refine gl_f (s_lss rfl rfl) rfl rfl rfl ?_
  refine gl_nil ?_
  repeat (first | refine g_seq ?_ | refine at_code ?_ | refine g_skip ?_ | refine g_block ?_ | refine g_exit rfl ?_ | refine g_cond_t rfl ?_ | refine g_cond_f rfl ?_)
  refine g_cond rfl (fun h => ?_) (fun h => ?_)
  rotate_left
  · have hil : i = l.length := by simp at h; omega
    have hnm : ¬ sum ∈ l := fun hm => by
      obtain ⟨j, hj, e⟩ := List.getElem_of_mem hm
      exact hno j (by omega) (by rw [List.getD_eq_getElem?_getD, List.getElem?_eq_getElem hj]; exact e)
    repeat (first | refine g_seq ?_ | refine at_code ?_ | refine g_skip ?_ | refine g_block ?_ | refine g_exit rfl ?_ | refine g_cond_t rfl ?_ | refine g_cond_f rfl ?_)
    repeat (first | refine g_seq ?_ | refine at_code ?_ | refine g_skip ?_ | refine g_block ?_ | refine g_exit rfl ?_ | refine g_cond_t rfl ?_ | refine g_cond_f rfl ?_)
    refine g_region ?_
    refine gl_f (s_assign rfl) rfl rfl rfl ?_
    refine gl_nil ?_
    repeat (first | refine g_seq ?_ | refine at_code ?_ | refine g_skip ?_ | refine g_block ?_ | refine g_exit rfl ?_ | refine g_cond_t rfl ?_ | refine g_cond_f rfl ?_)
    refine g_ret ?_
    exact at_end1 rfl rfl [] ⟨-1, rfl, rfl, by constructor; intro h; omega; intro h; exact absurd h hnm⟩ (fun _ h => h)
  have hil : i < l.length := by simp at h; omega
  have hsome := rdT_some hrd hil
  obtain ⟨s, hs⟩ : ∃ s, s = l.getD i [] := ⟨_, rfl⟩
  have hri : ∀ {w : World} {H : List As}, Hp F w H → PeekC (hp w) (addO a (((i : Nat) : Int).toNat * 1)) [B s] := fun hw => by rw [hs]; exact rdT hw hrd (i := i) (by omega) hil
  obtain ⟨q, hq⟩ : ∃ q, q = decide (s = sum) := ⟨_, rfl⟩
  repeat (first | refine g_seq ?_ | refine at_code ?_ | refine g_skip ?_ | refine g_block ?_ | refine g_exit rfl ?_ | refine g_cond_t rfl ?_ | refine g_cond_f rfl ?_)
  repeat (first | refine g_seq ?_ | refine at_code ?_ | refine g_skip ?_ | refine g_block ?_ | refine g_exit rfl ?_ | refine g_cond_t rfl ?_ | refine g_cond_f rfl ?_)
  refine g_region ?_
  refine gl_f (s_move rfl) rfl rfl rfl ?_
  refine gl_f (s_assign rfl) rfl rfl rfl ?_
  refine gl_nil ?_
  repeat (first | refine g_seq ?_ | refine at_code ?_ | refine g_skip ?_ | refine g_block ?_ | refine g_exit rfl ?_ | refine g_cond_t rfl ?_ | refine g_cond_f rfl ?_)
  repeat (first | refine g_seq ?_ | refine at_code ?_ | refine g_skip ?_ | refine g_block ?_ | refine g_exit rfl ?_ | refine g_cond_t rfl ?_ | refine g_cond_f rfl ?_)
  refine g_region ?_
  refine gl_f (s_move rfl) rfl rfl rfl ?_
  refine gl_f (s_move rfl) rfl rfl rfl ?_
  refine gl_f (s_move rfl) rfl rfl rfl ?_
  refine gl_f (s_indexAddr rfl (by assumption) rfl (by omega)) rfl rfl rfl ?_
  refine gl_r (s_load1 (v := B s) rfl (fun w hw => hri hw)) rfl rfl rfl ?_
  refine gl_callv _ rfl rfl (ps := []) (qs := [Ptr g]) rfl (same_ct s sum g) (fun w hw => hw) (fun h hh _ => hh _ _ hg) rfl ?_; rw [← hq]; rintro v A ⟨rfl, rfl⟩
  refine gl_nil ?_
  repeat (first | refine g_seq ?_ | refine at_code ?_ | refine g_skip ?_ | refine g_block ?_ | refine g_exit rfl ?_ | refine g_cond_t rfl ?_ | refine g_cond_f rfl ?_)
  cases q
  · repeat (first | refine g_seq ?_ | refine at_code ?_ | refine g_skip ?_ | refine g_block ?_ | refine g_exit rfl ?_ | refine g_cond_t rfl ?_ | refine g_cond_f rfl ?_)
    refine g_region ?_
    refine gl_f (s_add_i64 rfl rfl (by omega)) rfl rfl rfl ?_
    refine gl_f (s_move rfl) rfl rfl rfl ?_
    refine gl_nil ?_
    repeat (first | refine g_seq ?_ | refine at_code ?_ | refine g_skip ?_ | refine g_block ?_ | refine g_exit rfl ?_ | refine g_cond_t rfl ?_ | refine g_cond_f rfl ?_)
    refine at_next (i + 1) ⟨by omega, fun j hj => ?_⟩ (by omega) ?_ ?_
    · rcases Nat.lt_succ_iff_lt_or_eq.1 hj with h4 | rfl
      · exact hno j h4
      · rw [← hs]; exact of_decide_eq_false hq.symm
    · (repeat (first | exact Sub.nil _ | refine Sub.cons rfl ?_))
    · intro w hw; exact hw
  · have hm : sum ∈ l := by
      have := of_decide_eq_true hq.symm
      rw [← this, hs, List.getD_eq_getElem?_getD, List.getElem?_eq_getElem hil]; exact List.getElem_mem hil
    repeat (first | refine g_seq ?_ | refine at_code ?_ | refine g_skip ?_ | refine g_block ?_ | refine g_exit rfl ?_ | refine g_cond_t rfl ?_ | refine g_cond_f rfl ?_)
    refine g_region ?_
    refine gl_f (s_move rfl) rfl rfl rfl ?_
    refine gl_f (s_assign rfl) rfl rfl rfl ?_
    refine gl_nil ?_
    repeat (first | refine g_seq ?_ | refine at_code ?_ | refine g_skip ?_ | refine g_block ?_ | refine g_exit rfl ?_ | refine g_cond_t rfl ?_ | refine g_cond_f rfl ?_)
    refine g_ret ?_
    exact at_end1 rfl rfl [] ⟨(i : Nat), rfl, rfl, by constructor; intro h; exact hm; intro h; omega⟩ (fun _ h => h)
theorem Contains_ct (l : List Bs) (a : Option Addr) (c : Nat) (sum : Bs) (g : Nat) (hl : l.length ≤ 1000000000000) : Pu Try.prog 72 [.slice a l.length c, .func (.func 73) #[] #[Ptr g]] (fun h => RdS h a (stV l) ∧ h g = some (.cells #[B sum] 9)) (.bool (decide (sum ∈ l))) := by
  refine ct_enter 9 Try.func72 rfl rfl rfl ?_
  intro F hF
  repeat (first | refine g_seq ?_ | refine at_code ?_ | refine g_skip ?_ | refine g_block ?_ | refine g_exit rfl ?_ | refine g_cond_t rfl ?_ | refine g_cond_f rfl ?_)
  refine g_region ?_
  refine gl_f (s_assign rfl) rfl rfl rfl ?_
  refine gl_nil ?_
  repeat (first | refine g_seq ?_ | refine at_code ?_ | refine g_skip ?_ | refine g_block ?_ | refine g_exit rfl ?_ | refine g_cond_t rfl ?_ | refine g_cond_f rfl ?_)
  refine g_region ?_
  refine gl_f (s_move rfl) rfl rfl rfl ?_
  refine gl_f (s_move rfl) rfl rfl rfl ?_
  refine gl_call _ rfl (Index_ct l a c sum g hl) (fun w hw => hw) (fun h hh _ => ⟨hF.1.le hh, hh _ _ hF.2⟩) rfl ?_; rintro v A ⟨q, rfl, rfl, hq⟩
  refine gl_f ((s_geq rfl rfl).eq (v' := .bool (decide (sum ∈ l))) (congrArg Value.bool (decide_eq_decide.2 hq))) rfl rfl rfl ?_
  refine gl_f (s_assign rfl) rfl rfl rfl ?_
  refine gl_nil ?_
  repeat (first | refine g_seq ?_ | refine at_code ?_ | refine g_skip ?_ | refine g_block ?_ | refine g_exit rfl ?_ | refine g_cond_t rfl ?_ | refine g_cond_f rfl ?_)
  refine g_ret ?_
  exact at_end1 rfl rfl [] ⟨rfl, rfl⟩ (fun _ h => h)
end Go.Proofs.Ytolgclfbllcjhaa.Vt
