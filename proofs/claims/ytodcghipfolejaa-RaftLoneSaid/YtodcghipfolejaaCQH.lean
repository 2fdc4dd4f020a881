/- The walks of the heap of indices. -/
import Derived.Test.YtodcghipfolejaaCIn
import Derived.Test.YtodcghipfolejaaCQMathH
namespace Go.Proofs.Ytodcghipfolejaa
open Go Go.Sl
set_option linter.unusedVariables false
set_option linter.unusedSimpArgs false

theorem rdU_some {h : Heap} {a : Option Addr} {l : List Int} {i : Nat} (r : RdS h a (u64V l)) (hi : i < l.length) : ∃ ad, a = some ad := by
  obtain ⟨ad, e, _⟩ := r (by intro e; have := congrArg List.length e; rw [u64V_length] at this; simp at this; subst this; simp at hi)
  exact ⟨ad, e⟩
theorem u64V_get {l : List Int} {q i : Nat} (h : q = i) (hi : i < l.length) : ∀ j u, [Value.int .u64 (l.getD i 0)][j]? = some u → (u64V l)[q + j]? = some u := fun j u hu => by
  match j, hu with
  | 0, hu =>
    simp at hu; subst hu h
    simp [u64V, hi]
theorem rdU {F : Snap} {w : World} {H : List As} {a : Option Addr} {l : List Int} (hw : Hp F w H) (r : RdS F.heap a (u64V l)) {q i : Nat} (h : q = i) (hi : i < l.length) : PeekC (hp w) (addO a q) [.int .u64 (l.getD i 0)] :=
  peek_rd hw r (by simp) (u64V_get h hi)
theorem rdU_own {F : Snap} {w : World} {H H' : List As} {ys : List As} {a : Option Addr} {n c : Nat} {te : TypeId} {l : List Int} (hw : Hp F w H) (u : Upd H (.own (.slice a n c) te 1 (u64V l)) ys H') {q i : Nat} (h : q = i) (hi : i < l.length) : PeekC (hp w) (addO a q) [.int .u64 (l.getD i 0)] :=
  peek_own hw u (by simp) (u64V_get h hi)

theorem Len_ct (a : Option Addr) (n c : Nat) : Pu Try.prog 160 [.slice a n c] (fun _ => True) (.int .i64 (n : Nat)) := by
  refine ct_enter 5 Try.func160 rfl rfl rfl ?_
  intro F _
  repeat (first | refine g_seq ?_ | refine at_code ?_ | refine g_skip ?_ | refine g_block ?_ | refine g_exit rfl ?_ | refine g_cond_t rfl ?_ | refine g_cond_f rfl ?_)
  refine g_region ?_
  refine gl_f (s_assign rfl) rfl rfl rfl ?_
  refine gl_nil ?_
  repeat (first | refine g_seq ?_ | refine at_code ?_ | refine g_skip ?_ | refine g_block ?_ | refine g_exit rfl ?_ | refine g_cond_t rfl ?_ | refine g_cond_f rfl ?_)
  refine g_region ?_
  refine gl_f (s_move rfl) rfl rfl rfl ?_
  refine gl_f (s_len_sl rfl) rfl rfl rfl ?_
  refine gl_f (s_assign rfl) rfl rfl rfl ?_
  refine gl_nil ?_
  repeat (first | refine g_seq ?_ | refine at_code ?_ | refine g_skip ?_ | refine g_block ?_ | refine g_exit rfl ?_ | refine g_cond_t rfl ?_ | refine g_cond_f rfl ?_)
  refine g_ret ?_
  exact at_end1 rfl rfl [] ⟨rfl, rfl⟩ (fun _ h => h)
theorem Less_ct (xs : List Int) (i j : Nat) (x y : Int) (hx : x = i) (hy : y = j) (a : Option Addr) (c : Nat) (hi : i < xs.length) (hj : j < xs.length) : Pu Try.prog 161 [.slice a xs.length c, .int .i64 x, .int .i64 y] (fun h => RdS h a (u64V xs)) (.bool (decide (xs.getD j 0 < xs.getD i 0))) := by
  subst hx hy
  refine ct_enter 16 Try.func161 rfl rfl rfl ?_
  intro F hrd
  have hsome := rdU_some hrd hi
  repeat (first | refine g_seq ?_ | refine at_code ?_ | refine g_skip ?_ | refine g_block ?_ | refine g_exit rfl ?_ | refine g_cond_t rfl ?_ | refine g_cond_f rfl ?_)
  refine g_region ?_
  refine gl_f (s_assign rfl) rfl rfl rfl ?_
  refine gl_nil ?_
  repeat (first | refine g_seq ?_ | refine at_code ?_ | refine g_skip ?_ | refine g_block ?_ | refine g_exit rfl ?_ | refine g_cond_t rfl ?_ | refine g_cond_f rfl ?_)
  repeat (first | refine g_seq ?_ | refine at_code ?_ | refine g_skip ?_ | refine g_block ?_ | refine g_exit rfl ?_ | refine g_cond_t rfl ?_ | refine g_cond_f rfl ?_)
  refine g_draw0 ([3, 7], [0, 0, 3, 7, 0, 0, 48, 112, 255, 511], []) 10 rfl ?_
  refine ga_free 0 rfl (s_move rfl) rfl rfl rfl (by kernel_rfl) ?_
  refine ga_free 1 rfl (s_move rfl) rfl rfl rfl (by kernel_rfl) ?_
  refine ga_free 2 rfl (s_indexAddr rfl (by assumption) rfl (by omega)) rfl rfl rfl (by kernel_rfl) ?_
  refine ga_readF 3 rfl (s_load1 rfl (fun w hw => rdU hw hrd (i := i) (by omega) (by omega))) (by (first | exact fun _ h => h | (repeat first | exact sub_nil | refine sub_cons (by repeat first | exact List.Mem.head _ | apply List.Mem.tail) ?_))) rfl rfl rfl (by kernel_rfl) ?_
  refine ga_free 4 rfl (s_move rfl) rfl rfl rfl (by kernel_rfl) ?_
  refine ga_free 5 rfl (s_move rfl) rfl rfl rfl (by kernel_rfl) ?_
  refine ga_free 6 rfl (s_indexAddr rfl (by assumption) rfl (by omega)) rfl rfl rfl (by kernel_rfl) ?_
  refine ga_readF 7 rfl (s_load1 rfl (fun w hw => rdU hw hrd (i := j) (by omega) (by omega))) (by (first | exact fun _ h => h | (repeat first | exact sub_nil | refine sub_cons (by repeat first | exact List.Mem.head _ | apply List.Mem.tail) ?_))) rfl rfl rfl (by kernel_rfl) ?_
  refine ga_free 8 rfl (s_gtr rfl rfl) rfl rfl rfl (by kernel_rfl) ?_
  refine ga_free 9 rfl (s_assign rfl) rfl rfl rfl (by kernel_rfl) ?_
  refine ga_done (by kernel_rfl) ?_
  repeat (first | refine g_seq ?_ | refine at_code ?_ | refine g_skip ?_ | refine g_block ?_ | refine g_exit rfl ?_ | refine g_cond_t rfl ?_ | refine g_cond_f rfl ?_)
  refine g_ret ?_
  exact at_end1 rfl rfl [] ⟨rfl, rfl⟩ (fun _ h => h)
def HU64 (a : Option Addr) (c : Nat) (xs : List Int) : As := .own (.slice a xs.length c) 27 1 (u64V xs)
theorem Swap_ct (xs : List Int) (i j : Nat) (x y : Int) (hx : x = i) (hy : y = j) (a : Option Addr) (c : Nat) (hi : i < xs.length) (hj : j < xs.length) : Ct Try.prog 162 [.slice a xs.length c, .int .i64 x, .int .i64 y] (fun _ => True) [HU64 a c xs] (fun v A => v = .tuple #[] ∧ A = [HU64 a c (swp xs i j)]) := by
  subst hx hy
  refine ct_enter 20 Try.func162 rfl rfl rfl ?_
  intro F _
  unfold HU64
  refine g_ownN .del (fun _ _ hs => ?_)
  have hsome := hs (by omega)
  repeat (first | refine g_seq ?_ | refine at_code ?_ | refine g_skip ?_ | refine g_block ?_ | refine g_exit rfl ?_ | refine g_cond_t rfl ?_ | refine g_cond_f rfl ?_)
  refine g_draw0 ([7, 11], [0, 0, 0, 0, 0, 0, 48, 112, 0, 0, 768, 1792, 4083, 8179, 16383, 32767], [13, 15]) 16 rfl ?_
  refine ga_free 0 rfl (s_move rfl) rfl rfl rfl (by kernel_rfl) ?_
  refine ga_free 1 rfl (s_move rfl) rfl rfl rfl (by kernel_rfl) ?_
  refine ga_free 2 rfl (s_move rfl) rfl rfl rfl (by kernel_rfl) ?_
  refine ga_free 3 rfl (s_move rfl) rfl rfl rfl (by kernel_rfl) ?_
  refine ga_free 4 rfl (s_move rfl) rfl rfl rfl (by kernel_rfl) ?_
  refine ga_free 5 rfl (s_move rfl) rfl rfl rfl (by kernel_rfl) ?_
  refine ga_free 6 rfl (s_indexAddr rfl (by assumption) rfl (by omega)) rfl rfl rfl (by kernel_rfl) ?_
  refine ga_read 7 rfl (by repeat first|exact .del|apply Upd.there) (s_load1 rfl (fun w hw => rdU_own hw .del (i := j) (by omega) (by omega))) rfl rfl rfl (by kernel_rfl) ?_
  refine ga_free 8 rfl (s_move rfl) rfl rfl rfl (by kernel_rfl) ?_
  refine ga_free 9 rfl (s_move rfl) rfl rfl rfl (by kernel_rfl) ?_
  refine ga_free 10 rfl (s_indexAddr rfl (by assumption) rfl (by omega)) rfl rfl rfl (by kernel_rfl) ?_
  refine ga_read 11 rfl (by repeat first|exact .del|apply Upd.there) (s_load1 rfl (fun w hw => rdU_own hw .del (i := i) (by omega) (by omega))) rfl rfl rfl (by kernel_rfl) ?_
  refine ga_free 12 rfl (s_indexAddr rfl (by assumption) rfl (by omega)) rfl rfl rfl (by kernel_rfl) ?_
  refine ga_one 13 rfl (by kernel_rfl) ?_
  refine gl_store_own rfl rfl (by repeat first|exact .here|apply Upd.there) (by rfl) (by decide) (by (intro q hq; simp [Value.cells] at hq; first | (subst hq; rfl) | (rcases hq with rfl | rfl | rfl | rfl | rfl | rfl | rfl | rfl <;> rfl) | (rcases hq with rfl | rfl | rfl | rfl | rfl | rfl | rfl | rfl | rfl | rfl | rfl | rfl | rfl | rfl | rfl | rfl | rfl | rfl | rfl | rfl <;> rfl))) (by rw [u64V_length]; omega) ?_
  refine gl_nil ?_
  refine at_ga (.inl (by kernel_rfl)) ?_
  refine ga_free 14 rfl (s_indexAddr rfl (by assumption) rfl (by omega)) rfl rfl rfl (by kernel_rfl) ?_
  refine ga_one 15 rfl (by kernel_rfl) ?_
  refine gl_store_own rfl rfl (by repeat first|exact .here|apply Upd.there) (by rfl) (by decide) (by (intro q hq; simp [Value.cells] at hq; first | (subst hq; rfl) | (rcases hq with rfl | rfl | rfl | rfl | rfl | rfl | rfl | rfl <;> rfl) | (rcases hq with rfl | rfl | rfl | rfl | rfl | rfl | rfl | rfl | rfl | rfl | rfl | rfl | rfl | rfl | rfl | rfl | rfl | rfl | rfl | rfl <;> rfl))) (by simp only [putx, List.length_append, List.length_take, List.length_drop, u64V_length, Value.cells, List.length_cons, List.length_nil, Array.toList, List.toList_toArray]; omega) ?_
  refine gl_nil ?_
  refine at_ga (.inl (by kernel_rfl)) ?_
  refine ga_done (by kernel_rfl) ?_
  repeat (first | refine g_seq ?_ | refine at_code ?_ | refine g_skip ?_ | refine g_block ?_ | refine g_exit rfl ?_ | refine g_cond_t rfl ?_ | refine g_cond_f rfl ?_)
  refine at_end0 rfl [HU64 a c (swp xs i j)] ⟨rfl, rfl⟩ (fun w hw => ?_)
  have e1 : (i : Int).toNat * 1 = i := by omega
  have e2 : (j : Int).toNat * 1 = j := by omega
  rw [e1, e2] at hw
  have e3 : putx (putx (u64V xs) i [.int .u64 (xs.getD j 0)]) j [.int .u64 (xs.getD i 0)] = u64V (swp xs i j) := by
    rw [putx_set (xs := u64V xs) (q := i) (by rw [u64V_length]; exact hi), putx_set (by rw [List.length_set, u64V_length]; exact hj), u64V_set, u64V_set, swp]
  unfold HU64
  rw [← e3, swp_length]
  exact hw
end Go.Proofs.Ytodcghipfolejaa
