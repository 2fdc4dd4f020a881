/- The vault's laws: sums, few, long. -/
import Derived.Test.YtolgclfbllcjhaaLV9
namespace Go.Proofs.Ytolgclfbllcjhaa.Vt
open Go Go.Sl
set_option linter.unusedVariables false
set_option linter.unusedSimpArgs false

theorem stV_map (l : List Bs) : l.map B = stV l := by
  induction l with
  | nil => rfl
  | cons s r ih => rw [List.map_cons, ih]; rfl
theorem stV_append (a b : List Bs) : stV (a ++ b) = stV a ++ stV b := List.flatMap_append
theorem stV_len (l : List Bs) : (stV l).length = l.length * 1 := rec_length (C := stC) stC_len l
theorem stV_one (l : List Bs) : ∀ q ∈ stV l, q.oneCell' = true := rec_one (C := stC) (fun x q hq => by simp at hq; subst hq; rfl) l
def SmP (l : List Bs) (v : Value) (A : List As) : Prop := ∃ a c, v = .slice a l.length c ∧ A = [OwnB a (l.map Dg.sha) c]
theorem sha_take {l : List Bs} {k : Nat} (hk : k < l.length) : (l.take (k + 1)).map Dg.sha = (l.take k).map Dg.sha ++ [Dg.sha (l.getD k [])] := by
  rw [List.take_succ_eq_append_getElem hk, List.map_append]; simp [hk]
set_option maxRecDepth 8000 in
set_option maxHeartbeats 1000000 in
theorem sums_ct (l : List Bs) (a : Option Addr) (c : Nat) (hl : l.length ≤ 1000000000000) (hs : ∀ s ∈ l, s.length ≤ 1000000000000000) : Ct Try.prog 42 [.slice a l.length c] (fun h => RdS h a (stV l)) [] (SmP l) := by
  refine ct_enter 20 Try.func42 rfl rfl rfl ?_
  intro F hrd
  repeat (first | refine g_seq ?_ | refine at_code ?_ | refine g_skip ?_ | refine g_block ?_ | refine g_exit rfl ?_ | refine g_cond_t rfl ?_ | refine g_cond_f rfl ?_)
  refine g_region ?_
  refine gl_f (s_assign rfl) rfl rfl rfl ?_
  refine gl_nil ?_
  repeat (first | refine g_seq ?_ | refine at_code ?_ | refine g_skip ?_ | refine g_block ?_ | refine g_exit rfl ?_ | refine g_cond_t rfl ?_ | refine g_cond_f rfl ?_)
  refine g_region ?_
  refine gl_f (s_assign rfl) rfl rfl rfl ?_
  refine gl_nil ?_
  repeat (first | refine g_seq ?_ | refine at_code ?_ | refine g_skip ?_ | refine g_block ?_ | refine g_exit rfl ?_ | refine g_cond_t rfl ?_ | refine g_cond_f rfl ?_)
  refine g_region ?_
  refine gl_f (s_assign rfl) rfl rfl rfl ?_
  refine gl_nil ?_
  repeat (first | refine g_seq ?_ | refine at_code ?_ | refine g_skip ?_ | refine g_block ?_ | refine g_exit rfl ?_ | refine g_cond_t rfl ?_ | refine g_cond_f rfl ?_)
  refine g_own_nil 9 1 ?_
  refine g_loop (ι := Nat × Option Addr × Nat) (fun i => i.1 ≤ l.length) (fun i => [(0, .slice a l.length c), (3, .slice i.2.1 ((l.take i.1).map Dg.sha).length i.2.2), (4, .int .i64 (i.1 : Nat))]) (fun i => [OwnB i.2.1 ((l.take i.1).map Dg.sha) i.2.2]) (fun i => l.length - i.1) (0, none, 0) (Nat.zero_le _) ?_ ?_ ?_
  · (repeat (first | exact Sub.nil _ | refine Sub.cons rfl ?_))
  · intro w hw; exact hw
  rintro ⟨k, b, d⟩ hk
  simp only at hk
  have hlen : (((l.take ((k, b, d) : Nat × Option Addr × Nat).1).map Dg.sha).length) ≤ l.length := by rw [List.length_map, List.length_take]; omega
  have hk' : ((k, b, d) : Nat × Option Addr × Nat).1 ≤ l.length := hk
  repeat (first | refine g_seq ?_ | refine at_code ?_ | refine g_skip ?_ | refine g_block ?_ | refine g_exit rfl ?_ | refine g_cond_t rfl ?_ | refine g_cond_f rfl ?_)
  refine g_region ?_
  refine gl_f (s_move rfl) rfl rfl rfl ?_
  refine gl_f (s_move rfl) rfl rfl rfl ?_
  refine gl_f (s_len_sl rfl) rfl rfl rfl ?_
  refine gl_f (s_lss rfl rfl) rfl rfl rfl ?_
  refine gl_nil ?_
  repeat (first | refine g_seq ?_ | refine at_code ?_ | refine g_skip ?_ | refine g_block ?_ | refine g_exit rfl ?_ | refine g_cond_t rfl ?_ | refine g_cond_f rfl ?_)
  refine g_cond rfl (fun h => ?_) (fun h => ?_)
  rotate_left
  · have hkl : k = l.length := by simp at h; omega
    subst hkl
    repeat (first | refine g_seq ?_ | refine at_code ?_ | refine g_skip ?_ | refine g_block ?_ | refine g_exit rfl ?_ | refine g_cond_t rfl ?_ | refine g_cond_f rfl ?_)
    repeat (first | refine g_seq ?_ | refine at_code ?_ | refine g_skip ?_ | refine g_block ?_ | refine g_exit rfl ?_ | refine g_cond_t rfl ?_ | refine g_cond_f rfl ?_)
    refine g_region ?_
    refine gl_f (s_move rfl) rfl rfl rfl ?_
    refine gl_f (s_assign rfl) rfl rfl rfl ?_
    refine gl_nil ?_
    repeat (first | refine g_seq ?_ | refine at_code ?_ | refine g_skip ?_ | refine g_block ?_ | refine g_exit rfl ?_ | refine g_cond_t rfl ?_ | refine g_cond_f rfl ?_)
    refine g_ret ?_
    exact at_end1 rfl rfl [OwnB b (l.map Dg.sha) d] ⟨b, d, by simp, rfl⟩ (fun w hw => by simpa using hw)
  have hkl : k < l.length := by simp at h; omega
  have hsome := rdT_some hrd hkl
  obtain ⟨s, hse⟩ : ∃ s, s = l.getD k [] := ⟨_, rfl⟩
  have hsl : s.length ≤ 1000000000000000 := by rw [hse, List.getD_eq_getElem?_getD, List.getElem?_eq_getElem hkl]; exact hs _ (List.getElem_mem hkl)
  have hri : ∀ {w : World} {H : List As}, Hp F w H → PeekC (hp w) (addO a (((k : Nat) : Int).toNat * 1)) [B s] := fun hw => by rw [hse]; exact rdT hw hrd (i := k) (by omega) hkl
  have hex := sha_take hkl
  rw [← hse] at hex
  repeat (first | refine g_seq ?_ | refine at_code ?_ | refine g_skip ?_ | refine g_block ?_ | refine g_exit rfl ?_ | refine g_cond_t rfl ?_ | refine g_cond_f rfl ?_)
  repeat (first | refine g_seq ?_ | refine at_code ?_ | refine g_skip ?_ | refine g_block ?_ | refine g_exit rfl ?_ | refine g_cond_t rfl ?_ | refine g_cond_f rfl ?_)
  refine g_region ?_
  refine gl_f (s_move rfl) rfl rfl rfl ?_
  refine gl_f (s_move rfl) rfl rfl rfl ?_
  refine gl_f (s_move rfl) rfl rfl rfl ?_
  refine gl_f (s_indexAddr rfl (by assumption) rfl (by omega)) rfl rfl rfl ?_
  refine gl_r (s_load1 (v := B s) rfl (fun w hw => hri hw)) rfl rfl rfl ?_
  refine gl_callp rfl (Dg.Sum_ct s (by omega)) (fun _ _ _ => trivial) rfl ?_
  refine gl_buildSliceU rfl rfl rfl rfl rfl rfl (xs := [B (Dg.sha s)]) rfl rfl ?_; intro a7 ha7
  refine gl_append rfl rfl (fun a' c' => .there .here) (fun w hw => (hw.ownN (by repeat first|exact .del|apply Upd.there)).2.2.1) rfl rfl rfl (by (intro q hq; simp [Value.cells] at hq; first | (subst hq; rfl) | (rcases hq with rfl | rfl | rfl | rfl | rfl | rfl | rfl | rfl <;> rfl) | (rcases hq with rfl | rfl | rfl | rfl | rfl | rfl | rfl <;> rfl) | (rcases hq with rfl | rfl | rfl | rfl | rfl | rfl <;> rfl) | (rcases hq with rfl | rfl | rfl | rfl | rfl <;> rfl) | (rcases hq with rfl | rfl | rfl | rfl <;> rfl) | (rcases hq with rfl | rfl | rfl <;> rfl) | (rcases hq with rfl | rfl <;> rfl))) (by show (_ + 1) * 16 ≤ _; omega) (by omega) rfl ?_; intro a8 c8 hc8
  refine gl_f (s_assign rfl) rfl rfl rfl ?_
  refine gl_nil ?_
  repeat (first | refine g_seq ?_ | refine at_code ?_ | refine g_skip ?_ | refine g_block ?_ | refine g_exit rfl ?_ | refine g_cond_t rfl ?_ | refine g_cond_f rfl ?_)
  repeat (first | refine g_seq ?_ | refine at_code ?_ | refine g_skip ?_ | refine g_block ?_ | refine g_exit rfl ?_ | refine g_cond_t rfl ?_ | refine g_cond_f rfl ?_)
  refine g_region ?_
  refine gl_f (s_move rfl) rfl rfl rfl ?_
  refine gl_f (s_add_i64 rfl rfl (by omega)) rfl rfl rfl ?_
  refine gl_f (s_assign rfl) rfl rfl rfl ?_
  refine gl_nil ?_
  repeat (first | refine g_seq ?_ | refine at_code ?_ | refine g_skip ?_ | refine g_block ?_ | refine g_exit rfl ?_ | refine g_cond_t rfl ?_ | refine g_cond_f rfl ?_)
  refine at_next (k + 1, a8, c8) (by simp only; omega) (by simp only; omega) ?_ ?_
  · simp only [hex, List.length_append, List.length_singleton]
    (repeat (first | exact Sub.nil _ | refine Sub.cons rfl ?_))
  · intro w hw
    simp only [hex]
    rw [← own_snocB rfl]
    exact hw.drop
theorem few_ct (n : Int) : Pu Try.prog 70 [.int .i64 n] (fun _ => True) (.int .i64 (min n 1048576)) := by
  refine ct_enter 5 Try.func70 rfl rfl rfl ?_
  intro F _
  repeat (first | refine g_seq ?_ | refine at_code ?_ | refine g_skip ?_ | refine g_block ?_ | refine g_exit rfl ?_ | refine g_cond_t rfl ?_ | refine g_cond_f rfl ?_)
  refine g_region ?_
  refine gl_f (s_assign rfl) rfl rfl rfl ?_
  refine gl_nil ?_
  repeat (first | refine g_seq ?_ | refine at_code ?_ | refine g_skip ?_ | refine g_block ?_ | refine g_exit rfl ?_ | refine g_cond_t rfl ?_ | refine g_cond_f rfl ?_)
  refine g_region ?_
  refine gl_f (s_move rfl) rfl rfl rfl ?_
  refine gl_f (s_min2 rfl rfl) rfl rfl rfl ?_
  refine gl_f (s_assign rfl) rfl rfl rfl ?_
  refine gl_nil ?_
  repeat (first | refine g_seq ?_ | refine at_code ?_ | refine g_skip ?_ | refine g_block ?_ | refine g_exit rfl ?_ | refine g_cond_t rfl ?_ | refine g_cond_f rfl ?_)
  refine g_ret ?_
  exact at_end1 rfl rfl [] ⟨rfl, rfl⟩ (fun _ h => h)
def fewZ (s : Bs) : Int := min (s.length : Nat) 1048576
def fewL (l : List Bs) : Int := (l.map fewZ).sum
def longZ (l : List Bs) : Int := if 40 < l.length then 1073741824 else (l.length : Nat) + fewL l
theorem few_take {l : List Bs} {k : Nat} (hk : k < l.length) : fewL (l.take (k + 1)) = fewL (l.take k) + fewZ (l.getD k []) := by
  rw [fewL, fewL, List.take_succ_eq_append_getElem hk, List.map_append, List.sum_append]; simp [hk]
theorem few_pos (s : Bs) : 0 ≤ fewZ s ∧ fewZ s ≤ 1048576 := by unfold fewZ; omega
theorem fewL_le : ∀ l : List Bs, 0 ≤ fewL l ∧ fewL l ≤ l.length * 1048576
  | [] => by simp [fewL]
  | s :: r => by
    have h1 := fewL_le r
    have h2 := few_pos s
    have e : fewL (s :: r) = fewZ s + fewL r := by simp [fewL]
    rw [e, List.length_cons]; omega
theorem few_le : ∀ {l : List Bs}, fewL l ≤ 32768 → (sumL l : Int) = fewL l ∧ ∀ s ∈ l, s.length ≤ 32768
  | [], _ => ⟨by simp [sumL, fewL], fun s hs => by cases hs⟩
  | s :: r, h => by
    have h1 := fewL_le r
    have h2 := few_pos s
    have e : fewL (s :: r) = fewZ s + fewL r := by simp [fewL]
    have e2 : sumL (s :: r) = s.length + sumL r := by simp [sumL]
    rw [e] at h
    obtain ⟨h3, h4⟩ := few_le (l := r) (by omega)
    have h5 : s.length ≤ 32768 := by unfold fewZ at h h2; omega
    refine ⟨by rw [e, e2]; unfold fewZ; omega, fun t ht => ?_⟩
    rcases List.mem_cons.1 ht with rfl | ht
    · exact h5
    · exact h4 t ht
theorem long_le {l : List Bs} (h : longZ l ≤ 32768) : l.length ≤ 40 ∧ l.length + sumL l ≤ 32768 ∧ ∀ s ∈ l, s.length ≤ 32768 := by
  unfold longZ at h
  split at h
  · omega
  · have h1 := fewL_le l
    obtain ⟨h3, h4⟩ := few_le (l := l) (by omega)
    exact ⟨by omega, by omega, h4⟩
set_option maxRecDepth 8000 in
set_option maxHeartbeats 1000000 in
theorem long_ct (l : List Bs) (a : Option Addr) (c : Nat) : Pu Try.prog 39 [.slice a l.length c] (fun h => RdS h a (stV l)) (.int .i64 (longZ l)) := by
  refine ct_enter 25 Try.func39 rfl rfl rfl ?_
  intro F hrd
  obtain ⟨q, hq⟩ : ∃ q, q = decide ((40 : Int) < (l.length : Nat)) := ⟨_, rfl⟩
  repeat (first | refine g_seq ?_ | refine at_code ?_ | refine g_skip ?_ | refine g_block ?_ | refine g_exit rfl ?_ | refine g_cond_t rfl ?_ | refine g_cond_f rfl ?_)
  refine g_region ?_
  refine gl_f (s_assign rfl) rfl rfl rfl ?_
  refine gl_nil ?_
  repeat (first | refine g_seq ?_ | refine at_code ?_ | refine g_skip ?_ | refine g_block ?_ | refine g_exit rfl ?_ | refine g_cond_t rfl ?_ | refine g_cond_f rfl ?_)
  refine g_region ?_
  refine gl_f (s_move rfl) rfl rfl rfl ?_
  refine gl_f (s_len_sl rfl) rfl rfl rfl ?_
  refine gl_f ((s_gtr rfl rfl).eq (congrArg Value.bool hq.symm)) rfl rfl rfl ?_
  refine gl_nil ?_
  repeat (first | refine g_seq ?_ | refine at_code ?_ | refine g_skip ?_ | refine g_block ?_ | refine g_exit rfl ?_ | refine g_cond_t rfl ?_ | refine g_cond_f rfl ?_)
  cases q
  rotate_left
  · have e : longZ l = 1073741824 := by rw [longZ, if_pos (by have := of_decide_eq_true hq.symm; omega)]
    rw [e]
    repeat (first | refine g_seq ?_ | refine at_code ?_ | refine g_skip ?_ | refine g_block ?_ | refine g_exit rfl ?_ | refine g_cond_t rfl ?_ | refine g_cond_f rfl ?_)
    repeat (first | refine g_seq ?_ | refine at_code ?_ | refine g_skip ?_ | refine g_block ?_ | refine g_exit rfl ?_ | refine g_cond_t rfl ?_ | refine g_cond_f rfl ?_)
    refine g_region ?_
    refine gl_f (s_assign rfl) rfl rfl rfl ?_
    refine gl_nil ?_
    repeat (first | refine g_seq ?_ | refine at_code ?_ | refine g_skip ?_ | refine g_block ?_ | refine g_exit rfl ?_ | refine g_cond_t rfl ?_ | refine g_cond_f rfl ?_)
    refine g_ret ?_
    exact at_end1 rfl rfl [] ⟨rfl, rfl⟩ (fun _ h => h)
  have hl : l.length ≤ 40 := by have := of_decide_eq_false hq.symm; omega
  have e : longZ l = (l.length : Nat) + fewL l := by rw [longZ, if_neg (by omega)]
  rw [e]
  repeat (first | refine g_seq ?_ | refine at_code ?_ | refine g_skip ?_ | refine g_block ?_ | refine g_exit rfl ?_ | refine g_cond_t rfl ?_ | refine g_cond_f rfl ?_)
  repeat (first | refine g_seq ?_ | refine at_code ?_ | refine g_skip ?_ | refine g_block ?_ | refine g_exit rfl ?_ | refine g_cond_t rfl ?_ | refine g_cond_f rfl ?_)
  refine g_region ?_
  refine gl_f (s_move rfl) rfl rfl rfl ?_
  refine gl_f (s_len_sl rfl) rfl rfl rfl ?_
  refine gl_f (s_assign rfl) rfl rfl rfl ?_
  refine gl_nil ?_
  repeat (first | refine g_seq ?_ | refine at_code ?_ | refine g_skip ?_ | refine g_block ?_ | refine g_exit rfl ?_ | refine g_cond_t rfl ?_ | refine g_cond_f rfl ?_)
  refine g_region ?_
  refine gl_f (s_assign rfl) rfl rfl rfl ?_
  refine gl_nil ?_
  repeat (first | refine g_seq ?_ | refine at_code ?_ | refine g_skip ?_ | refine g_block ?_ | refine g_exit rfl ?_ | refine g_cond_t rfl ?_ | refine g_cond_f rfl ?_)
  refine g_loop (ι := Nat) (fun k => k ≤ l.length) (fun k => [(0, .slice a l.length c), (3, .int .i64 ((l.length : Nat) + fewL (l.take k))), (4, .int .i64 (k : Nat))]) (fun k => []) (fun k => l.length - k) 0 (Nat.zero_le _) ?_ ?_ ?_
  · (repeat (first | exact Sub.nil _ | refine Sub.cons rfl ?_))
  · intro w hw; exact hw
  rintro k hk
  repeat (first | refine g_seq ?_ | refine at_code ?_ | refine g_skip ?_ | refine g_block ?_ | refine g_exit rfl ?_ | refine g_cond_t rfl ?_ | refine g_cond_f rfl ?_)
  refine g_region ?_
  refine gl_f (s_move rfl) rfl rfl rfl ?_
  refine gl_f (s_move rfl) rfl rfl rfl ?_
  refine gl_f (s_len_sl rfl) rfl rfl rfl ?_
  refine gl_f (s_lss rfl rfl) rfl rfl rfl ?_
  refine gl_nil ?_
  repeat (first | refine g_seq ?_ | refine at_code ?_ | refine g_skip ?_ | refine g_block ?_ | refine g_exit rfl ?_ | refine g_cond_t rfl ?_ | refine g_cond_f rfl ?_)
  refine g_cond rfl (fun h => ?_) (fun h => ?_)
  rotate_left
  · have hkl : k = l.length := by simp at h; omega
    subst hkl
    rw [List.take_length]
    repeat (first | refine g_seq ?_ | refine at_code ?_ | refine g_skip ?_ | refine g_block ?_ | refine g_exit rfl ?_ | refine g_cond_t rfl ?_ | refine g_cond_f rfl ?_)
    repeat (first | refine g_seq ?_ | refine at_code ?_ | refine g_skip ?_ | refine g_block ?_ | refine g_exit rfl ?_ | refine g_cond_t rfl ?_ | refine g_cond_f rfl ?_)
    refine g_region ?_
    refine gl_f (s_move rfl) rfl rfl rfl ?_
    refine gl_f (s_assign rfl) rfl rfl rfl ?_
    refine gl_nil ?_
    repeat (first | refine g_seq ?_ | refine at_code ?_ | refine g_skip ?_ | refine g_block ?_ | refine g_exit rfl ?_ | refine g_cond_t rfl ?_ | refine g_cond_f rfl ?_)
    refine g_ret ?_
    exact at_end1 rfl rfl [] ⟨rfl, rfl⟩ (fun _ h => h)
  have hkl : k < l.length := by simp at h; omega
  have hsome := rdT_some hrd hkl
  obtain ⟨s, hse⟩ : ∃ s, s = l.getD k [] := ⟨_, rfl⟩
  have hri : ∀ {w : World} {H : List As}, Hp F w H → PeekC (hp w) (addO a (((k : Nat) : Int).toNat * 1)) [B s] := fun hw => by rw [hse]; exact rdT hw hrd (i := k) (by omega) hkl
  have hex := few_take hkl
  rw [← hse] at hex
  have h1 := fewL_le (l.take k)
  have h2 := few_pos s
  have h3 : (l.take k).length ≤ 40 := by rw [List.length_take]; omega
  repeat (first | refine g_seq ?_ | refine at_code ?_ | refine g_skip ?_ | refine g_block ?_ | refine g_exit rfl ?_ | refine g_cond_t rfl ?_ | refine g_cond_f rfl ?_)
  repeat (first | refine g_seq ?_ | refine at_code ?_ | refine g_skip ?_ | refine g_block ?_ | refine g_exit rfl ?_ | refine g_cond_t rfl ?_ | refine g_cond_f rfl ?_)
  refine g_region ?_
  refine gl_f (s_move rfl) rfl rfl rfl ?_
  refine gl_f (s_move rfl) rfl rfl rfl ?_
  refine gl_f (s_move rfl) rfl rfl rfl ?_
  refine gl_f (s_indexAddr rfl (by assumption) rfl (by omega)) rfl rfl rfl ?_
  refine gl_r (s_load1 (v := B s) rfl (fun w hw => hri hw)) rfl rfl rfl ?_
  refine gl_f (s_len_str rfl) rfl rfl rfl ?_
  refine gl_callp rfl (few_ct _) (fun _ _ _ => trivial) rfl ?_; rw [show min ((s.length : Nat) : Int) 1048576 = fewZ s from rfl]
  refine gl_f (s_add_i64 rfl rfl (by omega)) rfl rfl rfl ?_
  refine gl_f (s_assign rfl) rfl rfl rfl ?_
  refine gl_nil ?_
  repeat (first | refine g_seq ?_ | refine at_code ?_ | refine g_skip ?_ | refine g_block ?_ | refine g_exit rfl ?_ | refine g_cond_t rfl ?_ | refine g_cond_f rfl ?_)
  repeat (first | refine g_seq ?_ | refine at_code ?_ | refine g_skip ?_ | refine g_block ?_ | refine g_exit rfl ?_ | refine g_cond_t rfl ?_ | refine g_cond_f rfl ?_)
  refine g_region ?_
  refine gl_f (s_move rfl) rfl rfl rfl ?_
  refine gl_f (s_add_i64 rfl rfl (by omega)) rfl rfl rfl ?_
  refine gl_f (s_assign rfl) rfl rfl rfl ?_
  refine gl_nil ?_
  repeat (first | refine g_seq ?_ | refine at_code ?_ | refine g_skip ?_ | refine g_block ?_ | refine g_exit rfl ?_ | refine g_cond_t rfl ?_ | refine g_cond_f rfl ?_)
  refine at_next (k + 1) (by omega) (by omega) ?_ ?_
  · rw [hex, ← Int.add_assoc]; (repeat (first | exact Sub.nil _ | refine Sub.cons rfl ?_))
  · intro w hw; exact hw
end Go.Proofs.Ytolgclfbllcjhaa.Vt
