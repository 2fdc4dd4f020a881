/- The reference's disk: files by name. -/
import Derived.Test.YtolgclfbllcjhaaLDRep
namespace Go.Proofs.Ytolgclfbllcjhaa
open Go Go.Sl
set_option linter.unusedVariables false
set_option linter.unusedSimpArgs false

section
variable {F : Snap} {w : World} {H H' : List As} {a : Option Addr} {l : List Fl} {n c : Nat} {te : TypeId} {q i : Nat}
theorem rdF0 (hw : Hp F w H) (r : RdS F.heap a (flV l)) (h : q = 2 * i) (hi : i < l.length) : PeekC (hp w) (addO a q) [B (l.getD i F0).1] := rec_rd1 (C := flC) (j := 0) (r.le hw.keep) flC_len F0 h hi rfl
theorem rdF1 (hw : Hp F w H) (r : RdS F.heap a (flV l)) (h : q = 2 * i + 1) (hi : i < l.length) : PeekC (hp w) (addO a q) [B (l.getD i F0).2] := rec_rd1 (C := flC) (r.le hw.keep) flC_len F0 h hi rfl
end
theorem rdF_some {h : Heap} {a : Option Addr} {l : List Fl} {i : Nat} (r : RdS h a (flV l)) (hi : i < l.length) : ∃ ad, a = some ad := rec_some (C := flC) r flC_len (by decide) hi
theorem getL_no {l : List Fl} {n : Bs} {k : Nat} (hk : k < l.length) (h : ∀ j, j < k → (l.getD j F0).1 ≠ n) (h1 : (l.getD k F0).1 = n) : getL l n = some (l.getD k F0).2 := by
  induction l generalizing k with
  | nil => simp at hk
  | cons x r ih =>
    cases k with
    | zero => simp at h1; simp [getL, h1]
    | succ k =>
      have h0 := h 0 (by omega)
      simp at h0
      have := ih (by simpa using hk) (fun j hj => by have := h (j + 1) (by omega); simpa using this) (by simpa using h1)
      rw [getL] at this ⊢
      rw [List.find?_cons_of_neg (by simpa using h0)]
      simpa using this
theorem getL_none' {l : List Fl} {n : Bs} (h : ∀ j, j < l.length → (l.getD j F0).1 ≠ n) : getL l n = none := by
  rw [getL, Option.map_eq_none_iff, List.find?_eq_none]
  intro f hf
  obtain ⟨i, hi, rfl⟩ := List.getElem_of_mem hf
  have := h i hi
  simpa [hi] using this
/-- Get -/
theorem Get_ct (l : List Fl) (n : Bs) (a : Option Addr) (c : Nat) (hl : l.length ≤ 1000000000000) : Pu Try.prog 80 [.slice a l.length c, B n] (fun h => RdS h a (flV l)) (.tuple #[B ((getL l n).getD []), .bool (getL l n).isSome]) := by
  refine ct_enter 25 Try.func80 rfl rfl rfl ?_
  intro F hrd
  repeat (first | refine g_seq ?_ | refine at_code ?_ | refine g_skip ?_ | refine g_block ?_ | refine g_exit rfl ?_ | refine g_cond_t rfl ?_ | refine g_cond_f rfl ?_)
  refine g_region ?_
  refine gl_f (s_assign rfl) rfl rfl rfl ?_
  refine gl_f (s_assign rfl) rfl rfl rfl ?_
  refine gl_nil ?_
  repeat (first | refine g_seq ?_ | refine at_code ?_ | refine g_skip ?_ | refine g_block ?_ | refine g_exit rfl ?_ | refine g_cond_t rfl ?_ | refine g_cond_f rfl ?_)
  refine g_region ?_
  refine gl_f (s_assign rfl) rfl rfl rfl ?_
  refine gl_nil ?_
  repeat (first | refine g_seq ?_ | refine at_code ?_ | refine g_skip ?_ | refine g_block ?_ | refine g_exit rfl ?_ | refine g_cond_t rfl ?_ | refine g_cond_f rfl ?_)
  refine g_loop (ι := Nat) (fun k => k ≤ l.length ∧ ∀ j, j < k → (l.getD j F0).1 ≠ n) (fun k => [(0, .slice a l.length c), (1, B n), (6, .int .i64 (k : Nat))]) (fun _ => []) (fun k => l.length - k) 0 ⟨by omega, fun j hj => absurd hj (by omega)⟩ ?_ ?_ ?_
  · (repeat (first | exact Sub.nil _ | refine Sub.cons rfl ?_))
  · intro w hw; exact hw
  · rintro k ⟨hk, hno⟩
    repeat (first | refine g_seq ?_ | refine at_code ?_ | refine g_skip ?_ | refine g_block ?_ | refine g_exit rfl ?_ | refine g_cond_t rfl ?_ | refine g_cond_f rfl ?_)
    refine g_region ?_
    refine gl_f (s_move rfl) rfl rfl rfl ?_
    refine gl_f (s_move rfl) rfl rfl rfl ?_
    refine gl_f (s_len_sl rfl) rfl rfl rfl ?_
    refine gl_f (s_lss rfl rfl) rfl rfl rfl ?_
    refine gl_nil ?_
    repeat (first | refine g_seq ?_ | refine at_code ?_ | refine g_skip ?_ | refine g_block ?_ | refine g_exit rfl ?_ | refine g_cond_t rfl ?_ | refine g_cond_f rfl ?_)
    refine g_cond rfl (fun h => ?_) (fun h => ?_)
    · have hk' : k < l.length := by simp at h; omega
      have hsome := rdF_some hrd hk'
      repeat (first | refine g_seq ?_ | refine at_code ?_ | refine g_skip ?_ | refine g_block ?_ | refine g_exit rfl ?_ | refine g_cond_t rfl ?_ | refine g_cond_f rfl ?_)
      refine g_region ?_
      refine gl_f (s_move rfl) rfl rfl rfl ?_
      refine gl_f (s_move rfl) rfl rfl rfl ?_
      refine gl_f (s_indexAddr rfl (by assumption) rfl (by omega)) rfl rfl rfl ?_
      refine gl_f (by first | exact s_fieldAddr rfl (by rfl) (by infer_instance) (by decide) | exact s_fieldAddr_o rfl (by assumption) (by rfl) (by infer_instance) (by decide)) rfl rfl rfl ?_
      refine gl_r (s_load1 rfl (fun w hw => rdF0 hw hrd (i := k) (by omega) hk')) rfl rfl rfl ?_
      refine gl_f (s_move rfl) rfl rfl rfl ?_
      refine gl_f (s_eql_str rfl rfl) rfl rfl rfl ?_
      refine gl_nil ?_
      repeat (first | refine g_seq ?_ | refine at_code ?_ | refine g_skip ?_ | refine g_block ?_ | refine g_exit rfl ?_ | refine g_cond_t rfl ?_ | refine g_cond_f rfl ?_)
      refine g_cond rfl (fun h2 => ?_) (fun h2 => ?_)
      · have h3 := of_decide_eq_true h2
        rw [getL_no hk' hno h3]
        repeat (first | refine g_seq ?_ | refine at_code ?_ | refine g_skip ?_ | refine g_block ?_ | refine g_exit rfl ?_ | refine g_cond_t rfl ?_ | refine g_cond_f rfl ?_)
        refine g_region ?_
        refine gl_f (s_move rfl) rfl rfl rfl ?_
        refine gl_f (s_move rfl) rfl rfl rfl ?_
        refine gl_f (s_indexAddr rfl (by assumption) rfl (by omega)) rfl rfl rfl ?_
        refine gl_f (by first | exact s_fieldAddr rfl (by rfl) (by infer_instance) (by decide) | exact s_fieldAddr_o rfl (by assumption) (by rfl) (by infer_instance) (by decide)) rfl rfl rfl ?_
        refine gl_r (s_load1 rfl (fun w hw => rdF1 hw hrd (i := k) (by omega) hk')) rfl rfl rfl ?_
        refine gl_f (s_assign rfl) rfl rfl rfl ?_
        refine gl_f (s_assign rfl) rfl rfl rfl ?_
        refine gl_nil ?_
        repeat (first | refine g_seq ?_ | refine at_code ?_ | refine g_skip ?_ | refine g_block ?_ | refine g_exit rfl ?_ | refine g_cond_t rfl ?_ | refine g_cond_f rfl ?_)
        refine g_ret ?_
        exact at_end2 rfl rfl rfl [] ⟨rfl, rfl⟩ (fun _ h => h)
      · have h3 := of_decide_eq_false h2
        repeat (first | refine g_seq ?_ | refine at_code ?_ | refine g_skip ?_ | refine g_block ?_ | refine g_exit rfl ?_ | refine g_cond_t rfl ?_ | refine g_cond_f rfl ?_)
        repeat (first | refine g_seq ?_ | refine at_code ?_ | refine g_skip ?_ | refine g_block ?_ | refine g_exit rfl ?_ | refine g_cond_t rfl ?_ | refine g_cond_f rfl ?_)
        refine g_region ?_
        refine gl_f (s_move rfl) rfl rfl rfl ?_
        refine gl_f (s_add_i64 rfl rfl (by omega)) rfl rfl rfl ?_
        refine gl_f (s_assign rfl) rfl rfl rfl ?_
        refine gl_nil ?_
        repeat (first | refine g_seq ?_ | refine at_code ?_ | refine g_skip ?_ | refine g_block ?_ | refine g_exit rfl ?_ | refine g_cond_t rfl ?_ | refine g_cond_f rfl ?_)
        refine at_next (k + 1) ⟨by omega, fun j hj => ?_⟩ (by omega) ?_ ?_
        · rcases Nat.lt_succ_iff_lt_or_eq.1 hj with h4 | rfl
          · exact hno j h4
          · exact h3
        · (repeat (first | exact Sub.nil _ | refine Sub.cons rfl ?_))
        · intro w hw; exact hw
    · have hkl : k = l.length := by simp at h; omega
      rw [getL_none' (fun j hj => hno j (by omega))]
      repeat (first | refine g_seq ?_ | refine at_code ?_ | refine g_skip ?_ | refine g_block ?_ | refine g_exit rfl ?_ | refine g_cond_t rfl ?_ | refine g_cond_f rfl ?_)
      repeat (first | refine g_seq ?_ | refine at_code ?_ | refine g_skip ?_ | refine g_block ?_ | refine g_exit rfl ?_ | refine g_cond_t rfl ?_ | refine g_cond_f rfl ?_)
      refine g_region ?_
      refine gl_f (s_assign rfl) rfl rfl rfl ?_
      refine gl_f (s_assign rfl) rfl rfl rfl ?_
      refine gl_nil ?_
      repeat (first | refine g_seq ?_ | refine at_code ?_ | refine g_skip ?_ | refine g_block ?_ | refine g_exit rfl ?_ | refine g_cond_t rfl ?_ | refine g_cond_f rfl ?_)
      refine g_ret ?_
      exact at_end2 rfl rfl rfl [] ⟨rfl, rfl⟩ (fun _ h => h)

theorem without_le (l : List Fl) (n : Bs) : (withoutL l n).length ≤ l.length := List.length_filter_le _ _
theorem ins_len (f : Fl) (l : List Fl) : (insL f l).length = l.length + 1 := by rw [(ins_perm f l).length_eq]; rfl
theorem take_get {l : List Fl} {k : Nat} (hk : k < l.length) : l.take (k + 1) = l.take k ++ [l.getD k F0] := by
  rw [List.take_succ_eq_append_getElem hk]; simp [hk]
end Go.Proofs.Ytolgclfbllcjhaa
