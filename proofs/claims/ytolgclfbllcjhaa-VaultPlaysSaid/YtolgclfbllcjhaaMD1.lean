/- The reference's disk: files by name. -/
import Derived.Test.YtolgclfbllcjhaaMDRep
namespace Go.Proofs.Ytolgclfbllcjhaa
open Go Go.Sl
set_option linter.unusedVariables false
set_option linter.unusedSimpArgs false

section
variable {F : Snap} {w : World} {H H' : List As} {a : Option Addr} {l : List Fl} {n c : Nat} {te : TypeId} {q i : Nat}
theorem rdF (hw : Hp F w H) (r : RdS F.heap a (flV l)) (h : q = 2 * i) (hi : i < l.length) : PeekC (hp w) (addO a q) [B (l.getD i F0).1, B (l.getD i F0).2] := rec_rdN (C := flC) (r.le hw.keep) flC_len (by decide) F0 h hi
theorem rdF0 (hw : Hp F w H) (r : RdS F.heap a (flV l)) (h : q = 2 * i) (hi : i < l.length) : PeekC (hp w) (addO a q) [B (l.getD i F0).1] := rec_rd1 (C := flC) (j := 0) (r.le hw.keep) flC_len F0 h hi rfl
theorem rdF1 (hw : Hp F w H) (r : RdS F.heap a (flV l)) (h : q = 2 * i + 1) (hi : i < l.length) : PeekC (hp w) (addO a q) [B (l.getD i F0).2] := rec_rd1 (C := flC) (r.le hw.keep) flC_len F0 h hi rfl
theorem rdF_own (hw : Hp F w H) (u : Upd H (.own (.slice a n c) te 2 (flV l)) [] H') (h : q = 2 * i) (hi : i < l.length) : PeekC (hp w) (addO a q) [B (l.getD i F0).1, B (l.getD i F0).2] := rec_rdN (C := flC) (hw.ownN u).2.2.1 flC_len (by decide) F0 h hi
theorem rdF0_own (hw : Hp F w H) (u : Upd H (.own (.slice a n c) te 2 (flV l)) [] H') (h : q = 2 * i) (hi : i < l.length) : PeekC (hp w) (addO a q) [B (l.getD i F0).1] := rec_rd1 (C := flC) (j := 0) (hw.ownN u).2.2.1 flC_len F0 h hi rfl
end
theorem rdF_some {h : Heap} {a : Option Addr} {l : List Fl} {i : Nat} (r : RdS h a (flV l)) (hi : i < l.length) : ∃ ad, a = some ad := rec_some (C := flC) r flC_len (by decide) hi
theorem getL_no {l : List Fl} {n : Bs} {k : Nat} (hk : k < l.length) (h : ∀ j, j < k → (l.getD j F0).1 ≠ n) (h1 : (l.getD k F0).1 = n) : getL l n = some (l.getD k F0).2 := by
  induction l generalizing k with
  | nil => simp at hk
  | cons x r ih =>
    cases k with
    | zero => simp at h1; simp [getL, h1]
    | succ k =>
      have h0 := h 0 (by omega)
      simp at h0
      have := ih (by simpa using hk) (fun j hj => by have := h (j + 1) (by omega); simpa using this) (by simpa using h1)
      rw [getL] at this ⊢
      rw [List.find?_cons_of_neg (by simpa using h0)]
      simpa using this
theorem getL_none' {l : List Fl} {n : Bs} (h : ∀ j, j < l.length → (l.getD j F0).1 ≠ n) : getL l n = none := by
  rw [getL, Option.map_eq_none_iff, List.find?_eq_none]
  intro f hf
  obtain ⟨i, hi, rfl⟩ := List.getElem_of_mem hf
  have := h i hi
  simpa [hi] using this
/-- Get -/
theorem Get_ct (l : List Fl) (n : Bs) (a : Option Addr) (c : Nat) (hl : l.length ≤ 1000000000000) : Pu Try.prog 80 [.slice a l.length c, B n] (fun h => RdS h a (flV l)) (.tuple #[B ((getL l n).getD []), .bool (getL l n).isSome]) := by
  refine ct_enter 25 Try.func80 rfl rfl rfl ?_
  intro F hrd
  repeat (first | refine g_seq ?_ | refine at_code ?_ | refine g_skip ?_ | refine g_block ?_ | refine g_exit rfl ?_ | refine g_cond_t rfl ?_ | refine g_cond_f rfl ?_)
  refine g_region ?_
  refine gl_f (s_assign rfl) rfl rfl rfl ?_
  refine gl_f (s_assign rfl) rfl rfl rfl ?_
  refine gl_nil ?_
  repeat (first | refine g_seq ?_ | refine at_code ?_ | refine g_skip ?_ | refine g_block ?_ | refine g_exit rfl ?_ | refine g_cond_t rfl ?_ | refine g_cond_f rfl ?_)
  refine g_region ?_
  refine gl_f (s_assign rfl) rfl rfl rfl ?_
  refine gl_nil ?_
  repeat (first | refine g_seq ?_ | refine at_code ?_ | refine g_skip ?_ | refine g_block ?_ | refine g_exit rfl ?_ | refine g_cond_t rfl ?_ | refine g_cond_f rfl ?_)
  refine g_loop (ι := Nat) (fun k => k ≤ l.length ∧ ∀ j, j < k → (l.getD j F0).1 ≠ n) (fun k => [(0, .slice a l.length c), (1, B n), (6, .int .i64 (k : Nat))]) (fun _ => []) (fun k => l.length - k) 0 ⟨by omega, fun j hj => absurd hj (by omega)⟩ ?_ ?_ ?_
  · (repeat (first | exact Sub.nil _ | refine Sub.cons rfl ?_))
  · intro w hw; exact hw
  · rintro k ⟨hk, hno⟩
    repeat (first | refine g_seq ?_ | refine at_code ?_ | refine g_skip ?_ | refine g_block ?_ | refine g_exit rfl ?_ | refine g_cond_t rfl ?_ | refine g_cond_f rfl ?_)
    refine g_region ?_
    refine gl_f (s_move rfl) rfl rfl rfl ?_
    refine gl_f (s_move rfl) rfl rfl rfl ?_
    refine gl_f (s_len_sl rfl) rfl rfl rfl ?_
    refine gl_f (s_lss rfl rfl) rfl rfl rfl ?_
    refine gl_nil ?_
    repeat (first | refine g_seq ?_ | refine at_code ?_ | refine g_skip ?_ | refine g_block ?_ | refine g_exit rfl ?_ | refine g_cond_t rfl ?_ | refine g_cond_f rfl ?_)
    refine g_cond rfl (fun h => ?_) (fun h => ?_)
    · have hk' : k < l.length := by simp at h; omega
      have hsome := rdF_some hrd hk'
      repeat (first | refine g_seq ?_ | refine at_code ?_ | refine g_skip ?_ | refine g_block ?_ | refine g_exit rfl ?_ | refine g_cond_t rfl ?_ | refine g_cond_f rfl ?_)
      refine g_region ?_
      refine gl_f (s_move rfl) rfl rfl rfl ?_
      refine gl_f (s_move rfl) rfl rfl rfl ?_
      refine gl_f (s_indexAddr rfl (by assumption) rfl (by omega)) rfl rfl rfl ?_
      refine gl_f (by first | exact s_fieldAddr rfl (by rfl) (by infer_instance) (by decide) | exact s_fieldAddr_o rfl (by assumption) (by rfl) (by infer_instance) (by decide)) rfl rfl rfl ?_
      refine gl_r (s_load1 rfl (fun w hw => rdF0 hw hrd (i := k) (by omega) hk')) rfl rfl rfl ?_
      refine gl_f (s_move rfl) rfl rfl rfl ?_
      refine gl_f (s_eql_str rfl rfl) rfl rfl rfl ?_
      refine gl_nil ?_
      repeat (first | refine g_seq ?_ | refine at_code ?_ | refine g_skip ?_ | refine g_block ?_ | refine g_exit rfl ?_ | refine g_cond_t rfl ?_ | refine g_cond_f rfl ?_)
      refine g_cond rfl (fun h2 => ?_) (fun h2 => ?_)
      · have h3 := of_decide_eq_true h2
        rw [getL_no hk' hno h3]
        repeat (first | refine g_seq ?_ | refine at_code ?_ | refine g_skip ?_ | refine g_block ?_ | refine g_exit rfl ?_ | refine g_cond_t rfl ?_ | refine g_cond_f rfl ?_)
        refine g_region ?_
        refine gl_f (s_move rfl) rfl rfl rfl ?_
        refine gl_f (s_move rfl) rfl rfl rfl ?_
        refine gl_f (s_indexAddr rfl (by assumption) rfl (by omega)) rfl rfl rfl ?_
        refine gl_f (by first | exact s_fieldAddr rfl (by rfl) (by infer_instance) (by decide) | exact s_fieldAddr_o rfl (by assumption) (by rfl) (by infer_instance) (by decide)) rfl rfl rfl ?_
        refine gl_r (s_load1 rfl (fun w hw => rdF1 hw hrd (i := k) (by omega) hk')) rfl rfl rfl ?_
        refine gl_f (s_assign rfl) rfl rfl rfl ?_
        refine gl_f (s_assign rfl) rfl rfl rfl ?_
        refine gl_nil ?_
        repeat (first | refine g_seq ?_ | refine at_code ?_ | refine g_skip ?_ | refine g_block ?_ | refine g_exit rfl ?_ | refine g_cond_t rfl ?_ | refine g_cond_f rfl ?_)
        refine g_ret ?_
        exact at_end2 rfl rfl rfl [] ⟨rfl, rfl⟩ (fun _ h => h)
      · have h3 := of_decide_eq_false h2
        repeat (first | refine g_seq ?_ | refine at_code ?_ | refine g_skip ?_ | refine g_block ?_ | refine g_exit rfl ?_ | refine g_cond_t rfl ?_ | refine g_cond_f rfl ?_)
        repeat (first | refine g_seq ?_ | refine at_code ?_ | refine g_skip ?_ | refine g_block ?_ | refine g_exit rfl ?_ | refine g_cond_t rfl ?_ | refine g_cond_f rfl ?_)
        refine g_region ?_
        refine gl_f (s_move rfl) rfl rfl rfl ?_
        refine gl_f (s_add_i64 rfl rfl (by omega)) rfl rfl rfl ?_
        refine gl_f (s_assign rfl) rfl rfl rfl ?_
        refine gl_nil ?_
        repeat (first | refine g_seq ?_ | refine at_code ?_ | refine g_skip ?_ | refine g_block ?_ | refine g_exit rfl ?_ | refine g_cond_t rfl ?_ | refine g_cond_f rfl ?_)
        refine at_next (k + 1) ⟨by omega, fun j hj => ?_⟩ (by omega) ?_ ?_
        · rcases Nat.lt_succ_iff_lt_or_eq.1 hj with h4 | rfl
          · exact hno j h4
          · exact h3
        · (repeat (first | exact Sub.nil _ | refine Sub.cons rfl ?_))
        · intro w hw; exact hw
    · have hkl : k = l.length := by simp at h; omega
      rw [getL_none' (fun j hj => hno j (by omega))]
      repeat (first | refine g_seq ?_ | refine at_code ?_ | refine g_skip ?_ | refine g_block ?_ | refine g_exit rfl ?_ | refine g_cond_t rfl ?_ | refine g_cond_f rfl ?_)
      repeat (first | refine g_seq ?_ | refine at_code ?_ | refine g_skip ?_ | refine g_block ?_ | refine g_exit rfl ?_ | refine g_cond_t rfl ?_ | refine g_cond_f rfl ?_)
      refine g_region ?_
      refine gl_f (s_assign rfl) rfl rfl rfl ?_
      refine gl_f (s_assign rfl) rfl rfl rfl ?_
      refine gl_nil ?_
      repeat (first | refine g_seq ?_ | refine at_code ?_ | refine g_skip ?_ | refine g_block ?_ | refine g_exit rfl ?_ | refine g_cond_t rfl ?_ | refine g_cond_f rfl ?_)
      refine g_ret ?_
      exact at_end2 rfl rfl rfl [] ⟨rfl, rfl⟩ (fun _ h => h)

theorem without_succ {l : List Fl} {n : Bs} {k : Nat} (hk : k < l.length) : withoutL (l.take (k + 1)) n = withoutL (l.take k) n ++ (if (l.getD k F0).1 = n then [] else [l.getD k F0]) := by
  rw [List.take_succ_eq_append_getElem hk, withoutL, List.filter_append, withoutL]
  congr 1
  rw [List.getD_eq_getElem?_getD, List.getElem?_eq_getElem hk]
  simp only [Option.getD_some, List.filter_cons, List.filter_nil]
  by_cases e : l[k].1 = n <;> simp [e]
theorem without_le (l : List Fl) (n : Bs) : (withoutL l n).length ≤ l.length := List.length_filter_le _ _
theorem flV_append (a b : List Fl) : flV (a ++ b) = flV a ++ flV b := List.flatMap_append
theorem flV_one (l : List Fl) : ∀ q ∈ flV l, q.oneCell' = true := rec_one (C := flC) flC_one l
theorem own_snoc (a : Option Addr) (l : List Fl) (x : Fl) (c : Nat) : OwnF a (l ++ [x]) c = .own (.slice a (l.length + 1) c) 38 2 (flV l ++ flV [x]) := by
  show As.own (.slice a (l ++ [x]).length c) 38 2 (flV (l ++ [x])) = _
  rw [flV_append, List.length_append]; rfl
/-- without -/
theorem without_ct (l : List Fl) (n : Bs) (a : Option Addr) (c : Nat) (hl : l.length ≤ 1000000000) : Ct Try.prog 93 [.slice a l.length c, B n] (fun h => RdS h a (flV l)) [] (FlP (withoutL l n)) := by
  refine ct_enter 28 Try.func93 rfl rfl rfl ?_
  intro F hrd
  repeat (first | refine g_seq ?_ | refine at_code ?_ | refine g_skip ?_ | refine g_block ?_ | refine g_exit rfl ?_ | refine g_cond_t rfl ?_ | refine g_cond_f rfl ?_)
  refine g_region ?_
  refine gl_f (s_assign rfl) rfl rfl rfl ?_
  refine gl_nil ?_
  repeat (first | refine g_seq ?_ | refine at_code ?_ | refine g_skip ?_ | refine g_block ?_ | refine g_exit rfl ?_ | refine g_cond_t rfl ?_ | refine g_cond_f rfl ?_)
  refine g_region ?_
  refine gl_f (s_assign rfl) rfl rfl rfl ?_
  refine gl_nil ?_
  repeat (first | refine g_seq ?_ | refine at_code ?_ | refine g_skip ?_ | refine g_block ?_ | refine g_exit rfl ?_ | refine g_cond_t rfl ?_ | refine g_cond_f rfl ?_)
  refine g_region ?_
  refine gl_f (s_assign rfl) rfl rfl rfl ?_
  refine gl_nil ?_
  repeat (first | refine g_seq ?_ | refine at_code ?_ | refine g_skip ?_ | refine g_block ?_ | refine g_exit rfl ?_ | refine g_cond_t rfl ?_ | refine g_cond_f rfl ?_)
  refine g_own_nil 38 2 ?_
  refine g_loop (ι := Nat × Option Addr × Nat) (fun i => i.1 ≤ l.length) (fun i => [(0, .slice a l.length c), (1, B n), (5, .slice i.2.1 (withoutL (l.take i.1) n).length i.2.2), (6, .int .i64 (i.1 : Nat))]) (fun i => [OwnF i.2.1 (withoutL (l.take i.1) n) i.2.2]) (fun i => l.length - i.1) (0, none, 0) (by omega) ?_ ?_ ?_
  · (repeat (first | exact Sub.nil _ | refine Sub.cons rfl ?_))
  · intro w hw; exact hw
  · rintro ⟨k, b, d⟩ hk
    have hpl := without_le (l.take k) n
    rw [List.length_take] at hpl
    simp only at hk
    have hpl' : (withoutL (List.take (k, b, d).fst l) n).length ≤ l.length := by show (withoutL (l.take k) n).length ≤ _; omega
    repeat (first | refine g_seq ?_ | refine at_code ?_ | refine g_skip ?_ | refine g_block ?_ | refine g_exit rfl ?_ | refine g_cond_t rfl ?_ | refine g_cond_f rfl ?_)
    refine g_region ?_
    refine gl_f (s_move rfl) rfl rfl rfl ?_
    refine gl_f (s_move rfl) rfl rfl rfl ?_
    refine gl_f (s_len_sl rfl) rfl rfl rfl ?_
    refine gl_f (s_lss rfl rfl) rfl rfl rfl ?_
    refine gl_nil ?_
    repeat (first | refine g_seq ?_ | refine at_code ?_ | refine g_skip ?_ | refine g_block ?_ | refine g_exit rfl ?_ | refine g_cond_t rfl ?_ | refine g_cond_f rfl ?_)
    refine g_cond rfl (fun h => ?_) (fun h => ?_)
    · have hk' : k < l.length := by simp at h; omega
      have hsome := rdF_some hrd hk'
      repeat (first | refine g_seq ?_ | refine at_code ?_ | refine g_skip ?_ | refine g_block ?_ | refine g_exit rfl ?_ | refine g_cond_t rfl ?_ | refine g_cond_f rfl ?_)
      refine g_region ?_
      refine gl_f (s_move rfl) rfl rfl rfl ?_
      refine gl_f (s_move rfl) rfl rfl rfl ?_
      refine gl_f (s_indexAddr rfl (by assumption) rfl (by omega)) rfl rfl rfl ?_
      refine gl_f (by first | exact s_fieldAddr rfl (by rfl) (by infer_instance) (by decide) | exact s_fieldAddr_o rfl (by assumption) (by rfl) (by infer_instance) (by decide)) rfl rfl rfl ?_
      refine gl_r (s_load1 rfl (fun w hw => rdF0 hw hrd (i := k) (by omega) hk')) rfl rfl rfl ?_
      refine gl_f (s_move rfl) rfl rfl rfl ?_
      refine gl_f (s_neq_str rfl rfl) rfl rfl rfl ?_
      refine gl_nil ?_
      repeat (first | refine g_seq ?_ | refine at_code ?_ | refine g_skip ?_ | refine g_block ?_ | refine g_exit rfl ?_ | refine g_cond_t rfl ?_ | refine g_cond_f rfl ?_)
      refine g_cond rfl (fun h2 => ?_) (fun h2 => ?_)
      · have h3 : ¬ (l.getD k F0).1 = n := by rw [Bool.not_eq_true', decide_eq_false_iff_not] at h2; exact h2
        have e : withoutL (l.take (k + 1)) n = withoutL (l.take k) n ++ [l.getD k F0] := by rw [without_succ hk', if_neg h3]
        have el : (withoutL (l.take (k + 1)) n).length = (withoutL (l.take k) n).length + 1 := by rw [e]; simp
        repeat (first | refine g_seq ?_ | refine at_code ?_ | refine g_skip ?_ | refine g_block ?_ | refine g_exit rfl ?_ | refine g_cond_t rfl ?_ | refine g_cond_f rfl ?_)
        refine g_region ?_
        refine gl_f (s_move rfl) rfl rfl rfl ?_
        refine gl_f (s_move rfl) rfl rfl rfl ?_
        refine gl_f (s_move rfl) rfl rfl rfl ?_
        refine gl_f (s_indexAddr rfl (by assumption) rfl (by omega)) rfl rfl rfl ?_
        refine gl_r (s_loadN rfl (fun w hw => rdF hw hrd (i := k) (by omega) hk') rfl) rfl rfl rfl ?_
        refine gl_buildSliceU rfl rfl rfl rfl rfl rfl (xs := flV [l.getD k F0]) rfl rfl ?_; intro a4 ha4
        refine gl_append rfl rfl (fun a' c' => .there .here) (fun w hw => (hw.ownN (by repeat first|exact .del|apply Upd.there)).2.2.1) rfl rfl rfl (flV_one _) (by show (_ + 1) * 32 ≤ _; omega) (by omega) rfl ?_; intro a5 c5 hc5
        refine gl_f (s_assign rfl) rfl rfl rfl ?_
        refine gl_nil ?_
        repeat (first | refine g_seq ?_ | refine at_code ?_ | refine g_skip ?_ | refine g_block ?_ | refine g_exit rfl ?_ | refine g_cond_t rfl ?_ | refine g_cond_f rfl ?_)
        repeat (first | refine g_seq ?_ | refine at_code ?_ | refine g_skip ?_ | refine g_block ?_ | refine g_exit rfl ?_ | refine g_cond_t rfl ?_ | refine g_cond_f rfl ?_)
        refine g_region ?_
        refine gl_f (s_move rfl) rfl rfl rfl ?_
        refine gl_f (s_add_i64 rfl rfl (by omega)) rfl rfl rfl ?_
        refine gl_f (s_assign rfl) rfl rfl rfl ?_
        refine gl_nil ?_
        repeat (first | refine g_seq ?_ | refine at_code ?_ | refine g_skip ?_ | refine g_block ?_ | refine g_exit rfl ?_ | refine g_cond_t rfl ?_ | refine g_cond_f rfl ?_)
        refine at_next (k + 1, a5, c5) (by simp only; omega) (by simp only; omega) ?_ ?_
        · simp only [el]
          (repeat (first | exact Sub.nil _ | refine Sub.cons rfl ?_))
        · intro w hw
          simp only
          rw [e, own_snoc]
          exact hw.drop
      · have h3 : (l.getD k F0).1 = n := by rw [Bool.not_eq_false', decide_eq_true_eq] at h2; exact h2
        have e : withoutL (l.take (k + 1)) n = withoutL (l.take k) n := by rw [without_succ hk', if_pos h3, List.append_nil]
        repeat (first | refine g_seq ?_ | refine at_code ?_ | refine g_skip ?_ | refine g_block ?_ | refine g_exit rfl ?_ | refine g_cond_t rfl ?_ | refine g_cond_f rfl ?_)
        repeat (first | refine g_seq ?_ | refine at_code ?_ | refine g_skip ?_ | refine g_block ?_ | refine g_exit rfl ?_ | refine g_cond_t rfl ?_ | refine g_cond_f rfl ?_)
        refine g_region ?_
        refine gl_f (s_move rfl) rfl rfl rfl ?_
        refine gl_f (s_add_i64 rfl rfl (by omega)) rfl rfl rfl ?_
        refine gl_f (s_assign rfl) rfl rfl rfl ?_
        refine gl_nil ?_
        repeat (first | refine g_seq ?_ | refine at_code ?_ | refine g_skip ?_ | refine g_block ?_ | refine g_exit rfl ?_ | refine g_cond_t rfl ?_ | refine g_cond_f rfl ?_)
        refine at_next (k + 1, b, d) (by simp only; omega) (by simp only; omega) ?_ ?_
        · simp only [e]
          (repeat (first | exact Sub.nil _ | refine Sub.cons rfl ?_))
        · intro w hw
          simp only [e]
          exact hw
    · have hkl : k = l.length := by simp at h; omega
      subst hkl
      simp only [List.take_length]
      repeat (first | refine g_seq ?_ | refine at_code ?_ | refine g_skip ?_ | refine g_block ?_ | refine g_exit rfl ?_ | refine g_cond_t rfl ?_ | refine g_cond_f rfl ?_)
      repeat (first | refine g_seq ?_ | refine at_code ?_ | refine g_skip ?_ | refine g_block ?_ | refine g_exit rfl ?_ | refine g_cond_t rfl ?_ | refine g_cond_f rfl ?_)
      refine g_region ?_
      refine gl_f (s_move rfl) rfl rfl rfl ?_
      refine gl_f (s_assign rfl) rfl rfl rfl ?_
      refine gl_nil ?_
      repeat (first | refine g_seq ?_ | refine at_code ?_ | refine g_skip ?_ | refine g_block ?_ | refine g_exit rfl ?_ | refine g_cond_t rfl ?_ | refine g_cond_f rfl ?_)
      refine g_ret ?_
      exact at_end1 rfl rfl [OwnF b (withoutL l n) d] ⟨b, d, rfl, rfl⟩ (fun _ h => h)

theorem ins_not {f : Fl} : ∀ {p : List Fl} (q : List Fl), (∀ g ∈ p, ltB f.1 g.1 = false) → insL f (p ++ q) = p ++ insL f q
  | [], q, _ => rfl
  | g :: p, q, h => by
    have h1 := h g (.head _)
    rw [List.cons_append, insL, if_neg (by rw [h1]; simp), ins_not q (fun x hx => h x (.tail _ hx)), List.cons_append]
theorem ins_done {f : Fl} : ∀ {p : List Fl} (q : List Fl), (∃ g ∈ p, ltB f.1 g.1 = true) → insL f (p ++ q) = insL f p ++ q
  | [], q, h => by obtain ⟨g, hg, _⟩ := h; cases hg
  | g :: p, q, h => by
    rw [List.cons_append, insL, insL]
    by_cases h1 : ltB f.1 g.1 = true
    · rw [if_pos h1, if_pos h1]; rfl
    · rw [if_neg h1, if_neg h1, ins_done q (by
        obtain ⟨x, hx, hlt⟩ := h
        rcases List.mem_cons.1 hx with rfl | hx
        · exact absurd hlt h1
        · exact ⟨x, hx, hlt⟩)]; rfl
theorem ins_len (f : Fl) (l : List Fl) : (insL f l).length = l.length + 1 := by rw [(ins_perm f l).length_eq]; rfl
/-- what has been put out -/
structure WithI (f : Fl) (l : List Fl) (k : Nat) (done : Bool) (out : List Fl) : Prop where
  yes : done = true → (∃ g ∈ l.take k, ltB f.1 g.1 = true) ∧ out = insL f (l.take k)
  no : done = false → (∀ g ∈ l.take k, ltB f.1 g.1 = false) ∧ out = l.take k
theorem take_get {l : List Fl} {k : Nat} (hk : k < l.length) : l.take (k + 1) = l.take k ++ [l.getD k F0] := by
  rw [List.take_succ_eq_append_getElem hk]; simp [hk]
theorem with_more {f : Fl} {l : List Fl} {k : Nat} {out : List Fl} (h : WithI f l k true out) (hk : k < l.length) : WithI f l (k + 1) true (out ++ [l.getD k F0]) := by
  obtain ⟨⟨g, hg, h1⟩, h2⟩ := h.yes rfl
  refine ⟨fun _ => ?_, fun h => by cases h⟩
  rw [take_get hk, ins_done _ ⟨g, hg, h1⟩, h2]
  exact ⟨⟨g, by simp [hg], h1⟩, rfl⟩
theorem with_now {f : Fl} {l : List Fl} {k : Nat} {out : List Fl} (h : WithI f l k false out) (hk : k < l.length) (hlt : ltB f.1 (l.getD k F0).1 = true) : WithI f l (k + 1) true (out ++ [f] ++ [l.getD k F0]) := by
  obtain ⟨h1, h2⟩ := h.no rfl
  refine ⟨fun _ => ?_, fun h => by cases h⟩
  rw [take_get hk, ins_not _ h1, h2]
  refine ⟨⟨l.getD k F0, List.mem_append_right _ (.head _), hlt⟩, ?_⟩
  rw [insL, if_pos hlt]; simp
theorem with_not {f : Fl} {l : List Fl} {k : Nat} {out : List Fl} (h : WithI f l k false out) (hk : k < l.length) (hlt : ltB f.1 (l.getD k F0).1 = false) : WithI f l (k + 1) false (out ++ [l.getD k F0]) := by
  obtain ⟨h1, h2⟩ := h.no rfl
  refine ⟨fun h => (by cases h), fun _ => ?_⟩
  rw [take_get hk, h2]
  refine ⟨fun g hg => ?_, rfl⟩
  rw [List.mem_append, List.mem_singleton] at hg
  rcases hg with hg | rfl
  · exact h1 g hg
  · exact hlt
theorem with_len {f : Fl} {l : List Fl} {k : Nat} {d : Bool} {out : List Fl} (h : WithI f l k d out) : out.length ≤ l.length + 1 := by
  cases d
  · rw [(h.no rfl).2, List.length_take]; omega
  · rw [(h.yes rfl).2, ins_len, List.length_take]; omega
set_option maxHeartbeats 2000000 in
/-- with -/
theorem with_ct (l0 : List Fl) (n s : Bs) (a : Option Addr) (c : Nat) (hl : l0.length ≤ 1000000000) : Ct Try.prog 82 [.slice a l0.length c, .agg #[B n, B s]] (fun h => RdS h a (flV l0)) [] (FlP (withL l0 n s)) := by
  refine ct_enter 48 Try.func82 rfl rfl rfl ?_
  intro F hrd
  obtain ⟨l, hle⟩ : ∃ l, l = withoutL l0 n := ⟨_, rfl⟩
  have hll := without_le l0 n
  rw [← hle] at hll
  repeat (first | refine g_seq ?_ | refine at_code ?_ | refine g_skip ?_ | refine g_block ?_ | refine g_exit rfl ?_ | refine g_cond_t rfl ?_ | refine g_cond_f rfl ?_)
  refine g_region ?_
  refine gl_boxA rfl rfl ?_; intro g3
  refine gl_f (s_assign rfl) rfl rfl rfl ?_
  refine gl_nil ?_
  repeat (first | refine g_seq ?_ | refine at_code ?_ | refine g_skip ?_ | refine g_block ?_ | refine g_exit rfl ?_ | refine g_cond_t rfl ?_ | refine g_cond_f rfl ?_)
  refine g_region ?_
  refine gl_f (s_assign rfl) rfl rfl rfl ?_
  refine gl_nil ?_
  repeat (first | refine g_seq ?_ | refine at_code ?_ | refine g_skip ?_ | refine g_block ?_ | refine g_exit rfl ?_ | refine g_cond_t rfl ?_ | refine g_cond_f rfl ?_)
  refine g_region ?_
  refine gl_f (s_assign rfl) rfl rfl rfl ?_
  refine gl_nil ?_
  repeat (first | refine g_seq ?_ | refine at_code ?_ | refine g_skip ?_ | refine g_block ?_ | refine g_exit rfl ?_ | refine g_cond_t rfl ?_ | refine g_cond_f rfl ?_)
  refine g_region ?_
  refine gl_f (s_move rfl) rfl rfl rfl ?_
  refine gl_f (by first | exact s_fieldAddr rfl (by rfl) (by infer_instance) (by decide) | exact s_fieldAddr_o rfl (by assumption) (by rfl) (by infer_instance) (by decide)) rfl rfl rfl ?_
  refine gl_r (by first | exact s_load_blk rfl (by repeat first|exact .del|apply Upd.there) (by rfl) | exact s_load1 rfl (fun w hw => peekB hw (by assumption) (by rfl))) rfl rfl rfl ?_
  refine gl_call _ rfl (without_ct l0 n a c hl) (fun w hw => hw) (fun h hh _ => hrd.le hh) rfl ?_; rw [← hle]; rintro v A ⟨la, lc, rfl, rfl⟩
  refine gl_f (s_assign rfl) rfl rfl rfl ?_
  refine gl_nil ?_
  repeat (first | refine g_seq ?_ | refine at_code ?_ | refine g_skip ?_ | refine g_block ?_ | refine g_exit rfl ?_ | refine g_cond_t rfl ?_ | refine g_cond_f rfl ?_)
  repeat (first | refine g_seq ?_ | refine at_code ?_ | refine g_skip ?_ | refine g_block ?_ | refine g_exit rfl ?_ | refine g_cond_t rfl ?_ | refine g_cond_f rfl ?_)
  refine g_region ?_
  refine gl_f (s_assign rfl) rfl rfl rfl ?_
  refine gl_nil ?_
  repeat (first | refine g_seq ?_ | refine at_code ?_ | refine g_skip ?_ | refine g_block ?_ | refine g_exit rfl ?_ | refine g_cond_t rfl ?_ | refine g_cond_f rfl ?_)
  refine g_own_nil 38 2 ?_
  refine g_ownN (a := la) (by repeat first|exact .del|apply Upd.there) (fun _ hcl hla => ?_)
  refine g_loop (ι := Nat × Bool × List Fl × Option Addr × Nat) (fun i => i.1 ≤ l.length ∧ WithI (n, s) l i.1 i.2.1 i.2.2.1) (fun i => [(0, .slice la l.length lc), (3, Ptr g3), (5, .slice i.2.2.2.1 i.2.2.1.length i.2.2.2.2), (6, .bool i.2.1), (7, .int .i64 (i.1 : Nat))]) (fun i => [OwnF i.2.2.2.1 i.2.2.1 i.2.2.2.2, OwnF la l lc, .blk g3 (.cells #[B n, B s] 38)]) (fun i => l.length - i.1) (0, false, [], none, 0) ⟨by omega, ⟨fun h => (by cases h), fun _ => ⟨by simp, by simp⟩⟩⟩ ?_ ?_ ?_
  · (repeat (first | exact Sub.nil _ | refine Sub.cons rfl ?_))
  · intro w hw; exact hw
  · rintro ⟨k, done, out, oa, oc⟩ ⟨hk, hI⟩
    have hol := with_len hI
    simp only at hk hI hol
    repeat (first | refine g_seq ?_ | refine at_code ?_ | refine g_skip ?_ | refine g_block ?_ | refine g_exit rfl ?_ | refine g_cond_t rfl ?_ | refine g_cond_f rfl ?_)
    refine g_region ?_
    refine gl_f (s_move rfl) rfl rfl rfl ?_
    refine gl_f (s_move rfl) rfl rfl rfl ?_
    refine gl_f (s_len_sl rfl) rfl rfl rfl ?_
    refine gl_f (s_lss rfl rfl) rfl rfl rfl ?_
    refine gl_nil ?_
    repeat (first | refine g_seq ?_ | refine at_code ?_ | refine g_skip ?_ | refine g_block ?_ | refine g_exit rfl ?_ | refine g_cond_t rfl ?_ | refine g_cond_f rfl ?_)
    refine g_cond rfl (fun h => ?_) (fun h => ?_)
    · have hk' : k < l.length := by simp at h; omega
      have hsome : ∃ ad, la = some ad := hla (by omega)
      have holf : ((k, false, out, oa, oc) : Nat × Bool × List Fl × Option Addr × Nat).snd.snd.fst.length ≤ l.length + 1 := hol
      have holt : ((k, true, out, oa, oc) : Nat × Bool × List Fl × Option Addr × Nat).snd.snd.fst.length ≤ l.length + 1 := hol
      cases done
      · obtain ⟨q, hq⟩ : ∃ q, q = ltB n (l.getD k F0).1 := ⟨_, rfl⟩
        cases q
        · have hI' := with_not hI hk' hq.symm
          repeat (first | refine g_seq ?_ | refine at_code ?_ | refine g_skip ?_ | refine g_block ?_ | refine g_exit rfl ?_ | refine g_cond_t rfl ?_ | refine g_cond_f rfl ?_)
          refine g_draw [4, 9] [.blk g3 (.cells #[B n, B s] 38), OwnF la l lc] 12 rfl ?_
          refine ga_free 0 rfl (s_move rfl) rfl rfl rfl (by kernel_rfl) ?_
          refine ga_free 1 rfl (s_not rfl) rfl rfl rfl (by kernel_rfl) ?_
          refine ga_free 2 rfl (s_move rfl) rfl rfl rfl (by kernel_rfl) ?_
          (first | refine ga_skip 3 rfl rfl rfl rfl rfl rfl rfl rfl (by kernel_rfl) ?_ | refine ga_skip_un 3 rfl rfl rfl rfl rfl rfl rfl (by kernel_rfl) ?_ | refine ga_free_g 3 rfl (by first | exact s_fieldAddr rfl (by rfl) (by infer_instance) (by decide) | exact s_fieldAddr_o rfl (by assumption) (by rfl) (by infer_instance) (by decide)) rfl rfl rfl rfl rfl rfl (by kernel_rfl) ?_)
          (first | refine ga_skip 4 rfl rfl rfl rfl rfl rfl rfl rfl (by kernel_rfl) ?_ | refine ga_skip_un 4 rfl rfl rfl rfl rfl rfl rfl (by kernel_rfl) ?_ | refine ga_read_kg 4 rfl (by first | exact .head _ | exact .tail _ (.head _) | exact .tail _ (.tail _ (.head _)) | exact .tail _ (.tail _ (.tail _ (.head _)))) (s_load_blk rfl .del (by rfl)) (by (first | exact fun _ h => h | (repeat first | exact sub_nil | refine sub_cons (by repeat first | exact List.Mem.head _ | apply List.Mem.tail) ?_))) rfl rfl rfl rfl rfl rfl (by kernel_rfl) ?_ | refine ga_readF_g 4 rfl (s_load1 rfl (fun w hw => peekB hw (by assumption) (by rfl))) (by (first | exact fun _ h => h | (repeat first | exact sub_nil | refine sub_cons (by repeat first | exact List.Mem.head _ | apply List.Mem.tail) ?_))) rfl rfl rfl rfl rfl rfl (by kernel_rfl) ?_)
          (first | refine ga_skip 5 rfl rfl rfl rfl rfl rfl rfl rfl (by kernel_rfl) ?_ | refine ga_skip_un 5 rfl rfl rfl rfl rfl rfl rfl (by kernel_rfl) ?_ | refine ga_free_g 5 rfl (s_move rfl) rfl rfl rfl rfl rfl rfl (by kernel_rfl) ?_)
          (first | refine ga_skip 6 rfl rfl rfl rfl rfl rfl rfl rfl (by kernel_rfl) ?_ | refine ga_skip_un 6 rfl rfl rfl rfl rfl rfl rfl (by kernel_rfl) ?_ | refine ga_free_g 6 rfl (s_move rfl) rfl rfl rfl rfl rfl rfl (by kernel_rfl) ?_)
          (first | refine ga_skip 7 rfl rfl rfl rfl rfl rfl rfl rfl (by kernel_rfl) ?_ | refine ga_skip_un 7 rfl rfl rfl rfl rfl rfl rfl (by kernel_rfl) ?_ | refine ga_free_g 7 rfl (s_indexAddr rfl (by assumption) rfl (by omega)) rfl rfl rfl rfl rfl rfl (by kernel_rfl) ?_)
          (first | refine ga_skip 8 rfl rfl rfl rfl rfl rfl rfl rfl (by kernel_rfl) ?_ | refine ga_skip_un 8 rfl rfl rfl rfl rfl rfl rfl (by kernel_rfl) ?_ | refine ga_free_g 8 rfl (by first | exact s_fieldAddr rfl (by rfl) (by infer_instance) (by decide) | exact s_fieldAddr_o rfl (by assumption) (by rfl) (by infer_instance) (by decide)) rfl rfl rfl rfl rfl rfl (by kernel_rfl) ?_)
          (first | refine ga_skip 9 rfl rfl rfl rfl rfl rfl rfl rfl (by kernel_rfl) ?_ | refine ga_skip_un 9 rfl rfl rfl rfl rfl rfl rfl (by kernel_rfl) ?_ | refine ga_read_kg 9 rfl (by first | exact .head _ | exact .tail _ (.head _) | exact .tail _ (.tail _ (.head _)) | exact .tail _ (.tail _ (.tail _ (.head _)))) (s_load1 rfl (fun w hw => rdF0_own (a := la) (l := l) hw .del (i := k) (by omega) hk')) (by (first | exact fun _ h => h | (repeat first | exact sub_nil | refine sub_cons (by repeat first | exact List.Mem.head _ | apply List.Mem.tail) ?_))) rfl rfl rfl rfl rfl rfl (by kernel_rfl) ?_)
          (first | refine ga_skip 10 rfl rfl rfl rfl rfl rfl rfl rfl (by kernel_rfl) ?_ | refine ga_skip_un 10 rfl rfl rfl rfl rfl rfl rfl (by kernel_rfl) ?_ | refine ga_free_g 10 rfl ((s_lss_str rfl rfl).eq (congrArg Value.bool hq.symm)) rfl rfl rfl rfl rfl rfl (by kernel_rfl) ?_)
          refine ga_free 11 rfl (by first | exact s_pick_t rfl rfl | exact s_pick_f rfl rfl) rfl rfl rfl (by kernel_rfl) ?_
          refine ga_done (by kernel_rfl) ?_
          repeat (first | refine g_seq ?_ | refine at_code ?_ | refine g_skip ?_ | refine g_block ?_ | refine g_exit rfl ?_ | refine g_cond_t rfl ?_ | refine g_cond_f rfl ?_)
          repeat (first | refine g_seq ?_ | refine at_code ?_ | refine g_skip ?_ | refine g_block ?_ | refine g_exit rfl ?_ | refine g_cond_t rfl ?_ | refine g_cond_f rfl ?_)
          refine g_region ?_
          refine gl_f (s_move rfl) rfl rfl rfl ?_
          refine gl_f (s_move rfl) rfl rfl rfl ?_
          refine gl_f (s_move rfl) rfl rfl rfl ?_
          refine gl_f (s_indexAddr rfl (by assumption) rfl (by omega)) rfl rfl rfl ?_
          refine gl_r (s_loadN rfl (fun w hw => rdF_own (a := la) (l := l) hw (by repeat first|exact .del|apply Upd.there) (i := k) (by omega) hk') rfl) rfl rfl rfl ?_
          refine gl_buildSliceU rfl rfl rfl rfl rfl rfl (xs := flV [l.getD k F0]) rfl rfl ?_; intro a4 ha4
          refine gl_append rfl rfl (fun a' c' => .there .here) (fun w hw => (hw.ownN (by repeat first|exact .del|apply Upd.there)).2.2.1) rfl rfl rfl (flV_one _) (by show (_ + 1) * 32 ≤ _; omega) (by omega) rfl ?_; intro a5 c5 hc5
          refine gl_f (s_assign rfl) rfl rfl rfl ?_
          refine gl_nil ?_
          repeat (first | refine g_seq ?_ | refine at_code ?_ | refine g_skip ?_ | refine g_block ?_ | refine g_exit rfl ?_ | refine g_cond_t rfl ?_ | refine g_cond_f rfl ?_)
          repeat (first | refine g_seq ?_ | refine at_code ?_ | refine g_skip ?_ | refine g_block ?_ | refine g_exit rfl ?_ | refine g_cond_t rfl ?_ | refine g_cond_f rfl ?_)
          refine g_region ?_
          refine gl_f (s_move rfl) rfl rfl rfl ?_
          refine gl_f (s_add_i64 rfl rfl (by omega)) rfl rfl rfl ?_
          refine gl_f (s_assign rfl) rfl rfl rfl ?_
          refine gl_nil ?_
          repeat (first | refine g_seq ?_ | refine at_code ?_ | refine g_skip ?_ | refine g_block ?_ | refine g_exit rfl ?_ | refine g_cond_t rfl ?_ | refine g_cond_f rfl ?_)
          refine at_next (k + 1, false, out ++ [l.getD k F0], a5, c5) ⟨by simp only; omega, hI'⟩ (by simp only; omega) ?_ ?_
          · simp only [List.length_append, List.length_cons, List.length_nil, Nat.zero_add]
            (repeat (first | exact Sub.nil _ | refine Sub.cons rfl ?_))
          · intro w hw
            simp only
            rw [own_snoc]
            exact hw.drop
        · have hI' := with_now hI hk' hq.symm
          repeat (first | refine g_seq ?_ | refine at_code ?_ | refine g_skip ?_ | refine g_block ?_ | refine g_exit rfl ?_ | refine g_cond_t rfl ?_ | refine g_cond_f rfl ?_)
          refine g_draw [4, 9] [.blk g3 (.cells #[B n, B s] 38), OwnF la l lc] 12 rfl ?_
          refine ga_free 0 rfl (s_move rfl) rfl rfl rfl (by kernel_rfl) ?_
          refine ga_free 1 rfl (s_not rfl) rfl rfl rfl (by kernel_rfl) ?_
          refine ga_free 2 rfl (s_move rfl) rfl rfl rfl (by kernel_rfl) ?_
          (first | refine ga_skip 3 rfl rfl rfl rfl rfl rfl rfl rfl (by kernel_rfl) ?_ | refine ga_skip_un 3 rfl rfl rfl rfl rfl rfl rfl (by kernel_rfl) ?_ | refine ga_free_g 3 rfl (by first | exact s_fieldAddr rfl (by rfl) (by infer_instance) (by decide) | exact s_fieldAddr_o rfl (by assumption) (by rfl) (by infer_instance) (by decide)) rfl rfl rfl rfl rfl rfl (by kernel_rfl) ?_)
          (first | refine ga_skip 4 rfl rfl rfl rfl rfl rfl rfl rfl (by kernel_rfl) ?_ | refine ga_skip_un 4 rfl rfl rfl rfl rfl rfl rfl (by kernel_rfl) ?_ | refine ga_read_kg 4 rfl (by first | exact .head _ | exact .tail _ (.head _) | exact .tail _ (.tail _ (.head _)) | exact .tail _ (.tail _ (.tail _ (.head _)))) (s_load_blk rfl .del (by rfl)) (by (first | exact fun _ h => h | (repeat first | exact sub_nil | refine sub_cons (by repeat first | exact List.Mem.head _ | apply List.Mem.tail) ?_))) rfl rfl rfl rfl rfl rfl (by kernel_rfl) ?_ | refine ga_readF_g 4 rfl (s_load1 rfl (fun w hw => peekB hw (by assumption) (by rfl))) (by (first | exact fun _ h => h | (repeat first | exact sub_nil | refine sub_cons (by repeat first | exact List.Mem.head _ | apply List.Mem.tail) ?_))) rfl rfl rfl rfl rfl rfl (by kernel_rfl) ?_)
          (first | refine ga_skip 5 rfl rfl rfl rfl rfl rfl rfl rfl (by kernel_rfl) ?_ | refine ga_skip_un 5 rfl rfl rfl rfl rfl rfl rfl (by kernel_rfl) ?_ | refine ga_free_g 5 rfl (s_move rfl) rfl rfl rfl rfl rfl rfl (by kernel_rfl) ?_)
          (first | refine ga_skip 6 rfl rfl rfl rfl rfl rfl rfl rfl (by kernel_rfl) ?_ | refine ga_skip_un 6 rfl rfl rfl rfl rfl rfl rfl (by kernel_rfl) ?_ | refine ga_free_g 6 rfl (s_move rfl) rfl rfl rfl rfl rfl rfl (by kernel_rfl) ?_)
          (first | refine ga_skip 7 rfl rfl rfl rfl rfl rfl rfl rfl (by kernel_rfl) ?_ | refine ga_skip_un 7 rfl rfl rfl rfl rfl rfl rfl (by kernel_rfl) ?_ | refine ga_free_g 7 rfl (s_indexAddr rfl (by assumption) rfl (by omega)) rfl rfl rfl rfl rfl rfl (by kernel_rfl) ?_)
          (first | refine ga_skip 8 rfl rfl rfl rfl rfl rfl rfl rfl (by kernel_rfl) ?_ | refine ga_skip_un 8 rfl rfl rfl rfl rfl rfl rfl (by kernel_rfl) ?_ | refine ga_free_g 8 rfl (by first | exact s_fieldAddr rfl (by rfl) (by infer_instance) (by decide) | exact s_fieldAddr_o rfl (by assumption) (by rfl) (by infer_instance) (by decide)) rfl rfl rfl rfl rfl rfl (by kernel_rfl) ?_)
          (first | refine ga_skip 9 rfl rfl rfl rfl rfl rfl rfl rfl (by kernel_rfl) ?_ | refine ga_skip_un 9 rfl rfl rfl rfl rfl rfl rfl (by kernel_rfl) ?_ | refine ga_read_kg 9 rfl (by first | exact .head _ | exact .tail _ (.head _) | exact .tail _ (.tail _ (.head _)) | exact .tail _ (.tail _ (.tail _ (.head _)))) (s_load1 rfl (fun w hw => rdF0_own (a := la) (l := l) hw .del (i := k) (by omega) hk')) (by (first | exact fun _ h => h | (repeat first | exact sub_nil | refine sub_cons (by repeat first | exact List.Mem.head _ | apply List.Mem.tail) ?_))) rfl rfl rfl rfl rfl rfl (by kernel_rfl) ?_)
          (first | refine ga_skip 10 rfl rfl rfl rfl rfl rfl rfl rfl (by kernel_rfl) ?_ | refine ga_skip_un 10 rfl rfl rfl rfl rfl rfl rfl (by kernel_rfl) ?_ | refine ga_free_g 10 rfl ((s_lss_str rfl rfl).eq (congrArg Value.bool hq.symm)) rfl rfl rfl rfl rfl rfl (by kernel_rfl) ?_)
          refine ga_free 11 rfl (by first | exact s_pick_t rfl rfl | exact s_pick_f rfl rfl) rfl rfl rfl (by kernel_rfl) ?_
          refine ga_done (by kernel_rfl) ?_
          repeat (first | refine g_seq ?_ | refine at_code ?_ | refine g_skip ?_ | refine g_block ?_ | refine g_exit rfl ?_ | refine g_cond_t rfl ?_ | refine g_cond_f rfl ?_)
          repeat (first | refine g_seq ?_ | refine at_code ?_ | refine g_skip ?_ | refine g_block ?_ | refine g_exit rfl ?_ | refine g_cond_t rfl ?_ | refine g_cond_f rfl ?_)
          refine g_region ?_
          refine gl_f (s_move rfl) rfl rfl rfl ?_
          refine gl_r (by first | exact s_load_blkW rfl (by repeat first|exact .del|apply Upd.there) (by rfl) | exact s_load_blkN rfl (by repeat first|exact .del|apply Upd.there) (by rfl) | exact s_loadN rfl (fun w hw => peekBN hw (by assumption)) (by rfl)) rfl rfl rfl ?_
          refine gl_buildSliceU rfl rfl rfl rfl rfl rfl (xs := flV [(n, s)]) rfl rfl ?_; intro a4 ha4
          refine gl_append rfl rfl (fun a' c' => .there .here) (fun w hw => (hw.ownN (by repeat first|exact .del|apply Upd.there)).2.2.1) rfl rfl rfl (flV_one _) (by show (_ + 1) * 32 ≤ _; omega) (by omega) rfl ?_; intro a5 c5 hc5
          refine gl_f (s_assign rfl) rfl rfl rfl ?_
          refine gl_nil ?_
          repeat (first | refine g_seq ?_ | refine at_code ?_ | refine g_skip ?_ | refine g_block ?_ | refine g_exit rfl ?_ | refine g_cond_t rfl ?_ | refine g_cond_f rfl ?_)
          repeat (first | refine g_seq ?_ | refine at_code ?_ | refine g_skip ?_ | refine g_block ?_ | refine g_exit rfl ?_ | refine g_cond_t rfl ?_ | refine g_cond_f rfl ?_)
          refine g_region ?_
          refine gl_f (s_assign rfl) rfl rfl rfl ?_
          refine gl_nil ?_
          repeat (first | refine g_seq ?_ | refine at_code ?_ | refine g_skip ?_ | refine g_block ?_ | refine g_exit rfl ?_ | refine g_cond_t rfl ?_ | refine g_cond_f rfl ?_)
          refine g_region ?_
          refine gl_f (s_move rfl) rfl rfl rfl ?_
          refine gl_f (s_move rfl) rfl rfl rfl ?_
          refine gl_f (s_move rfl) rfl rfl rfl ?_
          refine gl_f (s_indexAddr rfl (by assumption) rfl (by omega)) rfl rfl rfl ?_
          refine gl_r (s_loadN rfl (fun w hw => rdF_own (a := la) (l := l) hw (by repeat first|exact .del|apply Upd.there) (i := k) (by omega) hk') rfl) rfl rfl rfl ?_
          refine gl_buildSliceU rfl rfl rfl rfl rfl rfl (xs := flV [l.getD k F0]) rfl rfl ?_; intro a6 ha6
          refine gl_append rfl rfl (fun a' c' => .there (.there .here)) (fun w hw => (hw.ownN (by repeat first|exact .del|apply Upd.there)).2.2.1) rfl rfl rfl (flV_one _) (by show (_ + 1 + 1) * 32 ≤ _; omega) (by omega) rfl ?_; intro a7 c7 hc7
          refine gl_f (s_assign rfl) rfl rfl rfl ?_
          refine gl_nil ?_
          repeat (first | refine g_seq ?_ | refine at_code ?_ | refine g_skip ?_ | refine g_block ?_ | refine g_exit rfl ?_ | refine g_cond_t rfl ?_ | refine g_cond_f rfl ?_)
          repeat (first | refine g_seq ?_ | refine at_code ?_ | refine g_skip ?_ | refine g_block ?_ | refine g_exit rfl ?_ | refine g_cond_t rfl ?_ | refine g_cond_f rfl ?_)
          refine g_region ?_
          refine gl_f (s_move rfl) rfl rfl rfl ?_
          refine gl_f (s_add_i64 rfl rfl (by omega)) rfl rfl rfl ?_
          refine gl_f (s_assign rfl) rfl rfl rfl ?_
          refine gl_nil ?_
          repeat (first | refine g_seq ?_ | refine at_code ?_ | refine g_skip ?_ | refine g_block ?_ | refine g_exit rfl ?_ | refine g_cond_t rfl ?_ | refine g_cond_f rfl ?_)
          refine at_next (k + 1, true, out ++ [(n, s)] ++ [l.getD k F0], a7, c7) ⟨by simp only; omega, hI'⟩ (by simp only; omega) ?_ ?_
          · simp only [List.length_append, List.length_cons, List.length_nil, Nat.zero_add]
            (repeat (first | exact Sub.nil _ | refine Sub.cons rfl ?_))
          · intro w hw
            simp only
            rw [own_snoc, List.length_append, flV_append]
            exact hw.drop.drop
      · have hI' := with_more hI hk'
        repeat (first | refine g_seq ?_ | refine at_code ?_ | refine g_skip ?_ | refine g_block ?_ | refine g_exit rfl ?_ | refine g_cond_t rfl ?_ | refine g_cond_f rfl ?_)
        refine g_draw [4, 9] [] 12 rfl ?_
        refine ga_free 0 rfl (s_move rfl) rfl rfl rfl (by kernel_rfl) ?_
        refine ga_free 1 rfl (s_not rfl) rfl rfl rfl (by kernel_rfl) ?_
        refine ga_free 2 rfl (s_move rfl) rfl rfl rfl (by kernel_rfl) ?_
        (first | refine ga_skip 3 rfl rfl rfl rfl rfl rfl rfl rfl (by kernel_rfl) ?_ | refine ga_skip_un 3 rfl rfl rfl rfl rfl rfl rfl (by kernel_rfl) ?_ | refine ga_free_g 3 rfl (by first | exact s_fieldAddr rfl (by rfl) (by infer_instance) (by decide) | exact s_fieldAddr_o rfl (by assumption) (by rfl) (by infer_instance) (by decide)) rfl rfl rfl rfl rfl rfl (by kernel_rfl) ?_)
        (first | refine ga_skip 4 rfl rfl rfl rfl rfl rfl rfl rfl (by kernel_rfl) ?_ | refine ga_skip_un 4 rfl rfl rfl rfl rfl rfl rfl (by kernel_rfl) ?_ | refine ga_read_kg 4 rfl (by first | exact .head _ | exact .tail _ (.head _) | exact .tail _ (.tail _ (.head _)) | exact .tail _ (.tail _ (.tail _ (.head _)))) (s_load_blk rfl .del (by rfl)) (by (first | exact fun _ h => h | (repeat first | exact sub_nil | refine sub_cons (by repeat first | exact List.Mem.head _ | apply List.Mem.tail) ?_))) rfl rfl rfl rfl rfl rfl (by kernel_rfl) ?_ | refine ga_readF_g 4 rfl (s_load1 rfl (fun w hw => peekB hw (by assumption) (by rfl))) (by (first | exact fun _ h => h | (repeat first | exact sub_nil | refine sub_cons (by repeat first | exact List.Mem.head _ | apply List.Mem.tail) ?_))) rfl rfl rfl rfl rfl rfl (by kernel_rfl) ?_)
        (first | refine ga_skip 5 rfl rfl rfl rfl rfl rfl rfl rfl (by kernel_rfl) ?_ | refine ga_skip_un 5 rfl rfl rfl rfl rfl rfl rfl (by kernel_rfl) ?_ | refine ga_free_g 5 rfl (s_move rfl) rfl rfl rfl rfl rfl rfl (by kernel_rfl) ?_)
        (first | refine ga_skip 6 rfl rfl rfl rfl rfl rfl rfl rfl (by kernel_rfl) ?_ | refine ga_skip_un 6 rfl rfl rfl rfl rfl rfl rfl (by kernel_rfl) ?_ | refine ga_free_g 6 rfl (s_move rfl) rfl rfl rfl rfl rfl rfl (by kernel_rfl) ?_)
        (first | refine ga_skip 7 rfl rfl rfl rfl rfl rfl rfl rfl (by kernel_rfl) ?_ | refine ga_skip_un 7 rfl rfl rfl rfl rfl rfl rfl (by kernel_rfl) ?_ | refine ga_free_g 7 rfl (s_indexAddr rfl (by assumption) rfl (by omega)) rfl rfl rfl rfl rfl rfl (by kernel_rfl) ?_)
        (first | refine ga_skip 8 rfl rfl rfl rfl rfl rfl rfl rfl (by kernel_rfl) ?_ | refine ga_skip_un 8 rfl rfl rfl rfl rfl rfl rfl (by kernel_rfl) ?_ | refine ga_free_g 8 rfl (by first | exact s_fieldAddr rfl (by rfl) (by infer_instance) (by decide) | exact s_fieldAddr_o rfl (by assumption) (by rfl) (by infer_instance) (by decide)) rfl rfl rfl rfl rfl rfl (by kernel_rfl) ?_)
        (first | refine ga_skip 9 rfl rfl rfl rfl rfl rfl rfl rfl (by kernel_rfl) ?_ | refine ga_skip_un 9 rfl rfl rfl rfl rfl rfl rfl (by kernel_rfl) ?_ | refine ga_read_kg 9 rfl (by first | exact .head _ | exact .tail _ (.head _) | exact .tail _ (.tail _ (.head _)) | exact .tail _ (.tail _ (.tail _ (.head _)))) (s_load_blk rfl .del (by rfl)) (by (first | exact fun _ h => h | (repeat first | exact sub_nil | refine sub_cons (by repeat first | exact List.Mem.head _ | apply List.Mem.tail) ?_))) rfl rfl rfl rfl rfl rfl (by kernel_rfl) ?_ | refine ga_readF_g 9 rfl (s_load1 rfl (fun w hw => peekB hw (by assumption) (by rfl))) (by (first | exact fun _ h => h | (repeat first | exact sub_nil | refine sub_cons (by repeat first | exact List.Mem.head _ | apply List.Mem.tail) ?_))) rfl rfl rfl rfl rfl rfl (by kernel_rfl) ?_)
        (first | refine ga_skip 10 rfl rfl rfl rfl rfl rfl rfl rfl (by kernel_rfl) ?_ | refine ga_skip_un 10 rfl rfl rfl rfl rfl rfl rfl (by kernel_rfl) ?_ | refine ga_free_g 10 rfl (s_lss_str rfl rfl) rfl rfl rfl rfl rfl rfl (by kernel_rfl) ?_)
        refine ga_free 11 rfl (by first | exact s_pick_t rfl rfl | exact s_pick_f rfl rfl) rfl rfl rfl (by kernel_rfl) ?_
        refine ga_done (by kernel_rfl) ?_
        repeat (first | refine g_seq ?_ | refine at_code ?_ | refine g_skip ?_ | refine g_block ?_ | refine g_exit rfl ?_ | refine g_cond_t rfl ?_ | refine g_cond_f rfl ?_)
        repeat (first | refine g_seq ?_ | refine at_code ?_ | refine g_skip ?_ | refine g_block ?_ | refine g_exit rfl ?_ | refine g_cond_t rfl ?_ | refine g_cond_f rfl ?_)
        refine g_region ?_
        refine gl_f (s_move rfl) rfl rfl rfl ?_
        refine gl_f (s_move rfl) rfl rfl rfl ?_
        refine gl_f (s_move rfl) rfl rfl rfl ?_
        refine gl_f (s_indexAddr rfl (by assumption) rfl (by omega)) rfl rfl rfl ?_
        refine gl_r (s_loadN rfl (fun w hw => rdF_own (a := la) (l := l) hw (by repeat first|exact .del|apply Upd.there) (i := k) (by omega) hk') rfl) rfl rfl rfl ?_
        refine gl_buildSliceU rfl rfl rfl rfl rfl rfl (xs := flV [l.getD k F0]) rfl rfl ?_; intro a4 ha4
        refine gl_append rfl rfl (fun a' c' => .there .here) (fun w hw => (hw.ownN (by repeat first|exact .del|apply Upd.there)).2.2.1) rfl rfl rfl (flV_one _) (by show (_ + 1) * 32 ≤ _; omega) (by omega) rfl ?_; intro a5 c5 hc5
        refine gl_f (s_assign rfl) rfl rfl rfl ?_
        refine gl_nil ?_
        repeat (first | refine g_seq ?_ | refine at_code ?_ | refine g_skip ?_ | refine g_block ?_ | refine g_exit rfl ?_ | refine g_cond_t rfl ?_ | refine g_cond_f rfl ?_)
        repeat (first | refine g_seq ?_ | refine at_code ?_ | refine g_skip ?_ | refine g_block ?_ | refine g_exit rfl ?_ | refine g_cond_t rfl ?_ | refine g_cond_f rfl ?_)
        refine g_region ?_
        refine gl_f (s_move rfl) rfl rfl rfl ?_
        refine gl_f (s_add_i64 rfl rfl (by omega)) rfl rfl rfl ?_
        refine gl_f (s_assign rfl) rfl rfl rfl ?_
        refine gl_nil ?_
        repeat (first | refine g_seq ?_ | refine at_code ?_ | refine g_skip ?_ | refine g_block ?_ | refine g_exit rfl ?_ | refine g_cond_t rfl ?_ | refine g_cond_f rfl ?_)
        refine at_next (k + 1, true, out ++ [l.getD k F0], a5, c5) ⟨by simp only; omega, hI'⟩ (by simp only; omega) ?_ ?_
        · simp only [List.length_append, List.length_cons, List.length_nil, Nat.zero_add]
          (repeat (first | exact Sub.nil _ | refine Sub.cons rfl ?_))
        · intro w hw
          simp only
          rw [own_snoc]
          exact hw.drop
    · have hkl : k = l.length := by simp at h; omega
      subst hkl
      repeat (first | refine g_seq ?_ | refine at_code ?_ | refine g_skip ?_ | refine g_block ?_ | refine g_exit rfl ?_ | refine g_cond_t rfl ?_ | refine g_cond_f rfl ?_)
      have holf : ((out.length, false, out, oa, oc) : Nat × Bool × List Fl × Option Addr × Nat).snd.snd.fst.length ≤ l.length + 1 := hol
      cases done
      · obtain ⟨h1, h2⟩ := hI.no rfl
        rw [List.take_length] at h1 h2
        subst h2
        have e : withL l0 n s = out ++ [(n, s)] := by
          rw [withL, ← hle]
          have := ins_not (f := (n, s)) [] h1
          simpa [insL] using this
        repeat (first | refine g_seq ?_ | refine at_code ?_ | refine g_skip ?_ | refine g_block ?_ | refine g_exit rfl ?_ | refine g_cond_t rfl ?_ | refine g_cond_f rfl ?_)
        refine g_region ?_
        refine gl_f (s_move rfl) rfl rfl rfl ?_
        refine gl_f (s_not rfl) rfl rfl rfl ?_
        refine gl_nil ?_
        repeat (first | refine g_seq ?_ | refine at_code ?_ | refine g_skip ?_ | refine g_block ?_ | refine g_exit rfl ?_ | refine g_cond_t rfl ?_ | refine g_cond_f rfl ?_)
        refine g_region ?_
        refine gl_f (s_move rfl) rfl rfl rfl ?_
        refine gl_r (by first | exact s_load_blkW rfl (by repeat first|exact .del|apply Upd.there) (by rfl) | exact s_load_blkN rfl (by repeat first|exact .del|apply Upd.there) (by rfl) | exact s_loadN rfl (fun w hw => peekBN hw (by assumption)) (by rfl)) rfl rfl rfl ?_
        refine gl_buildSliceU rfl rfl rfl rfl rfl rfl (xs := flV [(n, s)]) rfl rfl ?_; intro a4 ha4
        refine gl_append rfl rfl (fun a' c' => .there .here) (fun w hw => (hw.ownN (by repeat first|exact .del|apply Upd.there)).2.2.1) rfl rfl rfl (flV_one _) (by show (_ + 1) * 32 ≤ _; omega) (by omega) rfl ?_; intro a5 c5 hc5
        refine gl_f (s_assign rfl) rfl rfl rfl ?_
        refine gl_nil ?_
        repeat (first | refine g_seq ?_ | refine at_code ?_ | refine g_skip ?_ | refine g_block ?_ | refine g_exit rfl ?_ | refine g_cond_t rfl ?_ | refine g_cond_f rfl ?_)
        repeat (first | refine g_seq ?_ | refine at_code ?_ | refine g_skip ?_ | refine g_block ?_ | refine g_exit rfl ?_ | refine g_cond_t rfl ?_ | refine g_cond_f rfl ?_)
        refine g_region ?_
        refine gl_f (s_move rfl) rfl rfl rfl ?_
        refine gl_f (s_assign rfl) rfl rfl rfl ?_
        refine gl_nil ?_
        repeat (first | refine g_seq ?_ | refine at_code ?_ | refine g_skip ?_ | refine g_block ?_ | refine g_exit rfl ?_ | refine g_cond_t rfl ?_ | refine g_cond_f rfl ?_)
        refine g_ret ?_
        rw [e]
        refine at_end1 rfl rfl [OwnF a5 (out ++ [(n, s)]) c5] ⟨a5, c5, by simp, rfl⟩ (fun w hw => ?_)
        rw [own_snoc]
        exact Hp.left (R := [_, _]) hw.drop
      · obtain ⟨h1, h2⟩ := hI.yes rfl
        rw [List.take_length] at h2
        have e : withL l0 n s = out := by rw [withL, ← hle, h2]
        repeat (first | refine g_seq ?_ | refine at_code ?_ | refine g_skip ?_ | refine g_block ?_ | refine g_exit rfl ?_ | refine g_cond_t rfl ?_ | refine g_cond_f rfl ?_)
        refine g_region ?_
        refine gl_f (s_move rfl) rfl rfl rfl ?_
        refine gl_f (s_not rfl) rfl rfl rfl ?_
        refine gl_nil ?_
        repeat (first | refine g_seq ?_ | refine at_code ?_ | refine g_skip ?_ | refine g_block ?_ | refine g_exit rfl ?_ | refine g_cond_t rfl ?_ | refine g_cond_f rfl ?_)
        repeat (first | refine g_seq ?_ | refine at_code ?_ | refine g_skip ?_ | refine g_block ?_ | refine g_exit rfl ?_ | refine g_cond_t rfl ?_ | refine g_cond_f rfl ?_)
        refine g_region ?_
        refine gl_f (s_move rfl) rfl rfl rfl ?_
        refine gl_f (s_assign rfl) rfl rfl rfl ?_
        refine gl_nil ?_
        repeat (first | refine g_seq ?_ | refine at_code ?_ | refine g_skip ?_ | refine g_block ?_ | refine g_exit rfl ?_ | refine g_cond_t rfl ?_ | refine g_cond_f rfl ?_)
        refine g_ret ?_
        rw [e]
        exact at_end1 rfl rfl [OwnF oa out oc] ⟨oa, oc, rfl, rfl⟩ (fun w hw => Hp.left (R := [_, _]) hw)
end Go.Proofs.Ytolgclfbllcjhaa
