/- The walks of heap.Push and heap.Pop over the indices. -/
import Derived.Test.YtodcghipfolejaaCQH4
namespace Go.Proofs.Ytodcghipfolejaa
open Go Go.Sl
set_option linter.unusedVariables false
set_option linter.unusedSimpArgs false

theorem HPush_ct (b : Nat) (a : Option Addr) (c : Nat) (xs : List Int) (v : Int) (hm : Mx xs xs.length) (hl : xs.length ≤ 100000000) :
    Ct Try.prog 69 [Ifc b, .iface 27 (.int .u64 v)] (fun _ => True) (HX b a c xs) (fun u A => u = .tuple #[] ∧ ∃ a' c' ys, ys.Perm (xs ++ [v]) ∧ ys.length = xs.length + 1 ∧ Mx ys ys.length ∧ A = HX b a' c' ys) := by
  have hlen : (xs ++ [v]).length = xs.length + 1 := by simp
  refine ct_enter 12 Try.func69 rfl rfl rfl ?_
  intro F _
  repeat (first | refine g_seq ?_ | refine at_code ?_ | refine g_skip ?_ | refine g_block ?_ | refine g_exit rfl ?_ | refine g_cond_t rfl ?_ | refine g_cond_f rfl ?_)
  refine g_region ?_
  refine gl_f (s_move rfl) rfl rfl rfl ?_
  refine gl_f (s_move rfl) rfl rfl rfl ?_
  refine gl_invoke [] rfl rfl row_push (MPush_ct b a c xs v (by omega)) (fun w hw => hw) (fun _ _ _ => trivial) rfl ?_; rintro u A ⟨rfl, a', c', rfl⟩
  refine gl_nil ?_
  repeat (first | refine g_seq ?_ | refine at_code ?_ | refine g_skip ?_ | refine g_block ?_ | refine g_exit rfl ?_ | refine g_cond_t rfl ?_ | refine g_cond_f rfl ?_)
  refine g_pull (H' := HX b a' c' (xs ++ [v])) (fun w hw => hw) ?_
  repeat (first | refine g_seq ?_ | refine at_code ?_ | refine g_skip ?_ | refine g_block ?_ | refine g_exit rfl ?_ | refine g_cond_t rfl ?_ | refine g_cond_f rfl ?_)
  refine g_region ?_
  refine gl_f (s_move rfl) rfl rfl rfl ?_
  refine gl_f (s_move rfl) rfl rfl rfl ?_
  refine gl_invokeV (HX b a' c' (xs ++ [v])) rfl rfl row_len (fun w hw => peek_blk hw .del rfl) (Len_ct a' (xs ++ [v]).length c') (fun w hw => hw) (fun _ _ _ => trivial) rfl ?_; rintro u A ⟨rfl, rfl⟩
  refine gl_f ((s_sub_i64 rfl rfl (by omega)).eq (v' := .int .i64 (xs.length : Nat)) (by congr 1; omega)) rfl rfl rfl ?_
  refine gl_call [] rfl (up_ct b a' c' (xs ++ [v]) xs.length (by omega) (up_start hm) (by omega)) (fun w hw => hw) (fun _ _ _ => trivial) rfl ?_; rintro u A ⟨rfl, ys, hp, hyl, hmy, rfl⟩
  refine gl_nil ?_
  repeat (first | refine g_seq ?_ | refine at_code ?_ | refine g_skip ?_ | refine g_block ?_ | refine g_exit rfl ?_ | refine g_cond_t rfl ?_ | refine g_cond_f rfl ?_)
  exact at_end0 rfl _ ⟨rfl, a', c', ys, hp, by omega, hmy, rfl⟩ (fun w hw => hw)

theorem pop_perm {xs ws : List Int} {n : Nat} (hx : xs.length = n + 1) (hd : Dn (swp xs 0 n) ws n) : (xs.getD 0 0 :: ws.take n).Perm xs := by
  have hl : ws.length = n + 1 := by rw [hd.len, swp_length, hx]
  have h1 : ws.getD n 0 = xs.getD 0 0 := by
    rw [hd.far n (Nat.le_refl _), swp_get (by omega) (by omega), if_pos rfl]
  have h2 : ws = ws.take n ++ [xs.getD 0 0] := by
    have h3 : ws.take (n + 1) = ws := List.take_of_length_le (by omega)
    rw [← h1]
    conv => lhs; rw [← h3]
    rw [List.take_succ_eq_append_getElem (by omega)]
    simp [hl]
  have h4 : (xs.getD 0 0 :: ws.take n).Perm ws := by
    conv => rhs; rw [h2]
    exact (List.perm_append_singleton _ _).symm
  exact h4.trans (hd.perm.trans (swp_perm (by omega) (by omega)))
theorem pop_mx {ws : List Int} {n : Nat} (h : Mx ws n) : Mx (ws.take n) n := fun k h0 hk => by
  have e : ∀ i, i < n → (ws.take n).getD i 0 = ws.getD i 0 := fun i hi => by
    simp only [List.getD_eq_getElem?_getD, List.getElem?_take, if_pos hi]
  rw [e k hk, e _ (by omega)]
  exact h k h0 hk
theorem HPop_ct (b : Nat) (a : Option Addr) (c : Nat) (xs : List Int) (hm : Mx xs xs.length) (h0 : 0 < xs.length) (hl : xs.length ≤ 100000000) :
    Ct Try.prog 70 [Ifc b] (fun _ => True) (HX b a c xs) (fun u A => ∃ ys, (xs.getD 0 0 :: ys).Perm xs ∧ ys.length = xs.length - 1 ∧ Mx ys ys.length ∧ A = HX b a c ys) := by
  obtain ⟨n, hn⟩ : ∃ n, xs.length = n + 1 := ⟨xs.length - 1, by omega⟩
  have hsl := swp_length xs 0 n
  have hst : DnI (swp xs 0 n) n 0 := by have := dn_start hm h0; rwa [hn, Nat.add_sub_cancel] at this
  refine ct_enter 15 Try.func70 rfl rfl rfl ?_
  intro F _
  repeat (first | refine g_seq ?_ | refine at_code ?_ | refine g_skip ?_ | refine g_block ?_ | refine g_exit rfl ?_ | refine g_cond_t rfl ?_ | refine g_cond_f rfl ?_)
  refine g_region ?_
  refine gl_f (s_assign rfl) rfl rfl rfl ?_
  refine gl_nil ?_
  repeat (first | refine g_seq ?_ | refine at_code ?_ | refine g_skip ?_ | refine g_block ?_ | refine g_exit rfl ?_ | refine g_cond_t rfl ?_ | refine g_cond_f rfl ?_)
  repeat (first | refine g_seq ?_ | refine at_code ?_ | refine g_skip ?_ | refine g_block ?_ | refine g_exit rfl ?_ | refine g_cond_t rfl ?_ | refine g_cond_f rfl ?_)
  refine g_region ?_
  refine gl_f (s_move rfl) rfl rfl rfl ?_
  refine gl_invokeV (HX b a c xs) rfl rfl row_len (fun w hw => peek_blk hw .del rfl) (Len_ct a xs.length c) (fun w hw => hw) (fun _ _ _ => trivial) rfl ?_; rintro u A ⟨rfl, rfl⟩
  refine gl_f ((s_sub_i64 rfl rfl (by omega)).eq (v' := .int .i64 (n : Nat)) (by congr 1; omega)) rfl rfl rfl ?_
  refine gl_f (s_assign rfl) rfl rfl rfl ?_
  refine gl_nil ?_
  repeat (first | refine g_seq ?_ | refine at_code ?_ | refine g_skip ?_ | refine g_block ?_ | refine g_exit rfl ?_ | refine g_cond_t rfl ?_ | refine g_cond_f rfl ?_)
  refine g_pull (H' := [.blk b (.cells #[.slice a xs.length c] 103), HU64 a c xs]) (fun w hw => hw) ?_
  repeat (first | refine g_seq ?_ | refine at_code ?_ | refine g_skip ?_ | refine g_block ?_ | refine g_exit rfl ?_ | refine g_cond_t rfl ?_ | refine g_cond_f rfl ?_)
  refine g_region ?_
  refine gl_f (s_move rfl) rfl rfl rfl ?_
  refine gl_f (s_move rfl) rfl rfl rfl ?_
  refine gl_invokeV [.blk b (.cells #[.slice a xs.length c] 103)] rfl rfl row_swap (fun w hw => peek_blk hw .del rfl) (Swap_ct xs 0 n _ _ rfl rfl a c (by omega) (by omega)) (fun w hw => hw.front (.there .del)) (fun _ _ _ => trivial) rfl ?_; rintro v A ⟨rfl, rfl⟩
  refine gl_nil ?_
  repeat (first | refine g_seq ?_ | refine at_code ?_ | refine g_skip ?_ | refine g_block ?_ | refine g_exit rfl ?_ | refine g_cond_t rfl ?_ | refine g_cond_f rfl ?_)
  refine g_pull (H' := HX b a c (swp xs 0 n)) (fun w hw => by unfold HX; rw [hsl]; exact hw.front (.there .del)) ?_
  repeat (first | refine g_seq ?_ | refine at_code ?_ | refine g_skip ?_ | refine g_block ?_ | refine g_exit rfl ?_ | refine g_cond_t rfl ?_ | refine g_cond_f rfl ?_)
  refine g_region ?_
  refine gl_f (s_move rfl) rfl rfl rfl ?_
  refine gl_f (s_move rfl) rfl rfl rfl ?_
  refine gl_call [] rfl (down_ct b a c (swp xs 0 n) n (by omega) hst (by omega)) (fun w hw => hw) (fun _ _ _ => trivial) rfl ?_; rintro u A ⟨ws, hD, hmw, rfl⟩
  refine gl_nil ?_
  repeat (first | refine g_seq ?_ | refine at_code ?_ | refine g_skip ?_ | refine g_block ?_ | refine g_exit rfl ?_ | refine g_cond_t rfl ?_ | refine g_cond_f rfl ?_)
  have hwl : ws.length = n + 1 := by rw [hD.len, hsl, hn]
  refine g_pull (H' := HX b a c ws) (fun w hw => hw) ?_
  repeat (first | refine g_seq ?_ | refine at_code ?_ | refine g_skip ?_ | refine g_block ?_ | refine g_exit rfl ?_ | refine g_cond_t rfl ?_ | refine g_cond_f rfl ?_)
  refine g_region ?_
  refine gl_f (s_move rfl) rfl rfl rfl ?_
  refine gl_invoke [] rfl rfl row_pop (MPop_ct b a c ws (by omega) (by omega)) (fun w hw => hw) (fun _ _ _ => trivial) rfl ?_; rintro u A ⟨⟨v, rfl⟩, rfl⟩
  refine gl_f (s_assign rfl) rfl rfl rfl ?_
  refine gl_nil ?_
  repeat (first | refine g_seq ?_ | refine at_code ?_ | refine g_skip ?_ | refine g_block ?_ | refine g_exit rfl ?_ | refine g_cond_t rfl ?_ | refine g_cond_f rfl ?_)
  refine g_ret ?_
  have e : ws.length - 1 = n := by omega
  have e2 : (ws.take n).length = n := by rw [List.length_take]; omega
  rw [e]
  exact at_end1 rfl rfl _ ⟨ws.take n, pop_perm hn hD, by omega, by rw [e2]; exact pop_mx hmw, rfl⟩ (fun w hw => hw)
end Go.Proofs.Ytodcghipfolejaa
