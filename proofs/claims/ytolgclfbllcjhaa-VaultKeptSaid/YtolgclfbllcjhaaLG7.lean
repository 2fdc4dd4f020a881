/- The walks of the digits: Hex and Unhex, the program's and the reference's. -/
import Derived.Test.YtolgclfbllcjhaaLG6
namespace Go.Proofs.Ytolgclfbllcjhaa.Dg
open Go Go.Sl
set_option linter.unusedVariables false
set_option linter.unusedSimpArgs false

def hexdig : List UInt8 := [48, 49, 50, 51, 52, 53, 54, 55, 56, 57, 97, 98, 99, 100, 101, 102]
def hexd (n : Nat) : UInt8 := hexdig.getD n 0
def hex1 (b : UInt8) : List UInt8 := [hexd (b.toNat / 16), hexd (b.toNat % 16)]
def hexs (l : List UInt8) : List UInt8 := l.flatMap hex1
theorem hexs_append (a b : List UInt8) : hexs (a ++ b) = hexs a ++ hexs b := by simp [hexs]
theorem hexs_length (l : List UInt8) : (hexs l).length = 2 * l.length := by
  induction l with
  | nil => rfl
  | cons b l ih => simp only [hexs, List.flatMap_cons, List.length_append, List.length_cons] at *; rw [ih]; simp [hex1]; omega
theorem take_succ_getD (l : List UInt8) {k : Nat} (h : k < l.length) : l.take (k + 1) = l.take k ++ [l.getD k 0] := by
  rw [List.take_succ_eq_append_getElem h]; simp [h]
theorem hi_val (b : UInt8) : Value.int .u8 (((b.toNat : Nat) : Int).fdiv (2 ^ (min (4 : Int).toNat IntKind.u8.bits))) = .int .u8 ((b.toNat / 16 : Nat) : Int) := by
  rw [Int.fdiv_eq_ediv_of_nonneg _ (by exact Int.pow_nonneg (by decide))]
  congr 1
theorem lo_val (b : UInt8) : Value.int .u8 (bits .and .u8 ((b.toNat : Nat) : Int) 15) = .int .u8 ((b.toNat % 16 : Nat) : Int) := by
  have h : ∀ n : Fin 256, bits .and .u8 ((n.val : Nat) : Int) 15 = ((n.val % 16 : Nat) : Int) := by decide +kernel
  exact congrArg _ (h ⟨b.toNat, b.toNat_lt⟩)
theorem hexd_val {n : Nat} (h : n < 16) : Value.int .u8 ((hexdig.getD ((n : Int)).toNat 0).toNat : Nat) = .int .u8 ((hexd n).toNat : Nat) := rfl

theorem digit_ct (c : UInt8) : Pu Try.prog 88 [.int .u8 (c.toNat : Nat)] (fun _ => True) (.int .i64 (if (97 : Int) ≤ (c.toNat : Nat) then ((c.toNat : Nat) : Int) - 97 + 10 else ((c.toNat : Nat) : Int) - 48)) := by
  have hc := c.toNat_lt
  refine ct_enter 12 Try.func88 rfl rfl rfl ?_
  intro F _
  repeat (first | refine g_seq ?_ | refine at_code ?_ | refine g_skip ?_ | refine g_block ?_ | refine g_exit rfl ?_ | refine g_cond_t rfl ?_ | refine g_cond_f rfl ?_)
  refine g_region ?_
  refine gl_f (s_assign rfl) rfl rfl rfl ?_
  refine gl_nil ?_
  repeat (first | refine g_seq ?_ | refine at_code ?_ | refine g_skip ?_ | refine g_block ?_ | refine g_exit rfl ?_ | refine g_cond_t rfl ?_ | refine g_cond_f rfl ?_)
  refine g_region ?_
  refine gl_f (s_move rfl) rfl rfl rfl ?_
  refine gl_f (s_geq rfl rfl) rfl rfl rfl ?_
  refine gl_nil ?_
  repeat (first | refine g_seq ?_ | refine at_code ?_ | refine g_skip ?_ | refine g_block ?_ | refine g_exit rfl ?_ | refine g_cond_t rfl ?_ | refine g_cond_f rfl ?_)
  refine g_cond rfl (fun h => ?_) (fun h => ?_)
  · have h' : (97 : Int) ≤ (c.toNat : Nat) := by simpa using h
    rw [if_pos h']
    repeat (first | refine g_seq ?_ | refine at_code ?_ | refine g_skip ?_ | refine g_block ?_ | refine g_exit rfl ?_ | refine g_cond_t rfl ?_ | refine g_cond_f rfl ?_)
    refine g_region ?_
    refine gl_f (s_move rfl) rfl rfl rfl ?_
    refine gl_f (s_conv_keep_i64 rfl (by omega)) rfl rfl rfl ?_
    refine gl_f (s_sub_i64 rfl rfl (by omega)) rfl rfl rfl ?_
    refine gl_f (s_add_i64 rfl rfl (by omega)) rfl rfl rfl ?_
    refine gl_f (s_assign rfl) rfl rfl rfl ?_
    refine gl_nil ?_
    repeat (first | refine g_seq ?_ | refine at_code ?_ | refine g_skip ?_ | refine g_block ?_ | refine g_exit rfl ?_ | refine g_cond_t rfl ?_ | refine g_cond_f rfl ?_)
    refine g_ret ?_
    exact at_end1 rfl rfl [] ⟨rfl, rfl⟩ (fun _ h => h)
  · have h' : ¬ (97 : Int) ≤ (c.toNat : Nat) := by simpa using h
    rw [if_neg h']
    repeat (first | refine g_seq ?_ | refine at_code ?_ | refine g_skip ?_ | refine g_block ?_ | refine g_exit rfl ?_ | refine g_cond_t rfl ?_ | refine g_cond_f rfl ?_)
    refine g_region ?_
    refine gl_f (s_move rfl) rfl rfl rfl ?_
    refine gl_f (s_conv_keep_i64 rfl (by omega)) rfl rfl rfl ?_
    refine gl_f (s_sub_i64 rfl rfl (by omega)) rfl rfl rfl ?_
    refine gl_f (s_assign rfl) rfl rfl rfl ?_
    refine gl_nil ?_
    repeat (first | refine g_seq ?_ | refine at_code ?_ | refine g_skip ?_ | refine g_block ?_ | refine g_exit rfl ?_ | refine g_cond_t rfl ?_ | refine g_cond_f rfl ?_)
    refine g_ret ?_
    exact at_end1 rfl rfl [] ⟨rfl, rfl⟩ (fun _ h => h)

set_option maxHeartbeats 1000000 in
theorem Hex_ct (s : List UInt8) (hs : s.length ≤ 140737488355328) : Pu Try.prog 36 [B s] (fun _ => True) (B (hexs s)) := by
  refine ct_enter 30 Try.func36 rfl rfl rfl ?_
  intro F _
  repeat (first | refine g_seq ?_ | refine at_code ?_ | refine g_skip ?_ | refine g_block ?_ | refine g_exit rfl ?_ | refine g_cond_t rfl ?_ | refine g_cond_f rfl ?_)
  refine g_region ?_
  refine gl_f (s_assign rfl) rfl rfl rfl ?_
  refine gl_nil ?_
  repeat (first | refine g_seq ?_ | refine at_code ?_ | refine g_skip ?_ | refine g_block ?_ | refine g_exit rfl ?_ | refine g_cond_t rfl ?_ | refine g_cond_f rfl ?_)
  repeat (first | refine g_seq ?_ | refine at_code ?_ | refine g_skip ?_ | refine g_block ?_ | refine g_exit rfl ?_ | refine g_cond_t rfl ?_ | refine g_cond_f rfl ?_)
  refine g_region ?_
  refine gl_f (s_move rfl) rfl rfl rfl ?_
  refine gl_f (s_len_str rfl) rfl rfl rfl ?_
  refine gl_f (s_mul_i64 rfl rfl (by omega)) rfl rfl rfl ?_
  refine gl_make1 rfl rfl rfl (by omega) (by show (1 : Int) * _ ≤ _; omega) rfl ?_; intro a3
  refine gl_f (s_assign rfl) rfl rfl rfl ?_
  refine gl_nil ?_
  repeat (first | refine g_seq ?_ | refine at_code ?_ | refine g_skip ?_ | refine g_block ?_ | refine g_exit rfl ?_ | refine g_cond_t rfl ?_ | refine g_cond_f rfl ?_)
  repeat (first | refine g_seq ?_ | refine at_code ?_ | refine g_skip ?_ | refine g_block ?_ | refine g_exit rfl ?_ | refine g_cond_t rfl ?_ | refine g_cond_f rfl ?_)
  refine g_region ?_
  refine gl_f (s_move rfl) rfl rfl rfl ?_
  refine gl_f (s_len_str rfl) rfl rfl rfl ?_
  refine gl_f (s_move rfl) rfl rfl rfl ?_
  refine gl_nil ?_
  repeat (first | refine g_seq ?_ | refine at_code ?_ | refine g_skip ?_ | refine g_block ?_ | refine g_exit rfl ?_ | refine g_cond_t rfl ?_ | refine g_cond_f rfl ?_)
  refine g_loop (ι := Nat) (fun k => k ≤ s.length) (fun k => [(0, B s), (10, .int .i64 (s.length : Nat)), (3, .slice a3 (2 * k) (2 * s.length)), (11, .int .i64 (k : Nat))]) (fun k => [.own (.slice a3 (2 * k) (2 * s.length)) 5 1 (bytesV (hexs (s.take k)))]) (fun k => s.length - k) 0 (by omega) ?_ ?_ ?_
  · have e : (2 * (s.length : Int)).toNat = 2 * s.length := by omega
    rw [e]
    (repeat (first | exact Sub.nil _ | refine Sub.cons rfl ?_))
  · intro w hw
    have e : (2 * (s.length : Int)).toNat = 2 * s.length := by omega
    rw [e] at hw
    exact hw
  · intro k hk
    repeat (first | refine g_seq ?_ | refine at_code ?_ | refine g_skip ?_ | refine g_block ?_ | refine g_exit rfl ?_ | refine g_cond_t rfl ?_ | refine g_cond_f rfl ?_)
    refine g_region ?_
    refine gl_f (s_lss rfl rfl) rfl rfl rfl ?_
    refine gl_nil ?_
    repeat (first | refine g_seq ?_ | refine at_code ?_ | refine g_skip ?_ | refine g_block ?_ | refine g_exit rfl ?_ | refine g_cond_t rfl ?_ | refine g_cond_f rfl ?_)
    refine g_cond rfl (fun h => ?_) (fun h => ?_)
    · have hk' : k < s.length := by simp at h; omega
      have hb := (s.getD k 0).toNat_lt
      repeat (first | refine g_seq ?_ | refine at_code ?_ | refine g_skip ?_ | refine g_block ?_ | refine g_exit rfl ?_ | refine g_cond_t rfl ?_ | refine g_cond_f rfl ?_)
      refine g_region ?_
      refine gl_f (s_move rfl) rfl rfl rfl ?_
      refine gl_f (s_assign rfl) rfl rfl rfl ?_
      refine gl_nil ?_
      repeat (first | refine g_seq ?_ | refine at_code ?_ | refine g_skip ?_ | refine g_block ?_ | refine g_exit rfl ?_ | refine g_cond_t rfl ?_ | refine g_cond_f rfl ?_)
      repeat (first | refine g_seq ?_ | refine at_code ?_ | refine g_skip ?_ | refine g_block ?_ | refine g_exit rfl ?_ | refine g_cond_t rfl ?_ | refine g_cond_f rfl ?_)
      refine g_draw0 [] 14 rfl ?_
      refine ga_free 0 rfl (s_move rfl) rfl rfl rfl (by kernel_rfl) ?_
      refine ga_free 1 rfl (s_move rfl) rfl rfl rfl (by kernel_rfl) ?_
      refine ga_free 2 rfl (s_move rfl) rfl rfl rfl (by kernel_rfl) ?_
      refine ga_free 3 rfl ((s_index_str rfl rfl (by omega)).eq (v' := .int .u8 ((s.getD k 0).toNat : Nat)) rfl) rfl rfl rfl (by kernel_rfl) ?_
      refine ga_free 4 rfl ((s_shr rfl rfl (by omega)).eq (hi_val _)) rfl rfl rfl (by kernel_rfl) ?_
      refine ga_free 5 rfl ((s_index_str (l := hexdig) rfl rfl (by show _ ∧ _ < (16 : Int); omega)).eq (hexd_val (by omega))) rfl rfl rfl (by kernel_rfl) ?_
      refine ga_free 6 rfl (s_move rfl) rfl rfl rfl (by kernel_rfl) ?_
      refine ga_free 7 rfl (s_move rfl) rfl rfl rfl (by kernel_rfl) ?_
      refine ga_free 8 rfl ((s_index_str rfl rfl (by omega)).eq (v' := .int .u8 ((s.getD k 0).toNat : Nat)) rfl) rfl rfl rfl (by kernel_rfl) ?_
      refine ga_free 9 rfl ((s_bits (.inl rfl) rfl rfl).eq (lo_val _)) rfl rfl rfl (by kernel_rfl) ?_
      refine ga_free 10 rfl ((s_index_str (l := hexdig) rfl rfl (by show _ ∧ _ < (16 : Int); omega)).eq (hexd_val (by omega))) rfl rfl rfl (by kernel_rfl) ?_
      refine ga_one 11 rfl (by kernel_rfl) ?_
      refine gl_buildSliceU rfl rfl rfl rfl rfl rfl (xs := bytesV (hex1 (s.getD k 0))) rfl rfl ?_; intro a4 ha4
      refine gl_nil ?_
      refine at_ga (.inl (by kernel_rfl)) ?_
      refine ga_one 12 rfl (by kernel_rfl) ?_
      refine gl_append_room rfl rfl (.there .here) (fun w hw => (hw.ownN (by repeat first|exact .del|apply Upd.there)).2.2.1) rfl rfl (bytesV_one _) (by omega) rfl ?_
      refine gl_nil ?_
      refine at_ga (.inl (by kernel_rfl)) ?_
      refine ga_free 13 rfl (s_assign rfl) rfl rfl rfl (by kernel_rfl) ?_
      refine ga_done (by kernel_rfl) ?_
      repeat (first | refine g_seq ?_ | refine at_code ?_ | refine g_skip ?_ | refine g_block ?_ | refine g_exit rfl ?_ | refine g_cond_t rfl ?_ | refine g_cond_f rfl ?_)
      repeat (first | refine g_seq ?_ | refine at_code ?_ | refine g_skip ?_ | refine g_block ?_ | refine g_exit rfl ?_ | refine g_cond_t rfl ?_ | refine g_cond_f rfl ?_)
      refine g_region ?_
      refine gl_f (s_add_i64 rfl rfl (by omega)) rfl rfl rfl ?_
      refine gl_f (s_move rfl) rfl rfl rfl ?_
      refine gl_nil ?_
      repeat (first | refine g_seq ?_ | refine at_code ?_ | refine g_skip ?_ | refine g_block ?_ | refine g_exit rfl ?_ | refine g_cond_t rfl ?_ | refine g_cond_f rfl ?_)
      refine at_next (k + 1) (by omega) (by omega) ?_ ?_
      · (repeat (first | exact Sub.nil _ | refine Sub.cons rfl ?_))
      · intro w hw
        rw [take_succ_getD s hk', hexs_append, bytesV_append]
        exact hw.drop
    · have hkl : k = s.length := by simp at h; omega
      subst hkl
      repeat (first | refine g_seq ?_ | refine at_code ?_ | refine g_skip ?_ | refine g_block ?_ | refine g_exit rfl ?_ | refine g_cond_t rfl ?_ | refine g_cond_f rfl ?_)
      refine g_region ?_
      refine gl_f (s_move rfl) rfl rfl rfl ?_
      refine gl_r (s_string (l := hexs s) rfl (by rw [hexs_length]) (fun w hw => by have := (hw.ownN .del).2.2.1; rwa [List.take_length] at this)) rfl rfl rfl ?_
      refine gl_f (s_assign rfl) rfl rfl rfl ?_
      refine gl_nil ?_
      repeat (first | refine g_seq ?_ | refine at_code ?_ | refine g_skip ?_ | refine g_block ?_ | refine g_exit rfl ?_ | refine g_cond_t rfl ?_ | refine g_cond_f rfl ?_)
      refine g_ret ?_
      exact at_end1 rfl rfl [] ⟨rfl, rfl⟩ (fun _ h => h.dropAll)

end Go.Proofs.Ytolgclfbllcjhaa.Dg
