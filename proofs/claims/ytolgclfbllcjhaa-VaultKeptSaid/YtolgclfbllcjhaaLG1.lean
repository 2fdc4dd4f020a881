/- The walks of the words' functions: turning, laying over one another. -/
import Derived.Test.YtolgclfbllcjhaaLIn
import Derived.Test.YtolgclfbllcjhaaLGMath
namespace Go.Proofs.Ytolgclfbllcjhaa.Dg
open Go Go.Sl
set_option linter.unusedVariables false

theorem rot_and (c : Nat) (hc : 0 < c ∧ c < 32) : Value.int .u64 (bits .and .u64 (IntKind.u64.wrap (-(c : Int))) 31) = .int .u64 ((32 - c : Nat) : Int) := by
  have h1 : IntKind.u64.wrap (-(c : Int)) = ((18446744073709551616 - c : Nat) : Int) := by rw [IntKind.wrap_u64]; omega
  rw [h1, show (31 : Int) = ((31 : Nat) : Int) from rfl, u64_and_nat _ _ (by omega) (by omega), nat_mask5]
  congr 2; omega

theorem rot_ct (x : W) (c : Nat) (hc : 0 < c ∧ c < 32) : Pu Try.prog 113 [W32 x, .int .i64 (-(c : Int))] (fun _ => True) (W32 (rotr x c)) := by
  refine ct_enter 17 Try.func113 rfl rfl rfl ?_
  intro F _
  repeat (first | refine g_seq ?_ | refine at_code ?_ | refine g_skip ?_ | refine g_block ?_ | refine g_exit rfl ?_ | refine g_cond_t rfl ?_ | refine g_cond_f rfl ?_)
  refine g_region ?_
  refine gl_f (s_assign rfl) rfl rfl rfl ?_
  refine gl_nil ?_
  repeat (first | refine g_seq ?_ | refine at_code ?_ | refine g_skip ?_ | refine g_block ?_ | refine g_exit rfl ?_ | refine g_cond_t rfl ?_ | refine g_cond_f rfl ?_)
  refine g_region ?_
  refine gl_f (s_move rfl) rfl rfl rfl ?_
  refine gl_f (s_conv_int rfl) rfl rfl rfl ?_
  refine gl_f ((s_bits (.inl rfl) rfl rfl).eq (rot_and c hc)) rfl rfl rfl ?_
  refine gl_f (s_assign rfl) rfl rfl rfl ?_
  refine gl_nil ?_
  repeat (first | refine g_seq ?_ | refine at_code ?_ | refine g_skip ?_ | refine g_block ?_ | refine g_exit rfl ?_ | refine g_cond_t rfl ?_ | refine g_cond_f rfl ?_)
  repeat (first | refine g_seq ?_ | refine at_code ?_ | refine g_skip ?_ | refine g_block ?_ | refine g_exit rfl ?_ | refine g_cond_t rfl ?_ | refine g_cond_f rfl ?_)
  refine g_region ?_
  refine gl_f (s_move rfl) rfl rfl rfl ?_
  refine gl_f (s_move rfl) rfl rfl rfl ?_
  refine gl_f (s_shlW (32 - c) rfl rfl rfl (by omega)) rfl rfl rfl ?_
  refine gl_f (s_move rfl) rfl rfl rfl ?_
  refine gl_f (s_move rfl) rfl rfl rfl ?_
  refine gl_f (s_sub_u64 rfl rfl (by omega)) rfl rfl rfl ?_
  refine gl_f (s_shrW c rfl rfl (by omega) (by omega)) rfl rfl rfl ?_
  refine gl_f (s_orW rfl rfl) rfl rfl rfl ?_
  refine gl_f (s_assign rfl) rfl rfl rfl ?_
  refine gl_nil ?_
  repeat (first | refine g_seq ?_ | refine at_code ?_ | refine g_skip ?_ | refine g_block ?_ | refine g_exit rfl ?_ | refine g_cond_t rfl ?_ | refine g_cond_f rfl ?_)
  refine g_ret ?_
  exact at_end1 rfl rfl [] ⟨by rw [or_comm']; rfl, rfl⟩ (fun _ h => h)

theorem mixed_no_ct (x : W) (a b c : Nat) (a' b' c' : Int) (ea : a' = a) (eb : b' = b) (ec : c' = c) (ha : 0 < a ∧ a < 32) (hb : 0 < b ∧ b < 32) (hc : 0 < c ∧ c < 32) :
    Pu Try.prog 97 [W32 x, .int .i64 a', .int .i64 b', .int .i64 c', .bool false] (fun _ => True) (W32 (rotr x a ^^^ rotr x b ^^^ rotr x c)) := by
  subst ea eb ec
  refine ct_enter 31 Try.func97 rfl rfl rfl ?_
  intro F _
  repeat (first | refine g_seq ?_ | refine at_code ?_ | refine g_skip ?_ | refine g_block ?_ | refine g_exit rfl ?_ | refine g_cond_t rfl ?_ | refine g_cond_f rfl ?_)
  refine g_region ?_
  refine gl_f (s_assign rfl) rfl rfl rfl ?_
  refine gl_nil ?_
  repeat (first | refine g_seq ?_ | refine at_code ?_ | refine g_skip ?_ | refine g_block ?_ | refine g_exit rfl ?_ | refine g_cond_t rfl ?_ | refine g_cond_f rfl ?_)
  refine g_region ?_
  refine gl_f (s_move rfl) rfl rfl rfl ?_
  refine gl_f (s_move rfl) rfl rfl rfl ?_
  refine gl_f (s_neg rfl (by omega)) rfl rfl rfl ?_
  refine gl_callp rfl (rot_ct x c hc) (fun _ _ _ => trivial) rfl ?_
  refine gl_f (s_assign rfl) rfl rfl rfl ?_
  refine gl_nil ?_
  repeat (first | refine g_seq ?_ | refine at_code ?_ | refine g_skip ?_ | refine g_block ?_ | refine g_exit rfl ?_ | refine g_cond_t rfl ?_ | refine g_cond_f rfl ?_)
  repeat (first | refine g_seq ?_ | refine at_code ?_ | refine g_skip ?_ | refine g_block ?_ | refine g_exit rfl ?_ | refine g_cond_t rfl ?_ | refine g_cond_f rfl ?_)
  refine g_region ?_
  refine gl_f (s_move rfl) rfl rfl rfl ?_
  refine gl_nil ?_
  repeat (first | refine g_seq ?_ | refine at_code ?_ | refine g_skip ?_ | refine g_block ?_ | refine g_exit rfl ?_ | refine g_cond_t rfl ?_ | refine g_cond_f rfl ?_)
  repeat (first | refine g_seq ?_ | refine at_code ?_ | refine g_skip ?_ | refine g_block ?_ | refine g_exit rfl ?_ | refine g_cond_t rfl ?_ | refine g_cond_f rfl ?_)
  refine g_region ?_
  refine gl_f (s_move rfl) rfl rfl rfl ?_
  refine gl_f (s_move rfl) rfl rfl rfl ?_
  refine gl_f (s_neg rfl (by omega)) rfl rfl rfl ?_
  refine gl_callp rfl (rot_ct x a ha) (fun _ _ _ => trivial) rfl ?_
  refine gl_f (s_move rfl) rfl rfl rfl ?_
  refine gl_f (s_move rfl) rfl rfl rfl ?_
  refine gl_f (s_neg rfl (by omega)) rfl rfl rfl ?_
  refine gl_callp rfl (rot_ct x b hb) (fun _ _ _ => trivial) rfl ?_
  refine gl_f (s_xorW rfl rfl) rfl rfl rfl ?_
  refine gl_f (s_move rfl) rfl rfl rfl ?_
  refine gl_f (s_xorW rfl rfl) rfl rfl rfl ?_
  refine gl_f (s_assign rfl) rfl rfl rfl ?_
  refine gl_nil ?_
  repeat (first | refine g_seq ?_ | refine at_code ?_ | refine g_skip ?_ | refine g_block ?_ | refine g_exit rfl ?_ | refine g_cond_t rfl ?_ | refine g_cond_f rfl ?_)
  refine g_ret ?_
  exact at_end1 rfl rfl [] ⟨rfl, rfl⟩ (fun _ h => h)
theorem mixed_yes_ct (x : W) (a b c : Nat) (a' b' c' : Int) (ea : a' = a) (eb : b' = b) (ec : c' = c) (ha : 0 < a ∧ a < 32) (hb : 0 < b ∧ b < 32) (hc : 0 < c ∧ c < 32) :
    Pu Try.prog 97 [W32 x, .int .i64 a', .int .i64 b', .int .i64 c', .bool true] (fun _ => True) (W32 (rotr x a ^^^ rotr x b ^^^ x >>> c)) := by
  subst ea eb ec
  refine ct_enter 31 Try.func97 rfl rfl rfl ?_
  intro F _
  repeat (first | refine g_seq ?_ | refine at_code ?_ | refine g_skip ?_ | refine g_block ?_ | refine g_exit rfl ?_ | refine g_cond_t rfl ?_ | refine g_cond_f rfl ?_)
  refine g_region ?_
  refine gl_f (s_assign rfl) rfl rfl rfl ?_
  refine gl_nil ?_
  repeat (first | refine g_seq ?_ | refine at_code ?_ | refine g_skip ?_ | refine g_block ?_ | refine g_exit rfl ?_ | refine g_cond_t rfl ?_ | refine g_cond_f rfl ?_)
  refine g_region ?_
  refine gl_f (s_move rfl) rfl rfl rfl ?_
  refine gl_f (s_move rfl) rfl rfl rfl ?_
  refine gl_f (s_neg rfl (by omega)) rfl rfl rfl ?_
  refine gl_callp rfl (rot_ct x c hc) (fun _ _ _ => trivial) rfl ?_
  refine gl_f (s_assign rfl) rfl rfl rfl ?_
  refine gl_nil ?_
  repeat (first | refine g_seq ?_ | refine at_code ?_ | refine g_skip ?_ | refine g_block ?_ | refine g_exit rfl ?_ | refine g_cond_t rfl ?_ | refine g_cond_f rfl ?_)
  repeat (first | refine g_seq ?_ | refine at_code ?_ | refine g_skip ?_ | refine g_block ?_ | refine g_exit rfl ?_ | refine g_cond_t rfl ?_ | refine g_cond_f rfl ?_)
  refine g_region ?_
  refine gl_f (s_move rfl) rfl rfl rfl ?_
  refine gl_nil ?_
  repeat (first | refine g_seq ?_ | refine at_code ?_ | refine g_skip ?_ | refine g_block ?_ | refine g_exit rfl ?_ | refine g_cond_t rfl ?_ | refine g_cond_f rfl ?_)
  repeat (first | refine g_seq ?_ | refine at_code ?_ | refine g_skip ?_ | refine g_block ?_ | refine g_exit rfl ?_ | refine g_cond_t rfl ?_ | refine g_cond_f rfl ?_)
  refine g_region ?_
  refine gl_f (s_move rfl) rfl rfl rfl ?_
  refine gl_f (s_move rfl) rfl rfl rfl ?_
  refine gl_f (s_shrW c rfl rfl rfl (by omega)) rfl rfl rfl ?_
  refine gl_f (s_assign rfl) rfl rfl rfl ?_
  refine gl_nil ?_
  repeat (first | refine g_seq ?_ | refine at_code ?_ | refine g_skip ?_ | refine g_block ?_ | refine g_exit rfl ?_ | refine g_cond_t rfl ?_ | refine g_cond_f rfl ?_)
  repeat (first | refine g_seq ?_ | refine at_code ?_ | refine g_skip ?_ | refine g_block ?_ | refine g_exit rfl ?_ | refine g_cond_t rfl ?_ | refine g_cond_f rfl ?_)
  refine g_region ?_
  refine gl_f (s_move rfl) rfl rfl rfl ?_
  refine gl_f (s_move rfl) rfl rfl rfl ?_
  refine gl_f (s_neg rfl (by omega)) rfl rfl rfl ?_
  refine gl_callp rfl (rot_ct x a ha) (fun _ _ _ => trivial) rfl ?_
  refine gl_f (s_move rfl) rfl rfl rfl ?_
  refine gl_f (s_move rfl) rfl rfl rfl ?_
  refine gl_f (s_neg rfl (by omega)) rfl rfl rfl ?_
  refine gl_callp rfl (rot_ct x b hb) (fun _ _ _ => trivial) rfl ?_
  refine gl_f (s_xorW rfl rfl) rfl rfl rfl ?_
  refine gl_f (s_move rfl) rfl rfl rfl ?_
  refine gl_f (s_xorW rfl rfl) rfl rfl rfl ?_
  refine gl_f (s_assign rfl) rfl rfl rfl ?_
  refine gl_nil ?_
  repeat (first | refine g_seq ?_ | refine at_code ?_ | refine g_skip ?_ | refine g_block ?_ | refine g_exit rfl ?_ | refine g_cond_t rfl ?_ | refine g_cond_f rfl ?_)
  refine g_ret ?_
  exact at_end1 rfl rfl [] ⟨rfl, rfl⟩ (fun _ h => h)

theorem keys_ct : Pu Try.prog 98 [] (fun _ => True) (.agg (kks.map W32).toArray) := by
  refine ct_enter 2 Try.func98 rfl rfl rfl ?_
  intro F _
  repeat (first | refine g_seq ?_ | refine at_code ?_ | refine g_skip ?_ | refine g_block ?_ | refine g_exit rfl ?_ | refine g_cond_t rfl ?_ | refine g_cond_f rfl ?_)
  refine g_region ?_
  refine gl_allocA rfl ?_; intro g0
  refine gl_nil ?_
  repeat (first | refine g_seq ?_ | refine at_code ?_ | refine g_skip ?_ | refine g_block ?_ | refine g_exit rfl ?_ | refine g_cond_t rfl ?_ | refine g_cond_f rfl ?_)
  repeat (first | refine g_seq ?_ | refine at_code ?_ | refine g_skip ?_ | refine g_block ?_ | refine g_exit rfl ?_ | refine g_cond_t rfl ?_ | refine g_cond_f rfl ?_)
  refine g_region ?_
  refine gl_f (s_build rfl (v := .agg (kks.map W32).toArray) (fun w => by kernel_rfl)) rfl rfl rfl ?_
  refine gl_store_blk rfl rfl (by repeat first|exact .here|apply Upd.there) (by rfl) (fun q hq => by simp only [Value.cells, List.toList_toArray, List.mem_map] at hq; obtain ⟨p, _, rfl⟩ := hq; rfl) (by rfl) ?_
  refine gl_nil ?_
  repeat (first | refine g_seq ?_ | refine at_code ?_ | refine g_skip ?_ | refine g_block ?_ | refine g_exit rfl ?_ | refine g_cond_t rfl ?_ | refine g_cond_f rfl ?_)
  refine g_ret ?_
  exact at_endc rfl rfl (fun w hw => peek_blkN (n := 64) hw (by repeat first|exact .del|apply Upd.there)) (by kernel_rfl) [] ⟨by kernel_rfl, rfl⟩ (fun _ h => h.drop)
def hc (S : Nat → W) (r : List UInt8) (n : Int) : Array Value := (oct S ++ [B r, .int .i64 n]).toArray
def HashAt (b : Nat) (S : Nat → W) (r : List UInt8) (n : Int) : As := .blk b (.cells (hc S r n) 123)
theorem New_ct : Ct Try.prog 66 [] (fun _ => True) [] (fun v A => ∃ b, v = .pointer (some ⟨b, 0, none⟩) ∧ A = [HashAt b init [] 0]) := by
  refine ct_enter 4 Try.func66 rfl rfl rfl ?_
  intro F _
  repeat (first | refine g_seq ?_ | refine at_code ?_ | refine g_skip ?_ | refine g_block ?_ | refine g_exit rfl ?_ | refine g_cond_t rfl ?_ | refine g_cond_f rfl ?_)
  refine g_region ?_
  refine gl_f (s_assign rfl) rfl rfl rfl ?_
  refine gl_nil ?_
  repeat (first | refine g_seq ?_ | refine at_code ?_ | refine g_skip ?_ | refine g_block ?_ | refine g_exit rfl ?_ | refine g_cond_t rfl ?_ | refine g_cond_f rfl ?_)
  repeat (first | refine g_seq ?_ | refine at_code ?_ | refine g_skip ?_ | refine g_block ?_ | refine g_exit rfl ?_ | refine g_cond_t rfl ?_ | refine g_cond_f rfl ?_)
  refine g_region ?_
  refine gl_f (s_build rfl (v := .agg (oct init).toArray) (fun w => by kernel_rfl)) rfl rfl rfl ?_
  refine gl_f (s_build rfl (v := .agg (hc init [] 0)) (fun w => by kernel_rfl)) rfl rfl rfl ?_
  refine gl_boxA rfl rfl ?_; intro g3
  refine gl_f (s_assign rfl) rfl rfl rfl ?_
  refine gl_nil ?_
  repeat (first | refine g_seq ?_ | refine at_code ?_ | refine g_skip ?_ | refine g_block ?_ | refine g_exit rfl ?_ | refine g_cond_t rfl ?_ | refine g_cond_f rfl ?_)
  refine g_ret ?_
  exact at_end1 rfl rfl _ ⟨g3, rfl, rfl⟩ (fun _ h => h)
end Go.Proofs.Ytolgclfbllcjhaa.Dg
