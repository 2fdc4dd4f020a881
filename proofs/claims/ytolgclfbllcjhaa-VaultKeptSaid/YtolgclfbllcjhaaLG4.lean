/- The walk of Sum: the digest of all that was written. -/
import Derived.Test.YtolgclfbllcjhaaLG3
namespace Go.Proofs.Ytolgclfbllcjhaa.Dg
open Go Go.Sl
set_option linter.unusedVariables false

/-- the tail so far: n bytes of the count stand behind the mark and the zeros -/
def be8n (n k : Nat) : List UInt8 := (List.range k).map fun i => UInt8.ofNat (n / 2 ^ (56 - 8 * i))
theorem be8n_succ (n k : Nat) : be8n n (k + 1) = be8n n k ++ [UInt8.ofNat (n / 2 ^ (56 - 8 * k))] := by simp [be8n, List.range_succ]
def tailn (n k : Nat) : List UInt8 := [128] ++ List.replicate ((119 - n % 64) % 64) 0 ++ be8n (n * 8 % 2 ^ 64) k
theorem tailn_succ (n k : Nat) : tailn n (k + 1) = tailn n k ++ [UInt8.ofNat (n * 8 % 2 ^ 64 / 2 ^ (56 - 8 * k))] := by simp [tailn, be8n_succ]
theorem tailn_len (n k : Nat) : (tailn n k).length ≤ 65 + k := by simp [tailn, be8n]; omega
theorem u8_byte (x : Nat) : IntKind.u8.wrap (x : Int) = ((UInt8.ofNat x).toNat : Nat) := by
  rw [IntKind.wrap_u8, UInt8.toNat_ofNat']; omega
theorem cnt_byte (n k : Nat) (hk : k < 8) : Value.int .u8 (IntKind.u8.wrap ((IntKind.u64.wrap ((n : Int) * 8)).fdiv (2 ^ (min (56 - 8 * (k : Int)).toNat IntKind.u64.bits)))) = .int .u8 ((UInt8.ofNat (n * 8 % 2 ^ 64 / 2 ^ (56 - 8 * k))).toNat : Nat) := by
  rw [← u8_byte]
  have h1 : min (56 - 8 * (k : Int)).toNat IntKind.u64.bits = 56 - 8 * k := by simp [IntKind.bits]; omega
  have h2 : IntKind.u64.wrap ((n : Int) * 8) = ((n * 8 % 2 ^ 64 : Nat) : Int) := by rw [IntKind.wrap_u64]; omega
  rw [h1, h2, Int.fdiv_eq_ediv_of_nonneg _ (by exact Int.pow_nonneg (by decide))]
  congr 3
theorem sbytes_length (S : Nat → W) : (sbytes S).length = 32 := by simp [sbytes, wbytes]; rfl
theorem sbytes_get (S : Nat → W) {i k : Nat} (hi : i < 8) (hk : k < 4) : (sbytes S).getD (4 * i + k) 0 = UInt8.ofNat ((S i).toNat / 2 ^ (24 - 8 * k)) := by
  rcases (show i = 0 ∨ i = 1 ∨ i = 2 ∨ i = 3 ∨ i = 4 ∨ i = 5 ∨ i = 6 ∨ i = 7 by omega) with rfl | rfl | rfl | rfl | rfl | rfl | rfl | rfl <;>
    rcases (show k = 0 ∨ k = 1 ∨ k = 2 ∨ k = 3 by omega) with rfl | rfl | rfl | rfl <;> simp [sbytes, wbytes, List.range_succ]
def bcells (S : Nat → W) (n : Nat) : Array Value := (bytesV ((sbytes S).take n) ++ List.replicate (32 - n) (Value.int .u8 0)).toArray
theorem bcells_size (S : Nat → W) (n : Nat) (h : n ≤ 32) : (bcells S n).size = 32 := by simp [bcells, bytesV, sbytes_length]; omega
theorem bput (S : Nat → W) {n o : Nat} {v : Value} (h : o = n) (hn : n < 32) (hv : v = .int .u8 (((sbytes S).getD n 0).toNat : Nat)) : putL (bcells S n) o [v] = bcells S (n + 1) := by
  subst h hv
  have hl := sbytes_length S
  have hr : List.replicate (32 - o) (Value.int .u8 0) = Value.int .u8 0 :: List.replicate (32 - (o + 1)) (Value.int .u8 0) := by
    rw [show 32 - o = (32 - (o + 1)) + 1 by omega, List.replicate_succ]
  have ht : (sbytes S).take (o + 1) = (sbytes S).take o ++ [(sbytes S).getD o 0] := by
    rw [List.take_succ_eq_append_getElem (by omega)]
    simp [hl, hn]
  apply Array.toList_inj.1
  simp only [putL, bcells, hr]
  rw [List.take_left' (by simp [bytesV, hl]; omega)]
  simp only [List.length_singleton]
  rw [List.drop_append, List.drop_of_length_le (by simp [bytesV, hl]; omega)]
  have hm : min o 32 = o := by omega
  simp [bytesV, hl, ht, hm]
theorem shr_byte (x : W) {k : Nat} (hk : k < 4) : Value.int .u8 (IntKind.u8.wrap ((x >>> (24 - 8 * k)).toNat : Nat)) = .int .u8 ((UInt8.ofNat (x.toNat / 2 ^ (24 - 8 * k))).toNat : Nat) := by
  rw [u8_byte, BitVec.toNat_ushiftRight, Nat.shiftRight_eq_div_pow]

set_option maxHeartbeats 1000000 in
theorem HSum_ct (b : Nat) (m : List UInt8) (hb : m.length ≤ 9223372036854775000) :
    Ct Try.prog 68 [.pointer (some ⟨b, 0, none⟩)] (fun _ => True) [HS b m] (fun v A => v = B (sha m) ∧ A = [HS b m]) := by
  refine ct_enter 68 Try.func68 rfl rfl rfl ?_
  intro F _
  repeat (first | refine g_seq ?_ | refine at_code ?_ | refine g_skip ?_ | refine g_block ?_ | refine g_exit rfl ?_ | refine g_cond_t rfl ?_ | refine g_cond_f rfl ?_)
  refine g_region ?_
  refine gl_f (s_assign rfl) rfl rfl rfl ?_
  refine gl_nil ?_
  repeat (first | refine g_seq ?_ | refine at_code ?_ | refine g_skip ?_ | refine g_block ?_ | refine g_exit rfl ?_ | refine g_cond_t rfl ?_ | refine g_cond_f rfl ?_)
  refine g_region ?_
  refine gl_f (s_move rfl) rfl rfl rfl ?_
  refine gl_f (s_eql_ptr rfl rfl) rfl rfl rfl ?_
  refine gl_nil ?_
  repeat (first | refine g_seq ?_ | refine at_code ?_ | refine g_skip ?_ | refine g_block ?_ | refine g_exit rfl ?_ | refine g_cond_t rfl ?_ | refine g_cond_f rfl ?_)
  repeat (first | refine g_seq ?_ | refine at_code ?_ | refine g_skip ?_ | refine g_block ?_ | refine g_exit rfl ?_ | refine g_cond_t rfl ?_ | refine g_cond_f rfl ?_)
  refine g_region ?_
  refine gl_f (s_move rfl) rfl rfl rfl ?_
  refine gl_f (s_nilCheck rfl) rfl rfl rfl ?_
  refine gl_r (by first | exact s_load_blkW rfl (by repeat first|exact .del|apply Upd.there) (by rfl) | exact s_load_blkN rfl (by repeat first|exact .del|apply Upd.there) (by rfl) | exact s_loadN rfl (fun w hw => peekBN hw (by assumption)) (by rfl)) rfl rfl rfl ?_
  refine gl_allocA rfl ?_; intro g3
  refine gl_store_blk rfl rfl (by repeat first|exact .here|apply Upd.there) (by rfl) (hc_one _ _ _) (by rfl) ?_
  refine gl_nil ?_
  repeat (first | refine g_seq ?_ | refine at_code ?_ | refine g_skip ?_ | refine g_block ?_ | refine g_exit rfl ?_ | refine g_cond_t rfl ?_ | refine g_cond_f rfl ?_)
  refine g_pull (H' := [HS g3 m, HS b m]) (fun w hw => hw) ?_
  repeat (first | refine g_seq ?_ | refine at_code ?_ | refine g_skip ?_ | refine g_block ?_ | refine g_exit rfl ?_ | refine g_cond_t rfl ?_ | refine g_cond_f rfl ?_)
  refine g_region ?_
  refine gl_f (by first | exact s_fieldAddr rfl (by rfl) (by infer_instance) (by decide) | exact s_fieldAddr_o rfl (by assumption) (by rfl) (by infer_instance) (by decide)) rfl rfl rfl ?_
  refine gl_r (by first | exact s_load_blk rfl (by repeat first|exact .del|apply Upd.there) (by rfl) | exact s_load1 rfl (fun w hw => peekB hw (by assumption) (by rfl))) rfl rfl rfl ?_
  refine gl_f (s_rem_pos rfl rfl (by omega)) rfl rfl rfl ?_
  refine gl_f (s_sub_i64 rfl rfl (by omega)) rfl rfl rfl ?_
  refine gl_f (s_rem_pos rfl rfl (by omega)) rfl rfl rfl ?_
  refine gl_make1 rfl rfl rfl (by omega) (by show (1 : Int) * _ ≤ _; omega) rfl ?_; intro a5; rw [show (119 - (m.length : Int) % 64) % 64 = (((119 - m.length % 64) % 64 : Nat) : Int) by omega]
  refine gl_r (s_string (l := List.replicate ((119 - m.length % 64) % 64) 0) rfl (by simp; omega) (fun w hw => by have h5 := (hw.ownN (by repeat first|exact .del|apply Upd.there)).2.2.1; simp only [Int.toNat_natCast] at h5; simp only [bytesV, List.map_replicate]; exact h5)) rfl rfl rfl ?_
  refine gl_f ((s_add_str rfl rfl (by simp; omega)).eq (v' := B (tailn m.length 0)) (by simp [tailn, be8n])) rfl rfl rfl ?_
  refine gl_f (s_assign rfl) rfl rfl rfl ?_
  refine gl_nil ?_
  repeat (first | refine g_seq ?_ | refine at_code ?_ | refine g_skip ?_ | refine g_block ?_ | refine g_exit rfl ?_ | refine g_cond_t rfl ?_ | refine g_cond_f rfl ?_)
  repeat (first | refine g_seq ?_ | refine at_code ?_ | refine g_skip ?_ | refine g_block ?_ | refine g_exit rfl ?_ | refine g_cond_t rfl ?_ | refine g_cond_f rfl ?_)
  refine g_region ?_
  refine gl_f (s_move rfl) rfl rfl rfl ?_
  refine gl_nil ?_
  repeat (first | refine g_seq ?_ | refine at_code ?_ | refine g_skip ?_ | refine g_block ?_ | refine g_exit rfl ?_ | refine g_cond_t rfl ?_ | refine g_cond_f rfl ?_)
  refine g_loop (ι := Nat) (fun k => k ≤ 8) (fun k => [(0, .pointer (some ⟨b, 0, none⟩)), (3, .pointer (some ⟨g3, 0, none⟩)), (4, B (tailn m.length k)), (23, .int .i64 (k : Nat))]) (fun k => [HS g3 m, HS b m]) (fun k => 8 - k) 0 (by omega) ?_ ?_ ?_
  · (repeat (first | exact Sub.nil _ | refine Sub.cons rfl ?_))
  · intro w hw; exact hw.upd_same .del
  · intro k hk
    have htl := tailn_len m.length k
    repeat (first | refine g_seq ?_ | refine at_code ?_ | refine g_skip ?_ | refine g_block ?_ | refine g_exit rfl ?_ | refine g_cond_t rfl ?_ | refine g_cond_f rfl ?_)
    refine g_region ?_
    refine gl_f (s_lss rfl rfl) rfl rfl rfl ?_
    refine gl_nil ?_
    repeat (first | refine g_seq ?_ | refine at_code ?_ | refine g_skip ?_ | refine g_block ?_ | refine g_exit rfl ?_ | refine g_cond_t rfl ?_ | refine g_cond_f rfl ?_)
    refine g_cond rfl (fun h => ?_) (fun h => ?_)
    · simp only [decide_eq_true_eq] at h
      repeat (first | refine g_seq ?_ | refine at_code ?_ | refine g_skip ?_ | refine g_block ?_ | refine g_exit rfl ?_ | refine g_cond_t rfl ?_ | refine g_cond_f rfl ?_)
      refine g_region ?_
      refine gl_f (s_move rfl) rfl rfl rfl ?_
      refine gl_f (s_assign rfl) rfl rfl rfl ?_
      refine gl_nil ?_
      repeat (first | refine g_seq ?_ | refine at_code ?_ | refine g_skip ?_ | refine g_block ?_ | refine g_exit rfl ?_ | refine g_cond_t rfl ?_ | refine g_cond_f rfl ?_)
      repeat (first | refine g_seq ?_ | refine at_code ?_ | refine g_skip ?_ | refine g_block ?_ | refine g_exit rfl ?_ | refine g_cond_t rfl ?_ | refine g_cond_f rfl ?_)
      refine g_region ?_
      refine gl_f (s_move rfl) rfl rfl rfl ?_
      refine gl_f (s_move rfl) rfl rfl rfl ?_
      refine gl_f (s_nilCheck rfl) rfl rfl rfl ?_
      refine gl_f (by first | exact s_fieldAddr rfl (by rfl) (by infer_instance) (by decide) | exact s_fieldAddr_o rfl (by assumption) (by rfl) (by infer_instance) (by decide)) rfl rfl rfl ?_
      refine gl_r (by first | exact s_load_blk rfl (by repeat first|exact .del|apply Upd.there) (by rfl) | exact s_load1 rfl (fun w hw => peekB hw (by assumption) (by rfl))) rfl rfl rfl ?_
      refine gl_f (s_conv_keep_u64 rfl (by omega)) rfl rfl rfl ?_
      refine gl_f (s_mul_raw rfl rfl) rfl rfl rfl ?_
      refine gl_f (s_move rfl) rfl rfl rfl ?_
      refine gl_f (s_mul_i64 rfl rfl (by omega)) rfl rfl rfl ?_
      refine gl_f (s_sub_i64 rfl rfl (by omega)) rfl rfl rfl ?_
      refine gl_f (s_shr rfl rfl (by omega)) rfl rfl rfl ?_
      refine gl_f ((s_conv_int rfl).eq (cnt_byte m.length k (by omega))) rfl rfl rfl ?_
      refine gl_buildSliceU rfl rfl rfl rfl rfl rfl (xs := bytesV [UInt8.ofNat (m.length * 8 % 2 ^ 64 / 2 ^ (56 - 8 * k))]) rfl rfl ?_; intro a12 ha12
      refine gl_r (s_string (l := [UInt8.ofNat (m.length * 8 % 2 ^ 64 / 2 ^ (56 - 8 * k))]) rfl rfl (fun w hw => (hw.ownN (by repeat first|exact .del|apply Upd.there)).2.2.1)) rfl rfl rfl ?_
      refine gl_f ((s_add_str rfl rfl (by simp; omega)).eq (v' := B (tailn m.length (k + 1))) (by rw [tailn_succ])) rfl rfl rfl ?_
      refine gl_f (s_assign rfl) rfl rfl rfl ?_
      refine gl_nil ?_
      repeat (first | refine g_seq ?_ | refine at_code ?_ | refine g_skip ?_ | refine g_block ?_ | refine g_exit rfl ?_ | refine g_cond_t rfl ?_ | refine g_cond_f rfl ?_)
      repeat (first | refine g_seq ?_ | refine at_code ?_ | refine g_skip ?_ | refine g_block ?_ | refine g_exit rfl ?_ | refine g_cond_t rfl ?_ | refine g_cond_f rfl ?_)
      refine g_region ?_
      refine gl_f (s_add_i64 rfl rfl (by omega)) rfl rfl rfl ?_
      refine gl_f (s_move rfl) rfl rfl rfl ?_
      refine gl_nil ?_
      repeat (first | refine g_seq ?_ | refine at_code ?_ | refine g_skip ?_ | refine g_block ?_ | refine g_exit rfl ?_ | refine g_cond_t rfl ?_ | refine g_cond_f rfl ?_)
      refine at_next (k + 1) (by omega) (by omega) ?_ ?_
      · (repeat (first | exact Sub.nil _ | refine Sub.cons rfl ?_))
      · intro w hw; exact hw.upd_same .del
    · have hk8 : k = 8 := by simp at h; omega
      subst hk8
      repeat (first | refine g_seq ?_ | refine at_code ?_ | refine g_skip ?_ | refine g_block ?_ | refine g_exit rfl ?_ | refine g_cond_t rfl ?_ | refine g_cond_f rfl ?_)
      refine g_region ?_
      refine gl_f (s_move rfl) rfl rfl rfl ?_
      refine gl_call [HS b m] rfl (Write_ct g3 m (tailn m.length 8) (by omega)) (fun w hw => hw) (fun _ _ _ => trivial) rfl ?_; rintro v A ⟨rfl, rfl⟩
      refine gl_nil ?_
      repeat (first | refine g_seq ?_ | refine at_code ?_ | refine g_skip ?_ | refine g_block ?_ | refine g_exit rfl ?_ | refine g_cond_t rfl ?_ | refine g_cond_f rfl ?_)
      have hsha : sha m = sbytes (st (m ++ tailn m.length 8)) := rfl
      generalize hT : m ++ tailn m.length 8 = T at *
      repeat (first | refine g_seq ?_ | refine at_code ?_ | refine g_skip ?_ | refine g_block ?_ | refine g_exit rfl ?_ | refine g_cond_t rfl ?_ | refine g_cond_f rfl ?_)
      refine g_region ?_
      refine gl_allocA rfl ?_; intro g6
      refine gl_nil ?_
      repeat (first | refine g_seq ?_ | refine at_code ?_ | refine g_skip ?_ | refine g_block ?_ | refine g_exit rfl ?_ | refine g_cond_t rfl ?_ | refine g_cond_f rfl ?_)
      repeat (first | refine g_seq ?_ | refine at_code ?_ | refine g_skip ?_ | refine g_block ?_ | refine g_exit rfl ?_ | refine g_cond_t rfl ?_ | refine g_cond_f rfl ?_)
      refine g_region ?_
      refine gl_f (by first | exact s_fieldAddr rfl (by rfl) (by infer_instance) (by decide) | exact s_fieldAddr_o rfl (by assumption) (by rfl) (by infer_instance) (by decide)) rfl rfl rfl ?_
      refine gl_r (by first | exact s_load_blkW rfl (by repeat first|exact .del|apply Upd.there) (by rfl) | exact s_load_blkN rfl (by repeat first|exact .del|apply Upd.there) (by rfl) | exact s_loadN rfl (fun w hw => peekBN hw (by assumption)) (by rfl)) rfl rfl rfl ?_
      refine gl_f (s_move rfl) rfl rfl rfl ?_
      refine gl_nil ?_
      repeat (first | refine g_seq ?_ | refine at_code ?_ | refine g_skip ?_ | refine g_block ?_ | refine g_exit rfl ?_ | refine g_cond_t rfl ?_ | refine g_cond_f rfl ?_)
      refine g_loop (ι := Nat) (fun i => i ≤ 8) (fun i => [(6, .pointer (some ⟨g6, 0, none⟩)), (45, .agg (oct (st T)).toArray), (46, .int .i64 (i : Nat))]) (fun i => [.blk g6 (.cells (bcells (st T) (4 * i)) 125), HS b m]) (fun i => 8 - i) 0 (by omega) ?_ ?_ ?_
      · (repeat (first | exact Sub.nil _ | refine Sub.cons rfl ?_))
      · intro w hw
        have e : bcells (st T) (4 * 0) = #[.int .u8 0, .int .u8 0, .int .u8 0, .int .u8 0, .int .u8 0, .int .u8 0, .int .u8 0, .int .u8 0, .int .u8 0, .int .u8 0, .int .u8 0, .int .u8 0, .int .u8 0, .int .u8 0, .int .u8 0, .int .u8 0, .int .u8 0, .int .u8 0, .int .u8 0, .int .u8 0, .int .u8 0, .int .u8 0, .int .u8 0, .int .u8 0, .int .u8 0, .int .u8 0, .int .u8 0, .int .u8 0, .int .u8 0, .int .u8 0, .int .u8 0, .int .u8 0] := by simp [bcells, bytesV, List.replicate]
        rw [e]
        exact hw.upd_same (.there .del)
      · intro i hi
        repeat (first | refine g_seq ?_ | refine at_code ?_ | refine g_skip ?_ | refine g_block ?_ | refine g_exit rfl ?_ | refine g_cond_t rfl ?_ | refine g_cond_f rfl ?_)
        refine g_region ?_
        refine gl_f (s_lss rfl rfl) rfl rfl rfl ?_
        refine gl_nil ?_
        repeat (first | refine g_seq ?_ | refine at_code ?_ | refine g_skip ?_ | refine g_block ?_ | refine g_exit rfl ?_ | refine g_cond_t rfl ?_ | refine g_cond_f rfl ?_)
        refine g_cond rfl (fun h => ?_) (fun h => ?_)
        · simp only [decide_eq_true_eq] at h
          repeat (first | refine g_seq ?_ | refine at_code ?_ | refine g_skip ?_ | refine g_block ?_ | refine g_exit rfl ?_ | refine g_cond_t rfl ?_ | refine g_cond_f rfl ?_)
          refine g_region ?_
          refine gl_f (s_move rfl) rfl rfl rfl ?_
          refine gl_f (s_index_arrS i rfl rfl rfl (by omega) (oget (i := i) rfl (by omega))) rfl rfl rfl ?_
          refine gl_f (s_assign rfl) rfl rfl rfl ?_
          refine gl_f (s_assign rfl) rfl rfl rfl ?_
          refine gl_nil ?_
          repeat (first | refine g_seq ?_ | refine at_code ?_ | refine g_skip ?_ | refine g_block ?_ | refine g_exit rfl ?_ | refine g_cond_t rfl ?_ | refine g_cond_f rfl ?_)
          repeat (first | refine g_seq ?_ | refine at_code ?_ | refine g_skip ?_ | refine g_block ?_ | refine g_exit rfl ?_ | refine g_cond_t rfl ?_ | refine g_cond_f rfl ?_)
          refine g_region ?_
          refine gl_f (s_move rfl) rfl rfl rfl ?_
          refine gl_nil ?_
          repeat (first | refine g_seq ?_ | refine at_code ?_ | refine g_skip ?_ | refine g_block ?_ | refine g_exit rfl ?_ | refine g_cond_t rfl ?_ | refine g_cond_f rfl ?_)
          refine g_loop (ι := Nat) (fun k => k ≤ 4) (fun k => [(6, .pointer (some ⟨g6, 0, none⟩)), (45, .agg (oct (st T)).toArray), (46, .int .i64 (i : Nat)), (7, .int .i64 (i : Nat)), (8, W32 (st T i)), (50, .int .i64 (k : Nat))]) (fun k => [.blk g6 (.cells (bcells (st T) (4 * i + k)) 125), HS b m]) (fun k => 4 - k) 0 (by omega) ?_ ?_ ?_
          · (repeat (first | exact Sub.nil _ | refine Sub.cons rfl ?_))
          · intro w hw; exact hw
          · intro k hk
            repeat (first | refine g_seq ?_ | refine at_code ?_ | refine g_skip ?_ | refine g_block ?_ | refine g_exit rfl ?_ | refine g_cond_t rfl ?_ | refine g_cond_f rfl ?_)
            refine g_region ?_
            refine gl_f (s_lss rfl rfl) rfl rfl rfl ?_
            refine gl_nil ?_
            repeat (first | refine g_seq ?_ | refine at_code ?_ | refine g_skip ?_ | refine g_block ?_ | refine g_exit rfl ?_ | refine g_cond_t rfl ?_ | refine g_cond_f rfl ?_)
            refine g_cond rfl (fun h2 => ?_) (fun h2 => ?_)
            · simp only [decide_eq_true_eq] at h2
              repeat (first | refine g_seq ?_ | refine at_code ?_ | refine g_skip ?_ | refine g_block ?_ | refine g_exit rfl ?_ | refine g_cond_t rfl ?_ | refine g_cond_f rfl ?_)
              refine g_region ?_
              refine gl_f (s_move rfl) rfl rfl rfl ?_
              refine gl_f (s_assign rfl) rfl rfl rfl ?_
              refine gl_nil ?_
              repeat (first | refine g_seq ?_ | refine at_code ?_ | refine g_skip ?_ | refine g_block ?_ | refine g_exit rfl ?_ | refine g_cond_t rfl ?_ | refine g_cond_f rfl ?_)
              repeat (first | refine g_seq ?_ | refine at_code ?_ | refine g_skip ?_ | refine g_block ?_ | refine g_exit rfl ?_ | refine g_cond_t rfl ?_ | refine g_cond_f rfl ?_)
              refine g_region ?_
              refine gl_f (s_move rfl) rfl rfl rfl ?_
              refine gl_f (s_mul_i64 rfl rfl (by omega)) rfl rfl rfl ?_
              refine gl_f (s_move rfl) rfl rfl rfl ?_
              refine gl_f (s_add_i64 rfl rfl (by omega)) rfl rfl rfl ?_
              refine gl_f (s_move rfl) rfl rfl rfl ?_
              refine gl_f (s_move rfl) rfl rfl rfl ?_
              refine gl_f (s_mul_i64 rfl rfl (by omega)) rfl rfl rfl ?_
              refine gl_f (s_sub_i64 rfl rfl (by omega)) rfl rfl rfl ?_
              refine gl_f (s_shrW (24 - 8 * k) rfl rfl (by omega) (by omega)) rfl rfl rfl ?_
              refine gl_f ((s_conv_int rfl).eq (shr_byte _ (by omega))) rfl rfl rfl ?_
              refine gl_f (s_indexAddr_arr rfl rfl (by omega)) rfl rfl rfl ?_
              refine gl_store_blkP rfl rfl (by repeat first|exact .here|apply Upd.there) (by rfl) (by (intro q hq; simp [Value.cells] at hq; first | (subst hq; rfl) | (rcases hq with rfl | rfl | rfl | rfl | rfl | rfl | rfl | rfl <;> rfl) | (rcases hq with rfl | rfl | rfl | rfl | rfl | rfl | rfl <;> rfl) | (rcases hq with rfl | rfl | rfl | rfl | rfl | rfl <;> rfl) | (rcases hq with rfl | rfl | rfl | rfl | rfl <;> rfl) | (rcases hq with rfl | rfl | rfl | rfl <;> rfl) | (rcases hq with rfl | rfl | rfl <;> rfl) | (rcases hq with rfl | rfl <;> rfl))) (by rw [bcells_size _ _ (by omega)]; omega) ?_
              refine gl_nil ?_
              repeat (first | refine g_seq ?_ | refine at_code ?_ | refine g_skip ?_ | refine g_block ?_ | refine g_exit rfl ?_ | refine g_cond_t rfl ?_ | refine g_cond_f rfl ?_)
              repeat (first | refine g_seq ?_ | refine at_code ?_ | refine g_skip ?_ | refine g_block ?_ | refine g_exit rfl ?_ | refine g_cond_t rfl ?_ | refine g_cond_f rfl ?_)
              refine g_region ?_
              refine gl_f (s_add_i64 rfl rfl (by omega)) rfl rfl rfl ?_
              refine gl_f (s_move rfl) rfl rfl rfl ?_
              refine gl_nil ?_
              repeat (first | refine g_seq ?_ | refine at_code ?_ | refine g_skip ?_ | refine g_block ?_ | refine g_exit rfl ?_ | refine g_cond_t rfl ?_ | refine g_cond_f rfl ?_)
              refine at_next (k + 1) (by omega) (by omega) ?_ ?_
              · (repeat (first | exact Sub.nil _ | refine Sub.cons rfl ?_))
              · intro w hw
                rw [← Nat.add_assoc, ← bput (st T) (n := 4 * i + k) (o := 0 + (4 * (i : Int) + (k : Int)).toNat * 1) (by omega) (by omega) (by rw [sbytes_get (st T) (by omega) (by omega)])]
                exact hw
            · have hk4 : k = 4 := by simp at h2; omega
              subst hk4
              repeat (first | refine g_seq ?_ | refine at_code ?_ | refine g_skip ?_ | refine g_block ?_ | refine g_exit rfl ?_ | refine g_cond_t rfl ?_ | refine g_cond_f rfl ?_)
              refine g_region ?_
              refine gl_f (s_add_i64 rfl rfl (by omega)) rfl rfl rfl ?_
              refine gl_f (s_move rfl) rfl rfl rfl ?_
              refine gl_nil ?_
              repeat (first | refine g_seq ?_ | refine at_code ?_ | refine g_skip ?_ | refine g_block ?_ | refine g_exit rfl ?_ | refine g_cond_t rfl ?_ | refine g_cond_f rfl ?_)
              refine at_next (i + 1) (by omega) (by omega) ?_ ?_
              · (repeat (first | exact Sub.nil _ | refine Sub.cons rfl ?_))
              · intro w hw; exact hw
        · have hi8 : i = 8 := by simp at h; omega
          subst hi8
          repeat (first | refine g_seq ?_ | refine at_code ?_ | refine g_skip ?_ | refine g_block ?_ | refine g_exit rfl ?_ | refine g_cond_t rfl ?_ | refine g_cond_f rfl ?_)
          refine g_region ?_
          refine gl_f (s_slice_arr rfl) rfl rfl rfl ?_
          refine gl_r (s_string (l := sha m) rfl (by rw [hsha, sbytes_length]) (fun w hw => hw.rdBlk (by repeat first|exact .del|apply Upd.there) _ (fun j u hu => by rw [hsha] at hu; simpa [bcells, sbytes_length, List.take_of_length_le] using hu))) rfl rfl rfl ?_
          refine gl_f (s_assign rfl) rfl rfl rfl ?_
          refine gl_nil ?_
          repeat (first | refine g_seq ?_ | refine at_code ?_ | refine g_skip ?_ | refine g_block ?_ | refine g_exit rfl ?_ | refine g_cond_t rfl ?_ | refine g_cond_f rfl ?_)
          refine g_ret ?_
          exact at_end1 rfl rfl [HS b m] ⟨rfl, rfl⟩ (fun w hw => hw.upd_same .del)
theorem Sum_ct (s : List UInt8) (hs : s.length ≤ 9223372036854775000) : Pu Try.prog 35 [B s] (fun _ => True) (B (sha s)) := by
  refine ct_enter 10 Try.func35 rfl rfl rfl ?_
  intro F _
  repeat (first | refine g_seq ?_ | refine at_code ?_ | refine g_skip ?_ | refine g_block ?_ | refine g_exit rfl ?_ | refine g_cond_t rfl ?_ | refine g_cond_f rfl ?_)
  refine g_region ?_
  refine gl_f (s_assign rfl) rfl rfl rfl ?_
  refine gl_nil ?_
  repeat (first | refine g_seq ?_ | refine at_code ?_ | refine g_skip ?_ | refine g_block ?_ | refine g_exit rfl ?_ | refine g_cond_t rfl ?_ | refine g_cond_f rfl ?_)
  repeat (first | refine g_seq ?_ | refine at_code ?_ | refine g_skip ?_ | refine g_block ?_ | refine g_exit rfl ?_ | refine g_cond_t rfl ?_ | refine g_cond_f rfl ?_)
  refine g_region ?_
  refine gl_call [] rfl New_ct (fun w hw => hw) (fun _ _ _ => trivial) rfl ?_; rintro v A ⟨g, rfl, rfl⟩
  refine gl_f (s_assign rfl) rfl rfl rfl ?_
  refine gl_nil ?_
  repeat (first | refine g_seq ?_ | refine at_code ?_ | refine g_skip ?_ | refine g_block ?_ | refine g_exit rfl ?_ | refine g_cond_t rfl ?_ | refine g_cond_f rfl ?_)
  refine g_pull (H' := [HS g []]) (fun w hw => hw) ?_
  repeat (first | refine g_seq ?_ | refine at_code ?_ | refine g_skip ?_ | refine g_block ?_ | refine g_exit rfl ?_ | refine g_cond_t rfl ?_ | refine g_cond_f rfl ?_)
  refine g_region ?_
  refine gl_f (s_move rfl) rfl rfl rfl ?_
  refine gl_f (s_move rfl) rfl rfl rfl ?_
  refine gl_call [] rfl (Write_ct g [] s (by simp; omega)) (fun w hw => hw) (fun _ _ _ => trivial) rfl ?_; rintro v A ⟨rfl, rfl⟩
  refine gl_nil ?_
  repeat (first | refine g_seq ?_ | refine at_code ?_ | refine g_skip ?_ | refine g_block ?_ | refine g_exit rfl ?_ | refine g_cond_t rfl ?_ | refine g_cond_f rfl ?_)
  repeat (first | refine g_seq ?_ | refine at_code ?_ | refine g_skip ?_ | refine g_block ?_ | refine g_exit rfl ?_ | refine g_cond_t rfl ?_ | refine g_cond_f rfl ?_)
  refine g_region ?_
  refine gl_f (s_move rfl) rfl rfl rfl ?_
  refine gl_call [] rfl (HSum_ct g ([] ++ s) (by simpa using hs)) (fun w hw => hw) (fun _ _ _ => trivial) rfl ?_; rintro v A ⟨rfl, rfl⟩
  refine gl_f (s_assign rfl) rfl rfl rfl ?_
  refine gl_nil ?_
  repeat (first | refine g_seq ?_ | refine at_code ?_ | refine g_skip ?_ | refine g_block ?_ | refine g_exit rfl ?_ | refine g_cond_t rfl ?_ | refine g_cond_f rfl ?_)
  refine g_ret ?_
  exact at_end1 rfl rfl [] ⟨rfl, rfl⟩ (fun w hw => hw.dropAll)
end Go.Proofs.Ytolgclfbllcjhaa.Dg
