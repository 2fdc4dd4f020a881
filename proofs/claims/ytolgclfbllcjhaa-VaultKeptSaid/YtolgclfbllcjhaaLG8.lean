/- The walks of Unhex, the program's and the reference's. -/
import Derived.Test.YtolgclfbllcjhaaLG7
namespace Go.Proofs.Ytolgclfbllcjhaa.Dg
open Go Go.Sl
set_option linter.unusedVariables false
set_option linter.unusedSimpArgs false

def digz (c : UInt8) : Int := if (97 : Int) ≤ (c.toNat : Nat) then ((c.toNat : Nat) : Int) - 97 + 10 else ((c.toNat : Nat) : Int) - 48
def pbz (c d : UInt8) : Int := IntKind.u8.wrap (bits .or .i64 (IntKind.i64.wrap (digz c * 2 ^ (min (4 : Int).toNat IntKind.i64.bits))) (bits .and .i64 (digz d) 15))
def pby (c d : UInt8) : UInt8 := UInt8.ofNat (pbz c d).toNat
theorem pby_val (c d : UInt8) : Value.int .u8 (pbz c d) = .int .u8 ((pby c d).toNat : Nat) := by
  have h : 0 ≤ pbz c d ∧ pbz c d < 256 := by
    unfold pbz; rw [IntKind.wrap_u8]; omega
  congr 1
  rw [pby, UInt8.toNat_ofNat']; omega
theorem pby_hex (b : UInt8) : pby (hexd (b.toNat / 16)) (hexd (b.toNat % 16)) = b := by
  have h : ∀ n : Fin 256, pbz (hexd (n.val / 16)) (hexd (n.val % 16)) = ((n.val : Nat) : Int) := by decide +kernel
  rw [pby, h ⟨b.toNat, b.toNat_lt⟩]
  simp
def pbs (s : List UInt8) (k : Nat) : List UInt8 := (List.range k).map fun i => pby (s.getD (2 * i) 0) (s.getD (2 * i + 1) 0)
theorem pbs_succ (s : List UInt8) (k : Nat) : pbs s (k + 1) = pbs s k ++ [pby (s.getD (2 * k) 0) (s.getD (2 * k + 1) 0)] := by simp [pbs, List.range_succ]
theorem pbs_length (s : List UInt8) (k : Nat) : (pbs s k).length = k := by simp [pbs]
def pair (s : List UInt8) (i : Nat) : List UInt8 := (s.drop (2 * i)).take 2
theorem hexs_pair (b : List UInt8) {i : Nat} (h : i < b.length) : pair (hexs b) i = hexs [b.getD i 0] := by
  have e : b = b.take i ++ b.getD i 0 :: b.drop (i + 1) := by
    have h2 : b.getD i 0 = b[i] := by simp [h]
    rw [h2, List.getElem_cons_drop, List.take_append_drop]
  have e2 : hexs b = hexs (b.take i) ++ (hexs [b.getD i 0] ++ hexs (b.drop (i + 1))) := by
    conv => lhs; rw [e]
    rw [← hexs_append, ← hexs_append]; rfl
  rw [pair, e2, List.drop_left' (by rw [hexs_length, List.length_take]; omega), List.take_left' (by rw [hexs_length]; rfl)]
theorem pair_getD (s : List UInt8) (i : Nat) {j : Nat} (hj : j < 2) : (pair s i).getD j 0 = s.getD (2 * i + j) 0 := by
  simp only [pair, List.getD_eq_getElem?_getD, List.getElem?_take, if_pos hj, List.getElem?_drop]
theorem hexs_inj {x y : UInt8} (h : hexs [x] = hexs [y]) : x = y := by
  have h1 : hexd (x.toNat / 16) = hexd (y.toNat / 16) ∧ hexd (x.toNat % 16) = hexd (y.toNat % 16) := by simpa [hexs, hex1] using h
  rw [← pby_hex x, ← pby_hex y, h1.1, h1.2]
theorem pbs_hexs (b : List UInt8) : ∀ k, k ≤ b.length → pbs (hexs b) k = b.take k
  | 0, _ => rfl
  | k + 1, h => by
    rw [pbs_succ, pbs_hexs b k (by omega), take_succ_getD b (by omega)]
    congr 1
    have h0 := pair_getD (hexs b) k (j := 0) (by omega)
    have h1 := pair_getD (hexs b) k (j := 1) (by omega)
    rw [hexs_pair b (by omega)] at h0 h1
    rw [show 2 * k = 2 * k + 0 from rfl, ← h0, ← h1]
    exact congrArg (fun x => [x]) (pby_hex _)

def pmk (s : List UInt8) (i k : Nat) : List UInt8 := ((List.range k).map UInt8.ofNat).filter fun x => decide (hexs [x] = pair s i)
theorem pmk_succ (s : List UInt8) (i k : Nat) : pmk s i (k + 1) = pmk s i k ++ if hexs [UInt8.ofNat k] = pair s i then [UInt8.ofNat k] else [] := by
  simp only [pmk, List.range_succ, List.map_append, List.filter_append, List.map_cons, List.map_nil, List.filter_cons, List.filter_nil, decide_eq_true_eq]
theorem pmk_mem {s : List UInt8} {i k : Nat} {x : UInt8} (h : x ∈ pmk s i k) : hexs [x] = pair s i ∧ ∃ j, j < k ∧ UInt8.ofNat j = x := by
  simp only [pmk, List.mem_filter, List.mem_map, List.mem_range, decide_eq_true_eq] at h
  exact ⟨h.2, h.1⟩
theorem pmk_le (s : List UInt8) (i : Nat) : ∀ k, k ≤ 256 → (pmk s i k).length ≤ 1
  | 0, _ => by simp [pmk]
  | k + 1, hk => by
    have ih := pmk_le s i k (by omega)
    rw [pmk_succ]
    split
    · rename_i h
      have : pmk s i k = [] := by
        apply List.eq_nil_iff_forall_not_mem.2
        intro x hx
        obtain ⟨h1, j, hj, rfl⟩ := pmk_mem hx
        have h2 := hexs_inj (h1.trans h.symm)
        have h3 := congrArg UInt8.toNat h2
        rw [UInt8.toNat_ofNat', UInt8.toNat_ofNat'] at h3
        omega
      simp [this]
    · simpa using ih
theorem pm_eq {s : List UInt8} {i : Nat} {x : UInt8} (h : hexs [x] = pair s i) : pmk s i 256 = [x] := by
  have h1 := pmk_le s i 256 (by omega)
  have h2 : x ∈ pmk s i 256 := by
    simp only [pmk, List.mem_filter, List.mem_map, List.mem_range, decide_eq_true_eq]
    exact ⟨⟨x.toNat, x.toNat_lt, by simp⟩, h⟩
  generalize pmk s i 256 = l at *
  match l, h1, h2 with
  | [], _, h2 => cases h2
  | [y], _, h2 => simp at h2; rw [h2]
  | _ :: _ :: _, h1, _ => simp at h1
def rout (s : List UInt8) : Nat → List UInt8
  | 0 => []
  | n + 1 => rout s n ++ pmk s n 256
theorem rout_hexs (b : List UInt8) : ∀ k, k ≤ b.length → rout (hexs b) k = b.take k
  | 0, _ => rfl
  | k + 1, h => by
    rw [rout, rout_hexs b k (by omega), take_succ_getD b (by omega), pm_eq (hexs_pair b (by omega)).symm]
def unhex (s : List UInt8) : List UInt8 × Bool := if hexs (rout s (s.length / 2)) = s then (rout s (s.length / 2), true) else ([], false)
theorem unhex_yes {s b : List UInt8} (h : hexs b = s) : unhex s = (b, true) := by
  have hl := hexs_length b
  subst h
  have e : rout (hexs b) ((hexs b).length / 2) = b := by
    rw [hl, show 2 * b.length / 2 = b.length by omega, rout_hexs b _ (Nat.le_refl _), List.take_length]
  rw [unhex, e]; simp
theorem unhex_no {s : List UInt8} (h : hexs (pbs s (s.length / 2)) ≠ s) : unhex s = ([], false) := by
  rw [unhex, if_neg]
  intro hh
  apply h
  have hl := hexs_length (rout s (s.length / 2))
  have e : pbs s (s.length / 2) = rout s (s.length / 2) := by
    conv => lhs; rw [← hh]
    rw [hl, show 2 * (rout s (s.length / 2)).length / 2 = (rout s (s.length / 2)).length by omega, pbs_hexs _ _ (Nat.le_refl _), List.take_length]
  rw [e, hh]
def unhexV (s : List UInt8) : Value := .tuple #[B (unhex s).1, .bool (unhex s).2]
set_option maxHeartbeats 1000000 in
theorem Unhex_ct (s : List UInt8) (hs : s.length ≤ 281474976710656) : Pu Try.prog 71 [B s] (fun _ => True) (unhexV s) := by
  refine ct_enter 40 Try.func71 rfl rfl rfl ?_
  intro F _
  repeat (first | refine g_seq ?_ | refine at_code ?_ | refine g_skip ?_ | refine g_block ?_ | refine g_exit rfl ?_ | refine g_cond_t rfl ?_ | refine g_cond_f rfl ?_)
  refine g_region ?_
  refine gl_f (s_assign rfl) rfl rfl rfl ?_
  refine gl_f (s_assign rfl) rfl rfl rfl ?_
  refine gl_nil ?_
  repeat (first | refine g_seq ?_ | refine at_code ?_ | refine g_skip ?_ | refine g_block ?_ | refine g_exit rfl ?_ | refine g_cond_t rfl ?_ | refine g_cond_f rfl ?_)
  refine g_region ?_
  refine gl_f (s_assign rfl) rfl rfl rfl ?_
  refine gl_nil ?_
  repeat (first | refine g_seq ?_ | refine at_code ?_ | refine g_skip ?_ | refine g_block ?_ | refine g_exit rfl ?_ | refine g_cond_t rfl ?_ | refine g_cond_f rfl ?_)
  refine g_region ?_
  refine gl_f (s_assign rfl) rfl rfl rfl ?_
  refine gl_nil ?_
  repeat (first | refine g_seq ?_ | refine at_code ?_ | refine g_skip ?_ | refine g_block ?_ | refine g_exit rfl ?_ | refine g_cond_t rfl ?_ | refine g_cond_f rfl ?_)
  refine g_own_nil 5 1 ?_
  refine g_loop (ι := Nat × Option Addr × Nat) (fun i => i.1 ≤ s.length / 2) (fun i => [(0, B s), (4, .slice i.2.1 i.1 i.2.2), (5, .int .i64 ((2 * i.1 : Nat) : Int))]) (fun i => [.own (.slice i.2.1 i.1 i.2.2) 5 1 (bytesV (pbs s i.1))]) (fun i => s.length / 2 - i.1) (0, none, 0) (by omega) ?_ ?_ ?_
  · (repeat (first | exact Sub.nil _ | refine Sub.cons rfl ?_))
  · intro w hw; exact hw
  · rintro ⟨k, a, c⟩ hk
    simp only at hk
    repeat (first | refine g_seq ?_ | refine at_code ?_ | refine g_skip ?_ | refine g_block ?_ | refine g_exit rfl ?_ | refine g_cond_t rfl ?_ | refine g_cond_f rfl ?_)
    refine g_region ?_
    refine gl_f (s_move rfl) rfl rfl rfl ?_
    refine gl_f (s_add_i64 rfl rfl (by omega)) rfl rfl rfl ?_
    refine gl_f (s_move rfl) rfl rfl rfl ?_
    refine gl_f (s_len_str rfl) rfl rfl rfl ?_
    refine gl_f (s_lss rfl rfl) rfl rfl rfl ?_
    refine gl_nil ?_
    repeat (first | refine g_seq ?_ | refine at_code ?_ | refine g_skip ?_ | refine g_block ?_ | refine g_exit rfl ?_ | refine g_cond_t rfl ?_ | refine g_cond_f rfl ?_)
    refine g_cond rfl (fun h => ?_) (fun h => ?_)
    · have hk' : 2 * k + 1 < s.length := by simp at h; omega
      repeat (first | refine g_seq ?_ | refine at_code ?_ | refine g_skip ?_ | refine g_block ?_ | refine g_exit rfl ?_ | refine g_cond_t rfl ?_ | refine g_cond_f rfl ?_)
      refine g_draw0 [] 11 rfl ?_
      refine ga_free 0 rfl (s_move rfl) rfl rfl rfl (by kernel_rfl) ?_
      refine ga_free 1 rfl (s_move rfl) rfl rfl rfl (by kernel_rfl) ?_
      refine ga_free 2 rfl ((s_index_str rfl rfl (by omega)).eq (v' := .int .u8 ((s.getD (2 * k) 0).toNat : Nat)) rfl) rfl rfl rfl (by kernel_rfl) ?_
      refine ga_free 4 rfl (s_move rfl) rfl rfl rfl (by kernel_rfl) ?_
      refine ga_free 5 rfl (s_move rfl) rfl rfl rfl (by kernel_rfl) ?_
      refine ga_free 6 rfl (s_add_i64 rfl rfl (by omega)) rfl rfl rfl (by kernel_rfl) ?_
      refine ga_free 7 rfl ((s_index_str rfl rfl (by omega)).eq (v' := .int .u8 ((s.getD (2 * k + 1) 0).toNat : Nat)) rfl) rfl rfl rfl (by kernel_rfl) ?_
      refine ga_one 3 rfl (by kernel_rfl) ?_
      refine gl_callp rfl (digit_ct _) (fun _ _ _ => trivial) rfl ?_
      refine gl_nil ?_
      refine at_ga (.inl (by kernel_rfl)) ?_
      refine ga_one 8 rfl (by kernel_rfl) ?_
      refine gl_callp rfl (digit_ct _) (fun _ _ _ => trivial) rfl ?_
      refine gl_nil ?_
      refine at_ga (.inl (by kernel_rfl)) ?_
      refine ga_free 9 rfl (s_assign rfl) rfl rfl rfl (by kernel_rfl) ?_
      refine ga_free 10 rfl (s_assign rfl) rfl rfl rfl (by kernel_rfl) ?_
      refine ga_done (by kernel_rfl) ?_
      repeat (first | refine g_seq ?_ | refine at_code ?_ | refine g_skip ?_ | refine g_block ?_ | refine g_exit rfl ?_ | refine g_cond_t rfl ?_ | refine g_cond_f rfl ?_)
      repeat (first | refine g_seq ?_ | refine at_code ?_ | refine g_skip ?_ | refine g_block ?_ | refine g_exit rfl ?_ | refine g_cond_t rfl ?_ | refine g_cond_f rfl ?_)
      refine g_region ?_
      refine gl_f (s_move rfl) rfl rfl rfl ?_
      refine gl_f (s_move rfl) rfl rfl rfl ?_
      refine gl_f (s_shl rfl rfl (by omega)) rfl rfl rfl ?_
      refine gl_f (s_move rfl) rfl rfl rfl ?_
      refine gl_f (s_bits (.inl rfl) rfl rfl) rfl rfl rfl ?_
      refine gl_f (s_bits (.inr (.inl rfl)) rfl rfl) rfl rfl rfl ?_
      refine gl_f ((s_conv_int rfl).eq (pby_val (s.getD (2 * k) 0) (s.getD (2 * k + 1) 0))) rfl rfl rfl ?_
      refine gl_buildSliceU rfl rfl rfl rfl rfl rfl (xs := bytesV [pby (s.getD (2 * k) 0) (s.getD (2 * k + 1) 0)]) rfl rfl ?_; intro a4 ha4
      refine gl_append rfl rfl (fun a' c' => .there .here) (fun w hw => (hw.ownN (by repeat first|exact .del|apply Upd.there)).2.2.1) rfl rfl rfl (bytesV_one _) (by show (_ + 1) * 1 ≤ _; omega) (by omega) rfl ?_; intro a5 c5 hc5
      refine gl_f (s_assign rfl) rfl rfl rfl ?_
      refine gl_nil ?_
      repeat (first | refine g_seq ?_ | refine at_code ?_ | refine g_skip ?_ | refine g_block ?_ | refine g_exit rfl ?_ | refine g_cond_t rfl ?_ | refine g_cond_f rfl ?_)
      repeat (first | refine g_seq ?_ | refine at_code ?_ | refine g_skip ?_ | refine g_block ?_ | refine g_exit rfl ?_ | refine g_cond_t rfl ?_ | refine g_cond_f rfl ?_)
      refine g_region ?_
      refine gl_f (s_move rfl) rfl rfl rfl ?_
      refine gl_f (s_add_i64 rfl rfl (by omega)) rfl rfl rfl ?_
      refine gl_f (s_assign rfl) rfl rfl rfl ?_
      refine gl_nil ?_
      repeat (first | refine g_seq ?_ | refine at_code ?_ | refine g_skip ?_ | refine g_block ?_ | refine g_exit rfl ?_ | refine g_cond_t rfl ?_ | refine g_cond_f rfl ?_)
      refine at_next (k + 1, a5, c5) (by simp only; omega) (by simp only; omega) ?_ ?_
      · (repeat (first | exact Sub.nil _ | refine Sub.cons rfl ?_))
      · intro w hw
        simp only [pbs_succ, bytesV_append]
        exact hw.drop
    · have hkl : k = s.length / 2 := by simp at h; omega
      subst hkl
      repeat (first | refine g_seq ?_ | refine at_code ?_ | refine g_skip ?_ | refine g_block ?_ | refine g_exit rfl ?_ | refine g_cond_t rfl ?_ | refine g_cond_f rfl ?_)
      repeat (first | refine g_seq ?_ | refine at_code ?_ | refine g_skip ?_ | refine g_block ?_ | refine g_exit rfl ?_ | refine g_cond_t rfl ?_ | refine g_cond_f rfl ?_)
      refine g_region ?_
      refine gl_f (s_move rfl) rfl rfl rfl ?_
      refine gl_r (s_string (l := pbs s (s.length / 2)) rfl (by rw [pbs_length]) (fun w hw => (hw.ownN .del).2.2.1)) rfl rfl rfl ?_
      refine gl_callp rfl (Hex_ct _ (by rw [pbs_length]; omega)) (fun _ _ _ => trivial) rfl ?_
      refine gl_f (s_move rfl) rfl rfl rfl ?_
      refine gl_f (s_neq_str rfl rfl) rfl rfl rfl ?_
      refine gl_nil ?_
      repeat (first | refine g_seq ?_ | refine at_code ?_ | refine g_skip ?_ | refine g_block ?_ | refine g_exit rfl ?_ | refine g_cond_t rfl ?_ | refine g_cond_f rfl ?_)
      refine g_cond rfl (fun h2 => ?_) (fun h2 => ?_)
      · have h3 : hexs (pbs s (s.length / 2)) ≠ s := by simpa using h2
        repeat (first | refine g_seq ?_ | refine at_code ?_ | refine g_skip ?_ | refine g_block ?_ | refine g_exit rfl ?_ | refine g_cond_t rfl ?_ | refine g_cond_f rfl ?_)
        refine g_region ?_
        refine gl_f (s_assign rfl) rfl rfl rfl ?_
        refine gl_f (s_assign rfl) rfl rfl rfl ?_
        refine gl_nil ?_
        repeat (first | refine g_seq ?_ | refine at_code ?_ | refine g_skip ?_ | refine g_block ?_ | refine g_exit rfl ?_ | refine g_cond_t rfl ?_ | refine g_cond_f rfl ?_)
        refine g_ret ?_
        exact at_end2 rfl rfl rfl [] ⟨by rw [unhexV, unhex_no h3], rfl⟩ (fun _ h => h.dropAll)
      · have h3 : hexs (pbs s (s.length / 2)) = s := by simpa using h2
        repeat (first | refine g_seq ?_ | refine at_code ?_ | refine g_skip ?_ | refine g_block ?_ | refine g_exit rfl ?_ | refine g_cond_t rfl ?_ | refine g_cond_f rfl ?_)
        refine g_region ?_
        refine gl_f (s_move rfl) rfl rfl rfl ?_
        refine gl_r (s_string (l := pbs s (s.length / 2)) rfl (by rw [pbs_length]) (fun w hw => (hw.ownN .del).2.2.1)) rfl rfl rfl ?_
        refine gl_f (s_assign rfl) rfl rfl rfl ?_
        refine gl_f (s_assign rfl) rfl rfl rfl ?_
        refine gl_nil ?_
        repeat (first | refine g_seq ?_ | refine at_code ?_ | refine g_skip ?_ | refine g_block ?_ | refine g_exit rfl ?_ | refine g_cond_t rfl ?_ | refine g_cond_f rfl ?_)
        refine g_ret ?_
        exact at_end2 rfl rfl rfl [] ⟨by rw [unhexV, unhex_yes h3], rfl⟩ (fun _ h => h.dropAll)

end Go.Proofs.Ytolgclfbllcjhaa.Dg
