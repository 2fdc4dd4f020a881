import Derived.Test.YtgllpcggdcknaaaGreatDoorCx8
import Derived.WalkKit
import Derived.ProofKit
set_option linter.unusedVariables false
set_option linter.unusedSimpArgs false
namespace Go.Proofs.YtgllpcggdcknaaaGreatDoor.Rp
open Go Go.Sl Go.RowKit
theorem bytesV_one (l : Bs) : ∀ q ∈ bytesV l, q.oneCell' = true := fun q hq => by
 obtain ⟨x, _, rfl⟩ := List.mem_map.mp hq
 rfl
set_option maxRecDepth 8000 in
theorem QuoteW_ct (s : Bs) (hl : s.length ≤ 9223372036854775806) : Pu Tryz.prog 69 [B s] (fun _ => True) (optV (quoteS s)) := by
 obtain ⟨q1, h1⟩ : ∃ q, q = decide ((s.length : Int) > 512) := ⟨_, rfl⟩
 obtain ⟨q2, h2⟩ : ∃ q, q = decide (s = []) := ⟨_, rfl⟩
 obtain ⟨q3, h3⟩ : ∃ q, q = (s.all quotable && !s.isEmpty) := ⟨_, rfl⟩
 have hq : (s.length ≤ 512 ∧ s.all quotable = true) ↔ (q1 || (!q2 && !q3)) = false := by
  rw [Bool.or_eq_false_iff, h1, decide_eq_false_iff_not]
  cases s with
  | nil => simp [h2]
  | cons c t =>
   rw [h2, h3]
   simp
   omega
 refine ct_enter 48 Tryz.func69 rfl rfl rfl ?_
 intro F _
 repeat refine x_ ?_
 refine a_ ?_
 refine a_ ?_
 repeat refine n_ ?_
 refine g_cutK [(0, B s), (17, .bool (q1 || (!q2 && !q3)))] [] ?_ ?_
 ·cases q1 <;> cases q2
  all_goals (
   repeat refine x_ ?_
   refine m_ ?_
   refine f_ (s_len_str rfl) ?_
   refine f_ ((s_gtr rfl rfl).eb h1) ?_
   refine m_ ?_
   (first | refine gl_guard_no rfl rfl rfl rfl rfl rfl rfl ?_ | (refine v_ ?_; refine m_ ?_))
   (first | refine gl_guard_no rfl rfl rfl rfl rfl rfl rfl ?_ | (refine v_ ?_; refine f_ ((s_neq_str rfl rfl).eq (congrArg (fun b => Value.bool (!b)) h2.symm)) ?_))
   (first | refine gl_guard_no rfl rfl rfl rfl rfl rfl rfl ?_ | (refine v_ ?_; refine m_ ?_))
   (first|refine u_ ?_|(refine v_ ?_; refine m_ ?_))
   (first|refine u_ ?_|(refine v_ ?_; refine gl_callp rfl (all_ct 99 quotable quotableW_ct s hl) (fun _ _ _ => trivial) rfl ?_; rw [← h3]))
   (first|refine u_ ?_|(refine v_ ?_; refine f_ (s_not rfl) ?_))
   (first | refine gl_guard_no rfl rfl rfl rfl rfl rfl rfl ?_ | (refine v_ ?_; refine f_ z_4 ?_))
   refine f_ z_4 ?_
   refine gl_nil ?_
   repeat refine y_ ?_)
  all_goals exact at_cut j_ i_
 repeat refine y_ ?_
 refine g_cond rfl (fun h => ?_) (fun h => ?_)
 ·have e : quoteS s = none := by
   unfold quoteS
   exact if_neg (fun k => by rw [hq.1 k] at h; cases h)
  rw [e]
  repeat refine x_ ?_
  refine a_ ?_
  refine a_ ?_
  repeat refine n_ ?_
  refine g_ret ?_
  exact at_end2 rfl rfl rfl [] ⟨rfl, rfl⟩ (fun _ h => h)
 have hqq := hq.2 h
 have e : quoteS s = some (34 :: s.flatMap escC ++ [34]) := by unfold quoteS; exact if_pos hqq
 have hlen := esc_len s
 rw [e]
 repeat refine x_ ?_
 refine gl_buildSliceU rfl rfl rfl rfl rfl rfl (xs := bytesV [34]) rfl rfl ?_; intro a18 ha18
 refine a_ ?_
 repeat refine x_ ?_
 refine m_ ?_
 refine f_ (s_len_str rfl) ?_
 refine m_ ?_
 repeat refine n_ ?_
 refine g_loop (ι := Nat × Option Addr × Nat) (fun i => i.1 ≤ s.length) (fun i => [(0, B s), (4, .slice i.2.1 (34 :: (s.take i.1).flatMap escC).length i.2.2), (20, .int .i64 (s.length : Nat)), (21, .int .i64 (i.1 : Nat))]) (fun i => [.own (.slice i.2.1 (34 :: (s.take i.1).flatMap escC).length i.2.2) 5 1 (bytesV (34 :: (s.take i.1).flatMap escC))]) (fun i => s.length - i.1) (0, a18, 1) z_7 ?_ ?_ ?_
 ·(repeat (first | exact Sub.nil _ | refine Sub.cons rfl ?_))
 ·intro w hw; exact hw
 rintro ⟨k, a, c⟩ hk
 simp only at hk
 obtain ⟨b, hb⟩ : ∃ b, b = 34 :: (s.take k).flatMap escC := ⟨_, rfl⟩
 have hbl : b.length ≤ 2000 := by
  have := esc_len (s.take k)
  rw [List.length_take] at this
  rw [hb, List.length_cons]
  omega
 refine G.weaken (L' := [(0, B s), (4, .slice a b.length c), (20, .int .i64 (s.length : Nat)), (21, .int .i64 (k : Nat))]) (H' := [.own (.slice a b.length c) 5 1 (bytesV b)]) ?_ (by rw [hb]; (repeat (first | exact Sub.nil _ | refine Sub.cons rfl ?_))) (fun w hw => by rw [hb]; exact hw)
 repeat refine x_ ?_
 refine f_ (s_lss rfl rfl) ?_
 repeat refine n_ ?_
 refine g_cond rfl (fun h => ?_) (fun h => ?_)
 ·have hk' : k < s.length := by simp at h; omega
  have hf := flat_snoc hk'
  obtain ⟨d, hd⟩ : ∃ d, d = s.getD k 0 := ⟨_, rfl⟩
  rw [← hd] at hf
  have hf2 : 34 :: (s.take (k + 1)).flatMap escC = b ++ escC d := by rw [hf, hb]; rfl
  obtain ⟨p1, hp1⟩ : ∃ q, q = decide (d = 34) := ⟨_, rfl⟩
  obtain ⟨p2, hp2⟩ : ∃ q, q = decide (d = 92) := ⟨_, rfl⟩
  repeat refine x_ ?_
  refine m_ ?_
  refine a_ ?_
  repeat refine n_ ?_
  refine g_cutK [(0, B s), (4, .slice a b.length c), (5, .int .i64 (k : Nat)), (20, .int .i64 (s.length : Nat)), (21, .int .i64 (k : Nat)), (33, .bool (p1 || p2))] [.own (.slice a b.length c) 5 1 (bytesV b)] ?_ ?_
  ·cases p1
   all_goals (
    repeat refine x_ ?_
    refine m_ ?_
    refine m_ ?_
    refine f_ ((s_index_str rfl rfl (by omega)).eq (v' := U8 d) (by rw [hd]; simp only [Int.toNat_natCast])) ?_
    refine f_ ((s_eql rfl rfl).eq ((congrArg Value.bool (u8_eq (b := 34))).trans (congrArg Value.bool hp1.symm))) ?_
    refine m_ ?_
    (first | refine gl_guard_no rfl rfl rfl rfl rfl rfl rfl ?_ | (refine v_ ?_; refine m_ ?_))
    (first | refine gl_guard_no rfl rfl rfl rfl rfl rfl rfl ?_ | (refine v_ ?_; refine m_ ?_))
    (first | refine gl_guard_no rfl rfl rfl rfl rfl rfl rfl ?_ | (refine v_ ?_; refine f_ ((s_index_str rfl rfl (by omega)).eq (v' := U8 d) (by rw [hd]; simp only [Int.toNat_natCast])) ?_))
    (first | refine gl_guard_no rfl rfl rfl rfl rfl rfl rfl ?_ | (refine v_ ?_; refine f_ ((s_eql rfl rfl).eq ((congrArg Value.bool (u8_eq (b := 92))).trans (congrArg Value.bool hp2.symm))) ?_))
    refine f_ z_4 ?_
    refine gl_nil ?_
    repeat refine y_ ?_)
   all_goals exact at_cut j_ i_
  have hesc : escC d = if (p1 || p2) = true then [92, d] else [d] := by
   rw [hp1, hp2]
   unfold escC
   by_cases x : d = 34 <;> by_cases y : d = 92 <;> simp [x, y]
  repeat refine y_ ?_
  refine g_cond rfl (fun h4 => ?_) (fun h4 => ?_)
  ·rw [if_pos h4] at hesc
   repeat refine x_ ?_
   refine m_ ?_
   refine gl_buildSliceU rfl rfl rfl rfl rfl rfl (xs := bytesV [92]) rfl rfl ?_; intro a35 ha35
   refine gl_append rfl rfl (fun a' c' => .there .here) (fun w hw => (hw.ownN z_3).2.2.1) rfl rfl rfl (bytesV_one _) (by show (b.length + 1) * 1 ≤ _; omega) (by omega) rfl ?_; intro a5 c5 hc5
   refine a_ ?_
   repeat refine n_ ?_
   rw [show bytesV b ++ bytesV [92] = bytesV (b ++ [92]) from (bytesV_append _ _).symm]
   repeat refine x_ ?_
   refine m_ ?_
   refine m_ ?_
   refine m_ ?_
   refine f_ ((s_index_str rfl rfl (by omega)).eq (v' := U8 d) (by rw [hd]; simp only [Int.toNat_natCast])) ?_
   refine gl_buildSliceU rfl rfl rfl rfl rfl rfl (xs := bytesV [d]) rfl rfl ?_; intro a41 ha41
   refine gl_append rfl rfl (fun a' c' => .there (.there .here)) (fun w hw => (hw.ownN z_3).2.2.1) rfl rfl rfl (bytesV_one _) (by show (b.length + 1 + 1) * 1 ≤ _; omega) (by omega) rfl ?_; intro a6 c6 hc6
   refine a_ ?_
   repeat refine x_ ?_
   refine f_ (s_add_i64 rfl rfl (by omega)) ?_
   refine m_ ?_
   repeat refine n_ ?_
   refine at_next (k + 1, a6, c6) (by simp only; omega) (by simp only; omega) ?_ ?_
   ·simp only
    rw [hf2, hesc, List.length_append]
    (repeat (first | exact Sub.nil _ | refine Sub.cons rfl ?_))
   ·intro w hw
    simp only
    rw [hf2, hesc, List.length_append, show b ++ [92, d] = (b ++ [92]) ++ [d] by simp, bytesV_append (b ++ [92])]
    exact hw.drop.drop
  ·rw [if_neg (by rw [h4]; simp)] at hesc
   repeat refine x_ ?_
   refine m_ ?_
   refine m_ ?_
   refine m_ ?_
   refine f_ ((s_index_str rfl rfl (by omega)).eq (v' := U8 d) (by rw [hd]; simp only [Int.toNat_natCast])) ?_
   refine gl_buildSliceU rfl rfl rfl rfl rfl rfl (xs := bytesV [d]) rfl rfl ?_; intro a41 ha41
   refine gl_append rfl rfl (fun a' c' => .there .here) (fun w hw => (hw.ownN z_3).2.2.1) rfl rfl rfl (bytesV_one _) (by show (b.length + 1) * 1 ≤ _; omega) (by omega) rfl ?_; intro a6 c6 hc6
   refine a_ ?_
   repeat refine x_ ?_
   refine f_ (s_add_i64 rfl rfl (by omega)) ?_
   refine m_ ?_
   repeat refine n_ ?_
   refine at_next (k + 1, a6, c6) (by simp only; omega) (by simp only; omega) ?_ ?_
   ·simp only
    rw [hf2, hesc, List.length_append]
    (repeat (first | exact Sub.nil _ | refine Sub.cons rfl ?_))
   ·intro w hw
    simp only
    rw [hf2, hesc, List.length_append, bytesV_append]
    exact hw.drop
 ·have hkl : k = s.length := by simp at h; omega
  rw [hkl, List.take_length] at hb
  repeat refine x_ ?_
  refine m_ ?_
  refine gl_buildSliceU rfl rfl rfl rfl rfl rfl (xs := bytesV [34]) rfl rfl ?_; intro a45 ha45
  refine gl_append rfl rfl (fun a' c' => .there .here) (fun w hw => (hw.ownN z_3).2.2.1) rfl rfl rfl (bytesV_one _) (by show (b.length + 1) * 1 ≤ _; omega) (by omega) rfl ?_; intro a5 c5 hc5
  refine r_ (s_string (l := 34 :: s.flatMap escC ++ [34]) rfl (by rw [← hb, List.length_append]; rfl) (fun w hw => by have h5 := (hw.ownN (.there .del)).2.2.1; rwa [← bytesV_append, hb] at h5)) ?_
  refine a_ ?_
  refine a_ ?_
  repeat refine n_ ?_
  refine g_ret ?_
  exact at_end2 rfl rfl rfl [] ⟨rfl, rfl⟩ (fun _ h => h.dropAll)
theorem uq_bad {b : Bs} {i : Nat} {c : UInt8} {t : Bs} (h : quotable c = false ∨ 512 < b.length) : uqL b i (c :: t) = none := by
 rw [uqL_cons]
 rcases h with h | h
 ·split
  ·rfl
  split
  ·next h2 => subst h2; cases h
  split
  ·next h2 => subst h2; cases h
  ·simp [h]
 ·rw [if_pos h]
set_option maxRecDepth 8000 in
theorem UnquoteW_ct (s : Bs) (hl : s.length ≤ big) : Pu Tryz.prog 89 [B s] (fun _ => True) (unqV (uqS s)) := by
 unfold big at hl
 obtain ⟨q1, h1⟩ : ∃ q, q = decide (s = []) := ⟨_, rfl⟩
 obtain ⟨q2, h2⟩ : ∃ q, q = decide (s.getD 0 0 = 34) := ⟨_, rfl⟩
 have hq : (q1 || !q2) = true → uqS s = none := fun h => by
  cases s with
  | nil => rfl
  | cons c t =>
   have a1 : q1 = false := h1.trans (decide_eq_false z_7)
   rw [a1, Bool.false_or] at h
   have a2 : q2 = false := by simpa using h
   have a3 : ¬c = 34 := of_decide_eq_false (h2.symm.trans a2)
   unfold uqS
   simp only
   rw [if_neg a3]
 have hq2 : (q1 || !q2) = false → uqS s = uqL [] 1 (s.drop 1) ∧ 1 ≤ s.length := fun h => by
  cases s with
  | nil =>
   have a1 : q1 = true := h1.trans (decide_eq_true rfl)
   rw [a1] at h
   cases h
  | cons c t =>
   have a1 : q1 = false := h1.trans (decide_eq_false z_7)
   rw [a1, Bool.false_or] at h
   have a2 : q2 = true := by simpa using h
   have a3 : c = 34 := of_decide_eq_true (h2.symm.trans a2)
   unfold uqS
   simp only
   rw [if_pos a3]
   exact ⟨rfl, by simp⟩
 refine ct_enter 74 Tryz.func89 rfl rfl rfl ?_
 intro F _
 repeat refine x_ ?_
 refine a_ ?_
 refine a_ ?_
 refine a_ ?_
 repeat refine n_ ?_
 refine g_cutK [(0, B s), (14, .bool (q1 || !q2))] [] ?_ ?_
 ·cases q1
  all_goals (
   repeat refine x_ ?_
   refine m_ ?_
   refine f_ ((s_eql_str rfl rfl).eb h1) ?_
   refine m_ ?_
   (first | refine gl_guard_no rfl rfl rfl rfl rfl rfl rfl ?_ | (refine v_ ?_; refine m_ ?_))
   (first | refine gl_guard_no rfl rfl rfl rfl rfl rfl rfl ?_ | (refine v_ ?_; refine f_ ((s_index_str rfl rfl (by have : s ≠ [] := of_decide_eq_false h1.symm; have := List.length_pos_iff.mpr this; omega)).eq (v' := U8 (s.getD 0 0)) rfl) ?_))
   (first | refine gl_guard_no rfl rfl rfl rfl rfl rfl rfl ?_ | (refine v_ ?_; refine f_ ((s_neq rfl rfl).eq ((congrArg (fun b => Value.bool (!b)) (u8_eq (b := 34))).trans (congrArg (fun b => Value.bool (!b)) h2.symm))) ?_))
   refine f_ z_4 ?_
   refine gl_nil ?_
   repeat refine y_ ?_)
  all_goals exact at_cut j_ i_
 repeat refine y_ ?_
 refine g_cond rfl (fun h => ?_) (fun h => ?_)
 ·rw [hq h]
  repeat refine x_ ?_
  refine a_ ?_
  refine a_ ?_
  refine a_ ?_
  repeat refine n_ ?_
  refine g_ret ?_
  exact at_end3 rfl rfl rfl rfl [] ⟨rfl, rfl⟩ (fun _ h => h)
 obtain ⟨he0, hs1⟩ := hq2 h
 repeat refine x_ ?_
 refine a_ ?_
 repeat refine x_ ?_
 refine a_ ?_
 repeat refine n_ ?_
 refine g_own_nil 5 1 ?_
 refine g_loop (ι := Nat × Bs × Option Addr × Nat) (fun i => 1 ≤ i.1 ∧ i.1 ≤ s.length ∧ i.2.1.length ≤ 513 ∧ uqS s = uqL i.2.1 i.1 (s.drop i.1)) (fun i => [(0, B s), (5, .slice i.2.2.1 i.2.1.length i.2.2.2), (6, .int .i64 (i.1 : Nat))]) (fun i => [.own (.slice i.2.2.1 i.2.1.length i.2.2.2) 5 1 (bytesV i.2.1)]) (fun i => s.length - i.1) (1, [], none, 0) ⟨by simp, hs1, by simp, he0⟩ ?_ ?_ ?_
 ·(repeat (first | exact Sub.nil _ | refine Sub.cons rfl ?_))
 ·intro w hw; exact hw
 rintro ⟨k, b, a, c⟩ ⟨hk1, hk, hbl, he⟩
 simp only at hk1 hk hbl he
 obtain ⟨p1, hp1⟩ : ∃ q, q = decide ((k : Int) < (s.length : Nat)) := ⟨_, rfl⟩
 obtain ⟨d, hd⟩ : ∃ d, d = s.getD k 0 := ⟨_, rfl⟩
 obtain ⟨p2, hp2⟩ : ∃ q, q = quotable d := ⟨_, rfl⟩
 obtain ⟨p3, hp3⟩ : ∃ q, q = decide ((b.length : Int) ≤ 512) := ⟨_, rfl⟩
 repeat refine y_ ?_
 refine g_cutK [(0, B s), (5, .slice a b.length c), (6, .int .i64 (k : Nat)), (29, .bool (p1 && (p2 && p3)))] [.own (.slice a b.length c) 5 1 (bytesV b)] ?_ ?_
 ·cases p1 <;> cases p2
  all_goals (
   repeat refine x_ ?_
   refine m_ ?_
   refine m_ ?_
   refine f_ (s_len_str rfl) ?_
   refine f_ ((s_lss rfl rfl).eb hp1) ?_
   refine m_ ?_
   (first | refine gl_guard_no rfl rfl rfl rfl rfl rfl rfl ?_ | (refine v_ ?_; refine m_ ?_))
   (first | refine gl_guard_no rfl rfl rfl rfl rfl rfl rfl ?_ | (refine v_ ?_; refine m_ ?_))
   (first | refine gl_guard_no rfl rfl rfl rfl rfl rfl rfl ?_ | (refine v_ ?_; refine f_ ((s_index_str rfl rfl (by have := of_decide_eq_true hp1.symm; omega)).eq (v' := U8 d) (by rw [hd]; simp only [Int.toNat_natCast])) ?_))
   (first | refine gl_guard_no rfl rfl rfl rfl rfl rfl rfl ?_ | (refine v_ ?_; refine gl_callp rfl (quotableW_ct d) (fun _ _ _ => trivial) rfl ?_; rw [← hp2]))
   refine f_ z_4 ?_
   refine m_ ?_
   (first | refine gl_guard_no rfl rfl rfl rfl rfl rfl rfl ?_ | (refine v_ ?_; refine m_ ?_))
   (first | refine gl_guard_no rfl rfl rfl rfl rfl rfl rfl ?_ | (refine v_ ?_; refine f_ (s_len_sl rfl) ?_))
   (first | refine gl_guard_no rfl rfl rfl rfl rfl rfl rfl ?_ | (refine v_ ?_; refine f_ ((s_leq rfl rfl).eb hp3) ?_))
   refine f_ z_4 ?_
   refine gl_nil ?_
   repeat refine y_ ?_)
  all_goals exact at_cut j_ i_
 repeat refine y_ ?_
 refine g_cond rfl (fun h => ?_) (fun h => ?_)
 rotate_left
 ·have hnone : uqS s = none := by
   rw [he]
   rcases Nat.lt_or_ge k s.length with h5 | h5
   ·rw [drop_get h5, ← hd]
    have a1 : p1 = true := hp1.trans (decide_eq_true (by omega))
    rw [a1, Bool.true_and] at h
    refine uq_bad ?_
    cases p2 with
    | false => exact .inl hp2.symm
    | true =>
     rw [Bool.true_and] at h
     rw [h] at hp3
     have := of_decide_eq_false hp3.symm
     exact .inr (by omega)
   ·rw [List.drop_of_length_le h5]; rfl
  rw [hnone]
  repeat refine x_ ?_
  refine a_ ?_
  refine a_ ?_
  refine a_ ?_
  repeat refine n_ ?_
  refine g_ret ?_
  exact at_end3 rfl rfl rfl rfl [] ⟨rfl, rfl⟩ (fun _ h => h.dropAll)
 simp only [Bool.and_eq_true] at h
 have hk' : k < s.length := by have := of_decide_eq_true (hp1.symm.trans h.1); omega
 have hqd : quotable d = true := hp2.symm.trans h.2.1
 have hb5 : b.length ≤ 512 := by have := of_decide_eq_true (hp3.symm.trans h.2.2); omega
 rw [drop_get hk', ← hd, uqL_cons, if_neg (by omega)] at he
 repeat refine x_ ?_
 refine m_ ?_
 refine m_ ?_
 refine f_ ((s_index_str rfl rfl (by omega)).eq (v' := U8 d) (by rw [hd]; simp only [Int.toNat_natCast])) ?_
 refine a_ ?_
 repeat refine n_ ?_
 obtain ⟨r1, hr1⟩ : ∃ q, q = decide (d = 34) := ⟨_, rfl⟩
 repeat refine y_ ?_
 refine g_cutK [(0, B s), (5, .slice a b.length c), (6, .int .i64 (k : Nat)), (7, U8 d), (35, .bool r1)] [.own (.slice a b.length c) 5 1 (bytesV b)] ?_ ?_
 ·cases r1
  all_goals (
   repeat refine x_ ?_
   refine m_ ?_
   refine f_ ((s_eql rfl rfl).eq ((congrArg Value.bool (u8_eq (b := 34))).trans (congrArg Value.bool hr1.symm))) ?_
   refine m_ ?_
   (first | refine gl_guard_no rfl rfl rfl rfl rfl rfl rfl ?_ | (refine v_ ?_; refine m_ ?_))
   (first | refine gl_guard_no rfl rfl rfl rfl rfl rfl rfl ?_ | (refine v_ ?_; refine f_ (s_len_sl rfl) ?_))
   (first | refine gl_guard_no rfl rfl rfl rfl rfl rfl rfl ?_ | (refine v_ ?_; refine f_ ((s_leq rfl rfl).eq (v' := .bool true) (congrArg Value.bool (decide_eq_true (by omega)))) ?_))
   refine f_ z_4 ?_
   refine a_ ?_
   refine gl_nil ?_
   repeat refine y_ ?_)
  all_goals exact at_cut j_ i_
 repeat refine y_ ?_
 refine g_cond rfl (fun h3 => ?_) (fun h3 => ?_)
 ·rw [if_pos (of_decide_eq_true (hr1.symm.trans h3))] at he
  rw [he]
  repeat refine x_ ?_
  refine m_ ?_
  refine r_ (s_string (l := b) rfl rfl (fun w hw => (hw.ownN z_3).2.2.1)) ?_
  refine m_ ?_
  refine f_ (s_add_i64 rfl rfl (by omega)) ?_
  refine a_ ?_
  refine a_ ?_
  refine a_ ?_
  repeat refine n_ ?_
  refine g_ret ?_
  exact at_end3 rfl rfl rfl rfl [] ⟨rfl, rfl⟩ (fun _ h => h.dropAll)
 rw [if_neg (of_decide_eq_false (hr1.symm.trans h3))] at he
 repeat refine x_ ?_
 refine m_ ?_
 refine f_ ((s_eql rfl rfl).eq (v' := .bool (decide (d = 92))) (congrArg Value.bool (u8_eq (b := 92)))) ?_
 refine a_ ?_
 repeat refine n_ ?_
 refine g_cond rfl (fun h4 => ?_) (fun h4 => ?_)
 ·rw [if_pos (of_decide_eq_true h4)] at he
  repeat refine x_ ?_
  refine m_ ?_
  refine f_ (s_add_i64 rfl rfl (by omega)) ?_
  refine a_ ?_
  repeat refine n_ ?_
  obtain ⟨z, hz⟩ : ∃ d, d = s.getD (k + 1) 0 := ⟨_, rfl⟩
  obtain ⟨u1, hu1⟩ : ∃ q, q = decide (((k : Int) + 1) ≥ (s.length : Nat)) := ⟨_, rfl⟩
  obtain ⟨u2, hu2⟩ : ∃ q, q = decide (z = 34) := ⟨_, rfl⟩
  obtain ⟨u3, hu3⟩ : ∃ q, q = decide (z = 92) := ⟨_, rfl⟩
  repeat refine y_ ?_
  refine g_cutK [(0, B s), (5, .slice a b.length c), (6, .int .i64 ((k : Int) + 1)), (67, .bool (u1 || (!u2 && !u3)))] [.own (.slice a b.length c) 5 1 (bytesV b)] ?_ ?_
  ·cases u1 <;> cases u2
   all_goals (
    repeat refine x_ ?_
    refine m_ ?_
    refine m_ ?_
    refine f_ (s_len_str rfl) ?_
    refine f_ ((s_geq rfl rfl).eb hu1) ?_
    refine m_ ?_
    (first | refine gl_guard_no rfl rfl rfl rfl rfl rfl rfl ?_ | (refine v_ ?_; refine m_ ?_))
    (first | refine gl_guard_no rfl rfl rfl rfl rfl rfl rfl ?_ | (refine v_ ?_; refine m_ ?_))
    (first | refine gl_guard_no rfl rfl rfl rfl rfl rfl rfl ?_ | (refine v_ ?_; refine f_ ((s_index_str rfl rfl (by have := of_decide_eq_false hu1.symm; omega)).eq (v' := U8 z) (by rw [hz]; rfl)) ?_))
    (first | refine gl_guard_no rfl rfl rfl rfl rfl rfl rfl ?_ | (refine v_ ?_; refine f_ ((s_neq rfl rfl).eq ((congrArg (fun b => Value.bool (!b)) (u8_eq (b := 34))).trans (congrArg (fun b => Value.bool (!b)) hu2.symm))) ?_))
    (first | refine gl_guard_no rfl rfl rfl rfl rfl rfl rfl ?_ | (refine v_ ?_; refine m_ ?_))
    (first|refine u_ ?_|(refine v_ ?_; refine m_ ?_))
    (first|refine u_ ?_|(refine v_ ?_; refine m_ ?_))
    (first|refine u_ ?_|(refine v_ ?_; refine f_ ((s_index_str rfl rfl (by have := of_decide_eq_false hu1.symm; omega)).eq (v' := U8 z) (by rw [hz]; rfl)) ?_))
    (first|refine u_ ?_|(refine v_ ?_; refine f_ ((s_neq rfl rfl).eq ((congrArg (fun b => Value.bool (!b)) (u8_eq (b := 92))).trans (congrArg (fun b => Value.bool (!b)) hu3.symm))) ?_))
    (first | refine gl_guard_no rfl rfl rfl rfl rfl rfl rfl ?_ | (refine v_ ?_; refine f_ z_4 ?_))
    refine f_ z_4 ?_
    refine gl_nil ?_
    repeat refine y_ ?_)
   all_goals exact at_cut j_ i_
  repeat refine y_ ?_
  refine g_cond rfl (fun h5 => ?_) (fun h5 => ?_)
  ·have hnone : uqS s = none := by
    rw [he]
    rcases Nat.lt_or_ge (k + 1) s.length with h6 | h6
    ·rw [drop_get h6, ← hz]
     simp only
     refine if_neg fun hh => ?_
     have a1 : u1 = false := hu1.trans (decide_eq_false (by omega))
     rw [a1, Bool.false_or] at h5
     simp only [Bool.and_eq_true, Bool.not_eq_true'] at h5
     rcases hh with hh | hh
     ·rw [hh, h5.1] at hu2; cases hu2
     ·rw [hh, h5.2] at hu3; cases hu3
    ·rw [List.drop_of_length_le h6]
   rw [hnone]
   repeat refine x_ ?_
   refine a_ ?_
   refine a_ ?_
   refine a_ ?_
   repeat refine n_ ?_
   refine g_ret ?_
   exact at_end3 rfl rfl rfl rfl [] ⟨rfl, rfl⟩ (fun _ h => h.dropAll)
  ·have a1 : u1 = false := by cases u1 with | false => rfl | true => cases h5
   have hk2 : k + 1 < s.length := by have := of_decide_eq_false (hu1.symm.trans a1); omega
   have hzz : z = 34 ∨ z = 92 := by
    rw [a1, Bool.false_or] at h5
    cases u2 with
    | true => exact .inl (of_decide_eq_true hu2.symm)
    | false =>
     cases u3 with
     | true => exact .inr (of_decide_eq_true hu3.symm)
     | false => cases h5
   rw [drop_get hk2, ← hz] at he
   simp only at he
   rw [if_pos hzz] at he
   repeat refine x_ ?_
   refine m_ ?_
   refine m_ ?_
   refine m_ ?_
   refine f_ ((s_index_str rfl rfl (by omega)).eq (v' := U8 z) (by rw [hz]; rfl)) ?_
   refine gl_buildSliceU rfl rfl rfl rfl rfl rfl (xs := bytesV [z]) rfl rfl ?_; intro a41 ha41
   refine gl_append rfl rfl (fun a' c' => .there .here) (fun w hw => (hw.ownN z_3).2.2.1) rfl rfl rfl (bytesV_one _) (by show (b.length + 1) * 1 ≤ _; omega) (by omega) rfl ?_; intro a6 c6 hc6
   refine a_ ?_
   repeat refine x_ ?_
   refine m_ ?_
   refine f_ ((s_add_i64 rfl rfl (by omega)).eq (v' := .int .i64 ((k + 2 : Nat) : Int)) (by congr 1)) ?_
   refine a_ ?_
   repeat refine n_ ?_
   refine at_next (k + 2, b ++ [z], a6, c6) ⟨by simp only; omega, by simp only; omega, by simp; omega, he⟩ (by simp only; omega) ?_ ?_
   ·simp only
    rw [List.length_append]
    (repeat (first | exact Sub.nil _ | refine Sub.cons rfl ?_))
   ·intro w hw
    simp only
    rw [List.length_append, bytesV_append]
    exact hw.drop
 ·rw [if_neg (of_decide_eq_false h4), if_pos hqd] at he
  repeat refine x_ ?_
  refine m_ ?_
  refine m_ ?_
  refine m_ ?_
  refine f_ ((s_index_str rfl rfl (by omega)).eq (v' := U8 d) (by rw [hd]; simp only [Int.toNat_natCast])) ?_
  refine gl_buildSliceU rfl rfl rfl rfl rfl rfl (xs := bytesV [d]) rfl rfl ?_; intro a41 ha41
  refine gl_append rfl rfl (fun a' c' => .there .here) (fun w hw => (hw.ownN z_3).2.2.1) rfl rfl rfl (bytesV_one _) (by show (b.length + 1) * 1 ≤ _; omega) (by omega) rfl ?_; intro a6 c6 hc6
  refine a_ ?_
  repeat refine x_ ?_
  refine m_ ?_
  refine f_ ((s_add_i64 rfl rfl (by omega)).eq (v' := .int .i64 ((k + 1 : Nat) : Int)) (by congr 1)) ?_
  refine a_ ?_
  repeat refine n_ ?_
  refine at_next (k + 1, b ++ [d], a6, c6) ⟨by simp only; omega, by simp only; omega, by simp; omega, he⟩ (by simp only; omega) ?_ ?_
  ·simp only
   rw [List.length_append]
   (repeat (first | exact Sub.nil _ | refine Sub.cons rfl ?_))
  ·intro w hw
   simp only
   rw [List.length_append, bytesV_append]
   exact hw.drop
end Go.Proofs.YtgllpcggdcknaaaGreatDoor.Rp
namespace Go.Proofs.YtgllpcggdcknaaaGreatDoor.Rp
open Go Go.Sl Go.RowKit
theorem FormW_ct (s : Bs) (hl : s.length ≤ big) : Pu Tryz.prog 32 [B s] Gl (B (formS s)) := by
 have hl' := hl
 unfold big at hl
 obtain ⟨q1, h1⟩ : ∃ q, q = atomS s := ⟨_, rfl⟩
 obtain ⟨q2, h2⟩ : ∃ q, q = decide ((s.length : Int) ≤ 512) := ⟨_, rfl⟩
 obtain ⟨q3, h3⟩ : ∃ q, q = decide (upS s = [78, 73, 76]) := ⟨_, rfl⟩
 have hf : formS s = if (q1 && q2 && !q3) = true then s else (quoteS s).getD (literalS s) := by
  unfold formS
  have : (atomS s = true ∧ s.length ≤ 512 ∧ upS s ≠ [78, 73, 76]) ↔ (q1 && q2 && !q3) = true := by
   rw [Bool.and_eq_true, Bool.and_eq_true, Bool.not_eq_true', ← h1, h2, h3, decide_eq_true_eq, decide_eq_false_iff_not]
   constructor
   ·rintro ⟨a, b, c⟩; exact ⟨⟨a, by omega⟩, c⟩
   ·rintro ⟨⟨a, b⟩, c⟩; exact ⟨a, by omega, c⟩
  by_cases hh : (q1 && q2 && !q3) = true
  ·rw [if_pos hh, if_pos (this.2 hh)]
  ·rw [if_neg hh, if_neg (fun x => hh (this.1 x))]
 refine ct_enter 27 Tryz.func32 rfl rfl rfl ?_
 intro F hg
 repeat refine x_ ?_
 refine a_ ?_
 repeat refine n_ ?_
 refine g_cutK [(0, B s), (16, .bool (q1 && q2 && !q3))] [] ?_ ?_
 ·cases q1 <;> cases q2
  all_goals (
   repeat refine x_ ?_
   refine m_ ?_
   refine gl_callp rfl (AtomW_ct s (by omega)) (fun _ _ _ => trivial) rfl ?_; rw [← h1]
   refine m_ ?_
   (first | refine gl_guard_no rfl rfl rfl rfl rfl rfl rfl ?_ | (refine v_ ?_; refine m_ ?_))
   (first | refine gl_guard_no rfl rfl rfl rfl rfl rfl rfl ?_ | (refine v_ ?_; refine f_ (s_len_str rfl) ?_))
   (first | refine gl_guard_no rfl rfl rfl rfl rfl rfl rfl ?_ | (refine v_ ?_; refine f_ ((s_leq rfl rfl).eb h2) ?_))
   refine f_ z_4 ?_
   refine m_ ?_
   (first | refine gl_guard_no rfl rfl rfl rfl rfl rfl rfl ?_ | (refine v_ ?_; refine m_ ?_))
   (first | refine gl_guard_no rfl rfl rfl rfl rfl rfl rfl ?_ | (refine v_ ?_; refine gl_callp rfl (UpperW_ct s (by omega)) (fun _ _ _ => trivial) rfl ?_))
   (first | refine gl_guard_no rfl rfl rfl rfl rfl rfl rfl ?_ | (refine v_ ?_; refine f_ ((s_neq_str rfl rfl).eq (congrArg (fun b => Value.bool (!b)) h3.symm)) ?_))
   refine f_ z_4 ?_
   refine gl_nil ?_
   repeat refine y_ ?_)
  all_goals exact at_cut j_ i_
 repeat refine y_ ?_
 refine g_cond rfl (fun h => ?_) (fun h => ?_)
 ·rw [if_pos h] at hf
  rw [hf]
  repeat refine x_ ?_
  refine m_ ?_
  refine a_ ?_
  repeat refine n_ ?_
  refine g_ret ?_
  exact at_end1 rfl rfl [] ⟨rfl, rfl⟩ (fun _ h => h)
 rw [if_neg (by rw [h]; simp)] at hf
 rw [hf]
 repeat refine x_ ?_
 refine m_ ?_
 refine gl_callp rfl (QuoteW_ct s (by omega)) (fun _ _ _ => trivial) rfl ?_
 refine m_ ?_
 refine f_ (s_extract rfl rfl) ?_
 refine f_ (s_extract rfl rfl) ?_
 refine a_ ?_
 refine a_ ?_
 repeat refine n_ ?_
 cases hq : quoteS s with
 | some q =>
  repeat refine x_ ?_
  refine m_ ?_
  repeat refine x_ ?_
  refine m_ ?_
  refine a_ ?_
  repeat refine n_ ?_
  refine g_ret ?_
  exact at_end1 rfl rfl [] ⟨rfl, rfl⟩ (fun _ h => h)
 | none =>
  repeat refine x_ ?_
  refine m_ ?_
  repeat refine x_ ?_
  refine m_ ?_
  refine gl_callp rfl (LiteralW_ct s hl') (fun h hh hb => hg.le hh) rfl ?_
  refine a_ ?_
  repeat refine n_ ?_
  refine g_ret ?_
  exact at_end1 rfl rfl [] ⟨rfl, rfl⟩ (fun _ h => h)
theorem sc4 (q1 q2 q3 : Bool) : q1 = false ∨ (q1 = true ∧ q2 = true) ∨ (q1 = true ∧ q2 = false ∧ q3 = true) ∨ (q1 = true ∧ q2 = false ∧ q3 = false) := by
 cases q1 <;> cases q2 <;> cases q3 <;> simp
theorem BoxW_ct (s : Bs) (hl : s.length ≤ big) : Pu Tryz.prog 90 [B s] (fun _ => True) (optV (boxN s)) := by
 unfold big at hl
 obtain ⟨q1, h1⟩ : ∃ q, q = (s.all boxC && !s.isEmpty) := ⟨_, rfl⟩
 obtain ⟨q2, h2⟩ : ∃ q, q = decide ((s.length : Int) > 64) := ⟨_, rfl⟩
 obtain ⟨q3, h3⟩ : ∃ q, q = decide (s.getD 0 0 = 32) := ⟨_, rfl⟩
 obtain ⟨q4, h4⟩ : ∃ q, q = decide (s.getD (s.length - 1) 0 = 32) := ⟨_, rfl⟩
 have hpos : q1 = true → 1 ≤ s.length := fun h => by
  rw [h1] at h
  simp only [Bool.and_eq_true, Bool.not_eq_true', List.isEmpty_eq_false_iff] at h
  exact List.length_pos_iff.mpr h.2
 have hb : boxP s = !(!q1 || (q2 || (q3 || q4))) := by
  cases hq : q1 with
  | false =>
   unfold boxP
   rw [h1] at hq
   rw [Bool.and_comm] at hq
   rw [hq]
   rfl
  | true =>
   have hp := hpos hq
   unfold boxP
   rw [h1, Bool.and_comm] at hq
   rw [hq, head_get hp, last_get hp, h2, h3, h4]
   have e2 : decide (s.length ≤ 64) = !decide ((s.length : Int) > 64) := by
    by_cases h : s.length ≤ 64
    ·rw [decide_eq_true h, decide_eq_false (by omega)]; rfl
    ·rw [decide_eq_false h, decide_eq_true (by omega)]; rfl
   rw [e2]
   generalize decide ((s.length : Int) > 64) = x
   by_cases a : s.getD 0 0 = 32 <;> by_cases b : s.getD (s.length - 1) 0 = 32 <;> cases x <;> simp [a, b]
 refine ct_enter 31 Tryz.func90 rfl rfl rfl ?_
 intro F _
 repeat refine x_ ?_
 refine a_ ?_
 refine a_ ?_
 repeat refine x_ ?_
 refine a_ ?_
 repeat refine n_ ?_
 refine g_cutK [(0, B s), (26, .bool (!q1 || (q2 || (q3 || q4))))] [] ?_ ?_
 ·rcases sc4 q1 q2 q3 with rfl | ⟨rfl, rfl⟩ | ⟨rfl, rfl, rfl⟩ | ⟨rfl, rfl, rfl⟩
  all_goals (
   repeat refine x_ ?_
   refine m_ ?_
   refine m_ ?_
   refine gl_callp rfl (all_ct 109 boxC boxB_ct s (by omega)) (fun _ _ _ => trivial) rfl ?_; rw [← h1]
   refine f_ (s_not rfl) ?_
   refine m_ ?_
   (first | refine gl_guard_no rfl rfl rfl rfl rfl rfl rfl ?_ | (refine v_ ?_; refine m_ ?_))
   (first | refine gl_guard_no rfl rfl rfl rfl rfl rfl rfl ?_ | (refine v_ ?_; refine f_ (s_len_str rfl) ?_))
   (first | refine gl_guard_no rfl rfl rfl rfl rfl rfl rfl ?_ | (refine v_ ?_; refine f_ ((s_gtr rfl rfl).eb h2) ?_))
   refine f_ z_4 ?_
   refine m_ ?_
   (first | refine gl_guard_no rfl rfl rfl rfl rfl rfl rfl ?_ | (refine v_ ?_; refine m_ ?_))
   (first | refine gl_guard_no rfl rfl rfl rfl rfl rfl rfl ?_ | (refine v_ ?_; refine f_ ((s_index_str rfl rfl (by have := hpos rfl; omega)).eq (v' := U8 (s.getD 0 0)) rfl) ?_))
   (first | refine gl_guard_no rfl rfl rfl rfl rfl rfl rfl ?_ | (refine v_ ?_; refine f_ ((s_eql rfl rfl).eq ((congrArg Value.bool (u8_eq (b := 32))).trans (congrArg Value.bool h3.symm))) ?_))
   refine f_ z_4 ?_
   refine m_ ?_
   (first | refine gl_guard_no rfl rfl rfl rfl rfl rfl rfl ?_ | (refine v_ ?_; refine m_ ?_))
   (first | refine gl_guard_no rfl rfl rfl rfl rfl rfl rfl ?_ | (refine v_ ?_; refine m_ ?_))
   (first | refine gl_guard_no rfl rfl rfl rfl rfl rfl rfl ?_ | (refine v_ ?_; refine f_ (s_len_str rfl) ?_))
   (first | refine gl_guard_no rfl rfl rfl rfl rfl rfl rfl ?_ | (refine v_ ?_; refine f_ ((s_sub_i64 rfl rfl (by have := hpos rfl; omega)).eq (v' := .int .i64 ((s.length - 1 : Nat) : Int)) (by have := hpos rfl; congr 1; omega)) ?_))
   (first | refine gl_guard_no rfl rfl rfl rfl rfl rfl rfl ?_ | (refine v_ ?_; refine f_ ((s_index_str rfl rfl (by have := hpos rfl; omega)).eq (v' := U8 (s.getD (s.length - 1) 0)) (by simp only [Int.toNat_natCast])) ?_))
   (first | refine gl_guard_no rfl rfl rfl rfl rfl rfl rfl ?_ | (refine v_ ?_; refine f_ ((s_eql rfl rfl).eq ((congrArg Value.bool (u8_eq (b := 32))).trans (congrArg Value.bool h4.symm))) ?_))
   refine f_ z_4 ?_
   refine gl_nil ?_
   repeat refine y_ ?_)
  all_goals exact at_cut j_ i_
 repeat refine y_ ?_
 refine g_cond rfl (fun h => ?_) (fun h => ?_)
 ·have e : boxN s = none := by unfold boxN; rw [hb, h]; rfl
  rw [e]
  repeat refine x_ ?_
  refine a_ ?_
  refine a_ ?_
  repeat refine n_ ?_
  refine g_ret ?_
  exact at_end2 rfl rfl rfl [] ⟨rfl, rfl⟩ (fun _ h => h)
 have e : boxN s = some (if upS s = inbox then inbox else s) := by unfold boxN; rw [hb, h]; rfl
 rw [e]
 repeat refine x_ ?_
 refine m_ ?_
 refine gl_callp rfl (UpperW_ct s (by omega)) (fun _ _ _ => trivial) rfl ?_
 refine f_ ((s_eql_str rfl rfl).eq (v' := .bool (decide (upS s = inbox))) rfl) ?_
 repeat refine n_ ?_
 refine g_cond rfl (fun h => ?_) (fun h => ?_)
 ·rw [if_pos (of_decide_eq_true h)]
  repeat refine x_ ?_
  refine a_ ?_
  refine a_ ?_
  repeat refine n_ ?_
  refine g_ret ?_
  exact at_end2 rfl rfl rfl [] ⟨rfl, rfl⟩ (fun _ h => h)
 ·rw [if_neg (of_decide_eq_false h)]
  repeat refine x_ ?_
  refine m_ ?_
  refine a_ ?_
  refine a_ ?_
  repeat refine n_ ?_
  refine g_ret ?_
  exact at_end2 rfl rfl rfl [] ⟨rfl, rfl⟩ (fun _ h => h)
end Go.Proofs.YtgllpcggdcknaaaGreatDoor.Rp
namespace Go.Proofs.YtgllpcggdcknaaaGreatDoor.Rp
open Go Go.RowKit
def GrownV (W : World) (w' : World) : Prop := ∃ q os, w' = Sort.grow (W.drewN q) os
abbrev sysO : Obj := .cells #[.string ⟨#[92, 65, 110, 115, 119, 101, 114, 101, 100]⟩, .string ⟨#[92, 70, 108, 97, 103, 103, 101, 100]⟩, .string ⟨#[92, 68, 101, 108, 101, 116, 101, 100]⟩, .string ⟨#[92, 83, 101, 101, 110]⟩, .string ⟨#[92, 68, 114, 97, 102, 116]⟩] 141
theorem system_w (W : World) : Calls Tryz.prog 134 #[] W fun e w' => e = .returned (.agg #[.string ⟨#[92, 65, 110, 115, 119, 101, 114, 101, 100]⟩, .string ⟨#[92, 70, 108, 97, 103, 103, 101, 100]⟩, .string ⟨#[92, 68, 101, 108, 101, 116, 101, 100]⟩, .string ⟨#[92, 83, 101, 101, 110]⟩, .string ⟨#[92, 68, 114, 97, 102, 116]⟩]) ∧ GrownV W w' := by
 go_enter Tryz.func134, Tryz.ntmps134
 go_wp2
 refine bodyPost_ret (results_cell_row (d := .array 5 9) rfl _ _ W.heap.size 141 _ (0, 0) rfl (heap_alloc_new _ _) Tryz.underlying141 rfl (by kernel_rfl)) rfl ?_
 exact ⟨rfl, 0, _, Sort.alloc_eq_grow _ _⟩
abbrev sysA : List ByteArray := sysL.map fun l => (⟨l.toArray⟩ : ByteArray)
theorem sys_cell (w : World) : ∀ j, j < sysA.length → (w.alloc sysO).cell? ⟨w.heap.size, 0 + j, none⟩ = some (.string (sysA.getD j ByteArray.empty)) := fun j hj => by
 rw [World.cell?_alloc_new]
 have : j < 5 := hj
 have c : j = 0 ∨ j = 1 ∨ j = 2 ∨ j = 3 ∨ j = 4 := by omega
 rcases c with rfl | rfl | rfl | rfl | rfl <;> rfl
theorem ba_eq {a b : Bs} : ((⟨a.toArray⟩ : ByteArray) = ⟨b.toArray⟩) ↔ a = b := by
 constructor
 ·intro h
  have : a.toArray = b.toArray := congrArg ByteArray.data h
  simpa using this
 ·rintro rfl; rfl
theorem idxOf_ne {a f : Bs} {t : List Bs} (h : ¬a = f) : (a :: t).idxOf f = t.idxOf f + 1 := by
 rw [List.idxOf_cons, show (a == f) = false from beq_eq_false_iff_ne.mpr h]
 rfl
theorem idxF (f : Bs) : ∀ (l : List Bs) (i : Nat), Lib.idxFromS (l.map fun l => (⟨l.toArray⟩ : ByteArray)) ⟨f.toArray⟩ i = if l.idxOf f < l.length then ((i + l.idxOf f : Nat) : Int) else -1
 | [], i => rfl
 | a :: t, i => by
  rw [List.map_cons, Lib.idxFromS]
  by_cases h : a = f
  ·subst h
   rw [if_pos rfl, List.idxOf_cons_self, if_pos (by simp)]
   rfl
  ·rw [if_neg (fun x => h (ba_eq.1 x)), idxF f t (i + 1), idxOf_ne h, List.length_cons]
   by_cases h2 : t.idxOf f < t.length
   ·rw [if_pos h2, if_pos (by omega)]
    congr 1
    omega
   ·rw [if_neg h2, if_neg (by omega)]
theorem idx_sys (f : Bs) : Lib.idxOfS (sysA.take 5) ⟨f.toArray⟩ = if placeS f < 5 then (placeS f : Int) else -1 := by
 have e : sysA.take 5 = sysA := rfl
 rw [e]
 have := idxF f sysL 0
 rw [Nat.zero_add] at this
 exact this
theorem index_sys (f : Bs) (W : World) (q : Nat) (os : Array Obj) : Calls Tryz.prog 171 #[.slice (some ⟨W.heap.size + os.size, 0, none⟩) 5 5, Sl.B f] ((Sort.grow (W.drewN q) os).alloc sysO) fun e w' => e = .returned (.int .i64 (if placeS f < 5 then (placeS f : Int) else -1)) ∧ w' = (Sort.grow (W.drewN q) os).alloc sysO := by
 have h := Tryz.slices_Index_string (Sort.grow (W.drewN q) os).heap.size 0 5 5 sysA ⟨f.toArray⟩ ((Sort.grow (W.drewN q) os).alloc sysO) (Nat.le_refl 5) (by omega) (sys_cell _)
 rw [idx_sys, Sort.size_grow] at h
 exact h
theorem grown2 (W : World) (q : Nat) (os : Array Obj) (o : Obj) : GrownV W ((Sort.grow (W.drewN q) os).alloc o) := ⟨q, os ++ #[o], by rw [Sort.alloc_eq_grow, Sort.grow_grow]⟩
theorem place_w (f : Bs) (W : World) : Calls Tryz.prog 154 #[Sl.B f] W fun e w' => e = .returned (.int .i64 (placeS f : Nat)) ∧ GrownV W w' := by
 have hp : placeS f ≤ 5 := List.idxOf_le_length
 by_cases h5 : placeS f < 5
 ·obtain ⟨z, hz⟩ : ∃ z : Int, z = (placeS f : Nat) := ⟨_, rfl⟩
  have hz0 : 0 ≤ z := by omega
  have hi := index_sys f
  rw [if_pos h5, ← hz] at hi
  rw [← hz]
  go_enter Tryz.func154, Tryz.ntmps154
  go_wp2_with (first | (go_at_call 134; refine (system_w _).mono ?_; rintro e w' ⟨rfl, q, os, rfl⟩) | (go_at_call 171; refine (hi W q os).mono ?_; rintro e w' ⟨rfl, rfl⟩))
  go_ret
  exact ⟨by rw [hz]; rfl, grown2 _ _ _ _⟩
 ·have h55 : placeS f = 5 := by omega
  have hi := index_sys f
  rw [if_neg h5] at hi
  rw [h55]
  go_enter Tryz.func154, Tryz.ntmps154
  go_wp2_with (first | (go_at_call 134; refine (system_w _).mono ?_; rintro e w' ⟨rfl, q, os, rfl⟩) | (go_at_call 171; refine (hi W q os).mono ?_; rintro e w' ⟨rfl, rfl⟩))
  go_ret
  exact ⟨rfl, grown2 _ _ _ _⟩
def aheadF (a b : Bs) : Int := if placeS a ≠ placeS b then (placeS a : Int) - placeS b else Lib.compareBytes a b
theorem grown_trans {a b c : World} (h : GrownV a b) (k : GrownV b c) : GrownV a c := by
 obtain ⟨q, os, rfl⟩ := h
 obtain ⟨q', os', rfl⟩ := k
 exact ⟨q + q', os ++ os', by rw [← Sort.grow_grow]; show _ = Sort.grow (Sort.grow (a.drewN (q + q')) os) os'; rw [← World.drewN_drewN]; rfl⟩
theorem ahead_w (a b : Bs) (W : World) : Calls Tryz.prog 138 #[Sl.B a, Sl.B b] W fun e w' => e = .returned (.int .i64 (aheadF a b)) ∧ GrownV W w' := by
 have ha : placeS a ≤ 5 := List.idxOf_le_length
 have hb : placeS b ≤ 5 := List.idxOf_le_length
 unfold aheadF
 by_cases h : placeS a = placeS b
 ·rw [if_neg (by simpa using h)]
  go_enter Tryz.func138, Tryz.ntmps138
  go_wp2_with (first | (go_at_call 154; refine (place_w _ _).mono ?_; rintro e w' ⟨rfl, q, os, rfl⟩) | (go_at_call 155; refine (Tryz.strings_Compare ⟨a.toArray⟩ ⟨b.toArray⟩ _).mono ?_; rintro e w' ⟨rfl, rfl⟩))
  go_ret
  exact ⟨rfl, grown_trans ⟨_, _, rfl⟩ ⟨_, _, rfl⟩⟩
 ·rw [if_pos h]
  go_enter Tryz.func138, Tryz.ntmps138
  go_wp2_with (go_at_call 154; refine (place_w _ _).mono ?_; rintro e w' ⟨rfl, q, os, rfl⟩)
  go_ret
  exact ⟨rfl, grown_trans ⟨_, _, rfl⟩ ⟨_, _, rfl⟩⟩
end Go.Proofs.YtgllpcggdcknaaaGreatDoor.Rp
namespace Go.Proofs.YtgllpcggdcknaaaGreatDoor.Rp
open Go Go.Sl Go.RowKit
theorem cmp_lt : ∀ (a b : Bs), decide (Lib.compareBytes a b < 0) = ltB a b
 | [], [] => rfl
 | [], _ :: _ => rfl
 | _ :: _, [] => rfl
 | a :: s, b :: t => by
  have ih := cmp_lt s t
  unfold ltB at ih ⊢
  rw [Lib.compareBytes, Op.bytesLess]
  by_cases h1 : a < b
  ·rw [if_pos h1]; simp [h1]
  ·rw [if_neg h1]
   by_cases h2 : b < a
   ·have h3 : ¬a = b := fun e => by subst e; exact h1 h2
    rw [if_pos h2]; simp [h1, h3]
   ·have h3 : a = b := UInt8.le_antisymm (UInt8.not_lt.1 h2) (UInt8.not_lt.1 h1)
    rw [if_neg h2, ih]; simp [h1, h3]
theorem lt_ahead (a b : Bs) : ltOf aheadF a b = lessS a b := by
 unfold ltOf aheadF lessS
 by_cases h : placeS a = placeS b
 ·rw [if_neg (by simpa using h), if_neg (by simpa using h), cmp_lt]
 ·rw [if_pos h, if_pos h]
  exact decide_eq_decide.mpr (by omega)
theorem swo_less : Sort.SWO (ltOf aheadF) where
 irrefl x := by rw [lt_ahead]; exact lessS_irrefl x
 trans x y z h k := by rw [lt_ahead] at *; exact lessS_trans h k
 ntrans x y z h k := by
  rw [lt_ahead] at *
  cases e : lessS x z with
  | false => rfl
  | true =>
   exfalso
   by_cases h1 : x = y
   ·subst h1; rw [e] at k; cases k
   ·have h2 := lessS_total h1 h
    by_cases h3 : y = z
    ·subst h3
     have := lessS_trans e h2
     rw [lessS_irrefl] at this
     cases this
    ·have h4 := lessS_total h3 k
     have := lessS_trans (lessS_trans e h4) h2
     rw [lessS_irrefl] at this
     cases this
theorem bitsLen_ct : Pu Tryz.prog 153 [.int .u64 0] (fun _ => True) (.int .i64 0) := pu_same fun w _ => Tryz.bits_Len 0 w (by omega) (by omega)
theorem ins0_ct : Pu Tryz.prog 162 [.slice none 0 0, .int .i64 0, .int .i64 0, .func (.func 138) #[] #[]] (fun _ => True) (.tuple #[]) := by
 refine ct_enter 53 Tryz.func162 rfl rfl rfl ?_
 intro F _
 repeat refine x_ ?_
 refine m_ ?_
 refine f_ (s_add_i64 rfl rfl (by omega)) ?_
 refine a_ ?_
 repeat refine n_ ?_
 refine g_loop (ι := Unit) (fun _ => True) (fun _ => [(2, .int .i64 0), (8, .int .i64 1)]) (fun _ => []) (fun _ => 0) () trivial ?_ ?_ ?_
 ·(repeat (first | exact Sub.nil _ | refine Sub.cons rfl ?_))
 ·intro w hw; exact hw
 rintro _ _
 repeat refine x_ ?_
 refine m_ ?_
 refine m_ ?_
 refine f_ (s_lss rfl rfl) ?_
 repeat refine n_ ?_
 exact at_end0 rfl [] ⟨rfl, rfl⟩ (fun _ h => h)
theorem pdq0_ct : Pu Tryz.prog 152 [.slice none 0 0, .int .i64 0, .int .i64 0, .int .i64 0, .func (.func 138) #[] #[]] (fun _ => True) (.tuple #[]) := by
 refine ct_enter 148 Tryz.func152 rfl rfl rfl ?_
 intro F _
 repeat refine x_ ?_
 refine a_ ?_
 repeat refine x_ ?_
 refine a_ ?_
 repeat refine n_ ?_
 refine g_loop (ι := Unit) (fun _ => True) (fun _ => [(0, .slice none 0 0), (1, .int .i64 0), (2, .int .i64 0), (4, .func (.func 138) #[] #[])]) (fun _ => []) (fun _ => 0) () trivial ?_ ?_ ?_
 ·(repeat (first | exact Sub.nil _ | refine Sub.cons rfl ?_))
 ·intro w hw; exact hw
 rintro _ _
 repeat refine x_ ?_
 refine m_ ?_
 refine m_ ?_
 refine f_ (s_sub_i64 rfl rfl (by omega)) ?_
 refine a_ ?_
 repeat refine x_ ?_
 refine m_ ?_
 refine f_ (s_leq rfl rfl) ?_
 repeat refine x_ ?_
 refine m_ ?_
 refine m_ ?_
 refine m_ ?_
 refine m_ ?_
 refine gl_callp rfl ins0_ct (fun _ _ _ => trivial) rfl ?_
 repeat refine n_ ?_
 refine g_ret ?_
 exact at_end0 rfl [] ⟨rfl, rfl⟩ (fun _ h => h)
theorem sort0_ct : Pu Tryz.prog 137 [.slice none 0 0, .func (.func 138) #[] #[]] (fun _ => True) (.tuple #[]) := by
 refine ct_enter 14 Tryz.func137 rfl rfl rfl ?_
 intro F _
 repeat refine x_ ?_
 refine m_ ?_
 refine f_ (s_len_sl rfl) ?_
 refine a_ ?_
 repeat refine x_ ?_
 refine m_ ?_
 refine m_ ?_
 refine m_ ?_
 refine f_ (s_conv_keep_u64 rfl (by omega)) ?_
 refine gl_callp rfl bitsLen_ct (fun _ _ _ => trivial) rfl ?_
 refine m_ ?_
 refine gl_callp rfl pdq0_ct (fun _ _ _ => trivial) rfl ?_
 repeat refine n_ ?_
 exact at_end0 rfl [] ⟨rfl, rfl⟩ (fun _ h => h)
theorem put_mid {pre post : List Value} {l l' : List Bs} (h : l'.length = l.length) : Sort.putCells (fun (x : Bs) => B x) pre.length l'.toArray (pre ++ fV l ++ post).toArray = (pre ++ fV l' ++ post).toArray := by
 apply Array.ext_getElem?
 intro k
 have h1 : (fV l).length = l.length := fV_len l
 have h2 : (fV l').length = l'.length := fV_len l'
 simp only [Sort.putCells, Array.getElem?_mapIdx, List.getElem?_toArray, List.size_toArray]
 rcases Nat.lt_or_ge k pre.length with hk | hk
 ·rw [List.append_assoc, List.append_assoc, List.getElem?_append_left hk, List.getElem?_append_left hk, List.getElem?_eq_getElem hk]
  simp only [Option.map_some]
  rw [if_neg (by omega)]
 ·rcases Nat.lt_or_ge k (pre.length + l.length) with hk2 | hk2
  ·rw [List.append_assoc, List.append_assoc, List.getElem?_append_right hk, List.getElem?_append_right hk, List.getElem?_append_left (by omega), List.getElem?_append_left (by omega)]
   have h3 : k - pre.length < l.length := by omega
   have h4 : k - pre.length < l'.length := by omega
   rw [List.getElem?_eq_getElem (by omega), List.getElem?_eq_getElem (by omega)]
   simp only [Option.map_some]
   rw [if_pos ⟨hk, by omega⟩]
   simp [fV, h4]
  ·rw [List.append_assoc, List.append_assoc, List.getElem?_append_right hk, List.getElem?_append_right hk, List.getElem?_append_right (by omega), List.getElem?_append_right (by omega), h1, h2, h]
   cases post[k - pre.length - l.length]? with
   | none => rfl
   | some v =>
    simp only [Option.map_some]
    rw [if_neg (by omega)]
def SortP (l : List Bs) (a : Option Addr) (c : Nat) (v : Value) (A : List As) : Prop := v = .tuple #[] ∧ ∃ l', List.Perm l' l ∧ l'.Pairwise (fun x y => lessS y x = false) ∧ A = [OwnS a l' c]
theorem sort_ct (l : List Bs) (a : Option Addr) (c : Nat) (hl : l.length < 4611686018427387904) : Ct Tryz.prog 137 [.slice a l.length c, .func (.func 138) #[] #[]] (fun _ => True) [OwnS a l c] (SortP l a c) := by
 intro w bs hsat hnd hpre
 obtain ⟨b1, b2, rfl, hown, rfl⟩ := hsat
 rcases hown with ⟨hv, hx, rfl⟩ | ⟨g, rfl, ⟨o, n, cap, pre, post, fr, hv, hg, ho, hxl, hcap, hnc, hfr⟩⟩
 ·injection hv with e1 e2 e3
  subst e1 e3
  have hl0 : l = [] := List.eq_nil_of_length_eq_zero e2
  subst hl0
  refine (sort0_ct w [] rfl List.nodup_nil trivial).mono ?_
  rintro e w' ⟨v, A, rfl, ⟨rfl, rfl⟩, hp⟩
  refine ⟨_, [OwnS none [] 0], rfl, ⟨rfl, [], .nil, .nil, rfl⟩, ?_⟩
  exact hp.addNil _ _
 ·injection hv with e1 e2 e3
  subst e1 e2 e3
  have hg' : w.heap[g]? = some (.cells (pre ++ fV l ++ post).toArray 9 fr) := hg
  have hgl : g < w.heap.size := (Array.getElem?_eq_some_iff.1 hg').1
  have hfl := fV_len l
  have hH : Sort.Holds (fun (x : Bs) => B x) w g o l.toArray := fun j hj => by
   have hj' : j < l.length := by simpa using hj
   constructor
   ·simp only [World.cell?, hg']
    simp only [Option.isSome_none, Bool.false_eq_true, if_false, List.getElem?_toArray]
    rw [List.append_assoc, List.getElem?_append_right (by omega), List.getElem?_append_left (by omega)]
    simp [fV, ← ho, hj']
   ·simp only [World.frozen?, hg']
    simp only [List.length_append] at hfr
    rw [Bool.and_eq_false_iff]
    rcases hfr with h | h
    ·by_cases hh : fr.1 ≤ o + j
     ·exact .inr (by simp; omega)
     ·exact .inl (by simpa using hh)
    ·exact .inl (by simp; omega)
  have hcmp : CmpLays1 Tryz.prog 138 #[] (fun (x : Bs) => B x) aheadF g o l.toArray.size w := fun m os dk hs x y => by
   refine (ahead_w x y _).mono ?_
   rintro e w' ⟨rfl, q, os', rfl⟩
   exact ⟨rfl, q, os', rfl⟩
  have hc := Any.slices_SortFunc Tryz.sortL (fun (x : Bs) => B x) (fun _ => rfl) aheadF swo_less 138 #[] g o c l.toArray w (fun args w => (inferInstance : HF Tryz.prog 138).h args w) hcmp hH hgl (by simpa using hl)
  have hsz : l.toArray.size = l.length := by simp
  rw [hsz] at hc
  refine hc.mono ?_
  rintro e w' ⟨rfl, d', n, os, hperm, hsort, rfl⟩
  obtain ⟨hp1, _, hp3⟩ := hperm
  rw [hsz] at hp1
  have hp4 : List.Perm d'.toList l := by
   have e1 : (d'.extract 0 l.length).toList = d'.toList := by simp [← hp1]
   have e2 : (l.toArray.extract 0 l.length).toList = l := by simp
   rw [e1, e2] at hp3
   exact hp3
  have hpl : d'.toList.length = l.length := by simpa using hp1
  have hpair : d'.toList.Pairwise (fun x y => lessS y x = false) := by
   rw [List.pairwise_iff_getElem]
   intro i j hi hj hij
   have := hsort i j (Nat.zero_le _) hij (by omega)
   rw [lt_ahead] at this
   have hi' : i < d'.size := by simpa using hi
   have hj' : j < d'.size := by simpa using hj
   rw [getElem!_pos d' i hi', getElem!_pos d' j hj'] at this
   simpa using this
  have hh : (sortWorld (fun (x : Bs) => B x) w g o n d' os).heap[g]? = some (.cells (pre ++ fV d'.toList ++ post).toArray 9 fr) := by
   show ((Sort.mapBlock _ g _).heap ++ os)[g]? = _
   unfold Sort.mapBlock
   have e1 : (Sort.ahead w n).heap = w.heap := rfl
   rw [Array.getElem?_append_left (by rw [Array.size_modify, e1]; exact hgl), Array.getElem?_modify, if_pos rfl, e1, hg']
   simp only [Option.map_some, Sort.onCells]
   have := put_mid (pre := pre) (post := post) hpl
   rw [ho] at this
   rw [← this]
  have hl2 := fV_len d'.toList
  have hfd : (fV d'.toList).length = (fV l).length := by omega
  have hcap2 : c * 1 ≤ (fV d'.toList ++ post).length := by
   rw [List.length_append, hfd, ← List.length_append]
   exact hcap
  have hfr2 : fr.2 ≤ fr.1 ∨ (pre ++ fV d'.toList ++ post).length ≤ fr.1 := by
   rw [List.length_append, List.length_append, hfd, ← List.length_append, ← List.length_append]
   exact hfr
  have hkeep : Heap.le (snapBut w [g]).heap (hp (sortWorld (fun (x : Bs) => B x) w g o n d' os)) := fun b' o' hbo => by
   have hne : b' ≠ g := by
    rintro rfl
    simp [snapBut, hpBut] at hbo
   have h2 : w.heap[b']? = some o' := hpBut_le w _ b' o' hbo
   have h3 : b' < w.heap.size := (Array.getElem?_eq_some_iff.1 h2).1
   show ((Sort.mapBlock _ g _).heap ++ os)[b']? = _
   unfold Sort.mapBlock
   have e1 : (Sort.ahead w n).heap = w.heap := rfl
   rw [Array.getElem?_append_left (by rw [Array.size_modify, e1]; exact h3), Array.getElem?_modify, if_neg (fun h => hne h.symm), e1]
   exact h2
  have hnew : ∀ b' ∈ [g], (snapBut w [g]).heap b' = none := fun b' hb2 => by
   simp at hb2
   subst hb2
   simp [snapBut, hpBut]
  refine ⟨.tuple #[], [OwnS (some ⟨g, o, none⟩) d'.toList c], rfl, ⟨rfl, d'.toList, hp4, hpair, rfl⟩, ?_⟩
  exact ⟨rfl, rfl, rfl, hkeep, [g], ⟨[g], [], rfl, .inr ⟨g, rfl, ⟨o, d'.toList.length, c, pre, post, fr, rfl, hh, ho, by omega, hcap2, by omega, hfr2⟩⟩, rfl⟩, by simp, hnew⟩
end Go.Proofs.YtgllpcggdcknaaaGreatDoor.Rp
namespace Go.Proofs.YtgllpcggdcknaaaGreatDoor.Rp
open Go Go.Sl Go.RowKit
def CloneP (l : List Bs) (v : Value) (A : List As) : Prop := ∃ a c, v = .slice a l.length c ∧ A = [OwnS a l c]
theorem Clone_ct (l : List Bs) (a : Option Addr) (c : Nat) (hl : l.length ≤ 8000000000000) : Ct Tryz.prog 136 [.slice a l.length c] (fun h => RdS h a (fV l)) [] (CloneP l) := by
 refine ct_enter 8 Tryz.func136 rfl rfl rfl ?_
 intro F hrd
 repeat refine x_ ?_
 refine a_ ?_
 repeat refine x_ ?_
 refine m_ ?_
 refine f_ ((s_eql_slnil rfl rfl).eq (v' := .bool a.isNone) rfl) ?_
 repeat refine n_ ?_
 cases a with
 | none =>
  have h0 : l = [] := by
   cases l with
   | nil => rfl
   | cons x t =>
    obtain ⟨ad, e, _⟩ := hrd (by simp [fV])
    cases e
  subst h0
  repeat refine x_ ?_
  refine a_ ?_
  repeat refine n_ ?_
  refine g_ret ?_
  exact at_end1 rfl rfl [OwnS none [] 0] ⟨none, 0, rfl, rfl⟩ (fun w hw => hw.addNil _ _)
 | some ad =>
  repeat refine x_ ?_
  refine gl_buildSlice0 rfl ?_; intro a5
  refine m_ ?_
  refine gl_append (news := fV l) rfl rfl (fun a' c' => .here) (fun w hw => hrd.le hw.keep) (by rw [fV_len]; omega) rfl rfl (fV_one _) (by show (0 + l.length) * 16 ≤ _; omega) (by omega) rfl ?_; intro a7 c7 hc7
  refine a_ ?_
  repeat refine n_ ?_
  refine g_ret ?_
  refine at_end1 rfl rfl [OwnS a7 l c7] ⟨a7, c7, by rw [Nat.zero_add], rfl⟩ (fun w hw => ?_)
  rw [Nat.zero_add] at hw
  exact hw
theorem pair_at {l : List Bs} (h : l.Pairwise fun a b => lessS b a = false) {i j : Nat} (hij : i < j) (hj : j < l.length) : lessS (l.getD j []) (l.getD i []) = false := by
 rw [List.pairwise_iff_getElem] at h
 have := h i j (by omega) hj hij
 rw [List.getD_eq_getElem?_getD, List.getD_eq_getElem?_getD, List.getElem?_eq_getElem hj, List.getElem?_eq_getElem (show i < l.length by omega)]
 exact this
theorem arr_get {l : List Bs} {i : Nat} (h : i < l.length) : l.toArray[i]! = l.getD i [] := by
 rw [getElem!_pos _ i (by simpa using h), List.getD_eq_getElem?_getD, List.getElem?_eq_getElem h]
 simp
theorem lcompact_srt {l : List Bs} (h : l.Pairwise fun a b => lessS b a = false) : Srt (Lib.compact l) := by
 unfold Lib.compact Lib.compactUpTo
 unfold Srt
 rw [List.pairwise_map]
 refine (List.Pairwise.filter _ List.pairwise_lt_range).imp_of_mem fun {i j} hi hj hij => ?_
 have hj1 := List.mem_filter.mp hj
 have hjl : j < l.length := by simpa using hj1.1
 rw [arr_get (by omega), arr_get hjl]
 have hk := hj1.2
 unfold Lib.keeps at hk
 simp only [Bool.or_eq_true, decide_eq_true_eq, bne_iff_ne, ne_eq] at hk
 have hne : l.getD (j - 1) [] ≠ l.getD j [] := by
  rcases hk with hk | hk
  ·omega
  ·rw [arr_get hjl, arr_get (by omega)] at hk
   exact fun e => hk e.symm
 have h1 : lessS (l.getD (j - 1) []) (l.getD j []) = true := lessS_total (fun e => hne e.symm) (pair_at h (by omega) hjl)
 by_cases e : i = j - 1
 ·rw [e]; exact h1
 ·by_cases e2 : l.getD i [] = l.getD (j - 1) []
  ·rw [e2]; exact h1
  ·exact lessS_trans (lessS_total (fun x => e2 x.symm) (pair_at h (show i < j - 1 by omega) (by omega))) h1
theorem lcompact_in {l : List Bs} : ∀ i, i < l.length → l.getD i [] ∈ Lib.compact l := by
 intro i
 induction i using Nat.strongRecOn with
 | ind i ih =>
  intro hi
  by_cases hk : Lib.keeps l.toArray i = true
  ·unfold Lib.compact Lib.compactUpTo
   refine List.mem_map.mpr ⟨i, List.mem_filter.mpr ⟨by simpa using hi, hk⟩, arr_get hi⟩
  ·unfold Lib.keeps at hk
   simp only [Bool.or_eq_true, decide_eq_true_eq, bne_iff_ne, ne_eq, not_or, Classical.not_not] at hk
   have h1 : l.getD i [] = l.getD (i - 1) [] := by
    have := hk.2
    rwa [arr_get hi, arr_get (by omega)] at this
   rw [h1]
   exact ih (i - 1) (by omega) (by omega)
theorem lcompact_mem (l : List Bs) (x : Bs) : x ∈ Lib.compact l ↔ x ∈ l := by
 constructor
 ·intro h
  unfold Lib.compact Lib.compactUpTo at h
  obtain ⟨i, hi, rfl⟩ := List.mem_map.mp h
  have hi2 : i < l.length := by simpa using (List.mem_filter.mp hi).1
  rw [arr_get hi2]
  exact getB_mem hi2
 ·intro h
  obtain ⟨i, hi, rfl⟩ := List.getElem_of_mem h
  have := lcompact_in i hi
  rwa [List.getD_eq_getElem?_getD, List.getElem?_eq_getElem hi] at this
theorem lcompact_set {l s : List Bs} (hp : s.Perm l) (h : s.Pairwise fun a b => lessS b a = false) : Lib.compact s = setS l :=
 srt_eq (lcompact_srt h) (set_srt l) fun x => by rw [lcompact_mem, set_mem, hp.mem_iff]
theorem lcompact_le (l : List Bs) : (Lib.compact l).length ≤ l.length := Lib.compact_length_le l
def CompP (l : List Bs) (a : Option Addr) (c : Nat) (v : Value) (A : List As) : Prop := v = .slice a (Lib.compact l).length c ∧ A = [OwnS a (Lib.compact l) c]
theorem Compact_ct (l : List Bs) (a : Option Addr) (c : Nat) (hl : l.length ≤ 9223372036854775807) : Ct Tryz.prog 139 [.slice a l.length c] (fun _ => True) [OwnS a l c] (CompP l a c) := by
 intro w bs hsat hnd hpre
 obtain ⟨b1, b2, rfl, hown, rfl⟩ := hsat
 rcases hown with ⟨hv, hx, rfl⟩ | ⟨g, rfl, ⟨o, n, cap, pre, post, fr, hv, hg, ho, hxl, hcap, hnc, hfr⟩⟩
 ·injection hv with e1 e2 e3
  subst e1 e3
  have hl0 : l = [] := List.eq_nil_of_length_eq_zero e2
  subst hl0
  refine (Tryz.slices_Compact_string_empty none 0 w).mono ?_
  rintro e w' ⟨rfl, rfl⟩
  refine ⟨.slice none 0 0, [OwnS none [] 0], rfl, ⟨rfl, rfl⟩, ?_⟩
  exact (Hp.start (C := []) (bs := []) rfl List.nodup_nil).addNil _ _
 ·injection hv with e1 e2 e3
  subst e1 e2 e3
  have hg' : w.heap[g]? = some (.cells (pre ++ fV l ++ post).toArray 9 fr) := hg
  have hgl : g < w.heap.size := (Array.getElem?_eq_some_iff.1 hg').1
  have hfl := fV_len l
  have hH : Sort.Holds (fun (x : Bs) => B x) w g o l.toArray := fun j hj => by
   have hj' : j < l.length := by simpa using hj
   constructor
   ·simp only [World.cell?, hg']
    simp only [Option.isSome_none, Bool.false_eq_true, if_false, List.getElem?_toArray]
    rw [List.append_assoc, List.getElem?_append_right (by omega), List.getElem?_append_left (by omega)]
    simp [fV, ← ho, hj']
   ·simp only [World.frozen?, hg']
    simp only [List.length_append] at hfr
    rw [Bool.and_eq_false_iff]
    rcases hfr with h | h
    ·by_cases hh : fr.1 ≤ o + j
     ·exact .inr (by simp; omega)
     ·exact .inl (by simpa using hh)
    ·exact .inl (by simp; omega)
  have hc := Tryz.slices_Compact_string g o c l w hH hl hnc
  refine hc.mono ?_
  rintro e w' ⟨rfl, q, rfl⟩
  have hcl := lcompact_le l
  obtain ⟨m, hm⟩ : ∃ m, m = Lib.compact l ++ List.replicate (l.length - (Lib.compact l).length) [] := ⟨_, rfl⟩
  have hml : m.length = l.length := by rw [hm, List.length_append, List.length_replicate]; omega
  have hmv : fV m = fV (Lib.compact l) ++ fV (List.replicate (l.length - (Lib.compact l).length) []) := by rw [hm, fV_append]
  have hl2 := fV_len m
  have hl3 := fV_len (Lib.compact l)
  rw [← hm]
  have hh : (Sort.putRow (fun (x : Bs) => B x) (Sort.ahead w q) g o m.toArray).heap[g]? = some (.cells (pre ++ fV m ++ post).toArray 9 fr) := by
   show (Sort.mapBlock _ g _).heap[g]? = _
   unfold Sort.mapBlock
   have e1 : (Sort.ahead w q).heap = w.heap := rfl
   rw [Array.getElem?_modify, if_pos rfl, e1, hg']
   simp only [Option.map_some, Sort.onCells]
   have := put_mid (pre := pre) (post := post) hml
   rw [ho] at this
   rw [← this]
  rw [hmv, List.append_assoc, List.append_assoc, ← List.append_assoc] at hh
  obtain ⟨z, hz⟩ : ∃ z, z = fV (List.replicate (l.length - (Lib.compact l).length) []) ++ post := ⟨_, rfl⟩
  rw [← hz] at hh
  have hzl : z.length = l.length - (Lib.compact l).length + post.length := by rw [hz, List.length_append, fV_len, List.length_replicate]
  have hcap2 : c * 1 ≤ (fV (Lib.compact l) ++ z).length := by
   rw [List.length_append] at hcap ⊢
   omega
  have hfr2 : fr.2 ≤ fr.1 ∨ (pre ++ fV (Lib.compact l) ++ z).length ≤ fr.1 := by
   rw [List.length_append, List.length_append] at hfr ⊢
   omega
  have hkeep : Heap.le (snapBut w [g]).heap (hp (Sort.putRow (fun (x : Bs) => B x) (Sort.ahead w q) g o m.toArray)) := fun b' o' hbo => by
   have hne : b' ≠ g := by
    rintro rfl
    simp [snapBut, hpBut] at hbo
   have h2 : w.heap[b']? = some o' := hpBut_le w _ b' o' hbo
   show (Sort.mapBlock _ g _).heap[b']? = _
   unfold Sort.mapBlock
   have e1 : (Sort.ahead w q).heap = w.heap := rfl
   rw [Array.getElem?_modify, if_neg (fun h => hne h.symm), e1]
   exact h2
  have hnew : ∀ b' ∈ [g], (snapBut w [g]).heap b' = none := fun b' hb2 => by
   simp at hb2
   subst hb2
   simp [snapBut, hpBut]
  refine ⟨.slice (some ⟨g, o, none⟩) (Lib.compact l).length c, [OwnS (some ⟨g, o, none⟩) (Lib.compact l) c], rfl, ⟨rfl, rfl⟩, ?_⟩
  exact ⟨rfl, rfl, rfl, hkeep, [g], ⟨[g], [], rfl, .inr ⟨g, rfl, ⟨o, (Lib.compact l).length, c, pre, z, fr, rfl, hh, ho, by omega, hcap2, by omega, hfr2⟩⟩, rfl⟩, by simp, hnew⟩
def SetP (l : List Bs) (v : Value) (A : List As) : Prop := ∃ a c, v = .slice a (setS l).length c ∧ A = [OwnS a (setS l) c]
theorem set_ct (l : List Bs) (a : Option Addr) (c : Nat) (hl : l.length ≤ 8000000000000) : Ct Tryz.prog 121 [.slice a l.length c] (fun h => RdS h a (fV l)) [] (SetP l) := by
 refine ct_enter 10 Tryz.func121 rfl rfl rfl ?_
 intro F hrd
 repeat refine x_ ?_
 refine a_ ?_
 repeat refine x_ ?_
 refine m_ ?_
 refine gl_call _ rfl (Clone_ct l a c hl) i_ (fun h hh hb => hrd.le hh) rfl ?_; rintro v A ⟨a5, c5, rfl, rfl⟩
 refine a_ ?_
 repeat refine x_ ?_
 refine m_ ?_
 refine gl_call _ rfl (sort_ct l a5 c5 (by omega)) i_ (fun _ _ _ => trivial) rfl ?_; rintro v A ⟨rfl, s, hp, hs, rfl⟩
 repeat refine n_ ?_
 have hsl := hp.length_eq
 have hset := lcompact_set hp hs
 repeat refine x_ ?_
 refine m_ ?_
 refine gl_call (vs := [.slice a5 s.length c5]) _ (by rw [hsl]; rfl) (Compact_ct s a5 c5 (by omega)) i_ (fun _ _ _ => trivial) rfl ?_; rintro v A ⟨rfl, rfl⟩
 refine a_ ?_
 repeat refine n_ ?_
 refine g_ret ?_
 refine at_end1 rfl rfl [OwnS a5 (Lib.compact s) c5] ⟨a5, c5, by rw [hset], by rw [hset]⟩ i_
end Go.Proofs.YtgllpcggdcknaaaGreatDoor.Rp
namespace Go.Proofs.YtgllpcggdcknaaaGreatDoor.Rp
open Go Go.Sl Go.RowKit
theorem SmallW_ct (s : Bs) (hl : s.length ≤ 9223372036854775806) : Pu Tryz.prog 135 [B s] (fun _ => True) (B (lowS s)) := by
 refine ct_enter 29 Tryz.func135 rfl rfl rfl ?_
 intro F _
 repeat refine x_ ?_
 refine a_ ?_
 repeat refine x_ ?_
 refine m_ ?_
 refine gl_bytes rfl rfl ?_; intro a1 c1 hc1
 refine a_ ?_
 repeat refine x_ ?_
 refine m_ ?_
 refine f_ (s_len_sl rfl) ?_
 refine m_ ?_
 repeat refine n_ ?_
 refine g_loop (ι := Nat) (fun k => k ≤ s.length) (fun k => [(3, .slice a1 s.length c1), (8, .slice a1 s.length c1), (9, .int .i64 (s.length : Nat)), (10, .int .i64 (k : Nat))]) (fun k => [.own (.slice a1 s.length c1) 5 1 (bytesV (lowS (s.take k) ++ s.drop k))]) (fun k => s.length - k) 0 (by omega) ?_ ?_ ?_
 ·(repeat (first | exact Sub.nil _ | refine Sub.cons rfl ?_))
 ·intro w hw; exact hw
 rintro k hk
 repeat refine x_ ?_
 refine f_ (s_lss rfl rfl) ?_
 repeat refine n_ ?_
 refine g_cond rfl (fun h => ?_) (fun h => ?_)
 ·have hk' : k < s.length := by simp at h; omega
  have hst := map_step lowC hk'
  have hdr := drop_get hk'
  have hul : (lowS (s.take k)).length = k := by unfold lowS; rw [List.length_map, List.length_take]; omega
  obtain ⟨c, hc⟩ : ∃ c, c = s.getD k 0 := ⟨_, rfl⟩
  rw [← hc] at hst hdr
  have hge : (lowS (s.take k) ++ s.drop k).getD k 0 = c := by
   rw [List.getD_eq_getElem?_getD, List.getElem?_append_right (by omega), hul, Nat.sub_self, hdr]
   rfl
  have htl : (lowS (s.take k) ++ s.drop k).length = s.length := by rw [List.length_append, hul, List.length_drop]; omega
  have hc255 := c.toNat_lt
  repeat refine x_ ?_
  refine m_ ?_
  refine r_ (s_indexAddr_own rfl z_3 rfl (by omega)) ?_
  refine r_ ((s_load1 rfl (fun w hw => rdC_own hw z_3 (i := k) (by omega) (by omega))).eq (v' := U8 c) (by rw [hge])) ?_
  refine a_ ?_
  refine a_ ?_
  repeat refine n_ ?_
  obtain ⟨q1, h1⟩ : ∃ q, q = decide ((c.toNat : Int) ≥ 65) := ⟨_, rfl⟩
  obtain ⟨q2, h2⟩ : ∃ q, q = decide ((c.toNat : Int) ≤ 90) := ⟨_, rfl⟩
  repeat refine y_ ?_
  refine g_cutK [(3, .slice a1 s.length c1), (4, .int .i64 (k : Nat)), (5, U8 c), (8, .slice a1 s.length c1), (9, .int .i64 (s.length : Nat)), (10, .int .i64 (k : Nat)), (20, .bool (q1 && q2))] [.own (.slice a1 s.length c1) 5 1 (bytesV (lowS (s.take k) ++ s.drop k))] ?_ ?_
  ·cases q1
   all_goals (
    repeat refine x_ ?_
    refine m_ ?_
    refine f_ ((s_geq rfl rfl).eb h1) ?_
    refine m_ ?_
    (first | refine gl_guard_no rfl rfl rfl rfl rfl rfl rfl ?_ | (refine v_ ?_; refine m_ ?_))
    (first | refine gl_guard_no rfl rfl rfl rfl rfl rfl rfl ?_ | (refine v_ ?_; refine f_ ((s_leq rfl rfl).eb h2) ?_))
    refine f_ z_4 ?_
    refine gl_nil ?_
    repeat refine y_ ?_)
   all_goals exact at_cut j_ i_
  repeat refine y_ ?_
  refine g_cond rfl (fun h3 => ?_) (fun h3 => ?_)
  ·have hcc : 65 ≤ c.toNat ∧ c.toNat ≤ 90 := by
    simp only [Bool.and_eq_true] at h3
    have a := of_decide_eq_true (h1.symm.trans h3.1)
    have b := of_decide_eq_true (h2.symm.trans h3.2)
    omega
   have hup : lowC c = c + 32 := by unfold lowC; rw [if_pos hcc]
   have hsub : (c.toNat : Int) + 32 = ((c + 32).toNat : Nat) := by
    rw [UInt8.toNat_add]
    simp
    omega
   repeat refine x_ ?_
   refine m_ ?_
   refine m_ ?_
   refine m_ ?_
   refine f_ ((s_add_in rfl rfl (z := ((c + 32).toNat : Nat)) (by rw [IntKind.wrap_u8]; omega))) ?_
   refine r_ (s_indexAddr_own rfl z_3 rfl (by omega)) ?_
   refine gl_store_own (q := k * 1) rfl rfl z_5 z_8 (by decide) z_2 (by rw [bytesV_len, htl]; omega) ?_
   repeat refine x_ ?_
   refine f_ (s_add_i64 rfl rfl (by omega)) ?_
   refine m_ ?_
   repeat refine n_ ?_
   refine at_next (k + 1) (by omega) (by omega) ?_ ?_
   ·(repeat (first | exact Sub.nil _ | refine Sub.cons rfl ?_))
   ·intro w hw
    have e : putx (bytesV (lowS (s.take k) ++ s.drop k)) (k * 1) [U8 (c + 32)] = bytesV (lowS (s.take (k + 1)) ++ s.drop (k + 1)) := by
     have h5 : lowS (s.take (k + 1)) ++ s.drop (k + 1) = lowS (s.take k) ++ (c + 32) :: s.drop (k + 1) := by rw [← hup]; exact hst
     rw [h5, hdr, Nat.mul_one]
     have h6 := putx_byte (a := lowS (s.take k)) (r := s.drop (k + 1)) (d := c) (c := c + 32)
     rwa [hul] at h6
    rw [← e]
    exact hw
  ·have hup : lowC c = c := by
    unfold lowC
    refine if_neg fun hh => ?_
    have a : q1 = true := h1.trans (decide_eq_true (by omega))
    have b : q2 = true := h2.trans (decide_eq_true (by omega))
    rw [a, b] at h3
    cases h3
   repeat refine x_ ?_
   refine f_ (s_add_i64 rfl rfl (by omega)) ?_
   refine m_ ?_
   repeat refine n_ ?_
   refine at_next (k + 1) (by omega) (by omega) ?_ ?_
   ·(repeat (first | exact Sub.nil _ | refine Sub.cons rfl ?_))
   ·intro w hw
    have e : lowS (s.take k) ++ s.drop k = lowS (s.take (k + 1)) ++ s.drop (k + 1) := by
     have h5 : lowS (s.take (k + 1)) ++ s.drop (k + 1) = lowS (s.take k) ++ lowC c :: s.drop (k + 1) := hst
     rw [h5, hup, hdr]
    rw [← e]
    exact hw
 ·have hkl : k = s.length := by simp at h; omega
  subst hkl
  repeat refine x_ ?_
  refine m_ ?_
  refine r_ (s_string (l := lowS s) rfl (by simp [lowS]) (fun w hw => by have h5 := (hw.ownN .del).2.2.1; rwa [List.take_length, List.drop_length, List.append_nil] at h5)) ?_
  refine a_ ?_
  repeat refine n_ ?_
  refine g_ret ?_
  exact at_end1 rfl rfl [] ⟨rfl, rfl⟩ (fun _ h => h.dropAll)
theorem below_grow (w : World) (q : Nat) (os : Array Obj) : Below w.heap.size w (Sort.grow (w.drewN q) os) :=
 ⟨rfl, rfl, rfl, by show w.heap.size ≤ (w.heap ++ os).size; simp, fun k hk => by show (w.heap ++ os)[k]? = _; rw [Array.getElem?_append_left hk]⟩
theorem systemP_ct : Pu Tryz.prog 134 [] (fun _ => True) (.agg (fV sysL).toArray) := pu_below fun w _ => by
 refine (system_w w).mono ?_
 rintro e w' ⟨rfl, q, os, rfl⟩
 exact ⟨rfl, below_grow w q os⟩
theorem sysV_at {j : Nat} (hj : j < 5) : (fV sysL).toArray[j]? = some (B (sysL.getD j [])) := by
 have hl : j < sysL.length := hj
 simp [fV, hl]
set_option maxRecDepth 8000 in
theorem CanonP_ct (s : Bs) (hl : s.length ≤ big) : Pu Tryz.prog 120 [B s] (fun _ => True) (optV (canonS s)) := by
 unfold big at hl
 have h5 : sysL.length = 5 := rfl
 refine ct_enter 27 Tryz.func120 rfl rfl rfl ?_
 intro F _
 repeat refine x_ ?_
 refine a_ ?_
 refine a_ ?_
 repeat refine x_ ?_
 refine gl_callp rfl systemP_ct (fun _ _ _ => trivial) rfl ?_
 refine m_ ?_
 repeat refine n_ ?_
 refine g_loop (ι := Nat) (fun j => j ≤ 5 ∧ ∀ i, i < j → (upS (sysL.getD i []) == upS s) = false) (fun j => [(0, B s), (6, .agg (fV sysL).toArray), (7, .int .i64 (j : Nat))]) (fun _ => []) (fun j => 5 - j) 0 ⟨by omega, fun i h => by omega⟩ ?_ ?_ ?_
 ·(repeat (first | exact Sub.nil _ | refine Sub.cons rfl ?_))
 ·intro w hw; exact hw
 rintro j ⟨hj, hno⟩
 repeat refine x_ ?_
 refine f_ (s_lss rfl rfl) ?_
 repeat refine n_ ?_
 refine g_cond rfl (fun h => ?_) (fun h => ?_)
 ·have hj' : j < 5 := by simp at h; omega
  have hsl := sys_len hj'
  repeat refine x_ ?_
  refine f_ (s_index_arrS j rfl rfl (by omega) hj' (sysV_at hj')) ?_
  refine a_ ?_
  repeat refine x_ ?_
  refine m_ ?_
  refine gl_callp rfl (UpperW_ct (sysL.getD j []) (by omega)) (fun _ _ _ => trivial) rfl ?_
  refine m_ ?_
  refine gl_callp rfl (UpperW_ct s (by omega)) (fun _ _ _ => trivial) rfl ?_
  refine f_ ((s_eql_str rfl rfl).eq (v' := .bool (upS (sysL.getD j []) == upS s)) (congrArg Value.bool (by rw [Bool.eq_iff_iff]; simp))) ?_
  repeat refine n_ ?_
  refine g_cond rfl (fun h2 => ?_) (fun h2 => ?_)
  ·have e : canonS s = some (sysL.getD j []) := by
    unfold canonS
    rw [find_at (p := fun f => upS f == upS s) (by omega) hno h2]
   rw [e]
   repeat refine x_ ?_
   refine m_ ?_
   refine a_ ?_
   refine a_ ?_
   repeat refine n_ ?_
   refine g_ret ?_
   exact at_end2 rfl rfl rfl [] ⟨rfl, rfl⟩ (fun _ h => h)
  ·repeat refine y_ ?_
   repeat refine x_ ?_
   refine f_ (s_add_i64 rfl rfl (by omega)) ?_
   refine m_ ?_
   repeat refine n_ ?_
   refine at_next (j + 1) ⟨by omega, fun i hi => ?_⟩ (by omega) ?_ ?_
   ·rcases Nat.lt_succ_iff_lt_or_eq.1 hi with h4 | rfl
    ·exact hno i h4
    ·exact h2
   ·(repeat (first | exact Sub.nil _ | refine Sub.cons rfl ?_))
   ·intro w hw; exact hw
 ·have hj5 : j = 5 := by simp at h; omega
  subst hj5
  obtain ⟨q1, h1⟩ : ∃ q, q = atomS s := ⟨_, rfl⟩
  obtain ⟨q2, h2⟩ : ∃ q, q = decide ((s.length : Int) > 32) := ⟨_, rfl⟩
  have e : canonS s = if (!q1 || q2) = true then none else some (lowS s) := by
   unfold canonS
   rw [find_no (p := fun f => upS f == upS s) (fun i hi => hno i (by omega))]
   simp only
   by_cases hh : (!q1 || q2) = true
   ·rw [if_pos hh]
    refine if_neg fun x => ?_
    rw [h1, h2, x.1] at hh
    simp at hh
    omega
   ·rw [if_neg hh]
    refine if_pos ?_
    have h3 : (!q1 || q2) = false := by simpa using hh
    rw [Bool.or_eq_false_iff] at h3
    have h4 : q1 = true := by simpa using h3.1
    have h5 := of_decide_eq_false (h2.symm.trans h3.2)
    exact ⟨h1.symm.trans h4, by omega⟩
  rw [e]
  repeat refine y_ ?_
  refine g_cutK [(0, B s), (24, .bool (!q1 || q2))] [] ?_ ?_
  ·cases q1
   all_goals (
    repeat refine x_ ?_
    refine m_ ?_
    refine gl_callp rfl (AtomW_ct s (by omega)) (fun _ _ _ => trivial) rfl ?_; rw [← h1]
    refine f_ (s_not rfl) ?_
    refine m_ ?_
    (first | refine gl_guard_no rfl rfl rfl rfl rfl rfl rfl ?_ | (refine v_ ?_; refine m_ ?_))
    (first | refine gl_guard_no rfl rfl rfl rfl rfl rfl rfl ?_ | (refine v_ ?_; refine f_ (s_len_str rfl) ?_))
    (first | refine gl_guard_no rfl rfl rfl rfl rfl rfl rfl ?_ | (refine v_ ?_; refine f_ ((s_gtr rfl rfl).eb h2) ?_))
    refine f_ z_4 ?_
    refine gl_nil ?_
    repeat refine y_ ?_)
   all_goals exact at_cut j_ i_
  repeat refine y_ ?_
  refine g_cond rfl (fun h6 => ?_) (fun h6 => ?_)
  ·rw [if_pos h6]
   repeat refine x_ ?_
   refine a_ ?_
   refine a_ ?_
   repeat refine n_ ?_
   refine g_ret ?_
   exact at_end2 rfl rfl rfl [] ⟨rfl, rfl⟩ (fun _ h => h)
  ·rw [if_neg (by rw [h6]; simp)]
   repeat refine x_ ?_
   refine m_ ?_
   refine gl_callp rfl (SmallW_ct s (by omega)) (fun _ _ _ => trivial) rfl ?_
   refine a_ ?_
   refine a_ ?_
   repeat refine n_ ?_
   refine g_ret ?_
   exact at_end2 rfl rfl rfl [] ⟨rfl, rfl⟩ (fun _ h => h)
set_option maxRecDepth 8000 in
theorem MakeP_ct (l : List Bs) (a : Option Addr) (c : Nat) (hl : l.length ≤ big) (hb : ∀ f ∈ l, f.length ≤ big) : Ct Tryz.prog 108 [.slice a l.length c] (fun h => RdS h a (fV l)) [] (MakeP (makeR l)) := by
 unfold big at hl
 refine ct_enter 33 Tryz.func108 rfl rfl rfl ?_
 intro F hrd
 repeat refine x_ ?_
 refine a_ ?_
 refine a_ ?_
 repeat refine x_ ?_
 refine a_ ?_
 repeat refine x_ ?_
 refine m_ ?_
 refine f_ (s_len_sl rfl) ?_
 refine m_ ?_
 repeat refine n_ ?_
 refine g_own_nil 9 1 ?_
 refine g_loop (ι := Nat × List Bs × Option Addr × Nat) (fun i => i.1 ≤ l.length ∧ canonL (l.take i.1) = some i.2.1) (fun i => [(4, .slice i.2.2.1 i.2.1.length i.2.2.2), (9, .slice a l.length c), (10, .int .i64 (l.length : Nat)), (11, .int .i64 (i.1 : Nat))]) (fun i => [OwnS i.2.2.1 i.2.1 i.2.2.2]) (fun i => l.length - i.1) (0, [], none, 0) ⟨by simp, by simp [canonL]⟩ ?_ ?_ ?_
 ·(repeat (first | exact Sub.nil _ | refine Sub.cons rfl ?_))
 ·intro w hw; exact hw
 rintro ⟨k, cs, b, d⟩ ⟨hk, hc⟩
 simp only at hk hc
 have hcl := canonL_len hc
 rw [List.length_take] at hcl
 repeat refine x_ ?_
 refine f_ (s_lss rfl rfl) ?_
 repeat refine n_ ?_
 refine g_cond rfl (fun h => ?_) (fun h => ?_)
 ·have hk' : k < l.length := by simp at h; omega
  have hsome := rdB_some hrd hk'
  have hbk := hb _ (getB_mem hk')
  have htk : l.take (k + 1) = l.take k ++ [l.getD k []] := takeB hk'
  repeat refine x_ ?_
  refine f_ (s_indexAddr rfl hsome rfl (by omega)) ?_
  refine r_ (s_load1 rfl (fun w hw => rdB hw hrd (i := k) (by omega) hk')) ?_
  refine a_ ?_
  repeat refine x_ ?_
  refine m_ ?_
  refine gl_callp rfl (CanonP_ct (l.getD k []) hbk) (fun _ _ _ => trivial) rfl ?_
  refine m_ ?_
  refine f_ (s_extract rfl rfl) ?_
  refine f_ (s_extract rfl rfl) ?_
  refine a_ ?_
  refine a_ ?_
  repeat refine n_ ?_
  cases hq : canonS (l.getD k []) with
  | none =>
   have e : makeR l = ([], 4) := by unfold makeR; rw [canonL_bad hq (getB_mem hk')]
   rw [e]
   repeat refine x_ ?_
   refine m_ ?_
   refine f_ (s_not rfl) ?_
   repeat refine x_ ?_
   refine a_ ?_
   refine a_ ?_
   repeat refine n_ ?_
   refine g_ret ?_
   exact at_end2 rfl rfl rfl [OwnS none [] 0] ⟨none, 0, rfl, rfl⟩ (fun w hw => hw.dropAll.addNil _ _)
  | some z =>
   repeat refine x_ ?_
   refine m_ ?_
   refine f_ (s_not rfl) ?_
   repeat refine x_ ?_
   refine m_ ?_
   refine m_ ?_
   refine gl_buildSliceU rfl rfl rfl rfl rfl rfl (xs := fV [z]) rfl rfl ?_; intro a46 ha46
   refine gl_append rfl rfl (fun a' c' => .there .here) (fun w hw => (hw.ownN z_3).2.2.1) rfl rfl rfl (fV_one _) (by show (cs.length + 1) * 16 ≤ _; omega) (by simp only; omega) rfl ?_; intro a5 c5 hc5
   refine a_ ?_
   repeat refine x_ ?_
   refine f_ (s_add_i64 rfl rfl (by omega)) ?_
   refine m_ ?_
   repeat refine n_ ?_
   refine at_next (k + 1, cs ++ [z], a5, c5) ⟨by simp only; omega, by simp only; rw [htk]; exact canonL_snoc hq hc⟩ (by simp only; omega) ?_ ?_
   ·simp only [List.length_append, List.length_singleton]
    (repeat (first | exact Sub.nil _ | refine Sub.cons rfl ?_))
   ·intro w hw
    simp only [OwnS, List.length_append, List.length_singleton]
    rw [fV_append]
    exact hw.drop
 ·have hkl : k = l.length := by simp at h; omega
  rw [hkl, List.take_length] at hc
  have hsl := set_len cs
  repeat refine x_ ?_
  refine m_ ?_
  refine gl_call _ rfl (set_ct cs b d (by omega)) i_ (fun h hh ⟨bs, hb⟩ => Sat.rd hb z_3) rfl ?_; rintro v A ⟨a8, c8, rfl, rfl⟩
  refine a_ ?_
  repeat refine x_ ?_
  refine m_ ?_
  refine f_ (s_len_sl rfl) ?_
  refine f_ ((s_gtr rfl rfl).eq (v' := .bool (decide (16 < (setS cs).length))) (congrArg Value.bool (decide_eq_decide.mpr (by omega)))) ?_
  repeat refine n_ ?_
  refine g_cond rfl (fun h2 => ?_) (fun h2 => ?_)
  ·have e : makeR l = ([], 7) := by unfold makeR; rw [hc]; simp only; rw [if_pos (of_decide_eq_true h2)]
   rw [e]
   repeat refine x_ ?_
   refine a_ ?_
   refine a_ ?_
   repeat refine n_ ?_
   refine g_ret ?_
   exact at_end2 rfl rfl rfl [OwnS none [] 0] ⟨none, 0, rfl, rfl⟩ (fun w hw => hw.dropAll.addNil _ _)
  ·have e : makeR l = (setS cs, 0) := by unfold makeR; rw [hc]; simp only; rw [if_neg (of_decide_eq_false h2)]
   rw [e]
   repeat refine x_ ?_
   refine m_ ?_
   refine a_ ?_
   refine a_ ?_
   repeat refine n_ ?_
   refine g_ret ?_
   exact at_end2 rfl rfl rfl [OwnS a8 (setS cs) c8] ⟨a8, c8, rfl, rfl⟩ (fun w hw => hw.left (A := [_]))
end Go.Proofs.YtgllpcggdcknaaaGreatDoor.Rp
namespace Go.Proofs.YtgllpcggdcknaaaGreatDoor.Rp
open Go Go.Sl Go.RowKit
abbrev toBA (l : Bs) : ByteArray := ⟨l.toArray⟩
theorem rd_addr {h : Heap} {a : Option Addr} {l : List Bs} (r : RdS h a (fV l)) (h0 : l ≠ []) : ∃ b o, a = some ⟨b, o, none⟩ ∧ ∀ j, j < l.length → h.cell? ⟨b, o + j, none⟩ = some (B (l.getD j [])) := by
 obtain ⟨⟨b, o, sp⟩, rfl, hc⟩ := r (by intro e; have := congrArg List.length e; rw [fV_len] at this; exact h0 (List.eq_nil_of_length_eq_zero this))
 cases sp with
 | none =>
  refine ⟨b, o, rfl, fun j hj => ?_⟩
  have := hc j (B (l.getD j [])) (by simp [fV, hj])
  rwa [Addr.add_lit] at this
 | some x =>
  exfalso
  cases l with
  | nil => exact h0 rfl
  | cons y t =>
   have := hc 0 (B y) rfl
   simp [Addr.add, Heap.cell?] at this
   split at this <;> simp at this
theorem Join_ct (l : List Bs) (a : Option Addr) (c : Nat) (sep : Bs) (hc : l.length ≤ c) (hl : l.length ≤ 140737488355328) (hj : (joinS sep l).length ≤ 140737488355328) : Pu Tryz.prog 35 [.slice a l.length c, B sep] (fun h => RdS h a (fV l)) (B (joinS sep l)) := pu_below fun w hr => by
 by_cases h0 : l = []
 ·subst h0
  refine (Tryz.strings_Join_none a c (toBA sep) w).mono ?_
  rintro e w' ⟨rfl, rfl⟩
  exact ⟨rfl, Below.refl _ _⟩
 ·obtain ⟨b, o, rfl, hcell⟩ := rd_addr hr h0
  have hcell' : ∀ j, j < l.length → w.cell? ⟨b, o + j, none⟩ = some (B (l.getD j [])) := hcell
  have hb : b < w.heap.size := by
   have := hcell' 0 (List.length_pos_iff.mpr h0)
   unfold World.cell? at this
   cases hh : w.heap[b]? with
   | none => simp only [hh] at this; cases this
   | some ob => exact (Array.getElem?_eq_some_iff.1 hh).1
  have hml : (l.map toBA).length = l.length := by simp
  have e1 : (l.map toBA).map (·.data.toList) = l := by simp [Function.comp_def]
  have e2 : (toBA sep).data.toList = sep := rfl
  have hcs : ∀ (j : Nat) x, (l.map toBA)[j]? = some x → w.cell? ⟨b, o + j, none⟩ = some (.string x) := fun j x hx => by
   rw [List.getElem?_map] at hx
   cases hj2 : l[j]? with
   | none => rw [hj2] at hx; cases hx
   | some y =>
    rw [hj2] at hx
    cases hx
    have hj3 : j < l.length := (List.getElem?_eq_some_iff.1 hj2).1
    rw [hcell' j hj3, List.getD_eq_getElem?_getD, hj2]
    rfl
  have := Tryz.strings_Join b o c (l.map toBA) (toBA sep) w hcs hb (by omega) (by omega) (by rw [e1, e2, interc_join]; exact hj)
  rw [e1, e2, interc_join, hml] at this
  exact this
theorem PrintP_ct (l : List Bs) (a : Option Addr) (c : Nat) (hc : l.length ≤ c) (hl : l.length ≤ 140737488355328) (hj : (joinS [32] l).length ≤ 140737488355328) : Pu Tryz.prog 31 [.slice a l.length c] (fun h => RdS h a (fV l)) (B (printF l)) := by
 refine ct_enter 7 Tryz.func31 rfl rfl rfl ?_
 intro F hrd
 repeat refine x_ ?_
 refine a_ ?_
 repeat refine x_ ?_
 refine m_ ?_
 refine gl_callp rfl (Join_ct l a c [32] hc hl hj) (fun h hh hb => hrd.le hh) rfl ?_
 refine f_ (s_add_str rfl rfl (by simp only [List.length_cons, List.length_nil]; omega)) ?_
 refine f_ ((s_add_str rfl rfl (by simp only [List.length_append, List.length_cons, List.length_nil]; omega)).eq (v' := B (printF l)) rfl) ?_
 refine a_ ?_
 repeat refine n_ ?_
 refine g_ret ?_
 exact at_end1 rfl rfl [] ⟨rfl, rfl⟩ (fun _ h => h)
theorem index_word : ∀ (w r : Bs), (∀ c ∈ w, c ≠ 32) → Lib.index (w ++ 32 :: r) [32] = ((w.length : Nat) : Int)
 | [], r, _ => by rw [List.nil_append, Lib.index]; simp [List.isPrefixOf]
 | b :: w, r, h => by
  have ih := index_word w r (fun c hc => h c (by simp [hc]))
  have hb : b ≠ 32 := h b z_7
  have hp : ([32] : List UInt8).isPrefixOf (b :: (w ++ 32 :: r)) = false := by simp [List.isPrefixOf, Ne.symm hb]
  rw [List.cons_append, Lib.index, hp, ih]
  have hm : (((w.length : Nat) : Int) == -1) = false := beq_eq_false_iff_ne.mpr (by omega)
  simp [hm]
theorem splitK_eq : ∀ (k : Nat) (s : Bs), s.count 32 = k → Lib.splitK [32] 0 k s = splitS s
 | 0, s, h => by
  rw [split_word s (fun c hc e => by subst e; have := List.count_pos_iff.mpr hc; omega)]
  rfl
 | k + 1, s, h => by
  have hs := takeWhile_split (fun c => c != 32) s
  obtain ⟨w, hw⟩ : ∃ w, w = s.takeWhile fun c => c != 32 := ⟨_, rfl⟩
  have hw2 : ∀ c ∈ w, c ≠ 32 := fun c hc => by
   rw [hw] at hc
   have := takeWhile_all (fun c => c != 32) s c hc
   simpa using this
  have hnx := takeWhile_next (fun c => c != 32) s
  rw [← hw] at hs hnx
  cases hd : s.drop w.length with
  | nil =>
   rw [hd, List.append_nil] at hs
   have : s.count 32 = 0 := List.count_eq_zero.mpr (fun hc => hw2 32 (hs ▸ hc) rfl)
   omega
  | cons d r =>
   rw [hd] at hs hnx
   have hd32 : d = 32 := by have := hnx d z_7; simpa using this
   subst hd32
   have hi := index_word w r hw2
   have hc : r.count 32 = k := by
    rw [hs, List.count_append, List.count_cons_self] at h
    have : w.count 32 = 0 := List.count_eq_zero.mpr (fun hc => hw2 32 hc rfl)
    omega
   rw [hs, split_cons w r hw2, Lib.splitK, hi]
   have hm : (((w.length : Nat) : Int) == -1) = false := beq_eq_false_iff_ne.mpr (by omega)
   rw [hm]
   simp only [Bool.false_eq_true, if_false, Int.toNat_natCast, Nat.add_zero, List.take_left]
   rw [show (w ++ 32 :: r).drop (w.length + [(32 : UInt8)].length) = r by simp, splitK_eq k r hc]
end Go.Proofs.YtgllpcggdcknaaaGreatDoor.Rp
namespace Go.Proofs.YtgllpcggdcknaaaGreatDoor.Rp
open Go Go.Sl Go.RowKit
def SplitP (s : Bs) (v : Value) (A : List As) : Prop := ∃ a c, v = .slice a (splitS s).length c ∧ A = [OwnS a (splitS s) c]
theorem Split_ct (s : Bs) (hs : s.length < 4294967281) : Ct Tryz.prog 107 [B s, B [32]] Gl [] (SplitP s) := by
 intro w bs hsat hnd hpre
 have hb : bs = [] := hsat
 subst hb
 rw [hpBut_nil] at hpre
 obtain ⟨m, t, fr, h0⟩ := hpre.m
 have hc := Tryz.strings_Split (toBA s) (toBA [32]) m w (by simpa [ByteArray.size] using hs) (cell0 h0) (by decide)
 refine hc.mono ?_
 rintro e w' ⟨rfl, rfl⟩
 have hk : Lib.countB (toBA s) (toBA [32]) = s.count 32 := Lib.count_one 32 s
 have hd := Lib.splitB_data (toBA [32]) 0 (Lib.countB (toBA s) (toBA [32])) (toBA s)
 have e1 : (toBA [32]).data.toList = [32] := rfl
 have e2 : (toBA s).data.toList = s := rfl
 rw [e1, e2, hk, splitK_eq _ s rfl] at hd
 have hl : (Lib.splitB (toBA [32]) 0 (Lib.countB (toBA s) (toBA [32])) (toBA s)).length = Lib.countB (toBA s) (toBA [32]) + 1 := Lib.splitB_all _ (by decide) 0 _ _ rfl
 have hcells : (Lib.splitB (toBA [32]) 0 (Lib.countB (toBA s) (toBA [32])) (toBA s)).map Value.string = fV (splitS s) := by
  rw [hk, ← hd]
  simp [fV, Function.comp_def]
 have hn : Lib.countB (toBA s) (toBA [32]) + 1 = (splitS s).length := by
  rw [← hl, hk, ← hd, List.length_map]
 rw [hcells, hn]
 refine ⟨_, [OwnS (some ⟨w.heap.size, 0, none⟩) (splitS s) (splitS s).length], rfl, ⟨_, _, rfl, rfl⟩, ?_⟩
 have hw : Hp (snapBut w []) w [] := Hp.start (C := []) (bs := []) rfl List.nodup_nil
 exact own_alloc (xs := fV (splitS s)) (post := []) (fr := (0, 0)) hw (by rw [fV_len]; omega) (by rw [List.append_nil, fV_len]; omega) (Nat.le_refl _) (.inl (Nat.le_refl _)) z_7
theorem split_len : ∀ s : Bs, (splitS s).length ≤ s.length + 1 ∧ ∀ f ∈ splitS s, f.length ≤ s.length
 | [] => by simp [splitS]
 | c :: t => by
  have ih := split_len t
  unfold splitS
  split
  ·refine ⟨by simp; omega, fun f hf => ?_⟩
   rcases List.mem_cons.mp hf with rfl | hf
   ·simp
   ·have := ih.2 f hf; simp; omega
  ·split
   ·simp
   ·next w ws h =>
    rw [h] at ih
    refine ⟨by simpa using by have := ih.1; simp at this; omega, fun f hf => ?_⟩
    rcases List.mem_cons.mp hf with rfl | hf
    ·have := ih.2 w z_7; simp; omega
    ·have := ih.2 f (by simp [hf]); simp; omega
theorem contains_len (s : Bs) : s.contains 41 = decide ((s.takeWhile fun c => c != 41).length < s.length) := by
 induction s with
 | nil => rfl
 | cons c t ih =>
  by_cases h : c = 41
  ·subst h; simp
  ·have h1 : ((41 : UInt8) == c) = false := beq_eq_false_iff_ne.mpr (fun e => h e.symm)
   rw [List.contains_cons, h1, Bool.false_or, ih, List.takeWhile_cons]
   simp [h]
set_option maxRecDepth 8000 in
theorem ParseF_ct (s : Bs) (hs : s.length < 4294967281) : Ct Tryz.prog 88 [B s] Gl [] (ParseP (parseF s)) := by
 obtain ⟨e, he⟩ : ∃ e, e = (s.takeWhile fun c => c != 41).length := ⟨_, rfl⟩
 have hix := indexByte_eq s 41
 rw [contains_len, ← he] at hix
 obtain ⟨z, hz⟩ : ∃ z, z = Lib.indexByte s 41 := ⟨_, rfl⟩
 rw [← hz] at hix
 obtain ⟨q1, h1⟩ : ∃ q, q = decide (z < 1) := ⟨_, rfl⟩
 obtain ⟨q2, h2⟩ : ∃ q, q = decide (s.getD 0 0 = 40) := ⟨_, rfl⟩
 have hel : e ≤ s.length := by
  have := congrArg List.length (takeWhile_split (fun c => c != 41) s)
  rw [List.length_append] at this
  omega
 have hno : (q1 || !q2) = true → parseF s = ([], 0, 4) := fun h => by
  unfold parseF
  simp only
  rw [← he]
  refine if_neg fun hh => ?_
  rw [if_pos (by simpa using hh.2)] at hix
  have hpos : 1 ≤ s.length := by omega
  rw [head_get hpos] at hh
  have h3 : s.getD 0 0 = 40 := by simpa using hh.1
  have hq2 : q2 = true := h2.trans (decide_eq_true h3)
  have he1 : 1 ≤ e := by
   cases s with
   | nil => simp at hpos
   | cons c t =>
    have hc : c = 40 := h3
    subst hc
    rw [he]
    simp
  have hq1 : q1 = false := h1.trans (decide_eq_false (by omega))
  rw [hq1, hq2] at h
  cases h
 have hyes : (q1 || !q2) = false → z = (e : Int) ∧ 1 ≤ e ∧ e < s.length ∧ s.head? = some 40 := fun h => by
  rw [Bool.or_eq_false_iff] at h
  have h3 := of_decide_eq_false (h1.symm.trans h.1)
  have h4 : q2 = true := by simpa using h.2
  have h5 : s.getD 0 0 = 40 := of_decide_eq_true (h2.symm.trans h4)
  by_cases hc : e < s.length
  ·rw [if_pos (by simpa using hc)] at hix
   refine ⟨hix, by omega, hc, ?_⟩
   rw [head_get (by omega), h5]
  ·rw [if_neg (by simpa using hc)] at hix
   omega
 refine ct_enter 35 Tryz.func88 rfl rfl rfl ?_
 intro F hg
 repeat refine x_ ?_
 refine a_ ?_
 refine a_ ?_
 refine a_ ?_
 repeat refine x_ ?_
 refine m_ ?_
 refine gl_callp rfl (IndexByte_ct s 41) (fun _ _ _ => trivial) rfl ?_; rw [← hz]
 refine a_ ?_
 repeat refine n_ ?_
 refine g_cutK [(0, B s), (5, .int .i64 z), (17, .bool (q1 || !q2))] [] ?_ ?_
 ·cases q1
  all_goals (
   repeat refine x_ ?_
   refine m_ ?_
   refine f_ ((s_lss rfl rfl).eb h1) ?_
   refine m_ ?_
   (first | refine gl_guard_no rfl rfl rfl rfl rfl rfl rfl ?_ | (refine v_ ?_; refine m_ ?_))
   (first | refine gl_guard_no rfl rfl rfl rfl rfl rfl rfl ?_ | (refine v_ ?_; refine f_ ((s_index_str rfl rfl (by have := of_decide_eq_false h1.symm; split at hix <;> omega)).eq (v' := U8 (s.getD 0 0)) rfl) ?_))
   (first | refine gl_guard_no rfl rfl rfl rfl rfl rfl rfl ?_ | (refine v_ ?_; refine f_ ((s_neq rfl rfl).eq ((congrArg (fun b => Value.bool (!b)) (u8_eq (b := 40))).trans (congrArg (fun b => Value.bool (!b)) h2.symm))) ?_))
   refine f_ z_4 ?_
   refine gl_nil ?_
   repeat refine y_ ?_)
  all_goals exact at_cut j_ i_
 repeat refine y_ ?_
 refine g_cond rfl (fun h => ?_) (fun h => ?_)
 ·rw [hno h]
  repeat refine x_ ?_
  refine a_ ?_
  refine a_ ?_
  refine a_ ?_
  repeat refine n_ ?_
  refine g_ret ?_
  exact at_end3 rfl rfl rfl rfl [OwnS none [] 0] ⟨none, 0, rfl, rfl⟩ (fun w hw => hw.addNil _ _)
 obtain ⟨hze, he1, hes, hhd⟩ := hyes h
 rw [hze]
 have hin : (s.take e).drop 1 = (s.drop 1).take (e - 1) := by rw [List.drop_take]
 obtain ⟨inner, hinn⟩ : ∃ i, i = (s.take e).drop 1 := ⟨_, rfl⟩
 have hil : inner.length = e - 1 := by rw [hinn, List.length_drop, List.length_take]; omega
 have hpf : parseF s = if (makeR (if inner = [] then [] else splitS inner)).2 = 0 then ((makeR (if inner = [] then [] else splitS inner)).1, e + 1, 0) else ([], 0, (makeR (if inner = [] then [] else splitS inner)).2) := by
  unfold parseF
  simp only
  rw [← he, if_pos ⟨hhd, hes⟩, ← hinn]
 repeat refine x_ ?_
 refine a_ ?_
 repeat refine x_ ?_
 refine m_ ?_
 refine f_ ((s_gtr rfl rfl).eq (v' := .bool (decide (1 < e))) (congrArg Value.bool (decide_eq_decide.mpr (by omega)))) ?_
 repeat refine n_ ?_
 refine g_cond rfl (fun h3 => ?_) (fun h3 => ?_)
 ·have h4 := of_decide_eq_true h3
  have hne : inner ≠ [] := by intro x; rw [x] at hil; simp at hil; omega
  rw [if_neg hne] at hpf
  have hsl := split_len inner
  repeat refine x_ ?_
  refine m_ ?_
  refine m_ ?_
  refine f_ ((s_slice_str rfl rfl rfl (by omega)).eq (v' := B inner) (by rw [hinn, hin]; simp only [Int.toNat_natCast]; rfl)) ?_
  refine gl_call _ rfl (Split_ct inner (by omega)) i_ (fun h hh hb => hg.le hh) rfl ?_; rintro v A ⟨a23, c23, rfl, rfl⟩
  refine a_ ?_
  repeat refine x_ ?_
  refine m_ ?_
  refine gl_call _ rfl (MakeP_ct (splitS inner) a23 c23 (by unfold big; omega) (fun f hf => by have := hsl.2 f hf; unfold big; omega)) i_ (fun h hh ⟨bs, hb⟩ => Sat.rd hb z_3) rfl ?_; rintro v A ⟨a8, c8, rfl, rfl⟩
  refine m_ ?_
  refine f_ (s_extract rfl rfl) ?_
  refine f_ (s_extract rfl rfl) ?_
  refine a_ ?_
  refine a_ ?_
  repeat refine x_ ?_
  refine m_ ?_
  refine f_ (s_neq rfl rfl) ?_
  repeat refine n_ ?_
  refine g_cond rfl (fun h9 => ?_) (fun h9 => ?_)
  ·have he : ¬(makeR (splitS inner)).2 = 0 := by simpa using h9
   rw [hpf, if_neg he]
   repeat refine x_ ?_
   refine m_ ?_
   refine a_ ?_
   refine a_ ?_
   refine a_ ?_
   repeat refine n_ ?_
   refine g_ret ?_
   exact at_end3 rfl rfl rfl rfl [OwnS none [] 0] ⟨none, 0, rfl, rfl⟩ (fun w hw => hw.dropAll.addNil _ _)
  ·have he : (makeR (splitS inner)).2 = 0 := by simpa using h9
   rw [hpf, if_pos he]
   repeat refine x_ ?_
   refine m_ ?_
   refine m_ ?_
   refine f_ ((s_add_i64 rfl rfl (by omega)).eq (v' := .int .i64 ((e + 1 : Nat) : Int)) (by congr 1)) ?_
   refine a_ ?_
   refine a_ ?_
   refine a_ ?_
   repeat refine n_ ?_
   refine g_ret ?_
   exact at_end3 rfl rfl rfl rfl [OwnS a8 (makeR (splitS inner)).1 c8] ⟨a8, c8, rfl, rfl⟩ (fun w hw => hw.left (A := [_]))
 ·have h4 := of_decide_eq_false h3
  have hnil : inner = [] := List.eq_nil_of_length_eq_zero (by omega)
  rw [if_pos hnil] at hpf
  repeat refine x_ ?_
  refine m_ ?_
  refine gl_call _ rfl (MakeP_ct [] none 0 z_7 z_7) i_ (fun h hh hb => fun x => absurd rfl x) rfl ?_; rintro v A ⟨a8, c8, rfl, rfl⟩
  refine m_ ?_
  refine f_ (s_extract rfl rfl) ?_
  refine f_ (s_extract rfl rfl) ?_
  refine a_ ?_
  refine a_ ?_
  repeat refine x_ ?_
  refine m_ ?_
  refine f_ (s_neq rfl rfl) ?_
  repeat refine n_ ?_
  have he : (makeR []).2 = 0 := rfl
  rw [hpf, if_pos he]
  repeat refine x_ ?_
  refine m_ ?_
  refine m_ ?_
  refine f_ ((s_add_i64 rfl rfl (by omega)).eq (v' := .int .i64 ((e + 1 : Nat) : Int)) (by congr 1)) ?_
  refine a_ ?_
  refine a_ ?_
  refine a_ ?_
  repeat refine n_ ?_
  refine g_ret ?_
  exact at_end3 rfl rfl rfl rfl [OwnS a8 (makeR []).1 c8] ⟨a8, c8, rfl, rfl⟩ i_
end Go.Proofs.YtgllpcggdcknaaaGreatDoor.Rp
