import Derived.Test.YtgllpcggdcknaaaGreatDoorCx5
set_option linter.unusedVariables false
set_option linter.unusedSimpArgs false
namespace Go.Proofs.YtgllpcggdcknaaaGreatDoor.Rp
open Go Go.Sl
abbrev U8 (c : UInt8) : Value := .int .u8 (c.toNat : Nat)
theorem u8_eq {a b : UInt8} : decide ((a.toNat : Int) = (b.toNat : Int)) = decide (a = b) := by
 by_cases h : a = b
 ·subst h; simp
 ·have : ¬((a.toNat : Int) = (b.toNat : Int)) := fun e => h (UInt8.toNat_inj.mp (by omega))
  simp [h, this]
theorem not_has {l : Bs} {c : UInt8} (h : ∀ j, j < l.length → l.getD j 0 ≠ c) : l.contains c = false := by
 cases e : l.contains c with
 | false => rfl
 | true =>
  rw [List.contains_iff_mem] at e
  obtain ⟨j, hj, hc⟩ := List.getElem_of_mem e
  exact absurd (by simp [hj, hc]) (h j hj)
theorem has_at {l : Bs} {c : UInt8} {j : Nat} (hj : j < l.length) (h : l.getD j 0 = c) : l.contains c = true := by
 rw [List.contains_iff_mem, ← h, List.getD_eq_getElem?_getD, List.getElem?_eq_getElem hj]
 exact List.getElem_mem hj
theorem In_ct (c : UInt8) (l : Bs) (hl : l.length ≤ 9223372036854775807) : Pu Tryz.prog 76 [U8 c, B l] (fun _ => True) (.bool (l.contains c)) := by
 refine ct_enter 17 Tryz.func76 rfl rfl rfl ?_
 intro F _
 repeat refine x_ ?_
 refine a_ ?_
 repeat refine x_ ?_
 refine a_ ?_
 repeat refine n_ ?_
 refine g_loop (ι := Nat) (fun k => k ≤ l.length ∧ ∀ j, j < k → l.getD j 0 ≠ c) (fun k => [(0, U8 c), (1, B l), (5, .int .i64 (k : Nat))]) (fun _ => []) (fun k => l.length - k) 0 ⟨by omega, fun j h => by omega⟩ ?_ ?_ ?_
 ·(repeat (first | exact Sub.nil _ | refine Sub.cons rfl ?_))
 ·intro w hw; exact hw
 ·rintro k ⟨hk, hno⟩
  repeat refine x_ ?_
  refine m_ ?_
  refine m_ ?_
  refine f_ (s_len_str rfl) ?_
  refine f_ (s_lss rfl rfl) ?_
  repeat refine n_ ?_
  refine g_cond rfl (fun h => ?_) (fun h => ?_)
  ·have hk' : k < l.length := by simp at h; omega
   repeat refine x_ ?_
   refine m_ ?_
   refine m_ ?_
   refine f_ (s_index_str rfl rfl (by omega)) ?_
   refine m_ ?_
   refine f_ ((s_eql rfl rfl).eq (v' := .bool (decide (l.getD k 0 = c))) (by simp only [Int.toNat_natCast]; exact congrArg Value.bool u8_eq)) ?_
   repeat refine n_ ?_
   refine g_cond rfl (fun h2 => ?_) (fun h2 => ?_)
   ·rw [has_at hk' (of_decide_eq_true h2)]
    repeat refine x_ ?_
    refine a_ ?_
    repeat refine n_ ?_
    refine g_ret ?_
    exact at_end1 rfl rfl [] ⟨rfl, rfl⟩ (fun _ h => h)
   ·have h3 := of_decide_eq_false h2
    repeat refine x_ ?_
    refine m_ ?_
    refine f_ (s_add_i64 rfl rfl (by omega)) ?_
    refine a_ ?_
    repeat refine n_ ?_
    refine at_next (k + 1) ⟨by omega, fun j hj => ?_⟩ (by omega) ?_ ?_
    ·rcases Nat.lt_succ_iff_lt_or_eq.1 hj with h4 | rfl
     ·exact hno j h4
     ·exact h3
    ·(repeat (first | exact Sub.nil _ | refine Sub.cons rfl ?_))
    ·intro w hw; exact hw
  ·have hkl : k = l.length := by simp at h; omega
   rw [not_has (fun j hj => hno j (by omega))]
   repeat refine x_ ?_
   refine a_ ?_
   repeat refine n_ ?_
   refine g_ret ?_
   exact at_end1 rfl rfl [] ⟨rfl, rfl⟩ (fun _ h => h)
theorem AtomByte_ct (c : UInt8) : Pu Tryz.prog 103 [U8 c] (fun _ => True) (.bool (isAtom c)) := by
 obtain ⟨q1, h1⟩ : ∃ q, q = decide (33 ≤ c.toNat) := ⟨_, rfl⟩
 obtain ⟨q2, h2⟩ : ∃ q, q = decide (c.toNat ≤ 126) := ⟨_, rfl⟩
 obtain ⟨q3, h3⟩ : ∃ q, q = ([40, 41, 123, 37, 42, 34, 92, 93] : Bs).contains c := ⟨_, rfl⟩
 have e : isAtom c = (q1 && q2 && !q3) := by rw [h1, h2, h3]; rfl
 rw [e]
 have e1 : decide ((33 : Int) ≤ (c.toNat : Nat)) = q1 := by rw [h1]; exact decide_eq_decide.mpr (by omega)
 have e2 : decide (((c.toNat : Nat) : Int) ≤ 126) = q2 := by rw [h2]; exact decide_eq_decide.mpr (by omega)
 clear h1 h2 e
 refine ct_enter 14 Tryz.func103 rfl rfl rfl ?_
 intro F _
 repeat refine x_ ?_
 refine a_ ?_
 repeat refine n_ ?_
 cases q1 with
 | false =>
  repeat refine x_ ?_
  refine m_ ?_
  refine f_ ((s_geq rfl rfl).eq (v' := .bool false) (congrArg Value.bool e1)) ?_
  refine m_ ?_
  (refine gl_guard_no rfl rfl rfl rfl rfl rfl rfl ?_)
  (refine gl_guard_no rfl rfl rfl rfl rfl rfl rfl ?_)
  refine f_ (by exact s_pick_f rfl rfl) ?_
  refine m_ ?_
  (refine gl_guard_no rfl rfl rfl rfl rfl rfl rfl ?_)
  (refine gl_guard_no rfl rfl rfl rfl rfl rfl rfl ?_)
  (refine gl_guard_no rfl rfl rfl rfl rfl rfl rfl ?_)
  refine f_ (by exact s_pick_f rfl rfl) ?_
  refine a_ ?_
  repeat refine n_ ?_
  refine g_ret ?_
  exact at_end1 rfl rfl [] ⟨rfl, rfl⟩ (fun _ h => h)
 | true =>
  cases q2 with
  | false =>
   repeat refine x_ ?_
   refine m_ ?_
   refine f_ ((s_geq rfl rfl).eq (v' := .bool true) (congrArg Value.bool e1)) ?_
   refine m_ ?_
   (refine v_ ?_; refine m_ ?_)
   (refine v_ ?_; refine f_ ((s_leq rfl rfl).eq (v' := .bool false) (congrArg Value.bool e2)) ?_)
   refine f_ z_9 ?_
   refine m_ ?_
   (refine gl_guard_no rfl rfl rfl rfl rfl rfl rfl ?_)
   (refine gl_guard_no rfl rfl rfl rfl rfl rfl rfl ?_)
   (refine gl_guard_no rfl rfl rfl rfl rfl rfl rfl ?_)
   refine f_ (by exact s_pick_f rfl rfl) ?_
   refine a_ ?_
   repeat refine n_ ?_
   refine g_ret ?_
   exact at_end1 rfl rfl [] ⟨rfl, rfl⟩ (fun _ h => h)
  | true =>
   repeat refine x_ ?_
   refine m_ ?_
   refine f_ ((s_geq rfl rfl).eq (v' := .bool true) (congrArg Value.bool e1)) ?_
   refine m_ ?_
   (refine v_ ?_; refine m_ ?_)
   (refine v_ ?_; refine f_ ((s_leq rfl rfl).eq (v' := .bool true) (congrArg Value.bool e2)) ?_)
   refine f_ z_9 ?_
   refine m_ ?_
   (refine v_ ?_; refine m_ ?_)
   (refine v_ ?_; refine gl_callp rfl (In_ct _ _ (by decide)) (fun h hh hb => by first | trivial | (first | exact RdS.le (by assumption) hh | (obtain ⟨bs, hb⟩ := hb; exact Sat.rd hb (z_3))) | (refine ⟨?_, ?_⟩ <;> (first | exact RdS.le (by assumption) hh | (obtain ⟨bs, hb⟩ := hb; exact Sat.rd hb (z_3)))) | (refine ⟨?_, ?_, ?_⟩ <;> (first | exact RdS.le (by assumption) hh | (obtain ⟨bs, hb⟩ := hb; exact Sat.rd hb (z_3))))) rfl ?_)
   (refine v_ ?_; refine f_ ((s_not rfl).eq (v' := .bool (!q3)) (by rw [h3])) ?_)
   refine f_ z_9 ?_
   refine a_ ?_
   repeat refine n_ ?_
   refine g_ret ?_
   exact at_end1 rfl rfl [] ⟨by simp, rfl⟩ (fun _ h => h)
theorem quotableR_ct (c : UInt8) : Pu Tryz.prog 106 [U8 c] (fun _ => True) (.bool (quotable c)) := by
 obtain ⟨q1, h1⟩ : ∃ q, q = decide (0 < c.toNat) := ⟨_, rfl⟩
 obtain ⟨q2, h2⟩ : ∃ q, q = decide (c.toNat < 128) := ⟨_, rfl⟩
 obtain ⟨q3, h3⟩ : ∃ q, q = decide (c = 10) := ⟨_, rfl⟩
 obtain ⟨q4, h4⟩ : ∃ q, q = decide (c = 13) := ⟨_, rfl⟩
 have e : quotable c = (q1 && q2 && !q3 && !q4) := by
  rw [h1, h2, h3, h4]
  unfold quotable
  by_cases a : c = 10 <;> by_cases b : c = 13 <;> simp [a, b]
 rw [e]
 have e1 : decide ((1 : Int) ≤ (c.toNat : Nat)) = q1 := by rw [h1]; exact decide_eq_decide.mpr (by omega)
 have e2 : decide (((c.toNat : Nat) : Int) ≤ 127) = q2 := by rw [h2]; exact decide_eq_decide.mpr (by omega)
 have e3 : (!decide (((c.toNat : Nat) : Int) = 10)) = !q3 := by rw [h3]; exact congrArg not (u8_eq (b := 10))
 have e4 : (!decide (((c.toNat : Nat) : Int) = 13)) = !q4 := by rw [h4]; exact congrArg not (u8_eq (b := 13))
 clear h1 h2 h3 h4 e
 refine ct_enter 17 Tryz.func106 rfl rfl rfl ?_
 intro F _
 repeat refine x_ ?_
 refine a_ ?_
 repeat refine n_ ?_
 cases q1 with
 | false =>
  repeat refine x_ ?_
  refine m_ ?_
  refine f_ ((s_geq rfl rfl).eq (v' := .bool false) (congrArg Value.bool e1)) ?_
  refine m_ ?_
  (refine gl_guard_no rfl rfl rfl rfl rfl rfl rfl ?_)
  (refine gl_guard_no rfl rfl rfl rfl rfl rfl rfl ?_)
  refine f_ (by exact s_pick_f rfl rfl) ?_
  refine m_ ?_
  (refine gl_guard_no rfl rfl rfl rfl rfl rfl rfl ?_)
  (refine gl_guard_no rfl rfl rfl rfl rfl rfl rfl ?_)
  refine f_ (by exact s_pick_f rfl rfl) ?_
  refine m_ ?_
  (refine gl_guard_no rfl rfl rfl rfl rfl rfl rfl ?_)
  (refine gl_guard_no rfl rfl rfl rfl rfl rfl rfl ?_)
  refine f_ (by exact s_pick_f rfl rfl) ?_
  refine a_ ?_
  repeat refine n_ ?_
  refine g_ret ?_
  exact at_end1 rfl rfl [] ⟨rfl, rfl⟩ (fun _ h => h)
 | true =>
  cases q2 with
  | false =>
   repeat refine x_ ?_
   refine m_ ?_
   refine f_ ((s_geq rfl rfl).eq (v' := .bool true) (congrArg Value.bool e1)) ?_
   refine m_ ?_
   (refine v_ ?_; refine m_ ?_)
   (refine v_ ?_; refine f_ ((s_leq rfl rfl).eq (v' := .bool false) (congrArg Value.bool e2)) ?_)
   refine f_ z_9 ?_
   refine m_ ?_
   (refine gl_guard_no rfl rfl rfl rfl rfl rfl rfl ?_)
   (refine gl_guard_no rfl rfl rfl rfl rfl rfl rfl ?_)
   refine f_ (by exact s_pick_f rfl rfl) ?_
   refine m_ ?_
   (refine gl_guard_no rfl rfl rfl rfl rfl rfl rfl ?_)
   (refine gl_guard_no rfl rfl rfl rfl rfl rfl rfl ?_)
   refine f_ (by exact s_pick_f rfl rfl) ?_
   refine a_ ?_
   repeat refine n_ ?_
   refine g_ret ?_
   exact at_end1 rfl rfl [] ⟨rfl, rfl⟩ (fun _ h => h)
  | true =>
   cases q3 with
   | true =>
    repeat refine x_ ?_
    refine m_ ?_
    refine f_ ((s_geq rfl rfl).eq (v' := .bool true) (congrArg Value.bool e1)) ?_
    refine m_ ?_
    (refine v_ ?_; refine m_ ?_)
    (refine v_ ?_; refine f_ ((s_leq rfl rfl).eq (v' := .bool true) (congrArg Value.bool e2)) ?_)
    refine f_ z_9 ?_
    refine m_ ?_
    (refine v_ ?_; refine m_ ?_)
    (refine v_ ?_; refine f_ ((s_neq rfl rfl).eq (v' := .bool false) (congrArg Value.bool e3)) ?_)
    refine f_ z_9 ?_
    refine m_ ?_
    (refine gl_guard_no rfl rfl rfl rfl rfl rfl rfl ?_)
    (refine gl_guard_no rfl rfl rfl rfl rfl rfl rfl ?_)
    refine f_ (by exact s_pick_f rfl rfl) ?_
    refine a_ ?_
    repeat refine n_ ?_
    refine g_ret ?_
    exact at_end1 rfl rfl [] ⟨rfl, rfl⟩ (fun _ h => h)
   | false =>
    repeat refine x_ ?_
    refine m_ ?_
    refine f_ ((s_geq rfl rfl).eq (v' := .bool true) (congrArg Value.bool e1)) ?_
    refine m_ ?_
    (refine v_ ?_; refine m_ ?_)
    (refine v_ ?_; refine f_ ((s_leq rfl rfl).eq (v' := .bool true) (congrArg Value.bool e2)) ?_)
    refine f_ z_9 ?_
    refine m_ ?_
    (refine v_ ?_; refine m_ ?_)
    (refine v_ ?_; refine f_ ((s_neq rfl rfl).eq (v' := .bool true) (congrArg Value.bool e3)) ?_)
    refine f_ z_9 ?_
    refine m_ ?_
    (refine v_ ?_; refine m_ ?_)
    (refine v_ ?_; refine f_ ((s_neq rfl rfl).eq (v' := .bool (!q4)) (congrArg Value.bool e4)) ?_)
    refine f_ z_9 ?_
    refine a_ ?_
    repeat refine n_ ?_
    refine g_ret ?_
    exact at_end1 rfl rfl [] ⟨by simp, rfl⟩ (fun _ h => h)
theorem all_no {p : UInt8 → Bool} {s : Bs} {k : Nat} (hk : k < s.length) (h : p (s.getD k 0) = false) : s.all p = false := by
 cases e : s.all p with
 | false => rfl
 | true =>
  have := List.all_eq_true.mp e (s.getD k 0) (by rw [List.getD_eq_getElem?_getD, List.getElem?_eq_getElem hk]; exact List.getElem_mem hk)
  rw [h] at this
  cases this
theorem all_yes {p : UInt8 → Bool} {s : Bs} (h : ∀ j, j < s.length → p (s.getD j 0) = true) : s.all p = true := by
 refine List.all_eq_true.mpr fun c hc => ?_
 obtain ⟨j, hj, rfl⟩ := List.getElem_of_mem hc
 simpa [hj] using h j hj
theorem AtomR_ct (s : Bs) (hl : s.length ≤ 9223372036854775806) : Pu Tryz.prog 75 [B s] (fun _ => True) (.bool (atomS s)) := by
 refine ct_enter 18 Tryz.func75 rfl rfl rfl ?_
 intro F _
 repeat refine x_ ?_
 refine a_ ?_
 repeat refine x_ ?_
 refine a_ ?_
 repeat refine n_ ?_
 refine g_loop (ι := Nat) (fun k => k ≤ s.length ∧ ∀ j, j < k → isAtom (s.getD j 0) = true) (fun k => [(0, B s), (3, .int .i64 (k : Nat))]) (fun _ => []) (fun k => s.length - k) 0 ⟨by omega, fun j h => by omega⟩ ?_ ?_ ?_
 ·(repeat (first | exact Sub.nil _ | refine Sub.cons rfl ?_))
 ·intro w hw; exact hw
 ·rintro k ⟨hk, hno⟩
  repeat refine x_ ?_
  refine m_ ?_
  refine m_ ?_
  refine f_ (s_len_str rfl) ?_
  refine f_ (s_lss rfl rfl) ?_
  repeat refine n_ ?_
  refine g_cond rfl (fun h => ?_) (fun h => ?_)
  ·have hk' : k < s.length := by simp at h; omega
   repeat refine x_ ?_
   refine m_ ?_
   refine m_ ?_
   refine f_ ((s_index_str rfl rfl (by omega)).eq (v' := U8 (s.getD k 0)) (by simp only [Int.toNat_natCast])) ?_
   refine gl_callp rfl (AtomByte_ct _) (fun h hh hb => by first | trivial | (first | exact RdS.le (by assumption) hh | (obtain ⟨bs, hb⟩ := hb; exact Sat.rd hb (z_3))) | (refine ⟨?_, ?_⟩ <;> (first | exact RdS.le (by assumption) hh | (obtain ⟨bs, hb⟩ := hb; exact Sat.rd hb (z_3)))) | (refine ⟨?_, ?_, ?_⟩ <;> (first | exact RdS.le (by assumption) hh | (obtain ⟨bs, hb⟩ := hb; exact Sat.rd hb (z_3))))) rfl ?_
   refine f_ (s_not rfl) ?_
   repeat refine n_ ?_
   refine g_cond rfl (fun h2 => ?_) (fun h2 => ?_)
   ·have h3 : isAtom (s.getD k 0) = false := by simpa using h2
    have e : atomS s = false := by unfold atomS; rw [all_no hk' h3]; rfl
    rw [e]
    repeat refine x_ ?_
    refine a_ ?_
    repeat refine n_ ?_
    refine g_ret ?_
    exact at_end1 rfl rfl [] ⟨rfl, rfl⟩ (fun _ h => h)
   ·have h3 : isAtom (s.getD k 0) = true := by simpa using h2
    repeat refine x_ ?_
    refine m_ ?_
    refine f_ (s_add_i64 rfl rfl (by omega)) ?_
    refine a_ ?_
    repeat refine n_ ?_
    refine at_next (k + 1) ⟨by omega, fun j hj => ?_⟩ (by omega) ?_ ?_
    ·rcases Nat.lt_succ_iff_lt_or_eq.1 hj with h4 | rfl
     ·exact hno j h4
     ·exact h3
    ·(repeat (first | exact Sub.nil _ | refine Sub.cons rfl ?_))
    ·intro w hw; exact hw
  ·have hkl : k = s.length := by simp at h; omega
   have e : atomS s = decide ((0 : Int) < (s.length : Nat)) := by
    unfold atomS
    rw [all_yes fun j hj => hno j (by omega)]
    cases s with
    | nil => rfl
    | cons a t => simp
   rw [e]
   repeat refine x_ ?_
   refine m_ ?_
   refine f_ (s_len_str rfl) ?_
   refine f_ (s_gtr rfl rfl) ?_
   refine a_ ?_
   repeat refine n_ ?_
   refine g_ret ?_
   exact at_end1 rfl rfl [] ⟨rfl, rfl⟩ (fun _ h => h)
end Go.Proofs.YtgllpcggdcknaaaGreatDoor.Rp
namespace Go.Proofs.YtgllpcggdcknaaaGreatDoor.Rp
open Go Go.Sl
theorem digS_len : ∀ (k n : Nat), 1 ≤ k → n < 10 ^ k → (digS n).length ≤ k
 | 0, _, h, _ => by omega
 | 1, n, _, h => by rw [digS_lt (by omega)]; simp
 | k + 2, n, _, h => by
  by_cases hl : n < 10
  ·rw [digS_lt hl]; simp
  ·rw [digS_ge hl]
   have := digS_len (k + 1) (n / 10) (by omega) (by rw [Nat.pow_succ] at h; omega)
   simp
   omega
theorem digS_len64 {n : Nat} (h : n ≤ 18446744073709551615) : (digS n).length ≤ 20 := digS_len 20 n (by omega) (by omega)
theorem u8_dig {k : Nat} (h : k < 10) : Value.int .u8 ((48 : Int) + (k : Nat)) = U8 (dig k) := by
 rw [U8, dig_val h]
 congr 1
theorem DigitsR_ct (n : Nat) (hn : n ≤ 18446744073709551615) : Pu Tryz.prog 77 [.int .u64 (n : Nat)] (fun _ => True) (B (digS n)) := by
 have hlen := digS_len64 hn
 refine ct_enter 23 Tryz.func77 rfl rfl rfl ?_
 intro F _
 repeat refine x_ ?_
 refine a_ ?_
 repeat refine x_ ?_
 refine a_ ?_
 repeat refine n_ ?_
 refine g_loop (ι := Nat × Bs) (fun i => i.1 ≤ n ∧ digS n = digS i.1 ++ i.2) (fun i => [(0, .int .u64 (i.1 : Nat)), (3, B i.2)]) (fun _ => []) (fun i => i.1) (n, []) ⟨Nat.le_refl _, by simp⟩ ?_ ?_ ?_
 ·(repeat (first | exact Sub.nil _ | refine Sub.cons rfl ?_))
 ·intro w hw; exact hw
 ·rintro ⟨m, acc⟩ ⟨hm, he⟩
  simp only at hm he
  have hl := congrArg List.length he
  rw [List.length_append] at hl
  repeat refine x_ ?_
  refine m_ ?_
  refine f_ (s_gtr rfl rfl) ?_
  repeat refine n_ ?_
  refine g_cond rfl (fun h => ?_) (fun h => ?_)
  ·have hk : 9 < m := by simp at h; omega
   repeat refine x_ ?_
   refine m_ ?_
   refine f_ ((s_rem_pos rfl rfl (by omega)).eq (v' := .int .u64 ((m % 10 : Nat) : Int)) z_7) ?_
   refine f_ (s_add_u64 rfl rfl (by omega)) ?_
   refine f_ ((s_conv_keep_u8 rfl (by omega)).eq (v' := U8 (dig (m % 10))) (u8_dig (by omega))) ?_
   refine gl_buildSliceU rfl rfl rfl rfl rfl rfl (xs := bytesV [dig (m % 10)]) rfl rfl ?_; intro a10 ha10
   refine r_ (s_string (l := [dig (m % 10)]) rfl rfl (fun w hw => (hw.ownN z_3).2.2.1)) ?_
   refine m_ ?_
   refine f_ ((s_add_str rfl rfl (by simp; omega)).eq (v' := B (dig (m % 10) :: acc)) rfl) ?_
   refine a_ ?_
   repeat refine x_ ?_
   refine m_ ?_
   refine f_ ((s_quo_u rfl rfl (by refine ⟨by omega, by omega, wrap_u64_in (by omega)⟩)).eq (v' := .int .u64 ((m / 10 : Nat) : Int)) z_7) ?_
   refine a_ ?_
   repeat refine n_ ?_
   refine at_next (m / 10, dig (m % 10) :: acc) ⟨by simp only; omega, ?_⟩ (by simp only; omega) ?_ ?_
   ·simp only
    rw [he, digS_ge (by omega)]
    simp
   ·(repeat (first | exact Sub.nil _ | refine Sub.cons rfl ?_))
   ·intro w hw; exact hw.dropAll
  ·have hk : m < 10 := by simp at h; omega
   repeat refine x_ ?_
   refine m_ ?_
   refine f_ (s_add_u64 rfl rfl (by omega)) ?_
   refine f_ ((s_conv_keep_u8 rfl (by omega)).eq (v' := U8 (dig m)) (u8_dig hk)) ?_
   refine gl_buildSliceU rfl rfl rfl rfl rfl rfl (xs := bytesV [dig m]) rfl rfl ?_; intro a19 ha19
   refine r_ (s_string (l := [dig m]) rfl rfl (fun w hw => (hw.ownN z_3).2.2.1)) ?_
   refine m_ ?_
   refine f_ ((s_add_str rfl rfl (by simp; omega)).eq (v' := B (digS n)) (by rw [he, digS_lt hk])) ?_
   refine a_ ?_
   repeat refine n_ ?_
   refine g_ret ?_
   exact at_end1 rfl rfl [] ⟨rfl, rfl⟩ (fun _ h => h.dropAll)
theorem upC_sub {c : UInt8} (h : 97 ≤ c.toNat ∧ c.toNat ≤ 122) : Value.int .u8 (((c.toNat : Nat) : Int) - 97 + 65) = U8 (upC c) := by
 have e : (upC c).toNat = c.toNat - 32 := by
  unfold upC
  rw [if_pos h, UInt8.toNat_sub]
  have := c.toNat_lt
  simp
  omega
 rw [U8, e]
 congr 1
 omega
theorem lowC_add {c : UInt8} (h : 65 ≤ c.toNat ∧ c.toNat ≤ 90) : Value.int .u8 (((c.toNat : Nat) : Int) - 65 + 97) = U8 (lowC c) := by
 have e : (lowC c).toNat = c.toNat + 32 := by
  unfold lowC
  rw [if_pos h, UInt8.toNat_add]
  have := c.toNat_lt
  simp
  omega
 rw [U8, e]
 congr 1
 omega
theorem take_succ_map (f : UInt8 → UInt8) {s : Bs} {k : Nat} (hk : k < s.length) : (s.take (k + 1)).map f = (s.take k).map f ++ [f (s.getD k 0)] := by
 rw [List.take_succ_eq_append_getElem hk, List.map_append, List.getD_eq_getElem?_getD, List.getElem?_eq_getElem hk]
 rfl
theorem UpperR_ct (s : Bs) (hl : s.length ≤ 9223372036854775806) : Pu Tryz.prog 80 [B s] (fun _ => True) (B (upS s)) := by
 refine ct_enter 30 Tryz.func80 rfl rfl rfl ?_
 intro F _
 repeat refine x_ ?_
 refine a_ ?_
 repeat refine x_ ?_
 refine a_ ?_
 repeat refine x_ ?_
 refine a_ ?_
 repeat refine n_ ?_
 refine g_loop (ι := Nat) (fun k => k ≤ s.length) (fun k => [(0, B s), (3, B (upS (s.take k))), (4, .int .i64 (k : Nat))]) (fun _ => []) (fun k => s.length - k) 0 (by omega) ?_ ?_ ?_
 ·(repeat (first | exact Sub.nil _ | refine Sub.cons rfl ?_))
 ·intro w hw; exact hw
 ·rintro k hk
  have hlt : (upS (s.take k)).length ≤ s.length := by unfold upS; rw [List.length_map, List.length_take]; omega
  repeat refine x_ ?_
  refine m_ ?_
  refine m_ ?_
  refine f_ (s_len_str rfl) ?_
  refine f_ (s_lss rfl rfl) ?_
  repeat refine n_ ?_
  refine g_cond rfl (fun h => ?_) (fun h => ?_)
  ·have hk' : k < s.length := by simp at h; omega
   have hu : upS (s.take (k + 1)) = upS (s.take k) ++ [upC (s.getD k 0)] := take_succ_map upC hk'
   repeat refine x_ ?_
   refine m_ ?_
   refine m_ ?_
   refine f_ ((s_index_str rfl rfl (by omega)).eq (v' := U8 (s.getD k 0)) (by simp only [Int.toNat_natCast])) ?_
   refine a_ ?_
   repeat refine n_ ?_
   generalize s.getD k 0 = c at hu ⊢
   have hc := c.toNat_lt
   obtain ⟨q1, h1⟩ : ∃ q, q = decide ((97 : Int) ≤ (c.toNat : Nat)) := ⟨_, rfl⟩
   obtain ⟨q2, h2⟩ : ∃ q, q = decide (((c.toNat : Nat) : Int) ≤ 122) := ⟨_, rfl⟩
   have keep : (q1 = false ∨ q2 = false) → upC c = c := fun e => by
    unfold upC
    rw [if_neg]
    rintro ⟨a, b⟩
    rcases e with e | e
    ·rw [e] at h1; have := of_decide_eq_false h1.symm; omega
    ·rw [e] at h2; have := of_decide_eq_false h2.symm; omega
   cases q1 with
   | false =>
    repeat refine x_ ?_
    refine m_ ?_
    refine f_ ((s_geq rfl rfl).eq (v' := .bool false) (congrArg Value.bool h1.symm)) ?_
    refine m_ ?_
    (refine gl_guard_no rfl rfl rfl rfl rfl rfl rfl ?_)
    (refine gl_guard_no rfl rfl rfl rfl rfl rfl rfl ?_)
    refine f_ (by exact s_pick_f rfl rfl) ?_
    repeat refine x_ ?_
    refine m_ ?_
    refine m_ ?_
    refine gl_buildSliceU rfl rfl rfl rfl rfl rfl (xs := bytesV [c]) rfl rfl ?_; intro a26 ha26
    refine r_ (s_string (l := [c]) rfl rfl (fun w hw => (hw.ownN z_3).2.2.1)) ?_
    refine f_ ((s_add_str rfl rfl (by simp; omega)).eq (v' := B (upS (s.take (k + 1)))) (by rw [hu, keep (.inl rfl)])) ?_
    refine a_ ?_
    repeat refine x_ ?_
    refine m_ ?_
    refine f_ (s_add_i64 rfl rfl (by omega)) ?_
    refine a_ ?_
    repeat refine n_ ?_
    refine at_next (k + 1) (by omega) (by omega) ?_ ?_
    ·(repeat (first | exact Sub.nil _ | refine Sub.cons rfl ?_))
    ·intro w hw; exact hw.dropAll
   | true =>
    cases q2 with
    | false =>
     repeat refine x_ ?_
     refine m_ ?_
     refine f_ ((s_geq rfl rfl).eq (v' := .bool true) (congrArg Value.bool h1.symm)) ?_
     refine m_ ?_
     (refine v_ ?_; refine m_ ?_)
     (refine v_ ?_; refine f_ ((s_leq rfl rfl).eq (v' := .bool false) (congrArg Value.bool h2.symm)) ?_)
     refine f_ z_9 ?_
     repeat refine x_ ?_
     refine m_ ?_
     refine m_ ?_
     refine gl_buildSliceU rfl rfl rfl rfl rfl rfl (xs := bytesV [c]) rfl rfl ?_; intro a26 ha26
     refine r_ (s_string (l := [c]) rfl rfl (fun w hw => (hw.ownN z_3).2.2.1)) ?_
     refine f_ ((s_add_str rfl rfl (by simp; omega)).eq (v' := B (upS (s.take (k + 1)))) (by rw [hu, keep (.inr rfl)])) ?_
     refine a_ ?_
     repeat refine x_ ?_
     refine m_ ?_
     refine f_ (s_add_i64 rfl rfl (by omega)) ?_
     refine a_ ?_
     repeat refine n_ ?_
     refine at_next (k + 1) (by omega) (by omega) ?_ ?_
     ·(repeat (first | exact Sub.nil _ | refine Sub.cons rfl ?_))
     ·intro w hw; exact hw.dropAll
    | true =>
     have b1 : 97 ≤ c.toNat := by have := of_decide_eq_true h1.symm; omega
     have b2 : c.toNat ≤ 122 := by have := of_decide_eq_true h2.symm; omega
     repeat refine x_ ?_
     refine m_ ?_
     refine f_ ((s_geq rfl rfl).eq (v' := .bool true) (congrArg Value.bool h1.symm)) ?_
     refine m_ ?_
     (refine v_ ?_; refine m_ ?_)
     (refine v_ ?_; refine f_ ((s_leq rfl rfl).eq (v' := .bool true) (congrArg Value.bool h2.symm)) ?_)
     refine f_ z_9 ?_
     repeat refine x_ ?_
     refine m_ ?_
     refine f_ ((s_sub_raw rfl rfl).eq (v' := .int .u8 ((c.toNat : Nat) - 97)) (by rw [wrap_u8_in (by omega)])) ?_
     refine f_ ((s_add_raw rfl rfl).eq (v' := U8 (upC c)) (by rw [wrap_u8_in (by omega)]; exact upC_sub ⟨b1, b2⟩)) ?_
     refine a_ ?_
     repeat refine x_ ?_
     refine m_ ?_
     refine m_ ?_
     refine gl_buildSliceU rfl rfl rfl rfl rfl rfl (xs := bytesV [upC c]) rfl rfl ?_; intro a26 ha26
     refine r_ (s_string (l := [upC c]) rfl rfl (fun w hw => (hw.ownN z_3).2.2.1)) ?_
     refine f_ ((s_add_str rfl rfl (by simp; omega)).eq (v' := B (upS (s.take (k + 1)))) (by rw [hu])) ?_
     refine a_ ?_
     repeat refine x_ ?_
     refine m_ ?_
     refine f_ (s_add_i64 rfl rfl (by omega)) ?_
     refine a_ ?_
     repeat refine n_ ?_
     refine at_next (k + 1) (by omega) (by omega) ?_ ?_
     ·(repeat (first | exact Sub.nil _ | refine Sub.cons rfl ?_))
     ·intro w hw; exact hw.dropAll
  ·have hkl : k = s.length := by simp at h; omega
   have e : upS (s.take k) = upS s := by rw [hkl, List.take_length]
   rw [e]
   repeat refine x_ ?_
   refine m_ ?_
   refine a_ ?_
   repeat refine n_ ?_
   refine g_ret ?_
   exact at_end1 rfl rfl [] ⟨rfl, rfl⟩ (fun _ h => h)
end Go.Proofs.YtgllpcggdcknaaaGreatDoor.Rp
namespace Go.Proofs.YtgllpcggdcknaaaGreatDoor.Rp
open Go Go.Sl
abbrev numV (o : Option Nat) : Value := .tuple #[.int .u64 ((o.getD 0 : Nat) : Int), .bool o.isSome]
theorem num_none {s : Bs} (h : ∀ n, n ≤ great → s ≠ digS n) : numS s = none := by
 cases e : numS s with
 | none => rfl
 | some n => exact absurd (numS_some e).1 (h n (numS_some e).2)
theorem num_long {s : Bs} (h : 19 < s.length) : numS s = none := num_none fun n hn e => by
 have := digS_len 19 n (by omega) (by unfold great at hn; omega)
 rw [← e] at this
 omega
theorem num_zero {s : Bs} (h : 1 < s.length) (h0 : s.getD 0 0 = 48) : numS s = none := num_none fun n hn e => by
 rcases Nat.eq_zero_or_pos n with rfl | hp
 ·rw [digS_lt (by omega)] at e
  rw [e] at h
  simp at h
 ·obtain ⟨c, t, hc, hne⟩ := digS_head n hp
  rw [e, hc] at h0
  exact hne h0
theorem num_digit {s : Bs} {k : Nat} (hk : k < s.length) (h : isDig (s.getD k 0) = false) : numS s = none := num_none fun n hn e => by
 have := digS_all n
 rw [← e, all_no hk h] at this
 cases this
theorem num_val {s : Bs} (h0 : 1 ≤ s.length) (hz : ¬(s.getD 0 0 = 48 ∧ 1 < s.length)) (hd : ∀ j, j < s.length → isDig (s.getD j 0) = true) : numS s = if great < valK 0 s then none else some (valK 0 s) := by
 have e : digS (valK 0 s) = s := by
  cases s with
  | nil => simp at h0
  | cons c t =>
   refine dig_back0 (all_yes hd) ?_
   by_cases hc : c = 48
   ·right
    cases t with
    | nil => rfl
    | cons d t => exact absurd ⟨by simpa using hc, by simp⟩ hz
   ·exact .inl hc
 unfold numS
 split
 ·next h => rw [if_neg (by omega)]
 ·next h =>
  rw [if_pos]
  apply Classical.byContradiction
  intro k
  exact h ⟨e, by omega⟩
theorem valK_lt : ∀ (k : Nat) (s : Bs), s.length = k → (∀ j, j < s.length → isDig (s.getD j 0) = true) → valK 0 s < 10 ^ k
 | 0, s, h, _ => by
  have : s = [] := List.eq_nil_of_length_eq_zero h
  subst this
  rw [valK_nil]
  decide
 | k + 1, s, h, hd => by
  have e : s = s.take k ++ [s.getD k 0] := by
   have hk : k < s.length := by omega
   have := List.take_succ_eq_append_getElem hk
   rw [show k + 1 = s.length by omega, List.take_length] at this
   rw [List.getD_eq_getElem?_getD, List.getElem?_eq_getElem hk]
   exact this
  have hdk := hd k (by omega)
  have ih := valK_lt k (s.take k) (by rw [List.length_take]; omega) (fun j hj => by
   rw [List.length_take] at hj
   have := hd j (by omega)
   rw [List.getD_eq_getElem?_getD] at this ⊢
   rw [List.getElem?_take_of_lt (by omega)]
   exact this)
  rw [e, valK_append, valK_cons, valK_nil, Nat.pow_succ]
  unfold stepV
  unfold isDig at hdk
  simp only [Bool.and_eq_true, decide_eq_true_eq] at hdk
  omega
theorem val_take {s : Bs} {k : Nat} (hk : k < s.length) : valK 0 (s.take (k + 1)) = 10 * valK 0 (s.take k) + ((s.getD k 0).toNat - 48) := by
 rw [List.take_succ_eq_append_getElem hk, valK_append, valK_cons, valK_nil, List.getD_eq_getElem?_getD, List.getElem?_eq_getElem hk]
 rfl
theorem Number_ct (s : Bs) (hl : s.length ≤ 9223372036854775806) : Pu Tryz.prog 97 [B s] (fun _ => True) (numV (numS s)) := by
 refine ct_enter 51 Tryz.func97 rfl rfl rfl ?_
 intro F _
 repeat refine x_ ?_
 refine a_ ?_
 refine a_ ?_
 repeat refine n_ ?_
 by_cases hA : s.length < 1 ∨ 19 < s.length ∨ (s.getD 0 0 = 48 ∧ 1 < s.length)
 ·have hnone : numS s = none := by
   rcases hA with h | h | h
   ·have : s = [] := List.eq_nil_of_length_eq_zero (by omega)
    rw [this]; exact numS_nil
   ·exact num_long h
   ·exact num_zero h.2 h.1
  rw [hnone]
  by_cases h1 : s.length < 1
  ·repeat refine y_ ?_
   refine g_region ?_
   refine m_ ?_
   refine f_ (s_len_str rfl) ?_
   refine f_ ((s_lss rfl rfl).eq (v' := .bool true) (by simp; omega)) ?_
   refine m_ ?_
   (refine gl_guard_no rfl rfl rfl rfl rfl rfl rfl ?_)
   (refine gl_guard_no rfl rfl rfl rfl rfl rfl rfl ?_)
   (refine gl_guard_no rfl rfl rfl rfl rfl rfl rfl ?_)
   refine f_ z_9 ?_
   refine m_ ?_
   (refine gl_guard_no rfl rfl rfl rfl rfl rfl rfl ?_)
   (refine gl_guard_no rfl rfl rfl rfl rfl rfl rfl ?_)
   (refine gl_guard_no rfl rfl rfl rfl rfl rfl rfl ?_)
   (refine gl_guard_no rfl rfl rfl rfl rfl rfl rfl ?_)
   (refine gl_guard_un rfl rfl rfl rfl rfl rfl ?_)
   (refine gl_guard_un rfl rfl rfl rfl rfl rfl ?_)
   (refine gl_guard_un rfl rfl rfl rfl rfl rfl ?_)
   (refine gl_guard_no rfl rfl rfl rfl rfl rfl rfl ?_)
   refine f_ z_9 ?_
   repeat refine x_ ?_
   refine a_ ?_
   refine a_ ?_
   repeat refine n_ ?_
   refine g_ret ?_
   exact at_end2 rfl rfl rfl [] ⟨rfl, rfl⟩ (fun _ h => h)
  ·by_cases h2 : 19 < s.length
   ·repeat refine y_ ?_
    refine g_region ?_
    refine m_ ?_
    refine f_ (s_len_str rfl) ?_
    refine f_ ((s_lss rfl rfl).eq (v' := .bool false) (by simp; omega)) ?_
    refine m_ ?_
    (refine v_ ?_; refine m_ ?_)
    (refine v_ ?_; refine f_ (s_len_str rfl) ?_)
    (refine v_ ?_; refine f_ ((s_gtr rfl rfl).eq (v' := .bool true) (by simp; omega)) ?_)
    refine f_ (by exact s_pick_f rfl rfl) ?_
    refine m_ ?_
    (refine gl_guard_no rfl rfl rfl rfl rfl rfl rfl ?_)
    (refine gl_guard_no rfl rfl rfl rfl rfl rfl rfl ?_)
    (refine gl_guard_no rfl rfl rfl rfl rfl rfl rfl ?_)
    (refine gl_guard_no rfl rfl rfl rfl rfl rfl rfl ?_)
    (refine gl_guard_un rfl rfl rfl rfl rfl rfl ?_)
    (refine gl_guard_un rfl rfl rfl rfl rfl rfl ?_)
    (refine gl_guard_un rfl rfl rfl rfl rfl rfl ?_)
    (refine gl_guard_no rfl rfl rfl rfl rfl rfl rfl ?_)
    refine f_ z_9 ?_
    repeat refine x_ ?_
    refine a_ ?_
    refine a_ ?_
    repeat refine n_ ?_
    refine g_ret ?_
    exact at_end2 rfl rfl rfl [] ⟨rfl, rfl⟩ (fun _ h => h)
   ·have h3 : s.getD 0 0 = 48 ∧ 1 < s.length := by
     rcases hA with h | h | h
     ·omega
     ·omega
     ·exact h
    repeat refine x_ ?_
    refine m_ ?_
    refine f_ (s_len_str rfl) ?_
    refine f_ ((s_lss rfl rfl).eq (v' := .bool false) (by simp; omega)) ?_
    refine m_ ?_
    (refine v_ ?_; refine m_ ?_)
    (refine v_ ?_; refine f_ (s_len_str rfl) ?_)
    (refine v_ ?_; refine f_ ((s_gtr rfl rfl).eq (v' := .bool false) (by simp; omega)) ?_)
    refine f_ (by exact s_pick_f rfl rfl) ?_
    refine m_ ?_
    (refine v_ ?_; refine m_ ?_)
    (refine v_ ?_; refine f_ ((s_index_str rfl rfl (by omega)).eq (v' := .int .u8 48) (by simp only [Int.toNat_zero]; rw [h3.1]; rfl)) ?_)
    (refine v_ ?_; refine f_ (s_eql rfl rfl) ?_)
    (refine v_ ?_; refine m_ ?_)
    (refine v_ ?_; refine m_ ?_)
    (refine v_ ?_; refine f_ (s_len_str rfl) ?_)
    (refine v_ ?_; refine f_ ((s_gtr rfl rfl).eq (v' := .bool true) (by simp; omega)) ?_)
    (refine v_ ?_; refine f_ z_9 ?_)
    refine f_ (by exact s_pick_f rfl rfl) ?_
    repeat refine x_ ?_
    refine a_ ?_
    refine a_ ?_
    repeat refine n_ ?_
    refine g_ret ?_
    exact at_end2 rfl rfl rfl [] ⟨rfl, rfl⟩ (fun _ h => h)
 ·have h1 : 1 ≤ s.length := by omega
  have h2 : s.length ≤ 19 := by omega
  have hz : ¬(s.getD 0 0 = 48 ∧ 1 < s.length) := fun h => hA (.inr (.inr h))
  obtain ⟨q1, hq1⟩ : ∃ q, q = decide (s.getD 0 0 = 48) := ⟨_, rfl⟩
  obtain ⟨q2, hq2⟩ : ∃ q, q = decide ((1 : Int) < (s.length : Nat)) := ⟨_, rfl⟩
  have hq : (q1 && q2) = false := by
   cases q1 with
   | false => rfl
   | true =>
    cases q2 with
    | false => rfl
    | true => exact absurd ⟨of_decide_eq_true hq1.symm, by have := of_decide_eq_true hq2.symm; omega⟩ hz
  repeat refine y_ ?_
  refine g_cutK [(0, B s), (23, .bool (q1 && q2))] [] ?_ ?_
  ·cases q1 <;> cases q2
   all_goals (
    repeat refine x_ ?_
    refine m_ ?_
    refine f_ (s_len_str rfl) ?_
    refine f_ ((s_lss rfl rfl).eq (v' := .bool false) (by simp; omega)) ?_
    refine m_ ?_
    (refine v_ ?_; refine m_ ?_)
    (refine v_ ?_; refine f_ (s_len_str rfl) ?_)
    (refine v_ ?_; refine f_ ((s_gtr rfl rfl).eq (v' := .bool false) (by simp; omega)) ?_)
    refine f_ (by exact s_pick_f rfl rfl) ?_
    refine m_ ?_
    (refine v_ ?_; refine m_ ?_)
    (refine v_ ?_; refine f_ ((s_index_str rfl rfl (by omega)).eq (v' := U8 (s.getD 0 0)) rfl) ?_)
    (refine v_ ?_; refine f_ ((s_eql rfl rfl).eq ((congrArg Value.bool (u8_eq (b := 48))).trans (congrArg Value.bool hq1.symm))) ?_)
    (refine v_ ?_; refine m_ ?_)
    (first | refine gl_guard_no rfl rfl rfl rfl rfl rfl rfl ?_ | (refine v_ ?_; refine m_ ?_))
    (first | refine gl_guard_no rfl rfl rfl rfl rfl rfl rfl ?_ | (refine v_ ?_; refine f_ (s_len_str rfl) ?_))
    (first | refine gl_guard_no rfl rfl rfl rfl rfl rfl rfl ?_ | (refine v_ ?_; refine f_ ((s_gtr rfl rfl).eb hq2) ?_))
    (refine v_ ?_; refine f_ z_4 ?_)
    refine f_ (by exact s_pick_f rfl rfl) ?_
    refine gl_nil ?_
    repeat refine y_ ?_)
   all_goals exact at_cut j_ i_
  ·rw [hq]
   repeat refine x_ ?_
   refine a_ ?_
   repeat refine x_ ?_
   refine a_ ?_
   repeat refine n_ ?_
   refine g_loop (ι := Nat) (fun k => k ≤ s.length ∧ ∀ j, j < k → isDig (s.getD j 0) = true) (fun k => [(0, B s), (4, .int .u64 (valK 0 (s.take k) : Nat)), (5, .int .i64 (k : Nat))]) (fun _ => []) (fun k => s.length - k) 0 ⟨by omega, fun j h => by omega⟩ ?_ ?_ ?_
   ·(repeat (first | exact Sub.nil _ | refine Sub.cons rfl ?_))
   ·intro w hw; exact hw
   ·rintro k ⟨hk, hno⟩
    repeat refine x_ ?_
    refine m_ ?_
    refine m_ ?_
    refine f_ (s_len_str rfl) ?_
    refine f_ (s_lss rfl rfl) ?_
    repeat refine n_ ?_
    refine g_cond rfl (fun h => ?_) (fun h => ?_)
    ·have hk' : k < s.length := by simp at h; omega
     obtain ⟨q3, hq3⟩ : ∃ q, q = decide (((s.getD k 0).toNat : Int) < 48) := ⟨_, rfl⟩
     obtain ⟨q4, hq4⟩ : ∃ q, q = decide ((57 : Int) < ((s.getD k 0).toNat : Nat)) := ⟨_, rfl⟩
     have hdig : isDig (s.getD k 0) = (!(q3 || q4)) := by
      unfold isDig
      rw [hq3, hq4]
      rw [Bool.eq_iff_iff]
      simp only [Bool.and_eq_true, Bool.not_eq_true', Bool.or_eq_false_iff, decide_eq_true_eq, decide_eq_false_iff_not]
      omega
     repeat refine y_ ?_
     refine g_cutK [(0, B s), (4, .int .u64 (valK 0 (s.take k) : Nat)), (5, .int .i64 (k : Nat)), (39, .bool (q3 || q4))] [] ?_ ?_
     ·cases q3 <;> cases q4
      all_goals (
       repeat refine x_ ?_
       refine m_ ?_
       refine m_ ?_
       refine f_ ((s_index_str rfl rfl (by omega)).eq (v' := U8 (s.getD k 0)) (by simp only [Int.toNat_natCast])) ?_
       refine f_ ((s_lss rfl rfl).eb hq3) ?_
       refine m_ ?_
       (first | refine gl_guard_no rfl rfl rfl rfl rfl rfl rfl ?_ | (refine v_ ?_; refine m_ ?_))
       (first | refine gl_guard_no rfl rfl rfl rfl rfl rfl rfl ?_ | (refine v_ ?_; refine m_ ?_))
       (first | refine gl_guard_no rfl rfl rfl rfl rfl rfl rfl ?_ | (refine v_ ?_; refine f_ ((s_index_str rfl rfl (by omega)).eq (v' := U8 (s.getD k 0)) (by simp only [Int.toNat_natCast])) ?_))
       (first | refine gl_guard_no rfl rfl rfl rfl rfl rfl rfl ?_ | (refine v_ ?_; refine f_ ((s_gtr rfl rfl).eb hq4) ?_))
       refine f_ z_4 ?_
       refine gl_nil ?_
       repeat refine y_ ?_)
      all_goals exact at_cut j_ i_
     ·repeat refine y_ ?_
      refine g_cond rfl (fun h2 => ?_) (fun h2 => ?_)
      ·rw [num_digit hk' (by rw [hdig, h2]; rfl)]
       repeat refine x_ ?_
       refine a_ ?_
       refine a_ ?_
       repeat refine n_ ?_
       refine g_ret ?_
       exact at_end2 rfl rfl rfl [] ⟨rfl, rfl⟩ (fun _ h => h)
      ·have hd : isDig (s.getD k 0) = true := by rw [hdig, h2]; rfl
       have hall : ∀ j, j < k + 1 → isDig (s.getD j 0) = true := fun j hj => by
        rcases Nat.lt_succ_iff_lt_or_eq.1 hj with h4 | rfl
        ·exact hno j h4
        ·exact hd
       have hv := val_take hk'
       have hlt : valK 0 (s.take (k + 1)) < 10 ^ 19 := Nat.lt_of_lt_of_le (valK_lt (k + 1) (s.take (k + 1)) (by rw [List.length_take]; omega) (fun j hj => by
        rw [List.length_take] at hj
        have := hall j (by omega)
        rw [List.getD_eq_getElem?_getD] at this ⊢
        rw [List.getElem?_take_of_lt (by omega)]
        exact this)) (Nat.pow_le_pow_right (by omega) (by omega))
       have hc := hd
       unfold isDig at hc
       simp only [Bool.and_eq_true, decide_eq_true_eq] at hc
       repeat refine x_ ?_
       refine m_ ?_
       refine f_ ((s_mul_u64 rfl rfl (by omega)).eq (v' := .int .u64 ((10 * valK 0 (s.take k) : Nat) : Int)) z_7) ?_
       refine m_ ?_
       refine m_ ?_
       refine f_ ((s_index_str rfl rfl (by omega)).eq (v' := U8 (s.getD k 0)) (by simp only [Int.toNat_natCast])) ?_
       refine f_ ((s_sub_raw rfl rfl).eq (v' := .int .u8 (((s.getD k 0).toNat - 48 : Nat) : Int)) (by rw [wrap_u8_in (by omega)]; congr 1; omega)) ?_
       refine f_ (s_conv_keep_u64 rfl (by omega)) ?_
       refine f_ ((s_add_u64 rfl rfl (by omega)).eq (v' := .int .u64 (valK 0 (s.take (k + 1)) : Nat)) (by rw [hv]; simp)) ?_
       refine a_ ?_
       repeat refine x_ ?_
       refine m_ ?_
       refine f_ (s_add_i64 rfl rfl (by omega)) ?_
       refine a_ ?_
       repeat refine n_ ?_
       refine at_next (k + 1) ⟨by omega, hall⟩ (by omega) ?_ ?_
       ·(repeat (first | exact Sub.nil _ | refine Sub.cons rfl ?_))
       ·intro w hw; exact hw
    ·have hkl : k = s.length := by simp at h; omega
     subst hkl
     rw [List.take_length]
     have hv := num_val h1 hz hno
     repeat refine x_ ?_
     refine m_ ?_
     refine f_ (s_gtr rfl rfl) ?_
     repeat refine n_ ?_
     refine g_cond rfl (fun h2 => ?_) (fun h2 => ?_)
     ·have : great < valK 0 s := by unfold great; simp at h2; omega
      rw [hv, if_pos this]
      repeat refine x_ ?_
      refine a_ ?_
      refine a_ ?_
      repeat refine n_ ?_
      refine g_ret ?_
      exact at_end2 rfl rfl rfl [] ⟨rfl, rfl⟩ (fun _ h => h)
     ·have : ¬great < valK 0 s := by unfold great; simp at h2; omega
      rw [hv, if_neg this]
      repeat refine x_ ?_
      refine m_ ?_
      refine a_ ?_
      refine a_ ?_
      repeat refine n_ ?_
      refine g_ret ?_
      exact at_end2 rfl rfl rfl [] ⟨rfl, rfl⟩ (fun _ h => h)
theorem flat_snoc {s : Bs} {k : Nat} (hk : k < s.length) : (s.take (k + 1)).flatMap escC = (s.take k).flatMap escC ++ escC (s.getD k 0) := by
 rw [List.take_succ_eq_append_getElem hk, List.flatMap_append, List.getD_eq_getElem?_getD, List.getElem?_eq_getElem hk]
 simp
theorem esc_len (s : Bs) : (s.flatMap escC).length ≤ 2 * s.length := by
 induction s with
 | nil => simp
 | cons c t ih =>
  rw [List.flatMap_cons, List.length_append, List.length_cons]
  have : (escC c).length ≤ 2 := by unfold escC; split <;> simp
  omega
theorem slice1 {s : Bs} {k : Nat} (hk : k < s.length) : (s.drop ((k : Nat) : Int).toNat).take ((((k : Nat) : Int) + 1).toNat - ((k : Nat) : Int).toNat) = [s.getD k 0] := by
 have e : (((k : Nat) : Int) + 1).toNat - ((k : Nat) : Int).toNat = 1 := by omega
 rw [e, Int.toNat_natCast, List.drop_eq_getElem_cons hk, List.getD_eq_getElem?_getD, List.getElem?_eq_getElem hk]
 rfl
abbrev optV (o : Option Bs) : Value := .tuple #[B (o.getD []), .bool o.isSome]
theorem QuoteR_ct (s : Bs) (hl : s.length ≤ 9223372036854775806) : Pu Tryz.prog 81 [B s] (fun _ => True) (optV (quoteS s)) := by
 refine ct_enter 41 Tryz.func81 rfl rfl rfl ?_
 intro F _
 repeat refine x_ ?_
 refine a_ ?_
 refine a_ ?_
 repeat refine x_ ?_
 refine m_ ?_
 refine f_ (s_len_str rfl) ?_
 refine f_ (s_gtr rfl rfl) ?_
 repeat refine n_ ?_
 refine g_cond rfl (fun h => ?_) (fun h => ?_)
 ·have e : quoteS s = none := by
   unfold quoteS
   rw [if_neg (fun k => by simp at h; omega)]
  rw [e]
  repeat refine x_ ?_
  refine a_ ?_
  refine a_ ?_
  repeat refine n_ ?_
  refine g_ret ?_
  exact at_end2 rfl rfl rfl [] ⟨rfl, rfl⟩ (fun _ h => h)
 have h512 : s.length ≤ 512 := by simp at h; omega
 repeat refine x_ ?_
 refine a_ ?_
 repeat refine x_ ?_
 refine a_ ?_
 repeat refine n_ ?_
 refine g_loop (ι := Nat) (fun k => k ≤ s.length ∧ ∀ j, j < k → quotable (s.getD j 0) = true) (fun k => [(0, B s), (4, B (34 :: (s.take k).flatMap escC)), (5, .int .i64 (k : Nat))]) (fun _ => []) (fun k => s.length - k) 0 ⟨by omega, fun j h => by omega⟩ ?_ ?_ ?_
 ·(repeat (first | exact Sub.nil _ | refine Sub.cons rfl ?_))
 ·intro w hw; exact hw
 ·rintro k ⟨hk, hno⟩
  have hlen := esc_len (s.take k)
  rw [List.length_take] at hlen
  repeat refine x_ ?_
  refine m_ ?_
  refine m_ ?_
  refine f_ (s_len_str rfl) ?_
  refine f_ (s_lss rfl rfl) ?_
  repeat refine n_ ?_
  refine g_cond rfl (fun h => ?_) (fun h => ?_)
  ·have hk' : k < s.length := by simp at h; omega
   repeat refine x_ ?_
   refine m_ ?_
   refine m_ ?_
   refine f_ ((s_index_str rfl rfl (by omega)).eq (v' := U8 (s.getD k 0)) (by simp only [Int.toNat_natCast])) ?_
   refine gl_callp rfl (quotableR_ct _) (fun h hh hb => by first | trivial | (first | exact RdS.le (by assumption) hh | (obtain ⟨bs, hb⟩ := hb; exact Sat.rd hb (z_3))) | (refine ⟨?_, ?_⟩ <;> (first | exact RdS.le (by assumption) hh | (obtain ⟨bs, hb⟩ := hb; exact Sat.rd hb (z_3)))) | (refine ⟨?_, ?_, ?_⟩ <;> (first | exact RdS.le (by assumption) hh | (obtain ⟨bs, hb⟩ := hb; exact Sat.rd hb (z_3))))) rfl ?_
   refine f_ (s_not rfl) ?_
   repeat refine n_ ?_
   refine g_cond rfl (fun h2 => ?_) (fun h2 => ?_)
   ·have h3 : quotable (s.getD k 0) = false := by simpa using h2
    have e : quoteS s = none := by
     unfold quoteS
     rw [if_neg (fun k => by rw [all_no hk' h3] at k; cases k.2)]
    rw [e]
    repeat refine x_ ?_
    refine a_ ?_
    refine a_ ?_
    repeat refine n_ ?_
    refine g_ret ?_
    exact at_end2 rfl rfl rfl [] ⟨rfl, rfl⟩ (fun _ h => h)
   have h3 : quotable (s.getD k 0) = true := by simpa using h2
   obtain ⟨q1, hq1⟩ : ∃ q, q = decide (s.getD k 0 = 34) := ⟨_, rfl⟩
   obtain ⟨q2, hq2⟩ : ∃ q, q = decide (s.getD k 0 = 92) := ⟨_, rfl⟩
   have hf := flat_snoc hk'
   repeat refine y_ ?_
   refine g_cutK [(0, B s), (4, B (34 :: (s.take k).flatMap escC)), (5, .int .i64 (k : Nat)), (29, .bool (q1 || q2))] [] ?_ ?_
   ·cases q1 <;> cases q2
    all_goals (
     repeat refine x_ ?_
     refine m_ ?_
     refine m_ ?_
     refine f_ ((s_index_str rfl rfl (by omega)).eq (v' := U8 (s.getD k 0)) (by simp only [Int.toNat_natCast])) ?_
     refine f_ ((s_eql rfl rfl).eq ((congrArg Value.bool (u8_eq (b := 34))).trans (congrArg Value.bool hq1.symm))) ?_
     refine m_ ?_
     (first | refine gl_guard_no rfl rfl rfl rfl rfl rfl rfl ?_ | (refine v_ ?_; refine m_ ?_))
     (first | refine gl_guard_no rfl rfl rfl rfl rfl rfl rfl ?_ | (refine v_ ?_; refine m_ ?_))
     (first | refine gl_guard_no rfl rfl rfl rfl rfl rfl rfl ?_ | (refine v_ ?_; refine f_ ((s_index_str rfl rfl (by omega)).eq (v' := U8 (s.getD k 0)) (by simp only [Int.toNat_natCast])) ?_))
     (first | refine gl_guard_no rfl rfl rfl rfl rfl rfl rfl ?_ | (refine v_ ?_; refine f_ ((s_eql rfl rfl).eq ((congrArg Value.bool (u8_eq (b := 92))).trans (congrArg Value.bool hq2.symm))) ?_))
     refine f_ z_4 ?_
     refine gl_nil ?_
     repeat refine y_ ?_)
    all_goals exact at_cut j_ i_
   have hesc : escC (s.getD k 0) = if (q1 || q2) = true then [92, s.getD k 0] else [s.getD k 0] := by
    rw [hq1, hq2]
    unfold escC
    by_cases a : s.getD k 0 = 34 <;> by_cases b : s.getD k 0 = 92 <;> simp [a, b]
   repeat refine y_ ?_
   refine g_cond rfl (fun h4 => ?_) (fun h4 => ?_)
   ·rw [if_pos h4] at hesc
    repeat refine x_ ?_
    refine m_ ?_
    refine f_ (s_add_str rfl rfl (by simp only [List.length_cons, List.length_append, List.length_nil]; omega)) ?_
    refine a_ ?_
    repeat refine x_ ?_
    refine m_ ?_
    refine m_ ?_
    refine m_ ?_
    refine m_ ?_
    refine f_ (s_add_i64 rfl rfl (by omega)) ?_
    refine f_ ((s_slice_str rfl rfl rfl (by omega)).eq (v' := B [s.getD k 0]) (congrArg B (slice1 hk'))) ?_
    refine f_ ((s_add_str rfl rfl (by simp only [List.length_cons, List.length_append, List.length_nil]; omega)).eq (v' := B (34 :: (s.take (k + 1)).flatMap escC)) (by rw [hf, hesc]; simp)) ?_
    refine a_ ?_
    repeat refine x_ ?_
    refine m_ ?_
    refine f_ (s_add_i64 rfl rfl (by omega)) ?_
    refine a_ ?_
    repeat refine n_ ?_
    refine at_next (k + 1) ⟨by omega, fun j hj => ?_⟩ (by omega) ?_ ?_
    ·rcases Nat.lt_succ_iff_lt_or_eq.1 hj with h4 | rfl
     ·exact hno j h4
     ·exact h3
    ·(repeat (first | exact Sub.nil _ | refine Sub.cons rfl ?_))
    ·intro w hw; exact hw
   ·rw [if_neg (by simp [h4])] at hesc
    repeat refine x_ ?_
    refine m_ ?_
    refine m_ ?_
    refine m_ ?_
    refine m_ ?_
    refine f_ (s_add_i64 rfl rfl (by omega)) ?_
    refine f_ ((s_slice_str rfl rfl rfl (by omega)).eq (v' := B [s.getD k 0]) (congrArg B (slice1 hk'))) ?_
    refine f_ ((s_add_str rfl rfl (by simp only [List.length_cons, List.length_append, List.length_nil]; omega)).eq (v' := B (34 :: (s.take (k + 1)).flatMap escC)) (by rw [hf, hesc]; simp)) ?_
    refine a_ ?_
    repeat refine x_ ?_
    refine m_ ?_
    refine f_ (s_add_i64 rfl rfl (by omega)) ?_
    refine a_ ?_
    repeat refine n_ ?_
    refine at_next (k + 1) ⟨by omega, fun j hj => ?_⟩ (by omega) ?_ ?_
    ·rcases Nat.lt_succ_iff_lt_or_eq.1 hj with h4 | rfl
     ·exact hno j h4
     ·exact h3
    ·(repeat (first | exact Sub.nil _ | refine Sub.cons rfl ?_))
    ·intro w hw; exact hw
  ·have hkl : k = s.length := by simp at h; omega
   subst hkl
   have e : quoteS s = some (34 :: s.flatMap escC ++ [34]) := by
    unfold quoteS
    rw [if_pos ⟨h512, all_yes hno⟩]
   rw [e, List.take_length] at *
   repeat refine x_ ?_
   refine m_ ?_
   refine f_ (s_add_str rfl rfl (by simp only [List.length_cons, List.length_append, List.length_nil]; omega)) ?_
   refine a_ ?_
   refine a_ ?_
   repeat refine n_ ?_
   refine g_ret ?_
   exact at_end2 rfl rfl rfl [] ⟨rfl, rfl⟩ (fun _ h => h)
end Go.Proofs.YtgllpcggdcknaaaGreatDoor.Rp
namespace Go.Proofs.YtgllpcggdcknaaaGreatDoor.Rp
open Go Go.Sl
abbrev big : Nat := 1000000000000
theorem LiteralR_ct (s : Bs) (hl : s.length ≤ big) : Pu Tryz.prog 82 [B s] (fun _ => True) (B (literalS s)) := by
 have hd := digS_len64 (n := s.length) (by unfold big at hl; omega)
 unfold big at hl
 refine ct_enter 11 Tryz.func82 rfl rfl rfl ?_
 intro F _
 repeat refine x_ ?_
 refine a_ ?_
 repeat refine x_ ?_
 refine m_ ?_
 refine f_ (s_len_str rfl) ?_
 refine f_ (s_conv_keep_u64 rfl (by omega)) ?_
 refine gl_callp rfl (DigitsR_ct _ (by omega)) (fun h hh hb => by first | trivial | (first | exact RdS.le (by assumption) hh | (obtain ⟨bs, hb⟩ := hb; exact Sat.rd hb (z_3))) | (refine ⟨?_, ?_⟩ <;> (first | exact RdS.le (by assumption) hh | (obtain ⟨bs, hb⟩ := hb; exact Sat.rd hb (z_3)))) | (refine ⟨?_, ?_, ?_⟩ <;> (first | exact RdS.le (by assumption) hh | (obtain ⟨bs, hb⟩ := hb; exact Sat.rd hb (z_3))))) rfl ?_
 refine f_ (s_add_str rfl rfl (by simp only [List.length_cons, List.length_append, List.length_nil]; omega)) ?_
 refine f_ (s_add_str rfl rfl (by simp only [List.length_cons, List.length_append, List.length_nil]; omega)) ?_
 refine m_ ?_
 refine f_ ((s_add_str rfl rfl (by simp only [List.length_cons, List.length_append, List.length_nil]; omega)).eq (v' := B (literalS s)) (by unfold literalS; simp)) ?_
 refine a_ ?_
 repeat refine n_ ?_
 refine g_ret ?_
 exact at_end1 rfl rfl [] ⟨rfl, rfl⟩ (fun _ h => h)
theorem FormR_ct (s : Bs) (hl : s.length ≤ big) : Pu Tryz.prog 46 [B s] (fun _ => True) (B (formS s)) := by
 have hl' := hl
 unfold big at hl
 obtain ⟨q1, hq1⟩ : ∃ q, q = atomS s := ⟨_, rfl⟩
 obtain ⟨q2, hq2⟩ : ∃ q, q = decide ((s.length : Int) ≤ 512) := ⟨_, rfl⟩
 obtain ⟨q3, hq3⟩ : ∃ q, q = decide (upS s = [78, 73, 76]) := ⟨_, rfl⟩
 have hf : formS s = if (q1 && (q2 && !q3)) = true then s else (quoteS s).getD (literalS s) := by
  unfold formS
  rw [hq1, hq2, hq3]
  by_cases a : atomS s = true <;> by_cases b : s.length ≤ 512 <;> by_cases c : upS s = [78, 73, 76] <;> simp [a, b, c]
  all_goals (intro h; omega)
 rw [hf]
 refine ct_enter 27 Tryz.func46 rfl rfl rfl ?_
 intro F _
 repeat refine x_ ?_
 refine a_ ?_
 repeat refine n_ ?_
 refine g_cutK [(0, B s), (16, .bool (q1 && (q2 && !q3)))] [] ?_ ?_
 ·cases q1 <;> cases q2
  all_goals (
   repeat refine x_ ?_
   refine m_ ?_
   refine gl_callp rfl (AtomR_ct s (by omega)) (fun _ _ _ => trivial) rfl ?_; rw [← hq1]
   refine m_ ?_
   (first | refine gl_guard_no rfl rfl rfl rfl rfl rfl rfl ?_ | (refine v_ ?_; refine m_ ?_))
   (first | refine gl_guard_no rfl rfl rfl rfl rfl rfl rfl ?_ | (refine v_ ?_; refine f_ (s_len_str rfl) ?_))
   (first | refine gl_guard_no rfl rfl rfl rfl rfl rfl rfl ?_ | (refine v_ ?_; refine f_ ((s_leq rfl rfl).eb hq2) ?_))
   refine f_ z_4 ?_
   refine m_ ?_
   (first | refine gl_guard_no rfl rfl rfl rfl rfl rfl rfl ?_ | (refine v_ ?_; refine m_ ?_))
   (first | refine gl_guard_no rfl rfl rfl rfl rfl rfl rfl ?_ | (refine v_ ?_; refine gl_callp rfl (UpperR_ct _ (by omega)) (fun h hh hb => by first | trivial | (first | exact RdS.le (by assumption) hh | (obtain ⟨bs, hb⟩ := hb; exact Sat.rd hb (z_3))) | (refine ⟨?_, ?_⟩ <;> (first | exact RdS.le (by assumption) hh | (obtain ⟨bs, hb⟩ := hb; exact Sat.rd hb (z_3)))) | (refine ⟨?_, ?_, ?_⟩ <;> (first | exact RdS.le (by assumption) hh | (obtain ⟨bs, hb⟩ := hb; exact Sat.rd hb (z_3))))) rfl ?_))
   (first | refine gl_guard_no rfl rfl rfl rfl rfl rfl rfl ?_ | (refine v_ ?_; refine f_ ((s_neq_str rfl rfl).eq (v' := .bool (!q3)) (by rw [hq3])) ?_))
   refine f_ z_4 ?_
   refine gl_nil ?_
   repeat refine y_ ?_)
  all_goals exact at_cut j_ i_
 ·repeat refine y_ ?_
  refine g_cond rfl (fun h => ?_) (fun h => ?_)
  ·rw [if_pos h]
   repeat refine x_ ?_
   refine m_ ?_
   refine a_ ?_
   repeat refine n_ ?_
   refine g_ret ?_
   exact at_end1 rfl rfl [] ⟨rfl, rfl⟩ (fun _ h => h)
  ·rw [if_neg (by rw [h]; simp)]
   repeat refine x_ ?_
   refine m_ ?_
   refine gl_callp rfl (QuoteR_ct _ (by omega)) (fun h hh hb => by first | trivial | (first | exact RdS.le (by assumption) hh | (obtain ⟨bs, hb⟩ := hb; exact Sat.rd hb (z_3))) | (refine ⟨?_, ?_⟩ <;> (first | exact RdS.le (by assumption) hh | (obtain ⟨bs, hb⟩ := hb; exact Sat.rd hb (z_3)))) | (refine ⟨?_, ?_, ?_⟩ <;> (first | exact RdS.le (by assumption) hh | (obtain ⟨bs, hb⟩ := hb; exact Sat.rd hb (z_3))))) rfl ?_
   refine m_ ?_
   refine f_ (s_extract rfl rfl) ?_
   refine f_ (s_extract rfl rfl) ?_
   refine a_ ?_
   refine a_ ?_
   repeat refine x_ ?_
   refine m_ ?_
   repeat refine n_ ?_
   refine g_cond rfl (fun h2 => ?_) (fun h2 => ?_)
   ·obtain ⟨b, hb⟩ := Option.isSome_iff_exists.mp h2
    rw [hb]
    repeat refine x_ ?_
    refine m_ ?_
    refine a_ ?_
    repeat refine n_ ?_
    refine g_ret ?_
    exact at_end1 rfl rfl [] ⟨rfl, rfl⟩ (fun _ h => h)
   ·have hb : quoteS s = none := by simpa using h2
    rw [hb]
    repeat refine x_ ?_
    refine m_ ?_
    refine gl_callp rfl (LiteralR_ct _ (by omega)) (fun h hh hb => by first | trivial | (first | exact RdS.le (by assumption) hh | (obtain ⟨bs, hb⟩ := hb; exact Sat.rd hb (z_3))) | (refine ⟨?_, ?_⟩ <;> (first | exact RdS.le (by assumption) hh | (obtain ⟨bs, hb⟩ := hb; exact Sat.rd hb (z_3)))) | (refine ⟨?_, ?_, ?_⟩ <;> (first | exact RdS.le (by assumption) hh | (obtain ⟨bs, hb⟩ := hb; exact Sat.rd hb (z_3))))) rfl ?_
    refine a_ ?_
    repeat refine n_ ?_
    refine g_ret ?_
    exact at_end1 rfl rfl [] ⟨rfl, rfl⟩ (fun _ h => h)
theorem head_get {s : Bs} (h : 1 ≤ s.length) : s.head? = some (s.getD 0 0) := by
 cases s with
 | nil => simp at h
 | cons a t => rfl
theorem last_get {s : Bs} (h : 1 ≤ s.length) : s.getLast? = some (s.getD (s.length - 1) 0) := by
 rw [List.getLast?_eq_getElem?, List.getD_eq_getElem?_getD, List.getElem?_eq_getElem (by omega)]
 rfl
theorem BoxR_ct (s : Bs) (hl : s.length ≤ big) : Pu Tryz.prog 83 [B s] (fun _ => True) (optV (boxN s)) := by
 unfold big at hl
 obtain ⟨q1, hq1⟩ : ∃ q, q = decide ((s.length : Int) < 1) := ⟨_, rfl⟩
 obtain ⟨q2, hq2⟩ : ∃ q, q = decide ((64 : Int) < (s.length : Nat)) := ⟨_, rfl⟩
 obtain ⟨q3, hq3⟩ : ∃ q, q = decide (s.getD 0 0 = 32) := ⟨_, rfl⟩
 obtain ⟨q4, hq4⟩ : ∃ q, q = decide (s.getD (s.length - 1) 0 = 32) := ⟨_, rfl⟩
 have hp : boxP s = (!(q1 || (q2 || (q3 || q4))) && s.all boxC) := by
  rw [hq1, hq2, hq3, hq4]
  unfold boxP
  by_cases h : s.length < 1
  ·have : s = [] := List.eq_nil_of_length_eq_zero (by omega)
   subst this
   rfl
  ·rw [head_get (by omega), last_get (by omega), Bool.eq_iff_iff]
   have hne : s.isEmpty = false := by
    cases s with
    | nil => simp at h
    | cons a t => rfl
   simp only [hne, Bool.not_false, Bool.true_and, Bool.and_eq_true, decide_eq_true_eq, Bool.not_eq_true', Bool.or_eq_false_iff, decide_eq_false_iff_not, ne_eq, Option.some.injEq]
   constructor
   ·rintro ⟨⟨⟨a, b⟩, c⟩, d⟩
    exact ⟨⟨by omega, by omega, c, d⟩, a⟩
   ·rintro ⟨⟨_, b, c, d⟩, a⟩
    exact ⟨⟨⟨a, by omega⟩, c⟩, d⟩
 refine ct_enter 52 Tryz.func83 rfl rfl rfl ?_
 intro F _
 repeat refine x_ ?_
 refine a_ ?_
 refine a_ ?_
 repeat refine n_ ?_
 refine g_cutK [(0, B s), (25, .bool (q1 || (q2 || (q3 || q4))))] [] ?_ ?_
 ·cases q1 <;> cases q2 <;> cases q3 <;> cases q4
  all_goals (
   repeat refine x_ ?_
   refine m_ ?_
   refine f_ (s_len_str rfl) ?_
   refine f_ ((s_lss rfl rfl).eb hq1) ?_
   refine m_ ?_
   (first | refine gl_guard_no rfl rfl rfl rfl rfl rfl rfl ?_ | (refine v_ ?_; refine m_ ?_))
   (first | refine gl_guard_no rfl rfl rfl rfl rfl rfl rfl ?_ | (refine v_ ?_; refine f_ (s_len_str rfl) ?_))
   (first | refine gl_guard_no rfl rfl rfl rfl rfl rfl rfl ?_ | (refine v_ ?_; refine f_ ((s_gtr rfl rfl).eb hq2) ?_))
   refine f_ z_4 ?_
   refine m_ ?_
   (first | refine gl_guard_no rfl rfl rfl rfl rfl rfl rfl ?_ | (refine v_ ?_; refine m_ ?_))
   (first | refine gl_guard_no rfl rfl rfl rfl rfl rfl rfl ?_ | (refine v_ ?_; refine f_ ((s_index_str rfl rfl (by simp at hq1; omega)).eq (v' := U8 (s.getD 0 0)) rfl) ?_))
   (first | refine gl_guard_no rfl rfl rfl rfl rfl rfl rfl ?_ | (refine v_ ?_; refine f_ ((s_eql rfl rfl).eq ((congrArg Value.bool (u8_eq (b := 32))).trans (congrArg Value.bool hq3.symm))) ?_))
   refine f_ z_4 ?_
   refine m_ ?_
   (first | refine gl_guard_no rfl rfl rfl rfl rfl rfl rfl ?_ | (refine v_ ?_; refine m_ ?_))
   (first | refine gl_guard_no rfl rfl rfl rfl rfl rfl rfl ?_ | (refine v_ ?_; refine m_ ?_))
   (first | refine gl_guard_no rfl rfl rfl rfl rfl rfl rfl ?_ | (refine v_ ?_; refine f_ (s_len_str rfl) ?_))
   (first | refine gl_guard_no rfl rfl rfl rfl rfl rfl rfl ?_ | (refine v_ ?_; refine f_ (s_sub_i64 rfl rfl (by simp at hq1; omega)) ?_))
   (first | refine gl_guard_no rfl rfl rfl rfl rfl rfl rfl ?_ | (refine v_ ?_; refine f_ ((s_index_str rfl rfl (by simp at hq1; omega)).eq (v' := U8 (s.getD (s.length - 1) 0)) (by rw [show ((s.length : Int) - 1).toNat = s.length - 1 by omega])) ?_))
   (first | refine gl_guard_no rfl rfl rfl rfl rfl rfl rfl ?_ | (refine v_ ?_; refine f_ ((s_eql rfl rfl).eq ((congrArg Value.bool (u8_eq (b := 32))).trans (congrArg Value.bool hq4.symm))) ?_))
   refine f_ z_4 ?_
   refine gl_nil ?_
   repeat refine y_ ?_)
  all_goals exact at_cut j_ i_
 ·repeat refine y_ ?_
  refine g_cond rfl (fun h => ?_) (fun h => ?_)
  ·have e : boxN s = none := by unfold boxN; rw [hp, h]; rfl
   rw [e]
   repeat refine x_ ?_
   refine a_ ?_
   refine a_ ?_
   repeat refine n_ ?_
   refine g_ret ?_
   exact at_end2 rfl rfl rfl [] ⟨rfl, rfl⟩ (fun _ h => h)
  ·rw [h, Bool.not_false, Bool.true_and] at hp
   repeat refine x_ ?_
   refine a_ ?_
   repeat refine n_ ?_
   refine g_loop (ι := Nat) (fun k => k ≤ s.length ∧ ∀ j, j < k → boxC (s.getD j 0) = true) (fun k => [(0, B s), (4, .int .i64 (k : Nat))]) (fun _ => []) (fun k => s.length - k) 0 ⟨by omega, fun j h => by omega⟩ ?_ ?_ ?_
   ·(repeat (first | exact Sub.nil _ | refine Sub.cons rfl ?_))
   ·intro w hw; exact hw
   ·rintro k ⟨hk, hno⟩
    repeat refine x_ ?_
    refine m_ ?_
    refine m_ ?_
    refine f_ (s_len_str rfl) ?_
    refine f_ (s_lss rfl rfl) ?_
    repeat refine n_ ?_
    refine g_cond rfl (fun h => ?_) (fun h => ?_)
    ·have hk' : k < s.length := by simp at h; omega
     obtain ⟨p1, hp1⟩ : ∃ q, q = decide (((s.getD k 0).toNat : Int) < 32) := ⟨_, rfl⟩
     obtain ⟨p2, hp2⟩ : ∃ q, q = decide ((126 : Int) < ((s.getD k 0).toNat : Nat)) := ⟨_, rfl⟩
     obtain ⟨p3, hp3⟩ : ∃ q, q = ([37, 42, 34, 92] : Bs).contains (s.getD k 0) := ⟨_, rfl⟩
     have hb : boxC (s.getD k 0) = !(p1 || (p2 || p3)) := by
      unfold boxC
      rw [← hp3, hp1, hp2]
      rw [Bool.eq_iff_iff]
      simp only [Bool.and_eq_true, Bool.not_eq_true', Bool.or_eq_false_iff, decide_eq_true_eq, decide_eq_false_iff_not]
      constructor
      ·rintro ⟨⟨a, b⟩, c⟩; exact ⟨by omega, by omega, c⟩
      ·rintro ⟨a, b, c⟩; exact ⟨⟨by omega, by omega⟩, c⟩
     repeat refine y_ ?_
     refine g_cutK [(0, B s), (4, .int .i64 (k : Nat)), (47, .bool (p1 || (p2 || p3)))] [] ?_ ?_
     ·cases p1 <;> cases p2
      all_goals (
       repeat refine x_ ?_
       refine m_ ?_
       refine m_ ?_
       refine f_ ((s_index_str rfl rfl (by omega)).eq (v' := U8 (s.getD k 0)) (by simp only [Int.toNat_natCast])) ?_
       refine f_ ((s_lss rfl rfl).eb hp1) ?_
       refine m_ ?_
       (first | refine gl_guard_no rfl rfl rfl rfl rfl rfl rfl ?_ | (refine v_ ?_; refine m_ ?_))
       (first | refine gl_guard_no rfl rfl rfl rfl rfl rfl rfl ?_ | (refine v_ ?_; refine m_ ?_))
       (first | refine gl_guard_no rfl rfl rfl rfl rfl rfl rfl ?_ | (refine v_ ?_; refine f_ ((s_index_str rfl rfl (by omega)).eq (v' := U8 (s.getD k 0)) (by simp only [Int.toNat_natCast])) ?_))
       (first | refine gl_guard_no rfl rfl rfl rfl rfl rfl rfl ?_ | (refine v_ ?_; refine f_ ((s_gtr rfl rfl).eb hp2) ?_))
       refine f_ z_4 ?_
       refine m_ ?_
       (first | refine gl_guard_no rfl rfl rfl rfl rfl rfl rfl ?_ | (refine v_ ?_; refine m_ ?_))
       (first | refine gl_guard_no rfl rfl rfl rfl rfl rfl rfl ?_ | (refine v_ ?_; refine m_ ?_))
       (first | refine gl_guard_no rfl rfl rfl rfl rfl rfl rfl ?_ | (refine v_ ?_; refine f_ ((s_index_str rfl rfl (by omega)).eq (v' := U8 (s.getD k 0)) (by simp only [Int.toNat_natCast])) ?_))
       (first | refine gl_guard_no rfl rfl rfl rfl rfl rfl rfl ?_ | (refine v_ ?_; refine gl_callp rfl (In_ct (s.getD k 0) [37, 42, 34, 92] (by decide)) (fun _ _ _ => trivial) rfl ?_; rw [← hp3]))
       refine f_ z_4 ?_
       refine gl_nil ?_
       repeat refine y_ ?_)
      all_goals exact at_cut j_ i_
     ·repeat refine y_ ?_
      refine g_cond rfl (fun h2 => ?_) (fun h2 => ?_)
      ·have e : boxN s = none := by unfold boxN; rw [hp, all_no hk' (by rw [hb, h2]; rfl)]; rfl
       rw [e]
       repeat refine x_ ?_
       refine a_ ?_
       refine a_ ?_
       repeat refine n_ ?_
       refine g_ret ?_
       exact at_end2 rfl rfl rfl [] ⟨rfl, rfl⟩ (fun _ h => h)
      ·repeat refine y_ ?_
       repeat refine x_ ?_
       refine m_ ?_
       refine f_ (s_add_i64 rfl rfl (by omega)) ?_
       refine a_ ?_
       repeat refine n_ ?_
       refine at_next (k + 1) ⟨by omega, fun j hj => ?_⟩ (by omega) ?_ ?_
       ·rcases Nat.lt_succ_iff_lt_or_eq.1 hj with h4 | rfl
        ·exact hno j h4
        ·rw [hb, h2]; rfl
       ·(repeat (first | exact Sub.nil _ | refine Sub.cons rfl ?_))
       ·intro w hw; exact hw
    ·have hkl : k = s.length := by simp at h; omega
     subst hkl
     rw [all_yes hno] at hp
     repeat refine x_ ?_
     refine m_ ?_
     refine gl_callp rfl (UpperR_ct _ (by omega)) (fun h hh hb => by first | trivial | (first | exact RdS.le (by assumption) hh | (obtain ⟨bs, hb⟩ := hb; exact Sat.rd hb (z_3))) | (refine ⟨?_, ?_⟩ <;> (first | exact RdS.le (by assumption) hh | (obtain ⟨bs, hb⟩ := hb; exact Sat.rd hb (z_3)))) | (refine ⟨?_, ?_, ?_⟩ <;> (first | exact RdS.le (by assumption) hh | (obtain ⟨bs, hb⟩ := hb; exact Sat.rd hb (z_3))))) rfl ?_
     refine f_ (s_eql_str rfl rfl) ?_
     repeat refine n_ ?_
     refine g_cond rfl (fun h2 => ?_) (fun h2 => ?_)
     ·have e : boxN s = some inbox := by unfold boxN; rw [if_pos hp, if_pos (of_decide_eq_true h2)]
      rw [e]
      repeat refine x_ ?_
      refine a_ ?_
      refine a_ ?_
      repeat refine n_ ?_
      refine g_ret ?_
      exact at_end2 rfl rfl rfl [] ⟨rfl, rfl⟩ (fun _ h => h)
     ·have e : boxN s = some s := by unfold boxN; rw [if_pos hp, if_neg (of_decide_eq_false h2)]
      rw [e]
      repeat refine x_ ?_
      refine m_ ?_
      refine a_ ?_
      refine a_ ?_
      repeat refine n_ ?_
      refine g_ret ?_
      exact at_end2 rfl rfl rfl [] ⟨rfl, rfl⟩ (fun _ h => h)
end Go.Proofs.YtgllpcggdcknaaaGreatDoor.Rp
namespace Go.Proofs.YtgllpcggdcknaaaGreatDoor.Rp
open Go Go.Sl
abbrev unqV (o : Option (Bs × Nat)) : Value := .tuple #[B (o.getD ([], 0)).1, .int .i64 ((o.getD ([], 0)).2 : Nat), .bool o.isSome]
theorem drop_get {s : Bs} {k : Nat} (hk : k < s.length) : s.drop k = s.getD k 0 :: s.drop (k + 1) := by
 rw [List.drop_eq_getElem_cons hk, List.getD_eq_getElem?_getD, List.getElem?_eq_getElem hk]
 rfl
theorem UnquoteR_ct (s : Bs) (hl : s.length ≤ big) : Pu Tryz.prog 95 [B s] (fun _ => True) (unqV (uqS s)) := by
 unfold big at hl
 refine ct_enter 69 Tryz.func95 rfl rfl rfl ?_
 intro F _
 repeat refine x_ ?_
 refine a_ ?_
 refine a_ ?_
 refine a_ ?_
 repeat refine n_ ?_
 by_cases hA : s.length < 2 ∨ s.getD 0 0 ≠ 34
 ·have e : uqS s = none := by
   cases s with
   | nil => rfl
   | cons c t =>
    rcases hA with h | h
    ·have : t = [] := List.eq_nil_of_length_eq_zero (by simp at h; omega)
     subst this
     unfold uqS
     simp only
     split <;> rfl
    ·unfold uqS
     simp only
     rw [if_neg (by simpa using h)]
  rw [e]
  obtain ⟨q1, hq1⟩ : ∃ q, q = decide ((s.length : Int) < 2) := ⟨_, rfl⟩
  cases q1 with
  | true =>
   repeat refine x_ ?_
   refine m_ ?_
   refine f_ (s_len_str rfl) ?_
   refine f_ ((s_lss rfl rfl).eb hq1) ?_
   refine m_ ?_
   (refine gl_guard_no rfl rfl rfl rfl rfl rfl rfl ?_)
   (refine gl_guard_no rfl rfl rfl rfl rfl rfl rfl ?_)
   (refine gl_guard_no rfl rfl rfl rfl rfl rfl rfl ?_)
   refine f_ z_9 ?_
   repeat refine x_ ?_
   refine a_ ?_
   refine a_ ?_
   refine a_ ?_
   repeat refine n_ ?_
   refine g_ret ?_
   exact at_end3 rfl rfl rfl rfl [] ⟨rfl, rfl⟩ (fun _ h => h)
  | false =>
   have h2 : ¬s.length < 2 := by have := of_decide_eq_false hq1.symm; omega
   have h3 : s.getD 0 0 ≠ 34 := by
    rcases hA with h | h
    ·exact absurd h h2
    ·exact h
   repeat refine x_ ?_
   refine m_ ?_
   refine f_ (s_len_str rfl) ?_
   refine f_ ((s_lss rfl rfl).eb hq1) ?_
   refine m_ ?_
   (refine v_ ?_; refine m_ ?_)
   (refine v_ ?_; refine f_ ((s_index_str rfl rfl (by omega)).eq (v' := U8 (s.getD 0 0)) rfl) ?_)
   (refine v_ ?_; refine f_ ((s_neq rfl rfl).eq (v' := .bool true) (by rw [show decide (((s.getD 0 0).toNat : Int) = 34) = false from (u8_eq (b := 34)).trans (decide_eq_false h3)]; rfl)) ?_)
   refine f_ (by exact s_pick_f rfl rfl) ?_
   repeat refine x_ ?_
   refine a_ ?_
   refine a_ ?_
   refine a_ ?_
   repeat refine n_ ?_
   refine g_ret ?_
   exact at_end3 rfl rfl rfl rfl [] ⟨rfl, rfl⟩ (fun _ h => h)
 ·have h1 : 2 ≤ s.length := by omega
  have h2 : s.getD 0 0 = 34 := Classical.byContradiction fun h => hA (.inr h)
  have e0 : uqS s = uqL [] 1 (s.drop 1) := by
   cases s with
   | nil => simp at h1
   | cons c t =>
    unfold uqS
    simp only
    rw [if_pos (by simpa using h2)]
    rfl
  repeat refine x_ ?_
  refine m_ ?_
  refine f_ (s_len_str rfl) ?_
  refine f_ ((s_lss rfl rfl).eq (v' := .bool false) (by simp; omega)) ?_
  refine m_ ?_
  (refine v_ ?_; refine m_ ?_)
  (refine v_ ?_; refine f_ ((s_index_str rfl rfl (by omega)).eq (v' := .int .u8 34) (by simp only [Int.toNat_zero]; rw [h2]; rfl)) ?_)
  (refine v_ ?_; refine f_ (s_neq rfl rfl) ?_)
  refine f_ (by exact s_pick_f rfl rfl) ?_
  repeat refine x_ ?_
  refine a_ ?_
  repeat refine x_ ?_
  refine a_ ?_
  repeat refine n_ ?_
  refine g_loop (ι := Nat × Bs) (fun i => i.1 ≤ s.length ∧ i.2.length ≤ 513 ∧ uqS s = uqL i.2 i.1 (s.drop i.1)) (fun i => [(0, B s), (5, B i.2), (6, .int .i64 (i.1 : Nat))]) (fun _ => []) (fun i => s.length - i.1) (1, []) ⟨by simp only; omega, by simp, e0⟩ ?_ ?_ ?_
  ·(repeat (first | exact Sub.nil _ | refine Sub.cons rfl ?_))
  ·intro w hw; exact hw
  ·rintro ⟨k, b⟩ ⟨hk, hb, he⟩
   simp only at hk hb he
   repeat refine x_ ?_
   refine m_ ?_
   refine m_ ?_
   refine f_ (s_len_str rfl) ?_
   refine f_ (s_lss rfl rfl) ?_
   repeat refine n_ ?_
   refine g_cond rfl (fun h => ?_) (fun h => ?_)
   ·have hk' : k < s.length := by simp at h; omega
    rw [drop_get hk', uqL_cons] at he
    repeat refine x_ ?_
    refine m_ ?_
    refine m_ ?_
    refine f_ ((s_index_str rfl rfl (by omega)).eq (v' := U8 (s.getD k 0)) (by simp only [Int.toNat_natCast])) ?_
    refine a_ ?_
    repeat refine x_ ?_
    refine m_ ?_
    refine f_ ((s_eql rfl rfl).eq (v' := .bool (decide (s.getD k 0 = 34))) (congrArg Value.bool (u8_eq (b := 34)))) ?_
    repeat refine n_ ?_
    refine g_cond rfl (fun h3 => ?_) (fun h3 => ?_)
    ·have h3 := of_decide_eq_true h3
     repeat refine x_ ?_
     refine m_ ?_
     refine f_ (s_len_str rfl) ?_
     refine f_ (s_gtr rfl rfl) ?_
     repeat refine n_ ?_
     refine g_cond rfl (fun h4 => ?_) (fun h4 => ?_)
     ·have : 512 < b.length := by simp at h4; omega
      rw [he, if_pos this]
      repeat refine x_ ?_
      refine a_ ?_
      refine a_ ?_
      refine a_ ?_
      repeat refine n_ ?_
      refine g_ret ?_
      exact at_end3 rfl rfl rfl rfl [] ⟨rfl, rfl⟩ (fun _ h => h)
     ·have : ¬512 < b.length := by simp at h4; omega
      rw [he, if_neg this, if_pos h3]
      repeat refine x_ ?_
      refine m_ ?_
      refine m_ ?_
      refine f_ (s_add_i64 rfl rfl (by omega)) ?_
      refine a_ ?_
      refine a_ ?_
      refine a_ ?_
      repeat refine n_ ?_
      refine g_ret ?_
      exact at_end3 rfl rfl rfl rfl [] ⟨rfl, rfl⟩ (fun _ h => h)
    ·have h3 := of_decide_eq_false h3
     repeat refine x_ ?_
     refine m_ ?_
     refine f_ ((s_eql rfl rfl).eq (v' := .bool (decide (s.getD k 0 = 92))) (congrArg Value.bool (u8_eq (b := 92)))) ?_
     repeat refine n_ ?_
     refine g_cond rfl (fun h4 => ?_) (fun h4 => ?_)
     ·have h4 := of_decide_eq_true h4
      repeat refine x_ ?_
      refine m_ ?_
      refine f_ (s_add_i64 rfl rfl (by omega)) ?_
      refine a_ ?_
      repeat refine n_ ?_
      by_cases hk2 : k + 1 < s.length
      ·obtain ⟨q1, hq1⟩ : ∃ q, q = decide (s.getD (k + 1) 0 = 34) := ⟨_, rfl⟩
       obtain ⟨q2, hq2⟩ : ∃ q, q = decide (s.getD (k + 1) 0 = 92) := ⟨_, rfl⟩
       repeat refine y_ ?_
       refine g_cutK [(0, B s), (5, B b), (6, .int .i64 ((k : Int) + 1)), (50, .bool (!q1 && !q2))] [] ?_ ?_
       ·cases q1 <;> cases q2
        all_goals (
         repeat refine x_ ?_
         refine m_ ?_
         refine m_ ?_
         refine f_ (s_len_str rfl) ?_
         refine f_ ((s_geq rfl rfl).eq (v' := .bool false) (by simp; omega)) ?_
         refine m_ ?_
         (refine v_ ?_; refine m_ ?_)
         (refine v_ ?_; refine m_ ?_)
         (refine v_ ?_; refine f_ ((s_index_str rfl rfl (by omega)).eq (v' := U8 (s.getD (k + 1) 0)) (by rw [show ((k : Int) + 1).toNat = k + 1 by omega])) ?_)
         (refine v_ ?_; refine f_ ((s_neq rfl rfl).eq ((congrArg (fun b => Value.bool (!b)) ((u8_eq (b := 34)).trans hq1.symm)))) ?_)
         (refine v_ ?_; refine m_ ?_)
         (first | refine gl_guard_no rfl rfl rfl rfl rfl rfl rfl ?_ | (refine v_ ?_; refine m_ ?_))
         (first | refine gl_guard_no rfl rfl rfl rfl rfl rfl rfl ?_ | (refine v_ ?_; refine m_ ?_))
         (first | refine gl_guard_no rfl rfl rfl rfl rfl rfl rfl ?_ | (refine v_ ?_; refine f_ ((s_index_str rfl rfl (by omega)).eq (v' := U8 (s.getD (k + 1) 0)) (by rw [show ((k : Int) + 1).toNat = k + 1 by omega])) ?_))
         (first | refine gl_guard_no rfl rfl rfl rfl rfl rfl rfl ?_ | (refine v_ ?_; refine f_ ((s_neq rfl rfl).eq ((congrArg (fun b => Value.bool (!b)) ((u8_eq (b := 92)).trans hq2.symm)))) ?_))
         (refine v_ ?_; refine f_ z_4 ?_)
         refine f_ (by exact s_pick_f rfl rfl) ?_
         refine gl_nil ?_
         repeat refine y_ ?_)
        all_goals exact at_cut j_ i_
       ·rw [if_neg h3, if_pos h4, drop_get hk2] at he
        repeat refine y_ ?_
        refine g_cond rfl (fun h5 => ?_) (fun h5 => ?_)
        ·have hn : ¬(s.getD (k + 1) 0 = 34 ∨ s.getD (k + 1) 0 = 92) := by
          simp only [Bool.and_eq_true, Bool.not_eq_true'] at h5
          rw [h5.1] at hq1
          rw [h5.2] at hq2
          rintro (a | a)
          ·exact of_decide_eq_false hq1.symm a
          ·exact of_decide_eq_false hq2.symm a
         have : uqS s = none := by
          rw [he]
          split
          ·rfl
          ·simp only
           rw [if_neg hn]
         rw [this]
         repeat refine x_ ?_
         refine a_ ?_
         refine a_ ?_
         refine a_ ?_
         repeat refine n_ ?_
         refine g_ret ?_
         exact at_end3 rfl rfl rfl rfl [] ⟨rfl, rfl⟩ (fun _ h => h)
        ·have hn : s.getD (k + 1) 0 = 34 ∨ s.getD (k + 1) 0 = 92 := by
          cases q1 with
          | true => exact .inl (of_decide_eq_true hq1.symm)
          | false =>
           cases q2 with
           | true => exact .inr (of_decide_eq_true hq2.symm)
           | false => cases h5
         have hqq : quotable (s.getD (k + 1) 0) = true := by rcases hn with a | a <;> rw [a] <;> rfl
         simp only [if_pos hn] at he
         repeat refine x_ ?_
         refine m_ ?_
         refine m_ ?_
         refine f_ ((s_index_str rfl rfl (by omega)).eq (v' := U8 (s.getD (k + 1) 0)) (by rw [show ((k : Int) + 1).toNat = k + 1 by omega])) ?_
         refine a_ ?_
         repeat refine x_ ?_
         refine m_ ?_
         refine gl_callp rfl (quotableR_ct (s.getD (k + 1) 0)) (fun _ _ _ => trivial) rfl ?_; rw [hqq]
         refine f_ (s_not rfl) ?_
         refine m_ ?_
         (refine v_ ?_; refine m_ ?_)
         (refine v_ ?_; refine f_ (s_len_str rfl) ?_)
         (refine v_ ?_; refine f_ (s_gtr rfl rfl) ?_)
         refine f_ (by exact s_pick_f rfl rfl) ?_
         repeat refine n_ ?_
         refine g_cond rfl (fun h6 => ?_) (fun h6 => ?_)
         ·have : 512 < b.length := by simp at h6; omega
          rw [he, if_pos this]
          repeat refine x_ ?_
          refine a_ ?_
          refine a_ ?_
          refine a_ ?_
          repeat refine n_ ?_
          refine g_ret ?_
          exact at_end3 rfl rfl rfl rfl [] ⟨rfl, rfl⟩ (fun _ h => h)
         ·have hb2 : ¬512 < b.length := by simp at h6; omega
          rw [if_neg hb2] at he
          repeat refine x_ ?_
          refine m_ ?_
          refine m_ ?_
          refine gl_buildSliceU rfl rfl rfl rfl rfl rfl (xs := bytesV [s.getD (k + 1) 0]) rfl rfl ?_; intro a64 ha64
          refine r_ (s_string (l := [s.getD (k + 1) 0]) rfl rfl (fun w hw => (hw.ownN z_3).2.2.1)) ?_
          refine f_ (s_add_str rfl rfl (by simp; omega)) ?_
          refine a_ ?_
          repeat refine x_ ?_
          refine m_ ?_
          refine f_ (s_add_i64 rfl rfl (by omega)) ?_
          refine a_ ?_
          repeat refine n_ ?_
          refine at_next (k + 2, b ++ [s.getD (k + 1) 0]) ⟨by simp only; omega, by simp; omega, he⟩ (by simp only; omega) ?_ ?_
          ·(repeat (first | exact Sub.nil _ | refine Sub.cons rfl ?_))
          ·intro w hw; exact hw.dropAll
      ·have : uqS s = none := by
        rw [he, if_neg h3, if_pos h4, List.drop_of_length_le (by omega)]
        split <;> rfl
       rw [this]
       repeat refine x_ ?_
       refine m_ ?_
       refine m_ ?_
       refine f_ (s_len_str rfl) ?_
       refine f_ ((s_geq rfl rfl).eq (v' := .bool true) (by simp; omega)) ?_
       refine m_ ?_
       (refine gl_guard_no rfl rfl rfl rfl rfl rfl rfl ?_)
       (refine gl_guard_no rfl rfl rfl rfl rfl rfl rfl ?_)
       (refine gl_guard_no rfl rfl rfl rfl rfl rfl rfl ?_)
       (refine gl_guard_no rfl rfl rfl rfl rfl rfl rfl ?_)
       (refine gl_guard_no rfl rfl rfl rfl rfl rfl rfl ?_)
       (refine gl_guard_un rfl rfl rfl rfl rfl rfl ?_)
       (refine gl_guard_un rfl rfl rfl rfl rfl rfl ?_)
       (refine gl_guard_un rfl rfl rfl rfl rfl rfl ?_)
       (refine gl_guard_un rfl rfl rfl rfl rfl rfl ?_)
       (refine gl_guard_no rfl rfl rfl rfl rfl rfl rfl ?_)
       refine f_ z_9 ?_
       repeat refine x_ ?_
       refine a_ ?_
       refine a_ ?_
       refine a_ ?_
       repeat refine n_ ?_
       refine g_ret ?_
       exact at_end3 rfl rfl rfl rfl [] ⟨rfl, rfl⟩ (fun _ h => h)
     ·have h4 := of_decide_eq_false h4
      rw [if_neg h3, if_neg h4] at he
      obtain ⟨q1, hq1⟩ : ∃ q, q = quotable (s.getD k 0) := ⟨_, rfl⟩
      obtain ⟨q2, hq2⟩ : ∃ q, q = decide ((512 : Int) < (b.length : Nat)) := ⟨_, rfl⟩
      repeat refine y_ ?_
      refine g_cutK [(0, B s), (5, B b), (6, .int .i64 (k : Nat)), (7, U8 (s.getD k 0)), (61, .bool (!q1 || q2))] [] ?_ ?_
      ·cases q1 <;> cases q2
       all_goals (
        repeat refine x_ ?_
        refine m_ ?_
        refine gl_callp rfl (quotableR_ct (s.getD k 0)) (fun _ _ _ => trivial) rfl ?_; rw [← hq1]
        refine f_ (s_not rfl) ?_
        refine m_ ?_
        (first | refine gl_guard_no rfl rfl rfl rfl rfl rfl rfl ?_ | (refine v_ ?_; refine m_ ?_))
        (first | refine gl_guard_no rfl rfl rfl rfl rfl rfl rfl ?_ | (refine v_ ?_; refine f_ (s_len_str rfl) ?_))
        (first | refine gl_guard_no rfl rfl rfl rfl rfl rfl rfl ?_ | (refine v_ ?_; refine f_ ((s_gtr rfl rfl).eb hq2) ?_))
        refine f_ z_4 ?_
        refine gl_nil ?_
        repeat refine y_ ?_)
       all_goals exact at_cut j_ i_
      ·repeat refine y_ ?_
       refine g_cond rfl (fun h6 => ?_) (fun h6 => ?_)
       ·have : uqS s = none := by
         rw [he]
         cases q1 with
         | false =>
          split
          ·rfl
          ·rw [if_neg (by rw [← hq1]; simp)]
         | true =>
          cases q2 with
          | false => cases h6
          | true => rw [if_pos (by have := of_decide_eq_true hq2.symm; omega)]
        rw [this]
        repeat refine x_ ?_
        refine a_ ?_
        refine a_ ?_
        refine a_ ?_
        repeat refine n_ ?_
        refine g_ret ?_
        exact at_end3 rfl rfl rfl rfl [] ⟨rfl, rfl⟩ (fun _ h => h)
       ·have hq1' : quotable (s.getD k 0) = true := by
         cases q1 with
         | false => cases h6
         | true => exact hq1.symm
        have hb2 : ¬512 < b.length := by
         cases q2 with
         | false => have := of_decide_eq_false hq2.symm; omega
         | true => rw [Bool.or_true] at h6; cases h6
        rw [if_neg hb2, if_pos hq1'] at he
        repeat refine x_ ?_
        refine m_ ?_
        refine m_ ?_
        refine gl_buildSliceU rfl rfl rfl rfl rfl rfl (xs := bytesV [s.getD k 0]) rfl rfl ?_; intro a64 ha64
        refine r_ (s_string (l := [s.getD k 0]) rfl rfl (fun w hw => (hw.ownN z_3).2.2.1)) ?_
        refine f_ (s_add_str rfl rfl (by simp; omega)) ?_
        refine a_ ?_
        repeat refine x_ ?_
        refine m_ ?_
        refine f_ (s_add_i64 rfl rfl (by omega)) ?_
        refine a_ ?_
        repeat refine n_ ?_
        refine at_next (k + 1, b ++ [s.getD k 0]) ⟨by simp only; omega, by simp; omega, he⟩ (by simp only; omega) ?_ ?_
        ·(repeat (first | exact Sub.nil _ | refine Sub.cons rfl ?_))
        ·intro w hw; exact hw.dropAll
   ·have hkl : k = s.length := by simp at h; omega
    have : uqS s = none := by rw [he, hkl, List.drop_length]; rfl
    rw [this]
    repeat refine x_ ?_
    refine a_ ?_
    refine a_ ?_
    refine a_ ?_
    repeat refine n_ ?_
    refine g_ret ?_
    exact at_end3 rfl rfl rfl rfl [] ⟨rfl, rfl⟩ (fun _ h => h)
end Go.Proofs.YtgllpcggdcknaaaGreatDoor.Rp
