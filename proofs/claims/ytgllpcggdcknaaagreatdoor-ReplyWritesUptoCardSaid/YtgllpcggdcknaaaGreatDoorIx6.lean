import Derived.Test.YtgllpcggdcknaaaGreatDoorIx5
set_option linter.unusedVariables false
set_option linter.unusedSimpArgs false
namespace Go.Proofs.YtgllpcggdcknaaaGreatDoor.Rp
open Go Go.Sl
abbrev big : Nat := 1000000000000
theorem LiteralR_ct (s : Bs) (hl : s.length ≤ big) : Pu Tryz.prog 82 [B s] (fun _ => True) (B (literalS s)) := by
 have hd := digS_len64 (n := s.length) (by unfold big at hl; omega)
 unfold big at hl
 refine ct_enter 11 Tryz.func82 rfl rfl rfl ?_
 intro F _
 repeat refine x_ ?_
 refine a_ ?_
 repeat refine x_ ?_
 refine m_ ?_
 refine f_ (s_len_str rfl) ?_
 refine f_ (s_conv_keep_u64 rfl (by omega)) ?_
 refine gl_callp rfl (DigitsR_ct _ (by omega)) (fun h hh hb => by first | trivial | (first | exact RdS.le (by assumption) hh | (obtain ⟨bs, hb⟩ := hb; exact Sat.rd hb (z_2))) | (refine ⟨?_, ?_⟩ <;> (first | exact RdS.le (by assumption) hh | (obtain ⟨bs, hb⟩ := hb; exact Sat.rd hb (z_2)))) | (refine ⟨?_, ?_, ?_⟩ <;> (first | exact RdS.le (by assumption) hh | (obtain ⟨bs, hb⟩ := hb; exact Sat.rd hb (z_2))))) rfl ?_
 refine f_ (s_add_str rfl rfl (by simp only [List.length_cons, List.length_append, List.length_nil]; omega)) ?_
 refine f_ (s_add_str rfl rfl (by simp only [List.length_cons, List.length_append, List.length_nil]; omega)) ?_
 refine m_ ?_
 refine f_ ((s_add_str rfl rfl (by simp only [List.length_cons, List.length_append, List.length_nil]; omega)).eq (v' := B (literalS s)) (by unfold literalS; simp)) ?_
 refine a_ ?_
 repeat refine n_ ?_
 refine g_ret ?_
 exact at_end1 rfl rfl [] ⟨rfl, rfl⟩ (fun _ h => h)
theorem FormR_ct (s : Bs) (hl : s.length ≤ big) : Pu Tryz.prog 46 [B s] (fun _ => True) (B (formS s)) := by
 have hl' := hl
 unfold big at hl
 obtain ⟨q1, hq1⟩ : ∃ q, q = atomS s := ⟨_, rfl⟩
 obtain ⟨q2, hq2⟩ : ∃ q, q = decide ((s.length : Int) ≤ 512) := ⟨_, rfl⟩
 obtain ⟨q3, hq3⟩ : ∃ q, q = decide (upS s = [78, 73, 76]) := ⟨_, rfl⟩
 have hf : formS s = if (q1 && (q2 && !q3)) = true then s else (quoteS s).getD (literalS s) := by
  unfold formS
  rw [hq1, hq2, hq3]
  by_cases a : atomS s = true <;> by_cases b : s.length ≤ 512 <;> by_cases c : upS s = [78, 73, 76] <;> simp [a, b, c]
  all_goals (intro h; omega)
 rw [hf]
 refine ct_enter 27 Tryz.func46 rfl rfl rfl ?_
 intro F _
 repeat refine x_ ?_
 refine a_ ?_
 repeat refine n_ ?_
 refine g_cutK [(0, B s), (16, .bool (q1 && (q2 && !q3)))] [] ?_ ?_
 ·cases q1 <;> cases q2
  all_goals (
   repeat refine x_ ?_
   refine m_ ?_
   refine gl_callp rfl (AtomR_ct s (by omega)) (fun _ _ _ => trivial) rfl ?_; rw [← hq1]
   refine m_ ?_
   (first | refine gl_guard_no rfl rfl rfl rfl rfl rfl rfl ?_ | (refine v_ ?_; refine m_ ?_))
   (first | refine gl_guard_no rfl rfl rfl rfl rfl rfl rfl ?_ | (refine v_ ?_; refine f_ (s_len_str rfl) ?_))
   (first | refine gl_guard_no rfl rfl rfl rfl rfl rfl rfl ?_ | (refine v_ ?_; refine f_ ((s_leq rfl rfl).eb hq2) ?_))
   refine f_ z_4 ?_
   refine m_ ?_
   (first | refine gl_guard_no rfl rfl rfl rfl rfl rfl rfl ?_ | (refine v_ ?_; refine m_ ?_))
   (first | refine gl_guard_no rfl rfl rfl rfl rfl rfl rfl ?_ | (refine v_ ?_; refine gl_callp rfl (UpperR_ct _ (by omega)) (fun h hh hb => by first | trivial | (first | exact RdS.le (by assumption) hh | (obtain ⟨bs, hb⟩ := hb; exact Sat.rd hb (z_2))) | (refine ⟨?_, ?_⟩ <;> (first | exact RdS.le (by assumption) hh | (obtain ⟨bs, hb⟩ := hb; exact Sat.rd hb (z_2)))) | (refine ⟨?_, ?_, ?_⟩ <;> (first | exact RdS.le (by assumption) hh | (obtain ⟨bs, hb⟩ := hb; exact Sat.rd hb (z_2))))) rfl ?_))
   (first | refine gl_guard_no rfl rfl rfl rfl rfl rfl rfl ?_ | (refine v_ ?_; refine f_ ((s_neq_str rfl rfl).eq (v' := .bool (!q3)) (by rw [hq3])) ?_))
   refine f_ z_4 ?_
   refine gl_nil ?_
   repeat refine y_ ?_)
  all_goals exact at_cut j_ i_
 ·repeat refine y_ ?_
  refine g_cond rfl (fun h => ?_) (fun h => ?_)
  ·rw [if_pos h]
   repeat refine x_ ?_
   refine m_ ?_
   refine a_ ?_
   repeat refine n_ ?_
   refine g_ret ?_
   exact at_end1 rfl rfl [] ⟨rfl, rfl⟩ (fun _ h => h)
  ·rw [if_neg (by rw [h]; simp)]
   repeat refine x_ ?_
   refine m_ ?_
   refine gl_callp rfl (QuoteR_ct _ (by omega)) (fun h hh hb => by first | trivial | (first | exact RdS.le (by assumption) hh | (obtain ⟨bs, hb⟩ := hb; exact Sat.rd hb (z_2))) | (refine ⟨?_, ?_⟩ <;> (first | exact RdS.le (by assumption) hh | (obtain ⟨bs, hb⟩ := hb; exact Sat.rd hb (z_2)))) | (refine ⟨?_, ?_, ?_⟩ <;> (first | exact RdS.le (by assumption) hh | (obtain ⟨bs, hb⟩ := hb; exact Sat.rd hb (z_2))))) rfl ?_
   refine m_ ?_
   refine f_ (s_extract rfl rfl) ?_
   refine f_ (s_extract rfl rfl) ?_
   refine a_ ?_
   refine a_ ?_
   repeat refine x_ ?_
   refine m_ ?_
   repeat refine n_ ?_
   refine g_cond rfl (fun h2 => ?_) (fun h2 => ?_)
   ·obtain ⟨b, hb⟩ := Option.isSome_iff_exists.mp h2
    rw [hb]
    repeat refine x_ ?_
    refine m_ ?_
    refine a_ ?_
    repeat refine n_ ?_
    refine g_ret ?_
    exact at_end1 rfl rfl [] ⟨rfl, rfl⟩ (fun _ h => h)
   ·have hb : quoteS s = none := by simpa using h2
    rw [hb]
    repeat refine x_ ?_
    refine m_ ?_
    refine gl_callp rfl (LiteralR_ct _ (by omega)) (fun h hh hb => by first | trivial | (first | exact RdS.le (by assumption) hh | (obtain ⟨bs, hb⟩ := hb; exact Sat.rd hb (z_2))) | (refine ⟨?_, ?_⟩ <;> (first | exact RdS.le (by assumption) hh | (obtain ⟨bs, hb⟩ := hb; exact Sat.rd hb (z_2)))) | (refine ⟨?_, ?_, ?_⟩ <;> (first | exact RdS.le (by assumption) hh | (obtain ⟨bs, hb⟩ := hb; exact Sat.rd hb (z_2))))) rfl ?_
    refine a_ ?_
    repeat refine n_ ?_
    refine g_ret ?_
    exact at_end1 rfl rfl [] ⟨rfl, rfl⟩ (fun _ h => h)
theorem head_get {s : Bs} (h : 1 ≤ s.length) : s.head? = some (s.getD 0 0) := by
 cases s with
 | nil => simp at h
 | cons a t => rfl
theorem last_get {s : Bs} (h : 1 ≤ s.length) : s.getLast? = some (s.getD (s.length - 1) 0) := by
 rw [List.getLast?_eq_getElem?, List.getD_eq_getElem?_getD, List.getElem?_eq_getElem (by omega)]
 rfl
theorem BoxR_ct (s : Bs) (hl : s.length ≤ big) : Pu Tryz.prog 83 [B s] (fun _ => True) (optV (boxN s)) := by
 unfold big at hl
 obtain ⟨q1, hq1⟩ : ∃ q, q = decide ((s.length : Int) < 1) := ⟨_, rfl⟩
 obtain ⟨q2, hq2⟩ : ∃ q, q = decide ((64 : Int) < (s.length : Nat)) := ⟨_, rfl⟩
 obtain ⟨q3, hq3⟩ : ∃ q, q = decide (s.getD 0 0 = 32) := ⟨_, rfl⟩
 obtain ⟨q4, hq4⟩ : ∃ q, q = decide (s.getD (s.length - 1) 0 = 32) := ⟨_, rfl⟩
 have hp : boxP s = (!(q1 || (q2 || (q3 || q4))) && s.all boxC) := by
  rw [hq1, hq2, hq3, hq4]
  unfold boxP
  by_cases h : s.length < 1
  ·have : s = [] := List.eq_nil_of_length_eq_zero (by omega)
   subst this
   rfl
  ·rw [head_get (by omega), last_get (by omega), Bool.eq_iff_iff]
   have hne : s.isEmpty = false := by
    cases s with
    | nil => simp at h
    | cons a t => rfl
   simp only [hne, Bool.not_false, Bool.true_and, Bool.and_eq_true, decide_eq_true_eq, Bool.not_eq_true', Bool.or_eq_false_iff, decide_eq_false_iff_not, ne_eq, Option.some.injEq]
   constructor
   ·rintro ⟨⟨⟨a, b⟩, c⟩, d⟩
    exact ⟨⟨by omega, by omega, c, d⟩, a⟩
   ·rintro ⟨⟨_, b, c, d⟩, a⟩
    exact ⟨⟨⟨a, by omega⟩, c⟩, d⟩
 refine ct_enter 52 Tryz.func83 rfl rfl rfl ?_
 intro F _
 repeat refine x_ ?_
 refine a_ ?_
 refine a_ ?_
 repeat refine n_ ?_
 refine g_cutK [(0, B s), (25, .bool (q1 || (q2 || (q3 || q4))))] [] ?_ ?_
 ·cases q1 <;> cases q2 <;> cases q3 <;> cases q4
  all_goals (
   repeat refine x_ ?_
   refine m_ ?_
   refine f_ (s_len_str rfl) ?_
   refine f_ ((s_lss rfl rfl).eb hq1) ?_
   refine m_ ?_
   (first | refine gl_guard_no rfl rfl rfl rfl rfl rfl rfl ?_ | (refine v_ ?_; refine m_ ?_))
   (first | refine gl_guard_no rfl rfl rfl rfl rfl rfl rfl ?_ | (refine v_ ?_; refine f_ (s_len_str rfl) ?_))
   (first | refine gl_guard_no rfl rfl rfl rfl rfl rfl rfl ?_ | (refine v_ ?_; refine f_ ((s_gtr rfl rfl).eb hq2) ?_))
   refine f_ z_4 ?_
   refine m_ ?_
   (first | refine gl_guard_no rfl rfl rfl rfl rfl rfl rfl ?_ | (refine v_ ?_; refine m_ ?_))
   (first | refine gl_guard_no rfl rfl rfl rfl rfl rfl rfl ?_ | (refine v_ ?_; refine f_ ((s_index_str rfl rfl (by simp at hq1; omega)).eq (v' := U8 (s.getD 0 0)) rfl) ?_))
   (first | refine gl_guard_no rfl rfl rfl rfl rfl rfl rfl ?_ | (refine v_ ?_; refine f_ ((s_eql rfl rfl).eq ((congrArg Value.bool (u8_eq (b := 32))).trans (congrArg Value.bool hq3.symm))) ?_))
   refine f_ z_4 ?_
   refine m_ ?_
   (first | refine gl_guard_no rfl rfl rfl rfl rfl rfl rfl ?_ | (refine v_ ?_; refine m_ ?_))
   (first | refine gl_guard_no rfl rfl rfl rfl rfl rfl rfl ?_ | (refine v_ ?_; refine m_ ?_))
   (first | refine gl_guard_no rfl rfl rfl rfl rfl rfl rfl ?_ | (refine v_ ?_; refine f_ (s_len_str rfl) ?_))
   (first | refine gl_guard_no rfl rfl rfl rfl rfl rfl rfl ?_ | (refine v_ ?_; refine f_ (s_sub_i64 rfl rfl (by simp at hq1; omega)) ?_))
   (first | refine gl_guard_no rfl rfl rfl rfl rfl rfl rfl ?_ | (refine v_ ?_; refine f_ ((s_index_str rfl rfl (by simp at hq1; omega)).eq (v' := U8 (s.getD (s.length - 1) 0)) (by rw [show ((s.length : Int) - 1).toNat = s.length - 1 by omega])) ?_))
   (first | refine gl_guard_no rfl rfl rfl rfl rfl rfl rfl ?_ | (refine v_ ?_; refine f_ ((s_eql rfl rfl).eq ((congrArg Value.bool (u8_eq (b := 32))).trans (congrArg Value.bool hq4.symm))) ?_))
   refine f_ z_4 ?_
   refine gl_nil ?_
   repeat refine y_ ?_)
  all_goals exact at_cut j_ i_
 ·repeat refine y_ ?_
  refine g_cond rfl (fun h => ?_) (fun h => ?_)
  ·have e : boxN s = none := by unfold boxN; rw [hp, h]; rfl
   rw [e]
   repeat refine x_ ?_
   refine a_ ?_
   refine a_ ?_
   repeat refine n_ ?_
   refine g_ret ?_
   exact at_end2 rfl rfl rfl [] ⟨rfl, rfl⟩ (fun _ h => h)
  ·rw [h, Bool.not_false, Bool.true_and] at hp
   repeat refine x_ ?_
   refine a_ ?_
   repeat refine n_ ?_
   refine g_loop (ι := Nat) (fun k => k ≤ s.length ∧ ∀ j, j < k → boxC (s.getD j 0) = true) (fun k => [(0, B s), (4, .int .i64 (k : Nat))]) (fun _ => []) (fun k => s.length - k) 0 ⟨by omega, fun j h => by omega⟩ ?_ ?_ ?_
   ·(repeat (first | exact Sub.nil _ | refine Sub.cons rfl ?_))
   ·intro w hw; exact hw
   ·rintro k ⟨hk, hno⟩
    repeat refine x_ ?_
    refine m_ ?_
    refine m_ ?_
    refine f_ (s_len_str rfl) ?_
    refine f_ (s_lss rfl rfl) ?_
    repeat refine n_ ?_
    refine g_cond rfl (fun h => ?_) (fun h => ?_)
    ·have hk' : k < s.length := by simp at h; omega
     obtain ⟨p1, hp1⟩ : ∃ q, q = decide (((s.getD k 0).toNat : Int) < 32) := ⟨_, rfl⟩
     obtain ⟨p2, hp2⟩ : ∃ q, q = decide ((126 : Int) < ((s.getD k 0).toNat : Nat)) := ⟨_, rfl⟩
     obtain ⟨p3, hp3⟩ : ∃ q, q = ([37, 42, 34, 92] : Bs).contains (s.getD k 0) := ⟨_, rfl⟩
     have hb : boxC (s.getD k 0) = !(p1 || (p2 || p3)) := by
      unfold boxC
      rw [← hp3, hp1, hp2]
      rw [Bool.eq_iff_iff]
      simp only [Bool.and_eq_true, Bool.not_eq_true', Bool.or_eq_false_iff, decide_eq_true_eq, decide_eq_false_iff_not]
      constructor
      ·rintro ⟨⟨a, b⟩, c⟩; exact ⟨by omega, by omega, c⟩
      ·rintro ⟨a, b, c⟩; exact ⟨⟨by omega, by omega⟩, c⟩
     repeat refine y_ ?_
     refine g_cutK [(0, B s), (4, .int .i64 (k : Nat)), (47, .bool (p1 || (p2 || p3)))] [] ?_ ?_
     ·cases p1 <;> cases p2
      all_goals (
       repeat refine x_ ?_
       refine m_ ?_
       refine m_ ?_
       refine f_ ((s_index_str rfl rfl (by omega)).eq (v' := U8 (s.getD k 0)) (by simp only [Int.toNat_natCast])) ?_
       refine f_ ((s_lss rfl rfl).eb hp1) ?_
       refine m_ ?_
       (first | refine gl_guard_no rfl rfl rfl rfl rfl rfl rfl ?_ | (refine v_ ?_; refine m_ ?_))
       (first | refine gl_guard_no rfl rfl rfl rfl rfl rfl rfl ?_ | (refine v_ ?_; refine m_ ?_))
       (first | refine gl_guard_no rfl rfl rfl rfl rfl rfl rfl ?_ | (refine v_ ?_; refine f_ ((s_index_str rfl rfl (by omega)).eq (v' := U8 (s.getD k 0)) (by simp only [Int.toNat_natCast])) ?_))
       (first | refine gl_guard_no rfl rfl rfl rfl rfl rfl rfl ?_ | (refine v_ ?_; refine f_ ((s_gtr rfl rfl).eb hp2) ?_))
       refine f_ z_4 ?_
       refine m_ ?_
       (first | refine gl_guard_no rfl rfl rfl rfl rfl rfl rfl ?_ | (refine v_ ?_; refine m_ ?_))
       (first | refine gl_guard_no rfl rfl rfl rfl rfl rfl rfl ?_ | (refine v_ ?_; refine m_ ?_))
       (first | refine gl_guard_no rfl rfl rfl rfl rfl rfl rfl ?_ | (refine v_ ?_; refine f_ ((s_index_str rfl rfl (by omega)).eq (v' := U8 (s.getD k 0)) (by simp only [Int.toNat_natCast])) ?_))
       (first | refine gl_guard_no rfl rfl rfl rfl rfl rfl rfl ?_ | (refine v_ ?_; refine gl_callp rfl (In_ct (s.getD k 0) [37, 42, 34, 92] (by decide)) (fun _ _ _ => trivial) rfl ?_; rw [← hp3]))
       refine f_ z_4 ?_
       refine gl_nil ?_
       repeat refine y_ ?_)
      all_goals exact at_cut j_ i_
     ·repeat refine y_ ?_
      refine g_cond rfl (fun h2 => ?_) (fun h2 => ?_)
      ·have e : boxN s = none := by unfold boxN; rw [hp, all_no hk' (by rw [hb, h2]; rfl)]; rfl
       rw [e]
       repeat refine x_ ?_
       refine a_ ?_
       refine a_ ?_
       repeat refine n_ ?_
       refine g_ret ?_
       exact at_end2 rfl rfl rfl [] ⟨rfl, rfl⟩ (fun _ h => h)
      ·repeat refine y_ ?_
       repeat refine x_ ?_
       refine m_ ?_
       refine f_ (s_add_i64 rfl rfl (by omega)) ?_
       refine a_ ?_
       repeat refine n_ ?_
       refine at_next (k + 1) ⟨by omega, fun j hj => ?_⟩ (by omega) ?_ ?_
       ·rcases Nat.lt_succ_iff_lt_or_eq.1 hj with h4 | rfl
        ·exact hno j h4
        ·rw [hb, h2]; rfl
       ·(repeat (first | exact Sub.nil _ | refine Sub.cons rfl ?_))
       ·intro w hw; exact hw
    ·have hkl : k = s.length := by simp at h; omega
     subst hkl
     rw [all_yes hno] at hp
     repeat refine x_ ?_
     refine m_ ?_
     refine gl_callp rfl (UpperR_ct _ (by omega)) (fun h hh hb => by first | trivial | (first | exact RdS.le (by assumption) hh | (obtain ⟨bs, hb⟩ := hb; exact Sat.rd hb (z_2))) | (refine ⟨?_, ?_⟩ <;> (first | exact RdS.le (by assumption) hh | (obtain ⟨bs, hb⟩ := hb; exact Sat.rd hb (z_2)))) | (refine ⟨?_, ?_, ?_⟩ <;> (first | exact RdS.le (by assumption) hh | (obtain ⟨bs, hb⟩ := hb; exact Sat.rd hb (z_2))))) rfl ?_
     refine f_ (s_eql_str rfl rfl) ?_
     repeat refine n_ ?_
     refine g_cond rfl (fun h2 => ?_) (fun h2 => ?_)
     ·have e : boxN s = some inbox := by unfold boxN; rw [if_pos hp, if_pos (of_decide_eq_true h2)]
      rw [e]
      repeat refine x_ ?_
      refine a_ ?_
      refine a_ ?_
      repeat refine n_ ?_
      refine g_ret ?_
      exact at_end2 rfl rfl rfl [] ⟨rfl, rfl⟩ (fun _ h => h)
     ·have e : boxN s = some s := by unfold boxN; rw [if_pos hp, if_neg (of_decide_eq_false h2)]
      rw [e]
      repeat refine x_ ?_
      refine m_ ?_
      refine a_ ?_
      refine a_ ?_
      repeat refine n_ ?_
      refine g_ret ?_
      exact at_end2 rfl rfl rfl [] ⟨rfl, rfl⟩ (fun _ h => h)
end Go.Proofs.YtgllpcggdcknaaaGreatDoor.Rp
namespace Go.Proofs.YtgllpcggdcknaaaGreatDoor.Rp
open Go Go.Sl
abbrev unqV (o : Option (Bs × Nat)) : Value := .tuple #[B (o.getD ([], 0)).1, .int .i64 ((o.getD ([], 0)).2 : Nat), .bool o.isSome]
theorem drop_get {s : Bs} {k : Nat} (hk : k < s.length) : s.drop k = s.getD k 0 :: s.drop (k + 1) := by
 rw [List.drop_eq_getElem_cons hk, List.getD_eq_getElem?_getD, List.getElem?_eq_getElem hk]
 rfl
end Go.Proofs.YtgllpcggdcknaaaGreatDoor.Rp
namespace Go.Proofs.YtgllpcggdcknaaaGreatDoor.Rp
open Go Go.Sl
theorem system_ct (k : Nat) (hk : k < 5) : Pu Tryz.prog 104 [.int .i64 (k : Nat)] (fun _ => True) (B (sysL.getD k [])) := by
 refine ct_enter 12 Tryz.func104 rfl rfl rfl ?_
 intro F _
 repeat refine x_ ?_
 refine a_ ?_
 repeat refine x_ ?_
 refine m_ ?_
 repeat refine n_ ?_
 rcases (show k = 0 ∨ k = 1 ∨ k = 2 ∨ k = 3 ∨ k = 4 by omega) with rfl | rfl | rfl | rfl | rfl
 ·repeat refine y_ ?_
  refine g_region ?_
  refine f_ (s_eql rfl rfl) ?_
  refine a_ ?_
  repeat refine x_ ?_
  refine a_ ?_
  repeat refine n_ ?_
  refine g_ret ?_
  exact at_end1 rfl rfl [] ⟨rfl, rfl⟩ (fun _ h => h)
 ·repeat refine y_ ?_
  refine g_region ?_
  refine f_ (s_eql rfl rfl) ?_
  refine a_ ?_
  repeat refine x_ ?_
  refine f_ (s_eql rfl rfl) ?_
  refine a_ ?_
  repeat refine x_ ?_
  refine a_ ?_
  repeat refine n_ ?_
  refine g_ret ?_
  exact at_end1 rfl rfl [] ⟨rfl, rfl⟩ (fun _ h => h)
 ·repeat refine y_ ?_
  refine g_region ?_
  refine f_ (s_eql rfl rfl) ?_
  refine a_ ?_
  repeat refine x_ ?_
  refine f_ (s_eql rfl rfl) ?_
  refine a_ ?_
  repeat refine x_ ?_
  refine f_ (s_eql rfl rfl) ?_
  refine a_ ?_
  repeat refine x_ ?_
  refine a_ ?_
  repeat refine n_ ?_
  refine g_ret ?_
  exact at_end1 rfl rfl [] ⟨rfl, rfl⟩ (fun _ h => h)
 ·repeat refine y_ ?_
  refine g_region ?_
  refine f_ (s_eql rfl rfl) ?_
  refine a_ ?_
  repeat refine x_ ?_
  refine f_ (s_eql rfl rfl) ?_
  refine a_ ?_
  repeat refine x_ ?_
  refine f_ (s_eql rfl rfl) ?_
  refine a_ ?_
  repeat refine x_ ?_
  refine f_ (s_eql rfl rfl) ?_
  refine a_ ?_
  repeat refine x_ ?_
  refine a_ ?_
  repeat refine n_ ?_
  refine g_ret ?_
  exact at_end1 rfl rfl [] ⟨rfl, rfl⟩ (fun _ h => h)
 ·repeat refine y_ ?_
  refine g_region ?_
  refine f_ (s_eql rfl rfl) ?_
  refine a_ ?_
  repeat refine x_ ?_
  refine f_ (s_eql rfl rfl) ?_
  refine a_ ?_
  repeat refine x_ ?_
  refine f_ (s_eql rfl rfl) ?_
  refine a_ ?_
  repeat refine x_ ?_
  refine f_ (s_eql rfl rfl) ?_
  refine a_ ?_
  repeat refine x_ ?_
  refine a_ ?_
  repeat refine n_ ?_
  refine g_ret ?_
  exact at_end1 rfl rfl [] ⟨rfl, rfl⟩ (fun _ h => h)
theorem idx_at : ∀ {l : List Bs} {f : Bs} {k : Nat}, k < l.length → (∀ j, j < k → l.getD j [] ≠ f) → l.getD k [] = f → l.idxOf f = k
 | [], _, _, h, _, _ => by simp at h
 | x :: t, f, 0, _, _, h => by
  have : x = f := h
  simp [List.idxOf_cons, this]
 | x :: t, f, k + 1, hk, hno, h => by
  have hx : x ≠ f := hno 0 (by omega)
  have := idx_at (l := t) (f := f) (k := k) (by simpa using hk) (fun j hj => by have := hno (j + 1) (by omega); simpa using this) (by simpa using h)
  have hb : (x == f) = false := by simpa using hx
  rw [List.idxOf_cons, hb, this]
  rfl
theorem idx_none : ∀ {l : List Bs} {f : Bs}, (∀ j, j < l.length → l.getD j [] ≠ f) → l.idxOf f = l.length
 | [], _, _ => rfl
 | x :: t, f, hno => by
  have hx : x ≠ f := hno 0 z_10
  have hb : (x == f) = false := by simpa using hx
  rw [List.idxOf_cons, hb, idx_none fun j hj => by have := hno (j + 1) (by simpa using hj); simpa using this]
  rfl
theorem place_ct (f : Bs) : Pu Tryz.prog 105 [B f] (fun _ => True) (.int .i64 (placeS f : Nat)) := by
 refine ct_enter 13 Tryz.func105 rfl rfl rfl ?_
 intro F _
 repeat refine x_ ?_
 refine a_ ?_
 repeat refine x_ ?_
 refine a_ ?_
 repeat refine n_ ?_
 refine g_loop (ι := Nat) (fun k => k ≤ 5 ∧ ∀ j, j < k → sysL.getD j [] ≠ f) (fun k => [(0, B f), (3, .int .i64 (k : Nat))]) (fun _ => []) (fun k => 5 - k) 0 ⟨by omega, fun j h => by omega⟩ ?_ ?_ ?_
 ·(repeat (first | exact Sub.nil _ | refine Sub.cons rfl ?_))
 ·intro w hw; exact hw
 ·rintro k ⟨hk, hno⟩
  repeat refine x_ ?_
  refine m_ ?_
  refine f_ (s_lss rfl rfl) ?_
  repeat refine n_ ?_
  refine g_cond rfl (fun h => ?_) (fun h => ?_)
  ·have hk' : k < 5 := by simp at h; omega
   repeat refine x_ ?_
   refine m_ ?_
   refine gl_callp rfl (system_ct _ (by omega)) (fun h hh hb => by first | trivial | (first | exact RdS.le (by assumption) hh | (obtain ⟨bs, hb⟩ := hb; exact Sat.rd hb (z_2))) | (refine ⟨?_, ?_⟩ <;> (first | exact RdS.le (by assumption) hh | (obtain ⟨bs, hb⟩ := hb; exact Sat.rd hb (z_2)))) | (refine ⟨?_, ?_, ?_⟩ <;> (first | exact RdS.le (by assumption) hh | (obtain ⟨bs, hb⟩ := hb; exact Sat.rd hb (z_2))))) rfl ?_
   refine m_ ?_
   refine f_ (s_eql_str rfl rfl) ?_
   repeat refine n_ ?_
   refine g_cond rfl (fun h2 => ?_) (fun h2 => ?_)
   ·have h3 := of_decide_eq_true h2
    have e : placeS f = k := idx_at hk' hno h3
    rw [e]
    repeat refine x_ ?_
    refine m_ ?_
    refine a_ ?_
    repeat refine n_ ?_
    refine g_ret ?_
    exact at_end1 rfl rfl [] ⟨rfl, rfl⟩ (fun _ h => h)
   ·have h3 := of_decide_eq_false h2
    repeat refine x_ ?_
    refine m_ ?_
    refine f_ (s_add_i64 rfl rfl (by omega)) ?_
    refine a_ ?_
    repeat refine n_ ?_
    refine at_next (k + 1) ⟨by omega, fun j hj => ?_⟩ (by omega) ?_ ?_
    ·rcases Nat.lt_succ_iff_lt_or_eq.1 hj with h4 | rfl
     ·exact hno j h4
     ·exact h3
    ·(repeat (first | exact Sub.nil _ | refine Sub.cons rfl ?_))
    ·intro w hw; exact hw
  ·have hkl : k = 5 := by simp at h; omega
   have e : placeS f = 5 := idx_none fun j hj => hno j (by have : sysL.length = 5 := rfl; omega)
   rw [e]
   repeat refine x_ ?_
   refine a_ ?_
   repeat refine n_ ?_
   refine g_ret ?_
   exact at_end1 rfl rfl [] ⟨rfl, rfl⟩ (fun _ h => h)
theorem less_ct (a b : Bs) : Pu Tryz.prog 79 [B a, B b] (fun _ => True) (.bool (lessS a b)) := by
 refine ct_enter 18 Tryz.func79 rfl rfl rfl ?_
 intro F _
 repeat refine x_ ?_
 refine a_ ?_
 repeat refine x_ ?_
 refine m_ ?_
 refine gl_callp rfl (place_ct _) (fun h hh hb => by first | trivial | (first | exact RdS.le (by assumption) hh | (obtain ⟨bs, hb⟩ := hb; exact Sat.rd hb (z_2))) | (refine ⟨?_, ?_⟩ <;> (first | exact RdS.le (by assumption) hh | (obtain ⟨bs, hb⟩ := hb; exact Sat.rd hb (z_2)))) | (refine ⟨?_, ?_, ?_⟩ <;> (first | exact RdS.le (by assumption) hh | (obtain ⟨bs, hb⟩ := hb; exact Sat.rd hb (z_2))))) rfl ?_
 refine m_ ?_
 refine gl_callp rfl (place_ct _) (fun h hh hb => by first | trivial | (first | exact RdS.le (by assumption) hh | (obtain ⟨bs, hb⟩ := hb; exact Sat.rd hb (z_2))) | (refine ⟨?_, ?_⟩ <;> (first | exact RdS.le (by assumption) hh | (obtain ⟨bs, hb⟩ := hb; exact Sat.rd hb (z_2)))) | (refine ⟨?_, ?_, ?_⟩ <;> (first | exact RdS.le (by assumption) hh | (obtain ⟨bs, hb⟩ := hb; exact Sat.rd hb (z_2))))) rfl ?_
 refine f_ (s_neq rfl rfl) ?_
 repeat refine n_ ?_
 refine g_cond rfl (fun h => ?_) (fun h => ?_)
 ·have hne : placeS a ≠ placeS b := by simp at h; omega
  have e : lessS a b = decide (((placeS a : Nat) : Int) < (placeS b : Nat)) := by
   unfold lessS
   rw [if_pos hne]
   exact decide_eq_decide.mpr (by omega)
  rw [e]
  repeat refine x_ ?_
  refine m_ ?_
  refine gl_callp rfl (place_ct _) (fun h hh hb => by first | trivial | (first | exact RdS.le (by assumption) hh | (obtain ⟨bs, hb⟩ := hb; exact Sat.rd hb (z_2))) | (refine ⟨?_, ?_⟩ <;> (first | exact RdS.le (by assumption) hh | (obtain ⟨bs, hb⟩ := hb; exact Sat.rd hb (z_2)))) | (refine ⟨?_, ?_, ?_⟩ <;> (first | exact RdS.le (by assumption) hh | (obtain ⟨bs, hb⟩ := hb; exact Sat.rd hb (z_2))))) rfl ?_
  refine m_ ?_
  refine gl_callp rfl (place_ct _) (fun h hh hb => by first | trivial | (first | exact RdS.le (by assumption) hh | (obtain ⟨bs, hb⟩ := hb; exact Sat.rd hb (z_2))) | (refine ⟨?_, ?_⟩ <;> (first | exact RdS.le (by assumption) hh | (obtain ⟨bs, hb⟩ := hb; exact Sat.rd hb (z_2)))) | (refine ⟨?_, ?_, ?_⟩ <;> (first | exact RdS.le (by assumption) hh | (obtain ⟨bs, hb⟩ := hb; exact Sat.rd hb (z_2))))) rfl ?_
  refine f_ (s_lss rfl rfl) ?_
  refine a_ ?_
  repeat refine n_ ?_
  refine g_ret ?_
  exact at_end1 rfl rfl [] ⟨rfl, rfl⟩ (fun _ h => h)
 ·have hne : ¬(placeS a ≠ placeS b) := by simp at h; omega
  have e : lessS a b = Op.bytesLess a b := by
   unfold lessS
   rw [if_neg hne]
   rfl
  rw [e]
  repeat refine x_ ?_
  refine m_ ?_
  refine m_ ?_
  refine f_ (s_lss_str rfl rfl) ?_
  refine a_ ?_
  repeat refine n_ ?_
  refine g_ret ?_
  exact at_end1 rfl rfl [] ⟨rfl, rfl⟩ (fun _ h => h)
theorem find_at : ∀ {l : List Bs} {p : Bs → Bool} {k : Nat}, k < l.length → (∀ j, j < k → p (l.getD j []) = false) → p (l.getD k []) = true → l.find? p = some (l.getD k [])
 | [], _, _, h, _, _ => by simp at h
 | x :: t, p, 0, _, _, h => by
  have h : p x = true := h
  simp [List.find?_cons, h]
 | x :: t, p, k + 1, hk, hno, h => by
  have hx : p x = false := hno 0 (by omega)
  have := find_at (l := t) (p := p) (k := k) (by simpa using hk) (fun j hj => by have := hno (j + 1) (by omega); simpa using this) (by simpa using h)
  rw [List.find?_cons, hx]
  simpa using this
theorem find_no {l : List Bs} {p : Bs → Bool} (h : ∀ j, j < l.length → p (l.getD j []) = false) : l.find? p = none := by
 rw [List.find?_eq_none]
 intro x hx
 obtain ⟨j, hj, rfl⟩ := List.getElem_of_mem hx
 have := h j hj
 rw [List.getD_eq_getElem?_getD, List.getElem?_eq_getElem hj] at this
 simp at this
 simp [this]
theorem sys_len {k : Nat} (hk : k < 5) : (sysL.getD k []).length ≤ 9 := by
 have : ∀ k, k < 5 → (sysL.getD k []).length ≤ 9 := by decide
 exact this k hk
theorem CanonR_ct (s : Bs) (hl : s.length ≤ big) : Pu Tryz.prog 78 [B s] (fun _ => True) (optV (canonS s)) := by
 unfold big at hl
 refine ct_enter 52 Tryz.func78 rfl rfl rfl ?_
 intro F _
 repeat refine x_ ?_
 refine a_ ?_
 refine a_ ?_
 repeat refine x_ ?_
 refine a_ ?_
 repeat refine n_ ?_
 refine g_loop (ι := Nat) (fun k => k ≤ 5 ∧ ∀ j, j < k → (upS (sysL.getD j []) == upS s) = false) (fun k => [(0, B s), (4, .int .i64 (k : Nat))]) (fun _ => []) (fun k => 5 - k) 0 ⟨by omega, fun j h => by omega⟩ ?_ ?_ ?_
 ·(repeat (first | exact Sub.nil _ | refine Sub.cons rfl ?_))
 ·intro w hw; exact hw
 ·rintro k ⟨hk, hno⟩
  repeat refine x_ ?_
  refine m_ ?_
  refine f_ (s_lss rfl rfl) ?_
  repeat refine n_ ?_
  refine g_cond rfl (fun h => ?_) (fun h => ?_)
  ·have hk' : k < 5 := by simp at h; omega
   have hsl := sys_len hk'
   repeat refine x_ ?_
   refine m_ ?_
   refine gl_callp rfl (system_ct _ (by omega)) (fun h hh hb => by first | trivial | (first | exact RdS.le (by assumption) hh | (obtain ⟨bs, hb⟩ := hb; exact Sat.rd hb (z_2))) | (refine ⟨?_, ?_⟩ <;> (first | exact RdS.le (by assumption) hh | (obtain ⟨bs, hb⟩ := hb; exact Sat.rd hb (z_2)))) | (refine ⟨?_, ?_, ?_⟩ <;> (first | exact RdS.le (by assumption) hh | (obtain ⟨bs, hb⟩ := hb; exact Sat.rd hb (z_2))))) rfl ?_
   refine gl_callp rfl (UpperR_ct _ (by omega)) (fun h hh hb => by first | trivial | (first | exact RdS.le (by assumption) hh | (obtain ⟨bs, hb⟩ := hb; exact Sat.rd hb (z_2))) | (refine ⟨?_, ?_⟩ <;> (first | exact RdS.le (by assumption) hh | (obtain ⟨bs, hb⟩ := hb; exact Sat.rd hb (z_2)))) | (refine ⟨?_, ?_, ?_⟩ <;> (first | exact RdS.le (by assumption) hh | (obtain ⟨bs, hb⟩ := hb; exact Sat.rd hb (z_2))))) rfl ?_
   refine m_ ?_
   refine gl_callp rfl (UpperR_ct _ (by omega)) (fun h hh hb => by first | trivial | (first | exact RdS.le (by assumption) hh | (obtain ⟨bs, hb⟩ := hb; exact Sat.rd hb (z_2))) | (refine ⟨?_, ?_⟩ <;> (first | exact RdS.le (by assumption) hh | (obtain ⟨bs, hb⟩ := hb; exact Sat.rd hb (z_2)))) | (refine ⟨?_, ?_, ?_⟩ <;> (first | exact RdS.le (by assumption) hh | (obtain ⟨bs, hb⟩ := hb; exact Sat.rd hb (z_2))))) rfl ?_
   refine f_ (s_eql_str rfl rfl) ?_
   repeat refine n_ ?_
   refine g_cond rfl (fun h2 => ?_) (fun h2 => ?_)
   ·have h3 := of_decide_eq_true h2
    have e : canonS s = some (sysL.getD k []) := by
     unfold canonS
     rw [find_at hk' hno (by simpa using h3)]
    rw [e]
    repeat refine x_ ?_
    refine m_ ?_
    refine gl_callp rfl (system_ct _ (by omega)) (fun h hh hb => by first | trivial | (first | exact RdS.le (by assumption) hh | (obtain ⟨bs, hb⟩ := hb; exact Sat.rd hb (z_2))) | (refine ⟨?_, ?_⟩ <;> (first | exact RdS.le (by assumption) hh | (obtain ⟨bs, hb⟩ := hb; exact Sat.rd hb (z_2)))) | (refine ⟨?_, ?_, ?_⟩ <;> (first | exact RdS.le (by assumption) hh | (obtain ⟨bs, hb⟩ := hb; exact Sat.rd hb (z_2))))) rfl ?_
    refine a_ ?_
    refine a_ ?_
    repeat refine n_ ?_
    refine g_ret ?_
    exact at_end2 rfl rfl rfl [] ⟨rfl, rfl⟩ (fun _ h => h)
   ·have h3 := of_decide_eq_false h2
    repeat refine x_ ?_
    refine m_ ?_
    refine f_ (s_add_i64 rfl rfl (by omega)) ?_
    refine a_ ?_
    repeat refine n_ ?_
    refine at_next (k + 1) ⟨by omega, fun j hj => ?_⟩ (by omega) ?_ ?_
    ·rcases Nat.lt_succ_iff_lt_or_eq.1 hj with h4 | rfl
     ·exact hno j h4
     ·simpa using h3
    ·(repeat (first | exact Sub.nil _ | refine Sub.cons rfl ?_))
    ·intro w hw; exact hw
  ·have hkl : k = 5 := by simp at h; omega
   have hf : sysL.find? (fun f => upS f == upS s) = none := find_no fun j hj => hno j (by have : sysL.length = 5 := rfl; omega)
   have hc : canonS s = if atomS s = true ∧ s.length ≤ 32 then some (lowS s) else none := by unfold canonS; rw [hf]
   obtain ⟨q1, hq1⟩ : ∃ q, q = atomS s := ⟨_, rfl⟩
   obtain ⟨q2, hq2⟩ : ∃ q, q = decide ((32 : Int) < (s.length : Nat)) := ⟨_, rfl⟩
   repeat refine y_ ?_
   refine g_cutK [(0, B s), (27, .bool (!q1 || q2))] [] ?_ ?_
   ·cases q1 <;> cases q2
    all_goals (
     repeat refine x_ ?_
     refine m_ ?_
     refine gl_callp rfl (AtomR_ct s (by omega)) (fun _ _ _ => trivial) rfl ?_; rw [← hq1]
     refine f_ (s_not rfl) ?_
     refine m_ ?_
     (first | refine gl_guard_no rfl rfl rfl rfl rfl rfl rfl ?_ | (refine v_ ?_; refine m_ ?_))
     (first | refine gl_guard_no rfl rfl rfl rfl rfl rfl rfl ?_ | (refine v_ ?_; refine f_ (s_len_str rfl) ?_))
     (first | refine gl_guard_no rfl rfl rfl rfl rfl rfl rfl ?_ | (refine v_ ?_; refine f_ ((s_gtr rfl rfl).eb hq2) ?_))
     refine f_ z_4 ?_
     refine gl_nil ?_
     repeat refine y_ ?_)
    all_goals exact at_cut j_ i_
   ·repeat refine y_ ?_
    refine g_cond rfl (fun h6 => ?_) (fun h6 => ?_)
    ·have e : canonS s = none := by
      rw [hc, if_neg]
      rintro ⟨a, b⟩
      rw [a] at hq1
      subst hq1
      have := of_decide_eq_true (hq2.symm.trans (by simpa using h6))
      omega
     rw [e]
     repeat refine x_ ?_
     refine a_ ?_
     refine a_ ?_
     repeat refine n_ ?_
     refine g_ret ?_
     exact at_end2 rfl rfl rfl [] ⟨rfl, rfl⟩ (fun _ h => h)
    ·have e : canonS s = some (lowS s) := by
      rw [hc, if_pos]
      simp only [Bool.or_eq_false_iff, Bool.not_eq_false'] at h6
      refine ⟨hq1 ▸ h6.1, ?_⟩
      have := of_decide_eq_false (hq2.symm.trans h6.2)
      omega
     rw [e]
     repeat refine x_ ?_
     refine a_ ?_
     repeat refine x_ ?_
     refine a_ ?_
     repeat refine n_ ?_
     refine g_loop (ι := Nat) (fun k => k ≤ s.length) (fun k => [(0, B s), (5, B (lowS (s.take k))), (6, .int .i64 (k : Nat))]) (fun _ => []) (fun k => s.length - k) 0 (by omega) ?_ ?_ ?_
     ·(repeat (first | exact Sub.nil _ | refine Sub.cons rfl ?_))
     ·intro w hw; exact hw
     ·rintro k hk
      have hlt : (lowS (s.take k)).length ≤ s.length := by unfold lowS; rw [List.length_map, List.length_take]; omega
      repeat refine x_ ?_
      refine m_ ?_
      refine m_ ?_
      refine f_ (s_len_str rfl) ?_
      refine f_ (s_lss rfl rfl) ?_
      repeat refine n_ ?_
      refine g_cond rfl (fun h => ?_) (fun h => ?_)
      ·have hk' : k < s.length := by simp at h; omega
       have hu : lowS (s.take (k + 1)) = lowS (s.take k) ++ [lowC (s.getD k 0)] := take_succ_map lowC hk'
       repeat refine x_ ?_
       refine m_ ?_
       refine m_ ?_
       refine f_ ((s_index_str rfl rfl (by omega)).eq (v' := U8 (s.getD k 0)) (by simp only [Int.toNat_natCast])) ?_
       refine a_ ?_
       repeat refine n_ ?_
       generalize s.getD k 0 = c at hu ⊢
       have hcb := c.toNat_lt
       obtain ⟨p1, h1⟩ : ∃ q, q = decide ((65 : Int) ≤ (c.toNat : Nat)) := ⟨_, rfl⟩
       obtain ⟨p2, h2⟩ : ∃ q, q = decide (((c.toNat : Nat) : Int) ≤ 90) := ⟨_, rfl⟩
       repeat refine y_ ?_
       refine g_cutK [(0, B s), (5, B (lowS (s.take k))), (6, .int .i64 (k : Nat)), (7, U8 c), (42, .bool (p1 && p2))] [] ?_ ?_
       ·cases p1 <;> cases p2
        all_goals (
         repeat refine x_ ?_
         refine m_ ?_
         refine f_ ((s_geq rfl rfl).eb h1) ?_
         refine m_ ?_
         (first | refine gl_guard_no rfl rfl rfl rfl rfl rfl rfl ?_ | (refine v_ ?_; refine m_ ?_))
         (first | refine gl_guard_no rfl rfl rfl rfl rfl rfl rfl ?_ | (refine v_ ?_; refine f_ ((s_leq rfl rfl).eb h2) ?_))
         refine f_ z_4 ?_
         refine gl_nil ?_
         repeat refine y_ ?_)
        all_goals exact at_cut j_ i_
       ·repeat refine y_ ?_
        refine g_cond rfl (fun h7 => ?_) (fun h7 => ?_)
        ·simp only [Bool.and_eq_true] at h7
         have b1 : 65 ≤ c.toNat := by have := of_decide_eq_true (h1.symm.trans h7.1); omega
         have b2 : c.toNat ≤ 90 := by have := of_decide_eq_true (h2.symm.trans h7.2); omega
         repeat refine x_ ?_
         refine m_ ?_
         refine f_ ((s_sub_raw rfl rfl).eq (v' := .int .u8 ((c.toNat : Nat) - 65)) (by rw [wrap_u8_in (by omega)])) ?_
         refine f_ ((s_add_raw rfl rfl).eq (v' := U8 (lowC c)) (by rw [wrap_u8_in (by omega)]; exact lowC_add ⟨b1, b2⟩)) ?_
         refine a_ ?_
         repeat refine x_ ?_
         refine m_ ?_
         refine m_ ?_
         refine gl_buildSliceU rfl rfl rfl rfl rfl rfl (xs := bytesV [lowC c]) rfl rfl ?_; intro a26 ha26
         refine r_ (s_string (l := [lowC c]) rfl rfl (fun w hw => (hw.ownN z_2).2.2.1)) ?_
         refine f_ ((s_add_str rfl rfl (by simp; omega)).eq (v' := B (lowS (s.take (k + 1)))) (by rw [hu])) ?_
         refine a_ ?_
         repeat refine x_ ?_
         refine m_ ?_
         refine f_ (s_add_i64 rfl rfl (by omega)) ?_
         refine a_ ?_
         repeat refine n_ ?_
         refine at_next (k + 1) (by omega) (by omega) ?_ ?_
         ·(repeat (first | exact Sub.nil _ | refine Sub.cons rfl ?_))
         ·intro w hw; exact hw.dropAll
        ·have keep : lowC c = c := by
          unfold lowC
          rw [if_neg]
          rintro ⟨a, b⟩
          have t1 : p1 = true := h1.trans (decide_eq_true (by omega))
          have t2 : p2 = true := h2.trans (decide_eq_true (by omega))
          rw [t1, t2] at h7
          cases h7
         repeat refine x_ ?_
         refine m_ ?_
         refine m_ ?_
         refine gl_buildSliceU rfl rfl rfl rfl rfl rfl (xs := bytesV [c]) rfl rfl ?_; intro a26 ha26
         refine r_ (s_string (l := [c]) rfl rfl (fun w hw => (hw.ownN z_2).2.2.1)) ?_
         refine f_ ((s_add_str rfl rfl (by simp; omega)).eq (v' := B (lowS (s.take (k + 1)))) (by rw [hu, keep])) ?_
         refine a_ ?_
         repeat refine x_ ?_
         refine m_ ?_
         refine f_ (s_add_i64 rfl rfl (by omega)) ?_
         refine a_ ?_
         repeat refine n_ ?_
         refine at_next (k + 1) (by omega) (by omega) ?_ ?_
         ·(repeat (first | exact Sub.nil _ | refine Sub.cons rfl ?_))
         ·intro w hw; exact hw.dropAll
      ·have hkl : k = s.length := by simp at h; omega
       have e2 : lowS (s.take k) = lowS s := by rw [hkl, List.take_length]
       rw [e2]
       repeat refine x_ ?_
       refine m_ ?_
       refine a_ ?_
       refine a_ ?_
       repeat refine n_ ?_
       refine g_ret ?_
       exact at_end2 rfl rfl rfl [] ⟨rfl, rfl⟩ (fun _ h => h)
end Go.Proofs.YtgllpcggdcknaaaGreatDoor.Rp
namespace Go.Proofs.YtgllpcggdcknaaaGreatDoor.Rp
open Go Go.Sl
def fV (l : List Bs) : List Value := l.map fun f => B f
theorem fV_len (l : List Bs) : (fV l).length = l.length := by simp [fV]
theorem fV_one (l : List Bs) : ∀ q ∈ fV l, q.oneCell' = true := fun q hq => by
 obtain ⟨x, _, rfl⟩ := List.mem_map.mp hq
 rfl
theorem fV_append (a b : List Bs) : fV (a ++ b) = fV a ++ fV b := by simp [fV]
abbrev OwnS (a : Option Addr) (l : List Bs) (c : Nat) : As := .own (.slice a l.length c) 9 1 (fV l)
theorem rdB_some {h : Heap} {a : Option Addr} {l : List Bs} {i : Nat} (r : RdS h a (fV l)) (hi : i < l.length) : ∃ ad, a = some ad := by
 obtain ⟨ad, e, _⟩ := r (by intro e; have := congrArg List.length e; rw [fV_len] at this; simp at this; subst this; simp at hi)
 exact ⟨ad, e⟩
theorem rdB {F : Snap} {w : World} {H : List As} {a : Option Addr} {l : List Bs} (hw : Hp F w H) (r : RdS F.heap a (fV l)) {q i : Nat} (h : q = i) (hi : i < l.length) : PeekC (hp w) (addO a q) [B (l.getD i [])] :=
 peek_rd hw r z_10 (fun j u hu => by
  match j, hu with
  | 0, hu =>
   simp at hu; subst hu h
   simp [fV, hi])
theorem rdB_own {F : Snap} {w : World} {H H' : List As} {ys : List As} {a : Option Addr} {n c : Nat} {te : TypeId} {l : List Bs} (hw : Hp F w H) (u : Upd H (.own (.slice a n c) te 1 (fV l)) ys H') {q i : Nat} (h : q = i) (hi : i < l.length) : PeekC (hp w) (addO a q) [B (l.getD i [])] :=
 peek_own hw u z_10 (fun j u hu => by
  match j, hu with
  | 0, hu =>
   simp at hu; subst hu h
   simp [fV, hi])
theorem ins_len (f : Bs) : ∀ l : List Bs, (insS f l).length = l.length + 1
 | [] => rfl
 | x :: t => by
  rw [insS]
  split
  ·simp
  ·simp [ins_len f t]
theorem takeB {l : List Bs} {k : Nat} (hk : k < l.length) : l.take (k + 1) = l.take k ++ [l.getD k []] := by
 rw [List.take_succ_eq_append_getElem hk, List.getD_eq_getElem?_getD, List.getElem?_eq_getElem hk]
 rfl
end Go.Proofs.YtgllpcggdcknaaaGreatDoor.Rp
namespace Go.Proofs.YtgllpcggdcknaaaGreatDoor.Rp
open Go Go.Sl
theorem canonL_snoc {x c : Bs} (hx : canonS x = some c) : ∀ {l cs : List Bs}, canonL l = some cs → canonL (l ++ [x]) = some (cs ++ [c])
 | [], cs, h => by
  simp [canonL] at h
  subst h
  simp [canonL, hx]
 | s :: t, cs, h => by
  rw [canonL] at h
  split at h
  ·next d l hd hl =>
   cases h
   rw [List.cons_append, canonL, hd, canonL_snoc hx hl]
   rfl
  ·cases h
theorem canonL_bad {x : Bs} (hx : canonS x = none) : ∀ {l : List Bs}, x ∈ l → canonL l = none
 | [], h => by simp at h
 | s :: t, h => by
  rw [canonL]
  rcases List.mem_cons.mp h with rfl | h
  ·rw [hx]
  ·rw [canonL_bad hx h]
   cases canonS s <;> rfl
theorem canonL_len : ∀ {l cs : List Bs}, canonL l = some cs → cs.length = l.length
 | [], cs, h => by simp [canonL] at h; subst h; rfl
 | s :: t, cs, h => by
  rw [canonL] at h
  split at h
  ·next d l hd hl =>
   cases h
   simp [canonL_len hl]
  ·cases h
theorem with_len (l : List Bs) (f : Bs) : (withS l f).length ≤ l.length + 1 := by
 unfold withS
 split
 ·omega
 ·rw [ins_len]; omega
theorem set_len (l : List Bs) : (setS l).length ≤ l.length := by
 have : ∀ (l acc : List Bs), (l.foldl withS acc).length ≤ acc.length + l.length := by
  intro l
  induction l with
  | nil => intro acc; simp
  | cons f t ih =>
   intro acc
   have h1 := ih (withS acc f)
   have h2 := with_len acc f
   simp only [List.foldl_cons, List.length_cons]
   omega
 have := this l []
 simpa [setS] using this
theorem getB_mem {l : List Bs} {k : Nat} (hk : k < l.length) : l.getD k [] ∈ l := by
 rw [List.getD_eq_getElem?_getD, List.getElem?_eq_getElem hk]
 exact List.getElem_mem hk
def MakeP (m : List Bs × Int) (v : Value) (A : List As) : Prop := ∃ a c, v = .tuple #[.slice a m.1.length c, .int .i64 m.2] ∧ A = [OwnS a m.1 c]
theorem join_take {l : List Bs} {k : Nat} (hk : k < l.length) : joinS [32] (l.take (k + 1)) = (if 0 < k then joinS [32] (l.take k) ++ [32] else joinS [32] (l.take k)) ++ l.getD k [] := by
 rw [takeB hk]
 by_cases h0 : 0 < k
 ·rw [if_pos h0, join_snoc _ _ (by intro e; have := congrArg List.length e; rw [List.length_take, List.length_nil] at this; omega)]
 ·have : k = 0 := by omega
  subst this
  simp [joinS]
theorem join_mono {l : List Bs} : ∀ k, (joinS [32] (l.take k)).length ≤ (joinS [32] l).length := by
 have key : ∀ n k, k + n = l.length → (joinS [32] (l.take k)).length ≤ (joinS [32] l).length := by
  intro n
  induction n with
  | zero => intro k hk; rw [show k = l.length by omega, List.take_length]; exact Nat.le_refl _
  | succ n ih =>
   intro k hk
   refine Nat.le_trans ?_ (ih (k + 1) (by omega))
   rw [join_take (by omega)]
   split <;> simp only [List.length_append] <;> omega
 intro k
 by_cases h : k ≤ l.length
 ·exact key (l.length - k) k (by omega)
 ·rw [List.take_of_length_le (by omega)]
  exact Nat.le_refl _
theorem PrintR_ct (l : List Bs) (a : Option Addr) (c : Nat) (hl : l.length ≤ big) (hj : (joinS [32] l).length ≤ big) : Pu Tryz.prog 44 [.slice a l.length c] (fun h => RdS h a (fV l)) (B (printF l)) := by
 unfold big at hl hj
 refine ct_enter 23 Tryz.func44 rfl rfl rfl ?_
 intro F hrd
 repeat refine x_ ?_
 refine a_ ?_
 repeat refine x_ ?_
 refine a_ ?_
 repeat refine x_ ?_
 refine a_ ?_
 repeat refine n_ ?_
 refine g_loop (ι := Nat) (fun k => k ≤ l.length) (fun k => [(0, .slice a l.length c), (3, B (40 :: joinS [32] (l.take k))), (4, .int .i64 (k : Nat))]) (fun _ => []) (fun k => l.length - k) 0 (by omega) ?_ ?_ ?_
 ·(repeat (first | exact Sub.nil _ | refine Sub.cons rfl ?_))
 ·intro w hw; exact hw
 ·rintro k hk
  have hm := join_mono (l := l) k
  have hm1 := join_mono (l := l) (k + 1)
  repeat refine x_ ?_
  refine m_ ?_
  refine m_ ?_
  refine f_ (s_len_sl rfl) ?_
  refine f_ (s_lss rfl rfl) ?_
  repeat refine n_ ?_
  refine g_cond rfl (fun h => ?_) (fun h => ?_)
  ·have hk' : k < l.length := by simp at h; omega
   have hsome := rdB_some hrd hk'
   have hjt := join_take hk'
   have hjl := congrArg List.length hjt
   rw [List.length_append] at hjl
   repeat refine x_ ?_
   refine m_ ?_
   refine f_ (s_gtr rfl rfl) ?_
   repeat refine n_ ?_
   refine g_cond rfl (fun h2 => ?_) (fun h2 => ?_)
   ·have h0 : 0 < k := by simp at h2; omega
    rw [if_pos h0] at hjt hjl
    simp only [List.length_append, List.length_singleton] at hjl
    repeat refine x_ ?_
    refine m_ ?_
    refine f_ (s_add_str rfl rfl (by simp only [List.length_cons, List.length_nil]; omega)) ?_
    refine a_ ?_
    repeat refine x_ ?_
    refine m_ ?_
    refine m_ ?_
    refine m_ ?_
    refine f_ (s_indexAddr rfl (by assumption) rfl (by omega)) ?_
    refine r_ (s_load1 rfl (fun w hw => rdB hw hrd (i := k) (by omega) hk')) ?_
    refine f_ ((s_add_str rfl rfl (by simp only [List.length_cons, List.length_append, List.length_nil]; omega)).eq (v' := B (40 :: joinS [32] (l.take (k + 1)))) (by rw [hjt]; rfl)) ?_
    refine a_ ?_
    repeat refine x_ ?_
    refine m_ ?_
    refine f_ (s_add_i64 rfl rfl (by omega)) ?_
    refine a_ ?_
    repeat refine n_ ?_
    refine at_next (k + 1) (by omega) (by omega) ?_ ?_
    ·(repeat (first | exact Sub.nil _ | refine Sub.cons rfl ?_))
    ·intro w hw; exact hw
   ·have h0 : ¬0 < k := by simp at h2; omega
    rw [if_neg h0] at hjt hjl
    repeat refine x_ ?_
    refine m_ ?_
    refine m_ ?_
    refine m_ ?_
    refine f_ (s_indexAddr rfl (by assumption) rfl (by omega)) ?_
    refine r_ (s_load1 rfl (fun w hw => rdB hw hrd (i := k) (by omega) hk')) ?_
    refine f_ ((s_add_str rfl rfl (by simp only [List.length_cons]; omega)).eq (v' := B (40 :: joinS [32] (l.take (k + 1)))) (by rw [hjt]; rfl)) ?_
    refine a_ ?_
    repeat refine x_ ?_
    refine m_ ?_
    refine f_ (s_add_i64 rfl rfl (by omega)) ?_
    refine a_ ?_
    repeat refine n_ ?_
    refine at_next (k + 1) (by omega) (by omega) ?_ ?_
    ·(repeat (first | exact Sub.nil _ | refine Sub.cons rfl ?_))
    ·intro w hw; exact hw
  ·have hkl : k = l.length := by simp at h; omega
   rw [hkl, List.take_length]
   repeat refine x_ ?_
   refine m_ ?_
   refine f_ ((s_add_str rfl rfl (by simp only [List.length_cons, List.length_nil]; omega)).eq (v' := B (printF l)) rfl) ?_
   refine a_ ?_
   repeat refine n_ ?_
   refine g_ret ?_
   exact at_end1 rfl rfl [] ⟨rfl, rfl⟩ (fun _ h => h)
end Go.Proofs.YtgllpcggdcknaaaGreatDoor.Rp
namespace Go.Proofs.YtgllpcggdcknaaaGreatDoor.Rp
open Go Go.Sl
def ParseP (q : List Bs × Nat × Int) (v : Value) (A : List As) : Prop := ∃ a c, v = .tuple #[.slice a q.1.length c, .int .i64 (q.2.1 : Nat), .int .i64 q.2.2] ∧ A = [OwnS a q.1 c]
end Go.Proofs.YtgllpcggdcknaaaGreatDoor.Rp
namespace Go.Proofs.YtgllpcggdcknaaaGreatDoor.Rp
open Go Go.Sl
theorem cut_word {s : Bs} {p j : Nat} (h : p ≤ j) : (s.drop ((p : Nat) : Int).toNat).take (((j : Nat) : Int).toNat - ((p : Nat) : Int).toNat) = (s.drop p).take (j - p) := by simp only [Int.toNat_natCast]
end Go.Proofs.YtgllpcggdcknaaaGreatDoor.Rp
namespace Go.Proofs.YtgllpcggdcknaaaGreatDoor.Rp
open Go Go.Sl
theorem pre_take (w t : Bs) : w.isPrefixOf t = (decide (w.length ≤ t.length) && decide (t.take w.length = w)) := by
 rw [Bool.eq_iff_iff, List.isPrefixOf_iff_prefix, List.prefix_iff_eq_take]
 simp only [Bool.and_eq_true, decide_eq_true_eq]
 constructor
 ·intro h
  refine ⟨?_, h.symm⟩
  have := congrArg List.length h
  rw [List.length_take] at this
  omega
 ·rintro ⟨_, h⟩
  exact h.symm
theorem run_end {f : UInt8 → Bool} {s : Bs} {p j : Nat} (h1 : p ≤ j) (h2 : j ≤ s.length ∨ j = p) (hno : ∀ i, p ≤ i → i < j → f (s.getD i 0) = true) (he : j < s.length → f (s.getD j 0) = false) :
  (s.drop p).takeWhile f = (s.drop p).take (j - p) ∧ j = p + ((s.drop p).takeWhile f).length := by
 have e : s.drop p = (s.drop p).take (j - p) ++ s.drop j := by
  have := (List.take_append_drop (j - p) (s.drop p)).symm
  rw [List.drop_drop, show p + (j - p) = j by omega] at this
  exact this
 have hw : (s.drop p).takeWhile f = (s.drop p).take (j - p) := by
  rw [e]
  rw [takeWhile_of f _ _ (fun c hc => ?_) (fun c hc => ?_)]
  ·rw [← e]
  ·obtain ⟨i, hi, rfl⟩ := List.getElem_of_mem hc
   rw [List.length_take, List.length_drop] at hi
   have := hno (p + i) (by omega) (by omega)
   rw [List.getD_eq_getElem?_getD, List.getElem?_eq_getElem (by omega)] at this
   simpa using this
  ·by_cases hj : j < s.length
   ·rw [drop_get hj] at hc
    simp at hc
    subst hc
    exact he hj
   ·rw [List.drop_of_length_le (by omega)] at hc
    simp at hc
 refine ⟨hw, ?_⟩
 rw [hw, List.length_take, List.length_drop]
 omega
theorem digitsR_ct (n : Nat) (hn : n ≤ 18446744073709551615) : Pu Tryz.prog 43 [.int .u64 (n : Nat)] (fun _ => True) (B (digS n)) := by
 refine ct_enter 5 Tryz.func43 rfl rfl rfl ?_
 intro F _
 repeat refine x_ ?_
 refine a_ ?_
 repeat refine x_ ?_
 refine m_ ?_
 refine gl_callp rfl (DigitsR_ct _ (by omega)) (fun h hh hb => by first | trivial | (first | exact RdS.le (by assumption) hh | (obtain ⟨bs, hb⟩ := hb; exact Sat.rd hb (z_2))) | (refine ⟨?_, ?_⟩ <;> (first | exact RdS.le (by assumption) hh | (obtain ⟨bs, hb⟩ := hb; exact Sat.rd hb (z_2)))) | (refine ⟨?_, ?_, ?_⟩ <;> (first | exact RdS.le (by assumption) hh | (obtain ⟨bs, hb⟩ := hb; exact Sat.rd hb (z_2))))) rfl ?_
 refine a_ ?_
 repeat refine n_ ?_
 refine g_ret ?_
 exact at_end1 rfl rfl [] ⟨rfl, rfl⟩ (fun _ h => h)
theorem may_ct (names : Bs) (c : UInt8) (zero : Bool) (hn : names.length ≤ 1000000000000) : Pu Tryz.prog 74 [B names, U8 c, .bool zero] (fun _ => True) (.bool (zero || names.contains c)) := by
 refine ct_enter 13 Tryz.func74 rfl rfl rfl ?_
 intro F _
 repeat refine x_ ?_
 refine a_ ?_
 repeat refine n_ ?_
 cases zero
 ·repeat refine y_ ?_
  refine g_region ?_
  refine m_ ?_
  refine m_ ?_
  (refine v_ ?_; refine m_ ?_)
  (refine v_ ?_; refine m_ ?_)
  (refine v_ ?_; refine gl_callp rfl (In_ct _ _ (by omega)) (fun h hh hb => by first | trivial | (first | exact RdS.le (by assumption) hh | (obtain ⟨bs, hb⟩ := hb; exact Sat.rd hb (z_2))) | (refine ⟨?_, ?_⟩ <;> (first | exact RdS.le (by assumption) hh | (obtain ⟨bs, hb⟩ := hb; exact Sat.rd hb (z_2)))) | (refine ⟨?_, ?_, ?_⟩ <;> (first | exact RdS.le (by assumption) hh | (obtain ⟨bs, hb⟩ := hb; exact Sat.rd hb (z_2))))) rfl ?_)
  refine f_ (by exact s_pick_f rfl rfl) ?_
  refine a_ ?_
  repeat refine n_ ?_
  refine g_ret ?_
  exact at_end1 rfl rfl [] ⟨rfl, rfl⟩ (fun _ h => h)
 ·repeat refine y_ ?_
  refine g_region ?_
  refine m_ ?_
  refine m_ ?_
  (refine gl_guard_no rfl rfl rfl rfl rfl rfl rfl ?_)
  (refine gl_guard_no rfl rfl rfl rfl rfl rfl rfl ?_)
  (refine gl_guard_no rfl rfl rfl rfl rfl rfl rfl ?_)
  refine f_ z_9 ?_
  refine a_ ?_
  repeat refine n_ ?_
  refine g_ret ?_
  exact at_end1 rfl rfl [] ⟨rfl, rfl⟩ (fun _ h => h)
end Go.Proofs.YtgllpcggdcknaaaGreatDoor.Rp
namespace Go.Proofs.YtgllpcggdcknaaaGreatDoor.Rp
open Go Go.Sl
def plainW (s : Bs) (wo : UInt8) : Bool := s.all (fun c => isPlain c && !decide (c = wo)) && !s.isEmpty && decide (s.length ≤ 512)
theorem plainR_ct (s : Bs) (wo : UInt8) (hs : s.length ≤ 1000000000000) : Pu Tryz.prog 41 [B s, U8 wo] (fun _ => True) (.bool (plainW s wo)) := by
 refine ct_enter 37 Tryz.func41 rfl rfl rfl ?_
 intro F _
 repeat refine x_ ?_
 refine a_ ?_
 repeat refine x_ ?_
 refine a_ ?_
 repeat refine n_ ?_
 refine g_loop (ι := Nat) (fun k => k ≤ s.length ∧ ∀ j, j < k → (isPlain (s.getD j 0) && !decide (s.getD j 0 = wo)) = true) (fun k => [(0, B s), (1, U8 wo), (5, .int .i64 (k : Nat))]) (fun _ => []) (fun k => s.length - k) 0 ⟨by omega, fun j h => by omega⟩ ?_ ?_ ?_
 ·(repeat (first | exact Sub.nil _ | refine Sub.cons rfl ?_))
 ·intro w hw; exact hw
 ·rintro k ⟨hk, hno⟩
  repeat refine x_ ?_
  refine m_ ?_
  refine m_ ?_
  refine f_ (s_len_str rfl) ?_
  refine f_ (s_lss rfl rfl) ?_
  repeat refine n_ ?_
  refine g_cond rfl (fun h => ?_) (fun h => ?_)
  ·have hk' : k < s.length := by simp at h; omega
   obtain ⟨p1, hp1⟩ : ∃ q, q = decide (((s.getD k 0).toNat : Int) < 32) := ⟨_, rfl⟩
   obtain ⟨p2, hp2⟩ : ∃ q, q = decide ((126 : Int) < ((s.getD k 0).toNat : Nat)) := ⟨_, rfl⟩
   obtain ⟨p3, hp3⟩ : ∃ q, q = decide (s.getD k 0 = wo) := ⟨_, rfl⟩
   have hb : (isPlain (s.getD k 0) && !decide (s.getD k 0 = wo)) = !(p1 || (p2 || p3)) := by
    rw [← hp3, hp1, hp2, Bool.eq_iff_iff]
    simp only [isPlain, Bool.and_eq_true, Bool.not_eq_true', Bool.or_eq_false_iff, decide_eq_true_eq, decide_eq_false_iff_not]
    constructor
    ·rintro ⟨⟨a, b⟩, c⟩; exact ⟨by omega, by omega, c⟩
    ·rintro ⟨a, b, c⟩; exact ⟨⟨by omega, by omega⟩, c⟩
   repeat refine y_ ?_
   refine g_cutK [(0, B s), (1, U8 wo), (5, .int .i64 (k : Nat)), (28, .bool (p1 || (p2 || p3)))] [] ?_ ?_
   ·cases p1 <;> cases p2
    all_goals (
     repeat refine x_ ?_
     refine m_ ?_
     refine m_ ?_
     refine f_ ((s_index_str rfl rfl (by omega)).eq (v' := U8 (s.getD k 0)) (by simp only [Int.toNat_natCast])) ?_
     refine f_ ((s_lss rfl rfl).eb hp1) ?_
     refine m_ ?_
     (first | refine gl_guard_no rfl rfl rfl rfl rfl rfl rfl ?_ | (refine v_ ?_; refine m_ ?_))
     (first | refine gl_guard_no rfl rfl rfl rfl rfl rfl rfl ?_ | (refine v_ ?_; refine m_ ?_))
     (first | refine gl_guard_no rfl rfl rfl rfl rfl rfl rfl ?_ | (refine v_ ?_; refine f_ ((s_index_str rfl rfl (by omega)).eq (v' := U8 (s.getD k 0)) (by simp only [Int.toNat_natCast])) ?_))
     (first | refine gl_guard_no rfl rfl rfl rfl rfl rfl rfl ?_ | (refine v_ ?_; refine f_ ((s_gtr rfl rfl).eb hp2) ?_))
     refine f_ z_4 ?_
     refine m_ ?_
     (first | refine gl_guard_no rfl rfl rfl rfl rfl rfl rfl ?_ | (refine v_ ?_; refine m_ ?_))
     (first | refine gl_guard_no rfl rfl rfl rfl rfl rfl rfl ?_ | (refine v_ ?_; refine m_ ?_))
     (first | refine gl_guard_no rfl rfl rfl rfl rfl rfl rfl ?_ | (refine v_ ?_; refine f_ ((s_index_str rfl rfl (by omega)).eq (v' := U8 (s.getD k 0)) (by simp only [Int.toNat_natCast])) ?_))
     (first | refine gl_guard_no rfl rfl rfl rfl rfl rfl rfl ?_ | (refine v_ ?_; refine m_ ?_))
     (first | refine gl_guard_no rfl rfl rfl rfl rfl rfl rfl ?_ | (refine v_ ?_; refine f_ ((s_eql rfl rfl).eq ((congrArg Value.bool u8_eq).trans (congrArg Value.bool hp3.symm))) ?_))
     refine f_ z_4 ?_
     refine gl_nil ?_
     repeat refine y_ ?_)
    all_goals exact at_cut j_ i_
   ·repeat refine y_ ?_
    refine g_cond rfl (fun h2 => ?_) (fun h2 => ?_)
    ·have e : plainW s wo = false := by
      unfold plainW
      rw [all_no (p := fun c => isPlain c && !decide (c = wo)) hk' (by rw [hb, h2]; rfl)]
      rfl
     rw [e]
     repeat refine x_ ?_
     refine a_ ?_
     repeat refine n_ ?_
     refine g_ret ?_
     exact at_end1 rfl rfl [] ⟨rfl, rfl⟩ (fun _ h => h)
    ·repeat refine y_ ?_
     repeat refine x_ ?_
     refine m_ ?_
     refine f_ (s_add_i64 rfl rfl (by omega)) ?_
     refine a_ ?_
     repeat refine n_ ?_
     refine at_next (k + 1) ⟨by omega, fun j hj => ?_⟩ (by omega) ?_ ?_
     ·rcases Nat.lt_succ_iff_lt_or_eq.1 hj with h4 | rfl
      ·exact hno j h4
      ·rw [hb, h2]; rfl
     ·(repeat (first | exact Sub.nil _ | refine Sub.cons rfl ?_))
     ·intro w hw; exact hw
  ·have hkl : k = s.length := by simp at h; omega
   subst hkl
   obtain ⟨q1, hq1⟩ : ∃ q, q = decide ((1 : Int) ≤ (s.length : Nat)) := ⟨_, rfl⟩
   obtain ⟨q2, hq2⟩ : ∃ q, q = decide ((s.length : Int) ≤ 512) := ⟨_, rfl⟩
   have e : plainW s wo = (q1 && q2) := by
    unfold plainW
    rw [all_yes (p := fun c => isPlain c && !decide (c = wo)) hno, hq1, hq2, Bool.true_and, Bool.eq_iff_iff]
    simp only [Bool.and_eq_true, Bool.not_eq_true', List.isEmpty_eq_false_iff, decide_eq_true_eq]
    constructor
    ·rintro ⟨a, b⟩; have := List.length_pos_iff.mpr a; omega
    ·rintro ⟨a, b⟩; exact ⟨List.length_pos_iff.mp (by omega), by omega⟩
   rw [e]
   repeat refine y_ ?_
   cases q1
   all_goals (
    repeat refine x_ ?_
    refine m_ ?_
    refine f_ (s_len_str rfl) ?_
    refine f_ ((s_geq rfl rfl).eb hq1) ?_
    refine m_ ?_
    (first | refine gl_guard_no rfl rfl rfl rfl rfl rfl rfl ?_ | (refine v_ ?_; refine m_ ?_))
    (first | refine gl_guard_no rfl rfl rfl rfl rfl rfl rfl ?_ | (refine v_ ?_; refine f_ (s_len_str rfl) ?_))
    (first | refine gl_guard_no rfl rfl rfl rfl rfl rfl rfl ?_ | (refine v_ ?_; refine f_ ((s_leq rfl rfl).eb hq2) ?_))
    refine f_ z_4 ?_
    refine a_ ?_
    refine gl_nil ?_
    repeat refine y_ ?_)
   all_goals (refine g_ret ?_; exact at_end1 rfl rfl [] ⟨rfl, rfl⟩ (fun _ h => h))
theorem tagR_ct (s : Bs) (hs : s.length ≤ 1000000000000) : Pu Tryz.prog 42 [B s] (fun _ => True) (.bool (tagP s)) := by
 obtain ⟨q1, hq1⟩ : ∃ q, q = atomS s := ⟨_, rfl⟩
 obtain ⟨q2, hq2⟩ : ∃ q, q = s.contains 43 := ⟨_, rfl⟩
 obtain ⟨q3, hq3⟩ : ∃ q, q = decide ((s.length : Int) ≤ 32) := ⟨_, rfl⟩
 have e : tagP s = (q1 && (!q2 && q3)) := by
  unfold tagP
  rw [hq1, hq2, hq3, Bool.and_assoc]
  congr 2
  exact decide_eq_decide.mpr (by omega)
 rw [e]
 refine ct_enter 15 Tryz.func42 rfl rfl rfl ?_
 intro F _
 repeat refine x_ ?_
 refine a_ ?_
 repeat refine n_ ?_
 cases q1 <;> cases q2
 all_goals (
  repeat refine x_ ?_
  refine m_ ?_
  refine gl_callp rfl (AtomR_ct s (by omega)) (fun _ _ _ => trivial) rfl ?_; rw [← hq1]
  refine m_ ?_
  (first | refine gl_guard_no rfl rfl rfl rfl rfl rfl rfl ?_ | (refine v_ ?_; refine m_ ?_))
  (first | refine gl_guard_no rfl rfl rfl rfl rfl rfl rfl ?_ | (refine v_ ?_; refine gl_callp rfl (In_ct 43 s (by omega)) (fun _ _ _ => trivial) rfl ?_; rw [← hq2]))
  (first | refine gl_guard_no rfl rfl rfl rfl rfl rfl rfl ?_ | (refine v_ ?_; refine f_ (s_not rfl) ?_))
  refine f_ z_4 ?_
  refine m_ ?_
  (first | refine gl_guard_no rfl rfl rfl rfl rfl rfl rfl ?_ | (refine v_ ?_; refine m_ ?_))
  (first | refine gl_guard_no rfl rfl rfl rfl rfl rfl rfl ?_ | (refine v_ ?_; refine f_ (s_len_str rfl) ?_))
  (first | refine gl_guard_no rfl rfl rfl rfl rfl rfl rfl ?_ | (refine v_ ?_; refine f_ ((s_leq rfl rfl).eb hq3) ?_))
  refine f_ z_4 ?_
  refine a_ ?_
  refine gl_nil ?_
  repeat refine y_ ?_)
 all_goals (refine g_ret ?_; exact at_end1 rfl rfl [] ⟨rfl, rfl⟩ (fun _ h => h))
theorem boxQ_ct (s : Bs) (hs : s.length ≤ 1000000000000) : Pu Tryz.prog 47 [B s] (fun _ => True) (.bool (isBox s)) := by
 refine ct_enter 16 Tryz.func47 rfl rfl rfl ?_
 intro F _
 repeat refine x_ ?_
 refine a_ ?_
 repeat refine x_ ?_
 refine m_ ?_
 refine gl_callp rfl (BoxR_ct s (by unfold big; omega)) (fun _ _ _ => trivial) rfl ?_
 refine m_ ?_
 refine f_ (s_extract rfl rfl) ?_
 refine f_ (s_extract rfl rfl) ?_
 refine a_ ?_
 refine a_ ?_
 repeat refine n_ ?_
 cases hb : boxN s with
 | none =>
  have e : isBox s = false := by unfold isBox; rw [hb]; simp
  rw [e]
  repeat refine x_ ?_
  refine m_ ?_
  refine m_ ?_
  (refine gl_guard_no rfl rfl rfl rfl rfl rfl rfl ?_)
  (refine gl_guard_no rfl rfl rfl rfl rfl rfl rfl ?_)
  (refine gl_guard_no rfl rfl rfl rfl rfl rfl rfl ?_)
  refine f_ (by exact s_pick_f rfl rfl) ?_
  refine a_ ?_
  repeat refine n_ ?_
  refine g_ret ?_
  exact at_end1 rfl rfl [] ⟨rfl, rfl⟩ (fun _ h => h)
 | some b =>
  have e : isBox s = decide (b = s) := by unfold isBox; rw [hb]; simp
  rw [e]
  repeat refine x_ ?_
  refine m_ ?_
  refine m_ ?_
  (refine v_ ?_; refine m_ ?_)
  (refine v_ ?_; refine m_ ?_)
  (refine v_ ?_; refine f_ (s_eql_str rfl rfl) ?_)
  refine f_ z_9 ?_
  refine a_ ?_
  repeat refine n_ ?_
  refine g_ret ?_
  exact at_end1 rfl rfl [] ⟨rfl, rfl⟩ (fun _ h => h)
end Go.Proofs.YtgllpcggdcknaaaGreatDoor.Rp
namespace Go.Proofs.YtgllpcggdcknaaaGreatDoor.Rp
open Go Go.Sl
theorem itemR_ct (k : Nat) (hk : 1 ≤ k ∧ k ≤ 12) : Pu Tryz.prog 85 [.int .i64 (k : Nat)] (fun _ => True) (B (itemA k)) := by
 have hl : k - 1 < itemW.length := by have : itemW.length = 12 := rfl; omega
 refine ct_enter 8 Tryz.func85 rfl rfl rfl ?_
 intro F _
 repeat refine x_ ?_
 refine a_ ?_
 repeat refine x_ ?_
 refine gl_buildSliceU rfl rfl rfl rfl rfl rfl (xs := fV itemW) rfl rfl ?_; rintro a3 ⟨ad3, rfl⟩
 refine m_ ?_
 refine f_ (s_sub_i64 rfl rfl (by omega)) ?_
 refine f_ ((s_indexAddr rfl ⟨ad3, rfl⟩ rfl (by omega))) ?_
 refine r_ (s_load1 rfl (fun w hw => rdB_own hw z_2 (i := k - 1) (by omega) hl)) ?_
 refine a_ ?_
 repeat refine n_ ?_
 refine g_ret ?_
 exact at_end1 rfl rfl [] ⟨rfl, rfl⟩ (fun _ h => h.dropAll)
theorem uqL_le : ∀ (n : Nat) (s b : Bs) (i : Nat) (t : Bs) (m : Nat), s.length ≤ n → uqL b i s = some (t, m) → m ≤ i + s.length
 | _, [], _, _, _, _, _, h => by simp [uqL] at h
 | 0, c :: s, _, _, _, _, hn, _ => by simp at hn
 | n + 1, c :: s, b, i, t, m, hn, h => by
  simp only [List.length_cons] at hn ⊢
  rw [uqL_cons] at h
  split at h
  ·cases h
  split at h
  ·simp at h; omega
  split at h
  ·split at h
   ·cases h
   ·next d t' =>
    split at h
    ·simp only [List.length_cons] at hn ⊢
     have := uqL_le n t' _ _ t m (by omega) h
     omega
    ·cases h
  split at h
  ·have := uqL_le n s _ _ t m (by omega) h
   omega
  ·cases h
theorem uqS_le {s : Bs} : ((uqS s).getD ([], 0)).2 ≤ s.length := by
 cases h : uqS s with
 | none => simp
 | some q =>
  obtain ⟨t, m⟩ := q
  cases s with
  | nil => cases h
  | cons c v =>
   unfold uqS at h
   simp only at h
   split at h
   ·have := uqL_le v.length v [] 1 t m (Nat.le_refl _) h
    simp
    omega
   ·cases h
theorem to_le {s : Bs} {p : Nat} {stops : Bs} (h : p ≤ s.length) : toS s p stops ≤ s.length := by
 unfold toS stopW
 have h1 := congrArg List.length (takeWhile_split (fun c => !stops.contains c) (s.drop p))
 rw [List.length_append, List.length_drop] at h1
 omega
end Go.Proofs.YtgllpcggdcknaaaGreatDoor.Rp
namespace Go.Proofs.YtgllpcggdcknaaaGreatDoor.Rp
open Go Go.Sl
theorem getB_ext {l m : List Bs} (hlen : l.length = m.length) (h : ∀ i, i < l.length → l.getD i [] = m.getD i []) : l = m := by
 apply List.ext_getElem hlen
 intro i h1 h2
 have := h i h1
 rw [List.getD_eq_getElem?_getD, List.getD_eq_getElem?_getD, List.getElem?_eq_getElem h1, List.getElem?_eq_getElem h2] at this
 exact this
theorem SameF_ct (l m : List Bs) (a b : Option Addr) (c d : Nat) (hl : l.length ≤ 1000000000000) : Pu Tryz.prog 18 [.slice a l.length c, .slice b m.length d] (fun h => RdS h a (fV l) ∧ RdS h b (fV m)) (.bool (decide (l = m))) := by
 refine ct_enter 26 Tryz.func18 rfl rfl rfl ?_
 intro F hr
 have hrd := hr.1
 have hrm := hr.2
 repeat refine x_ ?_
 refine a_ ?_
 repeat refine x_ ?_
 refine m_ ?_
 refine f_ (s_len_sl rfl) ?_
 refine m_ ?_
 refine f_ (s_len_sl rfl) ?_
 refine f_ (s_neq rfl rfl) ?_
 repeat refine n_ ?_
 refine g_cond rfl (fun h => ?_) (fun h => ?_)
 ·have hne : l ≠ m := by rintro rfl; simp at h
  rw [decide_eq_false hne]
  repeat refine x_ ?_
  refine a_ ?_
  repeat refine n_ ?_
  refine g_ret ?_
  exact at_end1 rfl rfl [] ⟨rfl, rfl⟩ (fun _ h => h)
 ·have hlen : l.length = m.length := by simp at h; omega
  repeat refine x_ ?_
  refine a_ ?_
  repeat refine n_ ?_
  refine g_loop (ι := Nat) (fun k => k ≤ l.length ∧ ∀ i, i < k → l.getD i [] = m.getD i []) (fun k => [(0, .slice a l.length c), (1, .slice b m.length d), (5, .int .i64 (k : Nat))]) (fun k => []) (fun k => l.length - k) 0 ⟨by omega, fun i h => by omega⟩ ?_ ?_ ?_
  ·(repeat (first | exact Sub.nil _ | refine Sub.cons rfl ?_))
  ·intro w hw; exact hw
  ·intro k hk
   obtain ⟨hk, hok⟩ := hk
   repeat refine x_ ?_
   refine m_ ?_
   refine m_ ?_
   refine f_ (s_len_sl rfl) ?_
   refine f_ (s_lss rfl rfl) ?_
   repeat refine n_ ?_
   refine g_cond rfl (fun h => ?_) (fun h => ?_)
   ·have hk' : k < l.length := by simp at h; omega
    have hsome := rdB_some hrd hk'
    have hsome2 := rdB_some hrm (i := k) (by omega)
    repeat refine y_ ?_
    refine g_draw0 ([3, 7], [0, 0, 3, 7, 0, 0, 48, 112, 255], []) 9 rfl ?_
    refine w_ 0 rfl (s_move rfl) ?_
    refine w_ 1 rfl (s_move rfl) ?_
    refine w_ 2 rfl (s_indexAddr rfl (by assumption) rfl (by omega)) ?_
    refine ga_readF 3 rfl (s_load1 rfl (fun w hw => rdB hw hrd (i := k) (by omega) (by omega))) z_8 rfl rfl rfl z_5 ?_
    refine w_ 4 rfl (s_move rfl) ?_
    refine w_ 5 rfl (s_move rfl) ?_
    refine w_ 6 rfl (s_indexAddr rfl (by assumption) rfl (by omega)) ?_
    refine ga_readF 7 rfl (s_load1 rfl (fun w hw => rdB hw hrm (i := k) (by omega) (by omega))) z_8 rfl rfl rfl z_5 ?_
    refine w_ 8 rfl (s_neq_str rfl rfl) ?_
    refine ga_done z_5 ?_
    repeat refine y_ ?_
    refine g_cond rfl (fun h2 => ?_) (fun h2 => ?_)
    ·have hne : l ≠ m := by rintro rfl; simp at h2
     rw [decide_eq_false hne]
     repeat refine x_ ?_
     refine a_ ?_
     repeat refine n_ ?_
     refine g_ret ?_
     exact at_end1 rfl rfl [] ⟨rfl, rfl⟩ (fun _ h => h)
    ·have h3 : l.getD k [] = m.getD k [] := by simpa using h2
     repeat refine x_ ?_
     refine m_ ?_
     refine f_ (s_add_i64 rfl rfl (by omega)) ?_
     refine a_ ?_
     repeat refine n_ ?_
     refine at_next (k + 1) ⟨by omega, fun i hi => ?_⟩ (by omega) ?_ ?_
     ·rcases Nat.lt_succ_iff_lt_or_eq.1 hi with h4 | rfl
      ·exact hok i h4
      ·exact h3
     ·(repeat (first | exact Sub.nil _ | refine Sub.cons rfl ?_))
     ·intro w hw; exact hw
   ·have hkl : k = l.length := by simp at h; omega
    have e : l = m := getB_ext hlen fun i hi => hok i (by omega)
    rw [decide_eq_true e]
    repeat refine x_ ?_
    refine a_ ?_
    repeat refine n_ ?_
    refine g_ret ?_
    exact at_end1 rfl rfl [] ⟨rfl, rfl⟩ (fun _ h => h)
end Go.Proofs.YtgllpcggdcknaaaGreatDoor.Rp
namespace Go.Proofs.YtgllpcggdcknaaaGreatDoor.Rp
open Go Go.Sl
structure VM where
 v : RV
 a : Option Addr
 c : Nat
abbrev VM0 : VM := ⟨V0, none, 0⟩
abbrev vmC (x : VM) : List Value := [.int .i64 x.v.kind, .int .u64 (x.v.n : Nat), .slice x.a x.v.flags.length x.c, B x.v.text, .bool x.v.part, .int .u64 (x.v.fr : Nat)]
abbrev vmA (x : VM) : Value := .agg #[.int .i64 x.v.kind, .int .u64 (x.v.n : Nat), .slice x.a x.v.flags.length x.c, B x.v.text, .bool x.v.part, .int .u64 (x.v.fr : Nat)]
abbrev vmV (l : List VM) : List Value := l.flatMap vmC
theorem vmC_len : ∀ x, (vmC x).length = 6 := fun _ => rfl
theorem vmC_one : ∀ x, ∀ q ∈ vmC x, q.oneCell' = true := fun x q hq => by simp at hq; rcases hq with rfl | rfl | rfl | rfl | rfl | rfl <;> rfl
theorem vmV_len (l : List VM) : (vmV l).length = l.length * 6 := rec_length (C := vmC) vmC_len l
theorem vmV_one (l : List VM) : ∀ q ∈ vmV l, q.oneCell' = true := rec_one (C := vmC) vmC_one l
theorem vmV_append (a b : List VM) : vmV (a ++ b) = vmV a ++ vmV b := List.flatMap_append
def nV (l : List Nat) : List Value := l.map fun n => .int .u64 (n : Nat)
theorem nV_len (l : List Nat) : (nV l).length = l.length := by simp [nV]
theorem nV_one (l : List Nat) : ∀ q ∈ nV l, q.oneCell' = true := fun q hq => by
 obtain ⟨x, _, rfl⟩ := List.mem_map.mp hq
 rfl
theorem nV_append (a b : List Nat) : nV (a ++ b) = nV a ++ nV b := by simp [nV]
structure RL where
 na : Option Addr
 nc : Nat
 fa : Option Addr
 fc : Nat
 va : Option Addr
 vc : Nat
 vs : List VM
abbrev L0 : RL := ⟨none, 0, none, 0, none, 0, []⟩
abbrev rrC (r : RR) (x : RL) : List Value := [.int .i64 r.kind, B r.tag, B r.code, B r.text, .int .u64 (r.n : Nat), .slice x.na r.nums.length x.nc, .int .u64 (r.mod : Nat), .slice x.fa r.flags.length x.fc, B r.box, .slice x.va x.vs.length x.vc]
abbrev rrA (r : RR) (x : RL) : Value := .agg #[.int .i64 r.kind, B r.tag, B r.code, B r.text, .int .u64 (r.n : Nat), .slice x.na r.nums.length x.nc, .int .u64 (r.mod : Nat), .slice x.fa r.flags.length x.fc, B r.box, .slice x.va x.vs.length x.vc]
structure RRd (r : RR) (x : RL) (h : Heap) : Prop where
 vals : r.values = x.vs.map VM.v
 nums : RdS h x.na (nV r.nums)
 flags : RdS h x.fa (fV r.flags)
 vs : RdS h x.va (vmV x.vs)
 fs : ∀ m ∈ x.vs, RdS h m.a (fV m.v.flags)
theorem RRd.le {r : RR} {x : RL} {h h' : Heap} (k : RRd r x h) (hl : Heap.le h h') : RRd r x h' := ⟨k.vals, k.nums.le hl, k.flags.le hl, k.vs.le hl, fun m hm => (k.fs m hm).le hl⟩
def vsH (l : List VM) : List As := l.map fun m => OwnS m.a m.v.flags m.c
def rrH (r : RR) (x : RL) : List As := .own (.slice x.na r.nums.length x.nc) 22 1 (nV r.nums) :: OwnS x.fa r.flags x.fc :: .own (.slice x.va x.vs.length x.vc) 46 6 (vmV x.vs) :: vsH x.vs
theorem vsH_append (a b : List VM) : vsH (a ++ b) = vsH a ++ vsH b := by simp [vsH]
theorem rd_of_own {h : Heap} {bs : List Nat} {a : Option Addr} {n c sz : Nat} {t : TypeId} {xs : List Value} {H : List As} (hs : Sat h H bs) (hm : As.own (.slice a n c) t sz xs ∈ H) : RdS h a xs := by
 obtain ⟨A, C, rfl⟩ := List.append_of_mem hm
 obtain ⟨ba, bb, rfl, _, h2⟩ := Sat.split hs
 exact Sat.rd h2 .del
theorem RRd.of_own {r : RR} {x : RL} {h : Heap} {bs : List Nat} {H : List As} (hv : r.values = x.vs.map VM.v) (hs : Sat h H bs) (hm : ∀ y ∈ rrH r x, y ∈ H) : RRd r x h :=
 ⟨hv, rd_of_own hs (hm _ (.head _)), rd_of_own hs (hm _ (.tail _ (.head _))), rd_of_own hs (hm _ (.tail _ (.tail _ (.head _)))), fun m hm' => rd_of_own hs (hm _ (.tail _ (.tail _ (.tail _ (List.mem_map.mpr ⟨m, hm', rfl⟩)))))⟩
end Go.Proofs.YtgllpcggdcknaaaGreatDoor.Rp
namespace Go.Proofs.YtgllpcggdcknaaaGreatDoor.Rp
open Go Go.Sl
theorem chain_at : ∀ {l : List Bs}, chain l = true → ∀ j, 0 < j → j < l.length → lessS (l.getD (j - 1) []) (l.getD j []) = true
 | [], _, j, _, h => by simp at h
 | [a], _, j, h0, h => by simp at h; omega
 | a :: b :: t, hc, j, h0, h => by
  simp only [chain, Bool.and_eq_true] at hc
  rcases Nat.lt_or_ge j 2 with hj | hj
  ·have : j = 1 := by omega
   subst this
   exact hc.1
  ·have := chain_at hc.2 (j - 1) (by omega) (by simp only [List.length_cons] at h ⊢; omega)
   obtain ⟨i, rfl⟩ : ∃ i, j = i + 2 := ⟨j - 2, by omega⟩
   exact this
theorem chain_of : ∀ {l : List Bs}, (∀ j, 0 < j → j < l.length → lessS (l.getD (j - 1) []) (l.getD j []) = true) → chain l = true
 | [], _ => rfl
 | [a], _ => rfl
 | a :: b :: t, h => by
  simp only [chain, Bool.and_eq_true]
  refine ⟨h 1 (by omega) z_10, chain_of fun j h0 hj => ?_⟩
  have := h (j + 1) (by omega) (by simp only [List.length_cons] at hj ⊢; omega)
  obtain ⟨i, rfl⟩ : ∃ i, j = i + 1 := ⟨j - 1, by omega⟩
  exact this
theorem right_no {l : List Bs} {k : Nat} (hk : k < l.length) (h : canonS (l.getD k []) ≠ some (l.getD k []) ∨ 0 < k ∧ lessS (l.getD (k - 1) []) (l.getD k []) = false) : rightS l = false := by
 cases e : rightS l with
 | false => rfl
 | true =>
  exfalso
  unfold rightS at e
  simp only [Bool.and_eq_true, List.all_eq_true, decide_eq_true_eq] at e
  rcases h with h | ⟨h0, h⟩
  ·exact h (e.1.1 _ (getB_mem hk))
  ·have := chain_at e.1.2 k h0 hk
   rw [h] at this
   cases this
theorem RightR_ct (l : List Bs) (a : Option Addr) (c : Nat) (hl : l.length ≤ big) (hb : ∀ f ∈ l, f.length ≤ big) : Pu Tryz.prog 45 [.slice a l.length c] (fun h => RdS h a (fV l)) (.bool (rightS l)) := by
 have hl' := hl
 unfold big at hl
 refine ct_enter 50 Tryz.func45 rfl rfl rfl ?_
 intro F hrd
 repeat refine x_ ?_
 refine a_ ?_
 repeat refine x_ ?_
 refine a_ ?_
 repeat refine n_ ?_
 refine g_loop (ι := Nat) (fun k => k ≤ l.length ∧ ∀ j, j < k → canonS (l.getD j []) = some (l.getD j []) ∧ (0 < j → lessS (l.getD (j - 1) []) (l.getD j []) = true)) (fun k => [(0, .slice a l.length c), (3, .int .i64 (k : Nat))]) (fun _ => []) (fun k => l.length - k) 0 ⟨by omega, fun j h => by omega⟩ ?_ ?_ ?_
 ·(repeat (first | exact Sub.nil _ | refine Sub.cons rfl ?_))
 ·intro w hw; exact hw
 ·rintro k ⟨hk, hno⟩
  repeat refine x_ ?_
  refine m_ ?_
  refine m_ ?_
  refine f_ (s_len_sl rfl) ?_
  refine f_ (s_lss rfl rfl) ?_
  repeat refine n_ ?_
  refine g_cond rfl (fun h => ?_) (fun h => ?_)
  ·have hk' : k < l.length := by simp at h; omega
   have hsome := rdB_some hrd hk'
   have hbk := hb _ (getB_mem hk')
   repeat refine x_ ?_
   refine m_ ?_
   refine m_ ?_
   refine f_ (s_indexAddr rfl (by assumption) rfl (by omega)) ?_
   refine r_ (s_load1 rfl (fun w hw => rdB hw hrd (i := k) (by omega) hk')) ?_
   refine gl_callp rfl (CanonR_ct (l.getD k []) hbk) (fun _ _ _ => trivial) rfl ?_
   refine m_ ?_
   refine f_ (s_extract rfl rfl) ?_
   refine f_ (s_extract rfl rfl) ?_
   refine a_ ?_
   refine a_ ?_
   repeat refine n_ ?_
   obtain ⟨q0, hq0⟩ : ∃ q, q = (canonS (l.getD k [])).isSome := ⟨_, rfl⟩
   obtain ⟨x, hx⟩ : ∃ x, x = (canonS (l.getD k [])).getD [] := ⟨_, rfl⟩
   obtain ⟨q1, hq1⟩ : ∃ q, q = decide (x = l.getD k []) := ⟨_, rfl⟩
   obtain ⟨q2, hq2⟩ : ∃ q, q = decide ((0 : Int) < (k : Nat)) := ⟨_, rfl⟩
   rw [← hq0, ← hx]
   repeat refine y_ ?_
   refine g_cutK [(0, .slice a l.length c), (3, .int .i64 (k : Nat)), (46, .bool (!q0 || (!q1 || (q2 && !lessS (l.getD (k - 1) []) (l.getD k [])))))] [] ?_ ?_
   ·cases q0 <;> cases q1 <;> cases q2
    all_goals (
     repeat refine y_ ?_
     refine g_draw0 ([7, 18, 22], [0, 1, 3, 7, 7, 7, 55, 119, 255, 511, 1023, 2047, 4095, 8191, 16383, 16383, 49151, 131071, 262143, 16383, 16383, 1589247, 3686399, 8388607, 16777215, 33554431, 67108863], []) 27 rfl ?_
     refine w_ 0 rfl (s_move rfl) ?_
     refine w_ 1 rfl (s_not rfl) ?_
     refine w_ 2 rfl (s_move rfl) ?_
     (first | refine s_ 3 ?_ | refine ga_free_g 3 rfl (s_move rfl) rfl rfl rfl rfl rfl rfl z_5 ?_)
     (first | refine s_ 4 ?_ | refine ga_free_g 4 rfl (s_move rfl) rfl rfl rfl rfl rfl rfl z_5 ?_)
     (first | refine s_ 5 ?_ | refine ga_free_g 5 rfl (s_move rfl) rfl rfl rfl rfl rfl rfl z_5 ?_)
     (first | refine s_ 6 ?_ | refine ga_free_g 6 rfl (s_indexAddr rfl (by assumption) rfl (by omega)) rfl rfl rfl rfl rfl rfl z_5 ?_)
     (first | refine s_ 7 ?_ | refine ga_readF_g 7 rfl (s_load1 rfl (fun w hw => rdB hw hrd (i := k) (by omega) (by omega))) z_8 rfl rfl rfl rfl rfl rfl z_5 ?_)
     (first | refine s_ 8 ?_ | refine ga_free_g 8 rfl ((s_neq_str rfl rfl).eq (congrArg (fun b => Value.bool (!b)) hq1.symm)) rfl rfl rfl rfl rfl rfl z_5 ?_)
     refine w_ 9 rfl z_4 ?_
     refine w_ 10 rfl (s_move rfl) ?_
     (first | refine s_ 11 ?_ | refine ga_free_g 11 rfl (s_move rfl) rfl rfl rfl rfl rfl rfl z_5 ?_)
     (first | refine s_ 12 ?_ | refine ga_free_g 12 rfl ((s_gtr rfl rfl).eb hq2) rfl rfl rfl rfl rfl rfl z_5 ?_)
     (first | refine s_ 13 ?_ | refine ga_free_g 13 rfl (s_move rfl) rfl rfl rfl rfl rfl rfl z_5 ?_)
     (first | refine s_ 14 ?_ | refine t_ 14 ?_ | refine ga_free_g 14 rfl (s_move rfl) rfl rfl rfl rfl rfl rfl z_5 ?_)
     (first | refine s_ 15 ?_ | refine t_ 15 ?_ | refine ga_free_g 15 rfl (s_move rfl) rfl rfl rfl rfl rfl rfl z_5 ?_)
     (first | refine s_ 16 ?_ | refine t_ 16 ?_ | refine ga_free_g 16 rfl (s_sub_i64 rfl rfl (by omega)) rfl rfl rfl rfl rfl rfl z_5 ?_)
     (first | refine s_ 17 ?_ | refine t_ 17 ?_ | refine ga_free_g 17 rfl (s_indexAddr rfl hsome rfl (by simp at hq2; omega)) rfl rfl rfl rfl rfl rfl z_5 ?_)
     (first | refine s_ 18 ?_ | refine t_ 18 ?_ | refine ga_readF_g 18 rfl (s_load1 rfl (fun w hw => rdB hw hrd (i := k - 1) (by simp at hq2; omega) (by omega))) z_8 rfl rfl rfl rfl rfl rfl z_5 ?_)
     (first | refine s_ 19 ?_ | refine t_ 19 ?_ | refine ga_free_g 19 rfl (s_move rfl) rfl rfl rfl rfl rfl rfl z_5 ?_)
     (first | refine s_ 20 ?_ | refine t_ 20 ?_ | refine ga_free_g 20 rfl (s_move rfl) rfl rfl rfl rfl rfl rfl z_5 ?_)
     (first | refine s_ 21 ?_ | refine t_ 21 ?_ | refine ga_free_g 21 rfl (s_indexAddr rfl (by assumption) rfl (by omega)) rfl rfl rfl rfl rfl rfl z_5 ?_)
     (first | refine s_ 22 ?_ | refine t_ 22 ?_ | refine ga_readF_g 22 rfl (s_load1 rfl (fun w hw => rdB hw hrd (i := k) (by omega) (by omega))) z_8 rfl rfl rfl rfl rfl rfl z_5 ?_)
     refine ga_one 23 rfl z_5 ?_
     (first|refine u_ ?_|(refine v_ ?_; refine gl_callp rfl (less_ct _ _) (fun h hh hb => by first | trivial | (first | exact RdS.le (by assumption) hh | (obtain ⟨bs, hb⟩ := hb; exact Sat.rd hb (z_2))) | (refine ⟨?_, ?_⟩ <;> (first | exact RdS.le (by assumption) hh | (obtain ⟨bs, hb⟩ := hb; exact Sat.rd hb (z_2)))) | (refine ⟨?_, ?_, ?_⟩ <;> (first | exact RdS.le (by assumption) hh | (obtain ⟨bs, hb⟩ := hb; exact Sat.rd hb (z_2))))) rfl ?_))
     refine gl_nil ?_
     refine at_ga (.inl z_5) ?_
     (first | refine s_ 24 ?_ | refine t_ 24 ?_ | refine ga_free_g 24 rfl (s_not rfl) rfl rfl rfl rfl rfl rfl z_5 ?_)
     (first | refine s_ 25 ?_ | refine ga_free_g 25 rfl z_4 rfl rfl rfl rfl rfl rfl z_5 ?_)
     refine w_ 26 rfl z_4 ?_
     refine ga_done z_5 ?_
     repeat refine y_ ?_)
    all_goals exact at_cut j_ i_
   ·have hcan : q0 = true → q1 = true → canonS (l.getD k []) = some (l.getD k []) := fun a0 a1 => by
     obtain ⟨y, hy⟩ := Option.isSome_iff_exists.mp (hq0.symm.trans a0)
     have : x = l.getD k [] := of_decide_eq_true (hq1.symm.trans a1)
     rw [hy] at hx
     rw [hy, ← this, hx]
     rfl
    repeat refine y_ ?_
    refine g_cond rfl (fun h2 => ?_) (fun h2 => ?_)
    ·have e : rightS l = false := by
      refine right_no hk' ?_
      cases q0 with
      | false => exact .inl fun e => by rw [e] at hq0; cases hq0
      | true =>
       cases q1 with
       | false => exact .inl fun e => by rw [e] at hx; exact of_decide_eq_false hq1.symm hx
       | true =>
        cases q2 with
        | false => cases h2
        | true => exact .inr ⟨by have := of_decide_eq_true hq2.symm; omega, by simpa using h2⟩
     rw [e]
     repeat refine x_ ?_
     refine a_ ?_
     repeat refine n_ ?_
     refine g_ret ?_
     exact at_end1 rfl rfl [] ⟨rfl, rfl⟩ (fun _ h => h)
    ·have h3 : q0 = true ∧ q1 = true ∧ (q2 = true → lessS (l.getD (k - 1) []) (l.getD k []) = true) := by
      cases q0 with
      | false => cases h2
      | true =>
       cases q1 with
       | false => cases h2
       | true =>
        refine ⟨rfl, rfl, fun e => ?_⟩
        rw [e] at h2
        simpa using h2
     repeat refine x_ ?_
     refine m_ ?_
     refine f_ (s_add_i64 rfl rfl (by omega)) ?_
     refine a_ ?_
     repeat refine n_ ?_
     refine at_next (k + 1) ⟨by omega, fun j hj => ?_⟩ (by omega) ?_ ?_
     ·rcases Nat.lt_succ_iff_lt_or_eq.1 hj with h4 | rfl
      ·exact hno j h4
      ·exact ⟨hcan h3.1 h3.2.1, fun h0 => h3.2.2 (hq2.trans (decide_eq_true (by omega)))⟩
     ·(repeat (first | exact Sub.nil _ | refine Sub.cons rfl ?_))
     ·intro w hw; exact hw
  ·have hkl : k = l.length := by simp at h; omega
   have e : rightS l = decide ((l.length : Int) ≤ 16) := by
    unfold rightS
    rw [chain_of fun j h0 hj => (hno j (by omega)).2 h0]
    have : (l.all fun f => decide (canonS f = some f)) = true := by
     refine List.all_eq_true.mpr fun f hf => ?_
     obtain ⟨j, hj, rfl⟩ := List.getElem_of_mem hf
     have := (hno j (by omega)).1
     rw [List.getD_eq_getElem?_getD, List.getElem?_eq_getElem hj] at this
     exact decide_eq_true this
    rw [this, Bool.true_and, Bool.true_and]
    exact decide_eq_decide.mpr (by omega)
   rw [e]
   repeat refine x_ ?_
   refine m_ ?_
   refine f_ (s_len_sl rfl) ?_
   refine f_ (s_leq rfl rfl) ?_
   refine a_ ?_
   repeat refine n_ ?_
   refine g_ret ?_
   exact at_end1 rfl rfl [] ⟨rfl, rfl⟩ (fun _ h => h)
end Go.Proofs.YtgllpcggdcknaaaGreatDoor.Rp
namespace Go.Proofs.YtgllpcggdcknaaaGreatDoor.Rp
open Go Go.Sl
theorem a3_0 {a0 a1 a2 : Value} : (#[a0, a1, a2] : Array Value)[0]? = some a0 := rfl
theorem a3_1 {a0 a1 a2 : Value} : (#[a0, a1, a2] : Array Value)[1]? = some a1 := rfl
theorem a3_2 {a0 a1 a2 : Value} : (#[a0, a1, a2] : Array Value)[2]? = some a2 := rfl
theorem a6_0 {a0 a1 a2 a3 a4 a5 : Value} : (#[a0, a1, a2, a3, a4, a5] : Array Value)[0]? = some a0 := rfl
theorem a6_1 {a0 a1 a2 a3 a4 a5 : Value} : (#[a0, a1, a2, a3, a4, a5] : Array Value)[1]? = some a1 := rfl
theorem a6_2 {a0 a1 a2 a3 a4 a5 : Value} : (#[a0, a1, a2, a3, a4, a5] : Array Value)[2]? = some a2 := rfl
theorem a6_3 {a0 a1 a2 a3 a4 a5 : Value} : (#[a0, a1, a2, a3, a4, a5] : Array Value)[3]? = some a3 := rfl
theorem a6_4 {a0 a1 a2 a3 a4 a5 : Value} : (#[a0, a1, a2, a3, a4, a5] : Array Value)[4]? = some a4 := rfl
theorem a6_5 {a0 a1 a2 a3 a4 a5 : Value} : (#[a0, a1, a2, a3, a4, a5] : Array Value)[5]? = some a5 := rfl
theorem a10_0 {a0 a1 a2 a3 a4 a5 a6 a7 a8 a9 : Value} : (#[a0, a1, a2, a3, a4, a5, a6, a7, a8, a9] : Array Value)[0]? = some a0 := rfl
theorem a10_1 {a0 a1 a2 a3 a4 a5 a6 a7 a8 a9 : Value} : (#[a0, a1, a2, a3, a4, a5, a6, a7, a8, a9] : Array Value)[1]? = some a1 := rfl
theorem a10_2 {a0 a1 a2 a3 a4 a5 a6 a7 a8 a9 : Value} : (#[a0, a1, a2, a3, a4, a5, a6, a7, a8, a9] : Array Value)[2]? = some a2 := rfl
theorem a10_3 {a0 a1 a2 a3 a4 a5 a6 a7 a8 a9 : Value} : (#[a0, a1, a2, a3, a4, a5, a6, a7, a8, a9] : Array Value)[3]? = some a3 := rfl
theorem a10_4 {a0 a1 a2 a3 a4 a5 a6 a7 a8 a9 : Value} : (#[a0, a1, a2, a3, a4, a5, a6, a7, a8, a9] : Array Value)[4]? = some a4 := rfl
theorem a10_5 {a0 a1 a2 a3 a4 a5 a6 a7 a8 a9 : Value} : (#[a0, a1, a2, a3, a4, a5, a6, a7, a8, a9] : Array Value)[5]? = some a5 := rfl
theorem a10_6 {a0 a1 a2 a3 a4 a5 a6 a7 a8 a9 : Value} : (#[a0, a1, a2, a3, a4, a5, a6, a7, a8, a9] : Array Value)[6]? = some a6 := rfl
theorem a10_7 {a0 a1 a2 a3 a4 a5 a6 a7 a8 a9 : Value} : (#[a0, a1, a2, a3, a4, a5, a6, a7, a8, a9] : Array Value)[7]? = some a7 := rfl
theorem a10_8 {a0 a1 a2 a3 a4 a5 a6 a7 a8 a9 : Value} : (#[a0, a1, a2, a3, a4, a5, a6, a7, a8, a9] : Array Value)[8]? = some a8 := rfl
theorem a10_9 {a0 a1 a2 a3 a4 a5 a6 a7 a8 a9 : Value} : (#[a0, a1, a2, a3, a4, a5, a6, a7, a8, a9] : Array Value)[9]? = some a9 := rfl
class HBld (P : Program) (t : TypeId) (fs : outParam (Array Field)) (places : outParam (List (Nat × Nat))) : Prop where
 hu : P.underlying t = some (.struct fs)
 hp : fs.toList.map (fun f => (f.offset, P.cellsOf f.type)) = places
 hin : (fs.toList.all fun f => (P.info? f.type).isSome) = true
theorem s_bld {P : Program} {L : Lcs} {dst : Option Tmp} {ty t : TypeId} {pos : String} {af : Array Edge} {gd : Option (Nat × Bool)} {fs : Array Field} {places : List (Nat × Nat)} {z : Value} {ps : List (Nat × Operand)} {vs : List (Nat × Value)} {cells : Array Value} [hb : HBld P t fs places] [hz : HZ P t z] (hx : evP L ps = some vs) (hfill : Instr.fill (places[·]?) z.cells vs = some cells) : OpF P ⟨dst, .build t ps.toArray, ty, pos, af, gd⟩ L (.agg cells) :=
 have : HU P t (.struct fs) := ⟨hb.hu⟩
 s_build hx (run_build_struct (fs := fs) hb.hp (fun f hf => List.all_eq_true.1 hb.hin f hf) hfill)
instance : HBld Tryz.prog 27 #[{ name := "Kind", type := 3, offset := 0, embedded := false, tag := "", pkgPath := "", byteOffset := 0 }, { name := "Tag", type := 9, offset := 1, embedded := false, tag := "", pkgPath := "", byteOffset := 8 }, { name := "Code", type := 9, offset := 2, embedded := false, tag := "", pkgPath := "", byteOffset := 24 }, { name := "Text", type := 9, offset := 3, embedded := false, tag := "", pkgPath := "", byteOffset := 40 }, { name := "N", type := 22, offset := 4, embedded := false, tag := "", pkgPath := "", byteOffset := 56 }, { name := "Nums", type := 23, offset := 5, embedded := false, tag := "", pkgPath := "", byteOffset := 64 }, { name := "Mod", type := 22, offset := 6, embedded := false, tag := "", pkgPath := "", byteOffset := 88 }, { name := "Flags", type := 24, offset := 7, embedded := false, tag := "", pkgPath := "", byteOffset := 96 }, { name := "Box", type := 9, offset := 8, embedded := false, tag := "", pkgPath := "", byteOffset := 120 }, { name := "Values", type := 25, offset := 9, embedded := false, tag := "", pkgPath := "", byteOffset := 136 }] [(0, 1), (1, 1), (2, 1), (3, 1), (4, 1), (5, 1), (6, 1), (7, 1), (8, 1), (9, 1)] := ⟨Tryz.underlying27, by kernel_rfl, by kernel_rfl⟩
instance : HBld Tryz.prog 46 #[{ name := "Kind", type := 3, offset := 0, embedded := false, tag := "", pkgPath := "", byteOffset := 0 }, { name := "N", type := 22, offset := 1, embedded := false, tag := "", pkgPath := "", byteOffset := 8 }, { name := "Flags", type := 24, offset := 2, embedded := false, tag := "", pkgPath := "", byteOffset := 16 }, { name := "Text", type := 9, offset := 3, embedded := false, tag := "", pkgPath := "", byteOffset := 40 }, { name := "Part", type := 4, offset := 4, embedded := false, tag := "", pkgPath := "", byteOffset := 56 }, { name := "From", type := 22, offset := 5, embedded := false, tag := "", pkgPath := "", byteOffset := 64 }] [(0, 1), (1, 1), (2, 1), (3, 1), (4, 1), (5, 1)] := ⟨Tryz.underlying46, by kernel_rfl, by kernel_rfl⟩
end Go.Proofs.YtgllpcggdcknaaaGreatDoor.Rp
namespace Go.Proofs.YtgllpcggdcknaaaGreatDoor.Rp
open Go Go.Sl Go.RowKit
section
variable {P : Program} {L : Lcs} {N : Nat} {dst : Option Tmp} {t : TypeId} {x : Operand} {ty : TypeId} {pos : String} {af : Array Edge} {gd : Option (Nat × Bool)}
theorem s_slice_arrH {b len e m' : Nat} {hi : Operand} {kk : IntKind} {j : Nat} [hu : HU P t (.array len e)] [hs : HS P e m'] (hx : ev L x = some (.pointer (some ⟨b, 0, none⟩))) (hhi : ev L hi = some (.int kk j)) (hr : j ≤ len) : OpF P ⟨dst, .slice t x none (some hi) none, ty, pos, af, gd⟩ L (.slice (some ⟨b, 0, none⟩) j len) := by
 unfold OpF
 intro ρ w hf
 have e1 : (⟨b, 0, none⟩ : Addr).add (0 * m') = ⟨b, 0, none⟩ := by simp [Addr.add]
 have e2 : ¬ max (j : Int) 0 < 0 := by omega
 simp [execOp, Instr.sliceAt, Instr.sureAddr, Instr.sliceBounds, Instr.sliceBound, asIntOf, hf _ _ hx, hf _ _ hhi, run_underlying hu.h, hs.h, Addr.add, hr]
end
abbrev encB : UInt8 → Value := fun b => Value.int .u8 (b.toNat : Int)
theorem fb10_ct (u b : Nat) (h1 : 1 ≤ u) (hu : u < 18446744073709551616) : Ct Tryz.prog 114 [.slice (some ⟨b, 0, none⟩) (Lib.nDigits u) 24, .int .u64 (u : Nat)] (fun _ => True) [.blk b (.cells (Array.replicate 24 (.int .u8 0)) 118)]
  (fun v A => v = .tuple #[] ∧ ∃ cs : Array Value, (∀ (j : Nat) (hj : j < (digS u).length), cs[j]? = some (.int .u8 ((digS u)[j].toNat : Nat))) ∧ A = [.blk b (.cells cs 118)]) := by
 intro w bs hsat hnd _
 obtain ⟨b1, b2, rfl, ⟨rfl, hb⟩, rfl⟩ := hsat
 have hb' : w.heap[b]? = some (.cells (Array.replicate 24 (.int .u8 0)) 118) := hb
 have hl24 : Lib.nDigits u ≤ 24 := by
  have := digS_len64 (n := u) (by omega)
  rw [← dec_dig, Lib.decDigits_length] at this
  omega
 have hH : Sort.Holds encB w b 0 (Array.replicate (Lib.nDigits u) (0 : UInt8)) := fun j hj => by
  have hj' : j < Lib.nDigits u := by simpa using hj
  constructor
  ·simp [World.cell?, hb', getElem!_pos, hj', show j < 24 by omega]
  ·simp [World.frozen?, hb']
 have hs : (Array.replicate (Lib.nDigits u) (0 : UInt8)).size = Lib.nDigits u := by simp
 have hu10 : u < 10 ^ (Array.replicate (Lib.nDigits u) (0 : UInt8)).size := by
  rw [hs]
  exact Lib.lt_pow_nDigits u
 have hc := Tryz.internal_strconv_formatBase10 b 0 24 u (Array.replicate (Lib.nDigits u) (0 : UInt8)) w hH hu10 hu (by rw [hs]; omega)
 rw [hs] at hc
 refine hc.mono ?_
 rintro e w' ⟨rfl, n, v', dk, rfl, hI⟩
 have hh : ((Sort.putRow encB w b 0 dk).drewN n).heap[b]? = some (.cells (Sort.putCells encB 0 dk (Array.replicate 24 (.int .u8 0))) 118) := by
  show (Sort.mapBlock w b _).heap[b]? = _
  unfold Sort.mapBlock
  simp [Array.getElem?_modify, hb', Sort.onCells]
 refine ⟨.tuple #[], [.blk b (.cells (Sort.putCells encB 0 dk (Array.replicate 24 (.int .u8 0))) 118)], rfl, ⟨rfl, _, fun j hj => ?_, rfl⟩, rfl, rfl, rfl, fun b' o hbo => ?_, [b], ⟨[b], [], rfl, ⟨rfl, hh⟩, rfl⟩, by simp, fun b' hb2 => ?_⟩
 ·have hj2 : j < (Lib.decDigits u).length := by rw [dec_dig]; exact hj
  have hj3 : j < Lib.nDigits u := by rw [Lib.decDigits_length] at hj2; exact hj2
  have hr := Lib.row_is_numeral hI j hj2
  have he : (digS u)[j] = (Lib.decDigits u)[j] := by congr 1; exact (dec_dig u).symm
  rw [he, hr]
  have hsz := hI.size
  simp [Sort.putCells, show j < 24 by omega, show j < dk.size by omega]
 ·have hne : b' ≠ b := by
   rintro rfl
   simp [snapBut, hpBut] at hbo
  have h2 : w.heap[b']? = some o := hpBut_le w _ b' o hbo
  show (Sort.mapBlock w b _).heap[b']? = _
  unfold Sort.mapBlock
  rw [Array.getElem?_modify, if_neg (fun h => hne h.symm)]
  exact h2
 ·simp at hb2
  subst hb2
  simp [snapBut, hpBut]
theorem bytes_at {l : Bs} {cs : Array Value} (h : ∀ (j : Nat) (hj : j < l.length), cs[j]? = some (.int .u8 (l[j].toNat : Nat))) : ∀ (j : Nat) (u : Value), (bytesV l)[j]? = some u → cs[j]? = some u := fun j u hu => by
 obtain ⟨hj, rfl⟩ := List.getElem?_eq_some_iff.1 hu
 have hj2 : j < l.length := by simpa [bytesV] using hj
 rw [h j hj2]
 simp [bytesV]
theorem FormatUint_ct (n : Nat) (h : n < 18446744073709551616) : Pu Tryz.prog 98 [.int .u64 (n : Nat), .int .i64 10] Gl (B (digS n)) := by
 refine ct_enter 32 Tryz.func98 rfl rfl rfl ?_
 intro F hg
 repeat refine x_ ?_
 refine a_ ?_
 repeat refine x_ ?_
 refine m_ ?_
 refine f_ (s_eql rfl rfl) ?_
 repeat refine x_ ?_
 refine m_ ?_
 refine f_ ((s_lss rfl rfl).eq (v' := .bool (decide (n < 100))) (congrArg Value.bool (decide_eq_decide.mpr (by omega)))) ?_
 repeat refine n_ ?_
 refine g_cond rfl (fun h1 => ?_) (fun h1 => ?_)
 ·have h2 := of_decide_eq_true h1
  repeat refine x_ ?_
  refine m_ ?_
  refine f_ (s_conv_keep_i64 rfl (by omega)) ?_
  refine gl_callp rfl (small_ct n h2) (fun _ _ _ => trivial) rfl ?_
  refine a_ ?_
  repeat refine n_ ?_
  refine g_ret ?_
  exact at_end1 rfl rfl [] ⟨rfl, rfl⟩ (fun _ h => h)
 ·have h2 := of_decide_eq_false h1
  have hdl : (digS n).length = Lib.nDigits n := by rw [← dec_dig, Lib.decDigits_length]
  have hd20 := digS_len64 (n := n) (by omega)
  repeat refine x_ ?_
  refine gl_allocA rfl ?_; intro g5
  repeat refine x_ ?_
  refine m_ ?_
  refine gl_callp rfl (numDigits_ct n (by omega) h) (fun h hh hb => hg.le hh) rfl ?_
  refine a_ ?_
  repeat refine x_ ?_
  refine m_ ?_
  refine f_ (s_slice_arrH rfl rfl (by omega)) ?_
  refine m_ ?_
  refine gl_call _ rfl (fb10_ct n g5 (by omega) h) i_ (fun _ _ _ => trivial) rfl ?_; rintro v A ⟨rfl, cs, hcs, rfl⟩
  repeat refine x_ ?_
  refine m_ ?_
  refine f_ (s_slice_arrH rfl rfl (by omega)) ?_
  refine r_ (s_string (l := digS n) rfl (by omega) (fun w hw => hw.rdBlk z_2 _ (bytes_at hcs))) ?_
  refine a_ ?_
  repeat refine n_ ?_
  refine g_ret ?_
  exact at_end1 rfl rfl [] ⟨rfl, rfl⟩ (fun _ h => h.dropAll)
theorem sFormatUint_ct (n : Nat) (h : n < 18446744073709551616) : Pu Tryz.prog 67 [.int .u64 (n : Nat), .int .i64 10] Gl (B (digS n)) := by
 refine ct_enter 8 Tryz.func67 rfl rfl rfl ?_
 intro F hg
 repeat refine x_ ?_
 refine a_ ?_
 repeat refine x_ ?_
 refine m_ ?_
 refine m_ ?_
 refine gl_callp rfl (FormatUint_ct n h) (fun h hh hb => hg.le hh) rfl ?_
 refine a_ ?_
 repeat refine n_ ?_
 refine g_ret ?_
 exact at_end1 rfl rfl [] ⟨rfl, rfl⟩ (fun _ h => h)
theorem Digits_ct (n : Nat) (h : n < 18446744073709551616) : Pu Tryz.prog 30 [.int .u64 (n : Nat)] Gl (B (digS n)) := by
 refine ct_enter 5 Tryz.func30 rfl rfl rfl ?_
 intro F hg
 repeat refine x_ ?_
 refine a_ ?_
 repeat refine x_ ?_
 refine m_ ?_
 refine gl_callp rfl (sFormatUint_ct n h) (fun h hh hb => hg.le hh) rfl ?_
 refine a_ ?_
 repeat refine n_ ?_
 refine g_ret ?_
 exact at_end1 rfl rfl [] ⟨rfl, rfl⟩ (fun _ h => h)
end Go.Proofs.YtgllpcggdcknaaaGreatDoor.Rp
