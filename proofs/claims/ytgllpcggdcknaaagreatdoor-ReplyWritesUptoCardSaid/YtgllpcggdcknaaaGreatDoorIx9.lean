import Derived.Test.YtgllpcggdcknaaaGreatDoorIx8
set_option linter.unusedVariables false
set_option linter.unusedSimpArgs false
namespace Go.Proofs.YtgllpcggdcknaaaGreatDoor.Rp
open Go Go.Sl
structure SzV (v : RV) : Prop where
 fl : v.flags.length ≤ big
 fb : ∀ f ∈ v.flags, f.length ≤ big
 fj : (joinS [32] v.flags).length ≤ big
 tx : v.text.length ≤ big
 n : v.n ≤ 18446744073709551615
 fr : v.fr ≤ 18446744073709551615
def valueQ (v : RV) : Bs := if v.kind < 6 ∨ 12 < v.kind ∨ great < v.n ∨ great < v.fr then [] else valueP v
theorem okV_no {v : RV} (h : v.kind < 6 ∨ 12 < v.kind ∨ great < v.n ∨ great < v.fr) : okV v = false := by
 unfold okV
 rw [decide_eq_false (by omega), Bool.false_and]
theorem okV_yes {v : RV} (h : ¬(v.kind < 6 ∨ 12 < v.kind ∨ great < v.n ∨ great < v.fr)) : okV v = if v.kind = 6 then rightS v.flags && decide (v.n = 0) && bareP v
 else if v.kind ≤ 9 then v.flags.isEmpty && bareP v
 else decide (v.text.length ≤ 4096 ∧ v.n = 0) && v.flags.isEmpty && (v.part || decide (v.fr = 0)) := by
 unfold okV
 rw [decide_eq_true (by omega), Bool.true_and]
theorem itemA_len : ∀ k, k ≤ 12 → (itemA k).length ≤ 14 := by decide
theorem dz (n : Nat) : decide ((n : Int) = 0) = decide (n = 0) := decide_eq_decide.mpr (by omega)
theorem litS_len (s : Bs) (h : s.length ≤ big) : (literalS s).length ≤ s.length + 30 := by
 have := digS_len64 (n := s.length) (by unfold big at h; omega)
 unfold literalS
 simp
 omega
theorem bareW6 (k : Int) (n : Nat) (fl : List Bs) (text : Bs) (part : Bool) (fr : Nat) : bareW ⟨k, n, fl, text, part, fr⟩ ⟨k, 0, fl, [], false, 0⟩ = (decide (n = 0) && bareP ⟨k, n, fl, text, part, fr⟩) := by
 unfold bareW bareP
 rw [Bool.eq_iff_iff]
 cases part <;> simp [and_assoc]
theorem bareW7 (k : Int) (n : Nat) (fl : List Bs) (text : Bs) (part : Bool) (fr : Nat) : bareW ⟨k, n, fl, text, part, fr⟩ ⟨k, n, [], [], false, 0⟩ = (fl.isEmpty && bareP ⟨k, n, fl, text, part, fr⟩) := by
 unfold bareW bareP
 rw [Bool.eq_iff_iff]
 cases part <;> simp [and_assoc]
set_option maxRecDepth 8000 in
theorem valueR_ct (x : VM) (hz : SzV x.v) : Pu Tryz.prog 84 [vmA x] (fun h => RdS h x.a (fV x.v.flags)) (.tuple #[B (valueQ x.v), .bool (okV x.v)]) := by
 obtain ⟨⟨kind, n, fl, text, part, fr⟩, a, c⟩ := x
 obtain ⟨h1, h2, h3, h4, h5, h6⟩ := hz
 simp only at h1 h2 h3 h4 h5 h6 ⊢
 have h1' := h1
 have h3' := h3
 have h4' := h4
 unfold big at h1 h3 h4
 obtain ⟨q1, hq1⟩ : ∃ q, q = decide (kind < 6) := ⟨_, rfl⟩
 obtain ⟨q2, hq2⟩ : ∃ q, q = decide (kind > 12) := ⟨_, rfl⟩
 obtain ⟨q3, hq3⟩ : ∃ q, q = decide ((n : Int) > 9223372036854775807) := ⟨_, rfl⟩
 obtain ⟨q4, hq4⟩ : ∃ q, q = decide ((fr : Int) > 9223372036854775807) := ⟨_, rfl⟩
 have hqq : (kind < 6 ∨ 12 < kind ∨ great < n ∨ great < fr) ↔ (q1 || (q2 || (q3 || q4))) = true := by
  rw [Bool.or_eq_true, Bool.or_eq_true, Bool.or_eq_true, hq1, hq2, hq3, hq4, decide_eq_true_eq, decide_eq_true_eq, decide_eq_true_eq, decide_eq_true_eq]
  unfold great
  omega
 refine ct_enter 115 Tryz.func84 rfl rfl rfl ?_
 intro F hrd
 repeat refine x_ ?_
 refine gl_boxA rfl rfl ?_; intro g1
 refine a_ ?_
 refine a_ ?_
 repeat refine n_ ?_
 refine g_cutK [(1, Ptr g1), (22, .bool (q1 || (q2 || (q3 || q4))))] [blkV g1 ⟨kind, n, fl, text, part, fr⟩ a c] ?_ ?_
 ·cases q1 <;> cases q2 <;> cases q3
  all_goals (
   repeat refine x_ ?_
   refine f_ z_1 ?_
   refine r_ (by exact s_load_blk rfl z_2 a6_0) ?_
   refine f_ ((s_lss rfl rfl).eb hq1) ?_
   refine m_ ?_
   (first | refine gl_guard_no rfl rfl rfl rfl rfl rfl rfl ?_ | (refine v_ ?_; refine f_ z_1 ?_))
   (first | refine gl_guard_no rfl rfl rfl rfl rfl rfl rfl ?_ | (refine v_ ?_; refine r_ (by exact s_load_blk rfl z_2 a6_0) ?_))
   (first | refine gl_guard_no rfl rfl rfl rfl rfl rfl rfl ?_ | (refine v_ ?_; refine f_ ((s_gtr rfl rfl).eb hq2) ?_))
   refine f_ z_4 ?_
   refine m_ ?_
   (first | refine gl_guard_no rfl rfl rfl rfl rfl rfl rfl ?_ | (refine v_ ?_; refine f_ z_1 ?_))
   (first | refine gl_guard_no rfl rfl rfl rfl rfl rfl rfl ?_ | (refine v_ ?_; refine r_ (by exact s_load_blk rfl z_2 a6_1) ?_))
   (first | refine gl_guard_no rfl rfl rfl rfl rfl rfl rfl ?_ | (refine v_ ?_; refine f_ ((s_gtr rfl rfl).eb hq3) ?_))
   refine f_ z_4 ?_
   refine m_ ?_
   (first | refine gl_guard_no rfl rfl rfl rfl rfl rfl rfl ?_ | (refine v_ ?_; refine f_ z_1 ?_))
   (first | refine gl_guard_no rfl rfl rfl rfl rfl rfl rfl ?_ | (refine v_ ?_; refine r_ (by exact s_load_blk rfl z_2 a6_5) ?_))
   (first | refine gl_guard_no rfl rfl rfl rfl rfl rfl rfl ?_ | (refine v_ ?_; refine f_ ((s_gtr rfl rfl).eb hq4) ?_))
   refine f_ z_4 ?_
   refine gl_nil ?_
   repeat refine y_ ?_)
  all_goals exact at_cut j_ i_
 repeat refine y_ ?_
 refine g_cond rfl (fun h => ?_) (fun h => ?_)
 ·have e1 : valueQ ⟨kind, n, fl, text, part, fr⟩ = [] := by unfold valueQ; rw [if_pos (hqq.2 h)]
  have e2 : okV ⟨kind, n, fl, text, part, fr⟩ = false := okV_no (hqq.2 h)
  rw [e1, e2]
  repeat refine x_ ?_
  refine a_ ?_
  refine a_ ?_
  repeat refine n_ ?_
  refine g_ret ?_
  exact at_end2 rfl rfl rfl [] ⟨rfl, rfl⟩ (fun w hw => hw.dropAll)
 have hno : ¬(kind < 6 ∨ 12 < kind ∨ great < n ∨ great < fr) := fun x => by rw [hqq.1 x] at h; cases h
 have e1 : valueQ ⟨kind, n, fl, text, part, fr⟩ = valueP ⟨kind, n, fl, text, part, fr⟩ := by unfold valueQ; rw [if_neg hno]
 have e2 := okV_yes (v := ⟨kind, n, fl, text, part, fr⟩) hno
 rw [e1, e2]
 simp only
 have e3 : valueP ⟨kind, n, fl, text, part, fr⟩ = if kind = 6 then itemA 6 ++ 32 :: printF fl
   else if kind = 9 then itemA 9 ++ [32, 40] ++ digS n ++ [41]
   else if kind < 10 then itemA kind.toNat ++ 32 :: digS n
   else itemA kind.toNat ++ partP ⟨kind, n, fl, text, part, fr⟩ ++ 32 :: literalS text := by unfold valueP; simp only; rw [if_neg (by omega)]
 rw [e3]
 obtain ⟨k, rfl⟩ : ∃ k : Nat, kind = (k : Int) := ⟨kind.toNat, by omega⟩
 have hk : 6 ≤ k ∧ k ≤ 12 := by omega
 have hil := itemA_len k hk.2
 have hdl := digS_len64 h5
 have hdf := digS_len64 h6
 rw [Int.toNat_natCast]
 repeat refine x_ ?_
 refine f_ z_1 ?_
 refine r_ (by exact s_load_blk rfl z_2 a6_0) ?_
 refine gl_callp rfl (itemR_ct k (by omega)) (fun _ _ _ => trivial) rfl ?_
 refine a_ ?_
 repeat refine x_ ?_
 refine f_ z_1 ?_
 refine r_ (by exact s_load_blk rfl z_2 a6_0) ?_
 repeat refine x_ ?_
 refine f_ ((s_eql rfl rfl).eq (v' := .bool (decide (k = 6))) (congrArg Value.bool (decide_eq_decide.mpr (show ((k : Nat) : Int) = 6 ↔ k = 6 by omega)))) ?_
 refine a_ ?_
 repeat refine n_ ?_
 refine g_cond rfl (fun h => ?_) (fun h => ?_)
 ·have hk6 := of_decide_eq_true h
  subst hk6
  rw [if_pos (show ((6 : Nat) : Int) = 6 from rfl), if_pos (show ((6 : Nat) : Int) = 6 from rfl)]
  obtain ⟨q, hq⟩ : ∃ q, q = rightS fl := ⟨_, rfl⟩
  rw [← hq]
  have hpl : (printF fl).length ≤ (joinS [32] fl).length + 2 := by unfold printF; simp
  cases q
  all_goals (
   repeat refine y_ ?_
   refine g_draw0 ([3, 7, 10, 12], [0, 1, 0, 4, 12, 31, 0, 64, 220, 476, 988, 988, 3036, 7132, 16348, 32732, 32767, 131071], [4, 8]) 18 rfl ?_
   refine w_ 0 rfl (s_move rfl) ?_
   refine w_ 1 rfl (s_add_str rfl rfl (by simp only [List.length_singleton]; omega)) ?_
   refine w_ 2 rfl z_1 ?_
   (refine ga_read 3 rfl z_2 (s_load_blk rfl .del a6_2) rfl rfl rfl z_5 ?_)
   refine w_ 6 rfl z_1 ?_
   (refine ga_read 7 rfl z_2 (s_load_blk rfl .del a6_2) rfl rfl rfl z_5 ?_)
   refine ga_one 4 rfl z_5 ?_
   refine gl_callp rfl (PrintR_ct fl a c h1' h3') (fun h hh hb => hrd.le hh) rfl ?_
   refine gl_nil ?_
   refine at_ga (.inr (by exact keeps_of z_8)) ?_
   refine w_ 5 rfl ((s_add_str rfl rfl (by simp only [List.length_append, List.length_singleton]; omega)).eq (v' := B (itemA 6 ++ 32 :: printF fl)) z_10) ?_
   refine ga_one 8 rfl z_5 ?_
   refine gl_callp rfl (RightR_ct fl a c h1' h2) (fun h hh hb => hrd.le hh) rfl ?_; rw [← hq]
   refine gl_nil ?_
   refine at_ga (.inr (by exact keeps_of z_8)) ?_
   refine w_ 9 rfl (s_move rfl) ?_
   (first | refine s_ 10 ?_ | refine ga_read_g 10 rfl z_2 (s_load_blkW rfl .del z_7) rfl rfl rfl rfl rfl rfl z_5 ?_)
   (first | refine s_ 11 ?_ | refine ga_free_g 11 rfl z_1 rfl rfl rfl rfl rfl rfl z_5 ?_)
   (first | refine s_ 12 ?_ | refine ga_read_g 12 rfl z_2 (s_load_blk rfl .del a6_2) rfl rfl rfl rfl rfl rfl z_5 ?_)
   (first | refine s_ 13 ?_ | refine ga_free_g 13 rfl (s_bld rfl rfl) rfl rfl rfl rfl rfl rfl z_5 ?_)
   refine ga_one 14 rfl z_5 ?_
   (first | refine gl_guard_no rfl rfl rfl rfl rfl rfl rfl ?_ | (refine v_ ?_; refine gl_callp rfl (bareR_ct ⟨⟨6, n, fl, text, part, fr⟩, a, c⟩ ⟨⟨6, 0, fl, [], false, 0⟩, a, c⟩) (fun _ _ _ => trivial) rfl ?_; simp only [bareW6]))
   refine gl_nil ?_
   refine at_ga (.inl z_5) ?_
   refine w_ 15 rfl z_4 ?_
   refine w_ 16 rfl (s_assign rfl) ?_
   refine w_ 17 rfl (s_assign rfl) ?_
   refine ga_done z_5 ?_
   repeat refine y_ ?_)
  ·refine g_ret ?_
   exact at_end2 rfl rfl rfl [] ⟨rfl, rfl⟩ (fun w hw => hw.dropAll)
  ·refine g_ret ?_
   exact at_end2 rfl rfl rfl [] ⟨rfl, rfl⟩ (fun w hw => hw.dropAll)
 have hk6 := of_decide_eq_false h
 have hk6i : ¬((k : Nat) : Int) = 6 := by omega
 rw [if_neg hk6i, if_neg hk6i]
 repeat refine x_ ?_
 refine f_ ((s_eql rfl rfl).eq (v' := .bool (decide (k = 7))) (congrArg Value.bool (decide_eq_decide.mpr (show ((k : Nat) : Int) = 7 ↔ k = 7 by omega)))) ?_
 refine a_ ?_
 repeat refine n_ ?_
 refine g_cutK [(1, Ptr g1), (4, B (itemA k)), (27, .int .i64 (k : Nat)), (46, .bool (decide (k = 7 ∨ k = 8)))] [blkV g1 ⟨k, n, fl, text, part, fr⟩ a c] ?_ ?_
 ·refine g_cond rfl (fun h => ?_) (fun h => ?_)
  ·have := of_decide_eq_true h
   rw [h, decide_eq_true (.inl this)]
   repeat refine y_ ?_
   exact at_cut j_ i_
  ·have := of_decide_eq_false h
   repeat refine x_ ?_
   refine f_ ((s_eql rfl rfl).eq (v' := .bool (decide (k = 7 ∨ k = 8))) (congrArg Value.bool (decide_eq_decide.mpr (show ((k : Nat) : Int) = 8 ↔ (k = 7 ∨ k = 8) by omega)))) ?_
   refine a_ ?_
   repeat refine n_ ?_
   exact at_cut j_ i_
 repeat refine y_ ?_
 refine g_cond rfl (fun h => ?_) (fun h => ?_)
 ·have hk78 := of_decide_eq_true h
  rw [if_neg (show ¬((k : Nat) : Int) = 9 by omega), if_pos (show ((k : Nat) : Int) < 10 by omega), if_pos (show ((k : Nat) : Int) ≤ 9 by omega)]
  repeat refine y_ ?_
  refine g_draw0 ([3, 6, 8, 10], [0, 1, 0, 4, 12, 31, 0, 0, 128, 0, 512, 1920, 4060, 8191, 16383], [4, 12]) 15 rfl ?_
  refine w_ 0 rfl (s_move rfl) ?_
  refine w_ 1 rfl (s_add_str rfl rfl (by simp only [List.length_singleton]; omega)) ?_
  refine w_ 2 rfl z_1 ?_
  (refine ga_read 3 rfl z_2 (s_load_blk rfl .del a6_1) rfl rfl rfl z_5 ?_)
  (refine ga_read 6 rfl z_2 (s_load_blkW rfl .del z_7) rfl rfl rfl z_5 ?_)
  refine w_ 7 rfl z_1 ?_
  (refine ga_read 8 rfl z_2 (s_load_blk rfl .del a6_0) rfl rfl rfl z_5 ?_)
  refine w_ 9 rfl z_1 ?_
  (refine ga_read 10 rfl z_2 (s_load_blk rfl .del a6_1) rfl rfl rfl z_5 ?_)
  refine w_ 11 rfl (s_bld rfl rfl) ?_
  refine ga_one 4 rfl z_5 ?_
  refine gl_callp rfl (digitsR_ct n h5) (fun _ _ _ => trivial) rfl ?_
  refine gl_nil ?_
  refine at_ga (.inr (by exact keeps_of z_8)) ?_
  refine w_ 5 rfl ((s_add_str rfl rfl (by simp only [List.length_append, List.length_singleton]; omega)).eq (v' := B (itemA k ++ 32 :: digS n)) z_10) ?_
  refine ga_one 12 rfl z_5 ?_
  refine gl_callp rfl (bareR_ct ⟨⟨k, n, fl, text, part, fr⟩, a, c⟩ ⟨⟨k, n, [], [], false, 0⟩, none, 0⟩) (fun _ _ _ => trivial) rfl ?_; simp only [bareW7]
  refine gl_nil ?_
  refine at_ga (.inl z_5) ?_
  refine w_ 13 rfl (s_assign rfl) ?_
  refine w_ 14 rfl (s_assign rfl) ?_
  refine ga_done z_5 ?_
  repeat refine y_ ?_
  refine g_ret ?_
  exact at_end2 rfl rfl rfl [] ⟨rfl, rfl⟩ (fun w hw => hw.dropAll)
 have hk78 := of_decide_eq_false h
 repeat refine x_ ?_
 refine f_ ((s_eql rfl rfl).eq (v' := .bool (decide (k = 9))) (congrArg Value.bool (decide_eq_decide.mpr (show ((k : Nat) : Int) = 9 ↔ k = 9 by omega)))) ?_
 refine a_ ?_
 repeat refine n_ ?_
 refine g_cond rfl (fun h => ?_) (fun h => ?_)
 ·have hk9 := of_decide_eq_true h
  subst hk9
  rw [if_pos (show ((9 : Nat) : Int) = 9 from rfl), if_pos (show ((9 : Nat) : Int) ≤ 9 by omega)]
  repeat refine y_ ?_
  refine g_draw0 ([3, 7, 9], [0, 1, 0, 4, 12, 31, 63, 0, 0, 256, 768, 1948, 4095, 8191], [4, 11]) 14 rfl ?_
  refine w_ 0 rfl (s_move rfl) ?_
  refine w_ 1 rfl (s_add_str rfl rfl (by simp only [List.length_cons, List.length_nil]; omega)) ?_
  refine w_ 2 rfl z_1 ?_
  (refine ga_read 3 rfl z_2 (s_load_blk rfl .del a6_1) rfl rfl rfl z_5 ?_)
  (refine ga_read 7 rfl z_2 (s_load_blkW rfl .del z_7) rfl rfl rfl z_5 ?_)
  refine w_ 8 rfl z_1 ?_
  (refine ga_read 9 rfl z_2 (s_load_blk rfl .del a6_1) rfl rfl rfl z_5 ?_)
  refine w_ 10 rfl (s_bld rfl rfl) ?_
  refine ga_one 4 rfl z_5 ?_
  refine gl_callp rfl (digitsR_ct n h5) (fun _ _ _ => trivial) rfl ?_
  refine gl_nil ?_
  refine at_ga (.inr (by exact keeps_of z_8)) ?_
  refine w_ 5 rfl (s_add_str rfl rfl (by simp only [List.length_append, List.length_cons, List.length_nil]; omega)) ?_
  refine w_ 6 rfl ((s_add_str rfl rfl (by simp only [List.length_append, List.length_cons, List.length_nil]; omega)).eq (v' := B (itemA 9 ++ [32, 40] ++ digS n ++ [41])) rfl) ?_
  refine ga_one 11 rfl z_5 ?_
  refine gl_callp rfl (bareR_ct ⟨⟨9, n, fl, text, part, fr⟩, a, c⟩ ⟨⟨9, n, [], [], false, 0⟩, none, 0⟩) (fun _ _ _ => trivial) rfl ?_; simp only [bareW7]
  refine gl_nil ?_
  refine at_ga (.inl z_5) ?_
  refine w_ 12 rfl (s_assign rfl) ?_
  refine w_ 13 rfl (s_assign rfl) ?_
  refine ga_done z_5 ?_
  repeat refine y_ ?_
  refine g_ret ?_
  exact at_end2 rfl rfl rfl [] ⟨rfl, rfl⟩ (fun w hw => hw.dropAll)
 have hk9 := of_decide_eq_false h
 rw [if_neg (show ¬((k : Nat) : Int) = 9 by omega), if_neg (show ¬((k : Nat) : Int) < 10 by omega), if_neg (show ¬((k : Nat) : Int) ≤ 9 by omega)]
 repeat refine x_ ?_
 refine f_ z_1 ?_
 refine r_ (by exact s_load_blk rfl z_2 a6_4) ?_
 repeat refine n_ ?_
 refine g_cutK [(1, Ptr g1), (4, B (itemA k ++ partP ⟨k, n, fl, text, part, fr⟩))] [blkV g1 ⟨k, n, fl, text, part, fr⟩ a c] ?_ ?_
 ·refine g_cond rfl (fun h => ?_) (fun h => ?_)
  ·have e : partP ⟨k, n, fl, text, part, fr⟩ = 60 :: digS fr ++ [62] := by unfold partP; rw [if_pos h]
   rw [e]
   repeat refine x_ ?_
   refine m_ ?_
   refine f_ (s_add_str rfl rfl (by simp only [List.length_cons, List.length_nil]; omega)) ?_
   refine f_ z_1 ?_
   refine r_ (by exact s_load_blk rfl z_2 a6_5) ?_
   refine gl_callp rfl (digitsR_ct fr h6) (fun _ _ _ => trivial) rfl ?_
   refine f_ (s_add_str rfl rfl (by simp only [List.length_append, List.length_cons, List.length_nil]; omega)) ?_
   refine f_ ((s_add_str rfl rfl (by simp only [List.length_append, List.length_cons, List.length_nil]; omega)).eq (v' := B (itemA k ++ (60 :: digS fr ++ [62]))) z_10) ?_
   refine a_ ?_
   repeat refine n_ ?_
   exact at_cut j_ i_
  ·have e : partP ⟨k, n, fl, text, part, fr⟩ = [] := by unfold partP; exact if_neg (fun hc => by have h1 : part = true := hc; have h2 : part = false := h; rw [h1] at h2; cases h2)
   rw [e, List.append_nil]
   repeat refine y_ ?_
   exact at_cut j_ i_
 have hpl : (partP ⟨k, n, fl, text, part, fr⟩).length ≤ 30 := by
  unfold partP
  split <;> simp <;> omega
 have hll := litS_len text h4'
 obtain ⟨pw, hpw⟩ : ∃ b, b = partP ⟨k, n, fl, text, part, fr⟩ := ⟨_, rfl⟩
 rw [← hpw] at hpl ⊢
 obtain ⟨q1, hq1⟩ : ∃ q, q = decide ((text.length : Int) ≤ 4096) := ⟨_, rfl⟩
 obtain ⟨q2, hq2⟩ : ∃ q, q = decide ((n : Int) = 0) := ⟨_, rfl⟩
 obtain ⟨q3, hq3⟩ : ∃ q, q = decide ((fl.length : Int) = 0) := ⟨_, rfl⟩
 obtain ⟨q4, hq4⟩ : ∃ q, q = decide ((fr : Int) = 0) := ⟨_, rfl⟩
 have e : (decide (text.length ≤ 4096 ∧ n = 0) && fl.isEmpty && (part || decide (fr = 0))) = (q1 && q2 && q3 && (part || q4)) := by
  rw [hq1, hq2, hq3, hq4, dlen, dz, dz, Bool.decide_and]
  congr 3
  exact decide_eq_decide.mpr (by omega)
 rw [e]
 clear e
 repeat refine y_ ?_
 rcases sc6 q1 q2 q3 part true with rfl | ⟨rfl, rfl⟩ | ⟨rfl, rfl, rfl⟩ | ⟨rfl, rfl, rfl, rfl⟩ | ⟨_, _, _, _, hx⟩ | ⟨rfl, rfl, rfl, rfl, _⟩
 rotate_left 4
 ·cases hx
 rotate_right 4
 all_goals (
  repeat refine y_ ?_
  refine g_draw0 ([3, 7, 12, 17, 23, 26], [0, 1, 0, 4, 12, 31, 0, 64, 192, 448, 988, 2012, 4060, 8156, 16348, 32732, 65500, 131036, 262108, 524252, 1048540, 2097116, 4194268, 8388572, 16777180, 33554396, 67108828, 134217692, 268435420, 536870876, 33554431, 2147483647], [4]) 32 rfl ?_
  refine w_ 0 rfl (s_move rfl) ?_
  refine w_ 1 rfl (s_add_str rfl rfl (by simp only [List.length_append, List.length_cons, List.length_nil]; omega)) ?_
  refine w_ 2 rfl z_1 ?_
  (refine ga_read 3 rfl z_2 (s_load_blk rfl .del a6_3) rfl rfl rfl z_5 ?_)
  refine w_ 6 rfl z_1 ?_
  (refine ga_read 7 rfl z_2 (s_load_blk rfl .del a6_3) rfl rfl rfl z_5 ?_)
  refine w_ 8 rfl (s_len_str rfl) ?_
  refine w_ 9 rfl ((s_leq rfl rfl).eb hq1) ?_
  refine ga_one 4 rfl z_5 ?_
  refine gl_callp rfl (LiteralR_ct text h4') (fun _ _ _ => trivial) rfl ?_
  refine gl_nil ?_
  refine at_ga (.inr (by exact keeps_of z_8)) ?_
  refine w_ 5 rfl ((s_add_str rfl rfl (by simp only [List.length_append, List.length_cons, List.length_nil]; omega)).eq (v' := B (itemA k ++ pw ++ 32 :: literalS text)) z_10) ?_
  refine w_ 10 rfl (s_move rfl) ?_
  (first | refine s_ 11 ?_ | refine ga_free_g 11 rfl z_1 rfl rfl rfl rfl rfl rfl z_5 ?_)
  (first | refine s_ 12 ?_ | refine ga_read_g 12 rfl z_2 (s_load_blk rfl .del a6_1) rfl rfl rfl rfl rfl rfl z_5 ?_)
  (first | refine s_ 13 ?_ | refine ga_free_g 13 rfl ((s_eql rfl rfl).eb hq2) rfl rfl rfl rfl rfl rfl z_5 ?_)
  refine w_ 14 rfl z_4 ?_
  refine w_ 15 rfl (s_move rfl) ?_
  (first | refine s_ 16 ?_ | refine ga_free_g 16 rfl z_1 rfl rfl rfl rfl rfl rfl z_5 ?_)
  (first | refine s_ 17 ?_ | refine ga_read_g 17 rfl z_2 (s_load_blk rfl .del a6_2) rfl rfl rfl rfl rfl rfl z_5 ?_)
  (first | refine s_ 18 ?_ | refine ga_free_g 18 rfl (s_len_sl rfl) rfl rfl rfl rfl rfl rfl z_5 ?_)
  (first | refine s_ 19 ?_ | refine ga_free_g 19 rfl ((s_eql rfl rfl).eb hq3) rfl rfl rfl rfl rfl rfl z_5 ?_)
  refine w_ 20 rfl z_4 ?_
  refine w_ 21 rfl (s_move rfl) ?_
  (first | refine s_ 22 ?_ | refine ga_free_g 22 rfl z_1 rfl rfl rfl rfl rfl rfl z_5 ?_)
  (first | refine s_ 23 ?_ | refine ga_read_g 23 rfl z_2 (s_load_blk rfl .del a6_4) rfl rfl rfl rfl rfl rfl z_5 ?_)
  (first | refine s_ 24 ?_ | refine ga_free_g 24 rfl (s_move rfl) rfl rfl rfl rfl rfl rfl z_5 ?_)
  (first | refine s_ 25 ?_ | refine t_ 25 ?_ | refine ga_free_g 25 rfl z_1 rfl rfl rfl rfl rfl rfl z_5 ?_)
  (first | refine s_ 26 ?_ | refine t_ 26 ?_ | refine ga_read_g 26 rfl z_2 (s_load_blk rfl .del a6_5) rfl rfl rfl rfl rfl rfl z_5 ?_)
  (first | refine s_ 27 ?_ | refine t_ 27 ?_ | refine ga_free_g 27 rfl ((s_eql rfl rfl).eb hq4) rfl rfl rfl rfl rfl rfl z_5 ?_)
  (first | refine s_ 28 ?_ | refine ga_free_g 28 rfl z_4 rfl rfl rfl rfl rfl rfl z_5 ?_)
  refine w_ 29 rfl z_4 ?_
  refine w_ 30 rfl (s_assign rfl) ?_
  refine w_ 31 rfl (s_assign rfl) ?_
  refine ga_done z_5 ?_
  repeat refine y_ ?_)
 all_goals (refine g_ret ?_; exact at_end2 rfl rfl rfl [] ⟨rfl, rfl⟩ (fun w hw => hw.dropAll))
end Go.Proofs.YtgllpcggdcknaaaGreatDoor.Rp
namespace Go.Proofs.YtgllpcggdcknaaaGreatDoor.Rp
open Go Go.Sl
theorem rdVM {F : Snap} {w : World} {H : List As} {a : Option Addr} {l : List VM} {q i : Nat} (hw : Hp F w H) (r : RdS F.heap a (vmV l)) (h : q = 6 * i) (hi : i < l.length) : PeekC (hp w) (addO a q) (vmC (l.getD i VM0)) := rec_rdN (C := vmC) (r.le hw.keep) vmC_len (by decide) VM0 h hi
theorem rdVM_some {h : Heap} {a : Option Addr} {l : List VM} {i : Nat} (r : RdS h a (vmV l)) (hi : i < l.length) : ∃ ad, a = some ad := rec_some (C := vmC) r vmC_len (by decide) hi
theorem getVM_mem {l : List VM} {k : Nat} (hk : k < l.length) : l.getD k VM0 ∈ l := by
 rw [List.getD_eq_getElem?_getD, List.getElem?_eq_getElem hk]
 exact List.getElem_mem hk
structure SzR (r : RR) : Prop where
 tag : r.tag.length ≤ big
 code : r.code.length ≤ big
 text : r.text.length ≤ big
 n : r.n ≤ 18446744073709551615
 nl : r.nums.length ≤ big
 ns : ∀ n ∈ r.nums, n ≤ 18446744073709551615
 mod : r.mod ≤ 18446744073709551615
 fl : r.flags.length ≤ big
 fb : ∀ f ∈ r.flags, f.length ≤ big
 fj : (joinS [32] r.flags).length ≤ big
 box : r.box.length ≤ big
 vl : r.values.length ≤ big
 vs : ∀ v ∈ r.values, SzV v
def fV14 (k : Int) (v : RV) : Bs := if k = 14 then valueP v else countP v
def gV14 (k : Int) (v : RV) : Bool := if k = 14 then okV v else okC v
def tV14 (k : Int) (v : RV) : Bs := if k = 14 then valueQ v else if 1 ≤ v.kind ∧ v.kind ≤ 5 then countP v else []
def okVals (r : RR) : Bool := decide (1 ≤ r.values.length ∧ r.values.length ≤ 10) && r.values.all (gV14 r.kind)
def valuesQ (r : RR) : Bs := if okVals r = true then 40 :: joinS [32] (r.values.map (fV14 r.kind)) ++ [41] else []
theorem tV_f {k : Int} {v : RV} (h : gV14 k v = true) : tV14 k v = fV14 k v := by
 unfold gV14 at h
 unfold tV14 fV14
 split at h
 ·next hk =>
  rw [if_pos hk, if_pos hk]
  unfold valueQ
  refine if_neg fun hn => ?_
  rw [okV_no hn] at h
  cases h
 ·next hk =>
  rw [if_neg hk, if_neg hk]
  unfold okC at h
  simp only [Bool.and_eq_true, decide_eq_true_eq] at h
  exact if_pos ⟨h.1.1.1, h.1.1.2.1⟩
theorem partP_len (v : RV) (h : v.fr ≤ 18446744073709551615) : (partP v).length ≤ 30 := by
 have := digS_len64 h
 unfold partP
 split <;> simp <;> omega
theorem valueP_len {v : RV} (h : SzV v) : (valueP v).length ≤ 1000000000100 := by
 obtain ⟨h1, h2, h3, h4, h5, h6⟩ := h
 have hl := litS_len v.text h4
 have hp := partP_len v h6
 have hd := digS_len64 h5
 unfold big at h3 h4
 unfold valueP
 split
 ·simp
 ·next hk =>
  have hi := itemA_len v.kind.toNat (by omega)
  split
  ·have : (itemA 6).length = 5 := rfl
   unfold printF
   simp
   omega
  split
  ·have : (itemA 9).length = 6 := rfl
   simp
   omega
  split
  ·simp; omega
  ·simp; omega
theorem countP_len {v : RV} (h : SzV v) (hk : 1 ≤ v.kind ∧ v.kind ≤ 5) : (countP v).length ≤ 100 := by
 have hd := digS_len64 h.n
 have hi := itemA_len v.kind.toNat (by omega)
 unfold countP
 simp
 omega
theorem tV_len {k : Int} {v : RV} (h : SzV v) : (tV14 k v).length ≤ 1000000000100 := by
 unfold tV14
 split
 ·unfold valueQ
  split
  ·simp
  ·exact valueP_len h
 ·split
  ·next hk => have := countP_len h hk; omega
  ·simp
theorem joinS_len {M : Nat} : ∀ {l : List Bs}, (∀ f ∈ l, f.length ≤ M) → (joinS [32] l).length ≤ l.length * (M + 1)
 | [], _ => by simp [joinS]
 | [a], h => by have := h a z_10; simp [joinS]; omega
 | a :: b :: t, h => by
  have h1 := h a z_10
  have h2 := joinS_len (M := M) (l := b :: t) (fun f hf => h f (by simp [hf]))
  rw [join_cons _ _ z_10]
  simp only [List.length_append, List.length_cons, List.length_nil] at h2 ⊢
  rw [Nat.add_mul (t.length + 1) 1]
  omega
set_option maxRecDepth 8000 in
theorem valuesR_ct (r : RR) (x : RL) (hz : SzR r) (hv : r.values = x.vs.map VM.v) : Pu Tryz.prog 48 [rrA r x] (RRd r x) (.tuple #[B (valuesQ r), .bool (okVals r)]) := by
 obtain ⟨L, hL⟩ : ∃ L, L = r.values.map (fV14 r.kind) := ⟨_, rfl⟩
 have hLl : L.length = x.vs.length := by rw [hL, hv]; simp
 have hvl : r.values.length = x.vs.length := by rw [hv]; simp
 have hLg : ∀ j, j < x.vs.length → L.getD j [] = fV14 r.kind (x.vs.getD j VM0).v := fun j hj => by
  rw [hL, hv, List.getD_eq_getElem?_getD, List.getD_eq_getElem?_getD]
  simp [hj]
 have hsv : ∀ j, j < x.vs.length → SzV (x.vs.getD j VM0).v := fun j hj => hz.vs _ (by rw [hv]; exact List.mem_map.mpr ⟨_, getVM_mem hj, rfl⟩)
 obtain ⟨q1, hq1⟩ : ∃ q, q = decide ((x.vs.length : Int) < 1) := ⟨_, rfl⟩
 obtain ⟨q2, hq2⟩ : ∃ q, q = decide ((x.vs.length : Int) > 10) := ⟨_, rfl⟩
 have hqq : ¬(1 ≤ r.values.length ∧ r.values.length ≤ 10) ↔ (q1 || q2) = true := by
  rw [Bool.or_eq_true, hq1, hq2, decide_eq_true_eq, decide_eq_true_eq, hvl]
  omega
 refine ct_enter 79 Tryz.func48 rfl rfl rfl ?_
 intro F hrr
 have hrd := hrr.vs
 repeat refine x_ ?_
 refine gl_boxA rfl rfl ?_; intro g1
 refine a_ ?_
 refine a_ ?_
 repeat refine n_ ?_
 refine g_cutK [(1, Ptr g1), (18, .bool (q1 || q2))] [blkR g1 r x] ?_ ?_
 ·cases q1
  all_goals (
   repeat refine x_ ?_
   refine f_ z_1 ?_
   refine r_ (by exact s_load_blk rfl z_2 a10_9) ?_
   refine f_ (s_len_sl rfl) ?_
   refine f_ ((s_lss rfl rfl).eb hq1) ?_
   refine m_ ?_
   (first | refine gl_guard_no rfl rfl rfl rfl rfl rfl rfl ?_ | (refine v_ ?_; refine f_ z_1 ?_))
   (first | refine gl_guard_no rfl rfl rfl rfl rfl rfl rfl ?_ | (refine v_ ?_; refine r_ (by exact s_load_blk rfl z_2 a10_9) ?_))
   (first | refine gl_guard_no rfl rfl rfl rfl rfl rfl rfl ?_ | (refine v_ ?_; refine f_ (s_len_sl rfl) ?_))
   (first | refine gl_guard_no rfl rfl rfl rfl rfl rfl rfl ?_ | (refine v_ ?_; refine f_ ((s_gtr rfl rfl).eb hq2) ?_))
   refine f_ z_4 ?_
   refine gl_nil ?_
   repeat refine y_ ?_)
  all_goals exact at_cut j_ i_
 repeat refine y_ ?_
 refine g_cond rfl (fun h => ?_) (fun h => ?_)
 ·have e2 : okVals r = false := by unfold okVals; rw [decide_eq_false (hqq.2 h), Bool.false_and]
  have e1 : valuesQ r = [] := by unfold valuesQ; rw [e2]; rfl
  rw [e1, e2]
  repeat refine x_ ?_
  refine a_ ?_
  refine a_ ?_
  repeat refine n_ ?_
  refine g_ret ?_
  exact at_end2 rfl rfl rfl [] ⟨rfl, rfl⟩ (fun w hw => hw.dropAll)
 have hlen : 1 ≤ r.values.length ∧ r.values.length ≤ 10 := by
  by_cases hc : 1 ≤ r.values.length ∧ r.values.length ≤ 10
  ·exact hc
  ·rw [hqq.1 hc] at h; cases h
 repeat refine x_ ?_
 refine a_ ?_
 repeat refine x_ ?_
 refine a_ ?_
 repeat refine n_ ?_
 refine g_loop (ι := Nat) (fun j => j ≤ x.vs.length ∧ ∀ i, i < j → gV14 r.kind (x.vs.getD i VM0).v = true) (fun j => [(1, Ptr g1), (4, B (joinS [32] (L.take j))), (5, .int .i64 (j : Nat))]) (fun _ => [blkR g1 r x]) (fun j => x.vs.length - j) 0 ⟨by omega, fun i h => by omega⟩ ?_ ?_ ?_
 ·(repeat (first | exact Sub.nil _ | refine Sub.cons rfl ?_))
 ·intro w hw; exact hw
 ·rintro j ⟨hj, hok⟩
  repeat refine x_ ?_
  refine m_ ?_
  refine f_ z_1 ?_
  refine r_ (by exact s_load_blk rfl z_2 a10_9) ?_
  refine f_ (s_len_sl rfl) ?_
  refine f_ (s_lss rfl rfl) ?_
  repeat refine n_ ?_
  refine g_cond rfl (fun h => ?_) (fun h => ?_)
  ·have hj' : j < x.vs.length := by simp at h; omega
   have hsome := rdVM_some hrd hj'
   have hsz := hsv j hj'
   have hlg := hLg j hj'
   obtain ⟨q, hqe⟩ : ∃ q, q = x.vs.getD j VM0 := ⟨_, rfl⟩
   rw [← hqe] at hsz hlg
   have hqm : q ∈ x.vs := by rw [hqe]; exact getVM_mem hj'
   have hjt := join_take (l := L) (k := j) (by omega)
   rw [hlg] at hjt
   have hjl : (joinS [32] (L.take j)).length ≤ 20000000000000 := by
    have h1 : ∀ f ∈ L.take j, f.length ≤ 1000000000100 := fun f hf => by
     obtain ⟨i, hi, rfl⟩ := List.getElem_of_mem hf
     rw [List.length_take] at hi
     rw [List.getElem_take]
     have h2 := hLg i (by omega)
     rw [List.getD_eq_getElem?_getD, List.getElem?_eq_getElem (by omega)] at h2
     simp only [Option.getD_some] at h2
     rw [h2, ← tV_f (hok i (by omega))]
     exact tV_len (hsv i (by omega))
    have h2 := joinS_len h1
    rw [List.length_take] at h2
    have h3 : min j L.length ≤ 10 := by omega
    have h4 := Nat.mul_le_mul_right (1000000000100 + 1) h3
    omega
   have htl := tV_len (k := r.kind) hsz
   have hf6 := hrr.fs q hqm
   have hn5 := hsz.n
   repeat refine x_ ?_
   refine f_ z_1 ?_
   refine r_ (by exact s_load_blk rfl z_2 a10_9) ?_
   refine m_ ?_
   refine f_ (s_indexAddr rfl (by assumption) rfl (by omega)) ?_
   refine r_ (s_loadN (cs := vmC q) rfl (fun w hw => by rw [hqe]; exact rdVM hw hrd (i := j) (by omega) hj') rfl) ?_
   refine gl_allocA rfl ?_; intro g6
   (refine gl_store_blkW rfl rfl z_6 z_7 z_7 z_3 ?_)
   repeat refine x_ ?_
   refine a_ ?_
   refine a_ ?_
   repeat refine x_ ?_
   refine f_ z_1 ?_
   refine r_ (by exact s_load_blk rfl z_2 a10_0) ?_
   refine f_ ((s_eql rfl rfl).eq (v' := .bool (decide (r.kind = 14))) rfl) ?_
   repeat refine n_ ?_
   refine g_cutK [(1, Ptr g1), (4, B (joinS [32] (L.take j))), (5, .int .i64 (j : Nat)), (7, B (tV14 r.kind q.v)), (8, .bool (gV14 r.kind q.v))] [blkR g1 r x] ?_ ?_
   ·refine g_cond rfl (fun h => ?_) (fun h => ?_)
    ·have h14 := of_decide_eq_true h
     have e1 : tV14 r.kind q.v = valueQ q.v := by unfold tV14; rw [if_pos h14]
     have e2 : gV14 r.kind q.v = okV q.v := by unfold gV14; rw [if_pos h14]
     rw [e1, e2]
     repeat refine x_ ?_
     refine r_ ((s_load_blkW rfl z_2 z_7).eq (v' := vmA q) rfl) ?_
     refine gl_callp rfl (valueR_ct q hsz) (fun h hh hb => hf6.le hh) rfl ?_
     refine m_ ?_
     refine f_ (s_extract rfl rfl) ?_
     refine f_ (s_extract rfl rfl) ?_
     refine a_ ?_
     refine a_ ?_
     repeat refine n_ ?_
     exact at_cut j_ (fun w hw => hw.drop)
    ·have h14 := of_decide_eq_false h
     have e1 : tV14 r.kind q.v = if 1 ≤ q.v.kind ∧ q.v.kind ≤ 5 then countP q.v else [] := by unfold tV14; rw [if_neg h14]
     have e2 : gV14 r.kind q.v = okC q.v := by unfold gV14; rw [if_neg h14]
     rw [e1, e2]
     obtain ⟨p1, hp1⟩ : ∃ b, b = decide (q.v.kind ≥ 1) := ⟨_, rfl⟩
     obtain ⟨p2, hp2⟩ : ∃ b, b = decide (q.v.kind ≤ 5) := ⟨_, rfl⟩
     have hpp : (1 ≤ q.v.kind ∧ q.v.kind ≤ 5) ↔ (p1 && p2) = true := by
      rw [Bool.and_eq_true, hp1, hp2, decide_eq_true_eq, decide_eq_true_eq]
     repeat refine y_ ?_
     refine g_cutK [(1, Ptr g1), (4, B (joinS [32] (L.take j))), (5, .int .i64 (j : Nat)), (6, Ptr g6), (7, B []), (8, .bool false), (46, .bool (p1 && p2))] [blkV g6 q.v q.a q.c, blkR g1 r x] ?_ ?_
     ·cases p1
      all_goals (
       repeat refine x_ ?_
       refine f_ z_1 ?_
       refine r_ (by exact s_load_blk rfl z_2 a6_0) ?_
       refine f_ ((s_geq rfl rfl).eb hp1) ?_
       refine m_ ?_
       (first | refine gl_guard_no rfl rfl rfl rfl rfl rfl rfl ?_ | (refine v_ ?_; refine f_ z_1 ?_))
       (first | refine gl_guard_no rfl rfl rfl rfl rfl rfl rfl ?_ | (refine v_ ?_; refine r_ (by exact s_load_blk rfl z_2 a6_0) ?_))
       (first | refine gl_guard_no rfl rfl rfl rfl rfl rfl rfl ?_ | (refine v_ ?_; refine f_ ((s_leq rfl rfl).eb hp2) ?_))
       refine f_ z_4 ?_
       refine gl_nil ?_
       repeat refine y_ ?_)
      all_goals exact at_cut j_ i_
     repeat refine y_ ?_
     refine g_cond rfl (fun h => ?_) (fun h => ?_)
     ·have hr5 := hpp.2 h
      have hkk : 1 ≤ q.v.kind.toNat ∧ q.v.kind.toNat ≤ 12 := by omega
      have hil := itemA_len q.v.kind.toNat (by omega)
      have hdl := digS_len64 hn5
      have hkc : (q.v.kind.toNat : Int) = q.v.kind := by omega
      have hct := itemR_ct q.v.kind.toNat hkk
      rw [hkc] at hct
      rw [if_pos hr5]
      obtain ⟨p3, hp3⟩ : ∃ b, b = decide ((q.v.n : Int) ≤ 9223372036854775807) := ⟨_, rfl⟩
      have e3 : okC q.v = (p3 && (q.v.flags.isEmpty && bareP q.v)) := by
       unfold okC
       rw [hp3, ← Bool.and_assoc]
       congr 2
       refine decide_eq_decide.mpr ?_
       unfold great
       omega
      rw [e3]
      cases p3
      all_goals (
       repeat refine y_ ?_
       refine g_draw0 ([1, 5, 9, 12, 14, 16], [0, 1, 3, 7, 0, 16, 55, 127, 0, 256, 768, 1911, 3959, 3959, 12151, 3959, 36727, 126839, 262007, 524151, 524287, 2097151], [2, 6]) 22 rfl ?_
       refine w_ 0 rfl z_1 ?_
       (refine ga_read 1 rfl z_2 (s_load_blk rfl .del a6_0) rfl rfl rfl z_5 ?_)
       refine w_ 4 rfl z_1 ?_
       (refine ga_read 5 rfl z_2 (s_load_blk rfl .del a6_1) rfl rfl rfl z_5 ?_)
       refine w_ 8 rfl z_1 ?_
       (refine ga_read 9 rfl z_2 (s_load_blk rfl .del a6_1) rfl rfl rfl z_5 ?_)
       refine w_ 10 rfl ((s_leq rfl rfl).eb hp3) ?_
       refine ga_one 2 rfl z_5 ?_
       refine gl_callp rfl hct (fun _ _ _ => trivial) rfl ?_
       refine gl_nil ?_
       refine at_ga (.inr (by exact keeps_of z_8)) ?_
       refine w_ 3 rfl (s_add_str rfl rfl (by simp only [List.length_cons, List.length_nil]; omega)) ?_
       refine ga_one 6 rfl z_5 ?_
       refine gl_callp rfl (digitsR_ct q.v.n hn5) (fun _ _ _ => trivial) rfl ?_
       refine gl_nil ?_
       refine at_ga (.inr (by exact keeps_of z_8)) ?_
       refine w_ 7 rfl ((s_add_str rfl rfl (by simp only [List.length_append, List.length_cons, List.length_nil]; omega)).eq (v' := B (countP q.v)) (by simp [countP])) ?_
       refine w_ 11 rfl (s_move rfl) ?_
       (first | refine s_ 12 ?_ | refine ga_read_g 12 rfl z_2 (s_load_blkW rfl .del z_7) rfl rfl rfl rfl rfl rfl z_5 ?_)
       (first | refine s_ 13 ?_ | refine ga_free_g 13 rfl z_1 rfl rfl rfl rfl rfl rfl z_5 ?_)
       (first | refine s_ 14 ?_ | refine ga_read_g 14 rfl z_2 (s_load_blk rfl .del a6_0) rfl rfl rfl rfl rfl rfl z_5 ?_)
       (first | refine s_ 15 ?_ | refine ga_free_g 15 rfl z_1 rfl rfl rfl rfl rfl rfl z_5 ?_)
       (first | refine s_ 16 ?_ | refine ga_read_g 16 rfl z_2 (s_load_blk rfl .del a6_1) rfl rfl rfl rfl rfl rfl z_5 ?_)
       (first | refine s_ 17 ?_ | refine ga_free_g 17 rfl (s_bld rfl rfl) rfl rfl rfl rfl rfl rfl z_5 ?_)
       refine ga_one 18 rfl z_5 ?_
       (first | refine gl_guard_no rfl rfl rfl rfl rfl rfl rfl ?_ | (refine v_ ?_; refine gl_callp rfl (bareR_ct q ⟨⟨q.v.kind, q.v.n, [], [], false, 0⟩, none, 0⟩) (fun _ _ _ => trivial) rfl ?_; simp only [bareW7 q.v.kind q.v.n q.v.flags q.v.text q.v.part q.v.fr]))
       refine gl_nil ?_
       refine at_ga (.inl z_5) ?_
       refine w_ 19 rfl z_4 ?_
       refine w_ 20 rfl (s_assign rfl) ?_
       refine w_ 21 rfl (s_assign rfl) ?_
       refine ga_done z_5 ?_
       repeat refine y_ ?_)
      ·exact at_cut j_ (fun w hw => hw.drop)
      ·exact at_cut j_ (fun w hw => hw.drop)
     ·have hr5 : ¬(1 ≤ q.v.kind ∧ q.v.kind ≤ 5) := fun z => by rw [hpp.1 z] at h; cases h
      have e3 : okC q.v = false := by
       unfold okC
       rw [decide_eq_false (fun z => hr5 ⟨z.1, z.2.1⟩)]
       rfl
      rw [if_neg hr5, e3]
      repeat refine y_ ?_
      exact at_cut j_ (fun w hw => hw.drop)
   obtain ⟨g, hg⟩ : ∃ b, b = gV14 r.kind q.v := ⟨_, rfl⟩
   rw [← hg]
   repeat refine x_ ?_
   refine m_ ?_
   refine f_ (s_not rfl) ?_
   repeat refine n_ ?_
   refine g_cond rfl (fun h => ?_) (fun h => ?_)
   ·have hgf : g = false := by simpa using h
    have e2 : okVals r = false := by
     unfold okVals
     rw [Bool.and_eq_false_iff]
     refine .inr ?_
     rw [List.all_eq_false]
     refine ⟨q.v, by rw [hv]; exact List.mem_map.mpr ⟨q, hqm, rfl⟩, ?_⟩
     rw [← hg, hgf]
     simp
    have e1 : valuesQ r = [] := by unfold valuesQ; rw [e2]; rfl
    rw [e1, e2]
    repeat refine x_ ?_
    refine a_ ?_
    refine a_ ?_
    repeat refine n_ ?_
    refine g_ret ?_
    exact at_end2 rfl rfl rfl [] ⟨rfl, rfl⟩ (fun w hw => hw.dropAll)
   ·have hgt : g = true := by simpa using h
    have hgt' : gV14 r.kind q.v = true := hg.symm.trans hgt
    rw [← tV_f hgt'] at hjt
    have hok' : ∀ i, i < j + 1 → gV14 r.kind (x.vs.getD i VM0).v = true := fun i hi => by
     rcases Nat.lt_succ_iff_lt_or_eq.1 hi with h4 | rfl
     ·exact hok i h4
     ·rw [← hqe]; exact hgt'
    repeat refine x_ ?_
    refine m_ ?_
    refine f_ (s_gtr rfl rfl) ?_
    repeat refine n_ ?_
    refine g_cond rfl (fun h => ?_) (fun h => ?_)
    ·have h0 : 0 < j := by simp at h; omega
     rw [if_pos h0] at hjt
     repeat refine x_ ?_
     refine m_ ?_
     refine f_ (s_add_str rfl rfl (by simp only [List.length_cons, List.length_nil]; omega)) ?_
     refine a_ ?_
     repeat refine x_ ?_
     refine m_ ?_
     refine m_ ?_
     refine f_ ((s_add_str rfl rfl (by simp only [List.length_append, List.length_cons, List.length_nil]; omega)).eq (v' := B (joinS [32] (L.take (j + 1)))) (by rw [hjt])) ?_
     refine a_ ?_
     repeat refine x_ ?_
     refine m_ ?_
     refine f_ (s_add_i64 rfl rfl (by omega)) ?_
     refine a_ ?_
     repeat refine n_ ?_
     refine at_next (j + 1) ⟨by omega, hok'⟩ (by omega) ?_ ?_
     ·(repeat (first | exact Sub.nil _ | refine Sub.cons rfl ?_))
     ·intro w hw; exact hw
    ·have h0 : ¬0 < j := by simp at h; omega
     rw [if_neg h0] at hjt
     repeat refine x_ ?_
     refine m_ ?_
     refine m_ ?_
     refine f_ ((s_add_str rfl rfl (by omega)).eq (v' := B (joinS [32] (L.take (j + 1)))) (by rw [hjt])) ?_
     refine a_ ?_
     repeat refine x_ ?_
     refine m_ ?_
     refine f_ (s_add_i64 rfl rfl (by omega)) ?_
     refine a_ ?_
     repeat refine n_ ?_
     refine at_next (j + 1) ⟨by omega, hok'⟩ (by omega) ?_ ?_
     ·(repeat (first | exact Sub.nil _ | refine Sub.cons rfl ?_))
     ·intro w hw; exact hw
  ·have hjl : j = x.vs.length := by simp at h; omega
   have e2 : okVals r = true := by
    unfold okVals
    rw [Bool.and_eq_true, decide_eq_true_eq, List.all_eq_true]
    refine ⟨hlen, fun v hm => ?_⟩
    rw [hv] at hm
    obtain ⟨m, hm2, rfl⟩ := List.mem_map.mp hm
    obtain ⟨i, hi, rfl⟩ := List.getElem_of_mem hm2
    have := hok i (by omega)
    rw [List.getD_eq_getElem?_getD, List.getElem?_eq_getElem hi] at this
    exact this
   have e1 : valuesQ r = 40 :: joinS [32] L ++ [41] := by unfold valuesQ; rw [if_pos e2, hL]
   have hjl2 : (joinS [32] L).length ≤ 20000000000000 := by
    have h1 : ∀ f ∈ L, f.length ≤ 1000000000100 := fun f hf => by
     obtain ⟨i, hi, rfl⟩ := List.getElem_of_mem hf
     have h2 := hLg i (by omega)
     rw [List.getD_eq_getElem?_getD, List.getElem?_eq_getElem (by omega)] at h2
     simp only [Option.getD_some] at h2
     rw [h2, ← tV_f (hok i (by omega))]
     exact tV_len (hsv i (by omega))
    have h2 := joinS_len h1
    have h3 : L.length ≤ 10 := by omega
    have h4 := Nat.mul_le_mul_right (1000000000100 + 1) h3
    omega
   rw [e1, e2, hjl, ← hLl, List.take_length]
   repeat refine x_ ?_
   refine m_ ?_
   refine f_ (s_add_str rfl rfl (by simp only [List.length_cons, List.length_nil]; omega)) ?_
   refine f_ ((s_add_str rfl rfl (by simp only [List.length_append, List.length_cons, List.length_nil]; omega)).eq (v' := B (40 :: joinS [32] L ++ [41])) rfl) ?_
   refine a_ ?_
   refine a_ ?_
   repeat refine n_ ?_
   refine g_ret ?_
   exact at_end2 rfl rfl rfl [] ⟨rfl, rfl⟩ (fun w hw => hw.dropAll)
end Go.Proofs.YtgllpcggdcknaaaGreatDoor.Rp
namespace Go.Proofs.YtgllpcggdcknaaaGreatDoor.Rp
open Go Go.Sl
theorem onlyR' (r : RR) (x : RL) (hv : r.values = x.vs.map VM.v) (nm : Bs) (a1 a2 a3 a4 a5 a6 a7 a8 a9 : Bool) (h : decide (nm.length ≤ 10) = true ∧ nm.contains 116 = a1 ∧ nm.contains 99 = a2 ∧ nm.contains 120 = a3 ∧ nm.contains 110 = a4 ∧ nm.contains 108 = a5 ∧ nm.contains 102 = a6 ∧ nm.contains 98 = a7 ∧ nm.contains 118 = a8 ∧ nm.contains 109 = a9) : Pu Tryz.prog 40 [rrA r x, B nm] (fun _ => True) (.bool (onlyB r a1 a2 a3 a4 a5 a6 a7 a8 a9)) := by
 obtain ⟨h0, rfl, rfl, rfl, rfl, rfl, rfl, rfl, rfl, rfl⟩ := h
 exact onlyR_ct r x hv nm (by have := of_decide_eq_true h0; omega)
theorem plainW0 (s : Bs) : plainW s 0 = plainS s := by
 unfold plainW plainS
 congr 2
 refine List.all_congr rfl fun c => ?_
 by_cases h : c = 0
 ·subst h; rfl
 ·rw [decide_eq_false h]; simp
theorem plainW93 (s : Bs) : plainW s 93 = (plainS s && !s.contains 93) := by
 unfold plainW plainS
 have e : s.all (fun c => isPlain c && !decide (c = 93)) = (s.all isPlain && !s.contains 93) := by
  induction s with
  | nil => rfl
  | cons c t ih =>
   rw [List.all_cons, List.all_cons, ih, List.contains_cons]
   have : ((93 : UInt8) == c) = decide (c = 93) := by
    by_cases h : c = 93
    ·subst h; rfl
    ·rw [decide_eq_false h]; exact beq_eq_false_iff_ne.mpr fun e => h e.symm
   rw [this]
   cases isPlain c <;> cases decide (c = 93) <;> simp
 rw [e]
 cases s.all isPlain <;> cases s.contains 93 <;> simp
theorem head91 {s : Bs} (h : plainS s = true) : decide (s.head? ≠ some 91) = !decide (s.getD 0 0 = 91) := by
 cases s with
 | nil => cases h
 | cons c t => simp
theorem plain_len {s : Bs} {w : UInt8} (h : plainW s w = true) : 1 ≤ s.length := by
 unfold plainW at h
 simp only [Bool.and_eq_true, Bool.not_eq_true', List.isEmpty_eq_false_iff] at h
 exact List.length_pos_iff.mpr h.1.2
def textQ (r : RR) : Bs :=
 if r.kind = 13 then 42 :: 32 :: wSearch ++ numsP (r.nums.take 65) ++ modP r.mod
 else if r.kind = 14 then 42 :: 32 :: digS r.n ++ wFetch ++ valuesQ r
 else if r.kind = 12 then 42 :: 32 :: wStatus ++ formS r.box ++ 32 :: valuesQ r
 else if 1 ≤ r.kind ∧ r.kind ≤ 11 then textP r else []
theorem form_len (s : Bs) (h : s.length ≤ big) : (formS s).length ≤ 2 * s.length + 30 := by
 have h1 := litS_len s h
 have h2 := esc_len s
 unfold formS
 split
 ·omega
 ·cases hq : quoteS s with
  | none => simp only [Option.getD_none]; omega
  | some q =>
   unfold quoteS at hq
   split at hq
   ·cases hq
    simp only [Option.getD_some, List.length_append, List.length_cons, List.length_nil]
    omega
   ·cases hq
theorem okR_5 {r : RR} (hk : r.kind = 5) : okR r = (onlyB r false false true false false false false false false && plainS r.text) := by
 unfold okR
 rw [hk]
 rfl
theorem textQ_5 {r : RR} (hk : r.kind = 5) : textQ r = 43 :: 32 :: r.text := by
 unfold textQ textP
 rw [hk]
 rfl
set_option maxRecDepth 8000 in
theorem textR_5 (r : RR) (x : RL) (hz : SzR r) (hv : r.values = x.vs.map VM.v) (hk : r.kind = 5) : Pu Tryz.prog 17 [rrA r x] (RRd r x) (.tuple #[B (textQ r), .bool (okR r)]) := by
 rw [okR_5 hk, textQ_5 hk]
 obtain ⟨q1, hq1⟩ : ∃ q, q = onlyB r false false true false false false false false false := ⟨_, rfl⟩
 rw [← hq1, ← plainW0]
 have hx := hz.text
 unfold big at hx
 refine ct_enter 269 Tryz.func17 rfl rfl rfl ?_
 intro F hrr
 repeat refine x_ ?_
 refine gl_boxA rfl rfl ?_; intro g1
 refine a_ ?_
 refine a_ ?_
 repeat refine x_ ?_
 refine f_ z_1 ?_
 refine r_ (by exact s_load_blk rfl z_2 a10_0) ?_
 repeat refine x_ ?_
 refine f_ ((s_eql rfl rfl).eq (v' := .bool false) (congrArg Value.bool (decide_eq_false (by omega)))) ?_
 refine a_ ?_
 repeat refine x_ ?_
 refine f_ ((s_eql rfl rfl).eq (v' := .bool false) (congrArg Value.bool (decide_eq_false (by omega)))) ?_
 refine a_ ?_
 repeat refine x_ ?_
 refine f_ ((s_eql rfl rfl).eq (v' := .bool false) (congrArg Value.bool (decide_eq_false (by omega)))) ?_
 refine a_ ?_
 repeat refine x_ ?_
 refine f_ ((s_eql rfl rfl).eq (v' := .bool false) (congrArg Value.bool (decide_eq_false (by omega)))) ?_
 refine a_ ?_
 repeat refine x_ ?_
 refine f_ ((s_eql rfl rfl).eq (v' := .bool true) (congrArg Value.bool (decide_eq_true hk))) ?_
 refine a_ ?_
 repeat refine n_ ?_
 cases q1
 all_goals (
  repeat refine y_ ?_
  refine g_draw0 ([1, 3, 7], [0, 1, 3, 0, 8, 24, 56, 120, 248, 504, 511, 2047], [4]) 12 rfl ?_
  refine w_ 0 rfl z_1 ?_
  (refine ga_read 1 rfl z_2 (s_load_blk rfl .del a10_3) rfl rfl rfl z_5 ?_)
  refine w_ 2 rfl ((s_add_str rfl rfl (by simp only [List.length_cons, List.length_nil]; omega)).eq (v' := B (43 :: 32 :: r.text)) rfl) ?_
  (refine ga_read 3 rfl z_2 (s_load_blkW rfl .del z_7) rfl rfl rfl z_5 ?_)
  refine ga_one 4 rfl z_5 ?_
  refine gl_callp rfl (onlyR' r x hv [120] false false true false false false false false false (by decide)) (fun _ _ _ => trivial) rfl ?_; rw [← hq1]
  refine gl_nil ?_
  refine at_ga (.inr (by exact keeps_of z_8)) ?_
  refine w_ 5 rfl (s_move rfl) ?_
  (first | refine s_ 6 ?_ | refine ga_free_g 6 rfl z_1 rfl rfl rfl rfl rfl rfl z_5 ?_)
  (first | refine s_ 7 ?_ | refine ga_read_g 7 rfl z_2 (s_load_blk rfl .del a10_3) rfl rfl rfl rfl rfl rfl z_5 ?_)
  refine ga_one 8 rfl z_5 ?_
  (first | refine gl_guard_no rfl rfl rfl rfl rfl rfl rfl ?_ | (refine v_ ?_; refine gl_callp rfl (plainR_ct r.text 0 (by omega)) (fun _ _ _ => trivial) rfl ?_))
  refine gl_nil ?_
  refine at_ga (.inr (by exact keeps_of z_8)) ?_
  refine w_ 9 rfl z_4 ?_
  refine w_ 10 rfl (s_assign rfl) ?_
  refine w_ 11 rfl (s_assign rfl) ?_
  refine ga_done z_5 ?_
  repeat refine y_ ?_)
 all_goals (refine g_ret ?_; exact at_end2 rfl rfl rfl [] ⟨rfl, rfl⟩ (fun w hw => hw.dropAll))
theorem okR_6 {r : RR} (hk : r.kind = 6) : okR r = (onlyB r false false false false false false false false false) := by
 unfold okR
 rw [hk]
 rfl
theorem textQ_6 {r : RR} (hk : r.kind = 6) : textQ r = caps := by
 unfold textQ textP
 rw [hk]
 rfl
set_option maxRecDepth 8000 in
theorem textR_6 (r : RR) (x : RL) (hz : SzR r) (hv : r.values = x.vs.map VM.v) (hk : r.kind = 6) : Pu Tryz.prog 17 [rrA r x] (RRd r x) (.tuple #[B (textQ r), .bool (okR r)]) := by
 rw [okR_6 hk, textQ_6 hk]
 refine ct_enter 269 Tryz.func17 rfl rfl rfl ?_
 intro F hrr
 repeat refine x_ ?_
 refine gl_boxA rfl rfl ?_; intro g1
 refine a_ ?_
 refine a_ ?_
 repeat refine x_ ?_
 refine f_ z_1 ?_
 refine r_ (by exact s_load_blk rfl z_2 a10_0) ?_
 repeat refine x_ ?_
 refine f_ ((s_eql rfl rfl).eq (v' := .bool false) (congrArg Value.bool (decide_eq_false (by omega)))) ?_
 refine a_ ?_
 repeat refine x_ ?_
 refine f_ ((s_eql rfl rfl).eq (v' := .bool false) (congrArg Value.bool (decide_eq_false (by omega)))) ?_
 refine a_ ?_
 repeat refine x_ ?_
 refine f_ ((s_eql rfl rfl).eq (v' := .bool false) (congrArg Value.bool (decide_eq_false (by omega)))) ?_
 refine a_ ?_
 repeat refine x_ ?_
 refine f_ ((s_eql rfl rfl).eq (v' := .bool false) (congrArg Value.bool (decide_eq_false (by omega)))) ?_
 refine a_ ?_
 repeat refine x_ ?_
 refine f_ ((s_eql rfl rfl).eq (v' := .bool false) (congrArg Value.bool (decide_eq_false (by omega)))) ?_
 refine a_ ?_
 repeat refine x_ ?_
 refine f_ ((s_eql rfl rfl).eq (v' := .bool true) (congrArg Value.bool (decide_eq_true hk))) ?_
 refine a_ ?_
 repeat refine x_ ?_
 refine r_ (by exact s_load_blkW rfl z_2 z_7) ?_
 refine gl_callp rfl (onlyR' r x hv [] false false false false false false false false false (by decide)) (fun _ _ _ => trivial) rfl ?_
 refine a_ ?_
 refine a_ ?_
 repeat refine n_ ?_
 refine g_ret ?_
 exact at_end2 rfl rfl rfl [] ⟨rfl, rfl⟩ (fun w hw => hw.dropAll)
theorem okR_7 {r : RR} (hk : r.kind = 7) : okR r = (onlyB r false false false false false false false false false) := by
 unfold okR
 rw [hk]
 rfl
theorem textQ_7 {r : RR} (hk : r.kind = 7) : textQ r = enab := by
 unfold textQ textP
 rw [hk]
 rfl
set_option maxRecDepth 8000 in
theorem textR_7 (r : RR) (x : RL) (hz : SzR r) (hv : r.values = x.vs.map VM.v) (hk : r.kind = 7) : Pu Tryz.prog 17 [rrA r x] (RRd r x) (.tuple #[B (textQ r), .bool (okR r)]) := by
 rw [okR_7 hk, textQ_7 hk]
 refine ct_enter 269 Tryz.func17 rfl rfl rfl ?_
 intro F hrr
 repeat refine x_ ?_
 refine gl_boxA rfl rfl ?_; intro g1
 refine a_ ?_
 refine a_ ?_
 repeat refine x_ ?_
 refine f_ z_1 ?_
 refine r_ (by exact s_load_blk rfl z_2 a10_0) ?_
 repeat refine x_ ?_
 refine f_ ((s_eql rfl rfl).eq (v' := .bool false) (congrArg Value.bool (decide_eq_false (by omega)))) ?_
 refine a_ ?_
 repeat refine x_ ?_
 refine f_ ((s_eql rfl rfl).eq (v' := .bool false) (congrArg Value.bool (decide_eq_false (by omega)))) ?_
 refine a_ ?_
 repeat refine x_ ?_
 refine f_ ((s_eql rfl rfl).eq (v' := .bool false) (congrArg Value.bool (decide_eq_false (by omega)))) ?_
 refine a_ ?_
 repeat refine x_ ?_
 refine f_ ((s_eql rfl rfl).eq (v' := .bool false) (congrArg Value.bool (decide_eq_false (by omega)))) ?_
 refine a_ ?_
 repeat refine x_ ?_
 refine f_ ((s_eql rfl rfl).eq (v' := .bool false) (congrArg Value.bool (decide_eq_false (by omega)))) ?_
 refine a_ ?_
 repeat refine x_ ?_
 refine f_ ((s_eql rfl rfl).eq (v' := .bool false) (congrArg Value.bool (decide_eq_false (by omega)))) ?_
 refine a_ ?_
 repeat refine x_ ?_
 refine f_ ((s_eql rfl rfl).eq (v' := .bool true) (congrArg Value.bool (decide_eq_true hk))) ?_
 refine a_ ?_
 repeat refine x_ ?_
 refine r_ (by exact s_load_blkW rfl z_2 z_7) ?_
 refine gl_callp rfl (onlyR' r x hv [] false false false false false false false false false (by decide)) (fun _ _ _ => trivial) rfl ?_
 refine a_ ?_
 refine a_ ?_
 repeat refine n_ ?_
 refine g_ret ?_
 exact at_end2 rfl rfl rfl [] ⟨rfl, rfl⟩ (fun w hw => hw.dropAll)
theorem okR_8 {r : RR} (hk : r.kind = 8) : okR r = (onlyB r false false false true false false false false false && decide (r.n ≤ great)) := by
 unfold okR
 rw [hk]
 rfl
theorem textQ_8 {r : RR} (hk : r.kind = 8) : textQ r = 42 :: 32 :: digS r.n ++ wExists := by
 unfold textQ textP
 rw [hk]
 rfl
set_option maxRecDepth 8000 in
theorem textR_8 (r : RR) (x : RL) (hz : SzR r) (hv : r.values = x.vs.map VM.v) (hk : r.kind = 8) : Pu Tryz.prog 17 [rrA r x] (RRd r x) (.tuple #[B (textQ r), .bool (okR r)]) := by
 rw [okR_8 hk, textQ_8 hk]
 obtain ⟨q1, hq1⟩ : ∃ q, q = onlyB r false false false true false false false false false := ⟨_, rfl⟩
 obtain ⟨q2, hq2⟩ : ∃ q, q = decide ((r.n : Int) ≤ 9223372036854775807) := ⟨_, rfl⟩
 have e2 : decide (r.n ≤ great) = q2 := by rw [hq2]; exact decide_eq_decide.mpr (by unfold great; omega)
 have hn := hz.n
 have hd := digS_len64 hn
 rw [← hq1, e2]
 refine ct_enter 269 Tryz.func17 rfl rfl rfl ?_
 intro F hrr
 repeat refine x_ ?_
 refine gl_boxA rfl rfl ?_; intro g1
 refine a_ ?_
 refine a_ ?_
 repeat refine x_ ?_
 refine f_ z_1 ?_
 refine r_ (by exact s_load_blk rfl z_2 a10_0) ?_
 repeat refine x_ ?_
 refine f_ ((s_eql rfl rfl).eq (v' := .bool false) (congrArg Value.bool (decide_eq_false (by omega)))) ?_
 refine a_ ?_
 repeat refine x_ ?_
 refine f_ ((s_eql rfl rfl).eq (v' := .bool false) (congrArg Value.bool (decide_eq_false (by omega)))) ?_
 refine a_ ?_
 repeat refine x_ ?_
 refine f_ ((s_eql rfl rfl).eq (v' := .bool false) (congrArg Value.bool (decide_eq_false (by omega)))) ?_
 refine a_ ?_
 repeat refine x_ ?_
 refine f_ ((s_eql rfl rfl).eq (v' := .bool false) (congrArg Value.bool (decide_eq_false (by omega)))) ?_
 refine a_ ?_
 repeat refine x_ ?_
 refine f_ ((s_eql rfl rfl).eq (v' := .bool false) (congrArg Value.bool (decide_eq_false (by omega)))) ?_
 refine a_ ?_
 repeat refine x_ ?_
 refine f_ ((s_eql rfl rfl).eq (v' := .bool false) (congrArg Value.bool (decide_eq_false (by omega)))) ?_
 refine a_ ?_
 repeat refine x_ ?_
 refine f_ ((s_eql rfl rfl).eq (v' := .bool false) (congrArg Value.bool (decide_eq_false (by omega)))) ?_
 refine a_ ?_
 repeat refine x_ ?_
 refine f_ ((s_eql rfl rfl).eq (v' := .bool true) (congrArg Value.bool (decide_eq_true hk))) ?_
 refine a_ ?_
 repeat refine n_ ?_
 cases q1
 all_goals (
  repeat refine y_ ?_
  refine g_draw0 ([1, 5, 9], [0, 1, 3, 7, 15, 0, 39, 103, 231, 487, 999, 2023, 255, 8191], [2, 6]) 14 rfl ?_
  refine w_ 0 rfl z_1 ?_
  (refine ga_read 1 rfl z_2 (s_load_blk rfl .del a10_4) rfl rfl rfl z_5 ?_)
  (refine ga_read 5 rfl z_2 (s_load_blkW rfl .del z_7) rfl rfl rfl z_5 ?_)
  refine ga_one 2 rfl z_5 ?_
  refine gl_callp rfl (digitsR_ct r.n hn) (fun _ _ _ => trivial) rfl ?_
  refine gl_nil ?_
  refine at_ga (.inr (by exact keeps_of z_8)) ?_
  refine w_ 3 rfl (s_add_str rfl rfl (by simp only [List.length_cons, List.length_nil]; omega)) ?_
  refine w_ 4 rfl ((s_add_str rfl rfl (by simp only [List.length_append, List.length_cons, List.length_nil]; omega)).eq (v' := B (42 :: 32 :: digS r.n ++ wExists)) rfl) ?_
  refine ga_one 6 rfl z_5 ?_
  refine gl_callp rfl (onlyR' r x hv [110] false false false true false false false false false (by decide)) (fun _ _ _ => trivial) rfl ?_; rw [← hq1]
  refine gl_nil ?_
  refine at_ga (.inr (by exact keeps_of z_8)) ?_
  refine w_ 7 rfl (s_move rfl) ?_
  (first | refine s_ 8 ?_ | refine ga_free_g 8 rfl z_1 rfl rfl rfl rfl rfl rfl z_5 ?_)
  (first | refine s_ 9 ?_ | refine ga_read_g 9 rfl z_2 (s_load_blk rfl .del a10_4) rfl rfl rfl rfl rfl rfl z_5 ?_)
  (first | refine s_ 10 ?_ | refine ga_free_g 10 rfl ((s_leq rfl rfl).eb hq2) rfl rfl rfl rfl rfl rfl z_5 ?_)
  refine w_ 11 rfl z_4 ?_
  refine w_ 12 rfl (s_assign rfl) ?_
  refine w_ 13 rfl (s_assign rfl) ?_
  refine ga_done z_5 ?_
  repeat refine y_ ?_)
 all_goals (refine g_ret ?_; exact at_end2 rfl rfl rfl [] ⟨rfl, rfl⟩ (fun w hw => hw.dropAll))
theorem okR_9 {r : RR} (hk : r.kind = 9) : okR r = (onlyB r false false false true false false false false false && decide (r.n ≤ great)) := by
 unfold okR
 rw [hk]
 rfl
theorem textQ_9 {r : RR} (hk : r.kind = 9) : textQ r = 42 :: 32 :: digS r.n ++ wExpunge := by
 unfold textQ textP
 rw [hk]
 rfl
set_option maxRecDepth 8000 in
theorem textR_9 (r : RR) (x : RL) (hz : SzR r) (hv : r.values = x.vs.map VM.v) (hk : r.kind = 9) : Pu Tryz.prog 17 [rrA r x] (RRd r x) (.tuple #[B (textQ r), .bool (okR r)]) := by
 rw [okR_9 hk, textQ_9 hk]
 obtain ⟨q1, hq1⟩ : ∃ q, q = onlyB r false false false true false false false false false := ⟨_, rfl⟩
 obtain ⟨q2, hq2⟩ : ∃ q, q = decide ((r.n : Int) ≤ 9223372036854775807) := ⟨_, rfl⟩
 have e2 : decide (r.n ≤ great) = q2 := by rw [hq2]; exact decide_eq_decide.mpr (by unfold great; omega)
 have hn := hz.n
 have hd := digS_len64 hn
 rw [← hq1, e2]
 refine ct_enter 269 Tryz.func17 rfl rfl rfl ?_
 intro F hrr
 repeat refine x_ ?_
 refine gl_boxA rfl rfl ?_; intro g1
 refine a_ ?_
 refine a_ ?_
 repeat refine x_ ?_
 refine f_ z_1 ?_
 refine r_ (by exact s_load_blk rfl z_2 a10_0) ?_
 repeat refine x_ ?_
 refine f_ ((s_eql rfl rfl).eq (v' := .bool false) (congrArg Value.bool (decide_eq_false (by omega)))) ?_
 refine a_ ?_
 repeat refine x_ ?_
 refine f_ ((s_eql rfl rfl).eq (v' := .bool false) (congrArg Value.bool (decide_eq_false (by omega)))) ?_
 refine a_ ?_
 repeat refine x_ ?_
 refine f_ ((s_eql rfl rfl).eq (v' := .bool false) (congrArg Value.bool (decide_eq_false (by omega)))) ?_
 refine a_ ?_
 repeat refine x_ ?_
 refine f_ ((s_eql rfl rfl).eq (v' := .bool false) (congrArg Value.bool (decide_eq_false (by omega)))) ?_
 refine a_ ?_
 repeat refine x_ ?_
 refine f_ ((s_eql rfl rfl).eq (v' := .bool false) (congrArg Value.bool (decide_eq_false (by omega)))) ?_
 refine a_ ?_
 repeat refine x_ ?_
 refine f_ ((s_eql rfl rfl).eq (v' := .bool false) (congrArg Value.bool (decide_eq_false (by omega)))) ?_
 refine a_ ?_
 repeat refine x_ ?_
 refine f_ ((s_eql rfl rfl).eq (v' := .bool false) (congrArg Value.bool (decide_eq_false (by omega)))) ?_
 refine a_ ?_
 repeat refine x_ ?_
 refine f_ ((s_eql rfl rfl).eq (v' := .bool false) (congrArg Value.bool (decide_eq_false (by omega)))) ?_
 refine a_ ?_
 repeat refine x_ ?_
 refine f_ ((s_eql rfl rfl).eq (v' := .bool true) (congrArg Value.bool (decide_eq_true hk))) ?_
 refine a_ ?_
 repeat refine n_ ?_
 cases q1
 all_goals (
  repeat refine y_ ?_
  refine g_draw0 ([1, 5, 9], [0, 1, 3, 7, 15, 0, 39, 103, 231, 487, 999, 2023, 255, 8191], [2, 6]) 14 rfl ?_
  refine w_ 0 rfl z_1 ?_
  (refine ga_read 1 rfl z_2 (s_load_blk rfl .del a10_4) rfl rfl rfl z_5 ?_)
  (refine ga_read 5 rfl z_2 (s_load_blkW rfl .del z_7) rfl rfl rfl z_5 ?_)
  refine ga_one 2 rfl z_5 ?_
  refine gl_callp rfl (digitsR_ct r.n hn) (fun _ _ _ => trivial) rfl ?_
  refine gl_nil ?_
  refine at_ga (.inr (by exact keeps_of z_8)) ?_
  refine w_ 3 rfl (s_add_str rfl rfl (by simp only [List.length_cons, List.length_nil]; omega)) ?_
  refine w_ 4 rfl ((s_add_str rfl rfl (by simp only [List.length_append, List.length_cons, List.length_nil]; omega)).eq (v' := B (42 :: 32 :: digS r.n ++ wExpunge)) rfl) ?_
  refine ga_one 6 rfl z_5 ?_
  refine gl_callp rfl (onlyR' r x hv [110] false false false true false false false false false (by decide)) (fun _ _ _ => trivial) rfl ?_; rw [← hq1]
  refine gl_nil ?_
  refine at_ga (.inr (by exact keeps_of z_8)) ?_
  refine w_ 7 rfl (s_move rfl) ?_
  (first | refine s_ 8 ?_ | refine ga_free_g 8 rfl z_1 rfl rfl rfl rfl rfl rfl z_5 ?_)
  (first | refine s_ 9 ?_ | refine ga_read_g 9 rfl z_2 (s_load_blk rfl .del a10_4) rfl rfl rfl rfl rfl rfl z_5 ?_)
  (first | refine s_ 10 ?_ | refine ga_free_g 10 rfl ((s_leq rfl rfl).eb hq2) rfl rfl rfl rfl rfl rfl z_5 ?_)
  refine w_ 11 rfl z_4 ?_
  refine w_ 12 rfl (s_assign rfl) ?_
  refine w_ 13 rfl (s_assign rfl) ?_
  refine ga_done z_5 ?_
  repeat refine y_ ?_)
 all_goals (refine g_ret ?_; exact at_end2 rfl rfl rfl [] ⟨rfl, rfl⟩ (fun w hw => hw.dropAll))
theorem okR_10 {r : RR} (hk : r.kind = 10) : okR r = (onlyB r false false false false false true false false false && rightS r.flags) := by
 unfold okR
 rw [hk]
 rfl
theorem textQ_10 {r : RR} (hk : r.kind = 10) : textQ r = 42 :: 32 :: wFlags ++ printF r.flags := by
 unfold textQ textP
 rw [hk]
 rfl
set_option maxRecDepth 8000 in
theorem textR_10 (r : RR) (x : RL) (hz : SzR r) (hv : r.values = x.vs.map VM.v) (hk : r.kind = 10) : Pu Tryz.prog 17 [rrA r x] (RRd r x) (.tuple #[B (textQ r), .bool (okR r)]) := by
 rw [okR_10 hk, textQ_10 hk]
 obtain ⟨q1, hq1⟩ : ∃ q, q = onlyB r false false false false false true false false false := ⟨_, rfl⟩
 have h1 := hz.fl
 have h2 := hz.fb
 have h3 := hz.fj
 have hp : (printF r.flags).length ≤ 1000000000002 := by unfold big at h3; unfold printF; simp; omega
 rw [← hq1]
 refine ct_enter 269 Tryz.func17 rfl rfl rfl ?_
 intro F hrr
 repeat refine x_ ?_
 refine gl_boxA rfl rfl ?_; intro g1
 refine a_ ?_
 refine a_ ?_
 repeat refine x_ ?_
 refine f_ z_1 ?_
 refine r_ (by exact s_load_blk rfl z_2 a10_0) ?_
 repeat refine x_ ?_
 refine f_ ((s_eql rfl rfl).eq (v' := .bool false) (congrArg Value.bool (decide_eq_false (by omega)))) ?_
 refine a_ ?_
 repeat refine x_ ?_
 refine f_ ((s_eql rfl rfl).eq (v' := .bool false) (congrArg Value.bool (decide_eq_false (by omega)))) ?_
 refine a_ ?_
 repeat refine x_ ?_
 refine f_ ((s_eql rfl rfl).eq (v' := .bool false) (congrArg Value.bool (decide_eq_false (by omega)))) ?_
 refine a_ ?_
 repeat refine x_ ?_
 refine f_ ((s_eql rfl rfl).eq (v' := .bool false) (congrArg Value.bool (decide_eq_false (by omega)))) ?_
 refine a_ ?_
 repeat refine x_ ?_
 refine f_ ((s_eql rfl rfl).eq (v' := .bool false) (congrArg Value.bool (decide_eq_false (by omega)))) ?_
 refine a_ ?_
 repeat refine x_ ?_
 refine f_ ((s_eql rfl rfl).eq (v' := .bool false) (congrArg Value.bool (decide_eq_false (by omega)))) ?_
 refine a_ ?_
 repeat refine x_ ?_
 refine f_ ((s_eql rfl rfl).eq (v' := .bool false) (congrArg Value.bool (decide_eq_false (by omega)))) ?_
 refine a_ ?_
 repeat refine x_ ?_
 refine f_ ((s_eql rfl rfl).eq (v' := .bool false) (congrArg Value.bool (decide_eq_false (by omega)))) ?_
 refine a_ ?_
 repeat refine x_ ?_
 refine f_ ((s_eql rfl rfl).eq (v' := .bool false) (congrArg Value.bool (decide_eq_false (by omega)))) ?_
 refine a_ ?_
 repeat refine x_ ?_
 refine f_ ((s_eql rfl rfl).eq (v' := .bool true) (congrArg Value.bool (decide_eq_true hk))) ?_
 refine a_ ?_
 repeat refine n_ ?_
 cases q1
 all_goals (
  repeat refine y_ ?_
  refine g_draw0 ([1, 4, 8], [0, 1, 3, 7, 0, 23, 55, 119, 247, 503, 1015, 1023, 4095], [2, 5]) 13 rfl ?_
  refine w_ 0 rfl z_1 ?_
  (refine ga_read 1 rfl z_2 (s_load_blk rfl .del a10_7) rfl rfl rfl z_5 ?_)
  (refine ga_read 4 rfl z_2 (s_load_blkW rfl .del z_7) rfl rfl rfl z_5 ?_)
  refine ga_one 2 rfl z_5 ?_
  refine gl_callp rfl (PrintR_ct r.flags x.fa x.fc h1 h3) (fun h hh hb => hrr.flags.le hh) rfl ?_
  refine gl_nil ?_
  refine at_ga (.inr (by exact keeps_of z_8)) ?_
  refine w_ 3 rfl ((s_add_str rfl rfl (by simp only [List.length_cons, List.length_nil]; omega)).eq (v' := B (42 :: 32 :: wFlags ++ printF r.flags)) rfl) ?_
  refine ga_one 5 rfl z_5 ?_
  refine gl_callp rfl (onlyR' r x hv [102] false false false false false true false false false (by decide)) (fun _ _ _ => trivial) rfl ?_; rw [← hq1]
  refine gl_nil ?_
  refine at_ga (.inr (by exact keeps_of z_8)) ?_
  refine w_ 6 rfl (s_move rfl) ?_
  (first | refine s_ 7 ?_ | refine ga_free_g 7 rfl z_1 rfl rfl rfl rfl rfl rfl z_5 ?_)
  (first | refine s_ 8 ?_ | refine ga_read_g 8 rfl z_2 (s_load_blk rfl .del a10_7) rfl rfl rfl rfl rfl rfl z_5 ?_)
  refine ga_one 9 rfl z_5 ?_
  (first | refine gl_guard_no rfl rfl rfl rfl rfl rfl rfl ?_ | (refine v_ ?_; refine gl_callp rfl (RightR_ct r.flags x.fa x.fc h1 h2) (fun h hh hb => hrr.flags.le hh) rfl ?_))
  refine gl_nil ?_
  refine at_ga (.inl z_5) ?_
  refine w_ 10 rfl z_4 ?_
  refine w_ 11 rfl (s_assign rfl) ?_
  refine w_ 12 rfl (s_assign rfl) ?_
  refine ga_done z_5 ?_
  repeat refine y_ ?_)
 all_goals (refine g_ret ?_; exact at_end2 rfl rfl rfl [] ⟨rfl, rfl⟩ (fun w hw => hw.dropAll))
theorem okR_11 {r : RR} (hk : r.kind = 11) : okR r = (onlyB r false false false false false false true false false && isBox r.box) := by
 unfold okR
 rw [hk]
 rfl
theorem textQ_11 {r : RR} (hk : r.kind = 11) : textQ r = 42 :: 32 :: wList ++ formS r.box := by
 unfold textQ textP
 rw [hk]
 rfl
set_option maxRecDepth 8000 in
theorem textR_11 (r : RR) (x : RL) (hz : SzR r) (hv : r.values = x.vs.map VM.v) (hk : r.kind = 11) : Pu Tryz.prog 17 [rrA r x] (RRd r x) (.tuple #[B (textQ r), .bool (okR r)]) := by
 rw [okR_11 hk, textQ_11 hk]
 obtain ⟨q1, hq1⟩ : ∃ q, q = onlyB r false false false false false false true false false := ⟨_, rfl⟩
 have h1 := hz.box
 have hp := form_len r.box h1
 have h1' := h1
 unfold big at h1
 rw [← hq1]
 refine ct_enter 269 Tryz.func17 rfl rfl rfl ?_
 intro F hrr
 repeat refine x_ ?_
 refine gl_boxA rfl rfl ?_; intro g1
 refine a_ ?_
 refine a_ ?_
 repeat refine x_ ?_
 refine f_ z_1 ?_
 refine r_ (by exact s_load_blk rfl z_2 a10_0) ?_
 repeat refine x_ ?_
 refine f_ ((s_eql rfl rfl).eq (v' := .bool false) (congrArg Value.bool (decide_eq_false (by omega)))) ?_
 refine a_ ?_
 repeat refine x_ ?_
 refine f_ ((s_eql rfl rfl).eq (v' := .bool false) (congrArg Value.bool (decide_eq_false (by omega)))) ?_
 refine a_ ?_
 repeat refine x_ ?_
 refine f_ ((s_eql rfl rfl).eq (v' := .bool false) (congrArg Value.bool (decide_eq_false (by omega)))) ?_
 refine a_ ?_
 repeat refine x_ ?_
 refine f_ ((s_eql rfl rfl).eq (v' := .bool false) (congrArg Value.bool (decide_eq_false (by omega)))) ?_
 refine a_ ?_
 repeat refine x_ ?_
 refine f_ ((s_eql rfl rfl).eq (v' := .bool false) (congrArg Value.bool (decide_eq_false (by omega)))) ?_
 refine a_ ?_
 repeat refine x_ ?_
 refine f_ ((s_eql rfl rfl).eq (v' := .bool false) (congrArg Value.bool (decide_eq_false (by omega)))) ?_
 refine a_ ?_
 repeat refine x_ ?_
 refine f_ ((s_eql rfl rfl).eq (v' := .bool false) (congrArg Value.bool (decide_eq_false (by omega)))) ?_
 refine a_ ?_
 repeat refine x_ ?_
 refine f_ ((s_eql rfl rfl).eq (v' := .bool false) (congrArg Value.bool (decide_eq_false (by omega)))) ?_
 refine a_ ?_
 repeat refine x_ ?_
 refine f_ ((s_eql rfl rfl).eq (v' := .bool false) (congrArg Value.bool (decide_eq_false (by omega)))) ?_
 refine a_ ?_
 repeat refine x_ ?_
 refine f_ ((s_eql rfl rfl).eq (v' := .bool false) (congrArg Value.bool (decide_eq_false (by omega)))) ?_
 refine a_ ?_
 repeat refine x_ ?_
 refine f_ ((s_eql rfl rfl).eq (v' := .bool true) (congrArg Value.bool (decide_eq_true hk))) ?_
 refine a_ ?_
 repeat refine n_ ?_
 cases q1
 all_goals (
  repeat refine y_ ?_
  refine g_draw0 ([1, 4, 8], [0, 1, 3, 7, 0, 23, 55, 119, 247, 503, 1015, 1023, 4095], [2, 5]) 13 rfl ?_
  refine w_ 0 rfl z_1 ?_
  (refine ga_read 1 rfl z_2 (s_load_blk rfl .del a10_8) rfl rfl rfl z_5 ?_)
  (refine ga_read 4 rfl z_2 (s_load_blkW rfl .del z_7) rfl rfl rfl z_5 ?_)
  refine ga_one 2 rfl z_5 ?_
  refine gl_callp rfl (FormR_ct r.box h1') (fun _ _ _ => trivial) rfl ?_
  refine gl_nil ?_
  refine at_ga (.inr (by exact keeps_of z_8)) ?_
  refine w_ 3 rfl ((s_add_str rfl rfl (by simp only [List.length_cons, List.length_nil]; omega)).eq (v' := B (42 :: 32 :: wList ++ formS r.box)) rfl) ?_
  refine ga_one 5 rfl z_5 ?_
  refine gl_callp rfl (onlyR' r x hv [98] false false false false false false true false false (by decide)) (fun _ _ _ => trivial) rfl ?_; rw [← hq1]
  refine gl_nil ?_
  refine at_ga (.inr (by exact keeps_of z_8)) ?_
  refine w_ 6 rfl (s_move rfl) ?_
  (first | refine s_ 7 ?_ | refine ga_free_g 7 rfl z_1 rfl rfl rfl rfl rfl rfl z_5 ?_)
  (first | refine s_ 8 ?_ | refine ga_read_g 8 rfl z_2 (s_load_blk rfl .del a10_8) rfl rfl rfl rfl rfl rfl z_5 ?_)
  refine ga_one 9 rfl z_5 ?_
  (first | refine gl_guard_no rfl rfl rfl rfl rfl rfl rfl ?_ | (refine v_ ?_; refine gl_callp rfl (boxQ_ct r.box (by omega)) (fun _ _ _ => trivial) rfl ?_))
  refine gl_nil ?_
  refine at_ga (.inl z_5) ?_
  refine w_ 10 rfl z_4 ?_
  refine w_ 11 rfl (s_assign rfl) ?_
  refine w_ 12 rfl (s_assign rfl) ?_
  refine ga_done z_5 ?_
  repeat refine y_ ?_)
 all_goals (refine g_ret ?_; exact at_end2 rfl rfl rfl [] ⟨rfl, rfl⟩ (fun w hw => hw.dropAll))
theorem valuesQ_len {r : RR} (hz : SzR r) : (valuesQ r).length ≤ 20000000000000 := by
 unfold valuesQ
 split
 ·next h =>
  unfold okVals at h
  simp only [Bool.and_eq_true, decide_eq_true_eq, List.all_eq_true] at h
  have h1 : ∀ f ∈ r.values.map (fV14 r.kind), f.length ≤ 1000000000100 := fun f hf => by
   obtain ⟨v, hv, rfl⟩ := List.mem_map.mp hf
   rw [← tV_f (h.2 v hv)]
   exact tV_len (hz.vs v hv)
  have h2 := joinS_len h1
  rw [List.length_map] at h2
  have h4 := Nat.mul_le_mul_right (1000000000100 + 1) h.1.2
  simp only [List.length_append, List.length_cons, List.length_nil]
  omega
 ·simp
theorem okR_12 {r : RR} (hk : r.kind = 12) : okR r = (okVals r && onlyB r false false false false false false true true false && isBox r.box) := by
 unfold okR okVals
 rw [hk]
 rfl
theorem textQ_12 {r : RR} (hk : r.kind = 12) : textQ r = 42 :: 32 :: wStatus ++ formS r.box ++ 32 :: valuesQ r := by
 unfold textQ
 rw [hk]
 rfl
set_option maxRecDepth 8000 in
theorem textR_12 (r : RR) (x : RL) (hz : SzR r) (hv : r.values = x.vs.map VM.v) (hk : r.kind = 12) : Pu Tryz.prog 17 [rrA r x] (RRd r x) (.tuple #[B (textQ r), .bool (okR r)]) := by
 rw [okR_12 hk, textQ_12 hk]
 obtain ⟨q0, hq0⟩ : ∃ q, q = okVals r := ⟨_, rfl⟩
 obtain ⟨q1, hq1⟩ : ∃ q, q = onlyB r false false false false false false true true false := ⟨_, rfl⟩
 have h1 := hz.box
 have hp := form_len r.box h1
 have h1' := h1
 have hvq := valuesQ_len hz
 unfold big at h1
 rw [← hq0, ← hq1]
 refine ct_enter 269 Tryz.func17 rfl rfl rfl ?_
 intro F hrr
 repeat refine x_ ?_
 refine gl_boxA rfl rfl ?_; intro g1
 refine a_ ?_
 refine a_ ?_
 repeat refine x_ ?_
 refine f_ z_1 ?_
 refine r_ (by exact s_load_blk rfl z_2 a10_0) ?_
 repeat refine x_ ?_
 refine f_ ((s_eql rfl rfl).eq (v' := .bool false) (congrArg Value.bool (decide_eq_false (by omega)))) ?_
 refine a_ ?_
 repeat refine x_ ?_
 refine f_ ((s_eql rfl rfl).eq (v' := .bool false) (congrArg Value.bool (decide_eq_false (by omega)))) ?_
 refine a_ ?_
 repeat refine x_ ?_
 refine f_ ((s_eql rfl rfl).eq (v' := .bool false) (congrArg Value.bool (decide_eq_false (by omega)))) ?_
 refine a_ ?_
 repeat refine x_ ?_
 refine f_ ((s_eql rfl rfl).eq (v' := .bool false) (congrArg Value.bool (decide_eq_false (by omega)))) ?_
 refine a_ ?_
 repeat refine x_ ?_
 refine f_ ((s_eql rfl rfl).eq (v' := .bool false) (congrArg Value.bool (decide_eq_false (by omega)))) ?_
 refine a_ ?_
 repeat refine x_ ?_
 refine f_ ((s_eql rfl rfl).eq (v' := .bool false) (congrArg Value.bool (decide_eq_false (by omega)))) ?_
 refine a_ ?_
 repeat refine x_ ?_
 refine f_ ((s_eql rfl rfl).eq (v' := .bool false) (congrArg Value.bool (decide_eq_false (by omega)))) ?_
 refine a_ ?_
 repeat refine x_ ?_
 refine f_ ((s_eql rfl rfl).eq (v' := .bool false) (congrArg Value.bool (decide_eq_false (by omega)))) ?_
 refine a_ ?_
 repeat refine x_ ?_
 refine f_ ((s_eql rfl rfl).eq (v' := .bool false) (congrArg Value.bool (decide_eq_false (by omega)))) ?_
 refine a_ ?_
 repeat refine x_ ?_
 refine f_ ((s_eql rfl rfl).eq (v' := .bool false) (congrArg Value.bool (decide_eq_false (by omega)))) ?_
 refine a_ ?_
 repeat refine x_ ?_
 refine f_ ((s_eql rfl rfl).eq (v' := .bool false) (congrArg Value.bool (decide_eq_false (by omega)))) ?_
 refine a_ ?_
 repeat refine x_ ?_
 refine f_ ((s_eql rfl rfl).eq (v' := .bool true) (congrArg Value.bool (decide_eq_true hk))) ?_
 refine a_ ?_
 repeat refine x_ ?_
 refine r_ (by exact s_load_blkW rfl z_2 z_7) ?_
 refine gl_callp rfl (valuesR_ct r x hz hv) (fun h hh hb => hrr.le hh) rfl ?_; rw [← hq0]
 refine m_ ?_
 refine f_ (s_extract rfl rfl) ?_
 refine f_ (s_extract rfl rfl) ?_
 refine a_ ?_
 refine a_ ?_
 repeat refine n_ ?_
 cases q0 <;> cases q1
 all_goals (
  repeat refine x_ ?_
  refine f_ z_1 ?_
  refine r_ (by exact s_load_blk rfl z_2 a10_8) ?_
  refine gl_callp rfl (FormR_ct r.box h1') (fun _ _ _ => trivial) rfl ?_
  refine f_ (s_add_str rfl rfl (by simp only [List.length_cons, List.length_nil]; omega)) ?_
  refine f_ (s_add_str rfl rfl (by simp only [List.length_append, List.length_cons, List.length_nil]; omega)) ?_
  refine m_ ?_
  refine f_ ((s_add_str rfl rfl (by simp only [List.length_append, List.length_cons, List.length_nil]; omega)).eq (v' := B (42 :: 32 :: wStatus ++ formS r.box ++ 32 :: valuesQ r)) z_10) ?_
  refine m_ ?_
  refine m_ ?_
  (first | refine gl_guard_no rfl rfl rfl rfl rfl rfl rfl ?_ | (refine v_ ?_; refine r_ (by exact s_load_blkW rfl z_2 z_7) ?_))
  (first | refine gl_guard_no rfl rfl rfl rfl rfl rfl rfl ?_ | (refine v_ ?_; refine gl_callp rfl (onlyR' r x hv [98, 118] false false false false false false true true false (by decide)) (fun _ _ _ => trivial) rfl ?_; rw [← hq1]))
  refine f_ z_4 ?_
  refine m_ ?_
  (first | refine gl_guard_no rfl rfl rfl rfl rfl rfl rfl ?_ | (refine v_ ?_; refine f_ z_1 ?_))
  (first | refine gl_guard_no rfl rfl rfl rfl rfl rfl rfl ?_ | (refine v_ ?_; refine r_ (by exact s_load_blk rfl z_2 a10_8) ?_))
  (first | refine gl_guard_no rfl rfl rfl rfl rfl rfl rfl ?_ | (refine v_ ?_; refine gl_callp rfl (boxQ_ct r.box (by omega)) (fun _ _ _ => trivial) rfl ?_))
  refine f_ z_4 ?_
  refine a_ ?_
  refine a_ ?_
  refine gl_nil ?_
  repeat refine y_ ?_)
 all_goals (refine g_ret ?_; exact at_end2 rfl rfl rfl [] ⟨rfl, rfl⟩ (fun w hw => hw.dropAll))
theorem okR_14 {r : RR} (hk : r.kind = 14) : okR r = (okVals r && onlyB r false false false true false false false true false && decide (r.n ≤ great)) := by
 unfold okR okVals
 rw [hk]
 rfl
theorem textQ_14 {r : RR} (hk : r.kind = 14) : textQ r = 42 :: 32 :: digS r.n ++ wFetch ++ valuesQ r := by
 unfold textQ
 rw [hk]
 rfl
set_option maxRecDepth 8000 in
theorem textR_14 (r : RR) (x : RL) (hz : SzR r) (hv : r.values = x.vs.map VM.v) (hk : r.kind = 14) : Pu Tryz.prog 17 [rrA r x] (RRd r x) (.tuple #[B (textQ r), .bool (okR r)]) := by
 rw [okR_14 hk, textQ_14 hk]
 obtain ⟨q0, hq0⟩ : ∃ q, q = okVals r := ⟨_, rfl⟩
 obtain ⟨q1, hq1⟩ : ∃ q, q = onlyB r false false false true false false false true false := ⟨_, rfl⟩
 obtain ⟨q2, hq2⟩ : ∃ q, q = decide ((r.n : Int) ≤ 9223372036854775807) := ⟨_, rfl⟩
 have e2 : decide (r.n ≤ great) = q2 := by rw [hq2]; exact decide_eq_decide.mpr (by unfold great; omega)
 have hn := hz.n
 have hd := digS_len64 hn
 have hvq := valuesQ_len hz
 rw [← hq0, ← hq1, e2]
 refine ct_enter 269 Tryz.func17 rfl rfl rfl ?_
 intro F hrr
 repeat refine x_ ?_
 refine gl_boxA rfl rfl ?_; intro g1
 refine a_ ?_
 refine a_ ?_
 repeat refine x_ ?_
 refine f_ z_1 ?_
 refine r_ (by exact s_load_blk rfl z_2 a10_0) ?_
 repeat refine x_ ?_
 refine f_ ((s_eql rfl rfl).eq (v' := .bool false) (congrArg Value.bool (decide_eq_false (by omega)))) ?_
 refine a_ ?_
 repeat refine x_ ?_
 refine f_ ((s_eql rfl rfl).eq (v' := .bool false) (congrArg Value.bool (decide_eq_false (by omega)))) ?_
 refine a_ ?_
 repeat refine x_ ?_
 refine f_ ((s_eql rfl rfl).eq (v' := .bool false) (congrArg Value.bool (decide_eq_false (by omega)))) ?_
 refine a_ ?_
 repeat refine x_ ?_
 refine f_ ((s_eql rfl rfl).eq (v' := .bool false) (congrArg Value.bool (decide_eq_false (by omega)))) ?_
 refine a_ ?_
 repeat refine x_ ?_
 refine f_ ((s_eql rfl rfl).eq (v' := .bool false) (congrArg Value.bool (decide_eq_false (by omega)))) ?_
 refine a_ ?_
 repeat refine x_ ?_
 refine f_ ((s_eql rfl rfl).eq (v' := .bool false) (congrArg Value.bool (decide_eq_false (by omega)))) ?_
 refine a_ ?_
 repeat refine x_ ?_
 refine f_ ((s_eql rfl rfl).eq (v' := .bool false) (congrArg Value.bool (decide_eq_false (by omega)))) ?_
 refine a_ ?_
 repeat refine x_ ?_
 refine f_ ((s_eql rfl rfl).eq (v' := .bool false) (congrArg Value.bool (decide_eq_false (by omega)))) ?_
 refine a_ ?_
 repeat refine x_ ?_
 refine f_ ((s_eql rfl rfl).eq (v' := .bool false) (congrArg Value.bool (decide_eq_false (by omega)))) ?_
 refine a_ ?_
 repeat refine x_ ?_
 refine f_ ((s_eql rfl rfl).eq (v' := .bool false) (congrArg Value.bool (decide_eq_false (by omega)))) ?_
 refine a_ ?_
 repeat refine x_ ?_
 refine f_ ((s_eql rfl rfl).eq (v' := .bool false) (congrArg Value.bool (decide_eq_false (by omega)))) ?_
 refine a_ ?_
 repeat refine x_ ?_
 refine f_ ((s_eql rfl rfl).eq (v' := .bool false) (congrArg Value.bool (decide_eq_false (by omega)))) ?_
 refine a_ ?_
 repeat refine x_ ?_
 refine f_ ((s_eql rfl rfl).eq (v' := .bool false) (congrArg Value.bool (decide_eq_false (by omega)))) ?_
 refine a_ ?_
 repeat refine x_ ?_
 refine f_ ((s_eql rfl rfl).eq (v' := .bool true) (congrArg Value.bool (decide_eq_true hk))) ?_
 refine a_ ?_
 repeat refine x_ ?_
 refine r_ (by exact s_load_blkW rfl z_2 z_7) ?_
 refine gl_callp rfl (valuesR_ct r x hz hv) (fun h hh hb => hrr.le hh) rfl ?_; rw [← hq0]
 refine m_ ?_
 refine f_ (s_extract rfl rfl) ?_
 refine f_ (s_extract rfl rfl) ?_
 refine a_ ?_
 refine a_ ?_
 repeat refine n_ ?_
 cases q0 <;> cases q1
 all_goals (
  repeat refine y_ ?_
  refine g_draw0 ([1, 9, 14], [0, 1, 3, 7, 15, 0, 63, 0, 135, 391, 903, 1927, 3975, 8071, 16263, 32647, 65415, 8191, 262143], [2]) 19 rfl ?_
  refine w_ 0 rfl z_1 ?_
  (refine ga_read 1 rfl z_2 (s_load_blk rfl .del a10_4) rfl rfl rfl z_5 ?_)
  refine w_ 5 rfl (s_move rfl) ?_
  refine w_ 7 rfl (s_move rfl) ?_
  refine ga_one 2 rfl z_5 ?_
  refine gl_callp rfl (digitsR_ct r.n hn) (fun _ _ _ => trivial) rfl ?_
  refine gl_nil ?_
  refine at_ga (.inr (by exact keeps_of z_8)) ?_
  refine w_ 3 rfl (s_add_str rfl rfl (by simp only [List.length_cons, List.length_nil]; omega)) ?_
  refine w_ 4 rfl (s_add_str rfl rfl (by simp only [List.length_append, List.length_cons, List.length_nil]; omega)) ?_
  refine w_ 6 rfl ((s_add_str rfl rfl (by simp only [List.length_append, List.length_cons, List.length_nil]; omega)).eq (v' := B (42 :: 32 :: digS r.n ++ wFetch ++ valuesQ r)) rfl) ?_
  refine w_ 8 rfl (s_move rfl) ?_
  (first | refine s_ 9 ?_ | refine ga_read_g 9 rfl z_2 (s_load_blkW rfl .del z_7) rfl rfl rfl rfl rfl rfl z_5 ?_)
  refine ga_one 10 rfl z_5 ?_
  (first | refine gl_guard_no rfl rfl rfl rfl rfl rfl rfl ?_ | (refine v_ ?_; refine gl_callp rfl (onlyR' r x hv [110, 118] false false false true false false false true false (by decide)) (fun _ _ _ => trivial) rfl ?_; rw [← hq1]))
  refine gl_nil ?_
  refine at_ga (.inr (by exact keeps_of z_8)) ?_
  refine w_ 11 rfl z_4 ?_
  refine w_ 12 rfl (s_move rfl) ?_
  (first | refine s_ 13 ?_ | refine ga_free_g 13 rfl z_1 rfl rfl rfl rfl rfl rfl z_5 ?_)
  (first | refine s_ 14 ?_ | refine ga_read_g 14 rfl z_2 (s_load_blk rfl .del a10_4) rfl rfl rfl rfl rfl rfl z_5 ?_)
  (first | refine s_ 15 ?_ | refine ga_free_g 15 rfl ((s_leq rfl rfl).eb hq2) rfl rfl rfl rfl rfl rfl z_5 ?_)
  refine w_ 16 rfl z_4 ?_
  refine w_ 17 rfl (s_assign rfl) ?_
  refine w_ 18 rfl (s_assign rfl) ?_
  refine ga_done z_5 ?_
  repeat refine y_ ?_)
 all_goals (refine g_ret ?_; exact at_end2 rfl rfl rfl [] ⟨rfl, rfl⟩ (fun w hw => hw.dropAll))
theorem okR_x {r : RR} (h : ¬(1 ≤ r.kind ∧ r.kind ≤ 14)) : okR r = false := by
 unfold okR
 rw [if_neg (by omega), if_neg (by omega), if_neg (by omega), if_neg (by omega), if_neg (by omega), if_neg (by omega), if_neg (by omega), if_neg (by omega), if_neg (by omega)]
theorem textQ_x {r : RR} (h : ¬(1 ≤ r.kind ∧ r.kind ≤ 14)) : textQ r = [] := by
 unfold textQ
 rw [if_neg (by omega), if_neg (by omega), if_neg (by omega), if_neg (by omega)]
set_option maxRecDepth 8000 in
theorem textR_x (r : RR) (x : RL) (hk : ¬(1 ≤ r.kind ∧ r.kind ≤ 14)) : Pu Tryz.prog 17 [rrA r x] (RRd r x) (.tuple #[B (textQ r), .bool (okR r)]) := by
 rw [okR_x hk, textQ_x hk]
 refine ct_enter 269 Tryz.func17 rfl rfl rfl ?_
 intro F hrr
 repeat refine x_ ?_
 refine gl_boxA rfl rfl ?_; intro g1
 refine a_ ?_
 refine a_ ?_
 repeat refine x_ ?_
 refine f_ z_1 ?_
 refine r_ (by exact s_load_blk rfl z_2 a10_0) ?_
 repeat refine x_ ?_
 refine f_ ((s_eql rfl rfl).eq (v' := .bool false) (congrArg Value.bool (decide_eq_false (by omega)))) ?_
 refine a_ ?_
 repeat refine x_ ?_
 refine f_ ((s_eql rfl rfl).eq (v' := .bool false) (congrArg Value.bool (decide_eq_false (by omega)))) ?_
 refine a_ ?_
 repeat refine x_ ?_
 refine f_ ((s_eql rfl rfl).eq (v' := .bool false) (congrArg Value.bool (decide_eq_false (by omega)))) ?_
 refine a_ ?_
 repeat refine x_ ?_
 refine f_ ((s_eql rfl rfl).eq (v' := .bool false) (congrArg Value.bool (decide_eq_false (by omega)))) ?_
 refine a_ ?_
 repeat refine x_ ?_
 refine f_ ((s_eql rfl rfl).eq (v' := .bool false) (congrArg Value.bool (decide_eq_false (by omega)))) ?_
 refine a_ ?_
 repeat refine x_ ?_
 refine f_ ((s_eql rfl rfl).eq (v' := .bool false) (congrArg Value.bool (decide_eq_false (by omega)))) ?_
 refine a_ ?_
 repeat refine x_ ?_
 refine f_ ((s_eql rfl rfl).eq (v' := .bool false) (congrArg Value.bool (decide_eq_false (by omega)))) ?_
 refine a_ ?_
 repeat refine x_ ?_
 refine f_ ((s_eql rfl rfl).eq (v' := .bool false) (congrArg Value.bool (decide_eq_false (by omega)))) ?_
 refine a_ ?_
 repeat refine x_ ?_
 refine f_ ((s_eql rfl rfl).eq (v' := .bool false) (congrArg Value.bool (decide_eq_false (by omega)))) ?_
 refine a_ ?_
 repeat refine x_ ?_
 refine f_ ((s_eql rfl rfl).eq (v' := .bool false) (congrArg Value.bool (decide_eq_false (by omega)))) ?_
 refine a_ ?_
 repeat refine x_ ?_
 refine f_ ((s_eql rfl rfl).eq (v' := .bool false) (congrArg Value.bool (decide_eq_false (by omega)))) ?_
 refine a_ ?_
 repeat refine x_ ?_
 refine f_ ((s_eql rfl rfl).eq (v' := .bool false) (congrArg Value.bool (decide_eq_false (by omega)))) ?_
 refine a_ ?_
 repeat refine x_ ?_
 refine f_ ((s_eql rfl rfl).eq (v' := .bool false) (congrArg Value.bool (decide_eq_false (by omega)))) ?_
 refine a_ ?_
 repeat refine x_ ?_
 refine f_ ((s_eql rfl rfl).eq (v' := .bool false) (congrArg Value.bool (decide_eq_false (by omega)))) ?_
 refine a_ ?_
 repeat refine x_ ?_
 refine a_ ?_
 refine a_ ?_
 repeat refine n_ ?_
 refine g_ret ?_
 exact at_end2 rfl rfl rfl [] ⟨rfl, rfl⟩ (fun w hw => hw.dropAll)
end Go.Proofs.YtgllpcggdcknaaaGreatDoor.Rp
