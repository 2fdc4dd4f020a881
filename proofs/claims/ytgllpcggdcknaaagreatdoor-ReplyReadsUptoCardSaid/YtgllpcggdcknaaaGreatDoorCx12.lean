import Derived.Test.YtgllpcggdcknaaaGreatDoorCx11
set_option linter.unusedVariables false
set_option linter.unusedSimpArgs false
namespace Go.Proofs.YtgllpcggdcknaaaGreatDoor.Rp
open Go Go.Sl
theorem onlyR' (r : RR) (x : RL) (hv : r.values = x.vs.map VM.v) (nm : Bs) (a1 a2 a3 a4 a5 a6 a7 a8 a9 : Bool) (h : decide (nm.length ≤ 10) = true ∧ nm.contains 116 = a1 ∧ nm.contains 99 = a2 ∧ nm.contains 120 = a3 ∧ nm.contains 110 = a4 ∧ nm.contains 108 = a5 ∧ nm.contains 102 = a6 ∧ nm.contains 98 = a7 ∧ nm.contains 118 = a8 ∧ nm.contains 109 = a9) : Pu Tryz.prog 40 [rrA r x, B nm] (fun _ => True) (.bool (onlyB r a1 a2 a3 a4 a5 a6 a7 a8 a9)) := by
 obtain ⟨h0, rfl, rfl, rfl, rfl, rfl, rfl, rfl, rfl, rfl⟩ := h
 exact onlyR_ct r x hv nm (by have := of_decide_eq_true h0; omega)
theorem plainW0 (s : Bs) : plainW s 0 = plainS s := by
 unfold plainW plainS
 congr 2
 refine List.all_congr rfl fun c => ?_
 by_cases h : c = 0
 ·subst h; rfl
 ·rw [decide_eq_false h]; simp
theorem plainW93 (s : Bs) : plainW s 93 = (plainS s && !s.contains 93) := by
 unfold plainW plainS
 have e : s.all (fun c => isPlain c && !decide (c = 93)) = (s.all isPlain && !s.contains 93) := by
  induction s with
  | nil => rfl
  | cons c t ih =>
   rw [List.all_cons, List.all_cons, ih, List.contains_cons]
   have : ((93 : UInt8) == c) = decide (c = 93) := by
    by_cases h : c = 93
    ·subst h; rfl
    ·rw [decide_eq_false h]; exact beq_eq_false_iff_ne.mpr fun e => h e.symm
   rw [this]
   cases isPlain c <;> cases decide (c = 93) <;> simp
 rw [e]
 cases s.all isPlain <;> cases s.contains 93 <;> simp
theorem head91 {s : Bs} (h : plainS s = true) : decide (s.head? ≠ some 91) = !decide (s.getD 0 0 = 91) := by
 cases s with
 | nil => cases h
 | cons c t => simp
theorem plain_len {s : Bs} {w : UInt8} (h : plainW s w = true) : 1 ≤ s.length := by
 unfold plainW at h
 simp only [Bool.and_eq_true, Bool.not_eq_true', List.isEmpty_eq_false_iff] at h
 exact List.length_pos_iff.mpr h.1.2
def textQ (r : RR) : Bs :=
 if r.kind = 13 then 42 :: 32 :: wSearch ++ numsP (r.nums.take 65) ++ modP r.mod
 else if r.kind = 14 then 42 :: 32 :: digS r.n ++ wFetch ++ valuesQ r
 else if r.kind = 12 then 42 :: 32 :: wStatus ++ formS r.box ++ 32 :: valuesQ r
 else if 1 ≤ r.kind ∧ r.kind ≤ 11 then textP r else []
theorem form_len (s : Bs) (h : s.length ≤ big) : (formS s).length ≤ 2 * s.length + 30 := by
 have h1 := litS_len s h
 have h2 := esc_len s
 unfold formS
 split
 ·omega
 ·cases hq : quoteS s with
  | none => simp only [Option.getD_none]; omega
  | some q =>
   unfold quoteS at hq
   split at hq
   ·cases hq
    simp only [Option.getD_some, List.length_append, List.length_cons, List.length_nil]
    omega
   ·cases hq
theorem okR_5 {r : RR} (hk : r.kind = 5) : okR r = (onlyB r false false true false false false false false false && plainS r.text) := by
 unfold okR
 rw [hk]
 rfl
theorem textQ_5 {r : RR} (hk : r.kind = 5) : textQ r = 43 :: 32 :: r.text := by
 unfold textQ textP
 rw [hk]
 rfl
set_option maxRecDepth 8000 in
theorem textR_5 (r : RR) (x : RL) (hz : SzR r) (hv : r.values = x.vs.map VM.v) (hk : r.kind = 5) : Pu Tryz.prog 17 [rrA r x] (RRd r x) (.tuple #[B (textQ r), .bool (okR r)]) := by
 rw [okR_5 hk, textQ_5 hk]
 obtain ⟨q1, hq1⟩ : ∃ q, q = onlyB r false false true false false false false false false := ⟨_, rfl⟩
 rw [← hq1, ← plainW0]
 have hx := hz.text
 unfold big at hx
 refine ct_enter 269 Tryz.func17 rfl rfl rfl ?_
 intro F hrr
 repeat refine x_ ?_
 refine gl_boxA rfl rfl ?_; intro g1
 refine a_ ?_
 refine a_ ?_
 repeat refine x_ ?_
 refine f_ z_1 ?_
 refine r_ (by exact s_load_blk rfl z_3 a10_0) ?_
 repeat refine x_ ?_
 refine f_ ((s_eql rfl rfl).eq (v' := .bool false) (congrArg Value.bool (decide_eq_false (by omega)))) ?_
 refine a_ ?_
 repeat refine x_ ?_
 refine f_ ((s_eql rfl rfl).eq (v' := .bool false) (congrArg Value.bool (decide_eq_false (by omega)))) ?_
 refine a_ ?_
 repeat refine x_ ?_
 refine f_ ((s_eql rfl rfl).eq (v' := .bool false) (congrArg Value.bool (decide_eq_false (by omega)))) ?_
 refine a_ ?_
 repeat refine x_ ?_
 refine f_ ((s_eql rfl rfl).eq (v' := .bool false) (congrArg Value.bool (decide_eq_false (by omega)))) ?_
 refine a_ ?_
 repeat refine x_ ?_
 refine f_ ((s_eql rfl rfl).eq (v' := .bool true) (congrArg Value.bool (decide_eq_true hk))) ?_
 refine a_ ?_
 repeat refine n_ ?_
 cases q1
 all_goals (
  repeat refine y_ ?_
  refine g_draw0 ([1, 3, 7], [0, 1, 3, 0, 8, 24, 56, 120, 248, 504, 511, 2047], [4]) 12 rfl ?_
  refine w_ 0 rfl z_1 ?_
  (refine ga_read 1 rfl z_3 (s_load_blk rfl .del a10_3) rfl rfl rfl z_6 ?_)
  refine w_ 2 rfl ((s_add_str rfl rfl (by simp only [List.length_cons, List.length_nil]; omega)).eq (v' := B (43 :: 32 :: r.text)) rfl) ?_
  (refine ga_read 3 rfl z_3 (s_load_blkW rfl .del z_8) rfl rfl rfl z_6 ?_)
  refine ga_one 4 rfl z_6 ?_
  refine gl_callp rfl (onlyR' r x hv [120] false false true false false false false false false (by decide)) (fun _ _ _ => trivial) rfl ?_; rw [← hq1]
  refine gl_nil ?_
  refine at_ga (.inr (by exact keeps_of z_10)) ?_
  refine w_ 5 rfl (s_move rfl) ?_
  (first | refine s_ 6 ?_ | refine ga_free_g 6 rfl z_1 rfl rfl rfl rfl rfl rfl z_6 ?_)
  (first | refine s_ 7 ?_ | refine ga_read_g 7 rfl z_3 (s_load_blk rfl .del a10_3) rfl rfl rfl rfl rfl rfl z_6 ?_)
  refine ga_one 8 rfl z_6 ?_
  (first | refine gl_guard_no rfl rfl rfl rfl rfl rfl rfl ?_ | (refine v_ ?_; refine gl_callp rfl (plainR_ct r.text 0 (by omega)) (fun _ _ _ => trivial) rfl ?_))
  refine gl_nil ?_
  refine at_ga (.inr (by exact keeps_of z_10)) ?_
  refine w_ 9 rfl z_4 ?_
  refine w_ 10 rfl (s_assign rfl) ?_
  refine w_ 11 rfl (s_assign rfl) ?_
  refine ga_done z_6 ?_
  repeat refine y_ ?_)
 all_goals (refine g_ret ?_; exact at_end2 rfl rfl rfl [] ⟨rfl, rfl⟩ (fun w hw => hw.dropAll))
theorem okR_6 {r : RR} (hk : r.kind = 6) : okR r = (onlyB r false false false false false false false false false) := by
 unfold okR
 rw [hk]
 rfl
theorem textQ_6 {r : RR} (hk : r.kind = 6) : textQ r = caps := by
 unfold textQ textP
 rw [hk]
 rfl
set_option maxRecDepth 8000 in
theorem textR_6 (r : RR) (x : RL) (hz : SzR r) (hv : r.values = x.vs.map VM.v) (hk : r.kind = 6) : Pu Tryz.prog 17 [rrA r x] (RRd r x) (.tuple #[B (textQ r), .bool (okR r)]) := by
 rw [okR_6 hk, textQ_6 hk]
 refine ct_enter 269 Tryz.func17 rfl rfl rfl ?_
 intro F hrr
 repeat refine x_ ?_
 refine gl_boxA rfl rfl ?_; intro g1
 refine a_ ?_
 refine a_ ?_
 repeat refine x_ ?_
 refine f_ z_1 ?_
 refine r_ (by exact s_load_blk rfl z_3 a10_0) ?_
 repeat refine x_ ?_
 refine f_ ((s_eql rfl rfl).eq (v' := .bool false) (congrArg Value.bool (decide_eq_false (by omega)))) ?_
 refine a_ ?_
 repeat refine x_ ?_
 refine f_ ((s_eql rfl rfl).eq (v' := .bool false) (congrArg Value.bool (decide_eq_false (by omega)))) ?_
 refine a_ ?_
 repeat refine x_ ?_
 refine f_ ((s_eql rfl rfl).eq (v' := .bool false) (congrArg Value.bool (decide_eq_false (by omega)))) ?_
 refine a_ ?_
 repeat refine x_ ?_
 refine f_ ((s_eql rfl rfl).eq (v' := .bool false) (congrArg Value.bool (decide_eq_false (by omega)))) ?_
 refine a_ ?_
 repeat refine x_ ?_
 refine f_ ((s_eql rfl rfl).eq (v' := .bool false) (congrArg Value.bool (decide_eq_false (by omega)))) ?_
 refine a_ ?_
 repeat refine x_ ?_
 refine f_ ((s_eql rfl rfl).eq (v' := .bool true) (congrArg Value.bool (decide_eq_true hk))) ?_
 refine a_ ?_
 repeat refine x_ ?_
 refine r_ (by exact s_load_blkW rfl z_3 z_8) ?_
 refine gl_callp rfl (onlyR' r x hv [] false false false false false false false false false (by decide)) (fun _ _ _ => trivial) rfl ?_
 refine a_ ?_
 refine a_ ?_
 repeat refine n_ ?_
 refine g_ret ?_
 exact at_end2 rfl rfl rfl [] ⟨rfl, rfl⟩ (fun w hw => hw.dropAll)
theorem okR_7 {r : RR} (hk : r.kind = 7) : okR r = (onlyB r false false false false false false false false false) := by
 unfold okR
 rw [hk]
 rfl
theorem textQ_7 {r : RR} (hk : r.kind = 7) : textQ r = enab := by
 unfold textQ textP
 rw [hk]
 rfl
set_option maxRecDepth 8000 in
theorem textR_7 (r : RR) (x : RL) (hz : SzR r) (hv : r.values = x.vs.map VM.v) (hk : r.kind = 7) : Pu Tryz.prog 17 [rrA r x] (RRd r x) (.tuple #[B (textQ r), .bool (okR r)]) := by
 rw [okR_7 hk, textQ_7 hk]
 refine ct_enter 269 Tryz.func17 rfl rfl rfl ?_
 intro F hrr
 repeat refine x_ ?_
 refine gl_boxA rfl rfl ?_; intro g1
 refine a_ ?_
 refine a_ ?_
 repeat refine x_ ?_
 refine f_ z_1 ?_
 refine r_ (by exact s_load_blk rfl z_3 a10_0) ?_
 repeat refine x_ ?_
 refine f_ ((s_eql rfl rfl).eq (v' := .bool false) (congrArg Value.bool (decide_eq_false (by omega)))) ?_
 refine a_ ?_
 repeat refine x_ ?_
 refine f_ ((s_eql rfl rfl).eq (v' := .bool false) (congrArg Value.bool (decide_eq_false (by omega)))) ?_
 refine a_ ?_
 repeat refine x_ ?_
 refine f_ ((s_eql rfl rfl).eq (v' := .bool false) (congrArg Value.bool (decide_eq_false (by omega)))) ?_
 refine a_ ?_
 repeat refine x_ ?_
 refine f_ ((s_eql rfl rfl).eq (v' := .bool false) (congrArg Value.bool (decide_eq_false (by omega)))) ?_
 refine a_ ?_
 repeat refine x_ ?_
 refine f_ ((s_eql rfl rfl).eq (v' := .bool false) (congrArg Value.bool (decide_eq_false (by omega)))) ?_
 refine a_ ?_
 repeat refine x_ ?_
 refine f_ ((s_eql rfl rfl).eq (v' := .bool false) (congrArg Value.bool (decide_eq_false (by omega)))) ?_
 refine a_ ?_
 repeat refine x_ ?_
 refine f_ ((s_eql rfl rfl).eq (v' := .bool true) (congrArg Value.bool (decide_eq_true hk))) ?_
 refine a_ ?_
 repeat refine x_ ?_
 refine r_ (by exact s_load_blkW rfl z_3 z_8) ?_
 refine gl_callp rfl (onlyR' r x hv [] false false false false false false false false false (by decide)) (fun _ _ _ => trivial) rfl ?_
 refine a_ ?_
 refine a_ ?_
 repeat refine n_ ?_
 refine g_ret ?_
 exact at_end2 rfl rfl rfl [] ⟨rfl, rfl⟩ (fun w hw => hw.dropAll)
theorem okR_8 {r : RR} (hk : r.kind = 8) : okR r = (onlyB r false false false true false false false false false && decide (r.n ≤ great)) := by
 unfold okR
 rw [hk]
 rfl
theorem textQ_8 {r : RR} (hk : r.kind = 8) : textQ r = 42 :: 32 :: digS r.n ++ wExists := by
 unfold textQ textP
 rw [hk]
 rfl
set_option maxRecDepth 8000 in
theorem textR_8 (r : RR) (x : RL) (hz : SzR r) (hv : r.values = x.vs.map VM.v) (hk : r.kind = 8) : Pu Tryz.prog 17 [rrA r x] (RRd r x) (.tuple #[B (textQ r), .bool (okR r)]) := by
 rw [okR_8 hk, textQ_8 hk]
 obtain ⟨q1, hq1⟩ : ∃ q, q = onlyB r false false false true false false false false false := ⟨_, rfl⟩
 obtain ⟨q2, hq2⟩ : ∃ q, q = decide ((r.n : Int) ≤ 9223372036854775807) := ⟨_, rfl⟩
 have e2 : decide (r.n ≤ great) = q2 := by rw [hq2]; exact decide_eq_decide.mpr (by unfold great; omega)
 have hn := hz.n
 have hd := digS_len64 hn
 rw [← hq1, e2]
 refine ct_enter 269 Tryz.func17 rfl rfl rfl ?_
 intro F hrr
 repeat refine x_ ?_
 refine gl_boxA rfl rfl ?_; intro g1
 refine a_ ?_
 refine a_ ?_
 repeat refine x_ ?_
 refine f_ z_1 ?_
 refine r_ (by exact s_load_blk rfl z_3 a10_0) ?_
 repeat refine x_ ?_
 refine f_ ((s_eql rfl rfl).eq (v' := .bool false) (congrArg Value.bool (decide_eq_false (by omega)))) ?_
 refine a_ ?_
 repeat refine x_ ?_
 refine f_ ((s_eql rfl rfl).eq (v' := .bool false) (congrArg Value.bool (decide_eq_false (by omega)))) ?_
 refine a_ ?_
 repeat refine x_ ?_
 refine f_ ((s_eql rfl rfl).eq (v' := .bool false) (congrArg Value.bool (decide_eq_false (by omega)))) ?_
 refine a_ ?_
 repeat refine x_ ?_
 refine f_ ((s_eql rfl rfl).eq (v' := .bool false) (congrArg Value.bool (decide_eq_false (by omega)))) ?_
 refine a_ ?_
 repeat refine x_ ?_
 refine f_ ((s_eql rfl rfl).eq (v' := .bool false) (congrArg Value.bool (decide_eq_false (by omega)))) ?_
 refine a_ ?_
 repeat refine x_ ?_
 refine f_ ((s_eql rfl rfl).eq (v' := .bool false) (congrArg Value.bool (decide_eq_false (by omega)))) ?_
 refine a_ ?_
 repeat refine x_ ?_
 refine f_ ((s_eql rfl rfl).eq (v' := .bool false) (congrArg Value.bool (decide_eq_false (by omega)))) ?_
 refine a_ ?_
 repeat refine x_ ?_
 refine f_ ((s_eql rfl rfl).eq (v' := .bool true) (congrArg Value.bool (decide_eq_true hk))) ?_
 refine a_ ?_
 repeat refine n_ ?_
 cases q1
 all_goals (
  repeat refine y_ ?_
  refine g_draw0 ([1, 5, 9], [0, 1, 3, 7, 15, 0, 39, 103, 231, 487, 999, 2023, 255, 8191], [2, 6]) 14 rfl ?_
  refine w_ 0 rfl z_1 ?_
  (refine ga_read 1 rfl z_3 (s_load_blk rfl .del a10_4) rfl rfl rfl z_6 ?_)
  (refine ga_read 5 rfl z_3 (s_load_blkW rfl .del z_8) rfl rfl rfl z_6 ?_)
  refine ga_one 2 rfl z_6 ?_
  refine gl_callp rfl (digitsR_ct r.n hn) (fun _ _ _ => trivial) rfl ?_
  refine gl_nil ?_
  refine at_ga (.inr (by exact keeps_of z_10)) ?_
  refine w_ 3 rfl (s_add_str rfl rfl (by simp only [List.length_cons, List.length_nil]; omega)) ?_
  refine w_ 4 rfl ((s_add_str rfl rfl (by simp only [List.length_append, List.length_cons, List.length_nil]; omega)).eq (v' := B (42 :: 32 :: digS r.n ++ wExists)) rfl) ?_
  refine ga_one 6 rfl z_6 ?_
  refine gl_callp rfl (onlyR' r x hv [110] false false false true false false false false false (by decide)) (fun _ _ _ => trivial) rfl ?_; rw [← hq1]
  refine gl_nil ?_
  refine at_ga (.inr (by exact keeps_of z_10)) ?_
  refine w_ 7 rfl (s_move rfl) ?_
  (first | refine s_ 8 ?_ | refine ga_free_g 8 rfl z_1 rfl rfl rfl rfl rfl rfl z_6 ?_)
  (first | refine s_ 9 ?_ | refine ga_read_g 9 rfl z_3 (s_load_blk rfl .del a10_4) rfl rfl rfl rfl rfl rfl z_6 ?_)
  (first | refine s_ 10 ?_ | refine ga_free_g 10 rfl ((s_leq rfl rfl).eb hq2) rfl rfl rfl rfl rfl rfl z_6 ?_)
  refine w_ 11 rfl z_4 ?_
  refine w_ 12 rfl (s_assign rfl) ?_
  refine w_ 13 rfl (s_assign rfl) ?_
  refine ga_done z_6 ?_
  repeat refine y_ ?_)
 all_goals (refine g_ret ?_; exact at_end2 rfl rfl rfl [] ⟨rfl, rfl⟩ (fun w hw => hw.dropAll))
theorem okR_9 {r : RR} (hk : r.kind = 9) : okR r = (onlyB r false false false true false false false false false && decide (r.n ≤ great)) := by
 unfold okR
 rw [hk]
 rfl
theorem textQ_9 {r : RR} (hk : r.kind = 9) : textQ r = 42 :: 32 :: digS r.n ++ wExpunge := by
 unfold textQ textP
 rw [hk]
 rfl
set_option maxRecDepth 8000 in
theorem textR_9 (r : RR) (x : RL) (hz : SzR r) (hv : r.values = x.vs.map VM.v) (hk : r.kind = 9) : Pu Tryz.prog 17 [rrA r x] (RRd r x) (.tuple #[B (textQ r), .bool (okR r)]) := by
 rw [okR_9 hk, textQ_9 hk]
 obtain ⟨q1, hq1⟩ : ∃ q, q = onlyB r false false false true false false false false false := ⟨_, rfl⟩
 obtain ⟨q2, hq2⟩ : ∃ q, q = decide ((r.n : Int) ≤ 9223372036854775807) := ⟨_, rfl⟩
 have e2 : decide (r.n ≤ great) = q2 := by rw [hq2]; exact decide_eq_decide.mpr (by unfold great; omega)
 have hn := hz.n
 have hd := digS_len64 hn
 rw [← hq1, e2]
 refine ct_enter 269 Tryz.func17 rfl rfl rfl ?_
 intro F hrr
 repeat refine x_ ?_
 refine gl_boxA rfl rfl ?_; intro g1
 refine a_ ?_
 refine a_ ?_
 repeat refine x_ ?_
 refine f_ z_1 ?_
 refine r_ (by exact s_load_blk rfl z_3 a10_0) ?_
 repeat refine x_ ?_
 refine f_ ((s_eql rfl rfl).eq (v' := .bool false) (congrArg Value.bool (decide_eq_false (by omega)))) ?_
 refine a_ ?_
 repeat refine x_ ?_
 refine f_ ((s_eql rfl rfl).eq (v' := .bool false) (congrArg Value.bool (decide_eq_false (by omega)))) ?_
 refine a_ ?_
 repeat refine x_ ?_
 refine f_ ((s_eql rfl rfl).eq (v' := .bool false) (congrArg Value.bool (decide_eq_false (by omega)))) ?_
 refine a_ ?_
 repeat refine x_ ?_
 refine f_ ((s_eql rfl rfl).eq (v' := .bool false) (congrArg Value.bool (decide_eq_false (by omega)))) ?_
 refine a_ ?_
 repeat refine x_ ?_
 refine f_ ((s_eql rfl rfl).eq (v' := .bool false) (congrArg Value.bool (decide_eq_false (by omega)))) ?_
 refine a_ ?_
 repeat refine x_ ?_
 refine f_ ((s_eql rfl rfl).eq (v' := .bool false) (congrArg Value.bool (decide_eq_false (by omega)))) ?_
 refine a_ ?_
 repeat refine x_ ?_
 refine f_ ((s_eql rfl rfl).eq (v' := .bool false) (congrArg Value.bool (decide_eq_false (by omega)))) ?_
 refine a_ ?_
 repeat refine x_ ?_
 refine f_ ((s_eql rfl rfl).eq (v' := .bool false) (congrArg Value.bool (decide_eq_false (by omega)))) ?_
 refine a_ ?_
 repeat refine x_ ?_
 refine f_ ((s_eql rfl rfl).eq (v' := .bool true) (congrArg Value.bool (decide_eq_true hk))) ?_
 refine a_ ?_
 repeat refine n_ ?_
 cases q1
 all_goals (
  repeat refine y_ ?_
  refine g_draw0 ([1, 5, 9], [0, 1, 3, 7, 15, 0, 39, 103, 231, 487, 999, 2023, 255, 8191], [2, 6]) 14 rfl ?_
  refine w_ 0 rfl z_1 ?_
  (refine ga_read 1 rfl z_3 (s_load_blk rfl .del a10_4) rfl rfl rfl z_6 ?_)
  (refine ga_read 5 rfl z_3 (s_load_blkW rfl .del z_8) rfl rfl rfl z_6 ?_)
  refine ga_one 2 rfl z_6 ?_
  refine gl_callp rfl (digitsR_ct r.n hn) (fun _ _ _ => trivial) rfl ?_
  refine gl_nil ?_
  refine at_ga (.inr (by exact keeps_of z_10)) ?_
  refine w_ 3 rfl (s_add_str rfl rfl (by simp only [List.length_cons, List.length_nil]; omega)) ?_
  refine w_ 4 rfl ((s_add_str rfl rfl (by simp only [List.length_append, List.length_cons, List.length_nil]; omega)).eq (v' := B (42 :: 32 :: digS r.n ++ wExpunge)) rfl) ?_
  refine ga_one 6 rfl z_6 ?_
  refine gl_callp rfl (onlyR' r x hv [110] false false false true false false false false false (by decide)) (fun _ _ _ => trivial) rfl ?_; rw [← hq1]
  refine gl_nil ?_
  refine at_ga (.inr (by exact keeps_of z_10)) ?_
  refine w_ 7 rfl (s_move rfl) ?_
  (first | refine s_ 8 ?_ | refine ga_free_g 8 rfl z_1 rfl rfl rfl rfl rfl rfl z_6 ?_)
  (first | refine s_ 9 ?_ | refine ga_read_g 9 rfl z_3 (s_load_blk rfl .del a10_4) rfl rfl rfl rfl rfl rfl z_6 ?_)
  (first | refine s_ 10 ?_ | refine ga_free_g 10 rfl ((s_leq rfl rfl).eb hq2) rfl rfl rfl rfl rfl rfl z_6 ?_)
  refine w_ 11 rfl z_4 ?_
  refine w_ 12 rfl (s_assign rfl) ?_
  refine w_ 13 rfl (s_assign rfl) ?_
  refine ga_done z_6 ?_
  repeat refine y_ ?_)
 all_goals (refine g_ret ?_; exact at_end2 rfl rfl rfl [] ⟨rfl, rfl⟩ (fun w hw => hw.dropAll))
theorem okR_10 {r : RR} (hk : r.kind = 10) : okR r = (onlyB r false false false false false true false false false && rightS r.flags) := by
 unfold okR
 rw [hk]
 rfl
theorem textQ_10 {r : RR} (hk : r.kind = 10) : textQ r = 42 :: 32 :: wFlags ++ printF r.flags := by
 unfold textQ textP
 rw [hk]
 rfl
set_option maxRecDepth 8000 in
theorem textR_10 (r : RR) (x : RL) (hz : SzR r) (hv : r.values = x.vs.map VM.v) (hk : r.kind = 10) : Pu Tryz.prog 17 [rrA r x] (RRd r x) (.tuple #[B (textQ r), .bool (okR r)]) := by
 rw [okR_10 hk, textQ_10 hk]
 obtain ⟨q1, hq1⟩ : ∃ q, q = onlyB r false false false false false true false false false := ⟨_, rfl⟩
 have h1 := hz.fl
 have h2 := hz.fb
 have h3 := hz.fj
 have hp : (printF r.flags).length ≤ 1000000000002 := by unfold big at h3; unfold printF; simp; omega
 rw [← hq1]
 refine ct_enter 269 Tryz.func17 rfl rfl rfl ?_
 intro F hrr
 repeat refine x_ ?_
 refine gl_boxA rfl rfl ?_; intro g1
 refine a_ ?_
 refine a_ ?_
 repeat refine x_ ?_
 refine f_ z_1 ?_
 refine r_ (by exact s_load_blk rfl z_3 a10_0) ?_
 repeat refine x_ ?_
 refine f_ ((s_eql rfl rfl).eq (v' := .bool false) (congrArg Value.bool (decide_eq_false (by omega)))) ?_
 refine a_ ?_
 repeat refine x_ ?_
 refine f_ ((s_eql rfl rfl).eq (v' := .bool false) (congrArg Value.bool (decide_eq_false (by omega)))) ?_
 refine a_ ?_
 repeat refine x_ ?_
 refine f_ ((s_eql rfl rfl).eq (v' := .bool false) (congrArg Value.bool (decide_eq_false (by omega)))) ?_
 refine a_ ?_
 repeat refine x_ ?_
 refine f_ ((s_eql rfl rfl).eq (v' := .bool false) (congrArg Value.bool (decide_eq_false (by omega)))) ?_
 refine a_ ?_
 repeat refine x_ ?_
 refine f_ ((s_eql rfl rfl).eq (v' := .bool false) (congrArg Value.bool (decide_eq_false (by omega)))) ?_
 refine a_ ?_
 repeat refine x_ ?_
 refine f_ ((s_eql rfl rfl).eq (v' := .bool false) (congrArg Value.bool (decide_eq_false (by omega)))) ?_
 refine a_ ?_
 repeat refine x_ ?_
 refine f_ ((s_eql rfl rfl).eq (v' := .bool false) (congrArg Value.bool (decide_eq_false (by omega)))) ?_
 refine a_ ?_
 repeat refine x_ ?_
 refine f_ ((s_eql rfl rfl).eq (v' := .bool false) (congrArg Value.bool (decide_eq_false (by omega)))) ?_
 refine a_ ?_
 repeat refine x_ ?_
 refine f_ ((s_eql rfl rfl).eq (v' := .bool false) (congrArg Value.bool (decide_eq_false (by omega)))) ?_
 refine a_ ?_
 repeat refine x_ ?_
 refine f_ ((s_eql rfl rfl).eq (v' := .bool true) (congrArg Value.bool (decide_eq_true hk))) ?_
 refine a_ ?_
 repeat refine n_ ?_
 cases q1
 all_goals (
  repeat refine y_ ?_
  refine g_draw0 ([1, 4, 8], [0, 1, 3, 7, 0, 23, 55, 119, 247, 503, 1015, 1023, 4095], [2, 5]) 13 rfl ?_
  refine w_ 0 rfl z_1 ?_
  (refine ga_read 1 rfl z_3 (s_load_blk rfl .del a10_7) rfl rfl rfl z_6 ?_)
  (refine ga_read 4 rfl z_3 (s_load_blkW rfl .del z_8) rfl rfl rfl z_6 ?_)
  refine ga_one 2 rfl z_6 ?_
  refine gl_callp rfl (PrintR_ct r.flags x.fa x.fc h1 h3) (fun h hh hb => hrr.flags.le hh) rfl ?_
  refine gl_nil ?_
  refine at_ga (.inr (by exact keeps_of z_10)) ?_
  refine w_ 3 rfl ((s_add_str rfl rfl (by simp only [List.length_cons, List.length_nil]; omega)).eq (v' := B (42 :: 32 :: wFlags ++ printF r.flags)) rfl) ?_
  refine ga_one 5 rfl z_6 ?_
  refine gl_callp rfl (onlyR' r x hv [102] false false false false false true false false false (by decide)) (fun _ _ _ => trivial) rfl ?_; rw [← hq1]
  refine gl_nil ?_
  refine at_ga (.inr (by exact keeps_of z_10)) ?_
  refine w_ 6 rfl (s_move rfl) ?_
  (first | refine s_ 7 ?_ | refine ga_free_g 7 rfl z_1 rfl rfl rfl rfl rfl rfl z_6 ?_)
  (first | refine s_ 8 ?_ | refine ga_read_g 8 rfl z_3 (s_load_blk rfl .del a10_7) rfl rfl rfl rfl rfl rfl z_6 ?_)
  refine ga_one 9 rfl z_6 ?_
  (first | refine gl_guard_no rfl rfl rfl rfl rfl rfl rfl ?_ | (refine v_ ?_; refine gl_callp rfl (RightR_ct r.flags x.fa x.fc h1 h2) (fun h hh hb => hrr.flags.le hh) rfl ?_))
  refine gl_nil ?_
  refine at_ga (.inl z_6) ?_
  refine w_ 10 rfl z_4 ?_
  refine w_ 11 rfl (s_assign rfl) ?_
  refine w_ 12 rfl (s_assign rfl) ?_
  refine ga_done z_6 ?_
  repeat refine y_ ?_)
 all_goals (refine g_ret ?_; exact at_end2 rfl rfl rfl [] ⟨rfl, rfl⟩ (fun w hw => hw.dropAll))
theorem okR_11 {r : RR} (hk : r.kind = 11) : okR r = (onlyB r false false false false false false true false false && isBox r.box) := by
 unfold okR
 rw [hk]
 rfl
theorem textQ_11 {r : RR} (hk : r.kind = 11) : textQ r = 42 :: 32 :: wList ++ formS r.box := by
 unfold textQ textP
 rw [hk]
 rfl
set_option maxRecDepth 8000 in
theorem textR_11 (r : RR) (x : RL) (hz : SzR r) (hv : r.values = x.vs.map VM.v) (hk : r.kind = 11) : Pu Tryz.prog 17 [rrA r x] (RRd r x) (.tuple #[B (textQ r), .bool (okR r)]) := by
 rw [okR_11 hk, textQ_11 hk]
 obtain ⟨q1, hq1⟩ : ∃ q, q = onlyB r false false false false false false true false false := ⟨_, rfl⟩
 have h1 := hz.box
 have hp := form_len r.box h1
 have h1' := h1
 unfold big at h1
 rw [← hq1]
 refine ct_enter 269 Tryz.func17 rfl rfl rfl ?_
 intro F hrr
 repeat refine x_ ?_
 refine gl_boxA rfl rfl ?_; intro g1
 refine a_ ?_
 refine a_ ?_
 repeat refine x_ ?_
 refine f_ z_1 ?_
 refine r_ (by exact s_load_blk rfl z_3 a10_0) ?_
 repeat refine x_ ?_
 refine f_ ((s_eql rfl rfl).eq (v' := .bool false) (congrArg Value.bool (decide_eq_false (by omega)))) ?_
 refine a_ ?_
 repeat refine x_ ?_
 refine f_ ((s_eql rfl rfl).eq (v' := .bool false) (congrArg Value.bool (decide_eq_false (by omega)))) ?_
 refine a_ ?_
 repeat refine x_ ?_
 refine f_ ((s_eql rfl rfl).eq (v' := .bool false) (congrArg Value.bool (decide_eq_false (by omega)))) ?_
 refine a_ ?_
 repeat refine x_ ?_
 refine f_ ((s_eql rfl rfl).eq (v' := .bool false) (congrArg Value.bool (decide_eq_false (by omega)))) ?_
 refine a_ ?_
 repeat refine x_ ?_
 refine f_ ((s_eql rfl rfl).eq (v' := .bool false) (congrArg Value.bool (decide_eq_false (by omega)))) ?_
 refine a_ ?_
 repeat refine x_ ?_
 refine f_ ((s_eql rfl rfl).eq (v' := .bool false) (congrArg Value.bool (decide_eq_false (by omega)))) ?_
 refine a_ ?_
 repeat refine x_ ?_
 refine f_ ((s_eql rfl rfl).eq (v' := .bool false) (congrArg Value.bool (decide_eq_false (by omega)))) ?_
 refine a_ ?_
 repeat refine x_ ?_
 refine f_ ((s_eql rfl rfl).eq (v' := .bool false) (congrArg Value.bool (decide_eq_false (by omega)))) ?_
 refine a_ ?_
 repeat refine x_ ?_
 refine f_ ((s_eql rfl rfl).eq (v' := .bool false) (congrArg Value.bool (decide_eq_false (by omega)))) ?_
 refine a_ ?_
 repeat refine x_ ?_
 refine f_ ((s_eql rfl rfl).eq (v' := .bool false) (congrArg Value.bool (decide_eq_false (by omega)))) ?_
 refine a_ ?_
 repeat refine x_ ?_
 refine f_ ((s_eql rfl rfl).eq (v' := .bool true) (congrArg Value.bool (decide_eq_true hk))) ?_
 refine a_ ?_
 repeat refine n_ ?_
 cases q1
 all_goals (
  repeat refine y_ ?_
  refine g_draw0 ([1, 4, 8], [0, 1, 3, 7, 0, 23, 55, 119, 247, 503, 1015, 1023, 4095], [2, 5]) 13 rfl ?_
  refine w_ 0 rfl z_1 ?_
  (refine ga_read 1 rfl z_3 (s_load_blk rfl .del a10_8) rfl rfl rfl z_6 ?_)
  (refine ga_read 4 rfl z_3 (s_load_blkW rfl .del z_8) rfl rfl rfl z_6 ?_)
  refine ga_one 2 rfl z_6 ?_
  refine gl_callp rfl (FormR_ct r.box h1') (fun _ _ _ => trivial) rfl ?_
  refine gl_nil ?_
  refine at_ga (.inr (by exact keeps_of z_10)) ?_
  refine w_ 3 rfl ((s_add_str rfl rfl (by simp only [List.length_cons, List.length_nil]; omega)).eq (v' := B (42 :: 32 :: wList ++ formS r.box)) rfl) ?_
  refine ga_one 5 rfl z_6 ?_
  refine gl_callp rfl (onlyR' r x hv [98] false false false false false false true false false (by decide)) (fun _ _ _ => trivial) rfl ?_; rw [← hq1]
  refine gl_nil ?_
  refine at_ga (.inr (by exact keeps_of z_10)) ?_
  refine w_ 6 rfl (s_move rfl) ?_
  (first | refine s_ 7 ?_ | refine ga_free_g 7 rfl z_1 rfl rfl rfl rfl rfl rfl z_6 ?_)
  (first | refine s_ 8 ?_ | refine ga_read_g 8 rfl z_3 (s_load_blk rfl .del a10_8) rfl rfl rfl rfl rfl rfl z_6 ?_)
  refine ga_one 9 rfl z_6 ?_
  (first | refine gl_guard_no rfl rfl rfl rfl rfl rfl rfl ?_ | (refine v_ ?_; refine gl_callp rfl (boxQ_ct r.box (by omega)) (fun _ _ _ => trivial) rfl ?_))
  refine gl_nil ?_
  refine at_ga (.inl z_6) ?_
  refine w_ 10 rfl z_4 ?_
  refine w_ 11 rfl (s_assign rfl) ?_
  refine w_ 12 rfl (s_assign rfl) ?_
  refine ga_done z_6 ?_
  repeat refine y_ ?_)
 all_goals (refine g_ret ?_; exact at_end2 rfl rfl rfl [] ⟨rfl, rfl⟩ (fun w hw => hw.dropAll))
theorem valuesQ_len {r : RR} (hz : SzR r) : (valuesQ r).length ≤ 20000000000000 := by
 unfold valuesQ
 split
 ·next h =>
  unfold okVals at h
  simp only [Bool.and_eq_true, decide_eq_true_eq, List.all_eq_true] at h
  have h1 : ∀ f ∈ r.values.map (fV14 r.kind), f.length ≤ 1000000000100 := fun f hf => by
   obtain ⟨v, hv, rfl⟩ := List.mem_map.mp hf
   rw [← tV_f (h.2 v hv)]
   exact tV_len (hz.vs v hv)
  have h2 := joinS_len h1
  rw [List.length_map] at h2
  have h4 := Nat.mul_le_mul_right (1000000000100 + 1) h.1.2
  simp only [List.length_append, List.length_cons, List.length_nil]
  omega
 ·simp
theorem okR_12 {r : RR} (hk : r.kind = 12) : okR r = (okVals r && onlyB r false false false false false false true true false && isBox r.box) := by
 unfold okR okVals
 rw [hk]
 rfl
theorem textQ_12 {r : RR} (hk : r.kind = 12) : textQ r = 42 :: 32 :: wStatus ++ formS r.box ++ 32 :: valuesQ r := by
 unfold textQ
 rw [hk]
 rfl
set_option maxRecDepth 8000 in
theorem textR_12 (r : RR) (x : RL) (hz : SzR r) (hv : r.values = x.vs.map VM.v) (hk : r.kind = 12) : Pu Tryz.prog 17 [rrA r x] (RRd r x) (.tuple #[B (textQ r), .bool (okR r)]) := by
 rw [okR_12 hk, textQ_12 hk]
 obtain ⟨q0, hq0⟩ : ∃ q, q = okVals r := ⟨_, rfl⟩
 obtain ⟨q1, hq1⟩ : ∃ q, q = onlyB r false false false false false false true true false := ⟨_, rfl⟩
 have h1 := hz.box
 have hp := form_len r.box h1
 have h1' := h1
 have hvq := valuesQ_len hz
 unfold big at h1
 rw [← hq0, ← hq1]
 refine ct_enter 269 Tryz.func17 rfl rfl rfl ?_
 intro F hrr
 repeat refine x_ ?_
 refine gl_boxA rfl rfl ?_; intro g1
 refine a_ ?_
 refine a_ ?_
 repeat refine x_ ?_
 refine f_ z_1 ?_
 refine r_ (by exact s_load_blk rfl z_3 a10_0) ?_
 repeat refine x_ ?_
 refine f_ ((s_eql rfl rfl).eq (v' := .bool false) (congrArg Value.bool (decide_eq_false (by omega)))) ?_
 refine a_ ?_
 repeat refine x_ ?_
 refine f_ ((s_eql rfl rfl).eq (v' := .bool false) (congrArg Value.bool (decide_eq_false (by omega)))) ?_
 refine a_ ?_
 repeat refine x_ ?_
 refine f_ ((s_eql rfl rfl).eq (v' := .bool false) (congrArg Value.bool (decide_eq_false (by omega)))) ?_
 refine a_ ?_
 repeat refine x_ ?_
 refine f_ ((s_eql rfl rfl).eq (v' := .bool false) (congrArg Value.bool (decide_eq_false (by omega)))) ?_
 refine a_ ?_
 repeat refine x_ ?_
 refine f_ ((s_eql rfl rfl).eq (v' := .bool false) (congrArg Value.bool (decide_eq_false (by omega)))) ?_
 refine a_ ?_
 repeat refine x_ ?_
 refine f_ ((s_eql rfl rfl).eq (v' := .bool false) (congrArg Value.bool (decide_eq_false (by omega)))) ?_
 refine a_ ?_
 repeat refine x_ ?_
 refine f_ ((s_eql rfl rfl).eq (v' := .bool false) (congrArg Value.bool (decide_eq_false (by omega)))) ?_
 refine a_ ?_
 repeat refine x_ ?_
 refine f_ ((s_eql rfl rfl).eq (v' := .bool false) (congrArg Value.bool (decide_eq_false (by omega)))) ?_
 refine a_ ?_
 repeat refine x_ ?_
 refine f_ ((s_eql rfl rfl).eq (v' := .bool false) (congrArg Value.bool (decide_eq_false (by omega)))) ?_
 refine a_ ?_
 repeat refine x_ ?_
 refine f_ ((s_eql rfl rfl).eq (v' := .bool false) (congrArg Value.bool (decide_eq_false (by omega)))) ?_
 refine a_ ?_
 repeat refine x_ ?_
 refine f_ ((s_eql rfl rfl).eq (v' := .bool false) (congrArg Value.bool (decide_eq_false (by omega)))) ?_
 refine a_ ?_
 repeat refine x_ ?_
 refine f_ ((s_eql rfl rfl).eq (v' := .bool true) (congrArg Value.bool (decide_eq_true hk))) ?_
 refine a_ ?_
 repeat refine x_ ?_
 refine r_ (by exact s_load_blkW rfl z_3 z_8) ?_
 refine gl_callp rfl (valuesR_ct r x hz hv) (fun h hh hb => hrr.le hh) rfl ?_; rw [← hq0]
 refine m_ ?_
 refine f_ (s_extract rfl rfl) ?_
 refine f_ (s_extract rfl rfl) ?_
 refine a_ ?_
 refine a_ ?_
 repeat refine n_ ?_
 cases q0 <;> cases q1
 all_goals (
  repeat refine x_ ?_
  refine f_ z_1 ?_
  refine r_ (by exact s_load_blk rfl z_3 a10_8) ?_
  refine gl_callp rfl (FormR_ct r.box h1') (fun _ _ _ => trivial) rfl ?_
  refine f_ (s_add_str rfl rfl (by simp only [List.length_cons, List.length_nil]; omega)) ?_
  refine f_ (s_add_str rfl rfl (by simp only [List.length_append, List.length_cons, List.length_nil]; omega)) ?_
  refine m_ ?_
  refine f_ ((s_add_str rfl rfl (by simp only [List.length_append, List.length_cons, List.length_nil]; omega)).eq (v' := B (42 :: 32 :: wStatus ++ formS r.box ++ 32 :: valuesQ r)) z_7) ?_
  refine m_ ?_
  refine m_ ?_
  (first | refine gl_guard_no rfl rfl rfl rfl rfl rfl rfl ?_ | (refine v_ ?_; refine r_ (by exact s_load_blkW rfl z_3 z_8) ?_))
  (first | refine gl_guard_no rfl rfl rfl rfl rfl rfl rfl ?_ | (refine v_ ?_; refine gl_callp rfl (onlyR' r x hv [98, 118] false false false false false false true true false (by decide)) (fun _ _ _ => trivial) rfl ?_; rw [← hq1]))
  refine f_ z_4 ?_
  refine m_ ?_
  (first | refine gl_guard_no rfl rfl rfl rfl rfl rfl rfl ?_ | (refine v_ ?_; refine f_ z_1 ?_))
  (first | refine gl_guard_no rfl rfl rfl rfl rfl rfl rfl ?_ | (refine v_ ?_; refine r_ (by exact s_load_blk rfl z_3 a10_8) ?_))
  (first | refine gl_guard_no rfl rfl rfl rfl rfl rfl rfl ?_ | (refine v_ ?_; refine gl_callp rfl (boxQ_ct r.box (by omega)) (fun _ _ _ => trivial) rfl ?_))
  refine f_ z_4 ?_
  refine a_ ?_
  refine a_ ?_
  refine gl_nil ?_
  repeat refine y_ ?_)
 all_goals (refine g_ret ?_; exact at_end2 rfl rfl rfl [] ⟨rfl, rfl⟩ (fun w hw => hw.dropAll))
theorem okR_14 {r : RR} (hk : r.kind = 14) : okR r = (okVals r && onlyB r false false false true false false false true false && decide (r.n ≤ great)) := by
 unfold okR okVals
 rw [hk]
 rfl
theorem textQ_14 {r : RR} (hk : r.kind = 14) : textQ r = 42 :: 32 :: digS r.n ++ wFetch ++ valuesQ r := by
 unfold textQ
 rw [hk]
 rfl
set_option maxRecDepth 8000 in
theorem textR_14 (r : RR) (x : RL) (hz : SzR r) (hv : r.values = x.vs.map VM.v) (hk : r.kind = 14) : Pu Tryz.prog 17 [rrA r x] (RRd r x) (.tuple #[B (textQ r), .bool (okR r)]) := by
 rw [okR_14 hk, textQ_14 hk]
 obtain ⟨q0, hq0⟩ : ∃ q, q = okVals r := ⟨_, rfl⟩
 obtain ⟨q1, hq1⟩ : ∃ q, q = onlyB r false false false true false false false true false := ⟨_, rfl⟩
 obtain ⟨q2, hq2⟩ : ∃ q, q = decide ((r.n : Int) ≤ 9223372036854775807) := ⟨_, rfl⟩
 have e2 : decide (r.n ≤ great) = q2 := by rw [hq2]; exact decide_eq_decide.mpr (by unfold great; omega)
 have hn := hz.n
 have hd := digS_len64 hn
 have hvq := valuesQ_len hz
 rw [← hq0, ← hq1, e2]
 refine ct_enter 269 Tryz.func17 rfl rfl rfl ?_
 intro F hrr
 repeat refine x_ ?_
 refine gl_boxA rfl rfl ?_; intro g1
 refine a_ ?_
 refine a_ ?_
 repeat refine x_ ?_
 refine f_ z_1 ?_
 refine r_ (by exact s_load_blk rfl z_3 a10_0) ?_
 repeat refine x_ ?_
 refine f_ ((s_eql rfl rfl).eq (v' := .bool false) (congrArg Value.bool (decide_eq_false (by omega)))) ?_
 refine a_ ?_
 repeat refine x_ ?_
 refine f_ ((s_eql rfl rfl).eq (v' := .bool false) (congrArg Value.bool (decide_eq_false (by omega)))) ?_
 refine a_ ?_
 repeat refine x_ ?_
 refine f_ ((s_eql rfl rfl).eq (v' := .bool false) (congrArg Value.bool (decide_eq_false (by omega)))) ?_
 refine a_ ?_
 repeat refine x_ ?_
 refine f_ ((s_eql rfl rfl).eq (v' := .bool false) (congrArg Value.bool (decide_eq_false (by omega)))) ?_
 refine a_ ?_
 repeat refine x_ ?_
 refine f_ ((s_eql rfl rfl).eq (v' := .bool false) (congrArg Value.bool (decide_eq_false (by omega)))) ?_
 refine a_ ?_
 repeat refine x_ ?_
 refine f_ ((s_eql rfl rfl).eq (v' := .bool false) (congrArg Value.bool (decide_eq_false (by omega)))) ?_
 refine a_ ?_
 repeat refine x_ ?_
 refine f_ ((s_eql rfl rfl).eq (v' := .bool false) (congrArg Value.bool (decide_eq_false (by omega)))) ?_
 refine a_ ?_
 repeat refine x_ ?_
 refine f_ ((s_eql rfl rfl).eq (v' := .bool false) (congrArg Value.bool (decide_eq_false (by omega)))) ?_
 refine a_ ?_
 repeat refine x_ ?_
 refine f_ ((s_eql rfl rfl).eq (v' := .bool false) (congrArg Value.bool (decide_eq_false (by omega)))) ?_
 refine a_ ?_
 repeat refine x_ ?_
 refine f_ ((s_eql rfl rfl).eq (v' := .bool false) (congrArg Value.bool (decide_eq_false (by omega)))) ?_
 refine a_ ?_
 repeat refine x_ ?_
 refine f_ ((s_eql rfl rfl).eq (v' := .bool false) (congrArg Value.bool (decide_eq_false (by omega)))) ?_
 refine a_ ?_
 repeat refine x_ ?_
 refine f_ ((s_eql rfl rfl).eq (v' := .bool false) (congrArg Value.bool (decide_eq_false (by omega)))) ?_
 refine a_ ?_
 repeat refine x_ ?_
 refine f_ ((s_eql rfl rfl).eq (v' := .bool false) (congrArg Value.bool (decide_eq_false (by omega)))) ?_
 refine a_ ?_
 repeat refine x_ ?_
 refine f_ ((s_eql rfl rfl).eq (v' := .bool true) (congrArg Value.bool (decide_eq_true hk))) ?_
 refine a_ ?_
 repeat refine x_ ?_
 refine r_ (by exact s_load_blkW rfl z_3 z_8) ?_
 refine gl_callp rfl (valuesR_ct r x hz hv) (fun h hh hb => hrr.le hh) rfl ?_; rw [← hq0]
 refine m_ ?_
 refine f_ (s_extract rfl rfl) ?_
 refine f_ (s_extract rfl rfl) ?_
 refine a_ ?_
 refine a_ ?_
 repeat refine n_ ?_
 cases q0 <;> cases q1
 all_goals (
  repeat refine y_ ?_
  refine g_draw0 ([1, 9, 14], [0, 1, 3, 7, 15, 0, 63, 0, 135, 391, 903, 1927, 3975, 8071, 16263, 32647, 65415, 8191, 262143], [2]) 19 rfl ?_
  refine w_ 0 rfl z_1 ?_
  (refine ga_read 1 rfl z_3 (s_load_blk rfl .del a10_4) rfl rfl rfl z_6 ?_)
  refine w_ 5 rfl (s_move rfl) ?_
  refine w_ 7 rfl (s_move rfl) ?_
  refine ga_one 2 rfl z_6 ?_
  refine gl_callp rfl (digitsR_ct r.n hn) (fun _ _ _ => trivial) rfl ?_
  refine gl_nil ?_
  refine at_ga (.inr (by exact keeps_of z_10)) ?_
  refine w_ 3 rfl (s_add_str rfl rfl (by simp only [List.length_cons, List.length_nil]; omega)) ?_
  refine w_ 4 rfl (s_add_str rfl rfl (by simp only [List.length_append, List.length_cons, List.length_nil]; omega)) ?_
  refine w_ 6 rfl ((s_add_str rfl rfl (by simp only [List.length_append, List.length_cons, List.length_nil]; omega)).eq (v' := B (42 :: 32 :: digS r.n ++ wFetch ++ valuesQ r)) rfl) ?_
  refine w_ 8 rfl (s_move rfl) ?_
  (first | refine s_ 9 ?_ | refine ga_read_g 9 rfl z_3 (s_load_blkW rfl .del z_8) rfl rfl rfl rfl rfl rfl z_6 ?_)
  refine ga_one 10 rfl z_6 ?_
  (first | refine gl_guard_no rfl rfl rfl rfl rfl rfl rfl ?_ | (refine v_ ?_; refine gl_callp rfl (onlyR' r x hv [110, 118] false false false true false false false true false (by decide)) (fun _ _ _ => trivial) rfl ?_; rw [← hq1]))
  refine gl_nil ?_
  refine at_ga (.inr (by exact keeps_of z_10)) ?_
  refine w_ 11 rfl z_4 ?_
  refine w_ 12 rfl (s_move rfl) ?_
  (first | refine s_ 13 ?_ | refine ga_free_g 13 rfl z_1 rfl rfl rfl rfl rfl rfl z_6 ?_)
  (first | refine s_ 14 ?_ | refine ga_read_g 14 rfl z_3 (s_load_blk rfl .del a10_4) rfl rfl rfl rfl rfl rfl z_6 ?_)
  (first | refine s_ 15 ?_ | refine ga_free_g 15 rfl ((s_leq rfl rfl).eb hq2) rfl rfl rfl rfl rfl rfl z_6 ?_)
  refine w_ 16 rfl z_4 ?_
  refine w_ 17 rfl (s_assign rfl) ?_
  refine w_ 18 rfl (s_assign rfl) ?_
  refine ga_done z_6 ?_
  repeat refine y_ ?_)
 all_goals (refine g_ret ?_; exact at_end2 rfl rfl rfl [] ⟨rfl, rfl⟩ (fun w hw => hw.dropAll))
theorem okR_x {r : RR} (h : ¬(1 ≤ r.kind ∧ r.kind ≤ 14)) : okR r = false := by
 unfold okR
 rw [if_neg (by omega), if_neg (by omega), if_neg (by omega), if_neg (by omega), if_neg (by omega), if_neg (by omega), if_neg (by omega), if_neg (by omega), if_neg (by omega)]
theorem textQ_x {r : RR} (h : ¬(1 ≤ r.kind ∧ r.kind ≤ 14)) : textQ r = [] := by
 unfold textQ
 rw [if_neg (by omega), if_neg (by omega), if_neg (by omega), if_neg (by omega)]
set_option maxRecDepth 8000 in
theorem textR_x (r : RR) (x : RL) (hk : ¬(1 ≤ r.kind ∧ r.kind ≤ 14)) : Pu Tryz.prog 17 [rrA r x] (RRd r x) (.tuple #[B (textQ r), .bool (okR r)]) := by
 rw [okR_x hk, textQ_x hk]
 refine ct_enter 269 Tryz.func17 rfl rfl rfl ?_
 intro F hrr
 repeat refine x_ ?_
 refine gl_boxA rfl rfl ?_; intro g1
 refine a_ ?_
 refine a_ ?_
 repeat refine x_ ?_
 refine f_ z_1 ?_
 refine r_ (by exact s_load_blk rfl z_3 a10_0) ?_
 repeat refine x_ ?_
 refine f_ ((s_eql rfl rfl).eq (v' := .bool false) (congrArg Value.bool (decide_eq_false (by omega)))) ?_
 refine a_ ?_
 repeat refine x_ ?_
 refine f_ ((s_eql rfl rfl).eq (v' := .bool false) (congrArg Value.bool (decide_eq_false (by omega)))) ?_
 refine a_ ?_
 repeat refine x_ ?_
 refine f_ ((s_eql rfl rfl).eq (v' := .bool false) (congrArg Value.bool (decide_eq_false (by omega)))) ?_
 refine a_ ?_
 repeat refine x_ ?_
 refine f_ ((s_eql rfl rfl).eq (v' := .bool false) (congrArg Value.bool (decide_eq_false (by omega)))) ?_
 refine a_ ?_
 repeat refine x_ ?_
 refine f_ ((s_eql rfl rfl).eq (v' := .bool false) (congrArg Value.bool (decide_eq_false (by omega)))) ?_
 refine a_ ?_
 repeat refine x_ ?_
 refine f_ ((s_eql rfl rfl).eq (v' := .bool false) (congrArg Value.bool (decide_eq_false (by omega)))) ?_
 refine a_ ?_
 repeat refine x_ ?_
 refine f_ ((s_eql rfl rfl).eq (v' := .bool false) (congrArg Value.bool (decide_eq_false (by omega)))) ?_
 refine a_ ?_
 repeat refine x_ ?_
 refine f_ ((s_eql rfl rfl).eq (v' := .bool false) (congrArg Value.bool (decide_eq_false (by omega)))) ?_
 refine a_ ?_
 repeat refine x_ ?_
 refine f_ ((s_eql rfl rfl).eq (v' := .bool false) (congrArg Value.bool (decide_eq_false (by omega)))) ?_
 refine a_ ?_
 repeat refine x_ ?_
 refine f_ ((s_eql rfl rfl).eq (v' := .bool false) (congrArg Value.bool (decide_eq_false (by omega)))) ?_
 refine a_ ?_
 repeat refine x_ ?_
 refine f_ ((s_eql rfl rfl).eq (v' := .bool false) (congrArg Value.bool (decide_eq_false (by omega)))) ?_
 refine a_ ?_
 repeat refine x_ ?_
 refine f_ ((s_eql rfl rfl).eq (v' := .bool false) (congrArg Value.bool (decide_eq_false (by omega)))) ?_
 refine a_ ?_
 repeat refine x_ ?_
 refine f_ ((s_eql rfl rfl).eq (v' := .bool false) (congrArg Value.bool (decide_eq_false (by omega)))) ?_
 refine a_ ?_
 repeat refine x_ ?_
 refine f_ ((s_eql rfl rfl).eq (v' := .bool false) (congrArg Value.bool (decide_eq_false (by omega)))) ?_
 refine a_ ?_
 repeat refine x_ ?_
 refine a_ ?_
 refine a_ ?_
 repeat refine n_ ?_
 refine g_ret ?_
 exact at_end2 rfl rfl rfl [] ⟨rfl, rfl⟩ (fun w hw => hw.dropAll)
end Go.Proofs.YtgllpcggdcknaaaGreatDoor.Rp
namespace Go.Proofs.YtgllpcggdcknaaaGreatDoor.Rp
open Go Go.Sl
theorem sc10 (q1 q2 q3 q4 q5 q6 q7 : Bool) : q1 = false ∨ (q1 = true ∧ q2 = false) ∨ (q1 = true ∧ q2 = true ∧ q3 = false) ∨ (q1 = true ∧ q2 = true ∧ q3 = true ∧ q4 = false ∧ q5 = false) ∨ (q1 = true ∧ q2 = true ∧ q3 = true ∧ q4 = true ∧ q6 = true) ∨ (q1 = true ∧ q2 = true ∧ q3 = true ∧ q4 = true ∧ q6 = false ∧ q7 = false) ∨ (q1 = true ∧ q2 = true ∧ q3 = true ∧ q4 = true ∧ q6 = false ∧ q7 = true) ∨ (q1 = true ∧ q2 = true ∧ q3 = true ∧ q4 = false ∧ q5 = true ∧ q6 = true) ∨ (q1 = true ∧ q2 = true ∧ q3 = true ∧ q4 = false ∧ q5 = true ∧ q6 = false ∧ q7 = false) ∨ (q1 = true ∧ q2 = true ∧ q3 = true ∧ q4 = false ∧ q5 = true ∧ q6 = false ∧ q7 = true) := by
 cases q1 <;> cases q2 <;> cases q3 <;> cases q4 <;> cases q5 <;> cases q6 <;> cases q7 <;> simp
theorem okR_s {r : RR} (h : 1 ≤ r.kind ∧ r.kind ≤ 4) : okR r = (onlyB r true true true false false false false false false && plainS r.text && decide (r.text.head? ≠ some 91) && codeOk r.code && (decide (r.tag = [42]) || (decide (r.kind < 4) && tagP r.tag))) := by
 unfold okR
 rw [if_pos h]
theorem textQ_s {r : RR} (h : 1 ≤ r.kind ∧ r.kind ≤ 4) : textQ r = r.tag ++ 32 :: statW.getD (r.kind.toNat - 1) [] ++ 32 :: codeP r.code ++ r.text := by
 unfold textQ textP
 rw [if_neg (by omega), if_neg (by omega), if_neg (by omega), if_pos (by omega), if_pos h]
theorem stat_len : ∀ k, (statW.getD k []).length ≤ 3
 | 0 => by decide
 | 1 => by decide
 | 2 => by decide
 | 3 => by decide
 | n + 4 => by simp [statW]
set_option maxRecDepth 8000 in
set_option maxHeartbeats 1000000 in
theorem textR_s (r : RR) (x : RL) (hz : SzR r) (hv : r.values = x.vs.map VM.v) (hk : 1 ≤ r.kind ∧ r.kind ≤ 4) : Pu Tryz.prog 17 [rrA r x] (RRd r x) (.tuple #[B (textQ r), .bool (okR r)]) := by
 rw [okR_s hk, textQ_s hk]
 obtain ⟨q1, hq1⟩ : ∃ q, q = onlyB r true true true false false false false false false := ⟨_, rfl⟩
 obtain ⟨q2, hq2⟩ : ∃ q, q = plainW r.text 0 := ⟨_, rfl⟩
 obtain ⟨q3, hq3⟩ : ∃ q, q = !decide (r.text.getD 0 0 = 91) := ⟨_, rfl⟩
 obtain ⟨q4, hq4⟩ : ∃ q, q = decide (r.code = []) := ⟨_, rfl⟩
 obtain ⟨q5, hq5⟩ : ∃ q, q = plainW r.code 93 := ⟨_, rfl⟩
 obtain ⟨q6, hq6⟩ : ∃ q, q = decide (r.tag = [42]) := ⟨_, rfl⟩
 obtain ⟨q7, hq7⟩ : ∃ q, q = decide (r.kind < 4) := ⟨_, rfl⟩
 obtain ⟨q8, hq8⟩ : ∃ q, q = tagP r.tag := ⟨_, rfl⟩
 have e : (onlyB r true true true false false false false false false && plainS r.text && decide (r.text.head? ≠ some 91) && codeOk r.code && (decide (r.tag = [42]) || (decide (r.kind < 4) && tagP r.tag))) = (q1 && q2 && q3 && (q4 || q5) && (q6 || (q7 && q8))) := by
  rw [hq1, hq2, hq3, hq4, hq5, hq6, hq7, hq8, plainW0, plainW93]
  cases hp : plainS r.text with
  | false => simp
  | true =>
   rw [head91 hp]
   unfold codeOk
   rw [← dnil]
 rw [e]
 clear e
 obtain ⟨W, hW⟩ : ∃ W, W = statW.getD (r.kind.toNat - 1) [] := ⟨_, rfl⟩
 have hWl : W.length ≤ 3 := by rw [hW]; exact stat_len _
 rw [← hW]
 have htl := hz.text
 have hcl := hz.code
 have hgl := hz.tag
 unfold big at htl hcl hgl
 have hkl : r.kind.toNat - 1 < statW.length := by have : statW.length = 4 := rfl; omega
 have hpl : q2 = true → 1 ≤ r.text.length := fun h => plain_len (hq2.symm.trans h)
 refine ct_enter 269 Tryz.func17 rfl rfl rfl ?_
 intro F hrr
 repeat refine x_ ?_
 refine gl_boxA rfl rfl ?_; intro g1
 refine a_ ?_
 refine a_ ?_
 repeat refine x_ ?_
 refine f_ z_1 ?_
 refine r_ (by exact s_load_blk rfl z_3 a10_0) ?_
 repeat refine x_ ?_
 refine f_ ((s_eql rfl rfl).eq (v' := .bool (decide (r.kind = 1))) rfl) ?_
 refine a_ ?_
 repeat refine n_ ?_
 refine g_cutK [(1, Ptr g1), (15, .bool true)] [blkR g1 r x] ?_ ?_
 ·refine g_cond rfl (fun h => ?_) (fun h1 => ?_)
  ·rw [h]
   repeat refine y_ ?_
   exact at_cut j_ i_
  ·repeat refine y_ ?_
   refine g_region ?_
   refine f_ ((s_eql rfl rfl).eq (v' := .bool (decide (r.kind = 2))) rfl) ?_
   refine a_ ?_
   repeat refine n_ ?_
   refine g_cond rfl (fun h => ?_) (fun h2 => ?_)
   ·rw [h]
    repeat refine y_ ?_
    exact at_cut j_ i_
   ·repeat refine y_ ?_
    refine g_region ?_
    refine f_ ((s_eql rfl rfl).eq (v' := .bool (decide (r.kind = 3))) rfl) ?_
    refine a_ ?_
    repeat refine n_ ?_
    refine g_cond rfl (fun h => ?_) (fun h3 => ?_)
    ·rw [h]
     repeat refine y_ ?_
     exact at_cut j_ i_
    ·have h4 : r.kind = 4 := by
      have := of_decide_eq_false h1
      have := of_decide_eq_false h2
      have := of_decide_eq_false h3
      omega
     repeat refine x_ ?_
     refine f_ ((s_eql rfl rfl).eq (v' := .bool true) (congrArg Value.bool (decide_eq_true h4))) ?_
     refine a_ ?_
     repeat refine n_ ?_
     exact at_cut j_ i_
 repeat refine x_ ?_
 refine gl_buildSliceU rfl rfl rfl rfl rfl rfl (xs := fV statW) rfl rfl ?_; rintro a3 ⟨ad3, rfl⟩
 refine f_ z_1 ?_
 refine r_ (by exact s_load_blk rfl z_3 a10_0) ?_
 refine f_ (s_sub_i64 rfl rfl (by omega)) ?_
 refine f_ ((s_indexAddr rfl ⟨ad3, rfl⟩ rfl (by simp <;> omega))) ?_
 refine r_ ((s_load1 rfl (fun w hw => rdB_own hw z_3 (i := r.kind.toNat - 1) (by simp <;> omega) hkl)).eq (v' := B W) (by rw [hW])) ?_
 refine a_ ?_
 repeat refine n_ ?_
 obtain ⟨ok, hok⟩ : ∃ b, b = (q1 && q2 && q3 && (q4 || q5) && (q6 || (q7 && q8))) := ⟨_, rfl⟩
 rw [← hok]
 repeat refine y_ ?_
 refine g_cutK [(1, Ptr g1), (4, B W), (5, .bool ok)] [blkR g1 r x] ?_ ?_
 ·rw [hok]
  rcases sc10 q1 q2 q3 q4 q5 q6 q7 with rfl | ⟨rfl, rfl⟩ | ⟨rfl, rfl, rfl⟩ | ⟨rfl, rfl, rfl, rfl, rfl⟩ | ⟨rfl, rfl, rfl, rfl, rfl⟩ | ⟨rfl, rfl, rfl, rfl, rfl, rfl⟩ | ⟨rfl, rfl, rfl, rfl, rfl, rfl⟩ | ⟨rfl, rfl, rfl, rfl, rfl, rfl⟩ | ⟨rfl, rfl, rfl, rfl, rfl, rfl, rfl⟩ | ⟨rfl, rfl, rfl, rfl, rfl, rfl, rfl⟩
  all_goals (
   repeat refine x_ ?_
   refine r_ ((s_load_blkW rfl z_3 z_8).eq (v' := rrA r x) rfl) ?_
   refine gl_callp rfl (onlyR' r x hv [116, 99, 120] true true true false false false false false false (by decide)) (fun _ _ _ => trivial) rfl ?_; rw [← hq1]
   refine m_ ?_
   (first | refine gl_guard_no rfl rfl rfl rfl rfl rfl rfl ?_ | (refine v_ ?_; refine f_ z_1 ?_))
   (first | refine gl_guard_no rfl rfl rfl rfl rfl rfl rfl ?_ | (refine v_ ?_; refine r_ (by exact s_load_blk rfl z_3 a10_3) ?_))
   (first | refine gl_guard_no rfl rfl rfl rfl rfl rfl rfl ?_ | (refine v_ ?_; refine gl_callp rfl (plainR_ct r.text 0 (by omega)) (fun _ _ _ => trivial) rfl ?_; rw [← hq2]))
   refine f_ z_4 ?_
   refine m_ ?_
   (first | refine gl_guard_no rfl rfl rfl rfl rfl rfl rfl ?_ | (refine v_ ?_; refine f_ z_1 ?_))
   (first | refine gl_guard_no rfl rfl rfl rfl rfl rfl rfl ?_ | (refine v_ ?_; refine r_ (by exact s_load_blk rfl z_3 a10_3) ?_))
   (first | refine gl_guard_no rfl rfl rfl rfl rfl rfl rfl ?_ | (refine v_ ?_; refine f_ ((s_index_str rfl rfl (by have := hpl rfl; omega)).eq (v' := U8 (r.text.getD 0 0)) rfl) ?_))
   (first | refine gl_guard_no rfl rfl rfl rfl rfl rfl rfl ?_ | (refine v_ ?_; refine f_ ((s_neq rfl rfl).eq ((congrArg (fun b => Value.bool (!b)) (u8_eq (b := 91))).trans (congrArg Value.bool hq3.symm))) ?_))
   refine f_ z_4 ?_
   refine m_ ?_
   (first | refine gl_guard_no rfl rfl rfl rfl rfl rfl rfl ?_ | (refine v_ ?_; refine f_ z_1 ?_))
   (first | refine gl_guard_no rfl rfl rfl rfl rfl rfl rfl ?_ | (refine v_ ?_; refine r_ (by exact s_load_blk rfl z_3 a10_2) ?_))
   (first | refine gl_guard_no rfl rfl rfl rfl rfl rfl rfl ?_ | (refine v_ ?_; refine f_ ((s_eql_str rfl rfl).eb hq4) ?_))
   (first | refine gl_guard_no rfl rfl rfl rfl rfl rfl rfl ?_ | (refine v_ ?_; refine m_ ?_))
   (first|refine u_ ?_|(refine v_ ?_; refine f_ z_1 ?_))
   (first|refine u_ ?_|(refine v_ ?_; refine r_ (by exact s_load_blk rfl z_3 a10_2) ?_))
   (first|refine u_ ?_|(refine v_ ?_; refine gl_callp rfl (plainR_ct r.code 93 (by omega)) (fun _ _ _ => trivial) rfl ?_; rw [← hq5]))
   (first | refine gl_guard_no rfl rfl rfl rfl rfl rfl rfl ?_ | (refine v_ ?_; refine f_ z_4 ?_))
   refine f_ z_4 ?_
   refine m_ ?_
   (first | refine gl_guard_no rfl rfl rfl rfl rfl rfl rfl ?_ | (refine v_ ?_; refine f_ z_1 ?_))
   (first | refine gl_guard_no rfl rfl rfl rfl rfl rfl rfl ?_ | (refine v_ ?_; refine r_ (by exact s_load_blk rfl z_3 a10_1) ?_))
   (first | refine gl_guard_no rfl rfl rfl rfl rfl rfl rfl ?_ | (refine v_ ?_; refine f_ ((s_eql_str rfl rfl).eb hq6) ?_))
   (first | refine gl_guard_no rfl rfl rfl rfl rfl rfl rfl ?_ | (refine v_ ?_; refine m_ ?_))
   (first|refine u_ ?_|(refine v_ ?_; refine f_ z_1 ?_))
   (first|refine u_ ?_|(refine v_ ?_; refine r_ (by exact s_load_blk rfl z_3 a10_0) ?_))
   (first|refine u_ ?_|(refine v_ ?_; refine f_ ((s_lss rfl rfl).eb hq7) ?_))
   (first|refine u_ ?_|(refine v_ ?_; refine m_ ?_))
   (first|refine u_ ?_|(refine v_ ?_; refine f_ z_1 ?_))
   (first|refine u_ ?_|(refine v_ ?_; refine r_ (by exact s_load_blk rfl z_3 a10_1) ?_))
   (first|refine u_ ?_|(refine v_ ?_; refine gl_callp rfl (tagR_ct r.tag (by omega)) (fun _ _ _ => trivial) rfl ?_; rw [← hq8]))
   (first|refine u_ ?_|(refine v_ ?_; refine f_ z_4 ?_))
   (first | refine gl_guard_no rfl rfl rfl rfl rfl rfl rfl ?_ | (refine v_ ?_; refine f_ z_4 ?_))
   refine f_ z_4 ?_
   refine a_ ?_
   refine gl_nil ?_
   repeat refine y_ ?_)
  all_goals exact at_cut j_ (fun w hw => hw.drop)
 repeat refine x_ ?_
 refine f_ z_1 ?_
 refine r_ (by exact s_load_blk rfl z_3 a10_2) ?_
 refine f_ ((s_neq_str rfl rfl).eq (congrArg (fun b => Value.bool (!b)) hq4.symm)) ?_
 repeat refine n_ ?_
 cases q4 with
 | false =>
  have hc : r.code ≠ [] := of_decide_eq_false hq4.symm
  have ec : codeP r.code = 91 :: r.code ++ [93, 32] := by unfold codeP; rw [if_neg hc]
  rw [ec]
  repeat refine x_ ?_
  refine f_ z_1 ?_
  refine r_ (by exact s_load_blk rfl z_3 a10_1) ?_
  refine f_ (s_add_str rfl rfl (by simp only [List.length_cons, List.length_nil]; omega)) ?_
  refine m_ ?_
  refine f_ (s_add_str rfl rfl (by simp only [List.length_append, List.length_cons, List.length_nil]; omega)) ?_
  refine f_ (s_add_str rfl rfl (by simp only [List.length_append, List.length_cons, List.length_nil]; omega)) ?_
  refine f_ z_1 ?_
  refine r_ (by exact s_load_blk rfl z_3 a10_2) ?_
  refine f_ (s_add_str rfl rfl (by simp only [List.length_append, List.length_cons, List.length_nil]; omega)) ?_
  refine f_ (s_add_str rfl rfl (by simp only [List.length_append, List.length_cons, List.length_nil]; omega)) ?_
  refine f_ z_1 ?_
  refine r_ (by exact s_load_blk rfl z_3 a10_3) ?_
  refine f_ ((s_add_str rfl rfl (by simp only [List.length_append, List.length_cons, List.length_nil]; omega)).eq (v' := B (r.tag ++ 32 :: W ++ 32 :: (91 :: r.code ++ [93, 32]) ++ r.text)) z_7) ?_
  refine m_ ?_
  refine a_ ?_
  refine a_ ?_
  repeat refine n_ ?_
  refine g_ret ?_
  exact at_end2 rfl rfl rfl [] ⟨rfl, rfl⟩ (fun w hw => hw.dropAll)
 | true =>
  have hc : r.code = [] := of_decide_eq_true hq4.symm
  have ec : codeP r.code = [] := by unfold codeP; rw [if_pos hc]
  rw [ec]
  repeat refine x_ ?_
  refine f_ z_1 ?_
  refine r_ (by exact s_load_blk rfl z_3 a10_1) ?_
  refine f_ (s_add_str rfl rfl (by simp only [List.length_cons, List.length_nil]; omega)) ?_
  refine m_ ?_
  refine f_ (s_add_str rfl rfl (by simp only [List.length_append, List.length_cons, List.length_nil]; omega)) ?_
  refine f_ (s_add_str rfl rfl (by simp only [List.length_append, List.length_cons, List.length_nil]; omega)) ?_
  refine f_ z_1 ?_
  refine r_ (by exact s_load_blk rfl z_3 a10_3) ?_
  refine f_ ((s_add_str rfl rfl (by simp only [List.length_append, List.length_cons, List.length_nil]; omega)).eq (v' := B (r.tag ++ 32 :: W ++ 32 :: [] ++ r.text)) z_7) ?_
  refine m_ ?_
  refine a_ ?_
  refine a_ ?_
  repeat refine n_ ?_
  refine g_ret ?_
  exact at_end2 rfl rfl rfl [] ⟨rfl, rfl⟩ (fun w hw => hw.dropAll)
theorem rdN {F : Snap} {w : World} {H : List As} {a : Option Addr} {l : List Nat} (hw : Hp F w H) (r : RdS F.heap a (nV l)) {q i : Nat} (h : q = i) (hi : i < l.length) : PeekC (hp w) (addO a q) [.int .u64 (l.getD i 0 : Nat)] :=
 peek_rd hw r z_7 (fun j u hu => by
  match j, hu with
  | 0, hu =>
   simp at hu; subst hu h
   simp [nV, hi])
theorem rdN_some {h : Heap} {a : Option Addr} {l : List Nat} {i : Nat} (r : RdS h a (nV l)) (hi : i < l.length) : ∃ ad, a = some ad := by
 obtain ⟨ad, e, _⟩ := r (by intro e; have := congrArg List.length e; rw [nV_len] at this; simp at this; subst this; simp at hi)
 exact ⟨ad, e⟩
theorem getN_mem {l : List Nat} {k : Nat} (hk : k < l.length) : l.getD k 0 ∈ l := by
 rw [List.getD_eq_getElem?_getD, List.getElem?_eq_getElem hk]
 exact List.getElem_mem hk
theorem takeN {l : List Nat} {k : Nat} (hk : k < l.length) : l.take (k + 1) = l.take k ++ [l.getD k 0] := by
 rw [List.take_add_one, List.getD_eq_getElem?_getD, List.getElem?_eq_getElem hk]
 rfl
theorem numsP_len : ∀ {l : List Nat}, (∀ n ∈ l, n ≤ 18446744073709551615) → (numsP l).length ≤ l.length * 21
 | [], _ => by simp [numsP]
 | a :: t, h => by
  have h1 := digS_len64 (h a z_7)
  have h2 := numsP_len (l := t) (fun n hn => h n (by simp [hn]))
  unfold numsP at h2 ⊢
  simp only [List.flatMap_cons, List.length_append, List.length_cons]
  omega
theorem okR_13 {r : RR} (hk : r.kind = 13) : okR r = (onlyB r false false false false true false false false true && decide (r.nums.length ≤ 64) && decide (r.mod ≤ great) && r.nums.all (fun n => decide (n ≤ great))) := by
 unfold okR
 rw [hk]
 rfl
theorem textQ_13 {r : RR} (hk : r.kind = 13) : textQ r = 42 :: 32 :: wSearch ++ numsP (r.nums.take 65) ++ modP r.mod := by
 unfold textQ
 rw [if_pos hk]
set_option maxRecDepth 8000 in
theorem textR_13 (r : RR) (x : RL) (hz : SzR r) (hv : r.values = x.vs.map VM.v) (hk : r.kind = 13) : Pu Tryz.prog 17 [rrA r x] (RRd r x) (.tuple #[B (textQ r), .bool (okR r)]) := by
 rw [okR_13 hk, textQ_13 hk]
 obtain ⟨q1, hq1⟩ : ∃ q, q = onlyB r false false false false true false false false true := ⟨_, rfl⟩
 obtain ⟨q2, hq2⟩ : ∃ q, q = decide ((r.nums.length : Int) ≤ 64) := ⟨_, rfl⟩
 obtain ⟨q3, hq3⟩ : ∃ q, q = decide ((r.mod : Int) ≤ 9223372036854775807) := ⟨_, rfl⟩
 have e1 : decide (r.nums.length ≤ 64) = q2 := by rw [hq2]; exact decide_eq_decide.mpr (by omega)
 have e2 : decide (r.mod ≤ great) = q3 := by rw [hq3]; exact decide_eq_decide.mpr (by unfold great; omega)
 rw [← hq1, e1, e2]
 have hm := hz.mod
 have hns := hz.ns
 have hnl := hz.nl
 unfold big at hnl
 have hdm := digS_len64 hm
 refine ct_enter 269 Tryz.func17 rfl rfl rfl ?_
 intro F hrr
 have hrn := hrr.nums
 repeat refine x_ ?_
 refine gl_boxA rfl rfl ?_; intro g1
 refine a_ ?_
 refine a_ ?_
 repeat refine x_ ?_
 refine f_ z_1 ?_
 refine r_ (by exact s_load_blk rfl z_3 a10_0) ?_
 repeat refine x_ ?_
 refine f_ ((s_eql rfl rfl).eq (v' := .bool false) (congrArg Value.bool (decide_eq_false (by omega)))) ?_
 refine a_ ?_
 repeat refine x_ ?_
 refine f_ ((s_eql rfl rfl).eq (v' := .bool false) (congrArg Value.bool (decide_eq_false (by omega)))) ?_
 refine a_ ?_
 repeat refine x_ ?_
 refine f_ ((s_eql rfl rfl).eq (v' := .bool false) (congrArg Value.bool (decide_eq_false (by omega)))) ?_
 refine a_ ?_
 repeat refine x_ ?_
 refine f_ ((s_eql rfl rfl).eq (v' := .bool false) (congrArg Value.bool (decide_eq_false (by omega)))) ?_
 refine a_ ?_
 repeat refine x_ ?_
 refine f_ ((s_eql rfl rfl).eq (v' := .bool false) (congrArg Value.bool (decide_eq_false (by omega)))) ?_
 refine a_ ?_
 repeat refine x_ ?_
 refine f_ ((s_eql rfl rfl).eq (v' := .bool false) (congrArg Value.bool (decide_eq_false (by omega)))) ?_
 refine a_ ?_
 repeat refine x_ ?_
 refine f_ ((s_eql rfl rfl).eq (v' := .bool false) (congrArg Value.bool (decide_eq_false (by omega)))) ?_
 refine a_ ?_
 repeat refine x_ ?_
 refine f_ ((s_eql rfl rfl).eq (v' := .bool false) (congrArg Value.bool (decide_eq_false (by omega)))) ?_
 refine a_ ?_
 repeat refine x_ ?_
 refine f_ ((s_eql rfl rfl).eq (v' := .bool false) (congrArg Value.bool (decide_eq_false (by omega)))) ?_
 refine a_ ?_
 repeat refine x_ ?_
 refine f_ ((s_eql rfl rfl).eq (v' := .bool false) (congrArg Value.bool (decide_eq_false (by omega)))) ?_
 refine a_ ?_
 repeat refine x_ ?_
 refine f_ ((s_eql rfl rfl).eq (v' := .bool false) (congrArg Value.bool (decide_eq_false (by omega)))) ?_
 refine a_ ?_
 repeat refine x_ ?_
 refine f_ ((s_eql rfl rfl).eq (v' := .bool false) (congrArg Value.bool (decide_eq_false (by omega)))) ?_
 refine a_ ?_
 repeat refine x_ ?_
 refine f_ ((s_eql rfl rfl).eq (v' := .bool true) (congrArg Value.bool (decide_eq_true hk))) ?_
 refine a_ ?_
 repeat refine x_ ?_
 refine a_ ?_
 repeat refine n_ ?_
 obtain ⟨b, hb⟩ : ∃ b, b = (q1 && q2 && q3) := ⟨_, rfl⟩
 rw [← hb]
 repeat refine y_ ?_
 refine g_cutK [(1, Ptr g1), (8, B (42 :: 32 :: wSearch)), (9, .bool b)] [blkR g1 r x] ?_ ?_
 ·rw [hb]
  cases q1 <;> cases q2
  all_goals (
   repeat refine x_ ?_
   refine r_ ((s_load_blkW rfl z_3 z_8).eq (v' := rrA r x) rfl) ?_
   refine gl_callp rfl (onlyR' r x hv [108, 109] false false false false true false false false true (by decide)) (fun _ _ _ => trivial) rfl ?_; rw [← hq1]
   refine m_ ?_
   (first | refine gl_guard_no rfl rfl rfl rfl rfl rfl rfl ?_ | (refine v_ ?_; refine f_ z_1 ?_))
   (first | refine gl_guard_no rfl rfl rfl rfl rfl rfl rfl ?_ | (refine v_ ?_; refine r_ (by exact s_load_blk rfl z_3 a10_5) ?_))
   (first | refine gl_guard_no rfl rfl rfl rfl rfl rfl rfl ?_ | (refine v_ ?_; refine f_ (s_len_sl rfl) ?_))
   (first | refine gl_guard_no rfl rfl rfl rfl rfl rfl rfl ?_ | (refine v_ ?_; refine f_ ((s_leq rfl rfl).eb hq2) ?_))
   refine f_ z_4 ?_
   refine m_ ?_
   (first | refine gl_guard_no rfl rfl rfl rfl rfl rfl rfl ?_ | (refine v_ ?_; refine f_ z_1 ?_))
   (first | refine gl_guard_no rfl rfl rfl rfl rfl rfl rfl ?_ | (refine v_ ?_; refine r_ (by exact s_load_blk rfl z_3 a10_6) ?_))
   (first | refine gl_guard_no rfl rfl rfl rfl rfl rfl rfl ?_ | (refine v_ ?_; refine f_ ((s_leq rfl rfl).eb hq3) ?_))
   refine f_ z_4 ?_
   refine a_ ?_
   refine gl_nil ?_
   repeat refine y_ ?_)
  all_goals exact at_cut j_ i_
 repeat refine x_ ?_
 refine a_ ?_
 repeat refine n_ ?_
 refine g_loop (ι := Nat) (fun j => j ≤ r.nums.length ∧ j ≤ 65) (fun j => [(1, Ptr g1), (8, B (42 :: 32 :: wSearch ++ numsP (r.nums.take j))), (9, .bool (b && (r.nums.take j).all (fun n => decide (n ≤ great)))), (10, .int .i64 (j : Nat))]) (fun _ => [blkR g1 r x]) (fun j => r.nums.length - j) 0 ⟨by omega, by omega⟩ ?_ ?_ ?_
 ·simp only [List.take_zero, List.all_nil, Bool.and_true]
  (repeat (first | exact Sub.nil _ | refine Sub.cons rfl ?_))
 ·intro w hw; exact hw
 ·rintro j ⟨hj, hj65⟩
  obtain ⟨p1, hp1⟩ : ∃ q, q = decide ((j : Int) < (r.nums.length : Nat)) := ⟨_, rfl⟩
  obtain ⟨p2, hp2⟩ : ∃ q, q = decide ((j : Int) < 65) := ⟨_, rfl⟩
  have hnp : (numsP (r.nums.take j)).length ≤ 2000 := by
   have h1 := numsP_len (l := r.nums.take j) (fun n hn => hns n (List.mem_of_mem_take hn))
   rw [List.length_take] at h1
   have h2 : min j r.nums.length ≤ 65 := by omega
   have h3 := Nat.mul_le_mul_right 21 h2
   omega
  repeat refine y_ ?_
  refine g_cutK [(1, Ptr g1), (8, B (42 :: 32 :: wSearch ++ numsP (r.nums.take j))), (9, .bool (b && (r.nums.take j).all (fun n => decide (n ≤ great)))), (10, .int .i64 (j : Nat)), (212, .bool (p1 && p2))] [blkR g1 r x] ?_ ?_
  ·cases p1
   all_goals (
    repeat refine x_ ?_
    refine m_ ?_
    refine f_ z_1 ?_
    refine r_ (by exact s_load_blk rfl z_3 a10_5) ?_
    refine f_ (s_len_sl rfl) ?_
    refine f_ ((s_lss rfl rfl).eb hp1) ?_
    refine m_ ?_
    (first | refine gl_guard_no rfl rfl rfl rfl rfl rfl rfl ?_ | (refine v_ ?_; refine m_ ?_))
    (first | refine gl_guard_no rfl rfl rfl rfl rfl rfl rfl ?_ | (refine v_ ?_; refine f_ ((s_lss rfl rfl).eb hp2) ?_))
    refine f_ z_4 ?_
    refine gl_nil ?_
    repeat refine y_ ?_)
   all_goals exact at_cut j_ i_
  repeat refine y_ ?_
  refine g_cond rfl (fun h => ?_) (fun h => ?_)
  ·simp only [Bool.and_eq_true] at h
   have hj' : j < r.nums.length := by have := of_decide_eq_true (hp1.symm.trans h.1); omega
   have hj5 : j < 65 := by have := of_decide_eq_true (hp2.symm.trans h.2); omega
   have hsome := rdN_some hrn hj'
   have htk := takeN hj'
   have hng := hns _ (getN_mem hj')
   have hdl := digS_len64 hng
   obtain ⟨q4, hq4⟩ : ∃ q, q = decide (((r.nums.getD j 0 : Nat) : Int) ≤ 9223372036854775807) := ⟨_, rfl⟩
   have hal : (r.nums.take (j + 1)).all (fun n => decide (n ≤ great)) = ((r.nums.take j).all (fun n => decide (n ≤ great)) && q4) := by
    rw [htk, List.all_append, hq4]
    congr 1
    simp only [List.all_cons, List.all_nil, Bool.and_true]
    exact decide_eq_decide.mpr (by unfold great; omega)
   have hnp2 : numsP (r.nums.take (j + 1)) = numsP (r.nums.take j) ++ 32 :: digS (r.nums.getD j 0) := by rw [htk, nums_snoc]
   repeat refine x_ ?_
   refine m_ ?_
   refine f_ (s_add_str rfl rfl (by simp only [List.length_append, List.length_cons, List.length_nil]; omega)) ?_
   refine f_ z_1 ?_
   refine r_ (by exact s_load_blk rfl z_3 a10_5) ?_
   refine m_ ?_
   refine f_ (s_indexAddr rfl hsome rfl (by omega)) ?_
   refine r_ (s_load1 rfl (fun w hw => rdN hw hrn (i := j) (by omega) hj')) ?_
   refine gl_callp rfl (digitsR_ct (r.nums.getD j 0) hng) (fun _ _ _ => trivial) rfl ?_
   refine f_ ((s_add_str rfl rfl (by simp only [List.length_append, List.length_cons, List.length_nil]; omega)).eq (v' := B (42 :: 32 :: wSearch ++ numsP (r.nums.take (j + 1)))) (by rw [hnp2]; simp)) ?_
   refine a_ ?_
   repeat refine n_ ?_
   obtain ⟨b2, hb2⟩ : ∃ c, c = (b && (r.nums.take j).all (fun n => decide (n ≤ great))) := ⟨_, rfl⟩
   rw [← hb2]
   repeat refine y_ ?_
   refine g_cutK [(1, Ptr g1), (8, B (42 :: 32 :: wSearch ++ numsP (r.nums.take (j + 1)))), (9, .bool (b2 && q4)), (10, .int .i64 (j : Nat))] [blkR g1 r x] ?_ ?_
   ·cases b2
    all_goals (
     repeat refine x_ ?_
     refine m_ ?_
     refine m_ ?_
     (first | refine gl_guard_no rfl rfl rfl rfl rfl rfl rfl ?_ | (refine v_ ?_; refine f_ z_1 ?_))
     (first | refine gl_guard_no rfl rfl rfl rfl rfl rfl rfl ?_ | (refine v_ ?_; refine r_ (by exact s_load_blk rfl z_3 a10_5) ?_))
     (first | refine gl_guard_no rfl rfl rfl rfl rfl rfl rfl ?_ | (refine v_ ?_; refine m_ ?_))
     (first | refine gl_guard_no rfl rfl rfl rfl rfl rfl rfl ?_ | (refine v_ ?_; refine f_ (s_indexAddr rfl hsome rfl (by omega)) ?_))
     (first | refine gl_guard_no rfl rfl rfl rfl rfl rfl rfl ?_ | (refine v_ ?_; refine r_ (s_load1 rfl (fun w hw => rdN hw hrn (i := j) (by omega) hj')) ?_))
     (first | refine gl_guard_no rfl rfl rfl rfl rfl rfl rfl ?_ | (refine v_ ?_; refine f_ ((s_leq rfl rfl).eb hq4) ?_))
     refine f_ z_4 ?_
     refine a_ ?_
     refine gl_nil ?_
     repeat refine y_ ?_)
    all_goals exact at_cut j_ i_
   repeat refine x_ ?_
   refine m_ ?_
   refine f_ (s_add_i64 rfl rfl (by omega)) ?_
   refine a_ ?_
   repeat refine n_ ?_
   refine at_next (j + 1) ⟨by omega, by omega⟩ (by omega) ?_ ?_
   ·rw [hal, ← Bool.and_assoc, ← hb2]
    (repeat (first | exact Sub.nil _ | refine Sub.cons rfl ?_))
   ·intro w hw; exact hw
  ·have htk : r.nums.take j = r.nums.take 65 := by
    rcases Nat.lt_or_ge j r.nums.length with h5 | h5
    ·rcases Nat.lt_or_ge j 65 with h6 | h6
     ·exfalso
      have a1 : p1 = true := hp1.trans (decide_eq_true (by omega))
      have a2 : p2 = true := hp2.trans (decide_eq_true (by omega))
      rw [a1, a2] at h
      cases h
     ·rw [show j = 65 by omega]
    ·rw [List.take_of_length_le (by omega), List.take_of_length_le (by omega)]
   have hall : (b && (r.nums.take j).all (fun n => decide (n ≤ great))) = (b && r.nums.all (fun n => decide (n ≤ great))) := by
    rw [hb, htk]
    cases hq : q2 with
    | false => cases q1 <;> simp
    | true =>
     have := of_decide_eq_true (hq2.symm.trans hq)
     rw [List.take_of_length_le (by omega)]
   obtain ⟨z, hzz⟩ : ∃ z, z = (b && (r.nums.take j).all (fun n => decide (n ≤ great))) := ⟨_, rfl⟩
   repeat refine y_ ?_
   rw [← hall, ← hzz]
   rw [← htk]
   repeat refine x_ ?_
   refine f_ z_1 ?_
   refine r_ (by exact s_load_blk rfl z_3 a10_6) ?_
   refine f_ ((s_gtr rfl rfl).eq (v' := .bool (decide (0 < r.mod))) (congrArg Value.bool (decide_eq_decide.mpr (show ((r.mod : Nat) : Int) > 0 ↔ 0 < r.mod by omega)))) ?_
   repeat refine n_ ?_
   refine g_cond rfl (fun h7 => ?_) (fun h7 => ?_)
   ·have hm0 := of_decide_eq_true h7
    have em : modP r.mod = 32 :: wModseq ++ digS r.mod ++ [41] := by unfold modP; rw [if_neg (by omega)]
    rw [em]
    repeat refine x_ ?_
    refine m_ ?_
    refine f_ (s_add_str rfl rfl (by simp only [List.length_append, List.length_cons, List.length_nil]; omega)) ?_
    refine f_ z_1 ?_
    refine r_ (by exact s_load_blk rfl z_3 a10_6) ?_
    refine gl_callp rfl (digitsR_ct r.mod hm) (fun _ _ _ => trivial) rfl ?_
    refine f_ (s_add_str rfl rfl (by simp only [List.length_append, List.length_cons, List.length_nil]; omega)) ?_
    refine f_ ((s_add_str rfl rfl (by simp only [List.length_append, List.length_cons, List.length_nil]; omega)).eq (v' := B (42 :: 32 :: wSearch ++ numsP (r.nums.take j) ++ (32 :: wModseq ++ digS r.mod ++ [41]))) z_7) ?_
    refine a_ ?_
    repeat refine x_ ?_
    refine m_ ?_
    refine m_ ?_
    refine a_ ?_
    refine a_ ?_
    repeat refine n_ ?_
    refine g_ret ?_
    exact at_end2 rfl rfl rfl [] ⟨rfl, rfl⟩ (fun w hw => hw.dropAll)
   ·have hm0 := of_decide_eq_false h7
    have em : modP r.mod = [] := by unfold modP; rw [if_pos (by omega)]
    rw [em, List.append_nil]
    repeat refine x_ ?_
    refine m_ ?_
    refine m_ ?_
    refine a_ ?_
    refine a_ ?_
    repeat refine n_ ?_
    refine g_ret ?_
    exact at_end2 rfl rfl rfl [] ⟨rfl, rfl⟩ (fun w hw => hw.dropAll)
theorem textR_ct (r : RR) (x : RL) (hz : SzR r) (hv : r.values = x.vs.map VM.v) : Pu Tryz.prog 17 [rrA r x] (RRd r x) (.tuple #[B (textQ r), .bool (okR r)]) := by
 by_cases h : 1 ≤ r.kind ∧ r.kind ≤ 14
 ·by_cases h4 : r.kind ≤ 4
  ·exact textR_s r x hz hv ⟨h.1, h4⟩
  have c : r.kind = 5 ∨ r.kind = 6 ∨ r.kind = 7 ∨ r.kind = 8 ∨ r.kind = 9 ∨ r.kind = 10 ∨ r.kind = 11 ∨ r.kind = 12 ∨ r.kind = 13 ∨ r.kind = 14 := by omega
  rcases c with c | c | c | c | c | c | c | c | c | c
  ·exact textR_5 r x hz hv c
  ·exact textR_6 r x hz hv c
  ·exact textR_7 r x hz hv c
  ·exact textR_8 r x hz hv c
  ·exact textR_9 r x hz hv c
  ·exact textR_10 r x hz hv c
  ·exact textR_11 r x hz hv c
  ·exact textR_12 r x hz hv c
  ·exact textR_13 r x hz hv c
  ·exact textR_14 r x hz hv c
 ·exact textR_x r x h
end Go.Proofs.YtgllpcggdcknaaaGreatDoor.Rp
