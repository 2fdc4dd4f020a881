import Derived.Test.YtgllpcggdcknaaaGreatDoorIx9
import Derived.Test.YtgllpcggdcknaaaGreatDoorIx8
set_option linter.unusedVariables false
set_option linter.unusedSimpArgs false
namespace Go.Proofs.YtgllpcggdcknaaaGreatDoor.Rp
open Go Go.Sl
theorem sc10 (q1 q2 q3 q4 q5 q6 q7 : Bool) : q1 = false ∨ (q1 = true ∧ q2 = false) ∨ (q1 = true ∧ q2 = true ∧ q3 = false) ∨ (q1 = true ∧ q2 = true ∧ q3 = true ∧ q4 = false ∧ q5 = false) ∨ (q1 = true ∧ q2 = true ∧ q3 = true ∧ q4 = true ∧ q6 = true) ∨ (q1 = true ∧ q2 = true ∧ q3 = true ∧ q4 = true ∧ q6 = false ∧ q7 = false) ∨ (q1 = true ∧ q2 = true ∧ q3 = true ∧ q4 = true ∧ q6 = false ∧ q7 = true) ∨ (q1 = true ∧ q2 = true ∧ q3 = true ∧ q4 = false ∧ q5 = true ∧ q6 = true) ∨ (q1 = true ∧ q2 = true ∧ q3 = true ∧ q4 = false ∧ q5 = true ∧ q6 = false ∧ q7 = false) ∨ (q1 = true ∧ q2 = true ∧ q3 = true ∧ q4 = false ∧ q5 = true ∧ q6 = false ∧ q7 = true) := by
 cases q1 <;> cases q2 <;> cases q3 <;> cases q4 <;> cases q5 <;> cases q6 <;> cases q7 <;> simp
theorem okR_s {r : RR} (h : 1 ≤ r.kind ∧ r.kind ≤ 4) : okR r = (onlyB r true true true false false false false false false && plainS r.text && decide (r.text.head? ≠ some 91) && codeOk r.code && (decide (r.tag = [42]) || (decide (r.kind < 4) && tagP r.tag))) := by
 unfold okR
 rw [if_pos h]
theorem textQ_s {r : RR} (h : 1 ≤ r.kind ∧ r.kind ≤ 4) : textQ r = r.tag ++ 32 :: statW.getD (r.kind.toNat - 1) [] ++ 32 :: codeP r.code ++ r.text := by
 unfold textQ textP
 rw [if_neg (by omega), if_neg (by omega), if_neg (by omega), if_pos (by omega), if_pos h]
theorem stat_len : ∀ k, (statW.getD k []).length ≤ 3
 | 0 => by decide
 | 1 => by decide
 | 2 => by decide
 | 3 => by decide
 | n + 4 => by simp [statW]
set_option maxRecDepth 8000 in
set_option maxHeartbeats 1000000 in
theorem textR_s (r : RR) (x : RL) (hz : SzR r) (hv : r.values = x.vs.map VM.v) (hk : 1 ≤ r.kind ∧ r.kind ≤ 4) : Pu Tryz.prog 17 [rrA r x] (RRd r x) (.tuple #[B (textQ r), .bool (okR r)]) := by
 rw [okR_s hk, textQ_s hk]
 obtain ⟨q1, hq1⟩ : ∃ q, q = onlyB r true true true false false false false false false := ⟨_, rfl⟩
 obtain ⟨q2, hq2⟩ : ∃ q, q = plainW r.text 0 := ⟨_, rfl⟩
 obtain ⟨q3, hq3⟩ : ∃ q, q = !decide (r.text.getD 0 0 = 91) := ⟨_, rfl⟩
 obtain ⟨q4, hq4⟩ : ∃ q, q = decide (r.code = []) := ⟨_, rfl⟩
 obtain ⟨q5, hq5⟩ : ∃ q, q = plainW r.code 93 := ⟨_, rfl⟩
 obtain ⟨q6, hq6⟩ : ∃ q, q = decide (r.tag = [42]) := ⟨_, rfl⟩
 obtain ⟨q7, hq7⟩ : ∃ q, q = decide (r.kind < 4) := ⟨_, rfl⟩
 obtain ⟨q8, hq8⟩ : ∃ q, q = tagP r.tag := ⟨_, rfl⟩
 have e : (onlyB r true true true false false false false false false && plainS r.text && decide (r.text.head? ≠ some 91) && codeOk r.code && (decide (r.tag = [42]) || (decide (r.kind < 4) && tagP r.tag))) = (q1 && q2 && q3 && (q4 || q5) && (q6 || (q7 && q8))) := by
  rw [hq1, hq2, hq3, hq4, hq5, hq6, hq7, hq8, plainW0, plainW93]
  cases hp : plainS r.text with
  | false => simp
  | true =>
   rw [head91 hp]
   unfold codeOk
   rw [← dnil]
 rw [e]
 clear e
 obtain ⟨W, hW⟩ : ∃ W, W = statW.getD (r.kind.toNat - 1) [] := ⟨_, rfl⟩
 have hWl : W.length ≤ 3 := by rw [hW]; exact stat_len _
 rw [← hW]
 have htl := hz.text
 have hcl := hz.code
 have hgl := hz.tag
 unfold big at htl hcl hgl
 have hkl : r.kind.toNat - 1 < statW.length := by have : statW.length = 4 := rfl; omega
 have hpl : q2 = true → 1 ≤ r.text.length := fun h => plain_len (hq2.symm.trans h)
 refine ct_enter 269 Tryz.func17 rfl rfl rfl ?_
 intro F hrr
 repeat refine x_ ?_
 refine gl_boxA rfl rfl ?_; intro g1
 refine a_ ?_
 refine a_ ?_
 repeat refine x_ ?_
 refine f_ z_1 ?_
 refine r_ (by exact s_load_blk rfl z_2 a10_0) ?_
 repeat refine x_ ?_
 refine f_ ((s_eql rfl rfl).eq (v' := .bool (decide (r.kind = 1))) rfl) ?_
 refine a_ ?_
 repeat refine n_ ?_
 refine g_cutK [(1, Ptr g1), (15, .bool true)] [blkR g1 r x] ?_ ?_
 ·refine g_cond rfl (fun h => ?_) (fun h1 => ?_)
  ·rw [h]
   repeat refine y_ ?_
   exact at_cut j_ i_
  ·repeat refine y_ ?_
   refine g_region ?_
   refine f_ ((s_eql rfl rfl).eq (v' := .bool (decide (r.kind = 2))) rfl) ?_
   refine a_ ?_
   repeat refine n_ ?_
   refine g_cond rfl (fun h => ?_) (fun h2 => ?_)
   ·rw [h]
    repeat refine y_ ?_
    exact at_cut j_ i_
   ·repeat refine y_ ?_
    refine g_region ?_
    refine f_ ((s_eql rfl rfl).eq (v' := .bool (decide (r.kind = 3))) rfl) ?_
    refine a_ ?_
    repeat refine n_ ?_
    refine g_cond rfl (fun h => ?_) (fun h3 => ?_)
    ·rw [h]
     repeat refine y_ ?_
     exact at_cut j_ i_
    ·have h4 : r.kind = 4 := by
      have := of_decide_eq_false h1
      have := of_decide_eq_false h2
      have := of_decide_eq_false h3
      omega
     repeat refine x_ ?_
     refine f_ ((s_eql rfl rfl).eq (v' := .bool true) (congrArg Value.bool (decide_eq_true h4))) ?_
     refine a_ ?_
     repeat refine n_ ?_
     exact at_cut j_ i_
 repeat refine x_ ?_
 refine gl_buildSliceU rfl rfl rfl rfl rfl rfl (xs := fV statW) rfl rfl ?_; rintro a3 ⟨ad3, rfl⟩
 refine f_ z_1 ?_
 refine r_ (by exact s_load_blk rfl z_2 a10_0) ?_
 refine f_ (s_sub_i64 rfl rfl (by omega)) ?_
 refine f_ ((s_indexAddr rfl ⟨ad3, rfl⟩ rfl (by simp <;> omega))) ?_
 refine r_ ((s_load1 rfl (fun w hw => rdB_own hw z_2 (i := r.kind.toNat - 1) (by simp <;> omega) hkl)).eq (v' := B W) (by rw [hW])) ?_
 refine a_ ?_
 repeat refine n_ ?_
 obtain ⟨ok, hok⟩ : ∃ b, b = (q1 && q2 && q3 && (q4 || q5) && (q6 || (q7 && q8))) := ⟨_, rfl⟩
 rw [← hok]
 repeat refine y_ ?_
 refine g_cutK [(1, Ptr g1), (4, B W), (5, .bool ok)] [blkR g1 r x] ?_ ?_
 ·rw [hok]
  rcases sc10 q1 q2 q3 q4 q5 q6 q7 with rfl | ⟨rfl, rfl⟩ | ⟨rfl, rfl, rfl⟩ | ⟨rfl, rfl, rfl, rfl, rfl⟩ | ⟨rfl, rfl, rfl, rfl, rfl⟩ | ⟨rfl, rfl, rfl, rfl, rfl, rfl⟩ | ⟨rfl, rfl, rfl, rfl, rfl, rfl⟩ | ⟨rfl, rfl, rfl, rfl, rfl, rfl⟩ | ⟨rfl, rfl, rfl, rfl, rfl, rfl, rfl⟩ | ⟨rfl, rfl, rfl, rfl, rfl, rfl, rfl⟩
  all_goals (
   repeat refine x_ ?_
   refine r_ ((s_load_blkW rfl z_2 z_7).eq (v' := rrA r x) rfl) ?_
   refine gl_callp rfl (onlyR' r x hv [116, 99, 120] true true true false false false false false false (by decide)) (fun _ _ _ => trivial) rfl ?_; rw [← hq1]
   refine m_ ?_
   (first | refine gl_guard_no rfl rfl rfl rfl rfl rfl rfl ?_ | (refine v_ ?_; refine f_ z_1 ?_))
   (first | refine gl_guard_no rfl rfl rfl rfl rfl rfl rfl ?_ | (refine v_ ?_; refine r_ (by exact s_load_blk rfl z_2 a10_3) ?_))
   (first | refine gl_guard_no rfl rfl rfl rfl rfl rfl rfl ?_ | (refine v_ ?_; refine gl_callp rfl (plainR_ct r.text 0 (by omega)) (fun _ _ _ => trivial) rfl ?_; rw [← hq2]))
   refine f_ z_4 ?_
   refine m_ ?_
   (first | refine gl_guard_no rfl rfl rfl rfl rfl rfl rfl ?_ | (refine v_ ?_; refine f_ z_1 ?_))
   (first | refine gl_guard_no rfl rfl rfl rfl rfl rfl rfl ?_ | (refine v_ ?_; refine r_ (by exact s_load_blk rfl z_2 a10_3) ?_))
   (first | refine gl_guard_no rfl rfl rfl rfl rfl rfl rfl ?_ | (refine v_ ?_; refine f_ ((s_index_str rfl rfl (by have := hpl rfl; omega)).eq (v' := U8 (r.text.getD 0 0)) rfl) ?_))
   (first | refine gl_guard_no rfl rfl rfl rfl rfl rfl rfl ?_ | (refine v_ ?_; refine f_ ((s_neq rfl rfl).eq ((congrArg (fun b => Value.bool (!b)) (u8_eq (b := 91))).trans (congrArg Value.bool hq3.symm))) ?_))
   refine f_ z_4 ?_
   refine m_ ?_
   (first | refine gl_guard_no rfl rfl rfl rfl rfl rfl rfl ?_ | (refine v_ ?_; refine f_ z_1 ?_))
   (first | refine gl_guard_no rfl rfl rfl rfl rfl rfl rfl ?_ | (refine v_ ?_; refine r_ (by exact s_load_blk rfl z_2 a10_2) ?_))
   (first | refine gl_guard_no rfl rfl rfl rfl rfl rfl rfl ?_ | (refine v_ ?_; refine f_ ((s_eql_str rfl rfl).eb hq4) ?_))
   (first | refine gl_guard_no rfl rfl rfl rfl rfl rfl rfl ?_ | (refine v_ ?_; refine m_ ?_))
   (first|refine u_ ?_|(refine v_ ?_; refine f_ z_1 ?_))
   (first|refine u_ ?_|(refine v_ ?_; refine r_ (by exact s_load_blk rfl z_2 a10_2) ?_))
   (first|refine u_ ?_|(refine v_ ?_; refine gl_callp rfl (plainR_ct r.code 93 (by omega)) (fun _ _ _ => trivial) rfl ?_; rw [← hq5]))
   (first | refine gl_guard_no rfl rfl rfl rfl rfl rfl rfl ?_ | (refine v_ ?_; refine f_ z_4 ?_))
   refine f_ z_4 ?_
   refine m_ ?_
   (first | refine gl_guard_no rfl rfl rfl rfl rfl rfl rfl ?_ | (refine v_ ?_; refine f_ z_1 ?_))
   (first | refine gl_guard_no rfl rfl rfl rfl rfl rfl rfl ?_ | (refine v_ ?_; refine r_ (by exact s_load_blk rfl z_2 a10_1) ?_))
   (first | refine gl_guard_no rfl rfl rfl rfl rfl rfl rfl ?_ | (refine v_ ?_; refine f_ ((s_eql_str rfl rfl).eb hq6) ?_))
   (first | refine gl_guard_no rfl rfl rfl rfl rfl rfl rfl ?_ | (refine v_ ?_; refine m_ ?_))
   (first|refine u_ ?_|(refine v_ ?_; refine f_ z_1 ?_))
   (first|refine u_ ?_|(refine v_ ?_; refine r_ (by exact s_load_blk rfl z_2 a10_0) ?_))
   (first|refine u_ ?_|(refine v_ ?_; refine f_ ((s_lss rfl rfl).eb hq7) ?_))
   (first|refine u_ ?_|(refine v_ ?_; refine m_ ?_))
   (first|refine u_ ?_|(refine v_ ?_; refine f_ z_1 ?_))
   (first|refine u_ ?_|(refine v_ ?_; refine r_ (by exact s_load_blk rfl z_2 a10_1) ?_))
   (first|refine u_ ?_|(refine v_ ?_; refine gl_callp rfl (tagR_ct r.tag (by omega)) (fun _ _ _ => trivial) rfl ?_; rw [← hq8]))
   (first|refine u_ ?_|(refine v_ ?_; refine f_ z_4 ?_))
   (first | refine gl_guard_no rfl rfl rfl rfl rfl rfl rfl ?_ | (refine v_ ?_; refine f_ z_4 ?_))
   refine f_ z_4 ?_
   refine a_ ?_
   refine gl_nil ?_
   repeat refine y_ ?_)
  all_goals exact at_cut j_ (fun w hw => hw.drop)
 repeat refine x_ ?_
 refine f_ z_1 ?_
 refine r_ (by exact s_load_blk rfl z_2 a10_2) ?_
 refine f_ ((s_neq_str rfl rfl).eq (congrArg (fun b => Value.bool (!b)) hq4.symm)) ?_
 repeat refine n_ ?_
 cases q4 with
 | false =>
  have hc : r.code ≠ [] := of_decide_eq_false hq4.symm
  have ec : codeP r.code = 91 :: r.code ++ [93, 32] := by unfold codeP; rw [if_neg hc]
  rw [ec]
  repeat refine x_ ?_
  refine f_ z_1 ?_
  refine r_ (by exact s_load_blk rfl z_2 a10_1) ?_
  refine f_ (s_add_str rfl rfl (by simp only [List.length_cons, List.length_nil]; omega)) ?_
  refine m_ ?_
  refine f_ (s_add_str rfl rfl (by simp only [List.length_append, List.length_cons, List.length_nil]; omega)) ?_
  refine f_ (s_add_str rfl rfl (by simp only [List.length_append, List.length_cons, List.length_nil]; omega)) ?_
  refine f_ z_1 ?_
  refine r_ (by exact s_load_blk rfl z_2 a10_2) ?_
  refine f_ (s_add_str rfl rfl (by simp only [List.length_append, List.length_cons, List.length_nil]; omega)) ?_
  refine f_ (s_add_str rfl rfl (by simp only [List.length_append, List.length_cons, List.length_nil]; omega)) ?_
  refine f_ z_1 ?_
  refine r_ (by exact s_load_blk rfl z_2 a10_3) ?_
  refine f_ ((s_add_str rfl rfl (by simp only [List.length_append, List.length_cons, List.length_nil]; omega)).eq (v' := B (r.tag ++ 32 :: W ++ 32 :: (91 :: r.code ++ [93, 32]) ++ r.text)) z_10) ?_
  refine m_ ?_
  refine a_ ?_
  refine a_ ?_
  repeat refine n_ ?_
  refine g_ret ?_
  exact at_end2 rfl rfl rfl [] ⟨rfl, rfl⟩ (fun w hw => hw.dropAll)
 | true =>
  have hc : r.code = [] := of_decide_eq_true hq4.symm
  have ec : codeP r.code = [] := by unfold codeP; rw [if_pos hc]
  rw [ec]
  repeat refine x_ ?_
  refine f_ z_1 ?_
  refine r_ (by exact s_load_blk rfl z_2 a10_1) ?_
  refine f_ (s_add_str rfl rfl (by simp only [List.length_cons, List.length_nil]; omega)) ?_
  refine m_ ?_
  refine f_ (s_add_str rfl rfl (by simp only [List.length_append, List.length_cons, List.length_nil]; omega)) ?_
  refine f_ (s_add_str rfl rfl (by simp only [List.length_append, List.length_cons, List.length_nil]; omega)) ?_
  refine f_ z_1 ?_
  refine r_ (by exact s_load_blk rfl z_2 a10_3) ?_
  refine f_ ((s_add_str rfl rfl (by simp only [List.length_append, List.length_cons, List.length_nil]; omega)).eq (v' := B (r.tag ++ 32 :: W ++ 32 :: [] ++ r.text)) z_10) ?_
  refine m_ ?_
  refine a_ ?_
  refine a_ ?_
  repeat refine n_ ?_
  refine g_ret ?_
  exact at_end2 rfl rfl rfl [] ⟨rfl, rfl⟩ (fun w hw => hw.dropAll)
theorem rdN {F : Snap} {w : World} {H : List As} {a : Option Addr} {l : List Nat} (hw : Hp F w H) (r : RdS F.heap a (nV l)) {q i : Nat} (h : q = i) (hi : i < l.length) : PeekC (hp w) (addO a q) [.int .u64 (l.getD i 0 : Nat)] :=
 peek_rd hw r z_10 (fun j u hu => by
  match j, hu with
  | 0, hu =>
   simp at hu; subst hu h
   simp [nV, hi])
theorem rdN_some {h : Heap} {a : Option Addr} {l : List Nat} {i : Nat} (r : RdS h a (nV l)) (hi : i < l.length) : ∃ ad, a = some ad := by
 obtain ⟨ad, e, _⟩ := r (by intro e; have := congrArg List.length e; rw [nV_len] at this; simp at this; subst this; simp at hi)
 exact ⟨ad, e⟩
theorem getN_mem {l : List Nat} {k : Nat} (hk : k < l.length) : l.getD k 0 ∈ l := by
 rw [List.getD_eq_getElem?_getD, List.getElem?_eq_getElem hk]
 exact List.getElem_mem hk
theorem takeN {l : List Nat} {k : Nat} (hk : k < l.length) : l.take (k + 1) = l.take k ++ [l.getD k 0] := by
 rw [List.take_add_one, List.getD_eq_getElem?_getD, List.getElem?_eq_getElem hk]
 rfl
theorem numsP_len : ∀ {l : List Nat}, (∀ n ∈ l, n ≤ 18446744073709551615) → (numsP l).length ≤ l.length * 21
 | [], _ => by simp [numsP]
 | a :: t, h => by
  have h1 := digS_len64 (h a z_10)
  have h2 := numsP_len (l := t) (fun n hn => h n (by simp [hn]))
  unfold numsP at h2 ⊢
  simp only [List.flatMap_cons, List.length_append, List.length_cons]
  omega
theorem okR_13 {r : RR} (hk : r.kind = 13) : okR r = (onlyB r false false false false true false false false true && decide (r.nums.length ≤ 64) && decide (r.mod ≤ great) && r.nums.all (fun n => decide (n ≤ great))) := by
 unfold okR
 rw [hk]
 rfl
theorem textQ_13 {r : RR} (hk : r.kind = 13) : textQ r = 42 :: 32 :: wSearch ++ numsP (r.nums.take 65) ++ modP r.mod := by
 unfold textQ
 rw [if_pos hk]
set_option maxRecDepth 8000 in
theorem textR_13 (r : RR) (x : RL) (hz : SzR r) (hv : r.values = x.vs.map VM.v) (hk : r.kind = 13) : Pu Tryz.prog 17 [rrA r x] (RRd r x) (.tuple #[B (textQ r), .bool (okR r)]) := by
 rw [okR_13 hk, textQ_13 hk]
 obtain ⟨q1, hq1⟩ : ∃ q, q = onlyB r false false false false true false false false true := ⟨_, rfl⟩
 obtain ⟨q2, hq2⟩ : ∃ q, q = decide ((r.nums.length : Int) ≤ 64) := ⟨_, rfl⟩
 obtain ⟨q3, hq3⟩ : ∃ q, q = decide ((r.mod : Int) ≤ 9223372036854775807) := ⟨_, rfl⟩
 have e1 : decide (r.nums.length ≤ 64) = q2 := by rw [hq2]; exact decide_eq_decide.mpr (by omega)
 have e2 : decide (r.mod ≤ great) = q3 := by rw [hq3]; exact decide_eq_decide.mpr (by unfold great; omega)
 rw [← hq1, e1, e2]
 have hm := hz.mod
 have hns := hz.ns
 have hnl := hz.nl
 unfold big at hnl
 have hdm := digS_len64 hm
 refine ct_enter 269 Tryz.func17 rfl rfl rfl ?_
 intro F hrr
 have hrn := hrr.nums
 repeat refine x_ ?_
 refine gl_boxA rfl rfl ?_; intro g1
 refine a_ ?_
 refine a_ ?_
 repeat refine x_ ?_
 refine f_ z_1 ?_
 refine r_ (by exact s_load_blk rfl z_2 a10_0) ?_
 repeat refine x_ ?_
 refine f_ ((s_eql rfl rfl).eq (v' := .bool false) (congrArg Value.bool (decide_eq_false (by omega)))) ?_
 refine a_ ?_
 repeat refine x_ ?_
 refine f_ ((s_eql rfl rfl).eq (v' := .bool false) (congrArg Value.bool (decide_eq_false (by omega)))) ?_
 refine a_ ?_
 repeat refine x_ ?_
 refine f_ ((s_eql rfl rfl).eq (v' := .bool false) (congrArg Value.bool (decide_eq_false (by omega)))) ?_
 refine a_ ?_
 repeat refine x_ ?_
 refine f_ ((s_eql rfl rfl).eq (v' := .bool false) (congrArg Value.bool (decide_eq_false (by omega)))) ?_
 refine a_ ?_
 repeat refine x_ ?_
 refine f_ ((s_eql rfl rfl).eq (v' := .bool false) (congrArg Value.bool (decide_eq_false (by omega)))) ?_
 refine a_ ?_
 repeat refine x_ ?_
 refine f_ ((s_eql rfl rfl).eq (v' := .bool false) (congrArg Value.bool (decide_eq_false (by omega)))) ?_
 refine a_ ?_
 repeat refine x_ ?_
 refine f_ ((s_eql rfl rfl).eq (v' := .bool false) (congrArg Value.bool (decide_eq_false (by omega)))) ?_
 refine a_ ?_
 repeat refine x_ ?_
 refine f_ ((s_eql rfl rfl).eq (v' := .bool false) (congrArg Value.bool (decide_eq_false (by omega)))) ?_
 refine a_ ?_
 repeat refine x_ ?_
 refine f_ ((s_eql rfl rfl).eq (v' := .bool false) (congrArg Value.bool (decide_eq_false (by omega)))) ?_
 refine a_ ?_
 repeat refine x_ ?_
 refine f_ ((s_eql rfl rfl).eq (v' := .bool false) (congrArg Value.bool (decide_eq_false (by omega)))) ?_
 refine a_ ?_
 repeat refine x_ ?_
 refine f_ ((s_eql rfl rfl).eq (v' := .bool false) (congrArg Value.bool (decide_eq_false (by omega)))) ?_
 refine a_ ?_
 repeat refine x_ ?_
 refine f_ ((s_eql rfl rfl).eq (v' := .bool false) (congrArg Value.bool (decide_eq_false (by omega)))) ?_
 refine a_ ?_
 repeat refine x_ ?_
 refine f_ ((s_eql rfl rfl).eq (v' := .bool true) (congrArg Value.bool (decide_eq_true hk))) ?_
 refine a_ ?_
 repeat refine x_ ?_
 refine a_ ?_
 repeat refine n_ ?_
 obtain ⟨b, hb⟩ : ∃ b, b = (q1 && q2 && q3) := ⟨_, rfl⟩
 rw [← hb]
 repeat refine y_ ?_
 refine g_cutK [(1, Ptr g1), (8, B (42 :: 32 :: wSearch)), (9, .bool b)] [blkR g1 r x] ?_ ?_
 ·rw [hb]
  cases q1 <;> cases q2
  all_goals (
   repeat refine x_ ?_
   refine r_ ((s_load_blkW rfl z_2 z_7).eq (v' := rrA r x) rfl) ?_
   refine gl_callp rfl (onlyR' r x hv [108, 109] false false false false true false false false true (by decide)) (fun _ _ _ => trivial) rfl ?_; rw [← hq1]
   refine m_ ?_
   (first | refine gl_guard_no rfl rfl rfl rfl rfl rfl rfl ?_ | (refine v_ ?_; refine f_ z_1 ?_))
   (first | refine gl_guard_no rfl rfl rfl rfl rfl rfl rfl ?_ | (refine v_ ?_; refine r_ (by exact s_load_blk rfl z_2 a10_5) ?_))
   (first | refine gl_guard_no rfl rfl rfl rfl rfl rfl rfl ?_ | (refine v_ ?_; refine f_ (s_len_sl rfl) ?_))
   (first | refine gl_guard_no rfl rfl rfl rfl rfl rfl rfl ?_ | (refine v_ ?_; refine f_ ((s_leq rfl rfl).eb hq2) ?_))
   refine f_ z_4 ?_
   refine m_ ?_
   (first | refine gl_guard_no rfl rfl rfl rfl rfl rfl rfl ?_ | (refine v_ ?_; refine f_ z_1 ?_))
   (first | refine gl_guard_no rfl rfl rfl rfl rfl rfl rfl ?_ | (refine v_ ?_; refine r_ (by exact s_load_blk rfl z_2 a10_6) ?_))
   (first | refine gl_guard_no rfl rfl rfl rfl rfl rfl rfl ?_ | (refine v_ ?_; refine f_ ((s_leq rfl rfl).eb hq3) ?_))
   refine f_ z_4 ?_
   refine a_ ?_
   refine gl_nil ?_
   repeat refine y_ ?_)
  all_goals exact at_cut j_ i_
 repeat refine x_ ?_
 refine a_ ?_
 repeat refine n_ ?_
 refine g_loop (ι := Nat) (fun j => j ≤ r.nums.length ∧ j ≤ 65) (fun j => [(1, Ptr g1), (8, B (42 :: 32 :: wSearch ++ numsP (r.nums.take j))), (9, .bool (b && (r.nums.take j).all (fun n => decide (n ≤ great)))), (10, .int .i64 (j : Nat))]) (fun _ => [blkR g1 r x]) (fun j => r.nums.length - j) 0 ⟨by omega, by omega⟩ ?_ ?_ ?_
 ·simp only [List.take_zero, List.all_nil, Bool.and_true]
  (repeat (first | exact Sub.nil _ | refine Sub.cons rfl ?_))
 ·intro w hw; exact hw
 ·rintro j ⟨hj, hj65⟩
  obtain ⟨p1, hp1⟩ : ∃ q, q = decide ((j : Int) < (r.nums.length : Nat)) := ⟨_, rfl⟩
  obtain ⟨p2, hp2⟩ : ∃ q, q = decide ((j : Int) < 65) := ⟨_, rfl⟩
  have hnp : (numsP (r.nums.take j)).length ≤ 2000 := by
   have h1 := numsP_len (l := r.nums.take j) (fun n hn => hns n (List.mem_of_mem_take hn))
   rw [List.length_take] at h1
   have h2 : min j r.nums.length ≤ 65 := by omega
   have h3 := Nat.mul_le_mul_right 21 h2
   omega
  repeat refine y_ ?_
  refine g_cutK [(1, Ptr g1), (8, B (42 :: 32 :: wSearch ++ numsP (r.nums.take j))), (9, .bool (b && (r.nums.take j).all (fun n => decide (n ≤ great)))), (10, .int .i64 (j : Nat)), (212, .bool (p1 && p2))] [blkR g1 r x] ?_ ?_
  ·cases p1
   all_goals (
    repeat refine x_ ?_
    refine m_ ?_
    refine f_ z_1 ?_
    refine r_ (by exact s_load_blk rfl z_2 a10_5) ?_
    refine f_ (s_len_sl rfl) ?_
    refine f_ ((s_lss rfl rfl).eb hp1) ?_
    refine m_ ?_
    (first | refine gl_guard_no rfl rfl rfl rfl rfl rfl rfl ?_ | (refine v_ ?_; refine m_ ?_))
    (first | refine gl_guard_no rfl rfl rfl rfl rfl rfl rfl ?_ | (refine v_ ?_; refine f_ ((s_lss rfl rfl).eb hp2) ?_))
    refine f_ z_4 ?_
    refine gl_nil ?_
    repeat refine y_ ?_)
   all_goals exact at_cut j_ i_
  repeat refine y_ ?_
  refine g_cond rfl (fun h => ?_) (fun h => ?_)
  ·simp only [Bool.and_eq_true] at h
   have hj' : j < r.nums.length := by have := of_decide_eq_true (hp1.symm.trans h.1); omega
   have hj5 : j < 65 := by have := of_decide_eq_true (hp2.symm.trans h.2); omega
   have hsome := rdN_some hrn hj'
   have htk := takeN hj'
   have hng := hns _ (getN_mem hj')
   have hdl := digS_len64 hng
   obtain ⟨q4, hq4⟩ : ∃ q, q = decide (((r.nums.getD j 0 : Nat) : Int) ≤ 9223372036854775807) := ⟨_, rfl⟩
   have hal : (r.nums.take (j + 1)).all (fun n => decide (n ≤ great)) = ((r.nums.take j).all (fun n => decide (n ≤ great)) && q4) := by
    rw [htk, List.all_append, hq4]
    congr 1
    simp only [List.all_cons, List.all_nil, Bool.and_true]
    exact decide_eq_decide.mpr (by unfold great; omega)
   have hnp2 : numsP (r.nums.take (j + 1)) = numsP (r.nums.take j) ++ 32 :: digS (r.nums.getD j 0) := by rw [htk, nums_snoc]
   repeat refine x_ ?_
   refine m_ ?_
   refine f_ (s_add_str rfl rfl (by simp only [List.length_append, List.length_cons, List.length_nil]; omega)) ?_
   refine f_ z_1 ?_
   refine r_ (by exact s_load_blk rfl z_2 a10_5) ?_
   refine m_ ?_
   refine f_ (s_indexAddr rfl hsome rfl (by omega)) ?_
   refine r_ (s_load1 rfl (fun w hw => rdN hw hrn (i := j) (by omega) hj')) ?_
   refine gl_callp rfl (digitsR_ct (r.nums.getD j 0) hng) (fun _ _ _ => trivial) rfl ?_
   refine f_ ((s_add_str rfl rfl (by simp only [List.length_append, List.length_cons, List.length_nil]; omega)).eq (v' := B (42 :: 32 :: wSearch ++ numsP (r.nums.take (j + 1)))) (by rw [hnp2]; simp)) ?_
   refine a_ ?_
   repeat refine n_ ?_
   obtain ⟨b2, hb2⟩ : ∃ c, c = (b && (r.nums.take j).all (fun n => decide (n ≤ great))) := ⟨_, rfl⟩
   rw [← hb2]
   repeat refine y_ ?_
   refine g_cutK [(1, Ptr g1), (8, B (42 :: 32 :: wSearch ++ numsP (r.nums.take (j + 1)))), (9, .bool (b2 && q4)), (10, .int .i64 (j : Nat))] [blkR g1 r x] ?_ ?_
   ·cases b2
    all_goals (
     repeat refine x_ ?_
     refine m_ ?_
     refine m_ ?_
     (first | refine gl_guard_no rfl rfl rfl rfl rfl rfl rfl ?_ | (refine v_ ?_; refine f_ z_1 ?_))
     (first | refine gl_guard_no rfl rfl rfl rfl rfl rfl rfl ?_ | (refine v_ ?_; refine r_ (by exact s_load_blk rfl z_2 a10_5) ?_))
     (first | refine gl_guard_no rfl rfl rfl rfl rfl rfl rfl ?_ | (refine v_ ?_; refine m_ ?_))
     (first | refine gl_guard_no rfl rfl rfl rfl rfl rfl rfl ?_ | (refine v_ ?_; refine f_ (s_indexAddr rfl hsome rfl (by omega)) ?_))
     (first | refine gl_guard_no rfl rfl rfl rfl rfl rfl rfl ?_ | (refine v_ ?_; refine r_ (s_load1 rfl (fun w hw => rdN hw hrn (i := j) (by omega) hj')) ?_))
     (first | refine gl_guard_no rfl rfl rfl rfl rfl rfl rfl ?_ | (refine v_ ?_; refine f_ ((s_leq rfl rfl).eb hq4) ?_))
     refine f_ z_4 ?_
     refine a_ ?_
     refine gl_nil ?_
     repeat refine y_ ?_)
    all_goals exact at_cut j_ i_
   repeat refine x_ ?_
   refine m_ ?_
   refine f_ (s_add_i64 rfl rfl (by omega)) ?_
   refine a_ ?_
   repeat refine n_ ?_
   refine at_next (j + 1) ⟨by omega, by omega⟩ (by omega) ?_ ?_
   ·rw [hal, ← Bool.and_assoc, ← hb2]
    (repeat (first | exact Sub.nil _ | refine Sub.cons rfl ?_))
   ·intro w hw; exact hw
  ·have htk : r.nums.take j = r.nums.take 65 := by
    rcases Nat.lt_or_ge j r.nums.length with h5 | h5
    ·rcases Nat.lt_or_ge j 65 with h6 | h6
     ·exfalso
      have a1 : p1 = true := hp1.trans (decide_eq_true (by omega))
      have a2 : p2 = true := hp2.trans (decide_eq_true (by omega))
      rw [a1, a2] at h
      cases h
     ·rw [show j = 65 by omega]
    ·rw [List.take_of_length_le (by omega), List.take_of_length_le (by omega)]
   have hall : (b && (r.nums.take j).all (fun n => decide (n ≤ great))) = (b && r.nums.all (fun n => decide (n ≤ great))) := by
    rw [hb, htk]
    cases hq : q2 with
    | false => cases q1 <;> simp
    | true =>
     have := of_decide_eq_true (hq2.symm.trans hq)
     rw [List.take_of_length_le (by omega)]
   obtain ⟨z, hzz⟩ : ∃ z, z = (b && (r.nums.take j).all (fun n => decide (n ≤ great))) := ⟨_, rfl⟩
   repeat refine y_ ?_
   rw [← hall, ← hzz]
   rw [← htk]
   repeat refine x_ ?_
   refine f_ z_1 ?_
   refine r_ (by exact s_load_blk rfl z_2 a10_6) ?_
   refine f_ ((s_gtr rfl rfl).eq (v' := .bool (decide (0 < r.mod))) (congrArg Value.bool (decide_eq_decide.mpr (show ((r.mod : Nat) : Int) > 0 ↔ 0 < r.mod by omega)))) ?_
   repeat refine n_ ?_
   refine g_cond rfl (fun h7 => ?_) (fun h7 => ?_)
   ·have hm0 := of_decide_eq_true h7
    have em : modP r.mod = 32 :: wModseq ++ digS r.mod ++ [41] := by unfold modP; rw [if_neg (by omega)]
    rw [em]
    repeat refine x_ ?_
    refine m_ ?_
    refine f_ (s_add_str rfl rfl (by simp only [List.length_append, List.length_cons, List.length_nil]; omega)) ?_
    refine f_ z_1 ?_
    refine r_ (by exact s_load_blk rfl z_2 a10_6) ?_
    refine gl_callp rfl (digitsR_ct r.mod hm) (fun _ _ _ => trivial) rfl ?_
    refine f_ (s_add_str rfl rfl (by simp only [List.length_append, List.length_cons, List.length_nil]; omega)) ?_
    refine f_ ((s_add_str rfl rfl (by simp only [List.length_append, List.length_cons, List.length_nil]; omega)).eq (v' := B (42 :: 32 :: wSearch ++ numsP (r.nums.take j) ++ (32 :: wModseq ++ digS r.mod ++ [41]))) z_10) ?_
    refine a_ ?_
    repeat refine x_ ?_
    refine m_ ?_
    refine m_ ?_
    refine a_ ?_
    refine a_ ?_
    repeat refine n_ ?_
    refine g_ret ?_
    exact at_end2 rfl rfl rfl [] ⟨rfl, rfl⟩ (fun w hw => hw.dropAll)
   ·have hm0 := of_decide_eq_false h7
    have em : modP r.mod = [] := by unfold modP; rw [if_pos (by omega)]
    rw [em, List.append_nil]
    repeat refine x_ ?_
    refine m_ ?_
    refine m_ ?_
    refine a_ ?_
    refine a_ ?_
    repeat refine n_ ?_
    refine g_ret ?_
    exact at_end2 rfl rfl rfl [] ⟨rfl, rfl⟩ (fun w hw => hw.dropAll)
theorem textR_ct (r : RR) (x : RL) (hz : SzR r) (hv : r.values = x.vs.map VM.v) : Pu Tryz.prog 17 [rrA r x] (RRd r x) (.tuple #[B (textQ r), .bool (okR r)]) := by
 by_cases h : 1 ≤ r.kind ∧ r.kind ≤ 14
 ·by_cases h4 : r.kind ≤ 4
  ·exact textR_s r x hz hv ⟨h.1, h4⟩
  have c : r.kind = 5 ∨ r.kind = 6 ∨ r.kind = 7 ∨ r.kind = 8 ∨ r.kind = 9 ∨ r.kind = 10 ∨ r.kind = 11 ∨ r.kind = 12 ∨ r.kind = 13 ∨ r.kind = 14 := by omega
  rcases c with c | c | c | c | c | c | c | c | c | c
  ·exact textR_5 r x hz hv c
  ·exact textR_6 r x hz hv c
  ·exact textR_7 r x hz hv c
  ·exact textR_8 r x hz hv c
  ·exact textR_9 r x hz hv c
  ·exact textR_10 r x hz hv c
  ·exact textR_11 r x hz hv c
  ·exact textR_12 r x hz hv c
  ·exact textR_13 r x hz hv c
  ·exact textR_14 r x hz hv c
 ·exact textR_x r x h
end Go.Proofs.YtgllpcggdcknaaaGreatDoor.Rp
namespace Go.Proofs.YtgllpcggdcknaaaGreatDoor.Rp
open Go Go.Sl
instance decRV : DecidableEq RV := fun a b => decidable_of_iff (a.kind = b.kind ∧ a.n = b.n ∧ a.flags = b.flags ∧ a.text = b.text ∧ a.part = b.part ∧ a.fr = b.fr) (by cases a; cases b; simp)
instance decRR : DecidableEq RR := fun a b => decidable_of_iff (a.kind = b.kind ∧ a.tag = b.tag ∧ a.code = b.code ∧ a.text = b.text ∧ a.n = b.n ∧ a.nums = b.nums ∧ a.mod = b.mod ∧ a.flags = b.flags ∧ a.box = b.box ∧ a.values = b.values) (by cases a; cases b; simp)
theorem RR.ext' {a b : RR} (h1 : a.kind = b.kind) (h2 : a.tag = b.tag) (h3 : a.code = b.code) (h4 : a.text = b.text) (h5 : a.n = b.n) (h6 : a.nums = b.nums) (h7 : a.mod = b.mod) (h8 : a.flags = b.flags) (h9 : a.box = b.box) (h10 : a.values = b.values) : a = b := by
  cases a; cases b; simp at *; simp [*]
theorem RV.ext' {a b : RV} (h1 : a.kind = b.kind) (h2 : a.n = b.n) (h3 : a.flags = b.flags) (h4 : a.text = b.text) (h5 : a.part = b.part) (h6 : a.fr = b.fr) : a = b := by
  cases a; cases b; simp at *; simp [*]
theorem sca9 (q1 q2 q3 q4 q5 q6 q7 q8 q9 : Bool) : (q1 = false) ∨ (q1 = true ∧ q2 = false) ∨ (q1 = true ∧ q2 = true ∧ q3 = false) ∨ (q1 = true ∧ q2 = true ∧ q3 = true ∧ q4 = false) ∨ (q1 = true ∧ q2 = true ∧ q3 = true ∧ q4 = true ∧ q5 = false) ∨ (q1 = true ∧ q2 = true ∧ q3 = true ∧ q4 = true ∧ q5 = true ∧ q6 = false) ∨ (q1 = true ∧ q2 = true ∧ q3 = true ∧ q4 = true ∧ q5 = true ∧ q6 = true ∧ q7 = false) ∨ (q1 = true ∧ q2 = true ∧ q3 = true ∧ q4 = true ∧ q5 = true ∧ q6 = true ∧ q7 = true ∧ q8 = false) ∨ (q1 = true ∧ q2 = true ∧ q3 = true ∧ q4 = true ∧ q5 = true ∧ q6 = true ∧ q7 = true ∧ q8 = true ∧ q9 = false) ∨ (q1 = true ∧ q2 = true ∧ q3 = true ∧ q4 = true ∧ q5 = true ∧ q6 = true ∧ q7 = true ∧ q8 = true ∧ q9 = true) := by
  cases q1 with
  | false => simp
  | true =>
  cases q2 with
  | false => simp
  | true =>
  cases q3 with
  | false => simp
  | true =>
  cases q4 with
  | false => simp
  | true =>
  cases q5 with
  | false => simp
  | true =>
  cases q6 with
  | false => simp
  | true =>
  cases q7 with
  | false => simp
  | true =>
  cases q8 with
  | false => simp
  | true =>
  cases q9 with
  | false => simp
  | true =>
  simp
theorem sca6 (q1 q2 q3 q4 q5 q6 : Bool) : (q1 = false) ∨ (q1 = true ∧ q2 = false) ∨ (q1 = true ∧ q2 = true ∧ q3 = false) ∨ (q1 = true ∧ q2 = true ∧ q3 = true ∧ q4 = false) ∨ (q1 = true ∧ q2 = true ∧ q3 = true ∧ q4 = true ∧ q5 = false) ∨ (q1 = true ∧ q2 = true ∧ q3 = true ∧ q4 = true ∧ q5 = true ∧ q6 = false) ∨ (q1 = true ∧ q2 = true ∧ q3 = true ∧ q4 = true ∧ q5 = true ∧ q6 = true) := by
  cases q1 with
  | false => simp
  | true =>
  cases q2 with
  | false => simp
  | true =>
  cases q3 with
  | false => simp
  | true =>
  cases q4 with
  | false => simp
  | true =>
  cases q5 with
  | false => simp
  | true =>
  cases q6 with
  | false => simp
  | true =>
  simp
theorem getN_ext {l m : List Nat} (hlen : l.length = m.length) (h : ∀ i, i < l.length → l.getD i 0 = m.getD i 0) : l = m := by
  apply List.ext_getElem hlen
  intro i h1 h2
  have := h i h1
  rw [List.getD_eq_getElem?_getD, List.getD_eq_getElem?_getD, List.getElem?_eq_getElem h1, List.getElem?_eq_getElem h2] at this
  exact this
theorem getVM_ext {l m : List VM} (hlen : l.length = m.length) (h : ∀ i, i < l.length → (l.getD i VM0).v = (m.getD i VM0).v) : l.map VM.v = m.map VM.v := by
  apply List.ext_getElem (by simpa using hlen)
  intro i h1 h2
  rw [List.length_map] at h1 h2
  have := h i h1
  rw [List.getD_eq_getElem?_getD, List.getD_eq_getElem?_getD, List.getElem?_eq_getElem h1, List.getElem?_eq_getElem h2] at this
  simpa using this
structure SzC (r : RR) : Prop where
  nl : r.nums.length ≤ big
  fl : r.flags.length ≤ big
  vl : r.values.length ≤ big
  vs : ∀ v ∈ r.values, v.flags.length ≤ big
theorem SzR.c {r : RR} (h : SzR r) : SzC r := ⟨h.nl, h.fl, h.vl, fun v hv => (h.vs v hv).fl⟩
set_option maxRecDepth 8000 in
set_option maxHeartbeats 1000000 in
theorem SameR_ct (r s : RR) (x y : RL) (hz : SzC r) : Pu Tryz.prog 11 [rrA r x, rrA s y] (fun h => RRd r x h ∧ RRd s y h) (.bool (decide (r = s))) := by
  have hzn := hz.nl
  have hzf := hz.fl
  have hzl := hz.vl
  have hzv := hz.vs
  unfold big at hzn hzf hzl hzv
  obtain ⟨q1, hq1⟩ : ∃ q, q = decide (r.kind = s.kind) := ⟨_, rfl⟩
  obtain ⟨q2, hq2⟩ : ∃ q, q = decide (r.tag = s.tag) := ⟨_, rfl⟩
  obtain ⟨q3, hq3⟩ : ∃ q, q = decide (r.code = s.code) := ⟨_, rfl⟩
  obtain ⟨q4, hq4⟩ : ∃ q, q = decide (r.text = s.text) := ⟨_, rfl⟩
  obtain ⟨q5, hq5⟩ : ∃ q, q = decide ((r.n : Int) = s.n) := ⟨_, rfl⟩
  obtain ⟨q6, hq6⟩ : ∃ q, q = decide (r.box = s.box) := ⟨_, rfl⟩
  obtain ⟨q7, hq7⟩ : ∃ q, q = decide ((r.mod : Int) = s.mod) := ⟨_, rfl⟩
  obtain ⟨q8, hq8⟩ : ∃ q, q = decide ((r.nums.length : Int) = s.nums.length) := ⟨_, rfl⟩
  obtain ⟨q9, hq9⟩ : ∃ q, q = decide ((x.vs.length : Int) = y.vs.length) := ⟨_, rfl⟩
  obtain ⟨q10, hq10⟩ : ∃ q, q = decide (r.flags = s.flags) := ⟨_, rfl⟩
  refine ct_enter 158 Tryz.func11 rfl rfl rfl ?_
  intro F hr
  have hra := hr.1
  have hrb := hr.2
  have hva := hra.vals
  have hvb := hrb.vals
  have hxl : x.vs.length ≤ 1000000000000 := by have := congrArg List.length hva; rw [List.length_map] at this; omega
  obtain ⟨all, hall⟩ : ∃ b, b = (q1 && q2 && q3 && q4 && q5 && q6 && q7 && q8 && q9 && q10) := ⟨_, rfl⟩
  have hne : all = false → r ≠ s := by
    rintro h rfl
    have hl : x.vs.length = y.vs.length := by have := congrArg List.length (hva.symm.trans hvb); simpa using this
    rw [hall, hq1, hq2, hq3, hq4, hq5, hq6, hq7, hq8, hq9, hq10, hl] at h
    simp at h
  have heq : all = true → (r.kind = s.kind ∧ r.tag = s.tag ∧ r.code = s.code ∧ r.text = s.text ∧ r.n = s.n ∧ r.box = s.box ∧ r.mod = s.mod ∧ r.nums.length = s.nums.length ∧ x.vs.length = y.vs.length ∧ r.flags = s.flags) := by
    intro h
    rw [hall, hq1, hq2, hq3, hq4, hq5, hq6, hq7, hq8, hq9, hq10] at h
    simp only [Bool.and_eq_true, decide_eq_true_eq] at h
    obtain ⟨⟨⟨⟨⟨⟨⟨⟨⟨a, b⟩, c⟩, d⟩, e⟩, f⟩, g⟩, i⟩, j⟩, k⟩ := h
    exact ⟨a, b, c, d, by omega, f, by omega, by omega, by omega, k⟩
  repeat refine x_ ?_
  refine gl_boxA rfl rfl ?_; intro g2
  refine gl_boxA rfl rfl ?_; intro g3
  refine a_ ?_
  repeat refine n_ ?_
  refine g_cutK [(2, Ptr g2), (3, Ptr g3), (81, .bool (!all))] [blkR g3 s y, blkR g2 r x] ?_ ?_
  · rw [hall]
    rcases sca9 q1 q2 q3 q4 q5 q6 q7 q8 q9 with rfl | ⟨rfl, rfl⟩ | ⟨rfl, rfl, rfl⟩ | ⟨rfl, rfl, rfl, rfl⟩ | ⟨rfl, rfl, rfl, rfl, rfl⟩ | ⟨rfl, rfl, rfl, rfl, rfl, rfl⟩ | ⟨rfl, rfl, rfl, rfl, rfl, rfl, rfl⟩ | ⟨rfl, rfl, rfl, rfl, rfl, rfl, rfl, rfl⟩ | ⟨rfl, rfl, rfl, rfl, rfl, rfl, rfl, rfl, rfl⟩ | ⟨rfl, rfl, rfl, rfl, rfl, rfl, rfl, rfl, rfl⟩
    all_goals (
      repeat refine x_ ?_
      refine f_ z_1 ?_
      refine r_ (by exact s_load_blk rfl z_2 a10_0) ?_
      refine f_ z_1 ?_
      refine r_ (by exact s_load_blk rfl z_2 a10_0) ?_
      refine f_ ((s_neq rfl rfl).eq (congrArg (fun b => Value.bool (!b)) hq1.symm)) ?_
      refine m_ ?_
      (first | refine gl_guard_no rfl rfl rfl rfl rfl rfl rfl ?_ | (refine v_ ?_; refine f_ z_1 ?_))
      (first | refine gl_guard_no rfl rfl rfl rfl rfl rfl rfl ?_ | (refine v_ ?_; refine r_ (by exact s_load_blk rfl z_2 a10_1) ?_))
      (first | refine gl_guard_no rfl rfl rfl rfl rfl rfl rfl ?_ | (refine v_ ?_; refine f_ z_1 ?_))
      (first | refine gl_guard_no rfl rfl rfl rfl rfl rfl rfl ?_ | (refine v_ ?_; refine r_ (by exact s_load_blk rfl z_2 a10_1) ?_))
      (first | refine gl_guard_no rfl rfl rfl rfl rfl rfl rfl ?_ | (refine v_ ?_; refine f_ ((s_neq_str rfl rfl).eq (congrArg (fun b => Value.bool (!b)) hq2.symm)) ?_))
      refine f_ z_4 ?_
      refine m_ ?_
      (first | refine gl_guard_no rfl rfl rfl rfl rfl rfl rfl ?_ | (refine v_ ?_; refine f_ z_1 ?_))
      (first | refine gl_guard_no rfl rfl rfl rfl rfl rfl rfl ?_ | (refine v_ ?_; refine r_ (by exact s_load_blk rfl z_2 a10_2) ?_))
      (first | refine gl_guard_no rfl rfl rfl rfl rfl rfl rfl ?_ | (refine v_ ?_; refine f_ z_1 ?_))
      (first | refine gl_guard_no rfl rfl rfl rfl rfl rfl rfl ?_ | (refine v_ ?_; refine r_ (by exact s_load_blk rfl z_2 a10_2) ?_))
      (first | refine gl_guard_no rfl rfl rfl rfl rfl rfl rfl ?_ | (refine v_ ?_; refine f_ ((s_neq_str rfl rfl).eq (congrArg (fun b => Value.bool (!b)) hq3.symm)) ?_))
      refine f_ z_4 ?_
      refine m_ ?_
      (first | refine gl_guard_no rfl rfl rfl rfl rfl rfl rfl ?_ | (refine v_ ?_; refine f_ z_1 ?_))
      (first | refine gl_guard_no rfl rfl rfl rfl rfl rfl rfl ?_ | (refine v_ ?_; refine r_ (by exact s_load_blk rfl z_2 a10_3) ?_))
      (first | refine gl_guard_no rfl rfl rfl rfl rfl rfl rfl ?_ | (refine v_ ?_; refine f_ z_1 ?_))
      (first | refine gl_guard_no rfl rfl rfl rfl rfl rfl rfl ?_ | (refine v_ ?_; refine r_ (by exact s_load_blk rfl z_2 a10_3) ?_))
      (first | refine gl_guard_no rfl rfl rfl rfl rfl rfl rfl ?_ | (refine v_ ?_; refine f_ ((s_neq_str rfl rfl).eq (congrArg (fun b => Value.bool (!b)) hq4.symm)) ?_))
      refine f_ z_4 ?_
      refine m_ ?_
      (first | refine gl_guard_no rfl rfl rfl rfl rfl rfl rfl ?_ | (refine v_ ?_; refine f_ z_1 ?_))
      (first | refine gl_guard_no rfl rfl rfl rfl rfl rfl rfl ?_ | (refine v_ ?_; refine r_ (by exact s_load_blk rfl z_2 a10_4) ?_))
      (first | refine gl_guard_no rfl rfl rfl rfl rfl rfl rfl ?_ | (refine v_ ?_; refine f_ z_1 ?_))
      (first | refine gl_guard_no rfl rfl rfl rfl rfl rfl rfl ?_ | (refine v_ ?_; refine r_ (by exact s_load_blk rfl z_2 a10_4) ?_))
      (first | refine gl_guard_no rfl rfl rfl rfl rfl rfl rfl ?_ | (refine v_ ?_; refine f_ ((s_neq rfl rfl).eq (congrArg (fun b => Value.bool (!b)) hq5.symm)) ?_))
      refine f_ z_4 ?_
      refine m_ ?_
      (first | refine gl_guard_no rfl rfl rfl rfl rfl rfl rfl ?_ | (refine v_ ?_; refine f_ z_1 ?_))
      (first | refine gl_guard_no rfl rfl rfl rfl rfl rfl rfl ?_ | (refine v_ ?_; refine r_ (by exact s_load_blk rfl z_2 a10_8) ?_))
      (first | refine gl_guard_no rfl rfl rfl rfl rfl rfl rfl ?_ | (refine v_ ?_; refine f_ z_1 ?_))
      (first | refine gl_guard_no rfl rfl rfl rfl rfl rfl rfl ?_ | (refine v_ ?_; refine r_ (by exact s_load_blk rfl z_2 a10_8) ?_))
      (first | refine gl_guard_no rfl rfl rfl rfl rfl rfl rfl ?_ | (refine v_ ?_; refine f_ ((s_neq_str rfl rfl).eq (congrArg (fun b => Value.bool (!b)) hq6.symm)) ?_))
      refine f_ z_4 ?_
      refine m_ ?_
      (first | refine gl_guard_no rfl rfl rfl rfl rfl rfl rfl ?_ | (refine v_ ?_; refine f_ z_1 ?_))
      (first | refine gl_guard_no rfl rfl rfl rfl rfl rfl rfl ?_ | (refine v_ ?_; refine r_ (by exact s_load_blk rfl z_2 a10_6) ?_))
      (first | refine gl_guard_no rfl rfl rfl rfl rfl rfl rfl ?_ | (refine v_ ?_; refine f_ z_1 ?_))
      (first | refine gl_guard_no rfl rfl rfl rfl rfl rfl rfl ?_ | (refine v_ ?_; refine r_ (by exact s_load_blk rfl z_2 a10_6) ?_))
      (first | refine gl_guard_no rfl rfl rfl rfl rfl rfl rfl ?_ | (refine v_ ?_; refine f_ ((s_neq rfl rfl).eq (congrArg (fun b => Value.bool (!b)) hq7.symm)) ?_))
      refine f_ z_4 ?_
      refine m_ ?_
      (first | refine gl_guard_no rfl rfl rfl rfl rfl rfl rfl ?_ | (refine v_ ?_; refine f_ z_1 ?_))
      (first | refine gl_guard_no rfl rfl rfl rfl rfl rfl rfl ?_ | (refine v_ ?_; refine r_ (by exact s_load_blk rfl z_2 a10_5) ?_))
      (first | refine gl_guard_no rfl rfl rfl rfl rfl rfl rfl ?_ | (refine v_ ?_; refine f_ (s_len_sl rfl) ?_))
      (first | refine gl_guard_no rfl rfl rfl rfl rfl rfl rfl ?_ | (refine v_ ?_; refine f_ z_1 ?_))
      (first | refine gl_guard_no rfl rfl rfl rfl rfl rfl rfl ?_ | (refine v_ ?_; refine r_ (by exact s_load_blk rfl z_2 a10_5) ?_))
      (first | refine gl_guard_no rfl rfl rfl rfl rfl rfl rfl ?_ | (refine v_ ?_; refine f_ (s_len_sl rfl) ?_))
      (first | refine gl_guard_no rfl rfl rfl rfl rfl rfl rfl ?_ | (refine v_ ?_; refine f_ ((s_neq rfl rfl).eq (congrArg (fun b => Value.bool (!b)) hq8.symm)) ?_))
      refine f_ z_4 ?_
      refine m_ ?_
      (first | refine gl_guard_no rfl rfl rfl rfl rfl rfl rfl ?_ | (refine v_ ?_; refine f_ z_1 ?_))
      (first | refine gl_guard_no rfl rfl rfl rfl rfl rfl rfl ?_ | (refine v_ ?_; refine r_ (by exact s_load_blk rfl z_2 a10_9) ?_))
      (first | refine gl_guard_no rfl rfl rfl rfl rfl rfl rfl ?_ | (refine v_ ?_; refine f_ (s_len_sl rfl) ?_))
      (first | refine gl_guard_no rfl rfl rfl rfl rfl rfl rfl ?_ | (refine v_ ?_; refine f_ z_1 ?_))
      (first | refine gl_guard_no rfl rfl rfl rfl rfl rfl rfl ?_ | (refine v_ ?_; refine r_ (by exact s_load_blk rfl z_2 a10_9) ?_))
      (first | refine gl_guard_no rfl rfl rfl rfl rfl rfl rfl ?_ | (refine v_ ?_; refine f_ (s_len_sl rfl) ?_))
      (first | refine gl_guard_no rfl rfl rfl rfl rfl rfl rfl ?_ | (refine v_ ?_; refine f_ ((s_neq rfl rfl).eq (congrArg (fun b => Value.bool (!b)) hq9.symm)) ?_))
      refine f_ z_4 ?_
      refine m_ ?_
      (first | refine gl_guard_no rfl rfl rfl rfl rfl rfl rfl ?_ | (refine v_ ?_; refine f_ z_1 ?_))
      (first | refine gl_guard_no rfl rfl rfl rfl rfl rfl rfl ?_ | (refine v_ ?_; refine r_ (by exact s_load_blk rfl z_2 a10_7) ?_))
      (first | refine gl_guard_no rfl rfl rfl rfl rfl rfl rfl ?_ | (refine v_ ?_; refine f_ z_1 ?_))
      (first | refine gl_guard_no rfl rfl rfl rfl rfl rfl rfl ?_ | (refine v_ ?_; refine r_ (by exact s_load_blk rfl z_2 a10_7) ?_))
      (first | refine gl_guard_no rfl rfl rfl rfl rfl rfl rfl ?_ | (refine v_ ?_; refine gl_callp rfl (SameF_ct r.flags s.flags x.fa y.fa x.fc y.fc (by omega)) (fun h hh hb => ⟨hra.flags.le hh, hrb.flags.le hh⟩) rfl ?_; rw [← hq10]))
      (first | refine gl_guard_no rfl rfl rfl rfl rfl rfl rfl ?_ | (refine v_ ?_; refine f_ (s_not rfl) ?_))
      refine f_ z_4 ?_
      refine gl_nil ?_
      repeat refine y_ ?_)
    all_goals exact at_cut j_ i_
  repeat refine y_ ?_
  refine g_cond rfl (fun h => ?_) (fun h => ?_)
  · rw [decide_eq_false (hne (by simpa using h))]
    repeat refine x_ ?_
    refine a_ ?_
    repeat refine n_ ?_
    refine g_ret ?_
    exact at_end1 rfl rfl [] ⟨rfl, rfl⟩ (fun w hw => hw.dropAll)
  obtain ⟨e1, e2, e3, e4, e5, e6, e7, e8, e9, e10⟩ := heq (by simpa using h)
  repeat refine x_ ?_
  refine a_ ?_
  repeat refine n_ ?_
  refine g_loop (ι := Nat) (fun k => k ≤ r.nums.length ∧ ∀ i, i < k → r.nums.getD i 0 = s.nums.getD i 0) (fun k => [(2, Ptr g2), (3, Ptr g3), (5, .int .i64 (k : Nat))]) (fun _ => [blkR g3 s y, blkR g2 r x]) (fun k => r.nums.length - k) 0 ⟨by omega, fun i h => by omega⟩ ?_ ?_ ?_
  · (repeat (first | exact Sub.nil _ | refine Sub.cons rfl ?_))
  · intro w hw; exact hw
  rintro k ⟨hk, hok⟩
  repeat refine x_ ?_
  refine m_ ?_
  refine f_ z_1 ?_
  refine r_ (by exact s_load_blk rfl z_2 a10_5) ?_
  refine f_ (s_len_sl rfl) ?_
  refine f_ (s_lss rfl rfl) ?_
  repeat refine n_ ?_
  refine g_cond rfl (fun h => ?_) (fun h => ?_)
  · have hk' : k < r.nums.length := by simp at h; omega
    have hs1 := rdN_some hra.nums hk'
    have hs2 := rdN_some hrb.nums (i := k) (by omega)
    repeat refine y_ ?_
    refine g_draw ([1, 4, 6, 9], [0, 1, 0, 7, 15, 0, 32, 0, 224, 480, 1023], []) [blkR g3 s y, blkR g2 r x] 11 rfl ?_
    refine w_ 0 rfl z_1 ?_
    (refine ga_read_k 1 rfl (by exact .tail _ (.head _)) (s_load_blk rfl .del a10_5) z_8 rfl rfl rfl z_5 ?_)
    refine w_ 2 rfl (s_move rfl) ?_
    refine w_ 3 rfl (s_indexAddr rfl (by assumption) rfl (by omega)) ?_
    refine ga_readF 4 rfl (s_load1 rfl (fun w hw => rdN hw hra.nums (i := k) (by omega) (by omega))) z_8 rfl rfl rfl z_5 ?_
    refine w_ 5 rfl z_1 ?_
    (refine ga_read_k 6 rfl (by exact .head _) (s_load_blk rfl .del a10_5) z_8 rfl rfl rfl z_5 ?_)
    refine w_ 7 rfl (s_move rfl) ?_
    refine w_ 8 rfl (s_indexAddr rfl (by assumption) rfl (by omega)) ?_
    refine ga_readF 9 rfl (s_load1 rfl (fun w hw => rdN hw hrb.nums (i := k) (by omega) (by omega))) z_8 rfl rfl rfl z_5 ?_
    refine w_ 10 rfl ((s_neq rfl rfl).eq (v' := .bool (!decide (r.nums.getD k 0 = s.nums.getD k 0))) (congrArg (fun b => Value.bool (!b)) (decide_eq_decide.mpr (by omega)))) ?_
    refine ga_done z_5 ?_
    repeat refine y_ ?_
    refine g_cond rfl (fun h2 => ?_) (fun h2 => ?_)
    · have hn : r ≠ s := by rintro rfl; simp at h2
      rw [decide_eq_false hn]
      repeat refine x_ ?_
      refine a_ ?_
      repeat refine n_ ?_
      refine g_ret ?_
      exact at_end1 rfl rfl [] ⟨rfl, rfl⟩ (fun w hw => hw.dropAll)
    · have h3 : r.nums.getD k 0 = s.nums.getD k 0 := by simpa using h2
      repeat refine x_ ?_
      refine m_ ?_
      refine f_ (s_add_i64 rfl rfl (by omega)) ?_
      refine a_ ?_
      repeat refine n_ ?_
      refine at_next (k + 1) ⟨by omega, fun i hi => ?_⟩ (by omega) ?_ ?_
      · rcases Nat.lt_succ_iff_lt_or_eq.1 hi with h4 | rfl
        · exact hok i h4
        · exact h3
      · (repeat (first | exact Sub.nil _ | refine Sub.cons rfl ?_))
      · intro w hw; exact hw
  have hkl : k = r.nums.length := by simp at h; omega
  subst hkl
  have en := getN_ext e8 hok
  repeat refine x_ ?_
  refine a_ ?_
  repeat refine n_ ?_
  refine g_loop (ι := Nat) (fun k => k ≤ x.vs.length ∧ ∀ i, i < k → (x.vs.getD i VM0).v = (y.vs.getD i VM0).v) (fun k => [(2, Ptr g2), (3, Ptr g3), (6, .int .i64 (k : Nat))]) (fun _ => [blkR g3 s y, blkR g2 r x]) (fun k => x.vs.length - k) 0 ⟨by omega, fun i h => by omega⟩ ?_ ?_ ?_
  · (repeat (first | exact Sub.nil _ | refine Sub.cons rfl ?_))
  · intro w hw; exact hw
  rintro k ⟨hk, hokv⟩
  repeat refine x_ ?_
  refine m_ ?_
  refine f_ z_1 ?_
  refine r_ (by exact s_load_blk rfl z_2 a10_9) ?_
  refine f_ (s_len_sl rfl) ?_
  refine f_ (s_lss rfl rfl) ?_
  repeat refine n_ ?_
  refine g_cond rfl (fun h => ?_) (fun h => ?_)
  · have hk' : k < x.vs.length := by simp at h; omega
    have hk2 : k < y.vs.length := by omega
    have hs1 := rdVM_some hra.vs hk'
    have hs2 := rdVM_some hrb.vs hk2
    obtain ⟨u, hue⟩ : ∃ u, u = x.vs.getD k VM0 := ⟨_, rfl⟩
    obtain ⟨v, hve⟩ : ∃ u, u = y.vs.getD k VM0 := ⟨_, rfl⟩
    have hum : u ∈ x.vs := by rw [hue]; exact getVM_mem hk'
    have hvm : v ∈ y.vs := by rw [hve]; exact getVM_mem hk2
    have hfu := hra.fs u hum
    have hfv := hrb.fs v hvm
    have hul := hzv u.v (by rw [hva]; exact List.mem_map.mpr ⟨u, hum, rfl⟩)
    obtain ⟨p1, hp1⟩ : ∃ q, q = decide (u.v.kind = v.v.kind) := ⟨_, rfl⟩
    obtain ⟨p2, hp2⟩ : ∃ q, q = decide ((u.v.n : Int) = v.v.n) := ⟨_, rfl⟩
    obtain ⟨p3, hp3⟩ : ∃ q, q = decide (u.v.flags = v.v.flags) := ⟨_, rfl⟩
    obtain ⟨p4, hp4⟩ : ∃ q, q = decide (u.v.text = v.v.text) := ⟨_, rfl⟩
    obtain ⟨p5, hp5⟩ : ∃ q, q = decide (u.v.part = v.v.part) := ⟨_, rfl⟩
    obtain ⟨p6, hp6⟩ : ∃ q, q = decide ((u.v.fr : Int) = v.v.fr) := ⟨_, rfl⟩
    have hpe : u.v = v.v ↔ (p1 = true ∧ p2 = true ∧ p3 = true ∧ p4 = true ∧ p5 = true ∧ p6 = true) := by
      rw [hp1, hp2, hp3, hp4, hp5, hp6]
      simp only [decide_eq_true_eq]
      constructor
      · intro e; rw [e]; simp
      · rintro ⟨a, b, c, d, e, f⟩; exact RV.ext' a (by omega) c d e (by omega)
    have hbad : ¬(p1 = true ∧ p2 = true ∧ p3 = true ∧ p4 = true ∧ p5 = true ∧ p6 = true) → r ≠ s := by
      rintro h rfl
      have h1 : x.vs.map VM.v = y.vs.map VM.v := hva.symm.trans hvb
      refine h (hpe.1 ?_)
      have h2 : (x.vs.map VM.v)[k]? = (y.vs.map VM.v)[k]? := by rw [h1]
      rw [List.getElem?_map, List.getElem?_map, List.getElem?_eq_getElem hk', List.getElem?_eq_getElem hk2] at h2
      rw [hue, hve, List.getD_eq_getElem?_getD, List.getD_eq_getElem?_getD, List.getElem?_eq_getElem hk', List.getElem?_eq_getElem hk2]
      simpa using h2
    clear hq1 hq2 hq3 hq4 hq5 hq6 hq7 hq8 hq9 hq10 hall hne heq
    repeat refine y_ ?_
    refine g_draw ([1, 4, 6, 9], [0, 1, 0, 7, 15, 0, 32, 0, 224, 480, 0, 0, 3103, 8191], [10, 11, 12, 13]) [blkR g3 s y, blkR g2 r x] 14 rfl ?_
    refine w_ 0 rfl z_1 ?_
    (refine ga_read_k 1 rfl (by exact .tail _ (.head _)) (s_load_blk rfl .del a10_9) z_8 rfl rfl rfl z_5 ?_)
    refine w_ 2 rfl (s_move rfl) ?_
    refine w_ 3 rfl (s_indexAddr rfl (by assumption) rfl (by omega)) ?_
    refine ga_readF 4 rfl (s_loadN (cs := vmC u) rfl (fun w hw => by rw [hue]; exact rdVM hw hra.vs (i := k) (by omega) hk') rfl) z_8 rfl rfl rfl z_5 ?_
    refine w_ 5 rfl z_1 ?_
    (refine ga_read_k 6 rfl (by exact .head _) (s_load_blk rfl .del a10_9) z_8 rfl rfl rfl z_5 ?_)
    refine w_ 7 rfl (s_move rfl) ?_
    refine w_ 8 rfl (s_indexAddr rfl (by assumption) rfl (by omega)) ?_
    refine ga_readF 9 rfl (s_loadN (cs := vmC v) rfl (fun w hw => by rw [hve]; exact rdVM hw hrb.vs (i := k) (by omega) hk2) rfl) z_8 rfl rfl rfl z_5 ?_
    refine ga_two 10 11 rfl rfl z_5 ?_ ?_
    refine gl_allocA rfl ?_; intro g7
    refine gl_nil ?_
    refine at_ga (.inr (by exact keeps_of k_)) ?_
    refine ga_one 11 rfl z_5 ?_
    refine gl_allocA rfl ?_; intro g8
    refine gl_nil ?_
    refine at_ga (.inr (by exact keeps_of k_)) ?_
    refine ga_one 12 rfl z_5 ?_
    (refine gl_store_blkW rfl rfl z_6 z_7 z_7 z_3 ?_)
    refine gl_nil ?_
    refine at_ga (.inr (by exact keeps_of k_)) ?_
    refine ga_one 13 rfl z_5 ?_
    (refine gl_store_blkW rfl rfl z_6 z_7 z_7 z_3 ?_)
    refine gl_nil ?_
    refine at_ga (.inl z_5) ?_
    refine ga_done z_5 ?_
    rotate_left 1
    refine gl_allocA rfl ?_; intro g8
    refine gl_nil ?_
    refine at_ga (.inr (by exact keeps_of k_)) ?_
    refine ga_one 10 rfl z_5 ?_
    refine gl_allocA rfl ?_; intro g7
    refine gl_nil ?_
    refine at_ga (.inr (by exact keeps_of k_)) ?_
    refine ga_one 12 rfl z_5 ?_
    (refine gl_store_blkW rfl rfl z_6 z_7 z_7 z_3 ?_)
    refine gl_nil ?_
    refine at_ga (.inr (by exact keeps_of k_)) ?_
    refine ga_one 13 rfl z_5 ?_
    (refine gl_store_blkW rfl rfl z_6 z_7 z_7 z_3 ?_)
    refine gl_nil ?_
    refine at_ga (.inl z_5) ?_
    refine ga_done z_5 ?_
    rotate_left 1
    all_goals (repeat refine y_ ?_)
    all_goals (rcases sca6 p1 p2 p3 p4 p5 p6 with rfl | ⟨rfl, rfl⟩ | ⟨rfl, rfl, rfl⟩ | ⟨rfl, rfl, rfl, rfl⟩ | ⟨rfl, rfl, rfl, rfl, rfl⟩ | ⟨rfl, rfl, rfl, rfl, rfl, rfl⟩ | ⟨rfl, rfl, rfl, rfl, rfl, rfl⟩)
    all_goals (
      repeat refine x_ ?_
      refine f_ z_1 ?_
      refine r_ (by exact s_load_blk rfl z_2 a6_0) ?_
      refine f_ z_1 ?_
      refine r_ (by exact s_load_blk rfl z_2 a6_0) ?_
      refine f_ ((s_neq rfl rfl).eq (congrArg (fun b => Value.bool (!b)) hp1.symm)) ?_
      refine m_ ?_
      (first | refine gl_guard_no rfl rfl rfl rfl rfl rfl rfl ?_ | (refine v_ ?_; refine f_ z_1 ?_))
      (first | refine gl_guard_no rfl rfl rfl rfl rfl rfl rfl ?_ | (refine v_ ?_; refine r_ (by exact s_load_blk rfl z_2 a6_1) ?_))
      (first | refine gl_guard_no rfl rfl rfl rfl rfl rfl rfl ?_ | (refine v_ ?_; refine f_ z_1 ?_))
      (first | refine gl_guard_no rfl rfl rfl rfl rfl rfl rfl ?_ | (refine v_ ?_; refine r_ (by exact s_load_blk rfl z_2 a6_1) ?_))
      (first | refine gl_guard_no rfl rfl rfl rfl rfl rfl rfl ?_ | (refine v_ ?_; refine f_ ((s_neq rfl rfl).eq (congrArg (fun b => Value.bool (!b)) hp2.symm)) ?_))
      refine f_ z_4 ?_
      refine m_ ?_
      (first | refine gl_guard_no rfl rfl rfl rfl rfl rfl rfl ?_ | (refine v_ ?_; refine f_ z_1 ?_))
      (first | refine gl_guard_no rfl rfl rfl rfl rfl rfl rfl ?_ | (refine v_ ?_; refine r_ (by exact s_load_blk rfl z_2 a6_2) ?_))
      (first | refine gl_guard_no rfl rfl rfl rfl rfl rfl rfl ?_ | (refine v_ ?_; refine f_ z_1 ?_))
      (first | refine gl_guard_no rfl rfl rfl rfl rfl rfl rfl ?_ | (refine v_ ?_; refine r_ (by exact s_load_blk rfl z_2 a6_2) ?_))
      (first | refine gl_guard_no rfl rfl rfl rfl rfl rfl rfl ?_ | (refine v_ ?_; refine gl_callp rfl (SameF_ct u.v.flags v.v.flags u.a v.a u.c v.c (by omega)) (fun h hh hb => ⟨hfu.le hh, hfv.le hh⟩) rfl ?_; rw [← hp3]))
      (first | refine gl_guard_no rfl rfl rfl rfl rfl rfl rfl ?_ | (refine v_ ?_; refine f_ (s_not rfl) ?_))
      refine f_ z_4 ?_
      refine m_ ?_
      (first | refine gl_guard_no rfl rfl rfl rfl rfl rfl rfl ?_ | (refine v_ ?_; refine f_ z_1 ?_))
      (first | refine gl_guard_no rfl rfl rfl rfl rfl rfl rfl ?_ | (refine v_ ?_; refine r_ (by exact s_load_blk rfl z_2 a6_3) ?_))
      (first | refine gl_guard_no rfl rfl rfl rfl rfl rfl rfl ?_ | (refine v_ ?_; refine f_ z_1 ?_))
      (first | refine gl_guard_no rfl rfl rfl rfl rfl rfl rfl ?_ | (refine v_ ?_; refine r_ (by exact s_load_blk rfl z_2 a6_3) ?_))
      (first | refine gl_guard_no rfl rfl rfl rfl rfl rfl rfl ?_ | (refine v_ ?_; refine f_ ((s_neq_str rfl rfl).eq (congrArg (fun b => Value.bool (!b)) hp4.symm)) ?_))
      refine f_ z_4 ?_
      refine m_ ?_
      (first | refine gl_guard_no rfl rfl rfl rfl rfl rfl rfl ?_ | (refine v_ ?_; refine f_ z_1 ?_))
      (first | refine gl_guard_no rfl rfl rfl rfl rfl rfl rfl ?_ | (refine v_ ?_; refine r_ (by exact s_load_blk rfl z_2 a6_4) ?_))
      (first | refine gl_guard_no rfl rfl rfl rfl rfl rfl rfl ?_ | (refine v_ ?_; refine f_ z_1 ?_))
      (first | refine gl_guard_no rfl rfl rfl rfl rfl rfl rfl ?_ | (refine v_ ?_; refine r_ (by exact s_load_blk rfl z_2 a6_4) ?_))
      (first | refine gl_guard_no rfl rfl rfl rfl rfl rfl rfl ?_ | (refine v_ ?_; refine f_ ((s_neq_bool rfl rfl).eq (congrArg (fun b => Value.bool (!b)) hp5.symm)) ?_))
      refine f_ z_4 ?_
      refine m_ ?_
      (first | refine gl_guard_no rfl rfl rfl rfl rfl rfl rfl ?_ | (refine v_ ?_; refine f_ z_1 ?_))
      (first | refine gl_guard_no rfl rfl rfl rfl rfl rfl rfl ?_ | (refine v_ ?_; refine r_ (by exact s_load_blk rfl z_2 a6_5) ?_))
      (first | refine gl_guard_no rfl rfl rfl rfl rfl rfl rfl ?_ | (refine v_ ?_; refine f_ z_1 ?_))
      (first | refine gl_guard_no rfl rfl rfl rfl rfl rfl rfl ?_ | (refine v_ ?_; refine r_ (by exact s_load_blk rfl z_2 a6_5) ?_))
      (first | refine gl_guard_no rfl rfl rfl rfl rfl rfl rfl ?_ | (refine v_ ?_; refine f_ ((s_neq rfl rfl).eq (congrArg (fun b => Value.bool (!b)) hp6.symm)) ?_))
      refine f_ z_4 ?_
      refine gl_nil ?_
      repeat refine y_ ?_)
    all_goals try (
      repeat refine x_ ?_
      refine a_ ?_
      refine gl_nil ?_
      repeat refine y_ ?_)
    all_goals try (refine g_ret ?_; exact at_end1 rfl rfl [] ⟨(congrArg Value.bool (decide_eq_false (hbad z_10))).symm, rfl⟩ (fun w hw => hw.dropAll))
    all_goals (
      repeat refine x_ ?_
      refine m_ ?_
      refine f_ (s_add_i64 rfl rfl (by omega)) ?_
      refine a_ ?_
      refine gl_nil ?_
      repeat refine y_ ?_)
    all_goals (refine at_next (k + 1) ⟨by omega, fun i hi => ?_⟩ (by omega) ?_ ?_)
    all_goals first
      | (rcases Nat.lt_succ_iff_lt_or_eq.1 hi with h4 | rfl
         · exact hokv i h4
         · rw [← hue, ← hve]; exact hpe.2 ⟨rfl, rfl, rfl, rfl, rfl, rfl⟩)
      | (intro w hw; exact hw.drop.drop)
      | (repeat (first | exact Sub.nil _ | refine Sub.cons rfl ?_))
  have hkl : k = x.vs.length := by simp at h; omega
  subst hkl
  have ev := getVM_ext e9 hokv
  rw [decide_eq_true (RR.ext' e1 e2 e3 e4 e5 en e7 e10 e6 (by rw [hva, hvb, ev]))]
  repeat refine x_ ?_
  refine a_ ?_
  repeat refine n_ ?_
  refine g_ret ?_
  exact at_end1 rfl rfl [] ⟨rfl, rfl⟩ (fun w hw => hw.dropAll)
end Go.Proofs.YtgllpcggdcknaaaGreatDoor.Rp
namespace Go.Proofs.YtgllpcggdcknaaaGreatDoor.Rp
open Go Go.Sl
def printQ (r : RR) : Bs := if okR r = true then textP r ++ crlf else []
theorem flat_one {α β : Type} (f : α → β) : ∀ l : List α, (l.flatMap fun a => [f a]) = l.map f
 | [] => rfl
 | a :: t => by rw [List.flatMap_cons, flat_one f t]; rfl
theorem flat_some {f : RV → Bs} : ∀ l : List RV, (∀ v ∈ l, 1 ≤ v.kind ∧ v.kind ≤ 5) → (l.flatMap fun v => if 1 ≤ v.kind ∧ v.kind ≤ 5 then [f v] else []) = l.map f
 | [], _ => rfl
 | a :: t, h => by rw [List.flatMap_cons, flat_some t (fun v hv => h v (by simp [hv])), if_pos (h a z_10)]; rfl
theorem textQ_P {r : RR} (h : okR r = true) : textQ r = textP r := by
 by_cases hk : 1 ≤ r.kind ∧ r.kind ≤ 14
 ·by_cases h13 : r.kind = 13
  ·rw [okR_13 h13] at h
   simp only [Bool.and_eq_true, decide_eq_true_eq] at h
   rw [textQ_13 h13, List.take_of_length_le (by omega)]
   unfold textP
   rw [h13]
   rfl
  by_cases h14 : r.kind = 14
  ·rw [okR_14 h14] at h
   simp only [Bool.and_eq_true] at h
   rw [textQ_14 h14]
   unfold valuesQ textP
   rw [h.1.1, if_pos rfl]
   unfold cellsP
   rw [h14]
   have e : ∀ l : List RV, (l.flatMap fun v => if (14 : Int) = 14 then [valueP v] else if 1 ≤ v.kind ∧ v.kind ≤ 5 then [countP v] else []) = l.map (fV14 14) := fun l => flat_one valueP l
   rw [e]
   simp
  by_cases h12 : r.kind = 12
  ·rw [okR_12 h12] at h
   simp only [Bool.and_eq_true] at h
   have hv := h.1.1
   rw [textQ_12 h12]
   unfold valuesQ textP
   rw [hv, if_pos rfl]
   unfold okVals at hv
   simp only [Bool.and_eq_true, List.all_eq_true] at hv
   rw [h12] at hv
   unfold cellsP
   rw [h12]
   have e : (r.values.flatMap fun v => if (12 : Int) = 14 then [valueP v] else if 1 ≤ v.kind ∧ v.kind ≤ 5 then [countP v] else []) = r.values.map (fV14 12) := flat_some (f := countP) r.values (fun v hm => by
    have h1 := hv.2 v hm
    have h2 : okC v = true := h1
    unfold okC at h2
    simp only [Bool.and_eq_true, decide_eq_true_eq] at h2
    exact ⟨h2.1.1.1, h2.1.1.2.1⟩)
   rw [e]
   simp
  ·unfold textQ
   rw [if_neg h13, if_neg h14, if_neg h12, if_pos (by omega)]
 ·rw [okR_x hk] at h
  cases h
theorem numsP_len2 (l : List Nat) (h : ∀ n ∈ l, n ≤ 18446744073709551615) : (numsP (l.take 65)).length ≤ 2000 := by
 have h1 := numsP_len (l := l.take 65) (fun n hn => h n (List.mem_of_mem_take hn))
 rw [List.length_take] at h1
 have h2 : min 65 l.length ≤ 65 := by omega
 have h3 := Nat.mul_le_mul_right 21 h2
 omega
theorem textQ_len {r : RR} (hz : SzR r) : (textQ r).length ≤ 30000000000000 := by
 have h1 := hz.tag
 have h2 := hz.code
 have h3 := hz.text
 have h4 := digS_len64 hz.n
 have h5 := digS_len64 hz.mod
 have h6 := hz.fj
 have h7 := hz.box
 have h8 := form_len r.box h7
 have h9 := valuesQ_len hz
 have h10 := numsP_len2 r.nums hz.ns
 unfold big at h1 h2 h3 h6 h7
 have hm : (modP r.mod).length ≤ 40 := by
  unfold modP
  split
  ·simp
  ·simp; omega
 by_cases hk : 1 ≤ r.kind ∧ r.kind ≤ 14
 ·by_cases hk4 : r.kind ≤ 4
  ·rw [textQ_s ⟨hk.1, hk4⟩]
   have := stat_len (r.kind.toNat - 1)
   have hc : (codeP r.code).length ≤ r.code.length + 3 := by
    unfold codeP
    split
    ·simp
    ·simp
   simp only [List.length_append, List.length_cons]
   omega
  have c : r.kind = 5 ∨ r.kind = 6 ∨ r.kind = 7 ∨ r.kind = 8 ∨ r.kind = 9 ∨ r.kind = 10 ∨ r.kind = 11 ∨ r.kind = 12 ∨ r.kind = 13 ∨ r.kind = 14 := by omega
  rcases c with c | c | c | c | c | c | c | c | c | c
  ·rw [textQ_5 c]; simp only [List.length_cons]; omega
  ·rw [textQ_6 c]; decide
  ·rw [textQ_7 c]; decide
  ·rw [textQ_8 c]; simp only [List.length_append, List.length_cons, List.length_nil]; omega
  ·rw [textQ_9 c]; simp only [List.length_append, List.length_cons, List.length_nil]; omega
  ·rw [textQ_10 c]; unfold printF; simp only [List.length_append, List.length_cons, List.length_nil]; omega
  ·rw [textQ_11 c]; simp only [List.length_append, List.length_cons, List.length_nil]; omega
  ·rw [textQ_12 c]; simp only [List.length_append, List.length_cons, List.length_nil]; omega
  ·rw [textQ_13 c]; simp only [List.length_append, List.length_cons, List.length_nil]; omega
  ·rw [textQ_14 c]; simp only [List.length_append, List.length_cons, List.length_nil]; omega
 ·rw [textQ_x hk]; simp
set_option maxRecDepth 8000 in
theorem PrintR9_ct (r : RR) (x : RL) (hz : SzR r) (hv : r.values = x.vs.map VM.v) : Pu Tryz.prog 10 [rrA r x] (RRd r x) (.tuple #[B (printQ r), .bool (okR r)]) := by
 have htl := textQ_len hz
 refine ct_enter 15 Tryz.func10 rfl rfl rfl ?_
 intro F hrr
 repeat refine x_ ?_
 refine gl_boxA rfl rfl ?_; intro g1
 refine a_ ?_
 refine a_ ?_
 repeat refine x_ ?_
 refine r_ ((s_load_blkW rfl z_2 z_7).eq (v' := rrA r x) rfl) ?_
 refine gl_callp rfl (textR_ct r x hz hv) (fun h hh hb => hrr.le hh) rfl ?_
 refine m_ ?_
 refine f_ (s_extract rfl rfl) ?_
 refine f_ (s_extract rfl rfl) ?_
 refine a_ ?_
 refine a_ ?_
 repeat refine n_ ?_
 obtain ⟨q, hq⟩ : ∃ q, q = okR r := ⟨_, rfl⟩
 rw [← hq]
 repeat refine x_ ?_
 refine m_ ?_
 refine f_ (s_not rfl) ?_
 repeat refine n_ ?_
 refine g_cond rfl (fun h => ?_) (fun h => ?_)
 ·have h1 : q = false := by simpa using h
  have e : printQ r = [] := by unfold printQ; rw [← hq, h1]; rfl
  rw [e, h1]
  repeat refine x_ ?_
  refine a_ ?_
  refine a_ ?_
  repeat refine n_ ?_
  refine g_ret ?_
  exact at_end2 rfl rfl rfl [] ⟨rfl, rfl⟩ (fun w hw => hw.dropAll)
 ·have h1 : q = true := by simpa using h
  have e : printQ r = textQ r ++ crlf := by unfold printQ; rw [← hq, if_pos h1, textQ_P (hq.symm.trans h1)]
  rw [e, h1]
  repeat refine x_ ?_
  refine m_ ?_
  refine f_ ((s_add_str rfl rfl (by simp only [List.length_cons, List.length_nil]; omega)).eq (v' := B (textQ r ++ crlf)) rfl) ?_
  refine a_ ?_
  refine a_ ?_
  repeat refine n_ ?_
  refine g_ret ?_
  exact at_end2 rfl rfl rfl [] ⟨rfl, rfl⟩ (fun w hw => hw.dropAll)
theorem canon_len {s c : Bs} (h : canonS s = some c) : c.length ≤ 32 := by
 unfold canonS at h
 split at h
 ·next f hf =>
  cases h
  have := List.mem_of_find?_eq_some hf
  revert this
  have hs : ∀ f ∈ sysL, f.length ≤ 32 := by decide
  exact hs c
 ·split at h
  ·next hh =>
   cases h
   simp only [lowS, List.length_map]
   exact hh.2
  ·cases h
theorem make_small (l : List Bs) : (makeR l).1.length ≤ 16 ∧ ∀ f ∈ (makeR l).1, f.length ≤ 32 := by
 by_cases h : (makeR l).2 = 0
 ·have h1 := make_right (names := l) (l := (makeR l).1) (Prod.ext rfl h)
  have h2 := of_right h1
  exact ⟨h2.2.2, fun f hf => canon_len (h2.1 f hf)⟩
 ·have : (makeR l).1 = [] := by
   unfold makeR at h ⊢
   cases hc : canonL l with
   | none => rfl
   | some cs =>
    rw [hc] at h
    simp only at h ⊢
    by_cases hl : 16 < (setS cs).length
    ·rw [if_pos hl]
    ·rw [if_neg hl] at h
     exact absurd rfl h
  rw [this]
  simp
theorem join_small {l : List Bs} (h : l.length ≤ 16 ∧ ∀ f ∈ l, f.length ≤ 32) : (joinS [32] l).length ≤ 1000 := by
 have h1 := joinS_len h.2
 have h2 := Nat.mul_le_mul_right (32 + 1) h.1
 omega
theorem uqL_len : ∀ (n : Nat) (s b : Bs) (i : Nat) (t : Bs) (m : Nat), s.length ≤ n → uqL b i s = some (t, m) → t.length ≤ b.length + s.length
 | _, [], _, _, _, _, _, h => by simp [uqL] at h
 | 0, c :: s, _, _, _, _, hn, _ => by simp at hn
 | n + 1, c :: s, b, i, t, m, hn, h => by
  simp only [List.length_cons] at hn ⊢
  rw [uqL_cons] at h
  split at h
  ·cases h
  split at h
  ·simp at h; rw [← h.1]; omega
  split at h
  ·split at h
   ·cases h
   ·next d t' =>
    split at h
    ·simp only [List.length_cons] at hn ⊢
     have := uqL_len n t' _ _ t m (by omega) h
     simp only [List.length_append, List.length_cons, List.length_nil] at this
     omega
    ·cases h
  split at h
  ·have := uqL_len n s _ _ t m (by omega) h
   simp only [List.length_append, List.length_cons, List.length_nil] at this
   omega
  ·cases h
theorem uqS_len (s : Bs) : ((uqS s).getD ([], 0)).1.length ≤ s.length := by
 cases h : uqS s with
 | none => simp
 | some q =>
  obtain ⟨t, m⟩ := q
  cases s with
  | nil => cases h
  | cons c v =>
   unfold uqS at h
   simp only at h
   split at h
   ·have := uqL_len v.length v [] 1 t m (Nat.le_refl _) h
    simp at this ⊢
    omega
   ·cases h
theorem szR_of {r : RR} (h1 : r.tag.length ≤ 1000000000000) (h2 : r.code.length ≤ 1000000000000) (h3 : r.text.length ≤ 1000000000000) (h4 : r.n ≤ great) (h5 : r.nums.length ≤ 66) (h6 : ∀ n ∈ r.nums, n ≤ great) (h7 : r.mod ≤ great) (h8 : r.flags.length ≤ 16 ∧ ∀ f ∈ r.flags, f.length ≤ 32) (h9 : r.box.length ≤ 1000000000000) (h10 : r.values.length ≤ 11) (h11 : ∀ v ∈ r.values, SzV v) : SzR r := by
 have hj := join_small h8
 unfold great at h4 h7
 exact ⟨h1, h2, h3, by omega, by unfold big; omega, fun n hn => by have := h6 n hn; unfold great at this; omega, by omega, by unfold big; omega, fun f hf => by have := h8.2 f hf; unfold big; omega, by unfold big; omega, h9, by unfold big; omega, h11⟩
end Go.Proofs.YtgllpcggdcknaaaGreatDoor.Rp
namespace Go.Proofs.YtgllpcggdcknaaaGreatDoor.Rp
open Go Go.Sl
theorem rrd_own {r : RR} {x : RL} {h : Heap} {H : List As} (hv : r.values = x.vs.map VM.v) (hm : ∀ y ∈ rrH r x, y ∈ H) (hb : ∃ bs, Sat h H bs) : RRd r x h := by
 obtain ⟨bs, hb⟩ := hb
 exact RRd.of_own hv hb hm
structure RM where
 r : RR
 x : RL
abbrev rmC (m : RM) : List Value := rrC m.r m.x
abbrev rmV (l : List RM) : List Value := l.flatMap rmC
structure RmR (l : List RM) (a : Option Addr) (h : Heap) : Prop where
 r : RdS h a (rmV l)
 m : ∀ m ∈ l, RRd m.r m.x h
theorem RmR.le {l : List RM} {a : Option Addr} {h h' : Heap} (k : RmR l a h) (hl : Heap.le h h') : RmR l a h' := ⟨k.r.le hl, fun m hm => (k.m m hm).le hl⟩
end Go.Proofs.YtgllpcggdcknaaaGreatDoor.Rp
namespace Go.Proofs.YtgllpcggdcknaaaGreatDoor.Rp
open Go Go.Sl Go.RowKit
theorem needS_le {s w : Bs} {p : Nat} {ok : Bool} (h : p ≤ s.length) : (needS s w ⟨p, ok⟩).p ≤ s.length ∧ p ≤ (needS s w ⟨p, ok⟩).p := eatS_le h
theorem parseF_small (s : Bs) : (parseF s).1.length ≤ 16 ∧ ∀ f ∈ (parseF s).1, f.length ≤ 32 := by
 unfold parseF
 simp only
 generalize (if (s.take (s.takeWhile fun c => c != 41).length).drop 1 = [] then ([] : List Bs) else splitS ((s.take (s.takeWhile fun c => c != 41).length).drop 1)) = names
 split
 ·split
  ·exact make_small _
  ·simp
 ·simp
def FlP (b : Nat) (s : Bs) (q : List Bs × RS) (v : Value) (A : List As) : Prop := ∃ a c, v = .slice a q.1.length c ∧ A = [rdr b s q.2, OwnS a q.1 c]
set_option maxRecDepth 8000 in
theorem flags_ct (b : Nat) (s : Bs) (p : Nat) (ok : Bool) (hs : s.length < 4294967281) (hp : p ≤ s.length) : Ct Tryz.prog 50 [Ptr b] Gl [rdp b s p ok] (FlP b s (flagsS s ⟨p, ok⟩)) := by
 refine ct_enter 37 Tryz.func50 rfl rfl rfl ?_
 intro F hg
 cases ok with
 | false =>
  repeat refine x_ ?_
  refine a_ ?_
  repeat refine x_ ?_
  refine m_ ?_
  refine f_ (s_nilCheck rfl) ?_
  refine f_ z_1 ?_
  refine r_ (by exact s_load_blk rfl z_2 a3_2) ?_
  refine f_ (s_not rfl) ?_
  repeat refine x_ ?_
  refine a_ ?_
  repeat refine n_ ?_
  refine g_ret ?_
  exact at_end1 rfl rfl [rdp b s p false, OwnS none [] 0] ⟨none, 0, rfl, rfl⟩ (fun w hw => (hw.addNil _ _).perm (.swap _ _ _))
 | true =>
  have hsm := parseF_small (s.drop p)
  have hjs := join_small hsm
  obtain ⟨m, hm⟩ : ∃ m, m = parseF (s.drop p) := ⟨_, rfl⟩
  have hpl : (printF m.1).length ≤ 1002 := by rw [hm]; unfold printF; simp; omega
  rw [← hm] at hsm hjs
  have hpc := ParseF_ct (s.drop p) (by rw [List.length_drop]; omega)
  rw [← hm] at hpc
  obtain ⟨q, hq⟩ : ∃ q, q = decide (m.2.2 = 0) := ⟨_, rfl⟩
  have e : flagsS s ⟨p, true⟩ = (m.1, if q = true then needS s (printF m.1) ⟨p, true⟩ else ⟨p, false⟩) := by
   unfold flagsS
   rw [if_pos rfl]
   simp only
   rw [← hm]
   by_cases h : m.2.2 = 0
   ·rw [if_pos h, if_pos (hq.trans (decide_eq_true h))]
   ·rw [if_neg h, if_neg (by rw [hq, decide_eq_false h]; simp)]
  rw [e]
  repeat refine x_ ?_
  refine a_ ?_
  repeat refine x_ ?_
  refine m_ ?_
  refine f_ (s_nilCheck rfl) ?_
  refine f_ z_1 ?_
  refine r_ (by exact s_load_blk rfl z_2 a3_2) ?_
  refine f_ (s_not rfl) ?_
  repeat refine n_ ?_
  refine g_draw0 ([3, 7], [0, 1, 3, 7, 0, 16, 48, 112, 255, 511, 1023, 2047, 2047, 2047, 4095, 24575, 65535], [9]) 17 rfl ?_
  refine w_ 0 rfl (s_move rfl) ?_
  refine w_ 1 rfl (s_nilCheck rfl) ?_
  refine w_ 2 rfl z_1 ?_
  (refine ga_read 3 rfl z_2 (s_load_blk rfl .del a3_0) rfl rfl rfl z_5 ?_)
  refine w_ 4 rfl (s_move rfl) ?_
  refine w_ 5 rfl (s_nilCheck rfl) ?_
  refine w_ 6 rfl z_1 ?_
  (refine ga_read 7 rfl z_2 (s_load_blk rfl .del a3_1) rfl rfl rfl z_5 ?_)
  refine w_ 8 rfl ((s_slice_str rfl rfl rfl (by omega)).eq (v' := B (s.drop p)) (by rw [List.take_of_length_le (by rw [List.length_drop]; omega), Int.toNat_natCast])) ?_
  refine ga_one 9 rfl z_5 ?_
  refine gl_call _ rfl hpc i_ (fun h hh hb => hg.le hh) rfl ?_; rintro v A ⟨a21, c21, rfl, rfl⟩
  refine gl_nil ?_
  refine at_ga (.inl z_5) ?_
  refine w_ 10 rfl (s_move rfl) ?_
  refine w_ 11 rfl (s_extract rfl rfl) ?_
  refine w_ 12 rfl (s_extract rfl rfl) ?_
  refine w_ 13 rfl (s_extract rfl rfl) ?_
  refine w_ 14 rfl (s_assign rfl) ?_
  refine w_ 15 rfl (s_assign rfl) ?_
  refine w_ 16 rfl (s_assign rfl) ?_
  refine ga_done z_5 ?_
  repeat refine y_ ?_
  refine g_ownN (a := a21) (n := m.1.length) (c := c21) z_2 (fun _ hnc _ => ?_)
  cases q with
  | true =>
   repeat refine x_ ?_
   refine m_ ?_
   refine m_ ?_
   refine f_ ((s_eql rfl rfl).eq (v' := .bool true) (congrArg Value.bool hq.symm)) ?_
   refine m_ ?_
   (refine v_ ?_; refine m_ ?_)
   (refine v_ ?_; refine m_ ?_)
   (refine v_ ?_; refine gl_callp rfl (PrintP_ct m.1 a21 c21 hnc (by omega) (by omega)) (fun h hh ⟨bs, hb⟩ => Sat.rd hb z_2) rfl ?_)
   (refine v_ ?_; refine gl_call [OwnS a21 m.1 c21] rfl (eat_ct b s (printF m.1) p true (by omega) hp (by omega)) (fun w hw => hw.perm (.swap _ _ _)) (fun _ _ _ => trivial) rfl ?_; rintro v A ⟨rfl, rfl⟩)
   refine f_ z_9 ?_
   refine f_ (s_nilCheck rfl) ?_
   refine f_ z_1 ?_
   (refine gl_store_blkC (pre := [_, _]) (post := []) rfl rfl z_6 z_7 z_7 z_7 ?_)
   repeat refine x_ ?_
   refine m_ ?_
   refine a_ ?_
   repeat refine n_ ?_
   refine g_ret ?_
   exact at_end1 rfl rfl [rdr b s (needS s (printF m.1) ⟨p, true⟩), OwnS a21 m.1 c21] ⟨a21, c21, rfl, rfl⟩ i_
  | false =>
   repeat refine x_ ?_
   refine m_ ?_
   refine m_ ?_
   refine f_ ((s_eql rfl rfl).eq (v' := .bool false) (congrArg Value.bool hq.symm)) ?_
   refine m_ ?_
   (refine gl_guard_no rfl rfl rfl rfl rfl rfl rfl ?_)
   (refine gl_guard_no rfl rfl rfl rfl rfl rfl rfl ?_)
   (refine gl_guard_no rfl rfl rfl rfl rfl rfl rfl ?_)
   (refine gl_guard_no rfl rfl rfl rfl rfl rfl rfl ?_)
   refine f_ (by exact s_pick_f rfl rfl) ?_
   refine f_ (s_nilCheck rfl) ?_
   refine f_ z_1 ?_
   (refine gl_store_blkC (pre := [_, _]) (post := []) rfl rfl z_6 z_7 z_7 z_7 ?_)
   repeat refine x_ ?_
   refine m_ ?_
   refine a_ ?_
   repeat refine n_ ?_
   refine g_ret ?_
   exact at_end1 rfl rfl [rdp b s p false, OwnS a21 m.1 c21] ⟨a21, c21, rfl, rfl⟩ (fun w hw => hw.perm (.swap _ _ _))
set_option maxRecDepth 8000 in
theorem boxR_ct (b : Nat) (s : Bs) (p : Nat) (ok : Bool) (hs : s.length < 4294967281) (hp : p ≤ s.length) : Ct Tryz.prog 51 [Ptr b] Gl [rdp b s p ok] (fun v A => v = B (boxS s ⟨p, ok⟩).1 ∧ A = [rdr b s (boxS s ⟨p, ok⟩).2]) := by
 refine ct_enter 94 Tryz.func51 rfl rfl rfl ?_
 intro F hg
 cases ok with
 | false =>
  repeat refine x_ ?_
  refine a_ ?_
  repeat refine x_ ?_
  refine m_ ?_
  refine f_ (s_nilCheck rfl) ?_
  refine f_ z_1 ?_
  refine r_ (by exact s_load_blk rfl z_2 a3_2) ?_
  refine f_ (s_not rfl) ?_
  repeat refine x_ ?_
  refine a_ ?_
  repeat refine n_ ?_
  refine g_ret ?_
  exact at_end1 rfl rfl [rdp b s p false] ⟨rfl, rfl⟩ i_
 | true =>
  have hu := untilS_le (s := s) (w := [32, 13]) (p := p) (ok := true) hp
  obtain ⟨u, hue⟩ : ∃ u, u = untilS s [32, 13] ⟨p, true⟩ := ⟨_, rfl⟩
  have huc := until_ct b s [32, 13] p true (by omega) hp (by decide)
  have huo : u.2.ok = true := by rw [hue]; unfold untilS; rw [if_pos rfl]
  rw [← hue] at hu huc
  obtain ⟨t, ⟨up, uo⟩⟩ := u
  simp only at hu huc huo
  subst huo
  obtain ⟨q, hq⟩ : ∃ q, q = ([34] : Bs).isPrefixOf t := ⟨_, rfl⟩
  have hul := uqS_len (s.drop p)
  have hu2 := uqS_le (s := s.drop p)
  rw [List.length_drop] at hul hu2
  have e : boxS s ⟨p, true⟩ = ((boxN (boxT s ⟨p, true⟩).1).getD [], ⟨(boxT s ⟨p, true⟩).2.p, (boxT s ⟨p, true⟩).2.ok && (boxN (boxT s ⟨p, true⟩).1).isSome && decide ((boxN (boxT s ⟨p, true⟩).1).getD [] = (boxT s ⟨p, true⟩).1)⟩) := by
   unfold boxS
   rw [if_pos rfl]
  have e2 : boxT s ⟨p, true⟩ = if q = true then (((uqS (s.drop p)).getD ([], 0)).1, ⟨p + ((uqS (s.drop p)).getD ([], 0)).2, (uqS (s.drop p)).isSome && ([34] : Bs).isPrefixOf (formS ((uqS (s.drop p)).getD ([], 0)).1)⟩) else (t, ⟨up, decide (formS t = t)⟩) := by
   unfold boxT
   simp only
   rw [← hue, ← hq]
  rw [e]
  obtain ⟨T, hT⟩ : ∃ T, T = boxT s ⟨p, true⟩ := ⟨_, rfl⟩
  rw [← hT] at e2 ⊢
  have hTl : T.1.length ≤ s.length := by
   rw [e2]
   split
   ·simp only; omega
   ·exact hu.2.2.1
  obtain ⟨T1, ⟨Tp, To⟩⟩ := T
  simp only at hTl ⊢
  repeat refine x_ ?_
  refine a_ ?_
  repeat refine x_ ?_
  refine m_ ?_
  refine f_ (s_nilCheck rfl) ?_
  refine f_ z_1 ?_
  refine r_ (by exact s_load_blk rfl z_2 a3_2) ?_
  refine f_ (s_not rfl) ?_
  repeat refine x_ ?_
  refine m_ ?_
  refine gl_call _ rfl huc i_ (fun _ _ _ => trivial) rfl ?_; rintro v A ⟨rfl, rfl⟩; refine gl_pull (H' := [rdp b s up true]) i_ ?_
  refine a_ ?_
  repeat refine x_ ?_
  refine m_ ?_
  refine gl_callp rfl (HasPrefix_ct t [34]) (fun _ _ _ => trivial) rfl ?_; rw [← hq]
  repeat refine n_ ?_
  refine g_cutK [(0, Ptr b), (3, B T1)] [rdp b s Tp To] ?_ ?_
  ·refine g_cond rfl (fun h => ?_) (fun h => ?_)
   ·rw [if_pos h] at e2
    obtain ⟨o, ho⟩ : ∃ o, o = uqS (s.drop p) := ⟨_, rfl⟩
    have hun := UnquoteW_ct (s.drop p) (by unfold big; rw [List.length_drop]; omega)
    rw [← ho] at e2 hun hul hu2
    obtain ⟨z, hz⟩ : ∃ z, z = o.isSome := ⟨_, rfl⟩
    unfold unqV at hun
    rw [← hz] at e2 hun
    cases e2
    repeat refine x_ ?_
    refine m_ ?_
    refine f_ (s_nilCheck rfl) ?_
    refine f_ z_1 ?_
    refine r_ (by exact s_load_blk rfl z_2 a3_1) ?_
    refine m_ ?_
    refine f_ (s_len_str rfl) ?_
    refine f_ ((s_sub_i64 rfl rfl (by omega)).eq (v' := .int .i64 (p : Nat)) (by congr 1; omega)) ?_
    refine f_ (s_nilCheck rfl) ?_
    refine f_ z_1 ?_
    (refine gl_store_blkC (pre := [_]) (post := [_]) rfl rfl z_6 z_7 z_7 z_7 ?_)
    repeat refine n_ ?_
    refine g_draw0 ([3, 7], [0, 1, 3, 7, 0, 16, 48, 112, 255, 511, 1023, 2047, 2047, 2047, 4095, 24575, 65535], [9]) 17 rfl ?_
    refine w_ 0 rfl (s_move rfl) ?_
    refine w_ 1 rfl (s_nilCheck rfl) ?_
    refine w_ 2 rfl z_1 ?_
    (refine ga_read 3 rfl z_2 (s_load_blk rfl .del a3_0) rfl rfl rfl z_5 ?_)
    refine w_ 4 rfl (s_move rfl) ?_
    refine w_ 5 rfl (s_nilCheck rfl) ?_
    refine w_ 6 rfl z_1 ?_
    (refine ga_read 7 rfl z_2 (s_load_blk rfl .del a3_1) rfl rfl rfl z_5 ?_)
    refine w_ 8 rfl ((s_slice_str rfl rfl rfl (by omega)).eq (v' := B (s.drop p)) (by rw [List.take_of_length_le (by rw [List.length_drop]; omega), Int.toNat_natCast])) ?_
    refine ga_one 9 rfl z_5 ?_
    refine gl_callp rfl hun (fun _ _ _ => trivial) rfl ?_
    refine gl_nil ?_
    refine at_ga (.inl z_5) ?_
    refine w_ 10 rfl (s_move rfl) ?_
    refine w_ 11 rfl (s_extract rfl rfl) ?_
    refine w_ 12 rfl (s_extract rfl rfl) ?_
    refine w_ 13 rfl (s_extract rfl rfl) ?_
    refine w_ 14 rfl (s_assign rfl) ?_
    refine w_ 15 rfl (s_assign rfl) ?_
    refine w_ 16 rfl (s_assign rfl) ?_
    refine ga_done z_5 ?_
    repeat refine x_ ?_
    refine m_ ?_
    refine m_ ?_
    refine f_ (s_nilCheck rfl) ?_
    refine f_ z_1 ?_
    (refine gl_store_blkC (pre := [_, _]) (post := []) rfl rfl z_6 z_7 z_7 z_7 ?_)
    repeat refine x_ ?_
    refine m_ ?_
    refine f_ (s_nilCheck rfl) ?_
    refine f_ z_1 ?_
    refine r_ (by exact s_load_blk rfl z_2 a3_1) ?_
    refine m_ ?_
    refine f_ ((s_add_i64 rfl rfl (by omega)).eq (v' := .int .i64 ((p + (o.getD ([], 0)).2 : Nat) : Int)) (by congr 1)) ?_
    refine f_ (s_nilCheck rfl) ?_
    refine f_ z_1 ?_
    (refine gl_store_blkC (pre := [_]) (post := [_]) rfl rfl z_6 z_7 z_7 z_7 ?_)
    repeat refine x_ ?_
    refine m_ ?_
    refine a_ ?_
    repeat refine n_ ?_
    cases z
    all_goals (
     repeat refine x_ ?_
     refine m_ ?_
     refine m_ ?_
     refine f_ (s_nilCheck rfl) ?_
     refine f_ z_1 ?_
     refine r_ (by exact s_load_blk rfl z_2 a3_2) ?_
     refine m_ ?_
     (first | refine gl_guard_no rfl rfl rfl rfl rfl rfl rfl ?_ | (refine v_ ?_; refine m_ ?_))
     (first | refine gl_guard_no rfl rfl rfl rfl rfl rfl rfl ?_ | (refine v_ ?_; refine gl_callp rfl (FormW_ct (o.getD ([], 0)).1 (by unfold big; omega)) (fun h hh hb => hg.le hh) rfl ?_))
     (first | refine gl_guard_no rfl rfl rfl rfl rfl rfl rfl ?_ | (refine v_ ?_; refine gl_callp rfl (HasPrefix_ct (formS (o.getD ([], 0)).1) [34]) (fun _ _ _ => trivial) rfl ?_))
     refine f_ z_4 ?_
     refine f_ (s_nilCheck rfl) ?_
     refine f_ z_1 ?_
     (refine gl_store_blkC (pre := [_, _]) (post := []) rfl rfl z_6 z_7 z_7 z_7 ?_)
     refine gl_nil ?_
     repeat refine y_ ?_)
    all_goals exact at_cut j_ i_
   ·rw [if_neg (by rw [h]; simp)] at e2
    cases e2
    repeat refine x_ ?_
    refine m_ ?_
    refine m_ ?_
    refine gl_callp rfl (FormW_ct t (by unfold big; omega)) (fun h hh hb => hg.le hh) rfl ?_
    refine m_ ?_
    refine f_ ((s_eql_str rfl rfl).eq (v' := .bool (decide (formS t = t))) rfl) ?_
    refine f_ (s_nilCheck rfl) ?_
    refine f_ z_1 ?_
    (refine gl_store_blkC (pre := [_, _]) (post := []) rfl rfl z_6 z_7 z_7 z_7 ?_)
    repeat refine n_ ?_
    exact at_cut j_ i_
  have hbx := BoxW_ct T1 (by unfold big; omega)
  obtain ⟨o, ho⟩ : ∃ o, o = boxN T1 := ⟨_, rfl⟩
  rw [← ho] at hbx ⊢
  obtain ⟨z, hz⟩ : ∃ z, z = o.isSome := ⟨_, rfl⟩
  unfold optV at hbx
  rw [← hz] at hbx ⊢
  obtain ⟨B2, hB2⟩ : ∃ z, z = o.getD [] := ⟨_, rfl⟩
  rw [← hB2] at hbx ⊢
  obtain ⟨y, hy⟩ : ∃ z, z = decide (B2 = T1) := ⟨_, rfl⟩
  rw [← hy]
  repeat refine x_ ?_
  refine m_ ?_
  refine gl_callp rfl hbx (fun _ _ _ => trivial) rfl ?_
  refine m_ ?_
  refine f_ (s_extract rfl rfl) ?_
  refine f_ (s_extract rfl rfl) ?_
  refine a_ ?_
  refine a_ ?_
  repeat refine n_ ?_
  cases To <;> cases z
  all_goals (
   repeat refine x_ ?_
   refine m_ ?_
   refine m_ ?_
   refine f_ (s_nilCheck rfl) ?_
   refine f_ z_1 ?_
   refine r_ (by exact s_load_blk rfl z_2 a3_2) ?_
   refine m_ ?_
   (first | refine gl_guard_no rfl rfl rfl rfl rfl rfl rfl ?_ | (refine v_ ?_; refine m_ ?_))
   refine f_ z_4 ?_
   refine m_ ?_
   (first | refine gl_guard_no rfl rfl rfl rfl rfl rfl rfl ?_ | (refine v_ ?_; refine m_ ?_))
   (first | refine gl_guard_no rfl rfl rfl rfl rfl rfl rfl ?_ | (refine v_ ?_; refine m_ ?_))
   (first | refine gl_guard_no rfl rfl rfl rfl rfl rfl rfl ?_ | (refine v_ ?_; refine f_ ((s_eql_str rfl rfl).eb hy) ?_))
   refine f_ z_4 ?_
   refine f_ (s_nilCheck rfl) ?_
   refine f_ z_1 ?_
   (refine gl_store_blkC (pre := [_, _]) (post := []) rfl rfl z_6 z_7 z_7 z_7 ?_)
   refine gl_nil ?_
   repeat refine y_ ?_)
  all_goals (
   repeat refine x_ ?_
   refine m_ ?_
   refine a_ ?_
   refine gl_nil ?_
   repeat refine y_ ?_)
  all_goals (refine g_ret ?_; exact at_end1 rfl rfl [rdp b s Tp _] ⟨rfl, rfl⟩ i_)
theorem litS_le {s : Bs} {p : Nat} {ok : Bool} (h : p ≤ s.length) : (litS s ⟨p, ok⟩).2.p ≤ s.length ∧ (litS s ⟨p, ok⟩).1.length ≤ 4096 := by
 have h1 := needS_le (s := s) (w := [123]) (ok := ok) h
 obtain ⟨⟨p1, o1⟩, he1⟩ : ∃ z, z = needS s [123] ⟨p, ok⟩ := ⟨_, rfl⟩
 rw [← he1] at h1
 have h2 := numberS_le (s := s) (p := p1) (ok := o1) h1.1
 obtain ⟨⟨n, ⟨p2, o2⟩⟩, he2⟩ : ∃ z, z = numberS s ⟨p1, o1⟩ := ⟨_, rfl⟩
 rw [← he2] at h2
 have h3 := needS_le (s := s) (w := [125, 13, 10]) (p := p2) (ok := o2) h2.1
 unfold litS
 simp only
 rw [← he1, ← he2]
 simp only
 split
 ·next hh => simp only [List.length_take, List.length_drop]; omega
 ·simp only [List.length_nil]; omega
set_option maxRecDepth 8000 in
theorem literal_ct (b : Nat) (s : Bs) (p : Nat) (ok : Bool) (hs : s.length ≤ 1000000000000) (hp : p ≤ s.length) : Ct Tryz.prog 92 [Ptr b] Gl [rdp b s p ok] (fun v A => v = B (litS s ⟨p, ok⟩).1 ∧ A = [rdr b s (litS s ⟨p, ok⟩).2]) := by
 have h1 := needS_le (s := s) (w := [123]) (ok := ok) hp
 have c1 := need_ct b s [123] p ok hs hp (by decide)
 obtain ⟨⟨p1, o1⟩, he1⟩ : ∃ z, z = needS s [123] ⟨p, ok⟩ := ⟨_, rfl⟩
 rw [← he1] at h1 c1
 have h2 := numberS_le (s := s) (p := p1) (ok := o1) h1.1
 have c2 := number_ct b s p1 o1 (by omega) h1.1
 obtain ⟨⟨n, ⟨p2, o2⟩⟩, he2⟩ : ∃ z, z = numberS s ⟨p1, o1⟩ := ⟨_, rfl⟩
 rw [← he2] at h2 c2
 have h3 := needS_le (s := s) (w := [125, 13, 10]) (p := p2) (ok := o2) h2.1
 have c3 := need_ct b s [125, 13, 10] p2 o2 hs h2.1 (by decide)
 obtain ⟨⟨p3, o3⟩, he3⟩ : ∃ z, z = needS s [125, 13, 10] ⟨p2, o2⟩ := ⟨_, rfl⟩
 rw [← he3] at h3 c3
 simp only at h1 h2 h3 c1 c2 c3
 unfold great at h2
 have e : litS s ⟨p, ok⟩ = if o3 = true ∧ n ≤ 4096 ∧ n ≤ s.length - p3 then ((s.drop p3).take n, ⟨p3 + n, o3⟩) else ([], ⟨p3, false⟩) := by
  unfold litS
  simp only
  rw [← he1, ← he2]
  simp only
  rw [← he3]
 obtain ⟨q1, hq1⟩ : ∃ q, q = decide ((n : Int) > 4096) := ⟨_, rfl⟩
 obtain ⟨q2, hq2⟩ : ∃ q, q = decide ((n : Int) > ((s.length - p3 : Nat) : Int)) := ⟨_, rfl⟩
 have hqq : (o3 = true ∧ n ≤ 4096 ∧ n ≤ s.length - p3) ↔ (!o3 || (q1 || q2)) = false := by
  rw [Bool.or_eq_false_iff, Bool.or_eq_false_iff, hq1, hq2, decide_eq_false_iff_not, decide_eq_false_iff_not]
  simp only [Bool.not_eq_false']
  exact and_congr Iff.rfl (and_congr (by omega) (by omega))
 rw [e]
 refine ct_enter 62 Tryz.func92 rfl rfl rfl ?_
 intro F hg
 repeat refine x_ ?_
 refine a_ ?_
 repeat refine x_ ?_
 refine m_ ?_
 refine gl_call _ rfl c1 i_ (fun _ _ _ => trivial) rfl ?_; rintro v A ⟨rfl, rfl⟩
 repeat refine x_ ?_
 refine m_ ?_
 refine gl_call _ rfl c2 i_ (fun h hh hb => hg.le hh) rfl ?_; rintro v A ⟨rfl, rfl⟩
 refine a_ ?_
 repeat refine x_ ?_
 refine m_ ?_
 refine gl_call _ rfl c3 i_ (fun _ _ _ => trivial) rfl ?_; rintro v A ⟨rfl, rfl⟩; refine gl_pull (H' := [rdp b s p3 o3]) i_ ?_
 repeat refine n_ ?_
 refine g_cutK [(0, Ptr b), (3, .int .u64 (n : Nat)), (33, .bool (!o3 || (q1 || q2)))] [rdp b s p3 o3] ?_ ?_
 ·cases o3 <;> cases q1
  all_goals (
   repeat refine y_ ?_
   refine g_draw0 ([3, 15, 20], [0, 1, 3, 7, 15, 31, 63, 127, 255, 511, 1023, 2047, 1023, 5119, 13311, 29695, 62463, 1023, 132095, 394239, 918527, 2094079, 4194303, 8388607], []) 24 rfl ?_
   refine w_ 0 rfl (s_move rfl) ?_
   refine w_ 1 rfl (s_nilCheck rfl) ?_
   refine w_ 2 rfl z_1 ?_
   (refine ga_read 3 rfl z_2 (s_load_blk rfl .del a3_2) rfl rfl rfl z_5 ?_)
   refine w_ 4 rfl (s_not rfl) ?_
   refine w_ 5 rfl (s_move rfl) ?_
   (first | refine s_ 6 ?_ | refine ga_free_g 6 rfl (s_move rfl) rfl rfl rfl rfl rfl rfl z_5 ?_)
   (first | refine s_ 7 ?_ | refine ga_free_g 7 rfl ((s_gtr rfl rfl).eb hq1) rfl rfl rfl rfl rfl rfl z_5 ?_)
   refine w_ 8 rfl z_4 ?_
   refine w_ 9 rfl (s_move rfl) ?_
   (first | refine s_ 10 ?_ | refine ga_free_g 10 rfl (s_move rfl) rfl rfl rfl rfl rfl rfl z_5 ?_)
   (first | refine s_ 11 ?_ | refine ga_free_g 11 rfl ((s_conv_keep_i64 rfl (by omega))) rfl rfl rfl rfl rfl rfl z_5 ?_)
   (first | refine s_ 12 ?_ | refine ga_free_g 12 rfl (s_move rfl) rfl rfl rfl rfl rfl rfl z_5 ?_)
   (first | refine s_ 13 ?_ | refine ga_free_g 13 rfl (s_nilCheck rfl) rfl rfl rfl rfl rfl rfl z_5 ?_)
   (first | refine s_ 14 ?_ | refine ga_free_g 14 rfl z_1 rfl rfl rfl rfl rfl rfl z_5 ?_)
   (first | refine s_ 15 ?_ | refine ga_read_g 15 rfl z_2 (s_load_blk rfl .del a3_0) rfl rfl rfl rfl rfl rfl z_5 ?_)
   (first | refine s_ 16 ?_ | refine ga_free_g 16 rfl (s_len_str rfl) rfl rfl rfl rfl rfl rfl z_5 ?_)
   (first | refine s_ 17 ?_ | refine ga_free_g 17 rfl (s_move rfl) rfl rfl rfl rfl rfl rfl z_5 ?_)
   (first | refine s_ 18 ?_ | refine ga_free_g 18 rfl (s_nilCheck rfl) rfl rfl rfl rfl rfl rfl z_5 ?_)
   (first | refine s_ 19 ?_ | refine ga_free_g 19 rfl z_1 rfl rfl rfl rfl rfl rfl z_5 ?_)
   (first | refine s_ 20 ?_ | refine ga_read_g 20 rfl z_2 (s_load_blk rfl .del a3_1) rfl rfl rfl rfl rfl rfl z_5 ?_)
   (first | refine s_ 21 ?_ | refine ga_free_g 21 rfl ((s_sub_i64 rfl rfl (by omega)).eq (v' := .int .i64 ((s.length - p3 : Nat) : Int)) (by congr 1; omega)) rfl rfl rfl rfl rfl rfl z_5 ?_)
   (first | refine s_ 22 ?_ | refine ga_free_g 22 rfl ((s_gtr rfl rfl).eb hq2) rfl rfl rfl rfl rfl rfl z_5 ?_)
   refine w_ 23 rfl z_4 ?_
   refine ga_done z_5 ?_
   repeat refine y_ ?_)
  all_goals exact at_cut j_ i_
 repeat refine y_ ?_
 refine g_cond rfl (fun h => ?_) (fun h => ?_)
 ·rw [if_neg (fun x => by rw [hqq.1 x] at h; cases h)]
  repeat refine x_ ?_
  refine m_ ?_
  refine f_ (s_nilCheck rfl) ?_
  refine f_ z_1 ?_
  (refine gl_store_blkC (pre := [_, _]) (post := []) rfl rfl z_6 z_7 z_7 z_7 ?_)
  repeat refine x_ ?_
  refine a_ ?_
  repeat refine n_ ?_
  refine g_ret ?_
  exact at_end1 rfl rfl [rdp b s p3 false] ⟨rfl, rfl⟩ i_
 ·have hh := hqq.2 h
  rw [if_pos hh]
  repeat refine x_ ?_
  refine m_ ?_
  refine f_ (s_nilCheck rfl) ?_
  refine f_ z_1 ?_
  refine r_ (by exact s_load_blk rfl z_2 a3_1) ?_
  refine m_ ?_
  refine f_ ((s_conv_keep_i64 rfl (by omega))) ?_
  refine f_ ((s_add_i64 rfl rfl (by omega)).eq (v' := .int .i64 ((p3 + n : Nat) : Int)) (by congr 1)) ?_
  refine f_ (s_nilCheck rfl) ?_
  refine f_ z_1 ?_
  (refine gl_store_blkC (pre := [_]) (post := [_]) rfl rfl z_6 z_7 z_7 z_7 ?_)
  repeat refine n_ ?_
  refine g_draw0 ([3, 7, 14], [0, 1, 3, 7, 0, 16, 48, 112, 0, 256, 1008, 0, 2048, 6144, 14336, 32767, 65535], []) 17 rfl ?_
  refine w_ 0 rfl (s_move rfl) ?_
  refine w_ 1 rfl (s_nilCheck rfl) ?_
  refine w_ 2 rfl z_1 ?_
  (refine ga_read 3 rfl z_2 (s_load_blk rfl .del a3_0) rfl rfl rfl z_5 ?_)
  refine w_ 4 rfl (s_move rfl) ?_
  refine w_ 5 rfl (s_nilCheck rfl) ?_
  refine w_ 6 rfl z_1 ?_
  (refine ga_read 7 rfl z_2 (s_load_blk rfl .del a3_1) rfl rfl rfl z_5 ?_)
  refine w_ 8 rfl (s_move rfl) ?_
  refine w_ 9 rfl ((s_conv_keep_i64 rfl (by omega))) ?_
  refine w_ 10 rfl ((s_sub_i64 rfl rfl (by omega)).eq (v' := .int .i64 (p3 : Nat)) (by congr 1; omega)) ?_
  refine w_ 11 rfl (s_move rfl) ?_
  refine w_ 12 rfl (s_nilCheck rfl) ?_
  refine w_ 13 rfl z_1 ?_
  (refine ga_read 14 rfl z_2 (s_load_blk rfl .del a3_1) rfl rfl rfl z_5 ?_)
  refine w_ 15 rfl ((s_slice_str rfl rfl rfl (by omega)).eq (v' := B ((s.drop p3).take n)) (by simp only [Int.toNat_natCast]; rw [show p3 + n - p3 = n by omega])) ?_
  refine w_ 16 rfl (s_assign rfl) ?_
  refine ga_done z_5 ?_
  repeat refine y_ ?_
  refine g_ret ?_
  exact at_end1 rfl rfl [rdp b s (p3 + n) o3] ⟨rfl, rfl⟩ i_
end Go.Proofs.YtgllpcggdcknaaaGreatDoor.Rp
