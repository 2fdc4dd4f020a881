import Derived.Test.YtodcghipfolejaaGreatJx9
set_option linter.unusedVariables false
set_option linter.unusedSimpArgs false
namespace Go.Proofs.YtodcghipfolejaaGreat.Rf
open Go Go.Sl
def inn : Nat → List Int → List Int
 | 0, ys => ys
 | j + 1, ys => if ys.getD (j + 1) 0 < ys.getD j 0 then inn j (swp ys (j + 1) j) else ys
def insK (xs : List Int) : Nat → List Int
 | 0 => xs
 | i + 1 => inn i (insK xs i)
def insS (xs : List Int) : List Int := insK xs xs.length
theorem inn_length : ∀ (j : Nat) (ys : List Int), (inn j ys).length = ys.length
 | 0, _ => rfl
 | j + 1, ys => by
  rw [inn]
  split
  ·rw [inn_length j, swp_length]
  ·rfl
theorem insK_length (xs : List Int) : ∀ i, (insK xs i).length = xs.length
 | 0 => rfl
 | i + 1 => by rw [insK, inn_length, insK_length xs i]
theorem isNaN_ct (x : Int) : Pu Tryz.prog 151 [.int .i64 x] (fun _ => True) (.bool false) := by
 refine ct_enter 6 Tryz.func151 rfl rfl rfl ?_
 intro F _
 repeat refine x_ ?_
 refine a_ ?_
 repeat refine x_ ?_
 refine m_ ?_
 refine m_ ?_
 refine f_ ((s_neq rfl rfl).eq (v' := .bool false) (by simp)) ?_
 refine a_ ?_
 repeat refine n_ ?_
 refine g_ret ?_
 exact at_end1 rfl rfl [] ⟨rfl, rfl⟩ (fun _ h => h)
theorem cLess_ct (x y : Int) : Pu Tryz.prog 138 [.int .i64 x, .int .i64 y] (fun _ => True) (.bool (decide (x < y))) := by
 refine ct_enter 17 Tryz.func138 rfl rfl rfl ?_
 intro F _
 repeat refine x_ ?_
 refine a_ ?_
 repeat refine x_ ?_
 refine m_ ?_
 refine gl_callp rfl (isNaN_ct x) (fun _ _ _ => trivial) rfl ?_
 refine m_ ?_
 (refine gl_guard_no rfl rfl rfl rfl rfl rfl rfl ?_)
 (refine gl_guard_no rfl rfl rfl rfl rfl rfl rfl ?_)
 (refine gl_guard_no rfl rfl rfl rfl rfl rfl rfl ?_)
 refine f_ z_12 ?_
 refine m_ ?_
 (refine v_ ?_; refine m_ ?_)
 (refine v_ ?_; refine m_ ?_)
 (refine v_ ?_; refine f_ (s_lss rfl rfl) ?_)
 refine f_ z_12 ?_
 refine a_ ?_
 repeat refine n_ ?_
 refine g_ret ?_
 exact at_end1 rfl rfl [] ⟨rfl, rfl⟩ (fun _ h => h)
abbrev OwnX (a : Option Addr) (n c : Nat) (ys : List Int) : As := .own (.slice a n c) 3 1 (intsV ys)
theorem swp_stores (ys : List Int) {i j : Nat} (hi : i < ys.length) (hj : j < ys.length) : putx (putx (intsV ys) i [.int .i64 (ys.getD j 0)]) j [.int .i64 (ys.getD i 0)] = intsV (swp ys i j) := by
 rw [putx_set (xs := intsV ys) (q := i) (by rw [intsV_length]; exact hi), putx_set (by rw [List.length_set, intsV_length]; exact hj), swp]
 simp [intsV, List.map_set]
set_option maxHeartbeats 1000000 in
theorem insertion_ct (xs : List Int) (a : Option Addr) (c : Nat) (hx : xs.length ≤ 1000000) : Ct Tryz.prog 132 [.slice a xs.length c, .int .i64 0, .int .i64 (xs.length : Nat)] (fun _ => True) [OwnX a xs.length c xs] (fun v A => v = .tuple #[] ∧ A = [OwnX a xs.length c (insS xs)]) := by
 refine ct_enter 49 Tryz.func132 rfl rfl rfl ?_
 intro F _
 refine g_ownN .del (fun _ _ hs => ?_)
 repeat refine x_ ?_
 refine m_ ?_
 refine f_ (s_add_i64 rfl rfl (by omega)) ?_
 refine a_ ?_
 repeat refine n_ ?_
 refine g_loop (ι := Nat) (fun i => 1 ≤ i ∧ (i ≤ xs.length ∨ i = 1)) (fun i => [(0, .slice a xs.length c), (1, .int .i64 0), (2, .int .i64 (xs.length : Nat)), (6, .int .i64 (i : Nat))]) (fun i => [OwnX a xs.length c (insK xs i)]) (fun i => xs.length - i) 1 ⟨Nat.le_refl _, .inr rfl⟩ ?_ ?_ ?_
 ·(repeat (first | exact Sub.nil _ | refine Sub.cons rfl ?_))
 ·intro w hw; exact hw
 rintro i ⟨hi1, hi2⟩
 have hil := insK_length xs i
 repeat refine x_ ?_
 refine m_ ?_
 refine m_ ?_
 refine f_ (s_lss rfl rfl) ?_
 repeat refine n_ ?_
 refine g_cond rfl (fun h => ?_) (fun h => ?_)
 rotate_left
 ·have hge : xs.length ≤ i := by simp at h; omega
  have e : insK xs i = insS xs := by
   rcases hi2 with h2 | h2
   ·have : i = xs.length := by omega
    rw [this]; rfl
   ·subst h2
    cases xs with
    | nil => rfl
    | cons x r =>
     have : r = [] := by cases r with
      | nil => rfl
      | cons y s => simp at hge
     subst this; rfl
  rw [e]
  repeat refine y_ ?_
  exact at_end0 rfl _ ⟨rfl, rfl⟩ i_
 have hlt : i < xs.length := by simp at h; omega
 have hsome : ∃ ad, a = some ad := hs (by omega)
 repeat refine x_ ?_
 refine m_ ?_
 refine a_ ?_
 repeat refine n_ ?_
 refine g_loop (ι := List Int × Nat) (fun x => x.1.length = xs.length ∧ x.2 ≤ i ∧ inn x.2 x.1 = insK xs (i + 1)) (fun x => [(0, .slice a xs.length c), (1, .int .i64 0), (2, .int .i64 (xs.length : Nat)), (6, .int .i64 (i : Nat)), (7, .int .i64 (x.2 : Nat))]) (fun x => [OwnX a xs.length c x.1]) (fun x => x.2) (insK xs i, i) ⟨hil, Nat.le_refl _, rfl⟩ ?_ ?_ ?_
 ·(repeat (first | exact Sub.nil _ | refine Sub.cons rfl ?_))
 ·intro w hw; exact hw
 rintro ⟨ys, j⟩ ⟨hyl, hj, hR⟩
 simp only at hyl hj hR
 rcases (show j = 0 ∨ ∃ k, j = k + 1 by cases j with | zero => exact .inl rfl | succ k => exact .inr ⟨k, rfl⟩) with rfl | ⟨k, rfl⟩
 ·repeat refine y_ ?_
  refine g_draw0 ([7, 12], [0, 0, 3, 7, 15, 15, 63, 127, 15, 15, 527, 1807, 3855, 8191, 16383], []) 15 rfl ?_
  refine w_ 0 rfl (s_move rfl) ?_
  refine w_ 1 rfl (s_move rfl) ?_
  refine w_ 2 rfl ((s_gtr rfl rfl).eq (v' := .bool false) rfl) ?_
  refine w_ 3 rfl (s_move rfl) ?_
  (refine s_ 4 ?_)
  (refine s_ 5 ?_)
  (refine s_ 6 ?_)
  (refine s_ 7 ?_)
  (refine s_ 8 ?_)
  (refine s_ 9 ?_)
  (refine s_ 10 ?_)
  (refine s_ 11 ?_)
  (refine s_ 12 ?_)
  refine ga_one 13 rfl z_4 ?_
  (refine gl_guard_no rfl rfl rfl rfl rfl rfl rfl ?_)
  refine gl_nil ?_
  refine at_ga (.inl z_4) ?_
  refine w_ 14 rfl z_12 ?_
  refine ga_done z_4 ?_
  repeat refine x_ ?_
  refine m_ ?_
  refine f_ (s_add_i64 rfl rfl (by omega)) ?_
  refine a_ ?_
  repeat refine n_ ?_
  refine at_next (i + 1) ⟨by omega, .inl (by omega)⟩ (by omega) ?_ ?_
  ·(repeat (first | exact Sub.nil _ | refine Sub.cons rfl ?_))
  ·intro w hw
   rw [← hR]; exact hw
 obtain ⟨q, hq⟩ : ∃ q, q = decide (ys.getD (k + 1) 0 < ys.getD k 0) := ⟨_, rfl⟩
 repeat refine y_ ?_
 refine g_draw ([7, 12], [0, 0, 3, 7, 15, 15, 63, 127, 15, 15, 527, 1807, 3855, 8191, 16383], []) [OwnX a xs.length c ys] 15 rfl ?_
 refine w_ 0 rfl (s_move rfl) ?_
 refine w_ 1 rfl (s_move rfl) ?_
 refine w_ 2 rfl ((s_gtr rfl rfl).eq (v' := .bool true) (congrArg Value.bool (decide_eq_true (by show (0 : Int) < ((k + 1 : Nat) : Int); omega)))) ?_
 refine w_ 3 rfl (s_move rfl) ?_
 (refine ga_free_g 4 rfl (s_move rfl) rfl rfl rfl rfl rfl rfl z_4 ?_)
 (refine ga_free_g 5 rfl (s_move rfl) rfl rfl rfl rfl rfl rfl z_4 ?_)
 (refine ga_free_g 6 rfl (s_indexAddr rfl hsome rfl (by show 0 ≤ ((k + 1 : Nat) : Int) ∧ _; omega)) rfl rfl rfl rfl rfl rfl z_4 ?_)
 (refine ga_read_kg 7 rfl z_11 (s_load1 rfl (fun w hw => rdI_own (l := ys) hw .del (i := k + 1) (by omega) (by omega))) z_15 rfl rfl rfl rfl rfl rfl z_4 ?_)
 (refine ga_free_g 8 rfl (s_move rfl) rfl rfl rfl rfl rfl rfl z_4 ?_)
 (refine ga_free_g 9 rfl (s_move rfl) rfl rfl rfl rfl rfl rfl z_4 ?_)
 (refine ga_free_g 10 rfl ((s_sub_i64 rfl rfl (by show -9223372036854775808 ≤ ((k + 1 : Nat) : Int) - 1 ∧ _; omega)).eq (v' := .int .i64 (k : Nat)) (by congr 1; omega)) rfl rfl rfl rfl rfl rfl z_4 ?_)
 (refine ga_free_g 11 rfl (s_indexAddr rfl hsome rfl (by omega)) rfl rfl rfl rfl rfl rfl z_4 ?_)
 (refine ga_read_kg 12 rfl z_11 (s_load1 rfl (fun w hw => rdI_own (l := ys) hw .del (i := k) (by omega) (by omega))) z_15 rfl rfl rfl rfl rfl rfl z_4 ?_)
 refine ga_one 13 rfl z_4 ?_
 (refine v_ ?_; refine gl_callp rfl (cLess_ct (ys.getD (k + 1) 0) (ys.getD k 0)) (fun _ _ _ => trivial) rfl ?_; rw [← hq])
 refine gl_nil ?_
 refine at_ga (.inl z_4) ?_
 refine w_ 14 rfl z_13 ?_
 refine ga_done z_4 ?_
 repeat refine y_ ?_
 cases q
 ·have e : inn (k + 1) ys = ys := by rw [inn, if_neg (of_decide_eq_false hq.symm)]
  rw [e] at hR
  repeat refine x_ ?_
  refine m_ ?_
  refine f_ (s_add_i64 rfl rfl (by omega)) ?_
  refine a_ ?_
  repeat refine n_ ?_
  refine at_next (i + 1) ⟨by omega, .inl (by omega)⟩ (by omega) ?_ ?_
  ·(repeat (first | exact Sub.nil _ | refine Sub.cons rfl ?_))
  ·intro w hw
   rw [← hR]; exact hw
 ·have e : inn (k + 1) ys = inn k (swp ys (k + 1) k) := by rw [inn, if_pos (of_decide_eq_true hq.symm)]
  rw [e] at hR
  repeat refine y_ ?_
  refine g_draw ([9, 13], [0, 0, 0, 0, 8, 0, 0, 64, 224, 480, 0, 0, 3072, 7168, 16355, 32739, 65535, 131071], [15, 17]) [OwnX a xs.length c ys] 18 rfl ?_
  refine w_ 0 rfl (s_move rfl) ?_
  refine w_ 1 rfl (s_move rfl) ?_
  refine w_ 2 rfl (s_move rfl) ?_
  refine w_ 3 rfl (s_move rfl) ?_
  refine w_ 4 rfl ((s_sub_i64 rfl rfl (by show -9223372036854775808 ≤ ((k + 1 : Nat) : Int) - 1 ∧ _; omega)).eq (v' := .int .i64 (k : Nat)) (by congr 1; omega)) ?_
  refine w_ 5 rfl (s_move rfl) ?_
  refine w_ 6 rfl (s_move rfl) ?_
  refine w_ 7 rfl ((s_sub_i64 rfl rfl (by show -9223372036854775808 ≤ ((k + 1 : Nat) : Int) - 1 ∧ _; omega)).eq (v' := .int .i64 (k : Nat)) (by congr 1; omega)) ?_
  refine w_ 8 rfl (s_indexAddr rfl hsome rfl (by omega)) ?_
  refine ga_read_k 9 rfl z_11 (s_load1 rfl (fun w hw => rdI_own (l := ys) hw .del (i := k) (by omega) (by omega))) z_15 rfl rfl rfl z_4 ?_
  refine w_ 10 rfl (s_move rfl) ?_
  refine w_ 11 rfl (s_move rfl) ?_
  refine w_ 12 rfl (s_indexAddr rfl hsome rfl (by show 0 ≤ ((k + 1 : Nat) : Int) ∧ _; omega)) ?_
  refine ga_read_k 13 rfl z_11 (s_load1 rfl (fun w hw => rdI_own (l := ys) hw .del (i := k + 1) (by omega) (by omega))) z_15 rfl rfl rfl z_4 ?_
  refine w_ 14 rfl ((s_indexAddr rfl hsome rfl (by show 0 ≤ ((k + 1 : Nat) : Int) ∧ _; omega)).eq (v' := .pointer (addO a (k + 1))) (by congr 2; show ((k + 1 : Nat) : Int).toNat * 1 = k + 1; omega)) ?_
  refine ga_one 15 rfl z_4 ?_
  refine gl_store_own rfl rfl z_5 z_7 (by decide) z_3 (by show k + 1 + 1 ≤ (intsV ys).length; rw [intsV_length]; omega) ?_
  refine gl_nil ?_
  refine at_ga (.inl z_4) ?_
  refine w_ 16 rfl ((s_indexAddr rfl hsome rfl (by omega)).eq (v' := .pointer (addO a k)) (by congr 2; omega)) ?_
  refine ga_one 17 rfl z_4 ?_
  refine gl_store_own rfl rfl z_5 z_7 (by decide) z_3 (by show k + 1 ≤ (putx (intsV ys) (k + 1) [.int .i64 (ys.getD k 0)]).length; rw [putx_set (by rw [intsV_length]; omega), List.length_set, intsV_length]; omega) ?_
  refine gl_nil ?_
  refine at_ga (.inl z_4) ?_
  refine ga_done z_4 ?_
  repeat refine x_ ?_
  refine m_ ?_
  refine f_ ((s_sub_i64 rfl rfl (by show -9223372036854775808 ≤ ((k + 1 : Nat) : Int) - 1 ∧ _; omega)).eq (v' := .int .i64 (k : Nat)) (by congr 1; omega)) ?_
  refine a_ ?_
  repeat refine n_ ?_
  refine at_next (swp ys (k + 1) k, k) ⟨by rw [swp_length]; exact hyl, by omega, hR⟩ (Nat.lt_succ_self k) ?_ ?_
  ·(repeat (first | exact Sub.nil _ | refine Sub.cons rfl ?_))
  ·intro w hw
   simp only
   rw [OwnX, ← swp_stores ys (i := k + 1) (j := k) (by omega) (by omega)]
   exact hw
theorem Len64_ct (x : Int) (h : 0 ≤ x ∧ x ≤ 255) : Ct Tryz.prog 142 [.int .u64 x] (fun _ => True) [] (fun v A => (∃ r, v = .int .i64 r) ∧ A = []) := by
 refine ct_enter 25 Tryz.func142 rfl rfl rfl ?_
 intro F _
 repeat refine x_ ?_
 refine a_ ?_
 repeat refine x_ ?_
 refine m_ ?_
 refine f_ ((s_geq rfl rfl).eq (v' := .bool false) (congrArg Value.bool (decide_eq_false (by omega)))) ?_
 repeat refine x_ ?_
 refine m_ ?_
 refine f_ ((s_geq rfl rfl).eq (v' := .bool false) (congrArg Value.bool (decide_eq_false (by omega)))) ?_
 repeat refine x_ ?_
 refine m_ ?_
 refine f_ ((s_geq rfl rfl).eq (v' := .bool false) (congrArg Value.bool (decide_eq_false (by omega)))) ?_
 repeat refine x_ ?_
 refine m_ ?_
 refine m_ ?_
 refine f_ (s_conv_keep_u8 rfl (by omega)) ?_
 refine f_ (s_index_str rfl rfl ⟨h.1, Int.lt_of_le_of_lt h.2 (by decide +kernel)⟩) ?_
 refine f_ (s_conv_int rfl) ?_
 refine f_ (s_add_raw rfl rfl) ?_
 refine a_ ?_
 repeat refine n_ ?_
 refine g_ret ?_
 exact at_end1 rfl rfl [] ⟨⟨_, rfl⟩, rfl⟩ (fun _ h => h)
theorem bLen_ct (x : Int) (h : 0 ≤ x ∧ x ≤ 255) : Ct Tryz.prog 121 [.int .u64 x] (fun _ => True) [] (fun v A => (∃ r, v = .int .i64 r) ∧ A = []) := by
 refine ct_enter 8 Tryz.func121 rfl rfl rfl ?_
 intro F _
 repeat refine x_ ?_
 refine a_ ?_
 repeat refine x_ ?_
 refine m_ ?_
 refine gl_call _ rfl (Len64_ct x h) i_ (fun _ _ _ => trivial) rfl ?_; rintro v A ⟨⟨r, rfl⟩, rfl⟩
 refine a_ ?_
 repeat refine n_ ?_
 refine g_ret ?_
 exact at_end1 rfl rfl [] ⟨⟨_, rfl⟩, rfl⟩ (fun _ h => h)
theorem pdq_ct (xs : List Int) (a : Option Addr) (c : Nat) (r : Int) (hx : xs.length ≤ 12) : Ct Tryz.prog 120 [.slice a xs.length c, .int .i64 0, .int .i64 (xs.length : Nat), .int .i64 r] (fun _ => True) [OwnX a xs.length c xs] (fun v A => v = .tuple #[] ∧ A = [OwnX a xs.length c (insS xs)]) := by
 refine ct_enter 134 Tryz.func120 rfl rfl rfl ?_
 intro F _
 repeat refine x_ ?_
 refine a_ ?_
 repeat refine x_ ?_
 refine a_ ?_
 repeat refine n_ ?_
 refine g_loop (ι := Unit) (fun _ => True) (fun _ => [(0, .slice a xs.length c), (1, .int .i64 0), (2, .int .i64 (xs.length : Nat))]) (fun _ => [OwnX a xs.length c xs]) (fun _ => 0) () trivial ?_ ?_ ?_
 ·(repeat (first | exact Sub.nil _ | refine Sub.cons rfl ?_))
 ·intro w hw; exact hw
 rintro _ _
 repeat refine x_ ?_
 refine m_ ?_
 refine m_ ?_
 refine f_ (s_sub_i64 rfl rfl (by omega)) ?_
 refine a_ ?_
 repeat refine x_ ?_
 refine m_ ?_
 refine f_ ((s_leq rfl rfl).eq (v' := .bool true) (congrArg Value.bool (decide_eq_true (by omega)))) ?_
 repeat refine x_ ?_
 refine m_ ?_
 refine m_ ?_
 refine m_ ?_
 refine gl_call [] rfl (insertion_ct xs a c (by omega)) i_ (fun _ _ _ => trivial) rfl ?_; rintro v A ⟨rfl, rfl⟩
 repeat refine n_ ?_
 refine g_ret ?_
 exact at_end0 rfl _ ⟨rfl, rfl⟩ i_
theorem Sort_ct (xs : List Int) (a : Option Addr) (c : Nat) (hx : xs.length ≤ 12) : Ct Tryz.prog 96 [.slice a xs.length c] (fun _ => True) [OwnX a xs.length c xs] (fun v A => v = .tuple #[] ∧ A = [OwnX a xs.length c (insS xs)]) := by
 refine ct_enter 11 Tryz.func96 rfl rfl rfl ?_
 intro F _
 repeat refine x_ ?_
 refine m_ ?_
 refine f_ (s_len_sl rfl) ?_
 refine a_ ?_
 repeat refine x_ ?_
 refine m_ ?_
 refine m_ ?_
 refine m_ ?_
 refine f_ (s_conv_keep_u64 rfl (by omega)) ?_
 refine gl_call [OwnX a xs.length c xs] rfl (bLen_ct _ (by omega)) i_ (fun _ _ _ => trivial) rfl ?_; rintro v A ⟨⟨r, rfl⟩, rfl⟩
 refine gl_call [] rfl (pdq_ct xs a c r hx) i_ (fun _ _ _ => trivial) rfl ?_; rintro v A ⟨rfl, rfl⟩
 repeat refine n_ ?_
 exact at_end0 rfl _ ⟨rfl, rfl⟩ i_
theorem sort_votes (l : List Int) (n : Int) (hl : pick (inB l) 5 = l) (hn : 1 ≤ n ∧ n ≤ 5) (hi : inB l n = false) : insS (l ++ [n]) = pick (fun x => inB l x || decide (x = n)) 5 := by
 have h : ∀ l ∈ allF 5, ∀ n ∈ ([1, 2, 3, 4, 5] : List Int), inB l n = false → insS (l ++ [n]) = pick (fun x => inB l x || decide (x = n)) 5 := by decide +kernel
 refine h l ?_ n ?_ hi
 ·rw [← hl]
  by_cases h0 : l = []
  ·subst h0; decide
  ·refine right_mem (l := pick (inB l) 5) ?_
   have key : ∀ b1 b2 b3 b4 b5 : Bool, (b1 || b2 || b3 || b4 || b5) = true → ∀ f : Int → Bool, f 1 = b1 → f 2 = b2 → f 3 = b3 → f 4 = b4 → f 5 = b5 → rightB (pick f 5) = true := by
    intro b1 b2 b3 b4 b5 hb f h1 h2 h3 h4 h5
    have e : pick f 5 = (if b1 then [1] else []) ++ (if b2 then [2] else []) ++ (if b3 then [3] else []) ++ (if b4 then [4] else []) ++ (if b5 then [5] else []) := by
     simp only [pick_succ]
     simp [pick, h1, h2, h3, h4, h5]
    rw [e]
    revert hb
    cases b1 <;> cases b2 <;> cases b3 <;> cases b4 <;> cases b5 <;> decide
   refine key _ _ _ _ _ ?_ _ rfl rfl rfl rfl rfl
   apply Classical.byContradiction
   intro hc
   simp only [Bool.or_eq_true, not_or, Bool.not_eq_true] at hc
   apply h0
   rw [← hl]
   simp only [pick_succ]
   simp [pick, hc.1.1.1.1, hc.1.1.1.2, hc.1.1.2, hc.1.2, hc.2]
 ·have : n = 1 ∨ n = 2 ∨ n = 3 ∨ n = 4 ∨ n = 5 := by omega
  rcases this with rfl | rfl | rfl | rfl | rfl <;> simp
end Go.Proofs.YtodcghipfolejaaGreat.Rf
namespace Go.Proofs.YtodcghipfolejaaGreat.Rf
open Go Go.Sl
abbrev blkMsg (b : Nat) (m : MM) : As := .blk b (.cells (mmC m).toArray 38)
theorem MdP.said (X : Nat) (d : MD) (p1 : RP) (a1 : RA) (outs : List MM) (mm : MM) (oa : Option Addr) (oc : Nat) (r : Value) (ho : outs = d.outs) (hm : ∀ h, MOk h mm) : MdP X d p1 [mm.p] r r (mdH X ⟨p1, a1, outs ++ [mm], oa, oc⟩ ++ []) :=
 ⟨rfl, ⟨p1, a1, outs ++ [mm], oa, oc⟩, [], rfl, by rw [List.map_append, ho]; rfl, rfl, fun h f _ m hm2 => by
  rcases List.mem_append.1 hm2 with h1 | h1
  ·exact f m (ho ▸ h1)
  ·rw [List.mem_singleton.1 h1]; exact hm h⟩
theorem mok_nil (h : Heap) (m : MP) (he : m.ents = []) (hk : m.conf = []) : MOk h ⟨m, none, 0, none, 0⟩ := ⟨by rw [he]; exact RdS.nil _ _, by rw [hk]; exact RdS.nil _ _, by rw [he]; exact Nat.le_refl _⟩
set_option maxRecDepth 8000 in
set_option maxHeartbeats 4000000 in
theorem vote_ct (X : Nat) (d : MD) (m : MM) (hf : PFit d.p) (ho : d.outs.length ≤ 1000000) : Ct Tryz.prog 57 [Ptr X, mmA m] (fun _ => True) (mdH X d) (MdP X d (voteP d.p m.p) [grantM (voteP d.p m.p) m.p.frm (voteOk d.p m.p)] (.tuple #[])) := by
 obtain ⟨p, a, outs, oa0, oc0⟩ := d
 simp only at hf ho
 refine ct_enter 68 Tryz.func57 rfl rfl rfl ?_
 intro F _
 refine g_ownN (a := a.la) z_2 (fun _ hcap _ => ?_)
 obtain ⟨q1, hq1⟩ : ∃ q, q = decide (m.p.term = p.term) := ⟨_, rfl⟩
 obtain ⟨q2, hq2⟩ : ∃ q, q = decide (p.role = 0) := ⟨_, rfl⟩
 obtain ⟨q3, hq3⟩ : ∃ q, q = decide (p.vote = 0) := ⟨_, rfl⟩
 obtain ⟨q4, hq4⟩ : ∃ q, q = decide (p.vote = m.p.frm) := ⟨_, rfl⟩
 obtain ⟨q5, hq5⟩ : ∃ q, q = newerL p.g m.p.index m.p.lt := ⟨_, rfl⟩
 have hv : voteOk p m.p = (q1 && (q2 && ((q3 || q4) && q5))) := by rw [voteOk, hq1, hq2, hq3, hq4, hq5]
 obtain ⟨ok, hok⟩ : ∃ ok, ok = voteOk p m.p := ⟨_, rfl⟩
 repeat refine x_ ?_
 refine gl_boxA rfl rfl ?_; intro g3
 repeat refine n_ ?_
 refine g_cutK [(0, Ptr X), (3, Ptr g3), (4, .bool ok)] (blkMsg g3 m :: mdH X ⟨p, a, outs, oa0, oc0⟩) ?_ ?_
 ·rw [hok, hv]
  rcases (show q1 = false ∨ (q1 = true ∧ q2 = false) ∨ (q1 = true ∧ q2 = true ∧ q3 = true) ∨ (q1 = true ∧ q2 = true ∧ q3 = false ∧ q4 = true) ∨ (q1 = true ∧ q2 = true ∧ q3 = false ∧ q4 = false) by cases q1 <;> cases q2 <;> cases q3 <;> cases q4 <;> simp) with rfl | ⟨rfl, rfl⟩ | ⟨rfl, rfl, rfl⟩ | ⟨rfl, rfl, rfl, rfl⟩ | ⟨rfl, rfl, rfl, rfl⟩
  all_goals
   repeat refine y_ ?_
   refine g_draw ([1, 6, 13, 21, 28, 30, 39, 41, 43], [0, 1, 0, 4, 12, 28, 60, 127, 255, 511, 1023, 2047, 4095, 8191, 16383, 32767, 65535, 131071, 262143, 524287, 1048575, 2097151, 4194303, 8388607, 16777215, 33554431, 67108863, 134217727, 268435455, 16777215, 553648127, 2147483647, 4294967295, 8589934591, 17179869183, 34359738367, 68719476735, 137438953471, 274877906943, 549755813887, 34359738367, 1133871366143, 34359738367, 4432406249471, 17592186044415, 35184372088831, 70368744177663], []) [.blk X (mdO ⟨p, a, outs, oa0, oc0⟩), blkMsg g3 m] 47 rfl ?_
   refine w_ 0 rfl z_1 ?_
   (refine ga_read_k 1 rfl z_9 (s_load_blk rfl .del a13_3) k_ rfl rfl rfl z_4 ?_)
   refine w_ 2 rfl (s_move rfl) ?_
   refine w_ 3 rfl (s_nilCheck rfl) ?_
   refine w_ 4 rfl z_1 ?_
   refine w_ 5 rfl z_1 ?_
   (refine ga_read_k 6 rfl z_11 (s_load_blk rfl .del a19_1) k_ rfl rfl rfl z_4 ?_)
   refine w_ 7 rfl ((s_eql rfl rfl).eb hq1) ?_
   refine w_ 8 rfl (s_move rfl) ?_
   (first | refine s_ 9 ?_ | refine ga_free_g 9 rfl (s_move rfl) rfl rfl rfl rfl rfl rfl z_4 ?_)
   (first | refine s_ 10 ?_ | refine ga_free_g 10 rfl (s_nilCheck rfl) rfl rfl rfl rfl rfl rfl z_4 ?_)
   (first | refine s_ 11 ?_ | refine ga_free_g 11 rfl z_1 rfl rfl rfl rfl rfl rfl z_4 ?_)
   (first | refine s_ 12 ?_ | refine ga_free_g 12 rfl z_1 rfl rfl rfl rfl rfl rfl z_4 ?_)
   (first | refine s_ 13 ?_ | refine ga_read_kg 13 rfl z_11 (s_load_blk rfl .del a19_3) k_ rfl rfl rfl rfl rfl rfl z_4 ?_)
   (first | refine s_ 14 ?_ | refine ga_free_g 14 rfl ((s_eql rfl rfl).eb hq2) rfl rfl rfl rfl rfl rfl z_4 ?_)
   refine w_ 15 rfl z_6 ?_
   refine w_ 16 rfl (s_move rfl) ?_
   (first | refine s_ 17 ?_ | refine ga_free_g 17 rfl (s_move rfl) rfl rfl rfl rfl rfl rfl z_4 ?_)
   (first | refine s_ 18 ?_ | refine ga_free_g 18 rfl (s_nilCheck rfl) rfl rfl rfl rfl rfl rfl z_4 ?_)
   (first | refine s_ 19 ?_ | refine ga_free_g 19 rfl z_1 rfl rfl rfl rfl rfl rfl z_4 ?_)
   (first | refine s_ 20 ?_ | refine ga_free_g 20 rfl z_1 rfl rfl rfl rfl rfl rfl z_4 ?_)
   (first | refine s_ 21 ?_ | refine ga_read_kg 21 rfl z_11 (s_load_blk rfl .del a19_2) k_ rfl rfl rfl rfl rfl rfl z_4 ?_)
   (first | refine s_ 22 ?_ | refine ga_free_g 22 rfl ((s_eql rfl rfl).eb hq3) rfl rfl rfl rfl rfl rfl z_4 ?_)
   (first | refine s_ 23 ?_ | refine ga_free_g 23 rfl (s_move rfl) rfl rfl rfl rfl rfl rfl z_4 ?_)
   (first | refine s_ 24 ?_ | refine t_ 24 ?_ | refine ga_free_g 24 rfl (s_move rfl) rfl rfl rfl rfl rfl rfl z_4 ?_)
   (first | refine s_ 25 ?_ | refine t_ 25 ?_ | refine ga_free_g 25 rfl (s_nilCheck rfl) rfl rfl rfl rfl rfl rfl z_4 ?_)
   (first | refine s_ 26 ?_ | refine t_ 26 ?_ | refine ga_free_g 26 rfl z_1 rfl rfl rfl rfl rfl rfl z_4 ?_)
   (first | refine s_ 27 ?_ | refine t_ 27 ?_ | refine ga_free_g 27 rfl z_1 rfl rfl rfl rfl rfl rfl z_4 ?_)
   (first | refine s_ 28 ?_ | refine t_ 28 ?_ | refine ga_read_kg 28 rfl z_11 (s_load_blk rfl .del a19_2) k_ rfl rfl rfl rfl rfl rfl z_4 ?_)
   (first | refine s_ 29 ?_ | refine t_ 29 ?_ | refine ga_free_g 29 rfl z_1 rfl rfl rfl rfl rfl rfl z_4 ?_)
   (first | refine s_ 30 ?_ | refine t_ 30 ?_ | refine ga_read_kg 30 rfl z_9 (s_load_blk rfl .del a13_1) k_ rfl rfl rfl rfl rfl rfl z_4 ?_)
   (first | refine s_ 31 ?_ | refine t_ 31 ?_ | refine ga_free_g 31 rfl ((s_eql rfl rfl).eb hq4) rfl rfl rfl rfl rfl rfl z_4 ?_)
   (first | refine s_ 32 ?_ | refine ga_free_g 32 rfl z_6 rfl rfl rfl rfl rfl rfl z_4 ?_)
   refine w_ 33 rfl z_6 ?_
   refine w_ 34 rfl (s_move rfl) ?_
   (first | refine s_ 35 ?_ | refine ga_free_g 35 rfl (s_move rfl) rfl rfl rfl rfl rfl rfl z_4 ?_)
   (first | refine s_ 36 ?_ | refine ga_free_g 36 rfl (s_nilCheck rfl) rfl rfl rfl rfl rfl rfl z_4 ?_)
   (first | refine s_ 37 ?_ | refine ga_free_g 37 rfl z_1 rfl rfl rfl rfl rfl rfl z_4 ?_)
   (first | refine s_ 38 ?_ | refine ga_free_g 38 rfl z_1 rfl rfl rfl rfl rfl rfl z_4 ?_)
   (first | refine s_ 39 ?_ | refine ga_read_kg 39 rfl z_11 ((s_load_blkN rfl .del z_7).eq (v' := (p.lm a).v) rfl) k_ rfl rfl rfl rfl rfl rfl z_4 ?_)
   (first | refine s_ 40 ?_ | refine ga_free_g 40 rfl z_1 rfl rfl rfl rfl rfl rfl z_4 ?_)
   (first | refine s_ 41 ?_ | refine ga_read_kg 41 rfl z_9 (s_load_blk rfl .del a13_4) k_ rfl rfl rfl rfl rfl rfl z_4 ?_)
   (first | refine s_ 42 ?_ | refine ga_free_g 42 rfl z_1 rfl rfl rfl rfl rfl rfl z_4 ?_)
   (first | refine s_ 43 ?_ | refine ga_read_kg 43 rfl z_9 (s_load_blk rfl .del a13_5) k_ rfl rfl rfl rfl rfl rfl z_4 ?_)
   refine ga_one 44 rfl z_4 ?_
   (first | refine gl_guard_no rfl rfl rfl rfl rfl rfl rfl ?_ | (refine v_ ?_; refine gl_callp rfl (Newer_ct (p.lm a) m.p.index m.p.lt (hf.fit a hcap)) (fun h hh ⟨bs, hb⟩ => Sat.rd (a := a.la) hb z_2) rfl ?_; rw [show newerL (p.lm a) m.p.index m.p.lt = q5 from hq5.symm]))
   refine gl_nil ?_
   refine at_ga (.inl z_4) ?_
   refine w_ 45 rfl z_6 ?_
   refine w_ 46 rfl (s_assign rfl) ?_
   refine ga_done z_4 ?_
   repeat refine y_ ?_
   exact at_cut j_ i_
 rw [← hok]
 repeat refine x_ ?_
 refine m_ ?_
 repeat refine n_ ?_
 cases ok
 ·have e : voteP p m.p = p := by rw [voteP, ← hok, if_neg (by decide)]
  simp only [e]
  repeat refine x_ ?_
  refine m_ ?_
  refine f_ z_1 ?_
  refine r_ (by exact s_load_blk rfl z_2 a13_1) ?_
  refine m_ ?_
  refine f_ ((s_bld (cells := (mmC ⟨⟨2, 0, 0, 0, 0, 0, 0, false, [], [], 0, 0, []⟩, none, 0, none, 0⟩).toArray) rfl z_4).eq (v' := mmA ⟨⟨2, 0, 0, 0, 0, 0, 0, false, [], [], 0, 0, []⟩, none, 0, none, 0⟩) rfl) ?_
  refine gl_call [blkMsg g3 m] rfl (say_ct X ⟨p, a, outs, oa0, oc0⟩ m.p.frm ⟨⟨2, 0, 0, 0, 0, 0, 0, false, [], [], 0, 0, []⟩, none, 0, none, 0⟩ (by simp only; omega)) (fun w hw => hw.perm (perm_up z_2 (perm_up z_2 (perm_up z_2 (perm_up z_2 (perm_up z_2 (perm_up z_2 (.refl _)))))))) (fun _ _ _ => trivial) rfl ?_; rintro v A ⟨rfl, oa, oc, rfl⟩
  repeat refine n_ ?_
  exact at_end0 rfl _ (MdP.said X ⟨p, a, outs, oa0, oc0⟩ p a outs ⟨grantM p m.p.frm false, none, 0, none, 0⟩ oa oc _ rfl (fun h => mok_nil h _ rfl rfl)) (fun w hw => by rw [List.append_nil]; exact Hp.left hw)
 ·have e : voteP p m.p = { p with vote := m.p.frm, ticks := 0 } := by rw [voteP, ← hok, if_pos rfl]
  simp only [e]
  repeat refine x_ ?_
  refine m_ ?_
  refine m_ ?_
  refine f_ z_1 ?_
  refine r_ (by exact s_load_blk rfl z_2 a13_1) ?_
  refine f_ (s_nilCheck rfl) ?_
  refine f_ z_1 ?_
  refine f_ z_1 ?_
  (refine gl_store_blkC (pre := [_, _]) (post := [_, _, _, _, _, _, _, _, _, _, _, _, _, _, _, _]) rfl rfl z_5 z_7 z_7 z_7 ?_)
  refine f_ (s_nilCheck rfl) ?_
  refine f_ z_1 ?_
  refine f_ z_1 ?_
  (refine gl_store_blkC (pre := [_, _, _, _, _, _, _, _, _, _, _]) (post := [_, _, _, _, _, _, _]) rfl rfl z_5 z_7 z_7 z_7 ?_)
  repeat refine n_ ?_
  refine g_pull (H' := blkMsg g3 m :: mdH X ⟨{ p with vote := m.p.frm, ticks := 0 }, a, outs, oa0, oc0⟩) i_ ?_
  repeat refine x_ ?_
  refine m_ ?_
  refine f_ z_1 ?_
  refine r_ (by exact s_load_blk rfl z_2 a13_1) ?_
  refine m_ ?_
  refine f_ ((s_bld (cells := (mmC ⟨⟨2, 0, 0, 0, 0, 0, 0, true, [], [], 0, 0, []⟩, none, 0, none, 0⟩).toArray) rfl z_4).eq (v' := mmA ⟨⟨2, 0, 0, 0, 0, 0, 0, true, [], [], 0, 0, []⟩, none, 0, none, 0⟩) rfl) ?_
  refine gl_call [blkMsg g3 m] rfl (say_ct X ⟨{ p with vote := m.p.frm, ticks := 0 }, a, outs, oa0, oc0⟩ m.p.frm ⟨⟨2, 0, 0, 0, 0, 0, 0, true, [], [], 0, 0, []⟩, none, 0, none, 0⟩ (by simp only; omega)) (fun w hw => hw.perm (perm_up z_2 (perm_up z_2 (perm_up z_2 (perm_up z_2 (perm_up z_2 (perm_up z_2 (.refl _)))))))) (fun _ _ _ => trivial) rfl ?_; rintro v A ⟨rfl, oa, oc, rfl⟩
  repeat refine n_ ?_
  exact at_end0 rfl _ (MdP.said X ⟨p, a, outs, oa0, oc0⟩ { p with vote := m.p.frm, ticks := 0 } a outs ⟨grantM { p with vote := m.p.frm, ticks := 0 } m.p.frm true, none, 0, none, 0⟩ oa oc _ rfl (fun h => mok_nil h _ rfl rfl)) (fun w hw => by rw [List.append_nil]; exact Hp.left hw)
def VotesOk (p : RP) : Prop := pick (inB p.votes) 5 = p.votes
theorem pf_grant1 {p : RP} (h : PFit p) (m : MP) : PFit (grant1 p m) := ⟨h.base, h.len, h.cl, h.dat, h.img, (by have := pick_le (fun x => inB p.votes x || decide (x = m.frm)) 5; show (votesL p m.frm).length ≤ _; rw [votesL]; omega), h.peers, h.prs, h.ticks, h.term, h.commit⟩
set_option maxRecDepth 8000 in
set_option maxHeartbeats 4000000 in
theorem grant_ct (X : Nat) (d : MD) (m : MM) (hf : PFit d.p) (hv : VotesOk d.p) (hm : 1 ≤ m.p.frm ∧ m.p.frm ≤ 5) (hl : d.p.l.length ≤ 99999) (ho : d.outs.length ≤ 1000000) : Ct Tryz.prog 58 [Ptr X, mmA m] (fun _ => True) (mdH X d) (MdP X d (grantP d.p m.p) (grantMs d.p m.p) (.tuple #[])) := by
 obtain ⟨p, a, outs, oa0, oc0⟩ := d
 simp only at hf ho hv hl
 have hvl : p.votes.length ≤ 5 := by rw [← hv]; exact pick_le _ _
 refine ct_enter 66 Tryz.func58 rfl rfl rfl ?_
 intro F _
 refine g_ownN (a := a.la) z_2 (fun _ hcap _ => ?_)
 obtain ⟨q1, hq1⟩ : ∃ q, q = decide (p.role = 1) := ⟨_, rfl⟩
 obtain ⟨q2, hq2⟩ : ∃ q, q = decide (m.p.term = p.term) := ⟨_, rfl⟩
 obtain ⟨q3, hq3⟩ : ∃ q, q = m.p.ok := ⟨_, rfl⟩
 have hg : grantOk p m.p = (q1 && (q2 && q3)) := by rw [grantOk, hq1, hq2, hq3]
 repeat refine x_ ?_
 refine gl_boxA rfl rfl ?_; intro g3
 repeat refine n_ ?_
 rcases (show (q1 = true ∧ q2 = true ∧ q3 = true) ∨ q1 = false ∨ (q1 = true ∧ q2 = false) ∨ (q1 = true ∧ q2 = true ∧ q3 = false) by cases q1 <;> cases q2 <;> cases q3 <;> simp) with ⟨rfl, rfl, rfl⟩ | rfl | ⟨rfl, rfl⟩ | ⟨rfl, rfl, rfl⟩
 rotate_left
 iterate 3
  ·have h0 : grantOk p m.p = false := by rw [hg]; rfl
   have e1 : grantP p m.p = p := by rw [grantP, h0, if_neg (by decide)]
   have e2 : grantMs p m.p = [] := by rw [grantMs, h0, if_neg (by decide)]
   simp only [e1, e2]
   repeat refine y_ ?_
   refine g_draw ([4, 8, 13, 18], [0, 1, 3, 7, 15, 31, 63, 127, 255, 127, 639, 1663, 3711, 7807, 16383, 32767, 65535, 131071, 262143, 524287, 1048575], []) [.blk X (mdO ⟨p, a, outs, oa0, oc0⟩), blkMsg g3 m] 21 rfl ?_
   refine w_ 0 rfl (s_move rfl) ?_
   refine w_ 1 rfl (s_nilCheck rfl) ?_
   refine w_ 2 rfl z_1 ?_
   refine w_ 3 rfl z_1 ?_
   (refine ga_read_k 4 rfl z_11 (s_load_blk rfl .del a19_3) k_ rfl rfl rfl z_4 ?_)
   refine w_ 5 rfl ((s_neq rfl rfl).eq (congrArg (fun b => Value.bool (!b)) hq1.symm)) ?_
   refine w_ 6 rfl (s_move rfl) ?_
   (first | refine s_ 7 ?_ | refine ga_free_g 7 rfl z_1 rfl rfl rfl rfl rfl rfl z_4 ?_)
   (first | refine s_ 8 ?_ | refine ga_read_kg 8 rfl z_9 (s_load_blk rfl .del a13_3) k_ rfl rfl rfl rfl rfl rfl z_4 ?_)
   (first | refine s_ 9 ?_ | refine ga_free_g 9 rfl (s_move rfl) rfl rfl rfl rfl rfl rfl z_4 ?_)
   (first | refine s_ 10 ?_ | refine ga_free_g 10 rfl (s_nilCheck rfl) rfl rfl rfl rfl rfl rfl z_4 ?_)
   (first | refine s_ 11 ?_ | refine ga_free_g 11 rfl z_1 rfl rfl rfl rfl rfl rfl z_4 ?_)
   (first | refine s_ 12 ?_ | refine ga_free_g 12 rfl z_1 rfl rfl rfl rfl rfl rfl z_4 ?_)
   (first | refine s_ 13 ?_ | refine ga_read_kg 13 rfl z_11 (s_load_blk rfl .del a19_1) k_ rfl rfl rfl rfl rfl rfl z_4 ?_)
   (first | refine s_ 14 ?_ | refine ga_free_g 14 rfl ((s_neq rfl rfl).eq (congrArg (fun b => Value.bool (!b)) hq2.symm)) rfl rfl rfl rfl rfl rfl z_4 ?_)
   refine w_ 15 rfl z_6 ?_
   refine w_ 16 rfl (s_move rfl) ?_
   (first | refine s_ 17 ?_ | refine ga_free_g 17 rfl z_1 rfl rfl rfl rfl rfl rfl z_4 ?_)
   (first | refine s_ 18 ?_ | refine ga_read_kg 18 rfl z_9 (s_load_blk rfl .del a13_7) k_ rfl rfl rfl rfl rfl rfl z_4 ?_)
   (first | refine s_ 19 ?_ | refine ga_free_g 19 rfl ((s_not rfl).eq (congrArg (fun b => Value.bool (!b)) hq3.symm)) rfl rfl rfl rfl rfl rfl z_4 ?_)
   refine w_ 20 rfl z_6 ?_
   refine ga_done z_4 ?_
   repeat refine y_ ?_
   refine g_ret ?_
   exact at_end0 rfl (mdH X ⟨p, a, outs, oa0, oc0⟩ ++ []) (MdP.same X ⟨p, a, outs, oa0, oc0⟩ ⟨p, a, outs, oa0, oc0⟩ _ rfl) (fun w hw => hw.drop)
 have h0 : grantOk p m.p = true := by rw [hg]; rfl
 have e1 : grantP p m.p = if wins (grant1 p m.p) = true then leadP (grant1 p m.p) else grant1 p m.p := by rw [grantP, h0, if_pos rfl]
 have e2 : grantMs p m.p = if wins (grant1 p m.p) = true then leadM (grant1 p m.p) else [] := by rw [grantMs, h0, if_pos rfl]
 rw [e1, e2]
 obtain ⟨q, hq⟩ : ∃ q, q = inB p.votes m.p.frm := ⟨_, rfl⟩
 repeat refine y_ ?_
 refine g_draw ([4, 8, 13, 18], [0, 1, 3, 7, 15, 31, 63, 127, 255, 127, 639, 1663, 3711, 7807, 16383, 32767, 65535, 131071, 262143, 524287, 1048575], []) [.blk X (mdO ⟨p, a, outs, oa0, oc0⟩), blkMsg g3 m] 21 rfl ?_
 refine w_ 0 rfl (s_move rfl) ?_
 refine w_ 1 rfl (s_nilCheck rfl) ?_
 refine w_ 2 rfl z_1 ?_
 refine w_ 3 rfl z_1 ?_
 (refine ga_read_k 4 rfl z_11 (s_load_blk rfl .del a19_3) k_ rfl rfl rfl z_4 ?_)
 refine w_ 5 rfl ((s_neq rfl rfl).eq (congrArg (fun b => Value.bool (!b)) hq1.symm)) ?_
 refine w_ 6 rfl (s_move rfl) ?_
 (refine ga_free_g 7 rfl z_1 rfl rfl rfl rfl rfl rfl z_4 ?_)
 (refine ga_read_kg 8 rfl z_9 (s_load_blk rfl .del a13_3) k_ rfl rfl rfl rfl rfl rfl z_4 ?_)
 (refine ga_free_g 9 rfl (s_move rfl) rfl rfl rfl rfl rfl rfl z_4 ?_)
 (refine ga_free_g 10 rfl (s_nilCheck rfl) rfl rfl rfl rfl rfl rfl z_4 ?_)
 (refine ga_free_g 11 rfl z_1 rfl rfl rfl rfl rfl rfl z_4 ?_)
 (refine ga_free_g 12 rfl z_1 rfl rfl rfl rfl rfl rfl z_4 ?_)
 (refine ga_read_kg 13 rfl z_11 (s_load_blk rfl .del a19_1) k_ rfl rfl rfl rfl rfl rfl z_4 ?_)
 (refine ga_free_g 14 rfl ((s_neq rfl rfl).eq (congrArg (fun b => Value.bool (!b)) hq2.symm)) rfl rfl rfl rfl rfl rfl z_4 ?_)
 refine w_ 15 rfl z_12 ?_
 refine w_ 16 rfl (s_move rfl) ?_
 (refine ga_free_g 17 rfl z_1 rfl rfl rfl rfl rfl rfl z_4 ?_)
 (refine ga_read_kg 18 rfl z_9 (s_load_blk rfl .del a13_7) k_ rfl rfl rfl rfl rfl rfl z_4 ?_)
 (refine ga_free_g 19 rfl ((s_not rfl).eq (congrArg (fun b => Value.bool (!b)) hq3.symm)) rfl rfl rfl rfl rfl rfl z_4 ?_)
 refine w_ 20 rfl z_12 ?_
 refine ga_done z_4 ?_
 repeat refine y_ ?_
 refine g_draw ([4, 6], [0, 1, 3, 7, 15, 0, 32, 127, 255], [7]) [.blk X (mdO ⟨p, a, outs, oa0, oc0⟩), blkMsg g3 m] 9 rfl ?_
 refine w_ 0 rfl (s_move rfl) ?_
 refine w_ 1 rfl (s_nilCheck rfl) ?_
 refine w_ 2 rfl z_1 ?_
 refine w_ 3 rfl z_1 ?_
 (refine ga_read_k 4 rfl z_11 (s_load_blk rfl .del a19_13) k_ rfl rfl rfl z_4 ?_)
 refine w_ 5 rfl z_1 ?_
 (refine ga_read_k 6 rfl z_9 (s_load_blk rfl .del a13_1) k_ rfl rfl rfl z_4 ?_)
 refine ga_one 7 rfl z_4 ?_
 refine gl_callp rfl (Contains_ct p.votes m.p.frm a.va a.vc (by omega)) (fun h hh ⟨bs, hb⟩ => Sat.rd (a := a.va) hb z_2) rfl ?_; rw [← hq]
 refine gl_nil ?_
 refine at_ga (.inl z_4) ?_
 refine w_ 8 rfl (s_not rfl) ?_
 refine ga_done z_4 ?_
 repeat refine y_ ?_
 refine g_cutE (ι := Option Addr × Nat) (fun _ => [(0, Ptr X), (3, Ptr g3)]) (fun x => blkMsg g3 m :: mdH X ⟨grant1 p m.p, { a with va := x.1, vc := x.2 }, outs, oa0, oc0⟩) ?_ (fun x => ?_)
 ·cases q
  ·repeat refine y_ ?_
   repeat refine y_ ?_
   refine g_draw ([5, 7], [0, 0, 2, 6, 14, 30, 0, 64, 192, 510, 1023, 2047, 4095, 8191], [8, 9, 13]) [.blk X (mdO ⟨p, a, outs, oa0, oc0⟩), blkMsg g3 m] 14 rfl ?_
   refine w_ 0 rfl (s_move rfl) ?_
   refine w_ 1 rfl (s_move rfl) ?_
   refine w_ 2 rfl (s_nilCheck rfl) ?_
   refine w_ 3 rfl z_1 ?_
   refine w_ 4 rfl z_1 ?_
   (refine ga_read_k 5 rfl z_11 (s_load_blk rfl .del a19_13) k_ rfl rfl rfl z_4 ?_)
   refine w_ 6 rfl z_1 ?_
   (refine ga_read_k 7 rfl z_9 (s_load_blk rfl .del a13_1) k_ rfl rfl rfl z_4 ?_)
   refine ga_one 8 rfl z_4 ?_
   refine gl_buildSliceU rfl rfl rfl rfl rfl rfl (xs := intsV [m.p.frm]) rfl rfl ?_; intro a42 ha42
   refine gl_nil ?_
   refine at_ga (.inr (by exact keeps_of k_)) ?_
   refine ga_one 9 rfl z_4 ?_
   refine gl_append (sz := 1) rfl rfl (fun a' c' => z_5) (fun w hw => (hw.ownN z_2).2.2.1) rfl rfl rfl (by intro q hq; simp [intsV] at hq; subst hq; rfl) (by show (p.votes.length + 1) * 8 ≤ 140737488355328; omega) (by show p.votes.length + 1 ≤ 9223372036854775807; omega) rfl ?_; intro a43 c43 hc43
   refine gl_nil ?_
   refine at_ga (.inl z_4) ?_
   refine w_ 10 rfl (s_nilCheck rfl) ?_
   refine w_ 11 rfl z_1 ?_
   refine w_ 12 rfl z_1 ?_
   refine ga_one 13 rfl z_4 ?_
   (refine gl_store_blkC (pre := [_, _, _, _, _, _, _, _, _, _, _, _, _]) (post := [_, _, _, _, _]) rfl rfl z_5 z_7 z_7 z_7 ?_)
   refine gl_nil ?_
   refine at_ga (.inl z_4) ?_
   refine ga_done z_4 ?_
   repeat refine y_ ?_
   have hlen : (p.votes ++ [m.p.frm]).length = p.votes.length + 1 := by simp
   have happ : intsV p.votes ++ intsV [m.p.frm] = intsV (p.votes ++ [m.p.frm]) := by simp [intsV]
   refine g_pull (H' := OwnX a43 (p.votes ++ [m.p.frm]).length c43 (p.votes ++ [m.p.frm]) :: [.blk X (mdO ⟨{ p with votes := p.votes ++ [m.p.frm] }, { a with va := a43, vc := c43 }, outs, oa0, oc0⟩), blkMsg g3 m, OwnL a.la p.l a.lc, OwnC a.ca p.conf a.cc, OwnP a.pa p.peers a.pc, OwnM oa0 outs oc0]) (fun w hw => by
    rw [OwnX, ← happ, mdO]
    simp only [hlen]
    exact Hp.left (R := [.own (.slice a42 1 1) 3 1 (intsV [m.p.frm])]) (hw.perm (perm_up z_2 (perm_up z_2 (perm_up z_2 (perm_up z_2 (perm_up z_2 (perm_up z_2 (perm_up z_2 (.refl _)))))))))) ?_
   repeat refine x_ ?_
   refine m_ ?_
   refine f_ (s_nilCheck rfl) ?_
   refine f_ z_1 ?_
   refine f_ z_1 ?_
   refine r_ ((s_load_blk rfl z_2 a19_13).eq (v' := .slice a43 (p.votes ++ [m.p.frm]).length c43) rfl) ?_
   refine gl_call [.blk X (mdO ⟨{ p with votes := p.votes ++ [m.p.frm] }, { a with va := a43, vc := c43 }, outs, oa0, oc0⟩), blkMsg g3 m, OwnL a.la p.l a.lc, OwnC a.ca p.conf a.cc, OwnP a.pa p.peers a.pc, OwnM oa0 outs oc0] rfl (Sort_ct (p.votes ++ [m.p.frm]) a43 c43 (by rw [hlen]; omega)) i_ (fun _ _ _ => trivial) rfl ?_; rw [sort_votes p.votes m.p.frm hv hm hq.symm]; rintro v A ⟨rfl, rfl⟩
   repeat refine n_ ?_
   have hvl2 : (votesL p m.p.frm).length = (p.votes ++ [m.p.frm]).length := by
    have := insK_length (p.votes ++ [m.p.frm]) (p.votes ++ [m.p.frm]).length
    rw [votesL, ← sort_votes p.votes m.p.frm hv hm hq.symm]
    exact this
   exact at_cutE (a43, c43) j_ (fun w hw => by
    simp only [grant1, mdH, mdO, OwnC, hvl2]
    exact hw.perm (perm_up z_2 (perm_up z_2 (perm_up z_2 (perm_up z_2 (perm_up z_2 (perm_up z_2 (.refl _))))))))
  ·have ev : grant1 p m.p = p := by
    have : votesL p m.p.frm = p.votes := by
     have e3 : (fun x => inB p.votes x || decide (x = m.p.frm)) = inB p.votes := by
      funext x
      by_cases hx : x = m.p.frm
      ·subst hx; rw [← hq]; simp
      ·simp [hx]
     rw [votesL, e3]; exact hv
    rw [grant1, this]
   repeat refine y_ ?_
   exact at_cutE (a.va, a.vc) j_ (fun w hw => by rw [ev]; exact hw)
 obtain ⟨va, vc⟩ := x
 have hf1 := pf_grant1 hf m.p
 have hl1 : (grant1 p m.p).l.length ≤ 99999 := hl
 obtain ⟨p1, hp1⟩ : ∃ p1, p1 = grant1 p m.p := ⟨_, rfl⟩
 obtain ⟨a1, ha1⟩ : ∃ a1, a1 = ({ a with va := va, vc := vc } : RA) := ⟨_, rfl⟩
 have hcap1 : p1.l.length ≤ a1.lc := by rw [hp1, ha1]; exact hcap
 have hcn : (confL p1).length ≤ 1000000 := by rw [hp1]; exact hf1.cn _
 have hvl1 : p1.votes.length ≤ 5 := by rw [hp1]; exact pick_le _ _
 rw [← hp1] at hf1 hl1
 simp only [← hp1, ← ha1]
 repeat refine y_ ?_
 refine g_draw ([3, 9], [0, 1, 3, 7, 15, 0, 32, 96, 224, 480, 1023], [4, 10]) [.blk X (mdO ⟨p1, a1, outs, oa0, oc0⟩)] 11 rfl ?_
 refine w_ 0 rfl (s_move rfl) ?_
 refine w_ 1 rfl (s_nilCheck rfl) ?_
 refine w_ 2 rfl z_1 ?_
 refine ga_read_k 3 rfl z_11 ((s_load_blkN rfl .del z_7).eq (v' := rsV p1 a1) rfl) k_ rfl rfl rfl z_4 ?_
 refine w_ 5 rfl (s_move rfl) ?_
 refine w_ 6 rfl (s_nilCheck rfl) ?_
 refine w_ 7 rfl z_1 ?_
 refine w_ 8 rfl z_1 ?_
 (refine ga_read_k 9 rfl z_11 (s_load_blk rfl .del a19_13) k_ rfl rfl rfl z_4 ?_)
 refine ga_one 4 rfl z_4 ?_
 refine gl_call _ rfl (Members_ct p1 a1 hf1 hcap1) i_ (fun h hh ⟨bs, hb⟩ => ⟨Sat.rd (a := a1.ca) hb z_2, Sat.rd (a := a1.la) hb z_2⟩) rfl ?_; rintro v A ⟨ca, cc, rfl, rfl⟩
 refine gl_nil ?_
 refine at_ga (.inr (by exact keeps_of k_)) ?_
 refine ga_one 10 rfl z_4 ?_
 refine gl_callp rfl (Most_ct (confL p1) p1.votes ca a1.va cc a1.vc (by omega) (by omega)) (fun h hh ⟨bs, hb⟩ => ⟨Sat.rd (a := ca) hb z_2, Sat.rd (a := a1.va) hb z_2⟩) rfl ?_; rw [show mostB (confL p1) p1.votes = wins p1 from rfl]
 refine gl_nil ?_
 refine at_ga (.inl z_4) ?_
 refine ga_done z_4 ?_
 repeat refine y_ ?_
 cases hw1 : wins p1
 ·rw [if_neg (by decide), if_neg (by decide)]
  repeat refine y_ ?_
  exact at_end0 rfl (mdH X ⟨p1, a1, outs, oa0, oc0⟩ ++ []) (MdP.same X ⟨p, a, outs, oa0, oc0⟩ ⟨p1, a1, outs, oa0, oc0⟩ _ rfl) (fun w hw => hw.drop.drop)
 ·rw [if_pos rfl, if_pos rfl]
  repeat refine x_ ?_
  refine m_ ?_
  refine gl_call [OwnC ca (confL p1) cc, blkMsg g3 m] rfl (lead_ct X ⟨p1, a1, outs, oa0, oc0⟩ hf1 hl1 ho) (fun w hw => hw.perm (perm_up z_2 (perm_up z_2 (perm_up z_2 (perm_up z_2 (perm_up z_2 (perm_up z_2 (.refl _)))))))) (fun _ _ _ => trivial) rfl ?_; rintro v A ⟨rfl, d2, Z2, e3, o2, rfl, f2⟩
  repeat refine n_ ?_
  exact at_end0 rfl (mdH X d2 ++ Z2) ⟨rfl, d2, Z2, e3, o2, rfl, f2⟩ (fun w hw => Hp.left hw)
end Go.Proofs.YtodcghipfolejaaGreat.Rf
namespace Go.Proofs.YtodcghipfolejaaGreat.Rf
open Go Go.Sl
section
variable {P : Program} {L : Lcs} {dst : Option Tmp} {ty : TypeId} {pos : String} {af : Array Edge} {gd : Option (Nat × Bool)} {x y z : Operand} {k : IntKind} {m n r : Int}
theorem s_min3 (hx : ev L x = some (.int k m)) (hy : ev L y = some (.int k n)) (hz : ev L z = some (.int k r)) {tys : Array TypeId} : OpF P ⟨dst, .call ⟨.builtin .min, #[x, y, z], tys⟩, ty, pos, af, gd⟩ L (.int k (min (min m n) r)) := by
 unfold OpF
 intro ρ w hf
 have e : (if n < m then n else m) = min m n := by split <;> omega
 have e2 : (if r < min m n then r else min m n) = min (min m n) r := by split <;> omega
 simp [execOp, resolve, invoke, builtin, Builtin.min_, Builtin.min2, hf _ _ hx, hf _ _ hy, hf _ _ hz, e, e2]
end
structure MFit (m : MP) : Prop where
 index : 0 ≤ m.index ∧ m.index ≤ 18446744073709551615
 lt : 0 ≤ m.lt ∧ m.lt ≤ 18446744073709551615
 commit : 0 ≤ m.commit ∧ m.commit ≤ 18446744073709551615
 term : 0 ≤ m.term ∧ m.term ≤ 18446744073709551615
 el : m.ents.length ≤ 1000
 ed : ∀ e ∈ m.ents, e.2.2.length ≤ 1000000000000
 conf : m.conf.length ≤ 1000
 off : -9223372036854775808 ≤ m.off ∧ m.off ≤ 9223372036854775807
theorem mrgB_cases (g : LM) (prev term : Int) (l : List Ent) : (mrgB g prev term l).l = g.l ∨ ∃ a b, (mrgB g prev term l).l = g.l.take a ++ l.drop b := by
 unfold mrgB
 split
 ·exact .inl rfl
 ·split
  ·exact .inl rfl
  ·exact .inr ⟨_, _, rfl⟩
theorem mrgB_mem {g : LM} {prev term : Int} {l : List Ent} {e : Ent} (h : e ∈ (mrgB g prev term l).l) : e ∈ g.l ∨ e ∈ l := by
 rcases mrgB_cases g prev term l with h1 | ⟨a, b, h1⟩
 ·rw [h1] at h; exact .inl h
 ·rw [h1] at h
  rcases List.mem_append.1 h with h | h
  ·exact .inl (List.mem_of_mem_take h)
  ·exact .inr (List.mem_of_mem_drop h)
theorem mrgB_len (g : LM) (prev term : Int) (l : List Ent) : (mrgB g prev term l).l.length ≤ g.l.length + l.length := by
 rcases mrgB_cases g prev term l with h1 | ⟨a, b, h1⟩
 ·rw [h1]; omega
 ·rw [h1, List.length_append, List.length_take, List.length_drop]; omega
theorem tk_mem {p : RP} {m : MP} {e : Ent} (h : e ∈ (tkR p m).l) : e ∈ p.l ∨ e ∈ m.ents := by
 unfold tkR mrgL at h
 split at h
 ·rcases mrgB_mem h with h | h
  ·exact .inl h
  ·exact .inr (List.mem_of_mem_drop h)
 ·exact mrgB_mem h
theorem tk_len (p : RP) (m : MP) : (tkR p m).l.length ≤ p.l.length + m.ents.length := by
 unfold tkR mrgL
 split
 ·have := mrgB_len p.g p.g.base p.g.bt (m.ents.drop (p.g.base - m.index).toNat)
  rw [List.length_drop] at this
  have e : p.g.l.length = p.l.length := rfl
  omega
 ·exact mrgB_len p.g m.index m.lt m.ents
theorem tk_any (p : RP) (a : RA) (m : MP) : mrgL (p.lm a) m.index m.lt m.ents = tkR p m := rfl
theorem tk_index {p : RP} {m : MP} (hf : PFit p) (h : (tkR p m).ok = true) : m.index ≤ 2305843009213793952 := by
 have hl := hf.last
 by_cases hb : m.index < p.base
 ·have := hf.base; omega
 ·have e : (tkR p m).ok = (mrgB p.g m.index m.lt m.ents).ok := by rw [tkR, mrgL, if_neg hb]
  rw [e] at h
  unfold mrgB at h
  split at h
  ·cases h
  ·rename_i h1
   have h2 : hasL p.g m.index = true := by
    cases h3 : hasL p.g m.index
    ·rw [h3] at h1; simp at h1
    ·rfl
   simp only [hasL, Bool.and_eq_true, decide_eq_true_eq] at h2
   unfold lastI at hl
   have e1 : p.g.base = p.base := rfl
   have e2 : p.g.l.length = p.l.length := rfl
   omega
theorem dat_mem {l : List Ent} : (∀ i, i < l.length → (l.getD i E0).2.2.length ≤ 1000000000000) ↔ ∀ e ∈ l, e.2.2.length ≤ 1000000000000 := by
 constructor
 ·intro h e he
  obtain ⟨i, hi, rfl⟩ := List.mem_iff_getElem.1 he
  have := h i hi
  rwa [List.getD_eq_getElem?_getD, List.getElem?_eq_getElem hi] at this
 ·intro h i hi
  rw [List.getD_eq_getElem?_getD, List.getElem?_eq_getElem hi]
  exact h _ (List.getElem_mem hi)
def take1 (p : RP) (m : MP) : RP := { p with l := (tkR p m).l }
theorem pf_take1 {p : RP} {m : MP} (h : PFit p) (hm : MFit m) (hl : p.l.length ≤ 99000) : PFit (take1 p m) := by
 refine ⟨h.base, ?_, h.cl, ?_, h.img, h.votes, h.peers, h.prs, h.ticks, h.term, h.commit⟩
 ·have := tk_len p m
  have := hm.el
  show (tkR p m).l.length ≤ _
  omega
 ·refine dat_mem.2 fun e he => ?_
  rcases tk_mem he with h1 | h1
  ·exact dat_mem.1 h.dat e h1
  ·exact hm.ed e h1
abbrev ackMM (ok : Bool) (i : Int) : MM := ⟨⟨4, 0, 0, 0, i, 0, 0, ok, [], [], 0, 0, []⟩, none, 0, none, 0⟩
set_option maxRecDepth 8000 in
set_option maxHeartbeats 4000000 in
theorem take_ct (X : Nat) (d : MD) (m : MM) (hf : PFit d.p) (hm : MFit m.p) (hl : d.p.l.length ≤ 99000) (ho : d.outs.length ≤ 1000000) : Ct Tryz.prog 97 [Ptr X, mmA m] (fun h => MOk h m) (mdH X d) (MdP X d (tkP d.p m.p) (tkM d.p m.p) (.tuple #[])) := by
 obtain ⟨p, a, outs, oa0, oc0⟩ := d
 simp only at hf ho hl
 have hix := hm.index
 have hel := hm.el
 have hf1 := pf_take1 hf hm hl
 have hlast := hf.last
 refine ct_enter 85 Tryz.func97 rfl rfl rfl ?_
 intro F hmo
 refine g_ownN (a := a.la) z_2 (fun _ hcap _ => ?_)
 obtain ⟨r, hr⟩ : ∃ r, r = tkR p m.p := ⟨_, rfl⟩
 repeat refine x_ ?_
 refine gl_boxA rfl rfl ?_; intro g3
 repeat refine n_ ?_
 refine g_cutE (ι := Nat × LM) (fun x => [(0, Ptr X), (3, Ptr g3), (4, Ptr x.1), (5, .int .u64 r.at_), (6, .bool r.ok)]) (fun x => .blk x.1 (.cells #[.int .u64 p.base, .int .u64 p.bt, .slice x.2.ca p.conf.length x.2.cc, .slice x.2.la r.l.length x.2.lc] 46) :: OwnL x.2.la r.l x.2.lc :: OwnC x.2.ca p.conf x.2.cc :: blkMsg g3 m :: mdH X ⟨p, a, outs, oa0, oc0⟩) ?_ (fun x => ?_)
 ·repeat refine y_ ?_
  refine g_draw ([4, 6, 8, 10], [0, 1, 3, 7, 15, 0, 32, 0, 128, 0, 512, 2047, 4095, 8191, 8191, 8191, 0, 81919, 229375, 524287], [11, 16, 17]) [.blk X (mdO ⟨p, a, outs, oa0, oc0⟩), blkMsg g3 m] 20 rfl ?_
  refine w_ 0 rfl (s_move rfl) ?_
  refine w_ 1 rfl (s_nilCheck rfl) ?_
  refine w_ 2 rfl z_1 ?_
  refine w_ 3 rfl z_1 ?_
  refine ga_read_k 4 rfl z_11 ((s_load_blkN rfl .del z_7).eq (v' := (p.lm a).v) rfl) k_ rfl rfl rfl z_4 ?_
  refine w_ 5 rfl z_1 ?_
  (refine ga_read_k 6 rfl z_9 (s_load_blk rfl .del a13_4) k_ rfl rfl rfl z_4 ?_)
  refine w_ 7 rfl z_1 ?_
  (refine ga_read_k 8 rfl z_9 (s_load_blk rfl .del a13_5) k_ rfl rfl rfl z_4 ?_)
  refine w_ 9 rfl z_1 ?_
  (refine ga_read_k 10 rfl z_9 (s_load_blk rfl .del a13_8) k_ rfl rfl rfl z_4 ?_)
  refine ga_two 11 16 rfl rfl z_4 ?_ ?_
  refine gl_call _ rfl (Merge_ct (p.lm a) m.p.index m.p.lt m.p.ents m.ea m.ec (hf.fit a hcap) hix (by omega) hmo.ec) i_ (fun h hh ⟨bs, hb⟩ => ⟨⟨Sat.rd (a := a.ca) hb z_2, Sat.rd (a := a.la) hb z_2⟩, hmo.e.le hh⟩) rfl ?_; rw [tk_any, ← hr]; rintro v A ⟨ca, cc, la, lc, rfl, rfl⟩
  refine gl_nil ?_
  refine at_ga (.inl z_4) ?_
  refine w_ 12 rfl (s_move rfl) ?_
  refine w_ 13 rfl (s_extract rfl rfl) ?_
  refine w_ 14 rfl (s_extract rfl rfl) ?_
  refine w_ 15 rfl (s_extract rfl rfl) ?_
  refine ga_one 16 rfl z_4 ?_
  refine gl_allocA rfl ?_; intro g4
  refine gl_nil ?_
  refine at_ga (.inl z_4) ?_
  refine ga_one 17 rfl z_4 ?_
  (refine gl_store_blkW rfl rfl z_5 z_7 z_7 z_3 ?_)
  refine gl_nil ?_
  refine at_ga (.inl z_4) ?_
  refine w_ 18 rfl (s_assign rfl) ?_
  refine w_ 19 rfl (s_assign rfl) ?_
  refine ga_done z_4 ?_
  rotate_left 1
  refine gl_allocA rfl ?_; intro g4
  refine gl_nil ?_
  refine at_ga (.inr (by exact keeps_of k_)) ?_
  refine ga_one 11 rfl z_4 ?_
  refine gl_call _ rfl (Merge_ct (p.lm a) m.p.index m.p.lt m.p.ents m.ea m.ec (hf.fit a hcap) hix (by omega) hmo.ec) i_ (fun h hh ⟨bs, hb⟩ => ⟨⟨Sat.rd (a := a.ca) hb z_2, Sat.rd (a := a.la) hb z_2⟩, hmo.e.le hh⟩) rfl ?_; rw [tk_any, ← hr]; rintro v A ⟨ca, cc, la, lc, rfl, rfl⟩
  refine gl_nil ?_
  refine at_ga (.inl z_4) ?_
  refine w_ 12 rfl (s_move rfl) ?_
  refine w_ 13 rfl (s_extract rfl rfl) ?_
  refine w_ 14 rfl (s_extract rfl rfl) ?_
  refine w_ 15 rfl (s_extract rfl rfl) ?_
  refine ga_one 17 rfl z_4 ?_
  (refine gl_store_blkW rfl rfl z_5 z_7 z_7 z_3 ?_)
  refine gl_nil ?_
  refine at_ga (.inl z_4) ?_
  refine w_ 18 rfl (s_assign rfl) ?_
  refine w_ 19 rfl (s_assign rfl) ?_
  refine ga_done z_4 ?_
  rotate_left 1
  all_goals (repeat refine y_ ?_)
  all_goals
   exact at_cutE (⟨g4, ⟨0, 0, [], [], ca, cc, la, lc⟩⟩ : Nat × LM) j_ (fun w hw => hw.perm (perm_up z_2 (perm_up z_2 (perm_up z_2 (perm_up z_2 (perm_up z_2 (perm_up z_2 (perm_up z_2 (perm_up z_2 (perm_up z_2 (.refl _)))))))))))
 obtain ⟨g4, gg⟩ := x
 obtain ⟨_, _, _, _, ca, cc, la, lc⟩ := gg
 simp only
 repeat refine x_ ?_
 refine m_ ?_
 refine f_ (s_not rfl) ?_
 repeat refine n_ ?_
 cases hok : r.ok
 ·have e1 : tkP p m.p = p := by rw [tkP, ← hr, if_pos (.inl hok)]
  have e2 : tkM p m.p = [ackM p m.p.frm false (min (lastI p.g) (max m.p.index 1 - 1))] := by rw [tkM, ← hr, if_pos hok]
  simp only [e1, e2]
  repeat refine y_ ?_
  refine g_draw ([3], [0, 1, 0, 4, 12, 28, 63, 127], [1]) [blkMsg g3 m] 8 rfl ?_
  refine w_ 0 rfl (s_move rfl) ?_
  refine w_ 2 rfl z_1 ?_
  (refine ga_read_k 3 rfl z_11 (s_load_blk rfl .del a13_4) k_ rfl rfl rfl z_4 ?_)
  refine w_ 4 rfl (s_max2 rfl rfl) ?_
  refine w_ 5 rfl ((s_sub_u64 rfl rfl (by omega)).eq (v' := .int .u64 (max m.p.index 1 - 1)) rfl) ?_
  refine ga_one 1 rfl z_4 ?_
  refine gl_callp rfl (rend_ct X ⟨p, a, outs, oa0, oc0⟩ hf hcap) (fun h hh ⟨bs, hb⟩ => ⟨Sat.blk hb z_2, Sat.rd (a := a.la) hb z_2⟩) rfl ?_; rw [show lastI (⟨p, a, outs, oa0, oc0⟩ : MD).p.g = lastI p.g from rfl]
  refine gl_nil ?_
  refine at_ga (.inr (by exact keeps_of k_)) ?_
  refine w_ 6 rfl (s_min2 rfl rfl) ?_
  refine w_ 7 rfl (s_assign rfl) ?_
  refine ga_done z_4 ?_
  repeat refine x_ ?_
  refine m_ ?_
  refine f_ z_1 ?_
  refine r_ (by exact s_load_blk rfl z_2 a13_1) ?_
  refine m_ ?_
  refine f_ ((s_bld (cells := (mmC (ackMM false (min (lastI p.g) (max m.p.index 1 - 1)))).toArray) rfl z_4).eq (v' := mmA (ackMM false (min (lastI p.g) (max m.p.index 1 - 1)))) rfl) ?_
  refine gl_call [.blk g4 (.cells #[.int .u64 p.base, .int .u64 p.bt, .slice ca p.conf.length cc, .slice la r.l.length lc] 46), OwnL la r.l lc, OwnC ca p.conf cc, blkMsg g3 m] rfl (say_ct X ⟨p, a, outs, oa0, oc0⟩ m.p.frm (ackMM false (min (lastI p.g) (max m.p.index 1 - 1))) (by simp only; omega)) (fun w hw => hw.perm (perm_up z_2 (perm_up z_2 (perm_up z_2 (perm_up z_2 (perm_up z_2 (perm_up z_2 (perm_up z_2 (perm_up z_2 (perm_up z_2 (.refl _))))))))))) (fun _ _ _ => trivial) rfl ?_; rintro v A ⟨rfl, oa, oc, rfl⟩
  repeat refine n_ ?_
  refine g_ret ?_
  exact at_end0 rfl _ (MdP.said X ⟨p, a, outs, oa0, oc0⟩ p a outs ⟨ackM p m.p.frm false (min (lastI p.g) (max m.p.index 1 - 1)), none, 0, none, 0⟩ oa oc _ rfl (fun h => mok_nil h _ rfl rfl)) (fun w hw => by rw [List.append_nil]; exact Hp.left hw)
 have hin := tk_index hf (hr ▸ hok)
 obtain ⟨q1, hq1⟩ : ∃ q, q = decide (0 < r.at_) := ⟨_, rfl⟩
 obtain ⟨q2, hq2⟩ : ∃ q, q = decide (r.at_ ≤ p.commit) := ⟨_, rfl⟩
 repeat refine y_ ?_
 refine g_cutK [(0, Ptr X), (3, Ptr g3), (4, Ptr g4), (50, .bool (q1 && q2))] (.blk g4 (.cells #[.int .u64 p.base, .int .u64 p.bt, .slice ca p.conf.length cc, .slice la r.l.length lc] 46) :: OwnL la r.l lc :: OwnC ca p.conf cc :: blkMsg g3 m :: mdH X ⟨p, a, outs, oa0, oc0⟩) ?_ ?_
 ·cases q1
  ·repeat refine y_ ?_
   refine g_region ?_
   refine m_ ?_
   refine f_ ((s_gtr rfl rfl).eb hq1) ?_
   refine m_ ?_
   (refine gl_guard_no rfl rfl rfl rfl rfl rfl rfl ?_)
   (refine gl_guard_no rfl rfl rfl rfl rfl rfl rfl ?_)
   (refine gl_guard_no rfl rfl rfl rfl rfl rfl rfl ?_)
   (refine gl_guard_no rfl rfl rfl rfl rfl rfl rfl ?_)
   (refine gl_guard_no rfl rfl rfl rfl rfl rfl rfl ?_)
   (refine gl_guard_no rfl rfl rfl rfl rfl rfl rfl ?_)
   (refine gl_guard_no rfl rfl rfl rfl rfl rfl rfl ?_)
   refine f_ z_12 ?_
   repeat refine n_ ?_
   exact at_cut j_ i_
  ·repeat refine y_ ?_
   refine g_region ?_
   refine m_ ?_
   refine f_ ((s_gtr rfl rfl).eb hq1) ?_
   refine m_ ?_
   (refine v_ ?_; refine m_ ?_)
   (refine v_ ?_; refine m_ ?_)
   (refine v_ ?_; refine f_ (s_nilCheck rfl) ?_)
   (refine v_ ?_; refine f_ z_1 ?_)
   (refine v_ ?_; refine f_ z_1 ?_)
   (refine v_ ?_; refine r_ (by exact s_load_blk rfl z_2 a19_10) ?_)
   (refine v_ ?_; refine f_ ((s_leq rfl rfl).eb hq2) ?_)
   refine f_ z_13 ?_
   repeat refine n_ ?_
   exact at_cut j_ i_
 have hq12 : (q1 && q2) = true ↔ (0 < r.at_ ∧ r.at_ ≤ p.commit) := by rw [Bool.and_eq_true, hq1, hq2, decide_eq_true_eq, decide_eq_true_eq]
 obtain ⟨q, hq⟩ : ∃ q, q = (q1 && q2) := ⟨_, rfl⟩
 rw [← hq] at hq12
 rw [← hq]
 cases q
 rotate_left
 ·have e1 : tkP p m.p = p := by rw [tkP, ← hr, if_pos (.inr (hq12.1 rfl))]
  have e2 : tkM p m.p = [] := by rw [tkM, ← hr, if_neg (by rw [hok]; decide), if_pos (hq12.1 rfl)]
  simp only [e1, e2]
  repeat refine y_ ?_
  refine g_ret ?_
  exact at_end0 rfl (mdH X ⟨p, a, outs, oa0, oc0⟩ ++ []) (MdP.same X ⟨p, a, outs, oa0, oc0⟩ ⟨p, a, outs, oa0, oc0⟩ _ rfl) (fun w hw => hw.drop.drop.drop.drop)
 have hno : ¬ (0 < r.at_ ∧ r.at_ ≤ p.commit) := fun h => by have := hq12.2 h; cases this
 have e1 : tkP p m.p = { take1 p m.p with commit := max p.commit (min (min m.p.commit (matchI m.p)) (lastI (take1 p m.p).g)) } := by
  rw [tkP, ← hr, if_neg (by rw [hok]; intro h; rcases h with h | h; cases h; exact hno h), take1, hr]; rfl
 have e2 : tkM p m.p = [ackM p m.p.frm true (matchI m.p)] := by rw [tkM, ← hr, if_neg (by rw [hok]; decide), if_neg hno]
 simp only [e1, e2]
 repeat refine y_ ?_
 refine g_ownN (a := la) z_2 (fun _ hlc _ => ?_)
 repeat refine x_ ?_
 refine m_ ?_
 refine r_ ((s_load_blkW rfl z_2 z_7).eq (v' := .agg #[.int .u64 p.base, .int .u64 p.bt, .slice ca p.conf.length cc, .slice la r.l.length lc]) rfl) ?_
 refine f_ (s_nilCheck rfl) ?_
 refine f_ z_1 ?_
 refine f_ z_1 ?_
 (refine gl_store_blk rfl rfl z_5 z_7 z_3 z_7 ?_)
 repeat refine n_ ?_
 obtain ⟨a1, ha1⟩ : ∃ a1 : RA, a1 = { a with ca := ca, cc := cc, la := la, lc := lc } := ⟨_, rfl⟩
 have hcap1 : (take1 p m.p).l.length ≤ a1.lc := by rw [ha1]; show (tkR p m.p).l.length ≤ lc; rw [← hr]; exact hlc
 refine g_pull (H' := blkMsg g3 m :: mdH X ⟨take1 p m.p, a1, outs, oa0, oc0⟩) (fun w hw => by subst ha1 hr; exact Hp.left (hw.perm (perm_up z_2 (perm_up z_2 (perm_up z_2 (perm_up z_2 (perm_up z_2 (perm_up z_2 (perm_up z_2 (.refl _)))))))))) ?_
 repeat refine x_ ?_
 refine f_ z_1 ?_
 refine r_ (by exact s_load_blk rfl z_2 a13_4) ?_
 refine f_ z_1 ?_
 refine r_ (by exact s_load_blk rfl z_2 a13_8) ?_
 refine f_ (s_len_sl rfl) ?_
 refine f_ (s_conv_keep_u64 rfl (by omega)) ?_
 refine f_ ((s_add_u64 rfl rfl (by omega)).eq (v' := .int .u64 (matchI m.p)) rfl) ?_
 refine a_ ?_
 repeat refine n_ ?_
 refine g_draw ([5, 7], [0, 0, 2, 6, 14, 30, 0, 64, 0, 0, 512, 1984, 4094, 8191, 16383, 32767, 65535], [10, 16]) [.blk X (mdO ⟨take1 p m.p, a1, outs, oa0, oc0⟩), blkMsg g3 m] 17 rfl ?_
 refine w_ 0 rfl (s_move rfl) ?_
 refine w_ 1 rfl (s_move rfl) ?_
 refine w_ 2 rfl (s_nilCheck rfl) ?_
 refine w_ 3 rfl z_1 ?_
 refine w_ 4 rfl z_1 ?_
 (refine ga_read_k 5 rfl z_11 (s_load_blk rfl .del a19_10) k_ rfl rfl rfl z_4 ?_)
 refine w_ 6 rfl z_1 ?_
 (refine ga_read_k 7 rfl z_9 (s_load_blk rfl .del a13_6) k_ rfl rfl rfl z_4 ?_)
 refine w_ 8 rfl (s_move rfl) ?_
 refine w_ 9 rfl (s_move rfl) ?_
 refine ga_one 10 rfl z_4 ?_
 refine gl_callp rfl (rend_ct X ⟨take1 p m.p, a1, outs, oa0, oc0⟩ hf1 hcap1) (fun h hh ⟨bs, hb⟩ => ⟨Sat.blk hb z_2, Sat.rd (a := a1.la) hb z_2⟩) rfl ?_; rw [show lastI (⟨take1 p m.p, a1, outs, oa0, oc0⟩ : MD).p.g = lastI (take1 p m.p).g from rfl]
 refine gl_nil ?_
 refine at_ga (.inr (by exact keeps_of k_)) ?_
 refine w_ 11 rfl (s_min3 rfl rfl rfl) ?_
 refine w_ 12 rfl (s_max2 rfl rfl) ?_
 refine w_ 13 rfl (s_nilCheck rfl) ?_
 refine w_ 14 rfl z_1 ?_
 refine w_ 15 rfl z_1 ?_
 refine ga_one 16 rfl z_4 ?_
 (refine gl_store_blkC (pre := [_, _, _, _, _, _, _, _, _, _]) (post := [_, _, _, _, _, _, _, _]) rfl rfl z_5 z_7 z_7 z_7 ?_)
 refine gl_nil ?_
 refine at_ga (.inl z_4) ?_
 refine ga_done z_4 ?_
 repeat refine y_ ?_
 refine g_pull (H' := blkMsg g3 m :: mdH X ⟨{ take1 p m.p with commit := max p.commit (min (min m.p.commit (matchI m.p)) (lastI (take1 p m.p).g)) }, a1, outs, oa0, oc0⟩) i_ ?_
 repeat refine x_ ?_
 refine m_ ?_
 refine f_ z_1 ?_
 refine r_ (by exact s_load_blk rfl z_2 a13_1) ?_
 refine m_ ?_
 refine f_ ((s_bld (cells := (mmC (ackMM true (matchI m.p))).toArray) rfl z_4).eq (v' := mmA (ackMM true (matchI m.p))) rfl) ?_
 refine gl_call [blkMsg g3 m] rfl (say_ct X ⟨{ take1 p m.p with commit := max p.commit (min (min m.p.commit (matchI m.p)) (lastI (take1 p m.p).g)) }, a1, outs, oa0, oc0⟩ m.p.frm (ackMM true (matchI m.p)) (by simp only; omega)) (fun w hw => hw.perm (perm_up z_2 (perm_up z_2 (perm_up z_2 (perm_up z_2 (perm_up z_2 (perm_up z_2 (.refl _)))))))) (fun _ _ _ => trivial) rfl ?_; rintro v A ⟨rfl, oa, oc, rfl⟩
 repeat refine n_ ?_
 exact at_end0 rfl _ (MdP.said X ⟨p, a, outs, oa0, oc0⟩ { take1 p m.p with commit := max p.commit (min (min m.p.commit (matchI m.p)) (lastI (take1 p m.p).g)) } a1 outs ⟨ackM p m.p.frm true (matchI m.p), none, 0, none, 0⟩ oa oc _ rfl (fun h => mok_nil h _ rfl rfl)) (fun w hw => by rw [List.append_nil]; exact Hp.left hw)
end Go.Proofs.YtodcghipfolejaaGreat.Rf
namespace Go.Proofs.YtodcghipfolejaaGreat.Rf
open Go Go.Sl
abbrev gotMM (i off : Int) : MM := ⟨⟨6, 0, 0, 0, i, 0, 0, false, [], [], off, 0, []⟩, none, 0, none, 0⟩
theorem inst_any (p : RP) (a : RA) (i t : Int) : instL (p.lm a) i t = instL p.g i t := rfl
theorem haveB_le (p : RP) (m : MP) : (haveB p m).length ≤ p.piece.length := by
 unfold haveB; split
 ·exact Nat.le_refl _
 ·exact Nat.zero_le _
set_option maxRecDepth 8000 in
set_option maxHeartbeats 8000000 in
theorem piece_ct (X : Nat) (d : MD) (m : MM) (hf : PFit d.p) (hm : MFit m.p) (hpc : d.p.piece.length ≤ 1000000000) (ho : d.outs.length ≤ 1000000) : Ct Tryz.prog 98 [Ptr X, mmA m] (fun h => MOk h m) (mdH X d) (MdP X d (pcP d.p m.p) (pcM d.p m.p) (.tuple #[])) := by
 obtain ⟨p, a, outs, oa0, oc0⟩ := d
 simp only at hf ho hpc
 have hix := hm.index
 have hcf := hm.conf
 have hoffr := hm.off
 have hhl := haveB_le p m.p
 refine ct_enter 192 Tryz.func98 rfl rfl rfl ?_
 intro F hmo
 refine g_ownN (a := a.la) z_2 (fun _ hcap _ => ?_)
 obtain ⟨q1, hq1⟩ : ∃ q, q = decide (m.p.size < 0) := ⟨_, rfl⟩
 obtain ⟨q2, hq2⟩ : ∃ q, q = decide (262144 < m.p.size) := ⟨_, rfl⟩
 obtain ⟨q3, hq3⟩ : ∃ q, q = decide (m.p.off < 0) := ⟨_, rfl⟩
 obtain ⟨q4, hq4⟩ : ∃ q, q = decide (m.p.size < m.p.off) := ⟨_, rfl⟩
 obtain ⟨q5, hq5⟩ : ∃ q, q = decide (min 4096 (m.p.size - m.p.off) < (m.p.data.length : Int)) := ⟨_, rfl⟩
 obtain ⟨q6, hq6⟩ : ∃ q, q = rightB m.p.conf := ⟨_, rfl⟩
 have hb : pieceBad p m.p = (q1 || (q2 || (q3 || (q4 || (q5 || !q6))))) := by rw [pieceBad, hq1, hq2, hq3, hq4, hq5, hq6]
 have hrg : q1 = false → q2 = false → q3 = false → q4 = false → -9223372036854775808 ≤ m.p.size - m.p.off ∧ m.p.size - m.p.off ≤ 9223372036854775807 := fun h1 h2 h3 h4 => by
  rw [hq1] at h1; rw [hq2] at h2; rw [hq3] at h3; rw [hq4] at h4
  have := of_decide_eq_false h1
  have := of_decide_eq_false h2
  have := of_decide_eq_false h3
  have := of_decide_eq_false h4
  omega
 obtain ⟨bad, hbad⟩ : ∃ b, b = pieceBad p m.p := ⟨_, rfl⟩
 repeat refine x_ ?_
 refine gl_boxA rfl rfl ?_; intro g3
 repeat refine n_ ?_
 refine g_cutK [(0, Ptr X), (3, Ptr g3), (42, .bool bad)] (blkMsg g3 m :: mdH X ⟨p, a, outs, oa0, oc0⟩) ?_ ?_
 ·rw [hbad, hb]
  rcases (show q1 = true ∨ (q1 = false ∧ q2 = true) ∨ (q1 = false ∧ q2 = false ∧ q3 = true) ∨ (q1 = false ∧ q2 = false ∧ q3 = false ∧ q4 = true) ∨ (q1 = false ∧ q2 = false ∧ q3 = false ∧ q4 = false ∧ q5 = true) ∨ (q1 = false ∧ q2 = false ∧ q3 = false ∧ q4 = false ∧ q5 = false) by cases q1 <;> cases q2 <;> cases q3 <;> cases q4 <;> cases q5 <;> simp) with rfl | ⟨rfl, rfl⟩ | ⟨rfl, rfl, rfl⟩ | ⟨rfl, rfl, rfl, rfl⟩ | ⟨rfl, rfl, rfl, rfl, rfl⟩ | ⟨rfl, rfl, rfl, rfl, rfl⟩
  all_goals
   repeat refine x_ ?_
   refine f_ z_1 ?_
   refine r_ (by exact s_load_blk rfl z_2 a13_11) ?_
   refine f_ ((s_lss rfl rfl).eb hq1) ?_
   refine m_ ?_
   (first | refine gl_guard_no rfl rfl rfl rfl rfl rfl rfl ?_ | (refine v_ ?_; refine f_ z_1 ?_))
   (first | refine gl_guard_no rfl rfl rfl rfl rfl rfl rfl ?_ | (refine v_ ?_; refine r_ (by exact s_load_blk rfl z_2 a13_11) ?_))
   (first | refine gl_guard_no rfl rfl rfl rfl rfl rfl rfl ?_ | (refine v_ ?_; refine f_ ((s_gtr rfl rfl).eb hq2) ?_))
   refine f_ z_6 ?_
   refine m_ ?_
   (first | refine gl_guard_no rfl rfl rfl rfl rfl rfl rfl ?_ | (refine v_ ?_; refine f_ z_1 ?_))
   (first | refine gl_guard_no rfl rfl rfl rfl rfl rfl rfl ?_ | (refine v_ ?_; refine r_ (by exact s_load_blk rfl z_2 a13_10) ?_))
   (first | refine gl_guard_no rfl rfl rfl rfl rfl rfl rfl ?_ | (refine v_ ?_; refine f_ ((s_lss rfl rfl).eb hq3) ?_))
   refine f_ z_6 ?_
   refine m_ ?_
   (first | refine gl_guard_no rfl rfl rfl rfl rfl rfl rfl ?_ | (refine v_ ?_; refine f_ z_1 ?_))
   (first | refine gl_guard_no rfl rfl rfl rfl rfl rfl rfl ?_ | (refine v_ ?_; refine r_ (by exact s_load_blk rfl z_2 a13_10) ?_))
   (first | refine gl_guard_no rfl rfl rfl rfl rfl rfl rfl ?_ | (refine v_ ?_; refine f_ z_1 ?_))
   (first | refine gl_guard_no rfl rfl rfl rfl rfl rfl rfl ?_ | (refine v_ ?_; refine r_ (by exact s_load_blk rfl z_2 a13_11) ?_))
   (first | refine gl_guard_no rfl rfl rfl rfl rfl rfl rfl ?_ | (refine v_ ?_; refine f_ ((s_gtr rfl rfl).eb hq4) ?_))
   refine f_ z_6 ?_
   refine m_ ?_
   (first | refine gl_guard_no rfl rfl rfl rfl rfl rfl rfl ?_ | (refine v_ ?_; refine f_ z_1 ?_))
   (first | refine gl_guard_no rfl rfl rfl rfl rfl rfl rfl ?_ | (refine v_ ?_; refine r_ (by exact s_load_blk rfl z_2 a13_12) ?_))
   (first | refine gl_guard_no rfl rfl rfl rfl rfl rfl rfl ?_ | (refine v_ ?_; refine f_ (s_len_str rfl) ?_))
   (first | refine gl_guard_no rfl rfl rfl rfl rfl rfl rfl ?_ | (refine v_ ?_; refine f_ z_1 ?_))
   (first | refine gl_guard_no rfl rfl rfl rfl rfl rfl rfl ?_ | (refine v_ ?_; refine r_ (by exact s_load_blk rfl z_2 a13_11) ?_))
   (first | refine gl_guard_no rfl rfl rfl rfl rfl rfl rfl ?_ | (refine v_ ?_; refine f_ z_1 ?_))
   (first | refine gl_guard_no rfl rfl rfl rfl rfl rfl rfl ?_ | (refine v_ ?_; refine r_ (by exact s_load_blk rfl z_2 a13_10) ?_))
   (first | refine gl_guard_no rfl rfl rfl rfl rfl rfl rfl ?_ | (refine v_ ?_; refine f_ (s_sub_i64 rfl rfl (hrg rfl rfl rfl rfl)) ?_))
   (first | refine gl_guard_no rfl rfl rfl rfl rfl rfl rfl ?_ | (refine v_ ?_; refine f_ (s_min2 rfl rfl) ?_))
   (first | refine gl_guard_no rfl rfl rfl rfl rfl rfl rfl ?_ | (refine v_ ?_; refine f_ ((s_gtr rfl rfl).eb hq5) ?_))
   refine f_ z_6 ?_
   refine m_ ?_
   (first | refine gl_guard_no rfl rfl rfl rfl rfl rfl rfl ?_ | (refine v_ ?_; refine f_ z_1 ?_))
   (first | refine gl_guard_no rfl rfl rfl rfl rfl rfl rfl ?_ | (refine v_ ?_; refine r_ (by exact s_load_blk rfl z_2 a13_9) ?_))
   (first | refine gl_guard_no rfl rfl rfl rfl rfl rfl rfl ?_ | (refine v_ ?_; refine gl_callp rfl (Right_ct m.p.conf m.ka m.kc (by omega)) (fun h hh _ => hmo.k.le hh) rfl ?_; rw [← hq6]))
   (first | refine gl_guard_no rfl rfl rfl rfl rfl rfl rfl ?_ | (refine v_ ?_; refine f_ (s_not rfl) ?_))
   refine f_ z_6 ?_
   repeat refine n_ ?_
   exact at_cut j_ i_
 repeat refine y_ ?_
 cases bad
 rotate_left
 ·have e1 : pcP p m.p = p := by rw [pcP, if_pos (.inl hbad.symm)]
  have e2 : pcM p m.p = [] := by rw [pcM, if_pos hbad.symm]
  simp only [e1, e2]
  repeat refine y_ ?_
  refine g_ret ?_
  exact at_end0 rfl (mdH X ⟨p, a, outs, oa0, oc0⟩ ++ []) (MdP.same X ⟨p, a, outs, oa0, oc0⟩ ⟨p, a, outs, oa0, oc0⟩ _ rfl) (fun w hw => hw.drop)
 have hb0 : pieceBad p m.p = false := hbad.symm
 have hsz : 0 ≤ m.p.size ∧ m.p.size ≤ 262144 ∧ 0 ≤ m.p.off ∧ m.p.off ≤ m.p.size ∧ (m.p.data.length : Int) ≤ 4096 := by
  rw [pieceBad] at hb0
  simp only [Bool.or_eq_false_iff, decide_eq_false_iff_not] at hb0
  omega
 obtain ⟨q7, hq7⟩ : ∃ q, q = decide (m.p.index ≤ p.commit) := ⟨_, rfl⟩
 repeat refine y_ ?_
 refine g_draw ([1, 6], [0, 1, 0, 4, 12, 28, 60, 127], []) [.blk X (mdO ⟨p, a, outs, oa0, oc0⟩), blkMsg g3 m] 8 rfl ?_
 refine w_ 0 rfl z_1 ?_
 (refine ga_read_k 1 rfl z_9 (s_load_blk rfl .del a13_4) k_ rfl rfl rfl z_4 ?_)
 refine w_ 2 rfl (s_move rfl) ?_
 refine w_ 3 rfl (s_nilCheck rfl) ?_
 refine w_ 4 rfl z_1 ?_
 refine w_ 5 rfl z_1 ?_
 (refine ga_read_k 6 rfl z_11 (s_load_blk rfl .del a19_10) k_ rfl rfl rfl z_4 ?_)
 refine w_ 7 rfl ((s_leq rfl rfl).eb hq7) ?_
 refine ga_done z_4 ?_
 repeat refine y_ ?_
 cases q7
 rotate_left
 ·have h7 := of_decide_eq_true hq7.symm
  have e1 : pcP p m.p = p := by rw [pcP, if_pos (.inr (.inl h7))]
  have e2 : pcM p m.p = [ackM p m.p.frm true m.p.index] := by rw [pcM, hb0, if_neg (by decide), if_pos h7]
  simp only [e1, e2]
  repeat refine x_ ?_
  refine m_ ?_
  refine f_ z_1 ?_
  refine r_ (by exact s_load_blk rfl z_2 a13_1) ?_
  refine f_ z_1 ?_
  refine r_ (by exact s_load_blk rfl z_2 a13_4) ?_
  refine f_ ((s_bld (cells := (mmC (ackMM true m.p.index)).toArray) rfl z_4).eq (v' := mmA (ackMM true m.p.index)) rfl) ?_
  refine gl_call [blkMsg g3 m] rfl (say_ct X ⟨p, a, outs, oa0, oc0⟩ m.p.frm (ackMM true m.p.index) (by simp only; omega)) (fun w hw => hw.perm (perm_up z_2 (perm_up z_2 (perm_up z_2 (perm_up z_2 (perm_up z_2 (perm_up z_2 (.refl _)))))))) (fun _ _ _ => trivial) rfl ?_; rintro v A ⟨rfl, oa, oc, rfl⟩
  repeat refine n_ ?_
  refine g_ret ?_
  exact at_end0 rfl _ (MdP.said X ⟨p, a, outs, oa0, oc0⟩ p a outs ⟨ackM p m.p.frm true m.p.index, none, 0, none, 0⟩ oa oc _ rfl (fun h => mok_nil h _ rfl rfl)) (fun w hw => by rw [List.append_nil]; exact Hp.left hw)
 have h7 := of_decide_eq_false hq7.symm
 obtain ⟨q8, hq8⟩ : ∃ q, q = decide (p.pix = m.p.index) := ⟨_, rfl⟩
 obtain ⟨q9, hq9⟩ : ∃ q, q = decide (p.pt = m.p.lt) := ⟨_, rfl⟩
 have hhv : haveB p m.p = if (q8 && q9) = true then p.piece else [] := by
  rw [haveB, hq8, hq9]
  simp only [Bool.and_eq_true, decide_eq_true_eq]
 repeat refine x_ ?_
 refine a_ ?_
 repeat refine n_ ?_
 refine g_cutK [(0, Ptr X), (3, Ptr g3), (4, .int .i64 0), (75, .bool (q8 && q9))] (blkMsg g3 m :: mdH X ⟨p, a, outs, oa0, oc0⟩) ?_ ?_
 ·cases q8
  all_goals
   repeat refine y_ ?_
   refine g_draw ([4, 6, 13, 15], [0, 1, 3, 7, 15, 0, 32, 127, 255, 511, 1023, 2047, 4095, 8191, 511, 16895, 65535, 131071], []) [.blk X (mdO ⟨p, a, outs, oa0, oc0⟩), blkMsg g3 m] 18 rfl ?_
   refine w_ 0 rfl (s_move rfl) ?_
   refine w_ 1 rfl (s_nilCheck rfl) ?_
   refine w_ 2 rfl z_1 ?_
   refine w_ 3 rfl z_1 ?_
   (refine ga_read_k 4 rfl z_11 (s_load_blk rfl .del a19_16) k_ rfl rfl rfl z_4 ?_)
   refine w_ 5 rfl z_1 ?_
   (refine ga_read_k 6 rfl z_9 (s_load_blk rfl .del a13_4) k_ rfl rfl rfl z_4 ?_)
   refine w_ 7 rfl ((s_eql rfl rfl).eb hq8) ?_
   refine w_ 8 rfl (s_move rfl) ?_
   (first | refine s_ 9 ?_ | refine ga_free_g 9 rfl (s_move rfl) rfl rfl rfl rfl rfl rfl z_4 ?_)
   (first | refine s_ 10 ?_ | refine ga_free_g 10 rfl (s_nilCheck rfl) rfl rfl rfl rfl rfl rfl z_4 ?_)
   (first | refine s_ 11 ?_ | refine ga_free_g 11 rfl z_1 rfl rfl rfl rfl rfl rfl z_4 ?_)
   (first | refine s_ 12 ?_ | refine ga_free_g 12 rfl z_1 rfl rfl rfl rfl rfl rfl z_4 ?_)
   (first | refine s_ 13 ?_ | refine ga_read_kg 13 rfl z_11 (s_load_blk rfl .del a19_17) k_ rfl rfl rfl rfl rfl rfl z_4 ?_)
   (first | refine s_ 14 ?_ | refine ga_free_g 14 rfl z_1 rfl rfl rfl rfl rfl rfl z_4 ?_)
   (first | refine s_ 15 ?_ | refine ga_read_kg 15 rfl z_9 (s_load_blk rfl .del a13_5) k_ rfl rfl rfl rfl rfl rfl z_4 ?_)
   (first | refine s_ 16 ?_ | refine ga_free_g 16 rfl ((s_eql rfl rfl).eb hq9) rfl rfl rfl rfl rfl rfl z_4 ?_)
   refine w_ 17 rfl z_6 ?_
   refine ga_done z_4 ?_
   repeat refine y_ ?_
   exact at_cut j_ i_
 obtain ⟨q, hq⟩ : ∃ q, q = (q8 && q9) := ⟨_, rfl⟩
 rw [← hq] at hhv
 rw [← hq]
 repeat refine y_ ?_
 refine g_cutK [(0, Ptr X), (3, Ptr g3), (4, .int .i64 ((haveB p m.p).length : Nat))] (blkMsg g3 m :: mdH X ⟨p, a, outs, oa0, oc0⟩) ?_ ?_
 ·rw [hhv]
  cases q
  ·repeat refine y_ ?_
   exact at_cut j_ i_
  ·repeat refine y_ ?_
   repeat refine x_ ?_
   refine m_ ?_
   refine f_ (s_nilCheck rfl) ?_
   refine f_ z_1 ?_
   refine f_ z_1 ?_
   refine r_ (by exact s_load_blk rfl z_2 a19_15) ?_
   refine f_ (s_len_str rfl) ?_
   refine a_ ?_
   repeat refine n_ ?_
   exact at_cut j_ i_
 obtain ⟨hv, hhve⟩ : ∃ hv, hv = haveB p m.p := ⟨_, rfl⟩
 rw [← hhve]
 rw [← hhve] at hhl
 obtain ⟨q10, hq10⟩ : ∃ q, q = decide (m.p.off = (hv.length : Nat)) := ⟨_, rfl⟩
 repeat refine x_ ?_
 refine f_ z_1 ?_
 refine r_ (by exact s_load_blk rfl z_2 a13_10) ?_
 refine m_ ?_
 refine f_ ((s_neq rfl rfl).eq (v' := .bool (!q10)) (by rw [hq10])) ?_
 repeat refine n_ ?_
 cases q10
 ·have h10 := of_decide_eq_false hq10.symm
  have e1 : pcP p m.p = p := by rw [pcP, if_pos (.inr (.inr (by rw [← hhve]; exact h10)))]
  have e2 : pcM p m.p = [gotM p m.p.frm m.p.index (hv.length : Nat)] := by rw [pcM, hb0, if_neg (by decide), if_neg h7, ← hhve, if_pos h10]
  simp only [e1, e2]
  repeat refine x_ ?_
  refine m_ ?_
  refine f_ z_1 ?_
  refine r_ (by exact s_load_blk rfl z_2 a13_1) ?_
  refine f_ z_1 ?_
  refine r_ (by exact s_load_blk rfl z_2 a13_4) ?_
  refine m_ ?_
  refine f_ ((s_bld (cells := (mmC (gotMM m.p.index (hv.length : Nat))).toArray) rfl z_4).eq (v' := mmA (gotMM m.p.index (hv.length : Nat))) rfl) ?_
  refine gl_call [blkMsg g3 m] rfl (say_ct X ⟨p, a, outs, oa0, oc0⟩ m.p.frm (gotMM m.p.index (hv.length : Nat)) (by simp only; omega)) (fun w hw => hw.perm (perm_up z_2 (perm_up z_2 (perm_up z_2 (perm_up z_2 (perm_up z_2 (perm_up z_2 (.refl _)))))))) (fun _ _ _ => trivial) rfl ?_; rintro v A ⟨rfl, oa, oc, rfl⟩
  repeat refine n_ ?_
  refine g_ret ?_
  exact at_end0 rfl _ (MdP.said X ⟨p, a, outs, oa0, oc0⟩ p a outs ⟨gotM p m.p.frm m.p.index (hv.length : Nat), none, 0, none, 0⟩ oa oc _ rfl (fun h => mok_nil h _ rfl rfl)) (fun w hw => by rw [List.append_nil]; exact Hp.left hw)
 have h10 := of_decide_eq_true hq10.symm
 obtain ⟨pb, hpb⟩ : ∃ pb, pb = pieceB p m.p := ⟨_, rfl⟩
 have hpbe : pb = hv ++ m.p.data := by rw [hpb, pieceB, hhve]
 have hpbl : pb.length = hv.length + m.p.data.length := by rw [hpbe, List.length_append]
 have hno : ¬ (pieceBad p m.p = true ∨ m.p.index ≤ p.commit ∨ m.p.off ≠ ((haveB p m.p).length : Int)) := by
  rw [hb0, ← hhve]
  rintro (h | h | h)
  ·cases h
  ·exact h7 h
  ·exact h h10
 have hp1 : piece1 p m.p = { p with piece := pb, pix := m.p.index, pt := m.p.lt } := by rw [piece1, hpb]
 repeat refine y_ ?_
 refine g_cutK [(0, Ptr X), (3, Ptr g3)] (blkMsg g3 m :: mdH X ⟨piece1 p m.p, a, outs, oa0, oc0⟩) ?_ ?_
 ·have htk : p.piece.take hv.length = hv := by
   rw [hhve, hhv]
   split
   ·exact List.take_length
   ·rfl
  repeat refine y_ ?_
  refine g_draw ([7, 11], [0, 0, 0, 0, 8, 24, 56, 120, 0, 504, 0, 1024, 4088, 0, 8192, 0, 32768, 8185, 139257, 401401, 925689, 1998843, 4095995, 8290299, 16678907, 33554431, 67108863, 134217727, 268435455], [14, 16, 20, 24, 28]) [.blk X (mdO ⟨p, a, outs, oa0, oc0⟩), blkMsg g3 m] 29 rfl ?_
  refine w_ 0 rfl (s_move rfl) ?_
  refine w_ 1 rfl (s_move rfl) ?_
  refine w_ 2 rfl (s_move rfl) ?_
  refine w_ 3 rfl (s_move rfl) ?_
  refine w_ 4 rfl (s_nilCheck rfl) ?_
  refine w_ 5 rfl z_1 ?_
  refine w_ 6 rfl z_1 ?_
  (refine ga_read_k 7 rfl z_11 (s_load_blk rfl .del a19_15) k_ rfl rfl rfl z_4 ?_)
  refine w_ 8 rfl (s_move rfl) ?_
  refine w_ 9 rfl ((s_slice_str rfl rfl rfl ⟨by omega, by omega, by show (hv.length : Int) ≤ (p.piece.length : Nat); omega⟩).eq (v' := B hv) (congrArg B (by show (p.piece.drop 0).take ((hv.length : Int).toNat - 0) = hv; rw [List.drop_zero, Nat.sub_zero, Int.toNat_natCast, htk]))) ?_
  refine w_ 10 rfl z_1 ?_
  (refine ga_read_k 11 rfl z_9 (s_load_blk rfl .del a13_12) k_ rfl rfl rfl z_4 ?_)
  refine w_ 12 rfl ((s_add_str rfl rfl (by omega)).eq (v' := B pb) (by rw [hpbe])) ?_
  refine w_ 13 rfl z_1 ?_
  refine w_ 15 rfl z_1 ?_
  refine w_ 17 rfl (s_nilCheck rfl) ?_
  refine w_ 18 rfl z_1 ?_
  refine w_ 19 rfl z_1 ?_
  refine ga_three 14 16 20 rfl rfl rfl z_4 ?_ ?_ ?_
  refine r_ (s_load_blk rfl z_2 a13_4) ?_
  refine gl_nil ?_
  refine at_ga (.inr (by exact keeps_of k_)) ?_
  refine ga_two 16 20 rfl rfl z_4 ?_ ?_
  refine r_ (s_load_blk rfl z_2 a13_5) ?_
  refine gl_nil ?_
  refine at_ga (.inr (by exact keeps_of k_)) ?_
  refine ga_one 20 rfl z_4 ?_
  (refine gl_store_blkC (pre := [_, _, _, _, _, _, _, _, _, _, _, _, _, _, _]) (post := [_, _, _]) rfl rfl z_5 z_7 z_7 z_7 ?_)
  refine gl_nil ?_
  refine at_ga (.inl z_4) ?_
  refine w_ 21 rfl (s_nilCheck rfl) ?_
  refine w_ 22 rfl z_1 ?_
  refine w_ 23 rfl z_1 ?_
  refine ga_one 24 rfl z_4 ?_
  (refine gl_store_blkC (pre := [_, _, _, _, _, _, _, _, _, _, _, _, _, _, _, _]) (post := [_, _]) rfl rfl z_5 z_7 z_7 z_7 ?_)
  refine gl_nil ?_
  refine at_ga (.inl z_4) ?_
  refine w_ 25 rfl (s_nilCheck rfl) ?_
  refine w_ 26 rfl z_1 ?_
  refine w_ 27 rfl z_1 ?_
  refine ga_one 28 rfl z_4 ?_
  (refine gl_store_blkC (pre := [_, _, _, _, _, _, _, _, _, _, _, _, _, _, _, _, _]) (post := [_]) rfl rfl z_5 z_7 z_7 z_7 ?_)
  refine gl_nil ?_
  refine at_ga (.inl z_4) ?_
  refine ga_done z_4 ?_
  rotate_left 1
  (refine gl_store_blkC (pre := [_, _, _, _, _, _, _, _, _, _, _, _, _, _, _]) (post := [_, _, _]) rfl rfl z_5 z_7 z_7 z_7 ?_)
  refine gl_nil ?_
  refine at_ga (.inl z_4) ?_
  refine w_ 21 rfl (s_nilCheck rfl) ?_
  refine w_ 22 rfl z_1 ?_
  refine w_ 23 rfl z_1 ?_
  refine ga_two 16 24 rfl rfl z_4 ?_ ?_
  refine r_ (s_load_blk rfl z_2 a13_5) ?_
  refine gl_nil ?_
  refine at_ga (.inl z_4) ?_
  refine ga_one 24 rfl z_4 ?_
  (refine gl_store_blkC (pre := [_, _, _, _, _, _, _, _, _, _, _, _, _, _, _, _]) (post := [_, _]) rfl rfl z_5 z_7 z_7 z_7 ?_)
  refine gl_nil ?_
  refine at_ga (.inl z_4) ?_
  refine w_ 25 rfl (s_nilCheck rfl) ?_
  refine w_ 26 rfl z_1 ?_
  refine w_ 27 rfl z_1 ?_
  refine ga_one 28 rfl z_4 ?_
  (refine gl_store_blkC (pre := [_, _, _, _, _, _, _, _, _, _, _, _, _, _, _, _, _]) (post := [_]) rfl rfl z_5 z_7 z_7 z_7 ?_)
  refine gl_nil ?_
  refine at_ga (.inl z_4) ?_
  refine ga_done z_4 ?_
  rotate_left 1
  (refine gl_store_blkC (pre := [_, _, _, _, _, _, _, _, _, _, _, _, _, _, _, _]) (post := [_, _]) rfl rfl z_5 z_7 z_7 z_7 ?_)
  refine gl_nil ?_
  refine at_ga (.inl z_4) ?_
  refine ga_one 16 rfl z_4 ?_
  refine r_ (s_load_blk rfl z_2 a13_5) ?_
  refine gl_nil ?_
  refine at_ga (.inl z_4) ?_
  refine w_ 25 rfl (s_nilCheck rfl) ?_
  refine w_ 26 rfl z_1 ?_
  refine w_ 27 rfl z_1 ?_
  refine ga_one 28 rfl z_4 ?_
  (refine gl_store_blkC (pre := [_, _, _, _, _, _, _, _, _, _, _, _, _, _, _, _, _]) (post := [_]) rfl rfl z_5 z_7 z_7 z_7 ?_)
  refine gl_nil ?_
  refine at_ga (.inl z_4) ?_
  refine ga_done z_4 ?_
  rotate_left 1
  refine r_ (s_load_blk rfl z_2 a13_5) ?_
  refine gl_nil ?_
  refine at_ga (.inr (by exact keeps_of k_)) ?_
  refine ga_two 14 20 rfl rfl z_4 ?_ ?_
  refine r_ (s_load_blk rfl z_2 a13_4) ?_
  refine gl_nil ?_
  refine at_ga (.inr (by exact keeps_of k_)) ?_
  refine ga_one 20 rfl z_4 ?_
  (refine gl_store_blkC (pre := [_, _, _, _, _, _, _, _, _, _, _, _, _, _, _]) (post := [_, _, _]) rfl rfl z_5 z_7 z_7 z_7 ?_)
  refine gl_nil ?_
  refine at_ga (.inl z_4) ?_
  refine w_ 21 rfl (s_nilCheck rfl) ?_
  refine w_ 22 rfl z_1 ?_
  refine w_ 23 rfl z_1 ?_
  refine ga_one 24 rfl z_4 ?_
  (refine gl_store_blkC (pre := [_, _, _, _, _, _, _, _, _, _, _, _, _, _, _, _]) (post := [_, _]) rfl rfl z_5 z_7 z_7 z_7 ?_)
  refine gl_nil ?_
  refine at_ga (.inl z_4) ?_
  refine w_ 25 rfl (s_nilCheck rfl) ?_
  refine w_ 26 rfl z_1 ?_
  refine w_ 27 rfl z_1 ?_
  refine ga_one 28 rfl z_4 ?_
  (refine gl_store_blkC (pre := [_, _, _, _, _, _, _, _, _, _, _, _, _, _, _, _, _]) (post := [_]) rfl rfl z_5 z_7 z_7 z_7 ?_)
  refine gl_nil ?_
  refine at_ga (.inl z_4) ?_
  refine ga_done z_4 ?_
  rotate_left 1
  (refine gl_store_blkC (pre := [_, _, _, _, _, _, _, _, _, _, _, _, _, _, _]) (post := [_, _, _]) rfl rfl z_5 z_7 z_7 z_7 ?_)
  refine gl_nil ?_
  refine at_ga (.inl z_4) ?_
  refine ga_one 14 rfl z_4 ?_
  refine r_ (s_load_blk rfl z_2 a13_4) ?_
  refine gl_nil ?_
  refine at_ga (.inl z_4) ?_
  refine w_ 21 rfl (s_nilCheck rfl) ?_
  refine w_ 22 rfl z_1 ?_
  refine w_ 23 rfl z_1 ?_
  refine ga_one 24 rfl z_4 ?_
  (refine gl_store_blkC (pre := [_, _, _, _, _, _, _, _, _, _, _, _, _, _, _, _]) (post := [_, _]) rfl rfl z_5 z_7 z_7 z_7 ?_)
  refine gl_nil ?_
  refine at_ga (.inl z_4) ?_
  refine w_ 25 rfl (s_nilCheck rfl) ?_
  refine w_ 26 rfl z_1 ?_
  refine w_ 27 rfl z_1 ?_
  refine ga_one 28 rfl z_4 ?_
  (refine gl_store_blkC (pre := [_, _, _, _, _, _, _, _, _, _, _, _, _, _, _, _, _]) (post := [_]) rfl rfl z_5 z_7 z_7 z_7 ?_)
  refine gl_nil ?_
  refine at_ga (.inl z_4) ?_
  refine ga_done z_4 ?_
  rotate_left 1
  (refine gl_store_blkC (pre := [_, _, _, _, _, _, _, _, _, _, _, _, _, _, _]) (post := [_, _, _]) rfl rfl z_5 z_7 z_7 z_7 ?_)
  refine gl_nil ?_
  refine at_ga (.inl z_4) ?_
  refine ga_two 14 16 rfl rfl z_4 ?_ ?_
  refine r_ (s_load_blk rfl z_2 a13_4) ?_
  refine gl_nil ?_
  refine at_ga (.inl z_4) ?_
  refine w_ 21 rfl (s_nilCheck rfl) ?_
  refine w_ 22 rfl z_1 ?_
  refine w_ 23 rfl z_1 ?_
  refine ga_two 16 24 rfl rfl z_4 ?_ ?_
  refine r_ (s_load_blk rfl z_2 a13_5) ?_
  refine gl_nil ?_
  refine at_ga (.inl z_4) ?_
  refine ga_one 24 rfl z_4 ?_
  (refine gl_store_blkC (pre := [_, _, _, _, _, _, _, _, _, _, _, _, _, _, _, _]) (post := [_, _]) rfl rfl z_5 z_7 z_7 z_7 ?_)
  refine gl_nil ?_
  refine at_ga (.inl z_4) ?_
  refine w_ 25 rfl (s_nilCheck rfl) ?_
  refine w_ 26 rfl z_1 ?_
  refine w_ 27 rfl z_1 ?_
  refine ga_one 28 rfl z_4 ?_
  (refine gl_store_blkC (pre := [_, _, _, _, _, _, _, _, _, _, _, _, _, _, _, _, _]) (post := [_]) rfl rfl z_5 z_7 z_7 z_7 ?_)
  refine gl_nil ?_
  refine at_ga (.inl z_4) ?_
  refine ga_done z_4 ?_
  rotate_left 1
  (refine gl_store_blkC (pre := [_, _, _, _, _, _, _, _, _, _, _, _, _, _, _, _]) (post := [_, _]) rfl rfl z_5 z_7 z_7 z_7 ?_)
  refine gl_nil ?_
  refine at_ga (.inl z_4) ?_
  refine ga_one 16 rfl z_4 ?_
  refine r_ (s_load_blk rfl z_2 a13_5) ?_
  refine gl_nil ?_
  refine at_ga (.inl z_4) ?_
  refine w_ 25 rfl (s_nilCheck rfl) ?_
  refine w_ 26 rfl z_1 ?_
  refine w_ 27 rfl z_1 ?_
  refine ga_one 28 rfl z_4 ?_
  (refine gl_store_blkC (pre := [_, _, _, _, _, _, _, _, _, _, _, _, _, _, _, _, _]) (post := [_]) rfl rfl z_5 z_7 z_7 z_7 ?_)
  refine gl_nil ?_
  refine at_ga (.inl z_4) ?_
  refine ga_done z_4 ?_
  rotate_left 1
  refine r_ (s_load_blk rfl z_2 a13_5) ?_
  refine gl_nil ?_
  refine at_ga (.inl z_4) ?_
  refine ga_one 14 rfl z_4 ?_
  refine r_ (s_load_blk rfl z_2 a13_4) ?_
  refine gl_nil ?_
  refine at_ga (.inl z_4) ?_
  refine w_ 21 rfl (s_nilCheck rfl) ?_
  refine w_ 22 rfl z_1 ?_
  refine w_ 23 rfl z_1 ?_
  refine ga_one 24 rfl z_4 ?_
  (refine gl_store_blkC (pre := [_, _, _, _, _, _, _, _, _, _, _, _, _, _, _, _]) (post := [_, _]) rfl rfl z_5 z_7 z_7 z_7 ?_)
  refine gl_nil ?_
  refine at_ga (.inl z_4) ?_
  refine w_ 25 rfl (s_nilCheck rfl) ?_
  refine w_ 26 rfl z_1 ?_
  refine w_ 27 rfl z_1 ?_
  refine ga_one 28 rfl z_4 ?_
  (refine gl_store_blkC (pre := [_, _, _, _, _, _, _, _, _, _, _, _, _, _, _, _, _]) (post := [_]) rfl rfl z_5 z_7 z_7 z_7 ?_)
  refine gl_nil ?_
  refine at_ga (.inl z_4) ?_
  refine ga_done z_4 ?_
  rotate_left 1
  all_goals (repeat refine y_ ?_)
  all_goals
   exact at_cut j_ (fun w hw => by rw [hp1]; exact hw.perm (perm_up z_2 (perm_up z_2 (.refl _))))
 obtain ⟨q11, hq11⟩ : ∃ q, q = decide ((pb.length : Int) < m.p.size) := ⟨_, rfl⟩
 rw [hp1]
 repeat refine y_ ?_
 refine g_draw ([4, 7], [0, 1, 3, 7, 15, 31, 0, 64, 255], []) [.blk X (mdO ⟨{ p with piece := pb, pix := m.p.index, pt := m.p.lt }, a, outs, oa0, oc0⟩), blkMsg g3 m] 9 rfl ?_
 refine w_ 0 rfl (s_move rfl) ?_
 refine w_ 1 rfl (s_nilCheck rfl) ?_
 refine w_ 2 rfl z_1 ?_
 refine w_ 3 rfl z_1 ?_
 (refine ga_read_k 4 rfl z_11 (s_load_blk rfl .del a19_15) k_ rfl rfl rfl z_4 ?_)
 refine w_ 5 rfl (s_len_str rfl) ?_
 refine w_ 6 rfl z_1 ?_
 (refine ga_read_k 7 rfl z_9 (s_load_blk rfl .del a13_11) k_ rfl rfl rfl z_4 ?_)
 refine w_ 8 rfl ((s_lss rfl rfl).eb hq11) ?_
 refine ga_done z_4 ?_
 repeat refine y_ ?_
 cases q11
 rotate_left
 ·have h11 := of_decide_eq_true hq11.symm
  have e1 : pcP p m.p = { p with piece := pb, pix := m.p.index, pt := m.p.lt } := by rw [pcP, if_neg hno, ← hpb, if_pos h11, hp1]
  have e2 : pcM p m.p = [gotM p m.p.frm m.p.index (pb.length : Nat)] := by rw [pcM, hb0, if_neg (by decide), if_neg h7, ← hhve, if_neg (by omega), ← hpb, if_pos h11]
  simp only [e1, e2]
  repeat refine y_ ?_
  refine g_draw ([2, 4, 9], [0, 0, 2, 0, 8, 0, 32, 96, 224, 480, 992, 2040, 4095], [12]) [.blk X (mdO ⟨{ p with piece := pb, pix := m.p.index, pt := m.p.lt }, a, outs, oa0, oc0⟩), blkMsg g3 m] 13 rfl ?_
  refine w_ 0 rfl (s_move rfl) ?_
  refine w_ 1 rfl z_1 ?_
  (refine ga_read_k 2 rfl z_9 (s_load_blk rfl .del a13_1) k_ rfl rfl rfl z_4 ?_)
  refine w_ 3 rfl z_1 ?_
  (refine ga_read_k 4 rfl z_9 (s_load_blk rfl .del a13_4) k_ rfl rfl rfl z_4 ?_)
  refine w_ 5 rfl (s_move rfl) ?_
  refine w_ 6 rfl (s_nilCheck rfl) ?_
  refine w_ 7 rfl z_1 ?_
  refine w_ 8 rfl z_1 ?_
  (refine ga_read_k 9 rfl z_11 (s_load_blk rfl .del a19_15) k_ rfl rfl rfl z_4 ?_)
  refine w_ 10 rfl (s_len_str rfl) ?_
  refine w_ 11 rfl ((s_bld (cells := (mmC (gotMM m.p.index (pb.length : Nat))).toArray) rfl z_4).eq (v' := mmA (gotMM m.p.index (pb.length : Nat))) rfl) ?_
  refine ga_one 12 rfl z_4 ?_
  refine gl_call [blkMsg g3 m] rfl (say_ct X ⟨{ p with piece := pb, pix := m.p.index, pt := m.p.lt }, a, outs, oa0, oc0⟩ m.p.frm (gotMM m.p.index (pb.length : Nat)) (by simp only; omega)) (fun w hw => hw.perm (perm_up z_2 (perm_up z_2 (perm_up z_2 (perm_up z_2 (perm_up z_2 (perm_up z_2 (.refl _)))))))) (fun _ _ _ => trivial) rfl ?_; rintro v A ⟨rfl, oa, oc, rfl⟩
  refine gl_nil ?_
  refine at_ga (.inl z_4) ?_
  refine ga_done z_4 ?_
  repeat refine y_ ?_
  refine g_ret ?_
  exact at_end0 rfl _ (MdP.said X ⟨p, a, outs, oa0, oc0⟩ { p with piece := pb, pix := m.p.index, pt := m.p.lt } a outs ⟨gotM p m.p.frm m.p.index (pb.length : Nat), none, 0, none, 0⟩ oa oc _ rfl (fun h => mok_nil h _ rfl rfl)) (fun w hw => by rw [List.append_nil]; exact Hp.left hw)
 have h11 := of_decide_eq_false hq11.symm
 obtain ⟨nl, hnl⟩ : ∃ nl, nl = instL p.g m.p.index m.p.lt := ⟨_, rfl⟩
 have e1 : pcP p m.p = { p with base := m.p.index, bt := m.p.lt, conf := m.p.conf, l := nl, img := pb, commit := m.p.index, piece := [], pix := 0, pt := 0 } := by rw [pcP, if_neg hno, ← hpb, if_neg h11, piece2, ← hpb, ← hnl]
 have e2 : pcM p m.p = [ackM p m.p.frm true m.p.index] := by rw [pcM, hb0, if_neg (by decide), if_neg h7, ← hhve, if_neg (by omega), ← hpb, if_neg h11]
 simp only [e1, e2]
 repeat refine y_ ?_
 refine g_draw ([5, 7, 9, 11], [0, 0, 2, 6, 14, 30, 0, 64, 0, 256, 0, 1024, 4094, 8191, 16383, 32767, 65535], [12, 16]) [.blk X (mdO ⟨{ p with piece := pb, pix := m.p.index, pt := m.p.lt }, a, outs, oa0, oc0⟩), blkMsg g3 m] 17 rfl ?_
 refine w_ 0 rfl (s_move rfl) ?_
 refine w_ 1 rfl (s_move rfl) ?_
 refine w_ 2 rfl (s_nilCheck rfl) ?_
 refine w_ 3 rfl z_1 ?_
 refine w_ 4 rfl z_1 ?_
 refine ga_read_k 5 rfl z_11 ((s_load_blkN rfl .del z_7).eq (v' := (p.lm a).v) rfl) k_ rfl rfl rfl z_4 ?_
 refine w_ 6 rfl z_1 ?_
 (refine ga_read_k 7 rfl z_9 (s_load_blk rfl .del a13_4) k_ rfl rfl rfl z_4 ?_)
 refine w_ 8 rfl z_1 ?_
 (refine ga_read_k 9 rfl z_9 (s_load_blk rfl .del a13_5) k_ rfl rfl rfl z_4 ?_)
 refine w_ 10 rfl z_1 ?_
 (refine ga_read_k 11 rfl z_9 (s_load_blk rfl .del a13_9) k_ rfl rfl rfl z_4 ?_)
 refine ga_one 12 rfl z_4 ?_
 refine gl_call _ rfl (Install_ct (p.lm a) m.p.index m.p.lt m.p.conf m.ka m.kc (hf.fit a hcap) hix (by omega)) i_ (fun h hh ⟨bs, hb⟩ => ⟨Sat.rd (a := a.la) hb z_2, hmo.k.le hh⟩) rfl ?_; rw [inst_any, ← hnl]; rintro v A ⟨ca, cc, la, lc, rfl, rfl⟩
 refine gl_nil ?_
 refine at_ga (.inl z_4) ?_
 refine w_ 13 rfl (s_nilCheck rfl) ?_
 refine w_ 14 rfl z_1 ?_
 refine w_ 15 rfl z_1 ?_
 refine ga_one 16 rfl z_4 ?_
 (refine gl_store_blk rfl rfl z_5 z_7 z_3 z_7 ?_)
 refine gl_nil ?_
 refine at_ga (.inl z_4) ?_
 refine ga_done z_4 ?_
 repeat refine y_ ?_
 obtain ⟨a1, ha1⟩ : ∃ a1 : RA, a1 = { a with ca := ca, cc := cc, la := la, lc := lc } := ⟨_, rfl⟩
 refine g_pull (H' := blkMsg g3 m :: mdH X ⟨{ p with base := m.p.index, bt := m.p.lt, conf := m.p.conf, l := nl, piece := pb, pix := m.p.index, pt := m.p.lt }, a1, outs, oa0, oc0⟩) (fun w hw => by subst ha1; exact Hp.left (R := [OwnL a.la p.l a.lc, OwnC a.ca p.conf a.cc]) (hw.perm (perm_up z_2 (perm_up z_2 (perm_up z_2 (perm_up z_2 (perm_up z_2 (perm_up z_2 (perm_up z_2 (perm_up z_2 (.refl _))))))))))) ?_
 repeat refine y_ ?_
 refine g_cutK [(0, Ptr X), (3, Ptr g3)] (blkMsg g3 m :: mdH X ⟨{ p with base := m.p.index, bt := m.p.lt, conf := m.p.conf, l := nl, img := pb, commit := m.p.index, piece := pb, pix := m.p.index, pt := m.p.lt }, a1, outs, oa0, oc0⟩) ?_ ?_
 ·repeat refine y_ ?_
  refine g_draw ([6], [0, 0, 0, 4, 12, 28, 60, 0, 128, 125, 637, 1661, 3709, 8191, 16383, 32767, 65535], [8, 12, 16]) [.blk X (mdO ⟨{ p with base := m.p.index, bt := m.p.lt, conf := m.p.conf, l := nl, piece := pb, pix := m.p.index, pt := m.p.lt }, a1, outs, oa0, oc0⟩), blkMsg g3 m] 17 rfl ?_
  refine w_ 0 rfl (s_move rfl) ?_
  refine w_ 1 rfl (s_move rfl) ?_
  refine w_ 2 rfl (s_move rfl) ?_
  refine w_ 3 rfl (s_nilCheck rfl) ?_
  refine w_ 4 rfl z_1 ?_
  refine w_ 5 rfl z_1 ?_
  (refine ga_read_k 6 rfl z_11 (s_load_blk rfl .del a19_15) k_ rfl rfl rfl z_4 ?_)
  refine w_ 7 rfl z_1 ?_
  refine w_ 9 rfl (s_nilCheck rfl) ?_
  refine w_ 10 rfl z_1 ?_
  refine w_ 11 rfl z_1 ?_
  refine ga_two 8 12 rfl rfl z_4 ?_ ?_
  refine r_ (s_load_blk rfl z_2 a13_4) ?_
  refine gl_nil ?_
  refine at_ga (.inr (by exact keeps_of k_)) ?_
  refine ga_one 12 rfl z_4 ?_
  (refine gl_store_blkC (pre := [_, _, _, _, _, _, _, _, _]) (post := [_, _, _, _, _, _, _, _, _]) rfl rfl z_5 z_7 z_7 z_7 ?_)
  refine gl_nil ?_
  refine at_ga (.inl z_4) ?_
  refine w_ 13 rfl (s_nilCheck rfl) ?_
  refine w_ 14 rfl z_1 ?_
  refine w_ 15 rfl z_1 ?_
  refine ga_one 16 rfl z_4 ?_
  (refine gl_store_blkC (pre := [_, _, _, _, _, _, _, _, _, _]) (post := [_, _, _, _, _, _, _, _]) rfl rfl z_5 z_7 z_7 z_7 ?_)
  refine gl_nil ?_
  refine at_ga (.inl z_4) ?_
  refine ga_done z_4 ?_
  rotate_left 1
  (refine gl_store_blkC (pre := [_, _, _, _, _, _, _, _, _]) (post := [_, _, _, _, _, _, _, _, _]) rfl rfl z_5 z_7 z_7 z_7 ?_)
  refine gl_nil ?_
  refine at_ga (.inl z_4) ?_
  refine ga_one 8 rfl z_4 ?_
  refine r_ (s_load_blk rfl z_2 a13_4) ?_
  refine gl_nil ?_
  refine at_ga (.inl z_4) ?_
  refine w_ 13 rfl (s_nilCheck rfl) ?_
  refine w_ 14 rfl z_1 ?_
  refine w_ 15 rfl z_1 ?_
  refine ga_one 16 rfl z_4 ?_
  (refine gl_store_blkC (pre := [_, _, _, _, _, _, _, _, _, _]) (post := [_, _, _, _, _, _, _, _]) rfl rfl z_5 z_7 z_7 z_7 ?_)
  refine gl_nil ?_
  refine at_ga (.inl z_4) ?_
  refine ga_done z_4 ?_
  rotate_left 1
  all_goals (repeat refine y_ ?_)
  all_goals
   exact at_cut j_ (fun w hw => hw.perm (perm_up z_2 (perm_up z_2 (.refl _))))
 repeat refine x_ ?_
 refine m_ ?_
 refine m_ ?_
 refine m_ ?_
 refine f_ (s_nilCheck rfl) ?_
 refine f_ z_1 ?_
 refine f_ z_1 ?_
 (refine gl_store_blkC (pre := [_, _, _, _, _, _, _, _, _, _, _, _, _, _, _]) (post := [_, _, _]) rfl rfl z_5 z_7 z_7 z_7 ?_)
 refine f_ (s_nilCheck rfl) ?_
 refine f_ z_1 ?_
 refine f_ z_1 ?_
 (refine gl_store_blkC (pre := [_, _, _, _, _, _, _, _, _, _, _, _, _, _, _, _]) (post := [_, _]) rfl rfl z_5 z_7 z_7 z_7 ?_)
 refine f_ (s_nilCheck rfl) ?_
 refine f_ z_1 ?_
 refine f_ z_1 ?_
 (refine gl_store_blkC (pre := [_, _, _, _, _, _, _, _, _, _, _, _, _, _, _, _, _]) (post := [_]) rfl rfl z_5 z_7 z_7 z_7 ?_)
 repeat refine n_ ?_
 refine g_pull (H' := blkMsg g3 m :: mdH X ⟨{ p with base := m.p.index, bt := m.p.lt, conf := m.p.conf, l := nl, img := pb, commit := m.p.index, piece := [], pix := 0, pt := 0 }, a1, outs, oa0, oc0⟩) (fun w hw => hw.perm (perm_up z_2 (perm_up z_2 (.refl _)))) ?_
 repeat refine x_ ?_
 refine m_ ?_
 refine f_ z_1 ?_
 refine r_ (by exact s_load_blk rfl z_2 a13_1) ?_
 refine f_ z_1 ?_
 refine r_ (by exact s_load_blk rfl z_2 a13_4) ?_
 refine f_ ((s_bld (cells := (mmC (ackMM true m.p.index)).toArray) rfl z_4).eq (v' := mmA (ackMM true m.p.index)) rfl) ?_
 refine gl_call [blkMsg g3 m] rfl (say_ct X ⟨{ p with base := m.p.index, bt := m.p.lt, conf := m.p.conf, l := nl, img := pb, commit := m.p.index, piece := [], pix := 0, pt := 0 }, a1, outs, oa0, oc0⟩ m.p.frm (ackMM true m.p.index) (by simp only; omega)) (fun w hw => hw.perm (perm_up z_2 (perm_up z_2 (perm_up z_2 (perm_up z_2 (perm_up z_2 (perm_up z_2 (.refl _)))))))) (fun _ _ _ => trivial) rfl ?_; rintro v A ⟨rfl, oa, oc, rfl⟩
 repeat refine n_ ?_
 exact at_end0 rfl _ (MdP.said X ⟨p, a, outs, oa0, oc0⟩ { p with base := m.p.index, bt := m.p.lt, conf := m.p.conf, l := nl, img := pb, commit := m.p.index, piece := [], pix := 0, pt := 0 } a1 outs ⟨ackM p m.p.frm true m.p.index, none, 0, none, 0⟩ oa oc _ rfl (fun h => mok_nil h _ rfl rfl)) (fun w hw => by rw [List.append_nil]; exact Hp.left hw)
end Go.Proofs.YtodcghipfolejaaGreat.Rf
