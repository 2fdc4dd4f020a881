import Derived.Test.YtodcghipfolejaaGreatJx1
import Derived.Test.YtodcghipfolejaaGreatJx2
set_option linter.unusedVariables false
set_option linter.unusedSimpArgs false
namespace Go.Proofs.YtodcghipfolejaaGreat
open Go Go.Sl
def okAt (l : List Int) (i : Nat) : Bool := decide (1 ≤ l.getD i 0) && decide (l.getD i 0 ≤ 5) && (decide (i = 0) || decide (l.getD (i - 1) 0 < l.getD i 0))
def rightB (l : List Int) : Bool := decide (0 < l.length) && (List.range l.length).all (okAt l)
theorem rightB_no {l : List Int} {i : Nat} (hi : i < l.length) (h : okAt l i = false) : rightB l = false := by
 unfold rightB
 rw [Bool.and_eq_false_iff]; right
 rw [List.all_eq_false]
 exact ⟨i, by simpa using hi, by simp [h]⟩
theorem rightB_end {l : List Int} (h : ∀ i, i < l.length → okAt l i = true) : rightB l = decide (0 < l.length) := by
 unfold rightB
 have : (List.range l.length).all (okAt l) = true := by rw [List.all_eq_true]; intro i hi; exact h i (by simpa using hi)
 rw [this]; simp
theorem rightB_spec {l : List Int} (h : rightB l = true) : 0 < l.length ∧ ∀ i, i < l.length → okAt l i = true := by
 unfold rightB at h
 rw [Bool.and_eq_true, List.all_eq_true] at h
 exact ⟨by simpa using h.1, fun i hi => h.2 i (by simpa using hi)⟩
def idx (l : List Int) (v : Int) : Int := if v ∈ l then (l.idxOf v : Nat) else -1
def inB (l : List Int) (v : Int) : Bool := decide (v ∈ l)
theorem idx_ge (l : List Int) (v : Int) : decide (0 ≤ idx l v) = inB l v := by
 unfold idx inB; split <;> simp_all
theorem take_not_mem {l : List Int} {v : Int} {i : Nat} (h : v ∉ l.take i) (hi : i < l.length) (he : l.getD i 0 = v) : idx l v = (i : Nat) := by
 have hm : v ∈ l := by
  rw [List.mem_iff_getElem]; exact ⟨i, hi, by simpa [hi] using he⟩
 unfold idx; rw [if_pos hm]
 congr 1
 have e : l = l.take i ++ l.drop i := (List.take_append_drop i l).symm
 conv => lhs; rw [e]
 rw [List.idxOf_append, if_neg h]
 have e2 : l.drop i = v :: l.drop (i + 1) := by
  rw [List.drop_eq_getElem_cons hi]; congr 1; simpa [hi] using he
 rw [e2, List.idxOf_cons_self, List.length_take]; omega
theorem take_succ_mem {l : List Int} {v : Int} {i : Nat} (hi : i < l.length) : v ∈ l.take (i + 1) ↔ v ∈ l.take i ∨ l.getD i 0 = v := by
 rw [List.take_succ_eq_append_getElem hi, List.mem_append]
 simp only [List.mem_singleton, List.getD_eq_getElem?_getD, List.getElem?_eq_getElem hi, Option.getD_some]
 constructor
 ·rintro (h | h)
  ·exact .inl h
  ·exact .inr h.symm
 ·rintro (h | h)
  ·exact .inl h
  ·exact .inr h.symm
def cntB (l who : List Int) : Nat := l.countP (inB who)
def mostB (l who : List Int) : Bool := rightB l && decide (l.length < 2 * cntB l who)
theorem cnt_succ {l who : List Int} {i : Nat} (hi : i < l.length) : cntB (l.take (i + 1)) who = cntB (l.take i) who + if inB who (l.getD i 0) then 1 else 0 := by
 have e : l.getD i 0 = l[i] := by simp [hi]
 rw [cntB, List.take_succ_eq_append_getElem hi, List.countP_append, e]
 simp only [cntB, List.countP_cons, List.countP_nil, Nat.zero_add]
theorem cnt_le (l who : List Int) : cntB l who ≤ l.length := List.countP_le_length
def pick (p : Int → Bool) (k : Nat) : List Int := ((List.range k).map fun i => ((i : Nat) : Int) + 1).filter p
theorem pick_succ (p : Int → Bool) (k : Nat) : pick p (k + 1) = pick p k ++ if p ((k : Int) + 1) then [(k : Int) + 1] else [] := by
 simp only [pick, List.range_succ, List.map_append, List.filter_append, List.map_cons, List.map_nil, List.filter_cons, List.filter_nil]
theorem pick_le (p : Int → Bool) (k : Nat) : (pick p k).length ≤ k := by
 have := List.length_filter_le p ((List.range k).map fun i => ((i : Nat) : Int) + 1)
 simpa [pick] using this
def withL (l : List Int) (n : Int) : List Int := pick (fun m => inB l m || decide (m = n)) 5
def withoutL (l : List Int) (n : Int) : List Int := l.filter fun m => !decide (m = n)
theorem without_succ {l : List Int} {n : Int} {i : Nat} (hi : i < l.length) : withoutL (l.take (i + 1)) n = withoutL (l.take i) n ++ if l.getD i 0 = n then [] else [l.getD i 0] := by
 have e : l.getD i 0 = l[i] := by simp [hi]
 rw [withoutL, List.take_succ_eq_append_getElem hi, List.filter_append, e]
 simp only [withoutL, List.filter_cons, List.filter_nil]
 congr 1
 split <;> split <;> simp_all
theorem without_le (l : List Int) (n : Int) : (withoutL l n).length ≤ l.length := List.length_filter_le _ _
theorem same_cases {a b : List Int} (h : a.length = b.length) (hk : ∀ i, i < a.length → a.getD i 0 = b.getD i 0) : a = b := by
 apply List.ext_getElem h
 intro i h1 h2
 have := hk i h1
 simpa [h1, h2] using this
end Go.Proofs.YtodcghipfolejaaGreat
namespace Go.Proofs.YtodcghipfolejaaGreat
open Go Go.Sl
theorem Right_ct (l : List Int) (a : Option Addr) (c : Nat) (hl : l.length ≤ 9223372036854775807) : Pu Tryz.prog 117 [.slice a l.length c] (fun h => RdS h a (intsV l)) (.bool (rightB l)) := by
  refine ct_enter 35 Tryz.func117 rfl rfl rfl ?_
  intro F hrd
  repeat refine x_ ?_
  refine a_ ?_
  repeat refine x_ ?_
  refine m_ ?_
  refine f_ (s_len_sl rfl) ?_
  refine m_ ?_
  repeat refine n_ ?_
  refine g_loop (ι := Nat) (fun k => k ≤ l.length ∧ ∀ j, j < k → okAt l j = true) (fun k => [(0, .slice a l.length c), (5, .slice a l.length c), (6, .int .i64 (l.length : Nat)), (7, .int .i64 (k : Nat))]) (fun k => []) (fun k => l.length - k) 0 ⟨by omega, fun j hj => absurd hj (by omega)⟩ ?_ ?_ ?_
  · (repeat (first | exact Sub.nil _ | refine Sub.cons rfl ?_))
  · intro w hw; exact hw
  · intro k hk
    obtain ⟨hk, hok⟩ := hk
    repeat refine x_ ?_
    refine f_ (s_lss rfl rfl) ?_
    repeat refine n_ ?_
    refine g_cond rfl (fun h => ?_) (fun h => ?_)
    · have hk' : k < l.length := by simp at h; omega
      have hsome := rdI_some hrd hk'
      repeat refine x_ ?_
      refine m_ ?_
      refine f_ (s_indexAddr rfl (by assumption) rfl (by omega)) ?_
      refine r_ (s_load1 rfl (fun w hw => rdI hw hrd (i := k) (by omega) (by omega))) ?_
      refine a_ ?_
      refine a_ ?_
      repeat refine n_ ?_
      refine g_cutK [(0, .slice a l.length c), (5, .slice a l.length c), (6, .int .i64 (l.length : Nat)), (7, .int .i64 (k : Nat)), (30, .bool (!okAt l k))] [] ?_ ?_
      · cases hq1 : decide (l.getD k 0 < 1) <;> cases hq2 : decide (5 < l.getD k 0) <;> cases hq3 : decide ((0 : Int) < (k : Nat)) <;> cases hq4 : decide (l.getD k 0 ≤ l.getD (k - 1) 0)
        all_goals (
          repeat refine x_ ?_
          refine m_ ?_
          refine f_ ((s_lss rfl rfl).eq (congrArg Value.bool hq1)) ?_
          refine m_ ?_
          (first | refine gl_guard_no rfl rfl rfl rfl rfl rfl rfl ?_ | (refine v_ ?_; refine m_ ?_))
          (first | refine gl_guard_no rfl rfl rfl rfl rfl rfl rfl ?_ | (refine v_ ?_; refine f_ ((s_gtr rfl rfl).eq (congrArg Value.bool hq2)) ?_))
          refine f_ z_6 ?_
          refine m_ ?_
          (first | refine gl_guard_no rfl rfl rfl rfl rfl rfl rfl ?_ | (refine v_ ?_; refine m_ ?_))
          (first | refine gl_guard_no rfl rfl rfl rfl rfl rfl rfl ?_ | (refine v_ ?_; refine f_ ((s_gtr rfl rfl).eq (congrArg Value.bool hq3)) ?_))
          (first | refine gl_guard_no rfl rfl rfl rfl rfl rfl rfl ?_ | (refine v_ ?_; refine m_ ?_))
          (first|refine u_ ?_|(refine v_ ?_; refine m_ ?_))
          (first|refine u_ ?_|(refine v_ ?_; refine m_ ?_))
          (first|refine u_ ?_|(refine v_ ?_; refine f_ (s_sub_i64 rfl rfl (by omega)) ?_))
          (first|refine u_ ?_|(refine v_ ?_; refine f_ (s_indexAddr rfl hsome rfl (by simp at hq3; omega)) ?_))
          (first|refine u_ ?_|(refine v_ ?_; refine r_ (s_load1 rfl (fun w hw => rdI hw hrd (i := k - 1) (by simp at hq3; omega) (by omega))) ?_))
          (first|refine u_ ?_|(refine v_ ?_; refine m_ ?_))
          (first|refine u_ ?_|(refine v_ ?_; refine f_ ((s_geq rfl rfl).eq (congrArg Value.bool hq4)) ?_))
          (first | refine gl_guard_no rfl rfl rfl rfl rfl rfl rfl ?_ | (refine v_ ?_; refine f_ z_6 ?_))
          refine f_ z_6 ?_
          refine gl_nil ?_
          repeat refine y_ ?_)
        all_goals (
          have e : okAt l k = (decide (1 ≤ l.getD k 0) && decide (l.getD k 0 ≤ 5) && (decide (k = 0) || decide (l.getD (k - 1) 0 < l.getD k 0))) := rfl
          simp only [decide_eq_true_eq, decide_eq_false_iff_not] at hq1 hq2 hq3 hq4
          first
          | (exfalso; omega)
          | (have hv2 : okAt l k = true := by rw [e]; simp only [Bool.and_eq_true, Bool.or_eq_true, decide_eq_true_eq]; omega
             rw [hv2]
             exact at_cut j_ i_)
          | (have hv2 : okAt l k = false := by rw [e]; simp only [Bool.and_eq_false_iff, Bool.or_eq_false_iff, decide_eq_false_iff_not]; omega
             rw [hv2]
             exact at_cut j_ i_))
      · repeat refine y_ ?_
        refine g_cond rfl (fun h2 => ?_) (fun h2 => ?_)
        · have h3 : okAt l k = false := by simpa using h2
          repeat refine x_ ?_
          refine a_ ?_
          repeat refine n_ ?_
          refine g_ret ?_
          exact at_end1 rfl rfl [] ⟨by rw [rightB_no hk' h3], rfl⟩ (fun _ h => h)
        · have h3 : okAt l k = true := by simpa using h2
          repeat refine x_ ?_
          refine f_ (s_add_i64 rfl rfl (by omega)) ?_
          refine m_ ?_
          repeat refine n_ ?_
          refine at_next (k + 1) ⟨by omega, fun j hj => ?_⟩ (by omega) ?_ ?_
          · rcases Nat.lt_succ_iff_lt_or_eq.1 hj with h4 | rfl
            · exact hok j h4
            · exact h3
          · (repeat (first | exact Sub.nil _ | refine Sub.cons rfl ?_))
          · intro w hw; exact hw
    · have hkl : k = l.length := by simp at h; omega
      subst hkl
      repeat refine x_ ?_
      refine m_ ?_
      refine f_ (s_len_sl rfl) ?_
      refine f_ (s_gtr rfl rfl) ?_
      refine a_ ?_
      repeat refine n_ ?_
      refine g_ret ?_
      exact at_end1 rfl rfl [] ⟨by rw [rightB_end hok]; congr 1; simp, rfl⟩ (fun _ h => h)
theorem rRight_ct (l : List Int) (a : Option Addr) (c : Nat) (hl : l.length ≤ 9223372036854775807) : Pu Tryz.prog 49 [.slice a l.length c] (fun h => RdS h a (intsV l)) (.bool (rightB l)) := by
  refine ct_enter 41 Tryz.func49 rfl rfl rfl ?_
  intro F hrd
  repeat refine x_ ?_
  refine a_ ?_
  repeat refine x_ ?_
  refine a_ ?_
  repeat refine n_ ?_
  refine g_loop (ι := Nat) (fun k => k ≤ l.length ∧ ∀ j, j < k → okAt l j = true) (fun k => [(0, .slice a l.length c), (3, .int .i64 (k : Nat))]) (fun k => []) (fun k => l.length - k) 0 ⟨by omega, fun j hj => absurd hj (by omega)⟩ ?_ ?_ ?_
  · (repeat (first | exact Sub.nil _ | refine Sub.cons rfl ?_))
  · intro w hw; exact hw
  · intro k hk
    obtain ⟨hk, hok⟩ := hk
    repeat refine x_ ?_
    refine m_ ?_
    refine m_ ?_
    refine f_ (s_len_sl rfl) ?_
    refine f_ (s_lss rfl rfl) ?_
    repeat refine n_ ?_
    refine g_cond rfl (fun h => ?_) (fun h => ?_)
    · have hk' : k < l.length := by simp at h; omega
      have hsome := rdI_some hrd hk'
      repeat refine y_ ?_
      refine g_cutK [(0, .slice a l.length c), (3, .int .i64 (k : Nat)), (37, .bool (!okAt l k))] [] ?_ ?_
      · cases hq1 : decide (l.getD k 0 < 1) <;> cases hq2 : decide (5 < l.getD k 0) <;> cases hq3 : decide ((0 : Int) < (k : Nat)) <;> cases hq4 : decide (l.getD k 0 ≤ l.getD (k - 1) 0)
        all_goals (have hp3 := hq3; simp only [decide_eq_true_eq, decide_eq_false_iff_not] at hp3)
        all_goals (
          repeat refine y_ ?_
          refine g_draw0 ([3, 9, 19, 24], [0, 0, 3, 7, 15, 31, 63, 63, 255, 511, 1023, 2047, 4095, 8191, 16383, 32767, 65535, 65535, 262143, 524287, 65535, 65535, 2162687, 7405567, 15794175, 33554431, 67108863, 134217727], []) 28 rfl ?_
          refine w_ 0 rfl (s_move rfl) ?_
          refine w_ 1 rfl (s_move rfl) ?_
          refine w_ 2 rfl (s_indexAddr rfl (by assumption) rfl (by omega)) ?_
          refine ga_readF 3 rfl (s_load1 rfl (fun w hw => rdI hw hrd (i := k) (by omega) (by omega))) z_15 rfl rfl rfl z_4 ?_
          refine w_ 4 rfl ((s_lss rfl rfl).eq (congrArg Value.bool hq1)) ?_
          refine w_ 5 rfl (s_move rfl) ?_
          (first | refine s_ 6 ?_ | refine ga_free_g 6 rfl (s_move rfl) rfl rfl rfl rfl rfl rfl z_4 ?_)
          (first | refine s_ 7 ?_ | refine ga_free_g 7 rfl (s_move rfl) rfl rfl rfl rfl rfl rfl z_4 ?_)
          (first | refine s_ 8 ?_ | refine ga_free_g 8 rfl (s_indexAddr rfl (by assumption) rfl (by omega)) rfl rfl rfl rfl rfl rfl z_4 ?_)
          (first | refine s_ 9 ?_ | refine ga_readF_g 9 rfl (s_load1 rfl (fun w hw => rdI hw hrd (i := k) (by omega) (by omega))) z_15 rfl rfl rfl rfl rfl rfl z_4 ?_)
          (first | refine s_ 10 ?_ | refine ga_free_g 10 rfl ((s_gtr rfl rfl).eq (congrArg Value.bool hq2)) rfl rfl rfl rfl rfl rfl z_4 ?_)
          refine w_ 11 rfl z_6 ?_
          refine w_ 12 rfl (s_move rfl) ?_
          (first | refine s_ 13 ?_ | refine ga_free_g 13 rfl (s_move rfl) rfl rfl rfl rfl rfl rfl z_4 ?_)
          (first | refine s_ 14 ?_ | refine ga_free_g 14 rfl ((s_gtr rfl rfl).eq (congrArg Value.bool hq3)) rfl rfl rfl rfl rfl rfl z_4 ?_)
          (first | refine s_ 15 ?_ | refine ga_free_g 15 rfl (s_move rfl) rfl rfl rfl rfl rfl rfl z_4 ?_)
          (first | refine s_ 16 ?_ | refine t_ 16 ?_ | refine ga_free_g 16 rfl (s_move rfl) rfl rfl rfl rfl rfl rfl z_4 ?_)
          (first | refine s_ 17 ?_ | refine t_ 17 ?_ | refine ga_free_g 17 rfl (s_move rfl) rfl rfl rfl rfl rfl rfl z_4 ?_)
          (first | refine s_ 18 ?_ | refine t_ 18 ?_ | refine ga_free_g 18 rfl (s_indexAddr rfl (by assumption) rfl (by omega)) rfl rfl rfl rfl rfl rfl z_4 ?_)
          (first | refine s_ 19 ?_ | refine t_ 19 ?_ | refine ga_readF_g 19 rfl (s_load1 rfl (fun w hw => rdI hw hrd (i := k) (by omega) (by omega))) z_15 rfl rfl rfl rfl rfl rfl z_4 ?_)
          (first | refine s_ 20 ?_ | refine t_ 20 ?_ | refine ga_free_g 20 rfl (s_move rfl) rfl rfl rfl rfl rfl rfl z_4 ?_)
          (first | refine s_ 21 ?_ | refine t_ 21 ?_ | refine ga_free_g 21 rfl (s_move rfl) rfl rfl rfl rfl rfl rfl z_4 ?_)
          (first | refine s_ 22 ?_ | refine t_ 22 ?_ | refine ga_free_g 22 rfl (s_sub_i64 rfl rfl (by omega)) rfl rfl rfl rfl rfl rfl z_4 ?_)
          (first | refine s_ 23 ?_ | refine t_ 23 ?_ | refine ga_free_g 23 rfl (s_indexAddr rfl (by assumption) rfl (by omega)) rfl rfl rfl rfl rfl rfl z_4 ?_)
          (first | refine s_ 24 ?_ | refine t_ 24 ?_ | refine ga_readF_g 24 rfl (s_load1 rfl (fun w hw => rdI hw hrd (i := k - 1) (by omega) (by omega))) z_15 rfl rfl rfl rfl rfl rfl z_4 ?_)
          (first | refine s_ 25 ?_ | refine t_ 25 ?_ | refine ga_free_g 25 rfl ((s_leq rfl rfl).eq (congrArg Value.bool hq4)) rfl rfl rfl rfl rfl rfl z_4 ?_)
          (first | refine s_ 26 ?_ | refine ga_free_g 26 rfl z_6 rfl rfl rfl rfl rfl rfl z_4 ?_)
          refine w_ 27 rfl z_6 ?_
          refine ga_done z_4 ?_
          repeat refine y_ ?_)
        all_goals (
          have e : okAt l k = (decide (1 ≤ l.getD k 0) && decide (l.getD k 0 ≤ 5) && (decide (k = 0) || decide (l.getD (k - 1) 0 < l.getD k 0))) := rfl
          simp only [decide_eq_true_eq, decide_eq_false_iff_not] at hq1 hq2 hq3 hq4
          first
          | (exfalso; omega)
          | (have hv2 : okAt l k = true := by rw [e]; simp only [Bool.and_eq_true, Bool.or_eq_true, decide_eq_true_eq]; omega
             rw [hv2]
             exact at_cut j_ i_)
          | (have hv2 : okAt l k = false := by rw [e]; simp only [Bool.and_eq_false_iff, Bool.or_eq_false_iff, decide_eq_false_iff_not]; omega
             rw [hv2]
             exact at_cut j_ i_))
      · repeat refine y_ ?_
        refine g_cond rfl (fun h2 => ?_) (fun h2 => ?_)
        · have h3 : okAt l k = false := by simpa using h2
          repeat refine x_ ?_
          refine a_ ?_
          repeat refine n_ ?_
          refine g_ret ?_
          exact at_end1 rfl rfl [] ⟨by rw [rightB_no hk' h3], rfl⟩ (fun _ h => h)
        · have h3 : okAt l k = true := by simpa using h2
          repeat refine x_ ?_
          refine m_ ?_
          refine f_ (s_add_i64 rfl rfl (by omega)) ?_
          refine a_ ?_
          repeat refine n_ ?_
          refine at_next (k + 1) ⟨by omega, fun j hj => ?_⟩ (by omega) ?_ ?_
          · rcases Nat.lt_succ_iff_lt_or_eq.1 hj with h4 | rfl
            · exact hok j h4
            · exact h3
          · (repeat (first | exact Sub.nil _ | refine Sub.cons rfl ?_))
          · intro w hw; exact hw
    · have hkl : k = l.length := by simp at h; omega
      subst hkl
      repeat refine x_ ?_
      refine m_ ?_
      refine f_ (s_len_sl rfl) ?_
      refine f_ (s_gtr rfl rfl) ?_
      refine a_ ?_
      repeat refine n_ ?_
      refine g_ret ?_
      exact at_end1 rfl rfl [] ⟨by rw [rightB_end hok]; congr 1; simp, rfl⟩ (fun _ h => h)
theorem Index_ct (l : List Int) (v : Int) (a : Option Addr) (c : Nat) (hl : l.length ≤ 9223372036854775806) : Pu Tryz.prog 119 [.slice a l.length c, .int .i64 v] (fun h => RdS h a (intsV l)) (.int .i64 (idx l v)) := by
  refine ct_enter 19 Tryz.func119 rfl rfl rfl ?_
  intro F hrd
  repeat refine x_ ?_
  refine a_ ?_
  repeat refine x_ ?_
  refine m_ ?_
  refine f_ (s_len_sl rfl) ?_
  refine m_ ?_
  repeat refine n_ ?_
  refine g_loop (ι := Nat) (fun k => k ≤ l.length ∧ v ∉ l.take k) (fun k => [(0, .slice a l.length c), (1, .int .i64 v), (7, .int .i64 (l.length : Nat)), (8, .int .i64 (k : Nat))]) (fun k => []) (fun k => l.length - k) 0 ⟨by omega, by simp⟩ ?_ ?_ ?_
  · (repeat (first | exact Sub.nil _ | refine Sub.cons rfl ?_))
  · intro w hw; exact hw
  · intro k hk
    obtain ⟨hk, hno⟩ := hk
    repeat refine x_ ?_
    refine f_ (s_lss rfl rfl) ?_
    repeat refine n_ ?_
    refine g_cond rfl (fun h => ?_) (fun h => ?_)
    · have hk' : k < l.length := by simp at h; omega
      have hsome := rdI_some hrd hk'
      repeat refine x_ ?_
      refine m_ ?_
      refine a_ ?_
      repeat refine x_ ?_
      refine m_ ?_
      refine m_ ?_
      refine m_ ?_
      refine f_ (s_indexAddr rfl (by assumption) rfl (by omega)) ?_
      refine r_ (s_load1 rfl (fun w hw => rdI hw hrd (i := k) (by omega) (by omega))) ?_
      refine f_ (s_eql rfl rfl) ?_
      repeat refine n_ ?_
      refine g_cond rfl (fun h2 => ?_) (fun h2 => ?_)
      · have h3 : v = l.getD k 0 := of_decide_eq_true h2
        repeat refine x_ ?_
        refine m_ ?_
        refine a_ ?_
        repeat refine n_ ?_
        refine g_ret ?_
        exact at_end1 rfl rfl [] ⟨by rw [take_not_mem hno hk' h3.symm], rfl⟩ (fun _ h => h)
      · have h3 : ¬ v = l.getD k 0 := of_decide_eq_false h2
        repeat refine x_ ?_
        refine f_ (s_add_i64 rfl rfl (by omega)) ?_
        refine m_ ?_
        repeat refine n_ ?_
        refine at_next (k + 1) ⟨by omega, fun hm => ?_⟩ (by omega) ?_ ?_
        · rcases (take_succ_mem hk').1 hm with h4 | h4
          · exact hno h4
          · exact h3 h4.symm
        · (repeat (first | exact Sub.nil _ | refine Sub.cons rfl ?_))
        · intro w hw; exact hw
    · have hkl : k = l.length := by simp at h; omega
      subst hkl
      repeat refine x_ ?_
      refine a_ ?_
      repeat refine n_ ?_
      refine g_ret ?_
      exact at_end1 rfl rfl [] ⟨by rw [List.take_length] at hno; rw [idx, if_neg hno], rfl⟩ (fun _ h => h)
theorem Contains_ct (l : List Int) (v : Int) (a : Option Addr) (c : Nat) (hl : l.length ≤ 9223372036854775806) : Pu Tryz.prog 89 [.slice a l.length c, .int .i64 v] (fun h => RdS h a (intsV l)) (.bool (inB l v)) := by
  refine ct_enter 9 Tryz.func89 rfl rfl rfl ?_
  intro F hrd
  repeat refine x_ ?_
  refine a_ ?_
  repeat refine x_ ?_
  refine m_ ?_
  refine m_ ?_
  refine gl_callp rfl (Index_ct l v a c hl) (fun h hh _ => hrd.le hh) rfl ?_
  refine f_ ((s_geq rfl rfl).eq (congrArg Value.bool (idx_ge l v))) ?_
  refine a_ ?_
  repeat refine n_ ?_
  refine g_ret ?_
  exact at_end1 rfl rfl [] ⟨rfl, rfl⟩ (fun _ h => h)
theorem In_ct (l : List Int) (v : Int) (a : Option Addr) (c : Nat) (hl : l.length ≤ 9223372036854775806) : Pu Tryz.prog 48 [.slice a l.length c, .int .i64 v] (fun h => RdS h a (intsV l)) (.bool (inB l v)) := by
  refine ct_enter 18 Tryz.func48 rfl rfl rfl ?_
  intro F hrd
  repeat refine x_ ?_
  refine a_ ?_
  repeat refine x_ ?_
  refine a_ ?_
  repeat refine n_ ?_
  refine g_loop (ι := Nat) (fun k => k ≤ l.length ∧ v ∉ l.take k) (fun k => [(0, .slice a l.length c), (1, .int .i64 v), (5, .int .i64 (k : Nat))]) (fun k => []) (fun k => l.length - k) 0 ⟨by omega, by simp⟩ ?_ ?_ ?_
  · (repeat (first | exact Sub.nil _ | refine Sub.cons rfl ?_))
  · intro w hw; exact hw
  · intro k hk
    obtain ⟨hk, hno⟩ := hk
    repeat refine x_ ?_
    refine m_ ?_
    refine m_ ?_
    refine f_ (s_len_sl rfl) ?_
    refine f_ (s_lss rfl rfl) ?_
    repeat refine n_ ?_
    refine g_cond rfl (fun h => ?_) (fun h => ?_)
    · have hk' : k < l.length := by simp at h; omega
      have hsome := rdI_some hrd hk'
      repeat refine x_ ?_
      refine m_ ?_
      refine m_ ?_
      refine f_ (s_indexAddr rfl (by assumption) rfl (by omega)) ?_
      refine r_ (s_load1 rfl (fun w hw => rdI hw hrd (i := k) (by omega) (by omega))) ?_
      refine m_ ?_
      refine f_ (s_eql rfl rfl) ?_
      repeat refine n_ ?_
      refine g_cond rfl (fun h2 => ?_) (fun h2 => ?_)
      · have h3 : l.getD k 0 = v := of_decide_eq_true h2
        repeat refine x_ ?_
        refine a_ ?_
        repeat refine n_ ?_
        refine g_ret ?_
        exact at_end1 rfl rfl [] ⟨by rw [inB, decide_eq_true (List.mem_of_mem_take ((take_succ_mem hk').2 (.inr h3)))], rfl⟩ (fun _ h => h)
      · have h3 : ¬ l.getD k 0 = v := of_decide_eq_false h2
        repeat refine x_ ?_
        refine m_ ?_
        refine f_ (s_add_i64 rfl rfl (by omega)) ?_
        refine a_ ?_
        repeat refine n_ ?_
        refine at_next (k + 1) ⟨by omega, fun hm => ?_⟩ (by omega) ?_ ?_
        · rcases (take_succ_mem hk').1 hm with h4 | h4
          · exact hno h4
          · exact h3 h4
        · (repeat (first | exact Sub.nil _ | refine Sub.cons rfl ?_))
        · intro w hw; exact hw
    · have hkl : k = l.length := by simp at h; omega
      subst hkl
      repeat refine x_ ?_
      refine a_ ?_
      repeat refine n_ ?_
      refine g_ret ?_
      exact at_end1 rfl rfl [] ⟨by rw [List.take_length] at hno; rw [inB, decide_eq_false hno], rfl⟩ (fun _ h => h)
end Go.Proofs.YtodcghipfolejaaGreat
namespace Go.Proofs.YtodcghipfolejaaGreat
open Go Go.Sl
def u64V (l : List Int) : List Value := l.map fun n => .int .u64 n
theorem u64V_length (l : List Int) : (u64V l).length = l.length := by simp [u64V]
theorem u64V_append (a b : List Int) : u64V (a ++ b) = u64V a ++ u64V b := by simp [u64V]
theorem u64V_one (l : List Int) : ∀ q ∈ u64V l, q.oneCell' = true := fun q hq => by
 simp only [u64V, List.mem_map] at hq; obtain ⟨p, _, rfl⟩ := hq; rfl
def swp (xs : List Int) (i j : Nat) : List Int := (xs.set i (xs.getD j 0)).set j (xs.getD i 0)
theorem swp_length (xs : List Int) (i j : Nat) : (swp xs i j).length = xs.length := by simp [swp]
theorem swp_get {xs : List Int} {i j : Nat} (hi : i < xs.length) (hj : j < xs.length) (k : Nat) : (swp xs i j).getD k 0 = if k = j then xs.getD i 0 else if k = i then xs.getD j 0 else xs.getD k 0 := by
 simp only [swp, List.getD_eq_getElem?_getD, List.getElem?_set, List.length_set]
 by_cases h1 : j = k
 ·subst h1; simp [hj]
 ·have h1' : ¬ k = j := fun e => h1 e.symm
  by_cases h2 : i = k
  ·subst h2; simp [h1, h1', hi]
  ·have h2' : ¬ k = i := fun e => h2 e.symm
   simp [h1, h2, h1', h2']
theorem swp_perm {xs : List Int} {i j : Nat} (hi : i < xs.length) (hj : j < xs.length) : (swp xs i j).Perm xs := by
 have h := List.set_set_perm hi hj
 have e1 : xs.getD j 0 = xs[j] := by simp [hj]
 have e2 : xs.getD i 0 = xs[i] := by simp [hi]
 rw [swp, e1, e2]
 exact h
def Mx (xs : List Int) (n : Nat) : Prop := ∀ i, 0 < i → i < n → xs.getD i 0 ≤ xs.getD ((i - 1) / 2) 0
def UpI (xs : List Int) (j : Nat) : Prop := (∀ i, 0 < i → i < xs.length → i ≠ j → xs.getD i 0 ≤ xs.getD ((i - 1) / 2) 0) ∧ (∀ i, 0 < i → i < xs.length → (i - 1) / 2 = j → 0 < j → xs.getD i 0 ≤ xs.getD ((j - 1) / 2) 0)
theorem up_start {xs : List Int} {v : Int} (h : Mx xs xs.length) : UpI (xs ++ [v]) xs.length := by
 have hg : ∀ k, k < xs.length → (xs ++ [v]).getD k 0 = xs.getD k 0 := fun k hk => by
  simp only [List.getD_eq_getElem?_getD]; rw [List.getElem?_append_left hk]
 refine ⟨fun i h0 hi hne => ?_, fun i h0 hi he hj => ?_⟩
 ·rw [List.length_append, List.length_singleton] at hi
  rw [hg i (by omega), hg _ (by omega)]
  exact h i h0 (by omega)
 ·rw [List.length_append, List.length_singleton] at hi
  omega
theorem up_stop {xs : List Int} {j : Nat} (h : UpI xs j) (hs : j = 0 ∨ xs.getD j 0 ≤ xs.getD ((j - 1) / 2) 0) : Mx xs xs.length := fun i h0 hi => by
 by_cases e : i = j
 ·subst e
  rcases hs with h1 | h1
  ·omega
  ·exact h1
 ·exact h.1 i h0 hi e
theorem up_step {xs : List Int} {j : Nat} (h : UpI xs j) (hj : 0 < j) (hjl : j < xs.length) (hs : xs.getD ((j - 1) / 2) 0 < xs.getD j 0) : UpI (swp xs ((j - 1) / 2) j) ((j - 1) / 2) := by
 have hp : (j - 1) / 2 < xs.length := by omega
 refine ⟨fun i h0 hi hne => ?_, fun i h0 hi he hp0 => ?_⟩
 ·rw [swp_length] at hi
  rw [swp_get hp hjl, swp_get hp hjl]
  by_cases e1 : i = j
  ·subst e1
   rw [if_pos rfl, if_neg (by omega), if_pos rfl]; omega
  ·rw [if_neg e1, if_neg hne]
   have h1 := h.1 i h0 hi e1
   by_cases e2 : (i - 1) / 2 = j
   ·rw [if_pos e2]
    exact h.2 i h0 hi e2 hj
   ·rw [if_neg e2]
    by_cases e3 : (i - 1) / 2 = (j - 1) / 2
    ·rw [if_pos e3]; rw [e3] at h1; omega
    ·rw [if_neg e3]; exact h1
 ·rw [swp_length] at hi
  rw [swp_get hp hjl, swp_get hp hjl]
  have hq := h.1 ((j - 1) / 2) hp0 hp (by omega)
  rw [if_neg (show ¬ ((j - 1) / 2 - 1) / 2 = j by omega), if_neg (show ¬ ((j - 1) / 2 - 1) / 2 = (j - 1) / 2 by omega)]
  by_cases e1 : i = j
  ·rw [if_pos e1]; exact hq
  ·rw [if_neg e1, if_neg (by omega)]
   have h1 := h.1 i h0 hi e1
   rw [he] at h1
   omega
def DnI (xs : List Int) (n i : Nat) : Prop := (∀ k, 0 < k → k < n → (k - 1) / 2 ≠ i → xs.getD k 0 ≤ xs.getD ((k - 1) / 2) 0) ∧ (∀ k, 0 < k → k < n → (k - 1) / 2 = i → 0 < i → xs.getD k 0 ≤ xs.getD ((i - 1) / 2) 0)
theorem dn_start {xs : List Int} (h : Mx xs xs.length) (hl : 0 < xs.length) : DnI (swp xs 0 (xs.length - 1)) (xs.length - 1) 0 := by
 refine ⟨fun k h0 hk hne => ?_, fun k h0 hk he hp => absurd hp (by omega)⟩
 rw [swp_get hl (by omega), swp_get hl (by omega), if_neg (by omega), if_neg (by omega), if_neg (by omega), if_neg hne]
 exact h k h0 (by omega)
theorem dn_stop {xs : List Int} {n i : Nat} (h : DnI xs n i) (hs : ∀ k, 0 < k → k < n → (k - 1) / 2 = i → xs.getD k 0 ≤ xs.getD i 0) : Mx xs n := fun k h0 hk => by
 by_cases e : (k - 1) / 2 = i
 ·rw [e]; exact hs k h0 hk e
 ·exact h.1 k h0 hk e
theorem dn_step {xs : List Int} {n i j : Nat} (h : DnI xs n i) (hn : n ≤ xs.length) (hj : (j - 1) / 2 = i) (hj0 : 0 < j) (hjn : j < n) (hs : xs.getD i 0 < xs.getD j 0) (hm : ∀ k, 0 < k → k < n → (k - 1) / 2 = i → xs.getD k 0 ≤ xs.getD j 0) : DnI (swp xs i j) n j := by
 have hil : i < xs.length := by omega
 have hjl : j < xs.length := by omega
 refine ⟨fun k h0 hk hne => ?_, fun k h0 hk he hp => ?_⟩
 ·rw [swp_get hil hjl, swp_get hil hjl, if_neg hne]
  by_cases e1 : k = j
  ·subst e1
   rw [if_pos rfl, if_pos hj]; omega
  ·rw [if_neg e1]
   by_cases e2 : k = i
   ·subst e2
    rw [if_pos rfl, if_neg (by omega)]
    have := h.2 j hj0 hjn hj h0
    exact this
   ·rw [if_neg e2]
    by_cases e3 : (k - 1) / 2 = i
    ·rw [if_pos e3]; exact hm k h0 hk e3
    ·rw [if_neg e3]; exact h.1 k h0 hk e3
 ·rw [swp_get hil hjl, swp_get hil hjl, hj, if_neg (show ¬ i = j by omega), if_pos rfl, if_neg (by omega), if_neg (by omega)]
  have := h.1 k h0 hk (by omega)
  rw [he] at this
  exact this
theorem mx_top {xs : List Int} {n : Nat} (h : Mx xs n) : ∀ k, k < n → xs.getD k 0 ≤ xs.getD 0 0 := by
 intro k
 induction k using Nat.strongRecOn with
 | _ k ih =>
  intro hk
  by_cases e : k = 0
  ·subst e; omega
  ·have h1 := h k (by omega) hk
   have h2 := ih ((k - 1) / 2) (by omega) (by omega)
   omega
theorem getD_mem {xs : List Int} {k : Nat} (h : k < xs.length) : xs.getD k 0 ∈ xs := by
 have e : xs.getD k 0 = xs[k] := by simp [h]
 rw [e]; exact List.getElem_mem h
theorem mx_max {xs : List Int} (h : Mx xs xs.length) : ∀ v ∈ xs, v ≤ xs.getD 0 0 := fun v hv => by
 obtain ⟨k, hk, e⟩ := List.mem_iff_getElem.1 hv
 have := mx_top h k hk
 have e2 : xs.getD k 0 = v := by simp [hk, e]
 omega
theorem putx_set {xs : List Value} {q : Nat} {v : Value} (h : q < xs.length) : putx xs q [v] = xs.set q v := by
 rw [putx, List.set_eq_take_append_cons_drop, if_pos h]; simp
theorem u64V_set (xs : List Int) (i : Nat) (v : Int) : (u64V xs).set i (.int .u64 v) = u64V (xs.set i v) := by simp [u64V, List.map_set]
end Go.Proofs.YtodcghipfolejaaGreat
namespace Go.Proofs.YtodcghipfolejaaGreat
open Go Go.Sl
theorem rdU_some {h : Heap} {a : Option Addr} {l : List Int} {i : Nat} (r : RdS h a (u64V l)) (hi : i < l.length) : ∃ ad, a = some ad := by
 obtain ⟨ad, e, _⟩ := r (by intro e; have := congrArg List.length e; rw [u64V_length] at this; simp at this; subst this; simp at hi)
 exact ⟨ad, e⟩
theorem u64V_get {l : List Int} {q i : Nat} (h : q = i) (hi : i < l.length) : ∀ j u, [Value.int .u64 (l.getD i 0)][j]? = some u → (u64V l)[q + j]? = some u := fun j u hu => by
 match j, hu with
 | 0, hu =>
  simp at hu; subst hu h
  simp [u64V, hi]
theorem rdU {F : Snap} {w : World} {H : List As} {a : Option Addr} {l : List Int} (hw : Hp F w H) (r : RdS F.heap a (u64V l)) {q i : Nat} (h : q = i) (hi : i < l.length) : PeekC (hp w) (addO a q) [.int .u64 (l.getD i 0)] :=
 peek_rd hw r (by simp) (u64V_get h hi)
theorem rdU_own {F : Snap} {w : World} {H H' : List As} {ys : List As} {a : Option Addr} {n c : Nat} {te : TypeId} {l : List Int} (hw : Hp F w H) (u : Upd H (.own (.slice a n c) te 1 (u64V l)) ys H') {q i : Nat} (h : q = i) (hi : i < l.length) : PeekC (hp w) (addO a q) [.int .u64 (l.getD i 0)] :=
 peek_own hw u (by simp) (u64V_get h hi)
theorem Len_ct (a : Option Addr) (n c : Nat) : Pu Tryz.prog 170 [.slice a n c] (fun _ => True) (.int .i64 (n : Nat)) := by
 refine ct_enter 5 Tryz.func170 rfl rfl rfl ?_
 intro F _
 repeat refine x_ ?_
 refine a_ ?_
 repeat refine x_ ?_
 refine m_ ?_
 refine f_ (s_len_sl rfl) ?_
 refine a_ ?_
 repeat refine n_ ?_
 refine g_ret ?_
 exact at_end1 rfl rfl [] ⟨rfl, rfl⟩ (fun _ h => h)
theorem Less_ct (xs : List Int) (i j : Nat) (x y : Int) (hx : x = i) (hy : y = j) (a : Option Addr) (c : Nat) (hi : i < xs.length) (hj : j < xs.length) : Pu Tryz.prog 171 [.slice a xs.length c, .int .i64 x, .int .i64 y] (fun h => RdS h a (u64V xs)) (.bool (decide (xs.getD j 0 < xs.getD i 0))) := by
 subst hx hy
 refine ct_enter 16 Tryz.func171 rfl rfl rfl ?_
 intro F hrd
 have hsome := rdU_some hrd hi
 repeat refine x_ ?_
 refine a_ ?_
 repeat refine n_ ?_
 refine g_draw0 ([3, 7], [0, 0, 3, 7, 0, 0, 48, 112, 255, 511], []) 10 rfl ?_
 refine w_ 0 rfl (s_move rfl) ?_
 refine w_ 1 rfl (s_move rfl) ?_
 refine w_ 2 rfl (s_indexAddr rfl (by assumption) rfl (by omega)) ?_
 refine ga_readF 3 rfl (s_load1 rfl (fun w hw => rdU hw hrd (i := i) (by omega) (by omega))) z_15 rfl rfl rfl z_4 ?_
 refine w_ 4 rfl (s_move rfl) ?_
 refine w_ 5 rfl (s_move rfl) ?_
 refine w_ 6 rfl (s_indexAddr rfl (by assumption) rfl (by omega)) ?_
 refine ga_readF 7 rfl (s_load1 rfl (fun w hw => rdU hw hrd (i := j) (by omega) (by omega))) z_15 rfl rfl rfl z_4 ?_
 refine w_ 8 rfl (s_gtr rfl rfl) ?_
 refine w_ 9 rfl (s_assign rfl) ?_
 refine ga_done z_4 ?_
 repeat refine y_ ?_
 refine g_ret ?_
 exact at_end1 rfl rfl [] ⟨rfl, rfl⟩ (fun _ h => h)
def HU64 (a : Option Addr) (c : Nat) (xs : List Int) : As := .own (.slice a xs.length c) 34 1 (u64V xs)
theorem Swap_ct (xs : List Int) (i j : Nat) (x y : Int) (hx : x = i) (hy : y = j) (a : Option Addr) (c : Nat) (hi : i < xs.length) (hj : j < xs.length) : Ct Tryz.prog 172 [.slice a xs.length c, .int .i64 x, .int .i64 y] (fun _ => True) [HU64 a c xs] (fun v A => v = .tuple #[] ∧ A = [HU64 a c (swp xs i j)]) := by
 subst hx hy
 refine ct_enter 20 Tryz.func172 rfl rfl rfl ?_
 intro F _
 unfold HU64
 refine g_ownN .del (fun _ _ hs => ?_)
 have hsome := hs (by omega)
 repeat refine y_ ?_
 refine g_draw0 ([7, 11], [0, 0, 0, 0, 0, 0, 48, 112, 0, 0, 768, 1792, 4083, 8179, 16383, 32767], [13, 15]) 16 rfl ?_
 refine w_ 0 rfl (s_move rfl) ?_
 refine w_ 1 rfl (s_move rfl) ?_
 refine w_ 2 rfl (s_move rfl) ?_
 refine w_ 3 rfl (s_move rfl) ?_
 refine w_ 4 rfl (s_move rfl) ?_
 refine w_ 5 rfl (s_move rfl) ?_
 refine w_ 6 rfl (s_indexAddr rfl (by assumption) rfl (by omega)) ?_
 refine ga_read 7 rfl z_2 (s_load1 rfl (fun w hw => rdU_own hw .del (i := j) (by omega) (by omega))) rfl rfl rfl z_4 ?_
 refine w_ 8 rfl (s_move rfl) ?_
 refine w_ 9 rfl (s_move rfl) ?_
 refine w_ 10 rfl (s_indexAddr rfl (by assumption) rfl (by omega)) ?_
 refine ga_read 11 rfl z_2 (s_load1 rfl (fun w hw => rdU_own hw .del (i := i) (by omega) (by omega))) rfl rfl rfl z_4 ?_
 refine w_ 12 rfl (s_indexAddr rfl (by assumption) rfl (by omega)) ?_
 refine ga_one 13 rfl z_4 ?_
 refine gl_store_own rfl rfl z_5 z_7 (by decide) z_3 (by rw [u64V_length]; omega) ?_
 refine gl_nil ?_
 refine at_ga (.inl z_4) ?_
 refine w_ 14 rfl (s_indexAddr rfl (by assumption) rfl (by omega)) ?_
 refine ga_one 15 rfl z_4 ?_
 refine gl_store_own rfl rfl z_5 z_7 (by decide) z_3 (by simp only [putx, List.length_append, List.length_take, List.length_drop, u64V_length, Value.cells, List.length_cons, List.length_nil, Array.toList, List.toList_toArray]; omega) ?_
 refine gl_nil ?_
 refine at_ga (.inl z_4) ?_
 refine ga_done z_4 ?_
 repeat refine y_ ?_
 refine at_end0 rfl [HU64 a c (swp xs i j)] ⟨rfl, rfl⟩ (fun w hw => ?_)
 have e1 : (i : Int).toNat * 1 = i := by omega
 have e2 : (j : Int).toNat * 1 = j := by omega
 rw [e1, e2] at hw
 have e3 : putx (putx (u64V xs) i [.int .u64 (xs.getD j 0)]) j [.int .u64 (xs.getD i 0)] = u64V (swp xs i j) := by
  rw [putx_set (xs := u64V xs) (q := i) (by rw [u64V_length]; exact hi), putx_set (by rw [List.length_set, u64V_length]; exact hj), u64V_set, u64V_set, swp]
 unfold HU64
 rw [← e3, swp_length]
 exact hw
end Go.Proofs.YtodcghipfolejaaGreat
namespace Go.Proofs.YtodcghipfolejaaGreat
open Go Go.Sl
def HX (b : Nat) (a : Option Addr) (c : Nat) (xs : List Int) : List As := [.blk b (.cells #[.slice a xs.length c] 166), HU64 a c xs]
abbrev Ptr (b : Nat) : Value := .pointer (some ⟨b, 0, none⟩)
theorem cutA_zero (a : Option Addr) (c sz : Nat) : cutA a c 0 sz = a := by
 unfold cutA; split
 ·rfl
 ·cases a with
  | none => rfl
  | some ad => simp [Addr.add]
theorem MPush_ct (b : Nat) (a : Option Addr) (c : Nat) (xs : List Int) (v : Int) (hx : xs.length ≤ 1000000000) : Ct Tryz.prog 174 [Ptr b, .iface 34 (.int .u64 v)] (fun _ => True) (HX b a c xs) (fun u A => u = .tuple #[] ∧ ∃ a' c', A = HX b a' c' (xs ++ [v])) := by
 refine ct_enter 20 Tryz.func174 rfl rfl rfl ?_
 intro F _
 unfold HX HU64
 repeat refine x_ ?_
 refine m_ ?_
 refine f_ (s_tassert_yes (by intro ms h; cases h) rfl) ?_
 refine m_ ?_
 refine f_ (s_extract rfl rfl) ?_
 refine f_ (s_extract rfl rfl) ?_
 refine a_ ?_
 refine a_ ?_
 repeat refine x_ ?_
 refine m_ ?_
 repeat refine x_ ?_
 refine m_ ?_
 refine m_ ?_
 refine f_ (s_nilCheck rfl) ?_
 refine r_ z_10 ?_
 refine m_ ?_
 refine gl_buildSliceU rfl rfl rfl rfl rfl rfl (xs := u64V [v]) rfl rfl ?_; intro a4 ha4
 refine gl_append rfl rfl (fun a' c' => .there (.there .here)) (fun w hw => (hw.ownN .del).2.2.1) rfl rfl rfl (u64V_one _) (by show (_ + 1) * 8 ≤ _; omega) (by omega) rfl ?_; intro a5 c5 hc5
 refine f_ (s_nilCheck rfl) ?_
 (refine gl_store_blkC (pre := []) (post := []) rfl rfl z_5 z_7 z_7 z_7 ?_)
 repeat refine n_ ?_
 refine at_end0 rfl _ ⟨rfl, a5, c5, rfl⟩ (fun w hw => ?_)
 have e : (xs ++ [v]).length = xs.length + 1 := by simp
 rw [e, u64V_append]
 exact hw.drop
theorem MPop_ct (b : Nat) (a : Option Addr) (c : Nat) (xs : List Int) (hx : 0 < xs.length) (hx2 : xs.length ≤ 1000000000) : Ct Tryz.prog 173 [Ptr b] (fun _ => True) (HX b a c xs) (fun u A => (∃ v, u = .iface 34 (.int .u64 v)) ∧ A = HX b a c (xs.take (xs.length - 1))) := by
 refine ct_enter 23 Tryz.func173 rfl rfl rfl ?_
 intro F _
 unfold HX HU64
 refine g_ownN (.there .del) (fun _ hnc hs => ?_)
 have hsome := hs hx
 repeat refine x_ ?_
 refine a_ ?_
 repeat refine x_ ?_
 refine m_ ?_
 refine f_ (s_nilCheck rfl) ?_
 refine r_ z_10 ?_
 refine a_ ?_
 repeat refine x_ ?_
 refine m_ ?_
 refine m_ ?_
 refine f_ (s_len_sl rfl) ?_
 refine f_ (s_sub_i64 rfl rfl (by omega)) ?_
 refine f_ (s_indexAddr rfl (by assumption) rfl (by omega)) ?_
 refine r_ (s_load1 rfl (fun w hw => rdU_own hw (.there .del) (i := xs.length - 1) (by omega) (by omega))) ?_
 refine a_ ?_
 repeat refine x_ ?_
 refine m_ ?_
 refine m_ ?_
 refine m_ ?_
 refine f_ (s_len_sl rfl) ?_
 refine f_ (s_sub_i64 rfl rfl (by omega)) ?_
 refine f_ ((s_slice_sl rfl rfl rfl (by omega)).eq (v' := .slice a (xs.length - 1) c) (by rw [show (0 : Int).toNat = 0 from rfl, cutA_zero]; congr 1; omega)) ?_
 refine f_ (s_nilCheck rfl) ?_
 (refine gl_store_blkC (pre := []) (post := []) rfl rfl z_5 z_7 z_7 z_7 ?_)
 repeat refine x_ ?_
 refine m_ ?_
 refine f_ (s_makeIface (by intro ms h; cases h) rfl) ?_
 refine a_ ?_
 repeat refine n_ ?_
 refine g_ret ?_
 refine at_end1 rfl rfl _ ⟨⟨_, rfl⟩, rfl⟩ (fun w hw => ?_)
 have e : (xs.take (xs.length - 1)).length = xs.length - 1 := by rw [List.length_take]; omega
 rw [e]
 have e2 : u64V (xs.take (xs.length - 1)) = (u64V xs).take ((xs.length - 1) * 1) := by simp [u64V, List.map_take]
 rw [e2]
 exact hw.cutOwn (.there .here) (by omega)
end Go.Proofs.YtodcghipfolejaaGreat
namespace Go.Proofs.YtodcghipfolejaaGreat
open Go Go.Sl
abbrev Ifc (b : Nat) : Value := .iface 168 (Ptr b)
theorem row_len : methRow Tryz.prog 168 "Len" = some (170, false) := by kernel_rfl
theorem row_less : methRow Tryz.prog 168 "Less" = some (171, false) := by kernel_rfl
theorem row_swap : methRow Tryz.prog 168 "Swap" = some (172, false) := by kernel_rfl
theorem row_push : methRow Tryz.prog 168 "Push" = some (174, true) := by kernel_rfl
theorem row_pop : methRow Tryz.prog 168 "Pop" = some (173, true) := by kernel_rfl
theorem s_quo_par {P : Program} {L : Lcs} {ty : TypeId} {pos : String} {af : Array Edge} {dst : Option Nat} {gd : Option (Nat × Bool)} {x y : Operand} {t t' : TypeId} {j : Nat} (hj : j ≤ 1000000000) (hx : ev L x = some (.int .i64 ((j : Int) - 1))) (hy : ev L y = some (.int .i64 2)) : OpF P ⟨dst, .binOp .quo t x y t', ty, pos, af, gd⟩ L (.int .i64 (((j - 1) / 2 : Nat) : Int)) :=
 s_bin hx hy (fun w => by
  have h2 : ((j : Int) - 1).tdiv 2 = (((j - 1) / 2 : Nat) : Int) := by
   by_cases h0 : j = 0
   ·subst h0; rfl
   ·rw [Int.tdiv_eq_ediv_of_nonneg (by omega)]; omega
  have h3 : IntKind.i64.wrap (((j - 1) / 2 : Nat) : Int) = (((j - 1) / 2 : Nat) : Int) := by rw [IntKind.wrap_i64]; omega
  generalize (j - 1) / 2 = p at *
  simp [go_sem, Op.intDiv, h2, h3])
theorem up_ct (b : Nat) (a : Option Addr) (c : Nat) (xs : List Int) (j0 : Nat) (hj0 : j0 < xs.length) (hup : UpI xs j0) (hl : xs.length ≤ 1000000000) :
  Ct Tryz.prog 143 [Ifc b, .int .i64 (j0 : Nat)] (fun _ => True) (HX b a c xs) (fun u A => u = .tuple #[] ∧ ∃ ys, ys.Perm xs ∧ ys.length = xs.length ∧ Mx ys ys.length ∧ A = HX b a c ys) := by
 refine ct_enter 23 Tryz.func143 rfl rfl rfl ?_
 intro F _
 unfold HX HU64
 repeat refine y_ ?_
 refine g_loop (ι := Nat × List Int) (fun i => i.1 < xs.length ∧ i.2.Perm xs ∧ i.2.length = xs.length ∧ UpI i.2 i.1) (fun i => [(0, Ifc b), (1, .int .i64 (i.1 : Nat))]) (fun i => [.blk b (.cells #[.slice a i.2.length c] 166), HU64 a c i.2]) (fun i => i.1) (j0, xs) ⟨hj0, .refl _, rfl, hup⟩ ?_ ?_ ?_
 ·(repeat (first | exact Sub.nil _ | refine Sub.cons rfl ?_))
 ·intro w hw; exact hw
 ·rintro ⟨j, ys⟩ ⟨hj, hp, hyl, hu⟩
  simp only at hj hp hyl hu
  repeat refine x_ ?_
  refine m_ ?_
  refine f_ (s_sub_i64 rfl rfl (by omega)) ?_
  refine f_ (s_quo_par (j := j) (by omega) rfl rfl) ?_
  refine a_ ?_
  repeat refine n_ ?_
  obtain ⟨q, hq⟩ : ∃ q, q = decide (ys.getD ((j - 1) / 2) 0 < ys.getD j 0) := ⟨_, rfl⟩
  obtain ⟨q0, hq0⟩ : ∃ q, q = decide ((((j - 1) / 2 : Nat) : Int) = (j : Int)) := ⟨_, rfl⟩
  refine g_cutK [(0, Ifc b), (1, .int .i64 (j : Nat)), (4, .int .i64 (((j - 1) / 2 : Nat) : Int)), (17, .bool (q0 || !q))] [.blk b (.cells #[.slice a ys.length c] 166), HU64 a c ys] ?_ ?_
  ·cases q0 <;> cases q
   all_goals (
    repeat refine x_ ?_
    refine m_ ?_
    refine m_ ?_
    refine f_ ((s_eql rfl rfl).eb hq0) ?_
    refine m_ ?_
    (first | refine gl_guard_no rfl rfl rfl rfl rfl rfl rfl ?_ | (refine v_ ?_; refine m_ ?_))
    (first | refine gl_guard_no rfl rfl rfl rfl rfl rfl rfl ?_ | (refine v_ ?_; refine m_ ?_))
    (first | refine gl_guard_no rfl rfl rfl rfl rfl rfl rfl ?_ | (refine v_ ?_; refine m_ ?_))
    (first | refine gl_guard_no rfl rfl rfl rfl rfl rfl rfl ?_ | (refine v_ ?_; refine gl_invokeV [.blk b (.cells #[.slice a ys.length c] 166), HU64 a c ys] rfl rfl row_less (fun w hw => peek_blk hw .del rfl) (Less_ct ys j ((j - 1) / 2) _ _ rfl rfl a c (by omega) (by omega)) i_ (fun h hh ⟨bs, hb⟩ => Sat.rd hb (.there .del)) rfl ?_; rintro v A ⟨rfl, rfl⟩; rw [← hq]))
    (first | refine gl_guard_no rfl rfl rfl rfl rfl rfl rfl ?_ | (refine v_ ?_; refine f_ (s_not rfl) ?_))
    refine f_ z_6 ?_
    refine gl_nil ?_
    repeat refine y_ ?_)
   all_goals exact at_cut j_ i_
  ·repeat refine y_ ?_
   refine g_cond rfl (fun h => ?_) (fun h => ?_)
   ·have hs : j = 0 ∨ ys.getD j 0 ≤ ys.getD ((j - 1) / 2) 0 := by
     cases q0
     ·cases q
      ·right
       have := of_decide_eq_false hq.symm
       omega
      ·simp at h
     ·left
      have := of_decide_eq_true hq0.symm
      omega
    repeat refine y_ ?_
    exact at_end0 rfl _ ⟨rfl, ys, hp, hyl, up_stop hu hs, rfl⟩ i_
   ·have hq1 : q = true ∧ q0 = false := by cases q0 <;> cases q <;> simp_all
    have hlt : ys.getD ((j - 1) / 2) 0 < ys.getD j 0 := of_decide_eq_true (by rw [← hq]; exact hq1.1)
    have hj1 : 0 < j := by
     have := of_decide_eq_false (by rw [← hq0]; exact hq1.2)
     omega
    repeat refine x_ ?_
    refine m_ ?_
    refine m_ ?_
    refine m_ ?_
    refine gl_invokeV [.blk b (.cells #[.slice a ys.length c] 166)] rfl rfl row_swap (fun w hw => peek_blk hw .del rfl) (Swap_ct ys ((j - 1) / 2) j _ _ rfl rfl a c (by omega) (by omega)) (fun w hw => hw.front (.there .del)) (fun _ _ _ => trivial) rfl ?_; rintro v A ⟨rfl, rfl⟩
    repeat refine x_ ?_
    refine m_ ?_
    refine a_ ?_
    repeat refine n_ ?_
    refine at_next ((j - 1) / 2, swp ys ((j - 1) / 2) j) ⟨by simp only; omega, (swp_perm (by omega) (by omega)).trans hp, by simp only [swp_length]; exact hyl, up_step hu hj1 (by omega) hlt⟩ (by simp only; omega) ?_ ?_
    ·(repeat (first | exact Sub.nil _ | refine Sub.cons rfl ?_))
    ·intro w hw
     simp only [swp_length]
     exact hw.front (.there .del)
end Go.Proofs.YtodcghipfolejaaGreat
namespace Go.Proofs.YtodcghipfolejaaGreat
open Go Go.Sl
structure Dn (xs ys : List Int) (n : Nat) : Prop where
 perm : ys.Perm xs
 len : ys.length = xs.length
 far : ∀ k, n ≤ k → ys.getD k 0 = xs.getD k 0
set_option maxHeartbeats 2000000 in
theorem down_ct (b : Nat) (a : Option Addr) (c : Nat) (xs : List Int) (n : Nat) (hn : n < xs.length) (hd : DnI xs n 0) (hl : xs.length ≤ 1000000000) :
  Ct Tryz.prog 144 [Ifc b, .int .i64 0, .int .i64 (n : Nat)] (fun _ => True) (HX b a c xs) (fun u A => ∃ ys, Dn xs ys n ∧ Mx ys n ∧ A = HX b a c ys) := by
 refine ct_enter 48 Tryz.func144 rfl rfl rfl ?_
 intro F _
 unfold HX HU64
 repeat refine x_ ?_
 refine a_ ?_
 repeat refine x_ ?_
 refine m_ ?_
 refine a_ ?_
 repeat refine n_ ?_
 refine g_loop (ι := Nat × List Int) (fun i => i.1 < xs.length ∧ Dn xs i.2 n ∧ DnI i.2 n i.1) (fun i => [(0, Ifc b), (1, .int .i64 0), (2, .int .i64 (n : Nat)), (7, .int .i64 (i.1 : Nat))]) (fun i => [.blk b (.cells #[.slice a i.2.length c] 166), HU64 a c i.2]) (fun i => xs.length - i.1) (0, xs) ⟨by simp only; omega, ⟨.refl _, rfl, fun _ _ => rfl⟩, hd⟩ ?_ ?_ ?_
 ·(repeat (first | exact Sub.nil _ | refine Sub.cons rfl ?_))
 ·intro w hw; exact hw
 ·rintro ⟨i, ys⟩ ⟨hi, hD, hI⟩
  have hyl := hD.len
  simp only at hi hyl hI
  repeat refine x_ ?_
  refine m_ ?_
  refine f_ (s_mul_i64 rfl rfl (by omega)) ?_
  refine f_ (s_add_i64 rfl rfl (by omega)) ?_
  refine a_ ?_
  repeat refine n_ ?_
  obtain ⟨q0, hq0⟩ : ∃ q, q = decide (((n : Nat) : Int) ≤ 2 * (i : Int) + 1) := ⟨_, rfl⟩
  refine g_cutK [(0, Ifc b), (1, .int .i64 0), (2, .int .i64 (n : Nat)), (7, .int .i64 (i : Nat)), (8, .int .i64 (2 * (i : Int) + 1)), (21, .bool q0)] [.blk b (.cells #[.slice a ys.length c] 166), HU64 a c ys] ?_ ?_
  ·cases q0
   all_goals (
    repeat refine x_ ?_
    refine m_ ?_
    refine m_ ?_
    refine f_ ((s_geq rfl rfl).eb hq0) ?_
    refine m_ ?_
    (first | refine gl_guard_no rfl rfl rfl rfl rfl rfl rfl ?_ | (refine v_ ?_; refine m_ ?_))
    (first | refine gl_guard_no rfl rfl rfl rfl rfl rfl rfl ?_ | (refine v_ ?_; refine f_ ((s_lss rfl rfl).eq (v' := .bool false) (congrArg Value.bool (decide_eq_false (by omega)))) ?_))
    refine f_ z_6 ?_
    refine gl_nil ?_
    repeat refine y_ ?_)
   all_goals exact at_cut j_ i_
  ·repeat refine y_ ?_
   refine g_cond rfl (fun h => ?_) (fun h => ?_)
   ·have h0 : n ≤ 2 * i + 1 := by have := of_decide_eq_true (hq0.symm.trans h); omega
    repeat refine x_ ?_
    refine m_ ?_
    refine m_ ?_
    refine f_ (s_gtr rfl rfl) ?_
    refine a_ ?_
    repeat refine n_ ?_
    refine g_ret ?_
    exact at_end1 rfl rfl _ ⟨ys, hD, dn_stop hI (fun k hk hkn he => by omega), rfl⟩ i_
   ·have h0 : 2 * i + 1 < n := by have := of_decide_eq_false (hq0.symm.trans h); omega
    repeat refine x_ ?_
    refine m_ ?_
    refine a_ ?_
    repeat refine x_ ?_
    refine m_ ?_
    refine f_ (s_add_i64 rfl rfl (by omega)) ?_
    refine a_ ?_
    repeat refine n_ ?_
    obtain ⟨q1, hq1⟩ : ∃ q, q = decide (2 * (i : Int) + 1 + 1 < ((n : Nat) : Int)) := ⟨_, rfl⟩
    obtain ⟨q2, hq2⟩ : ∃ q, q = decide (ys.getD (2 * i + 1) 0 < ys.getD (2 * i + 2) 0) := ⟨_, rfl⟩
    refine g_cutK [(0, Ifc b), (1, .int .i64 0), (2, .int .i64 (n : Nat)), (7, .int .i64 (i : Nat)), (9, .int .i64 (2 * (i : Int) + 1)), (10, .int .i64 (2 * (i : Int) + 1 + 1)), (33, .bool (q1 && q2))] [.blk b (.cells #[.slice a ys.length c] 166), HU64 a c ys] ?_ ?_
    ·cases q1
     ·repeat refine y_ ?_
      refine g_region ?_
      refine m_ ?_
      refine m_ ?_
      refine f_ ((s_lss rfl rfl).eb hq1) ?_
      refine m_ ?_
      (refine gl_guard_no rfl rfl rfl rfl rfl rfl rfl ?_)
      (refine gl_guard_no rfl rfl rfl rfl rfl rfl rfl ?_)
      (refine gl_guard_no rfl rfl rfl rfl rfl rfl rfl ?_)
      (refine gl_guard_no rfl rfl rfl rfl rfl rfl rfl ?_)
      refine f_ z_12 ?_
      repeat refine n_ ?_
      exact at_cut j_ i_
     ·have h1 : 2 * i + 2 < n := by have := of_decide_eq_true hq1.symm; omega
      repeat refine x_ ?_
      refine m_ ?_
      refine m_ ?_
      refine f_ ((s_lss rfl rfl).eb hq1) ?_
      refine m_ ?_
      (refine v_ ?_; refine m_ ?_)
      (refine v_ ?_; refine m_ ?_)
      (refine v_ ?_; refine m_ ?_)
      (refine v_ ?_; refine gl_invokeV [.blk b (.cells #[.slice a ys.length c] 166), HU64 a c ys] rfl rfl row_less (fun w hw => peek_blk hw .del rfl) (Less_ct ys (2 * i + 2) (2 * i + 1) _ _ (by omega) (by omega) a c (by omega) (by omega)) i_ (fun h hh ⟨bs, hb⟩ => Sat.rd hb (.there .del)) rfl ?_; rintro v A ⟨rfl, rfl⟩; rw [← hq2])
      refine f_ z_13 ?_
      repeat refine n_ ?_
      exact at_cut j_ i_
    ·obtain ⟨j, hj⟩ : ∃ j, j = if (q1 && q2) = true then 2 * i + 2 else 2 * i + 1 := ⟨_, rfl⟩
     have hjf : (j - 1) / 2 = i ∧ 0 < j ∧ j < n ∧ ∀ k, 0 < k → k < n → (k - 1) / 2 = i → ys.getD k 0 ≤ ys.getD j 0 := by
      cases q1
      ·have h1 : ¬ 2 * i + 2 < n := by have := of_decide_eq_false hq1.symm; omega
       simp at hj; subst hj
       refine ⟨by omega, by omega, by omega, fun k hk hkn he => ?_⟩
       obtain rfl : k = 2 * i + 1 := by omega
       exact Int.le_refl _
      ·have h1 : 2 * i + 2 < n := by have := of_decide_eq_true hq1.symm; omega
       cases q2
       ·have h2 := of_decide_eq_false hq2.symm
        simp at hj; subst hj
        refine ⟨by omega, by omega, by omega, fun k hk hkn he => ?_⟩
        rcases (show k = 2 * i + 1 ∨ k = 2 * i + 2 by omega) with rfl | rfl <;> omega
       ·have h2 := of_decide_eq_true hq2.symm
        simp at hj; subst hj
        refine ⟨by omega, by omega, by omega, fun k hk hkn he => ?_⟩
        rcases (show k = 2 * i + 1 ∨ k = 2 * i + 2 by omega) with rfl | rfl <;> omega
     obtain ⟨j1, j2, j3, j4⟩ := hjf
     repeat refine y_ ?_
     refine g_cutK [(0, Ifc b), (1, .int .i64 0), (2, .int .i64 (n : Nat)), (7, .int .i64 (i : Nat)), (9, .int .i64 (j : Nat))] [.blk b (.cells #[.slice a ys.length c] 166), HU64 a c ys] ?_ ?_
     ·refine g_cond rfl (fun h2 => ?_) (fun h2 => ?_)
      ·have e : ((j : Nat) : Int) = 2 * (i : Int) + 1 + 1 := by rw [hj, if_pos h2]; omega
       rw [e]
       repeat refine x_ ?_
       refine m_ ?_
       refine a_ ?_
       repeat refine n_ ?_
       exact at_cut j_ i_
      ·have e : ((j : Nat) : Int) = 2 * (i : Int) + 1 := by rw [hj, if_neg (by rw [h2]; simp)]; omega
       rw [e]
       repeat refine y_ ?_
       exact at_cut j_ i_
     ·clear hj hq1 hq2 hq0 h
      repeat refine x_ ?_
      refine m_ ?_
      refine m_ ?_
      refine m_ ?_
      refine gl_invokeV [.blk b (.cells #[.slice a ys.length c] 166), HU64 a c ys] rfl rfl row_less (fun w hw => peek_blk hw .del rfl) (Less_ct ys j i _ _ rfl rfl a c (by omega) (by omega)) i_ (fun h hh ⟨bs, hb⟩ => Sat.rd hb (.there .del)) rfl ?_; rintro v A ⟨rfl, rfl⟩
      refine f_ (s_not rfl) ?_
      repeat refine n_ ?_
      refine g_cond rfl (fun h => ?_) (fun h => ?_)
      ·have h2 : ¬ ys.getD i 0 < ys.getD j 0 := by simpa using h
       repeat refine x_ ?_
       refine m_ ?_
       refine m_ ?_
       refine f_ (s_gtr rfl rfl) ?_
       refine a_ ?_
       repeat refine n_ ?_
       refine g_ret ?_
       exact at_end1 rfl rfl _ ⟨ys, hD, dn_stop hI (fun k hk hkn he => by have := j4 k hk hkn he; omega), rfl⟩ i_
      ·have h2 : ys.getD i 0 < ys.getD j 0 := by
        rw [Bool.not_eq_false', decide_eq_true_eq] at h; exact h
       repeat refine x_ ?_
       refine m_ ?_
       refine m_ ?_
       refine m_ ?_
       refine gl_invokeV [.blk b (.cells #[.slice a ys.length c] 166)] rfl rfl row_swap (fun w hw => peek_blk hw .del rfl) (Swap_ct ys i j _ _ rfl rfl a c (by omega) (by omega)) (fun w hw => hw.front (.there .del)) (fun _ _ _ => trivial) rfl ?_; rintro v A ⟨rfl, rfl⟩
       repeat refine x_ ?_
       refine m_ ?_
       refine a_ ?_
       repeat refine n_ ?_
       refine at_next (j, swp ys i j) ⟨by simp only; omega, ⟨(swp_perm (by omega) (by omega)).trans hD.perm, by simp only [swp_length]; exact hyl, fun k hk => ?_⟩, dn_step hI (by omega) j1 j2 j3 h2 j4⟩ (by simp only; omega) ?_ ?_
       ·rw [← hD.far k hk, swp_get (by omega) (by omega), if_neg (by omega), if_neg (by omega)]
       ·(repeat (first | exact Sub.nil _ | refine Sub.cons rfl ?_))
       ·intro w hw
        simp only [swp_length]
        exact hw.front (.there .del)
end Go.Proofs.YtodcghipfolejaaGreat
namespace Go.Proofs.YtodcghipfolejaaGreat
open Go Go.Sl
theorem HPush_ct (b : Nat) (a : Option Addr) (c : Nat) (xs : List Int) (v : Int) (hm : Mx xs xs.length) (hl : xs.length ≤ 100000000) :
  Ct Tryz.prog 126 [Ifc b, .iface 34 (.int .u64 v)] (fun _ => True) (HX b a c xs) (fun u A => u = .tuple #[] ∧ ∃ a' c' ys, ys.Perm (xs ++ [v]) ∧ ys.length = xs.length + 1 ∧ Mx ys ys.length ∧ A = HX b a' c' ys) := by
 have hlen : (xs ++ [v]).length = xs.length + 1 := by simp
 refine ct_enter 12 Tryz.func126 rfl rfl rfl ?_
 intro F _
 repeat refine x_ ?_
 refine m_ ?_
 refine m_ ?_
 refine gl_invoke [] rfl rfl row_push (MPush_ct b a c xs v (by omega)) i_ (fun _ _ _ => trivial) rfl ?_; rintro u A ⟨rfl, a', c', rfl⟩
 repeat refine n_ ?_
 refine g_pull (H' := HX b a' c' (xs ++ [v])) i_ ?_
 repeat refine x_ ?_
 refine m_ ?_
 refine m_ ?_
 refine gl_invokeV (HX b a' c' (xs ++ [v])) rfl rfl row_len (fun w hw => peek_blk hw .del rfl) (Len_ct a' (xs ++ [v]).length c') i_ (fun _ _ _ => trivial) rfl ?_; rintro u A ⟨rfl, rfl⟩
 refine f_ ((s_sub_i64 rfl rfl (by omega)).eq (v' := .int .i64 (xs.length : Nat)) (by congr 1; omega)) ?_
 refine gl_call [] rfl (up_ct b a' c' (xs ++ [v]) xs.length (by omega) (up_start hm) (by omega)) i_ (fun _ _ _ => trivial) rfl ?_; rintro u A ⟨rfl, ys, hp, hyl, hmy, rfl⟩
 repeat refine n_ ?_
 exact at_end0 rfl _ ⟨rfl, a', c', ys, hp, by omega, hmy, rfl⟩ i_
theorem pop_perm {xs ws : List Int} {n : Nat} (hx : xs.length = n + 1) (hd : Dn (swp xs 0 n) ws n) : (xs.getD 0 0 :: ws.take n).Perm xs := by
 have hl : ws.length = n + 1 := by rw [hd.len, swp_length, hx]
 have h1 : ws.getD n 0 = xs.getD 0 0 := by
  rw [hd.far n (Nat.le_refl _), swp_get (by omega) (by omega), if_pos rfl]
 have h2 : ws = ws.take n ++ [xs.getD 0 0] := by
  have h3 : ws.take (n + 1) = ws := List.take_of_length_le (by omega)
  rw [← h1]
  conv => lhs; rw [← h3]
  rw [List.take_succ_eq_append_getElem (by omega)]
  simp [hl]
 have h4 : (xs.getD 0 0 :: ws.take n).Perm ws := by
  conv => rhs; rw [h2]
  exact (List.perm_append_singleton _ _).symm
 exact h4.trans (hd.perm.trans (swp_perm (by omega) (by omega)))
theorem pop_mx {ws : List Int} {n : Nat} (h : Mx ws n) : Mx (ws.take n) n := fun k h0 hk => by
 have e : ∀ i, i < n → (ws.take n).getD i 0 = ws.getD i 0 := fun i hi => by
  simp only [List.getD_eq_getElem?_getD, List.getElem?_take, if_pos hi]
 rw [e k hk, e _ (by omega)]
 exact h k h0 hk
theorem HPop_ct (b : Nat) (a : Option Addr) (c : Nat) (xs : List Int) (hm : Mx xs xs.length) (h0 : 0 < xs.length) (hl : xs.length ≤ 100000000) :
  Ct Tryz.prog 127 [Ifc b] (fun _ => True) (HX b a c xs) (fun u A => ∃ ys, (xs.getD 0 0 :: ys).Perm xs ∧ ys.length = xs.length - 1 ∧ Mx ys ys.length ∧ A = HX b a c ys) := by
 obtain ⟨n, hn⟩ : ∃ n, xs.length = n + 1 := ⟨xs.length - 1, by omega⟩
 have hsl := swp_length xs 0 n
 have hst : DnI (swp xs 0 n) n 0 := by have := dn_start hm h0; rwa [hn, Nat.add_sub_cancel] at this
 refine ct_enter 15 Tryz.func127 rfl rfl rfl ?_
 intro F _
 repeat refine x_ ?_
 refine a_ ?_
 repeat refine x_ ?_
 refine m_ ?_
 refine gl_invokeV (HX b a c xs) rfl rfl row_len (fun w hw => peek_blk hw .del rfl) (Len_ct a xs.length c) i_ (fun _ _ _ => trivial) rfl ?_; rintro u A ⟨rfl, rfl⟩
 refine f_ ((s_sub_i64 rfl rfl (by omega)).eq (v' := .int .i64 (n : Nat)) (by congr 1; omega)) ?_
 refine a_ ?_
 repeat refine n_ ?_
 refine g_pull (H' := [.blk b (.cells #[.slice a xs.length c] 166), HU64 a c xs]) i_ ?_
 repeat refine x_ ?_
 refine m_ ?_
 refine m_ ?_
 refine gl_invokeV [.blk b (.cells #[.slice a xs.length c] 166)] rfl rfl row_swap (fun w hw => peek_blk hw .del rfl) (Swap_ct xs 0 n _ _ rfl rfl a c (by omega) (by omega)) (fun w hw => hw.front (.there .del)) (fun _ _ _ => trivial) rfl ?_; rintro v A ⟨rfl, rfl⟩
 repeat refine n_ ?_
 refine g_pull (H' := HX b a c (swp xs 0 n)) (fun w hw => by unfold HX; rw [hsl]; exact hw.front (.there .del)) ?_
 repeat refine x_ ?_
 refine m_ ?_
 refine m_ ?_
 refine gl_call [] rfl (down_ct b a c (swp xs 0 n) n (by omega) hst (by omega)) i_ (fun _ _ _ => trivial) rfl ?_; rintro u A ⟨ws, hD, hmw, rfl⟩
 repeat refine n_ ?_
 have hwl : ws.length = n + 1 := by rw [hD.len, hsl, hn]
 refine g_pull (H' := HX b a c ws) i_ ?_
 repeat refine x_ ?_
 refine m_ ?_
 refine gl_invoke [] rfl rfl row_pop (MPop_ct b a c ws (by omega) (by omega)) i_ (fun _ _ _ => trivial) rfl ?_; rintro u A ⟨⟨v, rfl⟩, rfl⟩
 refine a_ ?_
 repeat refine n_ ?_
 refine g_ret ?_
 have e : ws.length - 1 = n := by omega
 have e2 : (ws.take n).length = n := by rw [List.length_take]; omega
 rw [e]
 exact at_end1 rfl rfl _ ⟨ws.take n, pop_perm hn hD, by omega, by rw [e2]; exact pop_mx hmw, rfl⟩ i_
end Go.Proofs.YtodcghipfolejaaGreat
namespace Go.Proofs.YtodcghipfolejaaGreat
open Go Go.Sl
def srt : Int → List Int → Prop
 | _, [] => True
 | lo, x :: r => lo ≤ x ∧ x ≤ 5 ∧ srt (x + 1) r
def allF : Nat → List (List Int)
 | 0 => [[]]
 | k + 1 => allF k ++ (allF k).map fun r => (5 - (k : Int)) :: r
theorem srt_mono {lo lo' : Int} {l : List Int} (h : srt lo l) (hl : lo' ≤ lo) : srt lo' l := by
 cases l with
 | nil => trivial
 | cons x r => exact ⟨by have := h.1; omega, h.2.1, h.2.2⟩
theorem srt_mem : ∀ (k : Nat) (l : List Int), k ≤ 5 → srt (6 - (k : Int)) l → l ∈ allF k
 | 0, [], _, _ => by simp [allF]
 | 0, x :: r, _, h => by have h1 := h.1; have h2 := h.2.1; omega
 | k + 1, [], hk, _ => by
  rw [allF, List.mem_append]; exact .inl (srt_mem k [] (by omega) trivial)
 | k + 1, x :: r, hk, h => by
  rw [allF, List.mem_append]
  have h1 := h.1
  have h2 := h.2.1
  by_cases e : x = 5 - (k : Int)
  ·right
   rw [List.mem_map]
   refine ⟨r, srt_mem k r (by omega) ?_, by rw [e]⟩
   have := h.2.2
   rw [e] at this
   exact srt_mono this (by omega)
  ·left
   exact srt_mem k (x :: r) (by omega) ⟨by omega, h2, h.2.2⟩
theorem srt_of : ∀ (l : List Int) (lo : Int), (∀ i, i < l.length → lo ≤ l.getD i 0 ∧ l.getD i 0 ≤ 5 ∧ (0 < i → l.getD (i - 1) 0 < l.getD i 0)) → srt lo l
 | [], _, _ => trivial
 | x :: r, lo, h => by
  have h0 := h 0 (by simp)
  simp at h0
  refine ⟨h0.1, h0.2, srt_of r (x + 1) fun i hi => ?_⟩
  have key : ∀ j, j < r.length → x + 1 ≤ r.getD j 0 := by
   intro j
   induction j with
   | zero =>
    intro hj
    have := (h 1 (by simp; omega)).2.2 (by omega)
    simp only [Nat.sub_self, List.getD_cons_zero, List.getD_cons_succ] at this
    omega
   | succ j ih =>
    intro hj
    have h1 := ih (by omega)
    have := (h (j + 2) (by simp; omega)).2.2 (by omega)
    simp only [Nat.add_sub_cancel, List.getD_cons_succ, show j + 2 - 1 = j + 1 from rfl] at this
    omega
  have hi1 := h (i + 1) (by simp; omega)
  simp only [List.getD_cons_succ, Nat.add_sub_cancel] at hi1
  refine ⟨key i hi, hi1.2.1, fun hp => ?_⟩
  have := hi1.2.2 (by omega)
  obtain ⟨j, rfl⟩ : ∃ j, i = j + 1 := ⟨i - 1, by omega⟩
  simpa only [List.getD_cons_succ, Nat.add_sub_cancel] using this
theorem right_mem {l : List Int} (h : rightB l = true) : l ∈ allF 5 := by
 obtain ⟨_, h2⟩ := rightB_spec h
 refine srt_mem 5 l (by omega) (srt_of l _ fun i hi => ?_)
 have := h2 i hi
 simp only [okAt, Bool.and_eq_true, Bool.or_eq_true, decide_eq_true_eq] at this
 omega
theorem right_len {l : List Int} (h : rightB l = true) : 0 < l.length ∧ l.length ≤ 5 := by
 have h1 := right_mem h
 have h2 : ∀ l ∈ allF 5, l.length ≤ 5 := by decide +kernel
 exact ⟨(rightB_spec h).1, h2 l h1⟩
def diffN (a b : List Int) (k : Nat) : Nat := (List.range k).countP fun i : Nat => !decide (inB a ((i : Int) + 1) = inB b ((i : Int) + 1))
theorem diff_succ (a b : List Int) (k : Nat) : diffN a b (k + 1) = diffN a b k + if !decide (inB a ((k : Int) + 1) = inB b ((k : Int) + 1)) then 1 else 0 := by
 simp only [diffN, List.range_succ, List.countP_append, List.countP_cons, List.countP_nil, Nat.zero_add]
theorem diff_le (a b : List Int) (k : Nat) : diffN a b k ≤ k := by
 have := List.countP_le_length (p := fun i : Nat => !decide (inB a ((i : Int) + 1) = inB b ((i : Int) + 1))) (l := List.range k)
 simpa [diffN] using this
def onestep (a b : List Int) (i : Nat) : Bool := (!inB a ((i : Int) + 1) && decide (withL a ((i : Int) + 1) = b)) || (inB a ((i : Int) + 1) && decide (withoutL a ((i : Int) + 1) = b))
theorem step_eq {a b : List Int} (ha : rightB a = true) (hb : rightB b = true) : (List.range 5).any (onestep a b) = decide (diffN a b 5 = 1) := by
 have h : ∀ a ∈ allF 5, ∀ b ∈ allF 5, (List.range 5).any (onestep a b) = decide (diffN a b 5 = 1) := by decide +kernel
 exact h a (right_mem ha) b (right_mem hb)
def stepS (a b : List Int) : Bool := rightB a && rightB b && decide (diffN a b 5 = 1)
end Go.Proofs.YtodcghipfolejaaGreat
namespace Go.Proofs.YtodcghipfolejaaGreat
open Go Go.Sl
abbrev At2 := Int × Int
def atV (l : List At2) : List Value := l.flatMap fun p => [.int .i64 p.1, .int .u64 p.2]
theorem atV_length (l : List At2) : (atV l).length = l.length * 2 := by
 induction l with
 | nil => rfl
 | cons p l ih => simp only [atV, List.flatMap_cons, List.length_append, List.length_cons, List.length_nil] at *; omega
theorem atV_get : ∀ (l : List At2) (i : Nat), i < l.length → (atV l)[2 * i]? = some (.int .i64 (l.getD i (0, 0)).1) ∧ (atV l)[2 * i + 1]? = some (.int .u64 (l.getD i (0, 0)).2)
 | p :: l, 0, _ => by simp [atV]
 | p :: l, i + 1, h => by
  have := atV_get l i (by simpa using h)
  have e : atV (p :: l) = [Value.int .i64 p.1, .int .u64 p.2] ++ atV l := rfl
  rw [e, show 2 * (i + 1) = 2 * i + 2 by omega]
  simp only [List.getD_cons_succ]
  exact ⟨by rw [List.getElem?_append_right (by simp)]; simpa using this.1, by rw [List.getElem?_append_right (by simp)]; simpa [show 2 * i + 2 + 1 - 2 = 2 * i + 1 by omega] using this.2⟩
theorem atV_append (a b : List At2) : atV (a ++ b) = atV a ++ atV b := by simp [atV]
def bst (hs : List At2) (m : Int) : Int := hs.foldl (fun b p => if p.1 = m then max b p.2 else b) 0
theorem bst_append (hs : List At2) (p : At2) (m : Int) : bst (hs ++ [p]) m = if p.1 = m then max (bst hs m) p.2 else bst hs m := by simp [bst]
theorem take_succ_at {hs : List At2} {j : Nat} (h : j < hs.length) : hs.take (j + 1) = hs.take j ++ [hs.getD j (0, 0)] := by
 rw [List.take_succ_eq_append_getElem h]; simp [h]
theorem bst_nonneg (hs : List At2) (m : Int) : 0 ≤ bst hs m := by
 have key : ∀ (l : List At2) (b : Int), 0 ≤ b → 0 ≤ l.foldl (fun b p => if p.1 = m then max b p.2 else b) b := by
  intro l
  induction l with
  | nil => intro b hb; exact hb
  | cons p l ih => intro b hb; simp only [List.foldl_cons]; apply ih; split <;> omega
 exact key hs 0 (Int.le_refl _)
theorem bst_ge {hs : List At2} {m i : Int} (hi : 0 < i) : i ≤ bst hs m ↔ ∃ p ∈ hs, p.1 = m ∧ i ≤ p.2 := by
 have key : ∀ (l : List At2) (b : Int), i ≤ l.foldl (fun b p => if p.1 = m then max b p.2 else b) b ↔ i ≤ b ∨ ∃ p ∈ l, p.1 = m ∧ i ≤ p.2 := by
  intro l
  induction l with
  | nil => intro b; simp
  | cons p l ih =>
   intro b
   simp only [List.foldl_cons, List.mem_cons, exists_eq_or_imp]
   rw [ih]
   by_cases h : p.1 = m
   ·rw [if_pos h]; simp only [h, true_and]
    constructor
    ·rintro (h1 | h1)
     ·by_cases h2 : i ≤ b
      ·exact .inl h2
      ·exact .inr (.inl (by omega))
     ·exact .inr (.inr h1)
    ·rintro (h1 | h1 | h1)
     ·exact .inl (by omega)
     ·exact .inl (by omega)
     ·exact .inr h1
   ·rw [if_neg h]; simp [h]
 have := key hs 0
 rw [bst, this]
 constructor
 ·rintro (h | h)
  ·omega
  ·exact h
 ·exact .inr
def cntI (l : List Int) (hs : List At2) (i : Int) : Nat := l.countP fun m => decide (i ≤ bst hs m)
def ComS (l : List Int) (hs : List At2) (r : Int) : Prop := ∀ i, i ≤ r ↔ l.length / 2 < cntI l hs i
theorem ComS_unique {l : List Int} {hs : List At2} {r r' : Int} (h : ComS l hs r) (h' : ComS l hs r') : r = r' := by
 have h1 := (h r).1 (Int.le_refl _)
 have h2 := (h' r').1 (Int.le_refl _)
 have := (h' r).2 h1
 have := (h r').2 h2
 omega
theorem cnt_mono {l : List Int} {hs : List At2} {i j : Int} (h : i ≤ j) : cntI l hs j ≤ cntI l hs i := by
 unfold cntI
 exact List.countP_mono_left fun m hm hq => by simp only [decide_eq_true_eq] at *; omega
theorem cnt_all {l : List Int} {hs : List At2} {i : Int} (h : i ≤ 0) : cntI l hs i = l.length := by
 unfold cntI
 rw [List.countP_eq_length]
 intro m hm
 have := bst_nonneg hs m
 simp only [decide_eq_true_eq]; omega
def whoL (hs : List At2) (x : Int) : List Int := (hs.filter fun p => decide (x ≤ p.2)).map (·.1)
theorem who_in {hs : List At2} {x m : Int} (hx : 0 < x) : inB (whoL hs x) m = decide (x ≤ bst hs m) := by
 unfold inB
 apply decide_eq_decide.2
 rw [bst_ge hx]
 simp only [whoL, List.mem_map, List.mem_filter, decide_eq_true_eq]
 constructor
 ·rintro ⟨p, ⟨h1, h2⟩, h3⟩; exact ⟨p, h1, h3, h2⟩
 ·rintro ⟨p, h1, h3, h2⟩; exact ⟨p, ⟨h1, h2⟩, h3⟩
theorem who_cnt {l : List Int} {hs : List At2} {x : Int} (hx : 0 < x) : cntB l (whoL hs x) = cntI l hs x := by
 unfold cntB cntI
 congr 1
 funext m
 exact who_in hx
theorem who_most {l : List Int} {hs : List At2} {x : Int} (hr : rightB l = true) (hx : 0 < x) : mostB l (whoL hs x) = decide (l.length / 2 < cntI l hs x) := by
 rw [mostB, hr, who_cnt hx, Bool.true_and]
 exact decide_eq_decide.2 (by omega)
theorem least_best (l : List Int) (hs : List At2) (i : Int) (h : 0 < cntI l hs i) : ∃ y, i ≤ y ∧ (∃ m ∈ l, bst hs m = y) ∧ cntI l hs y = cntI l hs i := by
 have key : ∀ (l : List Int), 0 < cntI l hs i → ∃ y, i ≤ y ∧ (∃ m ∈ l, bst hs m = y) ∧ ∀ m ∈ l, i ≤ bst hs m → y ≤ bst hs m := by
  intro l
  induction l with
  | nil => intro h; simp [cntI] at h
  | cons m l ih =>
   intro h
   by_cases h0 : 0 < cntI l hs i
   ·obtain ⟨y, h1, ⟨m', hm', h2⟩, h3⟩ := ih h0
    by_cases h4 : i ≤ bst hs m ∧ bst hs m < y
    ·refine ⟨bst hs m, h4.1, ⟨m, by simp, rfl⟩, fun k hk hik => ?_⟩
     rcases List.mem_cons.1 hk with rfl | hk
     ·exact Int.le_refl _
     ·have := h3 k hk hik; omega
    ·refine ⟨y, h1, ⟨m', by simp [hm'], h2⟩, fun k hk hik => ?_⟩
     rcases List.mem_cons.1 hk with rfl | hk
     ·omega
     ·exact h3 k hk hik
   ·have hz : ∀ k ∈ l, ¬ i ≤ bst hs k := by
     have : cntI l hs i = 0 := by omega
     unfold cntI at this
     rw [List.countP_eq_zero] at this
     intro k hk hik
     exact this k hk (by simpa using hik)
    have hm : i ≤ bst hs m := by
     apply Classical.byContradiction
     intro hn
     apply h0
     unfold cntI at h
     rw [List.countP_cons_of_neg (by simpa using hn)] at h
     exact h
    refine ⟨bst hs m, hm, ⟨m, by simp, rfl⟩, fun k hk hik => ?_⟩
    rcases List.mem_cons.1 hk with rfl | hk
    ·exact Int.le_refl _
    ·exact absurd hik (hz k hk)
 obtain ⟨y, h1, h2, h3⟩ := key l h
 refine ⟨y, h1, h2, Nat.le_antisymm (cnt_mono h1) ?_⟩
 unfold cntI
 refine List.countP_mono_left fun m hm hq => ?_
 simp only [decide_eq_true_eq] at *
 exact h3 m hm hq
end Go.Proofs.YtodcghipfolejaaGreat
namespace Go.Proofs.YtodcghipfolejaaGreat
open Go Go.Sl
noncomputable def com (l : List Int) (hs : List At2) : Int := if rightB l = true then Classical.epsilon (ComS l hs) else 0
theorem com_eq {l : List Int} {hs : List At2} {r : Int} (hr : rightB l = true) (h : ComS l hs r) : com l hs = r := by
 rw [com, if_pos hr]
 exact ComS_unique (Classical.epsilon_spec ⟨r, h⟩) h
theorem com_no {l : List Int} {hs : List At2} (hr : rightB l = false) : com l hs = 0 := by rw [com, if_neg (by rw [hr]; simp)]
theorem rdA_some {h : Heap} {a : Option Addr} {l : List At2} {i : Nat} (r : RdS h a (atV l)) (hi : i < l.length) : ∃ ad, a = some ad := by
 obtain ⟨ad, e, _⟩ := r (by intro e; have := congrArg List.length e; rw [atV_length] at this; simp at this; omega)
 exact ⟨ad, e⟩
theorem rdA {F : Snap} {w : World} {H : List As} {a : Option Addr} {l : List At2} (hw : Hp F w H) (r : RdS F.heap a (atV l)) {q i : Nat} (h : q = 2 * i) (hi : i < l.length) : PeekC (hp w) (addO a q) [.int .i64 (l.getD i (0, 0)).1, .int .u64 (l.getD i (0, 0)).2] :=
 peek_rd hw r (by simp) (fun j u hu => by
  subst h
  have := atV_get l i hi
  match j, hu with
  | 0, hu => simp only [List.getElem?_cons_zero, Option.some.injEq] at hu; subst hu; exact this.1
  | 1, hu => simp only [List.getElem?_cons_succ, List.getElem?_cons_zero, Option.some.injEq] at hu; subst hu; exact this.2)
theorem rdA0 {F : Snap} {w : World} {H : List As} {a : Option Addr} {l : List At2} (hw : Hp F w H) (r : RdS F.heap a (atV l)) {q i : Nat} (h : q = 2 * i) (hi : i < l.length) : PeekC (hp w) (addO a q) [.int .i64 (l.getD i (0, 0)).1] :=
 peek_rd hw r (by simp) (fun j u hu => by
  subst h
  have := atV_get l i hi
  match j, hu with
  | 0, hu => simp only [List.getElem?_cons_zero, Option.some.injEq] at hu; subst hu; exact this.1)
theorem rdA1 {F : Snap} {w : World} {H : List As} {a : Option Addr} {l : List At2} (hw : Hp F w H) (r : RdS F.heap a (atV l)) {q i : Nat} (h : q = 2 * i + 1) (hi : i < l.length) : PeekC (hp w) (addO a q) [.int .u64 (l.getD i (0, 0)).2] :=
 peek_rd hw r (by simp) (fun j u hu => by
  subst h
  have := atV_get l i hi
  match j, hu with
  | 0, hu => simp only [List.getElem?_cons_zero, Option.some.injEq] at hu; subst hu; exact this.2)
def RdLH (a b : Option Addr) (l : List Int) (hs : List At2) (h : Heap) : Prop := RdS h a (intsV l) ∧ RdS h b (atV hs)
theorem pop_cnt {ys zs : List Int} {i : Int} (hm : Mx ys ys.length) (hp : (ys.getD 0 0 :: zs).Perm ys) : zs.countP (fun v => decide (i ≤ v)) = ys.countP (fun v => decide (i ≤ v)) - 1 := by
 have h1 := hp.countP_eq (fun v => decide (i ≤ v))
 by_cases h : i ≤ ys.getD 0 0
 ·rw [List.countP_cons_of_pos (by simpa using h)] at h1; omega
 ·rw [List.countP_cons_of_neg (by simpa using h)] at h1
  have h2 : ys.countP (fun v => decide (i ≤ v)) = 0 := by
   rw [List.countP_eq_zero]
   intro v hv hq
   have := mx_max hm v hv
   simp only [decide_eq_true_eq] at hq
   omega
  omega
set_option maxHeartbeats 2000000 in
theorem Commit_ct (l : List Int) (hs : List At2) (a b : Option Addr) (c d : Nat) (hl : l.length ≤ 4611686018427387903) (hh : hs.length ≤ 4611686018427387903) : Pu Tryz.prog 103 [.slice a l.length c, .slice b hs.length d] (RdLH a b l hs) (.int .u64 (com l hs)) := by
 refine ct_enter 51 Tryz.func103 rfl rfl rfl ?_
 intro F hr
 have hrl := hr.1
 have hrh := hr.2
 obtain ⟨q, hq⟩ : ∃ q, q = rightB l := ⟨_, rfl⟩
 repeat refine x_ ?_
 refine a_ ?_
 repeat refine n_ ?_
 cases q
 ·repeat refine y_ ?_
  refine g_region ?_
  refine m_ ?_
  refine gl_callp rfl (Right_ct l a c (by omega)) (fun h hh _ => hrl.le hh) rfl ?_; rw [← hq]
  refine f_ (s_not rfl) ?_
  repeat refine x_ ?_
  refine a_ ?_
  repeat refine n_ ?_
  refine g_ret ?_
  exact at_end1 rfl rfl [] ⟨by rw [com_no hq.symm], rfl⟩ (fun _ h => h)
 ·obtain ⟨hl0, hl5⟩ := right_len hq.symm
  repeat refine x_ ?_
  refine m_ ?_
  refine gl_callp rfl (Right_ct l a c (by omega)) (fun h hh _ => hrl.le hh) rfl ?_; rw [← hq]
  refine f_ (s_not rfl) ?_
  repeat refine x_ ?_
  refine gl_alloc rfl ?_; intro g5
  repeat refine n_ ?_
  refine g_own_nil 34 1 ?_
  repeat refine x_ ?_
  refine m_ ?_
  refine f_ (s_len_sl rfl) ?_
  refine m_ ?_
  repeat refine n_ ?_
  refine g_loop (ι := Nat × Option Addr × Nat × List Int) (fun i => i.1 ≤ l.length ∧ i.2.2.2.Perm ((l.take i.1).map (bst hs)) ∧ Mx i.2.2.2 i.2.2.2.length) (fun i => [(0, .slice a l.length c), (1, .slice b hs.length d), (5, Ptr g5), (14, .slice a l.length c), (15, .int .i64 (l.length : Nat)), (16, .int .i64 (i.1 : Nat))]) (fun i => HX g5 i.2.1 i.2.2.1 i.2.2.2) (fun i => l.length - i.1) (0, none, 0, []) ⟨by simp only; omega, by simp, fun k _ hk => absurd hk (by simp)⟩ ?_ ?_ ?_
  ·(repeat (first | exact Sub.nil _ | refine Sub.cons rfl ?_))
  ·intro w hw; exact hw.front (.there .del)
  ·rintro ⟨k, xa, xc, xs⟩ ⟨hk, hp, hm⟩
   simp only at hk hp hm
   have hxl : xs.length = k := by rw [hp.length_eq, List.length_map, List.length_take]; omega
   repeat refine x_ ?_
   refine f_ (s_lss rfl rfl) ?_
   repeat refine n_ ?_
   refine g_cond rfl (fun h => ?_) (fun h => ?_)
   ·have hk' : k < l.length := by simp at h; omega
    have hsome := rdI_some hrl hk'
    repeat refine x_ ?_
    refine f_ (s_indexAddr rfl (by assumption) rfl (by omega)) ?_
    refine r_ (s_load1 rfl (fun w hw => rdI hw hrl (i := k) (by omega) (by omega))) ?_
    refine a_ ?_
    repeat refine x_ ?_
    refine a_ ?_
    repeat refine x_ ?_
    refine m_ ?_
    refine f_ (s_len_sl rfl) ?_
    refine m_ ?_
    repeat refine n_ ?_
    refine g_loop (ι := Nat) (fun j => j ≤ hs.length) (fun j => [(0, .slice a l.length c), (1, .slice b hs.length d), (5, Ptr g5), (14, .slice a l.length c), (15, .int .i64 (l.length : Nat)), (16, .int .i64 (k : Nat)), (7, .int .i64 (l.getD k 0)), (8, .int .u64 (bst (hs.take j) (l.getD k 0))), (20, .slice b hs.length d), (21, .int .i64 (hs.length : Nat)), (22, .int .i64 (j : Nat))]) (fun j => HX g5 xa xc xs) (fun j => hs.length - j) 0 (by omega) ?_ ?_ ?_
    ·(repeat (first | exact Sub.nil _ | refine Sub.cons rfl ?_))
    ·intro w hw; exact hw
    ·intro j hj
     repeat refine x_ ?_
     refine f_ (s_lss rfl rfl) ?_
     repeat refine n_ ?_
     refine g_cond rfl (fun h2 => ?_) (fun h2 => ?_)
     ·have hj' : j < hs.length := by simp at h2; omega
      have hsome2 := rdA_some hrh hj'
      repeat refine x_ ?_
      refine f_ (s_indexAddr rfl (by assumption) rfl (by omega)) ?_
      refine r_ (s_loadN rfl (fun w hw => rdA hw hrh (i := j) (by omega) hj') rfl) ?_
      refine gl_allocA rfl ?_; intro g10
      (refine gl_store_blkW rfl rfl z_5 z_7 z_7 z_3 ?_)
      repeat refine x_ ?_
      refine f_ z_1 ?_
      refine r_ z_10 ?_
      refine m_ ?_
      refine f_ (s_eql rfl rfl) ?_
      repeat refine n_ ?_
      refine g_cutK [(0, .slice a l.length c), (1, .slice b hs.length d), (5, Ptr g5), (14, .slice a l.length c), (15, .int .i64 (l.length : Nat)), (16, .int .i64 (k : Nat)), (7, .int .i64 (l.getD k 0)), (8, .int .u64 (bst (hs.take (j + 1)) (l.getD k 0))), (20, .slice b hs.length d), (21, .int .i64 (hs.length : Nat)), (22, .int .i64 (j : Nat))] (HX g5 xa xc xs) ?_ ?_
      ·refine g_cond rfl (fun h3 => ?_) (fun h3 => ?_)
       ·have h4 : (hs.getD j (0, 0)).1 = l.getD k 0 := of_decide_eq_true h3
        have e : bst (hs.take (j + 1)) (l.getD k 0) = max (bst (hs.take j) (l.getD k 0)) (hs.getD j (0, 0)).2 := by rw [take_succ_at hj', bst_append, if_pos h4]
        rw [e]
        repeat refine x_ ?_
        refine m_ ?_
        refine f_ z_1 ?_
        refine r_ z_10 ?_
        refine f_ (s_max2 rfl rfl) ?_
        refine a_ ?_
        repeat refine n_ ?_
        exact at_cut j_ (fun w hw => hw.drop)
       ·have h4 : ¬ (hs.getD j (0, 0)).1 = l.getD k 0 := of_decide_eq_false h3
        have e : bst (hs.take (j + 1)) (l.getD k 0) = bst (hs.take j) (l.getD k 0) := by rw [take_succ_at hj', bst_append, if_neg h4]
        rw [e]
        repeat refine y_ ?_
        exact at_cut j_ (fun w hw => hw.drop)
      ·repeat refine y_ ?_
       repeat refine x_ ?_
       refine f_ (s_add_i64 rfl rfl (by omega)) ?_
       refine m_ ?_
       repeat refine n_ ?_
       refine at_next (j + 1) (by omega) (by omega) ?_ ?_
       ·(repeat (first | exact Sub.nil _ | refine Sub.cons rfl ?_))
       ·intro w hw; exact hw
     ·have hjl : j = hs.length := by simp at h2; omega
      subst hjl
      rw [List.take_length] at *
      repeat refine x_ ?_
      refine f_ (s_makeIface (by intro ms h; cases h) rfl) ?_
      refine m_ ?_
      refine f_ (s_makeIface (by intro ms h; cases h) rfl) ?_
      refine gl_call [] rfl (HPush_ct g5 xa xc xs (bst hs (l.getD k 0)) hm (by omega)) (fun w hw => by rw [List.append_nil]; exact hw) (fun _ _ _ => trivial) rfl ?_; rintro v A ⟨rfl, ya, yc, ys, hpy, hyl, hmy, rfl⟩
      repeat refine x_ ?_
      refine f_ (s_add_i64 rfl rfl (by omega)) ?_
      refine m_ ?_
      repeat refine n_ ?_
      refine at_next (k + 1, ya, yc, ys) ⟨by simp only; omega, ?_, hmy⟩ (by simp only; omega) ?_ ?_
      ·simp only
       refine hpy.trans ?_
       have e : (l.take (k + 1)).map (bst hs) = (l.take k).map (bst hs) ++ [bst hs (l.getD k 0)] := by
        rw [List.take_succ_eq_append_getElem hk', List.map_append]; simp [hk']
       rw [e]
       exact hp.append_right _
      ·(repeat (first | exact Sub.nil _ | refine Sub.cons rfl ?_))
      ·intro w hw; rw [List.append_nil] at hw; exact hw
   ·have hkl : k = l.length := by simp at h; omega
    subst hkl
    rw [List.take_length] at *
    repeat refine x_ ?_
    refine m_ ?_
    refine f_ (s_len_sl rfl) ?_
    refine f_ (s_quo_i64 rfl rfl (by omega)) ?_
    refine m_ ?_
    repeat refine n_ ?_
    refine g_loop (ι := Nat × List Int) (fun i => i.1 ≤ l.length / 2 ∧ i.2.length = l.length - i.1 ∧ Mx i.2 i.2.length ∧ ∀ v, i.2.countP (fun u => decide (v ≤ u)) = cntI l hs v - i.1) (fun i => [(5, Ptr g5), (42, .int .i64 ((l.length / 2 : Nat) : Int)), (43, .int .i64 (i.1 : Nat))]) (fun i => HX g5 xa xc i.2) (fun i => l.length / 2 - i.1) (0, xs) ⟨by simp only; omega, by simp only; omega, hm, fun v => ?_⟩ ?_ ?_ ?_
    ·rw [hp.countP_eq, List.countP_map]; rfl
    ·(repeat (first | exact Sub.nil _ | refine Sub.cons rfl ?_))
    ·intro w hw; exact hw
    ·rintro ⟨t, ys⟩ ⟨ht, hyl, hmy, hcnt⟩
     simp only at ht hyl hmy hcnt
     repeat refine x_ ?_
     refine f_ (s_lss rfl rfl) ?_
     repeat refine n_ ?_
     refine g_cond rfl (fun h2 => ?_) (fun h2 => ?_)
     ·have ht' : t < l.length / 2 := by simp at h2; omega
      repeat refine x_ ?_
      refine f_ (s_makeIface (by intro ms h; cases h) rfl) ?_
      refine gl_call [] rfl (HPop_ct g5 xa xc ys hmy (by omega) (by omega)) (fun w hw => by rw [List.append_nil]; exact hw) (fun _ _ _ => trivial) rfl ?_; rintro v A ⟨zs, hpz, hzl, hmz, rfl⟩
      repeat refine x_ ?_
      refine f_ (s_add_i64 rfl rfl (by omega)) ?_
      refine m_ ?_
      repeat refine n_ ?_
      refine at_next (t + 1, zs) ⟨by simp only; omega, by simp only; omega, hmz, fun v => ?_⟩ (by simp only; omega) ?_ ?_
      ·simp only
       rw [pop_cnt hmy hpz, hcnt v]; omega
      ·(repeat (first | exact Sub.nil _ | refine Sub.cons rfl ?_))
      ·intro w hw; rw [List.append_nil] at hw; exact hw
     ·have htl : t = l.length / 2 := by simp at h2; omega
      subst htl
      have h0 : 0 < ys.length := by omega
      have hcom : ComS l hs (ys.getD 0 0) := fun i => by
       have h3 := hcnt i
       constructor
       ·intro h4
        have : 0 < ys.countP (fun u => decide (i ≤ u)) := by
         rw [List.countP_pos_iff]
         exact ⟨_, getD_mem h0, by simpa using h4⟩
        omega
       ·intro h4
        have : 0 < ys.countP (fun u => decide (i ≤ u)) := by omega
        rw [List.countP_pos_iff] at this
        obtain ⟨u, hu, hiu⟩ := this
        have := mx_max hmy u hu
        simp only [decide_eq_true_eq] at hiu
        omega
      unfold HX HU64
      refine g_ownN (.there .del) (fun _ _ hsm => ?_)
      have hsome := hsm h0
      repeat refine x_ ?_
      refine r_ z_10 ?_
      refine f_ (s_indexAddr rfl hsome rfl (by show (0 : Int) ≤ 0 ∧ (0 : Int) < ((ys.length : Nat) : Int); omega)) ?_
      refine r_ (s_load1 rfl (fun w hw => rdU_own hw (.there .del) (i := 0) z_7 h0)) ?_
      refine a_ ?_
      repeat refine n_ ?_
      refine g_ret ?_
      exact at_end1 rfl rfl [] ⟨by rw [com_eq hq.symm hcom], rfl⟩ (fun _ h => h.dropAll)
end Go.Proofs.YtodcghipfolejaaGreat
