import Derived.Test.YtodcghipfolejaaGreatJx3
import Derived.Laws.Bits64b
set_option linter.unusedVariables false
set_option linter.unusedSimpArgs false
namespace Go.Proofs.YtodcghipfolejaaGreat
open Go Go.Sl
def Rd2 (a b : Option Addr) (l m : List Int) (h : Heap) : Prop := RdS h a (intsV l) ∧ RdS h b (intsV m)
theorem Most_ct (l m : List Int) (a b : Option Addr) (c d : Nat) (hl : l.length ≤ 4611686018427387903) (hm : m.length ≤ 4611686018427387903) : Pu Tryz.prog 91 [.slice a l.length c, .slice b m.length d] (Rd2 a b l m) (.bool (mostB l m)) := by
 refine ct_enter 29 Tryz.func91 rfl rfl rfl ?_
 intro F hr
 have hrd := hr.1
 have hrm := hr.2
 repeat refine x_ ?_
 refine a_ ?_
 repeat refine x_ ?_
 refine a_ ?_
 repeat refine x_ ?_
 refine m_ ?_
 refine f_ (s_len_sl rfl) ?_
 refine m_ ?_
 repeat refine n_ ?_
 refine g_loop (ι := Nat) (fun k => k ≤ l.length) (fun k => [(0, .slice a l.length c), (1, .slice b m.length d), (8, .slice a l.length c), (9, .int .i64 (l.length : Nat)), (10, .int .i64 (k : Nat)), (5, .int .i64 (cntB (l.take k) m : Nat))]) (fun k => []) (fun k => l.length - k) 0 (by omega) ?_ ?_ ?_
 ·(repeat (first | exact Sub.nil _ | refine Sub.cons rfl ?_))
 ·intro w hw; exact hw
 ·intro k hk
  have hcl := cnt_le (l.take k) m
  rw [List.length_take] at hcl
  repeat refine x_ ?_
  refine f_ (s_lss rfl rfl) ?_
  repeat refine n_ ?_
  refine g_cond rfl (fun h => ?_) (fun h => ?_)
  ·have hk' : k < l.length := by simp at h; omega
   have hsome := rdI_some hrd hk'
   repeat refine x_ ?_
   refine f_ (s_indexAddr rfl (by assumption) rfl (by omega)) ?_
   refine r_ (s_load1 rfl (fun w hw => rdI hw hrd (i := k) (by omega) (by omega))) ?_
   refine a_ ?_
   repeat refine x_ ?_
   refine m_ ?_
   refine m_ ?_
   refine gl_callp rfl (Contains_ct m _ b d (by omega)) (fun h hh _ => hrm.le hh) rfl ?_
   repeat refine n_ ?_
   refine g_cutK [(0, .slice a l.length c), (1, .slice b m.length d), (8, .slice a l.length c), (9, .int .i64 (l.length : Nat)), (10, .int .i64 (k : Nat)), (5, .int .i64 (cntB (l.take (k + 1)) m : Nat))] [] ?_ ?_
   ·refine g_cond rfl (fun h2 => ?_) (fun h2 => ?_)
    ·have e : ((cntB (l.take (k + 1)) m : Nat) : Int) = (cntB (l.take k) m : Nat) + 1 := by rw [cnt_succ hk', if_pos h2]; omega
     rw [e]
     repeat refine x_ ?_
     refine m_ ?_
     refine f_ (s_add_i64 rfl rfl (by omega)) ?_
     refine a_ ?_
     repeat refine n_ ?_
     exact at_cut j_ i_
    ·have e : cntB (l.take (k + 1)) m = cntB (l.take k) m := by rw [cnt_succ hk', if_neg (by rw [h2]; simp)]; rfl
     rw [e]
     repeat refine y_ ?_
     exact at_cut j_ i_
   ·repeat refine y_ ?_
    repeat refine x_ ?_
    refine f_ (s_add_i64 rfl rfl (by omega)) ?_
    refine m_ ?_
    repeat refine n_ ?_
    refine at_next (k + 1) (by omega) (by omega) ?_ ?_
    ·(repeat (first | exact Sub.nil _ | refine Sub.cons rfl ?_))
    ·intro w hw; exact hw
  ·have hkl : k = l.length := by simp at h; omega
   subst hkl
   rw [List.take_length] at *
   repeat refine y_ ?_
   obtain ⟨q, hq⟩ : ∃ q, q = rightB l := ⟨_, rfl⟩
   have e : mostB l m = (q && decide ((l.length : Int) < 2 * (cntB l m : Nat))) := by rw [mostB, hq]; congr 1; exact decide_eq_decide.2 (by omega)
   rw [e]
   cases q
   ·repeat refine y_ ?_
    refine g_region ?_
    refine m_ ?_
    refine gl_callp rfl (Right_ct l a c (by omega)) (fun h hh _ => hrd.le hh) rfl ?_; rw [← hq]
    refine m_ ?_
    (refine gl_guard_no rfl rfl rfl rfl rfl rfl rfl ?_)
    (refine gl_guard_no rfl rfl rfl rfl rfl rfl rfl ?_)
    (refine gl_guard_no rfl rfl rfl rfl rfl rfl rfl ?_)
    (refine gl_guard_no rfl rfl rfl rfl rfl rfl rfl ?_)
    (refine gl_guard_no rfl rfl rfl rfl rfl rfl rfl ?_)
    refine f_ z_12 ?_
    refine a_ ?_
    repeat refine n_ ?_
    refine g_ret ?_
    exact at_end1 rfl rfl [] ⟨rfl, rfl⟩ (fun _ h => h)
   ·repeat refine y_ ?_
    refine g_region ?_
    refine m_ ?_
    refine gl_callp rfl (Right_ct l a c (by omega)) (fun h hh _ => hrd.le hh) rfl ?_; rw [← hq]
    refine m_ ?_
    (refine v_ ?_; refine m_ ?_)
    (refine v_ ?_; refine f_ (s_mul_i64 rfl rfl (by omega)) ?_)
    (refine v_ ?_; refine m_ ?_)
    (refine v_ ?_; refine f_ (s_len_sl rfl) ?_)
    (refine v_ ?_; refine f_ (s_gtr rfl rfl) ?_)
    refine f_ z_13 ?_
    refine a_ ?_
    repeat refine n_ ?_
    refine g_ret ?_
    exact at_end1 rfl rfl [] ⟨rfl, rfl⟩ (fun _ h => h)
theorem rMost_ct (l m : List Int) (a b : Option Addr) (c d : Nat) (hl : l.length ≤ 4611686018427387903) (hm : m.length ≤ 4611686018427387903) : Pu Tryz.prog 68 [.slice a l.length c, .slice b m.length d] (Rd2 a b l m) (.bool (mostB l m)) := by
 refine ct_enter 31 Tryz.func68 rfl rfl rfl ?_
 intro F hr
 have hrd := hr.1
 have hrm := hr.2
 repeat refine x_ ?_
 refine a_ ?_
 repeat refine x_ ?_
 refine a_ ?_
 refine a_ ?_
 repeat refine x_ ?_
 refine a_ ?_
 repeat refine n_ ?_
 refine g_loop (ι := Nat) (fun k => k ≤ l.length) (fun k => [(0, .slice a l.length c), (1, .slice b m.length d), (7, .int .i64 (k : Nat)), (5, .int .i64 (cntB (l.take k) m : Nat)), (6, .int .i64 ((k : Nat) - (cntB (l.take k) m : Nat)))]) (fun k => []) (fun k => l.length - k) 0 (by omega) ?_ ?_ ?_
 ·(repeat (first | exact Sub.nil _ | refine Sub.cons rfl ?_))
 ·intro w hw; exact hw
 ·intro k hk
  have hcl := cnt_le (l.take k) m
  rw [List.length_take] at hcl
  repeat refine x_ ?_
  refine m_ ?_
  refine m_ ?_
  refine f_ (s_len_sl rfl) ?_
  refine f_ (s_lss rfl rfl) ?_
  repeat refine n_ ?_
  refine g_cond rfl (fun h => ?_) (fun h => ?_)
  ·have hk' : k < l.length := by simp at h; omega
   have hsome := rdI_some hrd hk'
   repeat refine x_ ?_
   refine m_ ?_
   refine m_ ?_
   refine m_ ?_
   refine f_ (s_indexAddr rfl (by assumption) rfl (by omega)) ?_
   refine r_ (s_load1 rfl (fun w hw => rdI hw hrd (i := k) (by omega) (by omega))) ?_
   refine gl_callp rfl (In_ct m _ b d (by omega)) (fun h hh _ => hrm.le hh) rfl ?_
   repeat refine n_ ?_
   refine g_cutK [(0, .slice a l.length c), (1, .slice b m.length d), (7, .int .i64 (k : Nat)), (5, .int .i64 (cntB (l.take (k + 1)) m : Nat)), (6, .int .i64 (((k + 1 : Nat) : Int) - (cntB (l.take (k + 1)) m : Nat)))] [] ?_ ?_
   ·refine g_cond rfl (fun h2 => ?_) (fun h2 => ?_)
    ·have e : ((cntB (l.take (k + 1)) m : Nat) : Int) = (cntB (l.take k) m : Nat) + 1 := by rw [cnt_succ hk', if_pos h2]; omega
     have e2 : ((k + 1 : Nat) : Int) - ((cntB (l.take k) m : Nat) + 1) = (k : Nat) - (cntB (l.take k) m : Nat) := by omega
     rw [e, e2]
     repeat refine x_ ?_
     refine m_ ?_
     refine f_ (s_add_i64 rfl rfl (by omega)) ?_
     refine a_ ?_
     repeat refine n_ ?_
     exact at_cut j_ i_
    ·have e : cntB (l.take (k + 1)) m = cntB (l.take k) m := by rw [cnt_succ hk', if_neg (by rw [h2]; simp)]; rfl
     have e2 : ((k + 1 : Nat) : Int) - (cntB (l.take k) m : Nat) = (k : Nat) - (cntB (l.take k) m : Nat) + 1 := by omega
     rw [e, e2]
     repeat refine x_ ?_
     refine m_ ?_
     refine f_ (s_add_i64 rfl rfl (by omega)) ?_
     refine a_ ?_
     repeat refine n_ ?_
     exact at_cut j_ i_
   ·repeat refine y_ ?_
    repeat refine x_ ?_
    refine m_ ?_
    refine f_ (s_add_i64 rfl rfl (by omega)) ?_
    refine a_ ?_
    repeat refine n_ ?_
    refine at_next (k + 1) (by omega) (by omega) ?_ ?_
    ·(repeat (first | exact Sub.nil _ | refine Sub.cons rfl ?_))
    ·intro w hw; exact hw
  ·have hkl : k = l.length := by simp at h; omega
   subst hkl
   rw [List.take_length] at *
   repeat refine y_ ?_
   obtain ⟨q, hq⟩ : ∃ q, q = rightB l := ⟨_, rfl⟩
   have e : mostB l m = (q && decide ((l.length : Nat) - (cntB l m : Nat) < ((cntB l m : Nat) : Int))) := by rw [mostB, hq]; congr 1; exact decide_eq_decide.2 (by omega)
   rw [e]
   cases q
   ·repeat refine y_ ?_
    refine g_region ?_
    refine m_ ?_
    refine gl_callp rfl (rRight_ct l a c (by omega)) (fun h hh _ => hrd.le hh) rfl ?_; rw [← hq]
    refine m_ ?_
    (refine gl_guard_no rfl rfl rfl rfl rfl rfl rfl ?_)
    (refine gl_guard_no rfl rfl rfl rfl rfl rfl rfl ?_)
    (refine gl_guard_no rfl rfl rfl rfl rfl rfl rfl ?_)
    refine f_ z_12 ?_
    refine a_ ?_
    repeat refine n_ ?_
    refine g_ret ?_
    exact at_end1 rfl rfl [] ⟨rfl, rfl⟩ (fun _ h => h)
   ·repeat refine y_ ?_
    refine g_region ?_
    refine m_ ?_
    refine gl_callp rfl (rRight_ct l a c (by omega)) (fun h hh _ => hrd.le hh) rfl ?_; rw [← hq]
    refine m_ ?_
    (refine v_ ?_; refine m_ ?_)
    (refine v_ ?_; refine m_ ?_)
    (refine v_ ?_; refine f_ (s_gtr rfl rfl) ?_)
    refine f_ z_13 ?_
    refine a_ ?_
    repeat refine n_ ?_
    refine g_ret ?_
    exact at_end1 rfl rfl [] ⟨rfl, rfl⟩ (fun _ h => h)
theorem Same_ct (l m : List Int) (a b : Option Addr) (c d : Nat) (hl : l.length ≤ 4611686018427387903) : Pu Tryz.prog 111 [.slice a l.length c, .slice b m.length d] (Rd2 a b l m) (.bool (decide (l = m))) := by
 refine ct_enter 26 Tryz.func111 rfl rfl rfl ?_
 intro F hr
 have hrd := hr.1
 have hrm := hr.2
 repeat refine x_ ?_
 refine a_ ?_
 repeat refine x_ ?_
 refine m_ ?_
 refine f_ (s_len_sl rfl) ?_
 refine m_ ?_
 refine f_ (s_len_sl rfl) ?_
 refine f_ (s_neq rfl rfl) ?_
 repeat refine n_ ?_
 refine g_cond rfl (fun h => ?_) (fun h => ?_)
 ·have hne : l ≠ m := by rintro rfl; simp at h
  rw [decide_eq_false hne]
  repeat refine x_ ?_
  refine a_ ?_
  repeat refine n_ ?_
  refine g_ret ?_
  exact at_end1 rfl rfl [] ⟨rfl, rfl⟩ (fun _ h => h)
 ·have hlen : l.length = m.length := by simp at h; omega
  repeat refine x_ ?_
  refine a_ ?_
  repeat refine n_ ?_
  refine g_loop (ι := Nat) (fun k => k ≤ l.length ∧ ∀ i, i < k → l.getD i 0 = m.getD i 0) (fun k => [(0, .slice a l.length c), (1, .slice b m.length d), (5, .int .i64 (k : Nat))]) (fun k => []) (fun k => l.length - k) 0 ⟨by omega, fun j hj => absurd hj (by omega)⟩ ?_ ?_ ?_
  ·(repeat (first | exact Sub.nil _ | refine Sub.cons rfl ?_))
  ·intro w hw; exact hw
  ·intro k hk
   obtain ⟨hk, hok⟩ := hk
   repeat refine x_ ?_
   refine m_ ?_
   refine m_ ?_
   refine f_ (s_len_sl rfl) ?_
   refine f_ (s_lss rfl rfl) ?_
   repeat refine n_ ?_
   refine g_cond rfl (fun h => ?_) (fun h => ?_)
   ·have hk' : k < l.length := by simp at h; omega
    have hsome := rdI_some hrd hk'
    have hsome2 := rdI_some hrm (i := k) (by omega)
    repeat refine y_ ?_
    refine g_draw0 ([3, 7], [0, 0, 3, 7, 0, 0, 48, 112, 255], []) 9 rfl ?_
    refine w_ 0 rfl (s_move rfl) ?_
    refine w_ 1 rfl (s_move rfl) ?_
    refine w_ 2 rfl (s_indexAddr rfl (by assumption) rfl (by omega)) ?_
    refine ga_readF 3 rfl (s_load1 rfl (fun w hw => rdI hw hrd (i := k) (by omega) (by omega))) z_15 rfl rfl rfl z_4 ?_
    refine w_ 4 rfl (s_move rfl) ?_
    refine w_ 5 rfl (s_move rfl) ?_
    refine w_ 6 rfl (s_indexAddr rfl (by assumption) rfl (by omega)) ?_
    refine ga_readF 7 rfl (s_load1 rfl (fun w hw => rdI hw hrm (i := k) (by omega) (by omega))) z_15 rfl rfl rfl z_4 ?_
    refine w_ 8 rfl (s_neq rfl rfl) ?_
    refine ga_done z_4 ?_
    repeat refine y_ ?_
    refine g_cond rfl (fun h2 => ?_) (fun h2 => ?_)
    ·have hne : l ≠ m := by rintro rfl; simp at h2
     rw [decide_eq_false hne]
     repeat refine x_ ?_
     refine a_ ?_
     repeat refine n_ ?_
     refine g_ret ?_
     exact at_end1 rfl rfl [] ⟨rfl, rfl⟩ (fun _ h => h)
    ·have h3 : l.getD k 0 = m.getD k 0 := by rw [Bool.not_eq_false', decide_eq_true_eq] at h2; exact h2
     repeat refine x_ ?_
     refine m_ ?_
     refine f_ (s_add_i64 rfl rfl (by omega)) ?_
     refine a_ ?_
     repeat refine n_ ?_
     refine at_next (k + 1) ⟨by omega, fun j hj => ?_⟩ (by omega) ?_ ?_
     ·rcases Nat.lt_succ_iff_lt_or_eq.1 hj with h4 | rfl
      ·exact hok j h4
      ·exact h3
     ·(repeat (first | exact Sub.nil _ | refine Sub.cons rfl ?_))
     ·intro w hw; exact hw
   ·have hkl : k = l.length := by simp at h; omega
    subst hkl
    rw [decide_eq_true (same_cases hlen hok)]
    repeat refine x_ ?_
    refine a_ ?_
    repeat refine n_ ?_
    refine g_ret ?_
    exact at_end1 rfl rfl [] ⟨rfl, rfl⟩ (fun _ h => h)
def LsP (r : List Int) (v : Value) (A : List As) : Prop := ∃ a c, v = .slice a r.length c ∧ A = [.own (.slice a r.length c) 3 1 (intsV r)]
theorem With_ct (l : List Int) (n : Int) (a : Option Addr) (c : Nat) (hl : l.length ≤ 4611686018427387903) : Ct Tryz.prog 31 [.slice a l.length c, .int .i64 n] (fun h => RdS h a (intsV l)) [] (LsP (withL l n)) := by
 refine ct_enter 24 Tryz.func31 rfl rfl rfl ?_
 intro F hrd
 repeat refine x_ ?_
 refine a_ ?_
 repeat refine x_ ?_
 refine a_ ?_
 repeat refine x_ ?_
 refine a_ ?_
 repeat refine n_ ?_
 refine g_own_nil 3 1 ?_
 obtain ⟨p, hp⟩ : ∃ p : Int → Bool, p = fun m => inB l m || decide (m = n) := ⟨_, rfl⟩
 have hw5 : withL l n = pick p 5 := by rw [hp]; rfl
 rw [hw5]
 refine g_loop (ι := Nat × Option Addr × Nat) (fun i => i.1 ≤ 5) (fun i => [(0, .slice a l.length c), (1, .int .i64 n), (5, .slice i.2.1 (pick p i.1).length i.2.2), (6, .int .i64 ((i.1 : Nat) + 1))]) (fun i => [.own (.slice i.2.1 (pick p i.1).length i.2.2) 3 1 (intsV (pick p i.1))]) (fun i => 5 - i.1) (0, none, 0) (by omega) ?_ ?_ ?_
 ·(repeat (first | exact Sub.nil _ | refine Sub.cons rfl ?_))
 ·intro w hw; exact hw
 ·rintro ⟨k, b, d⟩ hk
  have hpl := pick_le p k
  simp only at hk
  repeat refine x_ ?_
  refine m_ ?_
  refine f_ (s_leq rfl rfl) ?_
  repeat refine n_ ?_
  refine g_cond rfl (fun h => ?_) (fun h => ?_)
  ·have hk' : k < 5 := by simp at h; omega
   have hpk : p ((k : Int) + 1) = (inB l ((k : Int) + 1) || decide ((k : Int) + 1 = n)) := by rw [hp]
   repeat refine y_ ?_
   refine g_cutK [(0, .slice a l.length c), (1, .int .i64 n), (5, .slice b (pick p k).length d), (6, .int .i64 ((k : Nat) + 1)), (18, .bool (p ((k : Int) + 1)))] [.own (.slice b (pick p k).length d) 3 1 (intsV (pick p k))] ?_ ?_
   ·rw [hpk]
    cases hq : inB l ((k : Int) + 1)
    all_goals (
     repeat refine x_ ?_
     refine m_ ?_
     refine m_ ?_
     refine gl_callp rfl (In_ct l _ a c (by omega)) (fun h hh _ => hrd.le hh) rfl ?_; rw [hq]
     refine m_ ?_
     (first | refine gl_guard_no rfl rfl rfl rfl rfl rfl rfl ?_ | (refine v_ ?_; refine m_ ?_))
     (first | refine gl_guard_no rfl rfl rfl rfl rfl rfl rfl ?_ | (refine v_ ?_; refine m_ ?_))
     (first | refine gl_guard_no rfl rfl rfl rfl rfl rfl rfl ?_ | (refine v_ ?_; refine f_ (s_eql rfl rfl) ?_))
     refine f_ z_6 ?_
     refine gl_nil ?_
     repeat refine y_ ?_)
    all_goals exact at_cut j_ i_
   ·repeat refine y_ ?_
    refine g_cond rfl (fun h2 => ?_) (fun h2 => ?_)
    ·have e : pick p (k + 1) = pick p k ++ [(k : Int) + 1] := by rw [pick_succ, if_pos h2]
     have el : (pick p (k + 1)).length = (pick p k).length + 1 := by rw [e]; simp
     repeat refine x_ ?_
     refine m_ ?_
     refine m_ ?_
     refine gl_buildSliceU rfl rfl rfl rfl rfl rfl (xs := intsV [(k : Int) + 1]) rfl rfl ?_; intro a4 ha4
     refine gl_append rfl rfl (fun a' c' => .there .here) (fun w hw => (hw.ownN z_2).2.2.1) rfl rfl rfl (intsV_one _) (by show (_ + 1) * 8 ≤ _; omega) (by omega) rfl ?_; intro a5 c5 hc5
     refine a_ ?_
     repeat refine x_ ?_
     refine m_ ?_
     refine f_ (s_add_i64 rfl rfl (by omega)) ?_
     refine a_ ?_
     repeat refine n_ ?_
     refine at_next (k + 1, a5, c5) (by simp only; omega) (by simp only; omega) ?_ ?_
     ·simp only [el]
      (repeat (first | exact Sub.nil _ | refine Sub.cons rfl ?_))
     ·intro w hw
      simp only [el]
      rw [e, intsV_append]
      exact hw.drop
    ·have e : pick p (k + 1) = pick p k := by rw [pick_succ, if_neg (by rw [h2]; simp), List.append_nil]
     repeat refine x_ ?_
     refine m_ ?_
     refine f_ (s_add_i64 rfl rfl (by omega)) ?_
     refine a_ ?_
     repeat refine n_ ?_
     refine at_next (k + 1, b, d) (by simp only; omega) (by simp only; omega) ?_ ?_
     ·simp only [e]
      (repeat (first | exact Sub.nil _ | refine Sub.cons rfl ?_))
     ·intro w hw
      simp only [e]
      exact hw
  ·have hkl : k = 5 := by simp at h; omega
   subst hkl
   repeat refine x_ ?_
   refine m_ ?_
   refine a_ ?_
   repeat refine n_ ?_
   refine g_ret ?_
   exact at_end1 rfl rfl [.own (.slice b (pick p 5).length d) 3 1 (intsV (pick p 5))] ⟨b, d, rfl, rfl⟩ (fun _ h => h)
theorem Without_ct (l : List Int) (n : Int) (a : Option Addr) (c : Nat) (hl : l.length ≤ 1000000000000) : Ct Tryz.prog 32 [.slice a l.length c, .int .i64 n] (fun h => RdS h a (intsV l)) [] (LsP (withoutL l n)) := by
 refine ct_enter 27 Tryz.func32 rfl rfl rfl ?_
 intro F hrd
 repeat refine x_ ?_
 refine a_ ?_
 repeat refine x_ ?_
 refine a_ ?_
 repeat refine x_ ?_
 refine a_ ?_
 repeat refine n_ ?_
 refine g_own_nil 3 1 ?_
 refine g_loop (ι := Nat × Option Addr × Nat) (fun i => i.1 ≤ l.length) (fun i => [(0, .slice a l.length c), (1, .int .i64 n), (5, .slice i.2.1 (withoutL (l.take i.1) n).length i.2.2), (6, .int .i64 (i.1 : Nat))]) (fun i => [.own (.slice i.2.1 (withoutL (l.take i.1) n).length i.2.2) 3 1 (intsV (withoutL (l.take i.1) n))]) (fun i => l.length - i.1) (0, none, 0) (by omega) ?_ ?_ ?_
 ·(repeat (first | exact Sub.nil _ | refine Sub.cons rfl ?_))
 ·intro w hw; exact hw
 ·rintro ⟨k, b, d⟩ hk
  have hpl := without_le (l.take k) n
  rw [List.length_take] at hpl
  simp only at hk
  have hpl' : (withoutL (List.take (k, b, d).fst l) n).length ≤ l.length := by show (withoutL (l.take k) n).length ≤ _; omega
  repeat refine x_ ?_
  refine m_ ?_
  refine m_ ?_
  refine f_ (s_len_sl rfl) ?_
  refine f_ (s_lss rfl rfl) ?_
  repeat refine n_ ?_
  refine g_cond rfl (fun h => ?_) (fun h => ?_)
  ·have hk' : k < l.length := by simp at h; omega
   have hsome := rdI_some hrd hk'
   repeat refine x_ ?_
   refine m_ ?_
   refine m_ ?_
   refine f_ (s_indexAddr rfl (by assumption) rfl (by omega)) ?_
   refine r_ (s_load1 rfl (fun w hw => rdI hw hrd (i := k) (by omega) (by omega))) ?_
   refine m_ ?_
   refine f_ (s_neq rfl rfl) ?_
   repeat refine n_ ?_
   refine g_cond rfl (fun h2 => ?_) (fun h2 => ?_)
   ·have h3 : ¬ l.getD k 0 = n := by rw [Bool.not_eq_true', decide_eq_false_iff_not] at h2; exact h2
    have e : withoutL (l.take (k + 1)) n = withoutL (l.take k) n ++ [l.getD k 0] := by rw [without_succ hk', if_neg h3]
    have el : (withoutL (l.take (k + 1)) n).length = (withoutL (l.take k) n).length + 1 := by rw [e]; simp
    repeat refine x_ ?_
    refine m_ ?_
    refine m_ ?_
    refine m_ ?_
    refine f_ (s_indexAddr rfl (by assumption) rfl (by omega)) ?_
    refine r_ (s_load1 rfl (fun w hw => rdI hw hrd (i := k) (by omega) (by omega))) ?_
    refine gl_buildSliceU rfl rfl rfl rfl rfl rfl (xs := intsV [l.getD k 0]) rfl rfl ?_; intro a4 ha4
    refine gl_append rfl rfl (fun a' c' => .there .here) (fun w hw => (hw.ownN z_2).2.2.1) rfl rfl rfl (intsV_one _) (by show (_ + 1) * 8 ≤ _; omega) (by omega) rfl ?_; intro a5 c5 hc5
    refine a_ ?_
    repeat refine x_ ?_
    refine m_ ?_
    refine f_ (s_add_i64 rfl rfl (by omega)) ?_
    refine a_ ?_
    repeat refine n_ ?_
    refine at_next (k + 1, a5, c5) (by simp only; omega) (by simp only; omega) ?_ ?_
    ·simp only [el]
     (repeat (first | exact Sub.nil _ | refine Sub.cons rfl ?_))
    ·intro w hw
     simp only [el]
     rw [e, intsV_append]
     exact hw.drop
   ·have h3 : l.getD k 0 = n := by rw [Bool.not_eq_false', decide_eq_true_eq] at h2; exact h2
    have e : withoutL (l.take (k + 1)) n = withoutL (l.take k) n := by rw [without_succ hk', if_pos h3, List.append_nil]
    repeat refine x_ ?_
    refine m_ ?_
    refine f_ (s_add_i64 rfl rfl (by omega)) ?_
    refine a_ ?_
    repeat refine n_ ?_
    refine at_next (k + 1, b, d) (by simp only; omega) (by simp only; omega) ?_ ?_
    ·simp only [e]
     (repeat (first | exact Sub.nil _ | refine Sub.cons rfl ?_))
    ·intro w hw
     simp only [e]
     exact hw
  ·have hkl : k = l.length := by simp at h; omega
   subst hkl
   simp only [List.take_length]
   repeat refine x_ ?_
   refine m_ ?_
   refine a_ ?_
   repeat refine n_ ?_
   refine g_ret ?_
   exact at_end1 rfl rfl [.own (.slice b (withoutL l n).length d) 3 1 (intsV (withoutL l n))] ⟨b, d, rfl, rfl⟩ (fun _ h => h)
end Go.Proofs.YtodcghipfolejaaGreat
namespace Go.Proofs.YtodcghipfolejaaGreat
open Go Go.Sl
theorem who_succ {hs : List At2} {x : Int} {k : Nat} (hk : k < hs.length) : whoL (hs.take (k + 1)) x = whoL (hs.take k) x ++ if x ≤ (hs.getD k (0, 0)).2 then [(hs.getD k (0, 0)).1] else [] := by
 rw [take_succ_at hk, whoL, List.filter_append, List.map_append, whoL]
 congr 1
 simp only [List.filter_cons, List.filter_nil]
 split <;> simp_all
theorem who_le (hs : List At2) (x : Int) : (whoL hs x).length ≤ hs.length := by
 rw [whoL, List.length_map]; exact List.length_filter_le _ _
theorem bst_hit : ∀ (hs : List At2) (m : Int), 0 < bst hs m → ∃ p ∈ hs, p.2 = bst hs m := by
 intro hs m h
 have h1 := (bst_ge (hs := hs) (m := m) h).1 (Int.le_refl _)
 obtain ⟨p, hp, hm, hle⟩ := h1
 have h2 : ¬ bst hs m < p.2 := fun hlt => by
  have := (bst_ge (hs := hs) (m := m) (i := p.2) (by omega)).2 ⟨p, hp, hm, Int.le_refl _⟩
  omega
 exact ⟨p, hp, by omega⟩
structure ComI (l : List Int) (hs : List At2) (k : Nat) (best : Int) : Prop where
 pos : 0 ≤ best
 has : best = 0 ∨ mostB l (whoL hs best) = true
 all : ∀ j, j < k → mostB l (whoL hs (hs.getD j (0, 0)).2) = true → (hs.getD j (0, 0)).2 ≤ best
theorem comI_end {l : List Int} {hs : List At2} {best : Int} (h : ComI l hs hs.length best) : com l hs = best := by
 cases hr : rightB l with
 | false =>
  rw [com_no hr]
  rcases h.has with h1 | h1
  ·exact h1.symm
  ·simp [mostB, hr] at h1
 | true =>
  have hl := (right_len hr).1
  refine com_eq hr fun i => ?_
  constructor
  ·intro hi
   rcases Int.lt_or_le 0 best with hb | hb
   ·have h1 : mostB l (whoL hs best) = true := by rcases h.has with h1 | h1; omega; exact h1
    rw [who_most hr hb] at h1
    have := of_decide_eq_true h1
    have := cnt_mono (l := l) (hs := hs) hi
    omega
   ·rw [cnt_all (by omega)]; omega
  ·intro hc
   rcases Int.lt_or_le 0 i with hi | hi
   ·obtain ⟨y, h1, ⟨m, hm, h2⟩, h3⟩ := least_best l hs i (by omega)
    obtain ⟨p, hp, h4⟩ := bst_hit hs m (by omega)
    obtain ⟨j, hj, e⟩ := List.mem_iff_getElem.1 hp
    have e2 : hs.getD j (0, 0) = p := by simp [hj, e]
    have := h.all j hj
    rw [e2, h4, h2, who_most hr (by omega), h3] at this
    have := this (by simpa using hc)
    omega
   ·have := h.pos; omega
set_option maxHeartbeats 2000000 in
theorem rCommit_ct (l : List Int) (hs : List At2) (a b : Option Addr) (c d : Nat) (hl : l.length ≤ 4611686018427387903) (hh : hs.length ≤ 1000000000000) : Pu Tryz.prog 112 [.slice a l.length c, .slice b hs.length d] (RdLH a b l hs) (.int .u64 (com l hs)) := by
 refine ct_enter 52 Tryz.func112 rfl rfl rfl ?_
 intro F hr
 have hrl := hr.1
 have hrh := hr.2
 repeat refine x_ ?_
 refine a_ ?_
 repeat refine x_ ?_
 refine a_ ?_
 repeat refine x_ ?_
 refine a_ ?_
 repeat refine n_ ?_
 refine g_loop (ι := Nat × Int) (fun i => i.1 ≤ hs.length ∧ ComI l hs i.1 i.2) (fun i => [(0, .slice a l.length c), (1, .slice b hs.length d), (5, .int .u64 i.2), (6, .int .i64 (i.1 : Nat))]) (fun i => []) (fun i => hs.length - i.1) (0, 0) ⟨by simp only; omega, by simp only; omega, .inl rfl, fun j hj => absurd hj (by simp)⟩ ?_ ?_ ?_
 ·(repeat (first | exact Sub.nil _ | refine Sub.cons rfl ?_))
 ·intro w hw; exact hw
 ·rintro ⟨k, best⟩ ⟨hk, hI⟩
  simp only at hk hI
  repeat refine x_ ?_
  refine m_ ?_
  refine m_ ?_
  refine f_ (s_len_sl rfl) ?_
  refine f_ (s_lss rfl rfl) ?_
  repeat refine n_ ?_
  refine g_cond rfl (fun h => ?_) (fun h => ?_)
  ·have hk' : k < hs.length := by simp at h; omega
   have hsome := rdA_some hrh hk'
   obtain ⟨x, hx⟩ : ∃ x, x = (hs.getD k (0, 0)).2 := ⟨_, rfl⟩
   repeat refine x_ ?_
   refine m_ ?_
   refine m_ ?_
   refine f_ (s_indexAddr rfl (by assumption) rfl (by omega)) ?_
   refine f_ (s_fieldAddr_o rfl hsome z_7 (by infer_instance) (by decide)) ?_
   refine r_ ((s_load1 rfl (fun w hw => rdA1 hw hrh (i := k) (by omega) hk')).eq (congrArg (Value.int .u64) hx.symm)) ?_
   refine a_ ?_
   repeat refine x_ ?_
   refine a_ ?_
   repeat refine x_ ?_
   refine a_ ?_
   repeat refine n_ ?_
   refine g_own_nil 3 1 ?_
   refine g_loop (ι := Nat × Option Addr × Nat) (fun i => i.1 ≤ hs.length) (fun i => [(0, .slice a l.length c), (1, .slice b hs.length d), (5, .int .u64 best), (6, .int .i64 (k : Nat)), (7, .int .u64 x), (8, .slice i.2.1 (whoL (hs.take i.1) x).length i.2.2), (9, .int .i64 (i.1 : Nat))]) (fun i => [.own (.slice i.2.1 (whoL (hs.take i.1) x).length i.2.2) 3 1 (intsV (whoL (hs.take i.1) x))]) (fun i => hs.length - i.1) (0, none, 0) (by simp only; omega) ?_ ?_ ?_
   ·(repeat (first | exact Sub.nil _ | refine Sub.cons rfl ?_))
   ·intro w hw; exact hw
   ·rintro ⟨j, wa, wc⟩ hj
    have hpl := who_le (hs.take j) x
    rw [List.length_take] at hpl
    simp only at hj
    have hpl' : (whoL (List.take (j, wa, wc).fst hs) x).length ≤ 1000000000000 := by show (whoL (hs.take j) x).length ≤ _; omega
    repeat refine x_ ?_
    refine m_ ?_
    refine m_ ?_
    refine f_ (s_len_sl rfl) ?_
    refine f_ (s_lss rfl rfl) ?_
    repeat refine n_ ?_
    refine g_cond rfl (fun h => ?_) (fun h => ?_)
    ·have hj' : j < hs.length := by simp at h; omega
     have hsome2 := rdA_some hrh hj'
     repeat refine x_ ?_
     refine m_ ?_
     refine m_ ?_
     refine f_ (s_indexAddr rfl (by assumption) rfl (by omega)) ?_
     refine f_ (s_fieldAddr_o rfl hsome2 z_7 (by infer_instance) (by decide)) ?_
     refine r_ (s_load1 rfl (fun w hw => rdA1 hw hrh (i := j) (by omega) hj')) ?_
     refine m_ ?_
     refine f_ (s_geq rfl rfl) ?_
     repeat refine n_ ?_
     refine g_cond rfl (fun h2 => ?_) (fun h2 => ?_)
     ·have h3 : x ≤ (hs.getD j (0, 0)).2 := of_decide_eq_true h2
      have e : whoL (hs.take (j + 1)) x = whoL (hs.take j) x ++ [(hs.getD j (0, 0)).1] := by rw [who_succ hj', if_pos h3]
      have el : (whoL (hs.take (j + 1)) x).length = (whoL (hs.take j) x).length + 1 := by rw [e]; simp
      repeat refine x_ ?_
      refine m_ ?_
      refine m_ ?_
      refine m_ ?_
      refine f_ (s_indexAddr rfl (by assumption) rfl (by omega)) ?_
      refine f_ (s_fieldAddr_o rfl hsome2 z_7 (by infer_instance) (by decide)) ?_
      refine r_ (s_load1 rfl (fun w hw => rdA0 hw hrh (i := j) (by omega) hj')) ?_
      refine gl_buildSliceU rfl rfl rfl rfl rfl rfl (xs := intsV [(hs.getD j (0, 0)).1]) rfl rfl ?_; intro a4 ha4
      refine gl_append rfl rfl (fun a' c' => .there .here) (fun w hw => (hw.ownN z_2).2.2.1) rfl rfl rfl (intsV_one _) (by show (_ + 1) * 8 ≤ _; omega) (by omega) rfl ?_; intro a5 c5 hc5
      refine a_ ?_
      repeat refine x_ ?_
      refine m_ ?_
      refine f_ (s_add_i64 rfl rfl (by omega)) ?_
      refine a_ ?_
      repeat refine n_ ?_
      refine at_next (j + 1, a5, c5) (by simp only; omega) (by simp only; omega) ?_ ?_
      ·simp only [el]
       (repeat (first | exact Sub.nil _ | refine Sub.cons rfl ?_))
      ·intro w hw
       simp only [el]
       rw [e, intsV_append]
       exact hw.drop
     ·have h3 : ¬ x ≤ (hs.getD j (0, 0)).2 := of_decide_eq_false h2
      have e : whoL (hs.take (j + 1)) x = whoL (hs.take j) x := by rw [who_succ hj', if_neg h3, List.append_nil]
      repeat refine x_ ?_
      refine m_ ?_
      refine f_ (s_add_i64 rfl rfl (by omega)) ?_
      refine a_ ?_
      repeat refine n_ ?_
      refine at_next (j + 1, wa, wc) (by simp only; omega) (by simp only; omega) ?_ ?_
      ·simp only [e]
       (repeat (first | exact Sub.nil _ | refine Sub.cons rfl ?_))
      ·intro w hw
       simp only [e]
       exact hw
    ·have hjl : j = hs.length := by simp at h; omega
     subst hjl
     rw [List.take_length] at hpl
     repeat refine y_ ?_
     obtain ⟨q, hq⟩ : ∃ q, q = decide (best < x) := ⟨_, rfl⟩
     obtain ⟨r, hr⟩ : ∃ r, r = mostB l (whoL (hs.take hs.length) x) := ⟨_, rfl⟩
     refine g_cutK [(0, .slice a l.length c), (1, .slice b hs.length d), (5, .int .u64 best), (6, .int .i64 (k : Nat)), (7, .int .u64 x), (49, .bool (q && r))] [] ?_ ?_
     ·cases q
      all_goals (
       repeat refine x_ ?_
       refine m_ ?_
       refine m_ ?_
       refine f_ ((s_gtr rfl rfl).eb hq) ?_
       refine m_ ?_
       (first | refine gl_guard_no rfl rfl rfl rfl rfl rfl rfl ?_ | (refine v_ ?_; refine m_ ?_))
       (first | refine gl_guard_no rfl rfl rfl rfl rfl rfl rfl ?_ | (refine v_ ?_; refine m_ ?_))
       (first | refine gl_guard_no rfl rfl rfl rfl rfl rfl rfl ?_ | (refine v_ ?_; refine gl_callp rfl (rMost_ct l (whoL (hs.take hs.length) x) a wa c wc (by omega) (by rw [List.take_length]; omega)) (fun h hh ⟨bs, hb⟩ => ⟨hrl.le hh, Sat.rd hb z_2⟩) rfl ?_; rw [← hr]))
       refine f_ z_6 ?_
       refine gl_nil ?_
       repeat refine y_ ?_)
      all_goals exact at_cut j_ (fun w hw => hw.dropAll)
     ·rw [List.take_length] at hr
      repeat refine y_ ?_
      have hnext : ComI l hs (k + 1) (if (q && r) = true then x else best) := by
       have hp := hI.pos
       refine ⟨?_, ?_, fun j hj hm => ?_⟩
       ·split
        ·rename_i h1
         have : best < x := of_decide_eq_true (by rw [← hq]; cases q <;> simp_all)
         omega
        ·exact hI.pos
       ·split
        ·rename_i h1
         right; rw [← hr]; cases r <;> simp_all
        ·exact hI.has
       ·rcases Nat.lt_succ_iff_lt_or_eq.1 hj with h4 | rfl
        ·have := hI.all j h4 hm
         split
         ·rename_i h1
          have : best < x := of_decide_eq_true (by rw [← hq]; cases q <;> simp_all)
          omega
         ·exact this
        ·rw [← hx] at hm ⊢
         rw [← hr] at hm
         split
         ·exact Int.le_refl _
         ·rename_i h1
          have : ¬ best < x := of_decide_eq_false (by rw [← hq]; cases q <;> simp_all)
          omega
      refine g_cond rfl (fun h2 => ?_) (fun h2 => ?_)
      ·rw [if_pos h2] at hnext
       repeat refine x_ ?_
       refine m_ ?_
       refine a_ ?_
       repeat refine x_ ?_
       refine m_ ?_
       refine f_ (s_add_i64 rfl rfl (by omega)) ?_
       refine a_ ?_
       repeat refine n_ ?_
       refine at_next (k + 1, x) ⟨by simp only; omega, hnext⟩ (by simp only; omega) ?_ ?_
       ·(repeat (first | exact Sub.nil _ | refine Sub.cons rfl ?_))
       ·intro w hw; exact hw
      ·rw [if_neg (by rw [h2]; simp)] at hnext
       repeat refine x_ ?_
       refine m_ ?_
       refine f_ (s_add_i64 rfl rfl (by omega)) ?_
       refine a_ ?_
       repeat refine n_ ?_
       refine at_next (k + 1, best) ⟨by simp only; omega, hnext⟩ (by simp only; omega) ?_ ?_
       ·(repeat (first | exact Sub.nil _ | refine Sub.cons rfl ?_))
       ·intro w hw; exact hw
  ·have hkl : k = hs.length := by simp at h; omega
   subst hkl
   repeat refine x_ ?_
   refine m_ ?_
   refine a_ ?_
   repeat refine n_ ?_
   refine g_ret ?_
   exact at_end1 rfl rfl [] ⟨by rw [comI_end hI], rfl⟩ (fun _ h => h)
end Go.Proofs.YtodcghipfolejaaGreat
namespace Go.Proofs.YtodcghipfolejaaGreat
open Go Go.Sl
def byte (n : Int) : UInt8 := UInt8.ofNat n.toNat
theorem byte_int {n : Int} (h0 : 0 ≤ n) (h1 : n ≤ 255) : ((byte n).toNat : Int) = n := by
 simp only [byte, UInt8.toNat_ofNat']
 omega
def textL (l : List Int) : List UInt8 := if rightB l = true then byte l.length :: l.map byte else []
theorem right_small {l : List Int} (h : rightB l = true) : ∀ n ∈ l, 1 ≤ n ∧ n ≤ 5 := by
 have h2 : ∀ l ∈ allF 5, ∀ n ∈ l, 1 ≤ n ∧ n ≤ 5 := by decide +kernel
 exact h2 l (right_mem h)
theorem u8b {n : Int} (h0 : 0 ≤ n) (h1 : n ≤ 255) : [Value.int .u8 n] = bytesV [byte n] := by
 simp [bytesV, byte_int h0 h1]
theorem rText_ct (l : List Int) (a : Option Addr) (c : Nat) (hl : l.length ≤ 4611686018427387903) : Pu Tryz.prog 33 [.slice a l.length c] (fun h => RdS h a (intsV l)) (B (textL l)) := by
 refine ct_enter 28 Tryz.func33 rfl rfl rfl ?_
 intro F hrd
 obtain ⟨q, hq⟩ : ∃ q, q = rightB l := ⟨_, rfl⟩
 repeat refine x_ ?_
 refine a_ ?_
 repeat refine n_ ?_
 cases q
 ·repeat refine y_ ?_
  refine g_region ?_
  refine m_ ?_
  refine gl_callp rfl (rRight_ct l a c (by omega)) (fun h hh _ => hrd.le hh) rfl ?_; rw [← hq]
  refine f_ (s_not rfl) ?_
  repeat refine x_ ?_
  refine a_ ?_
  repeat refine n_ ?_
  refine g_ret ?_
  exact at_end1 rfl rfl [] ⟨by rw [textL, if_neg (by rw [← hq]; simp)], rfl⟩ (fun _ h => h)
 ·have hr : rightB l = true := hq.symm
  have hsm := right_small hr
  have hl5 := (right_len hr).2
  repeat refine x_ ?_
  refine m_ ?_
  refine gl_callp rfl (rRight_ct l a c (by omega)) (fun h hh _ => hrd.le hh) rfl ?_; rw [← hq]
  refine f_ (s_not rfl) ?_
  repeat refine x_ ?_
  refine m_ ?_
  refine f_ (s_len_sl rfl) ?_
  refine f_ (s_conv_keep_u8 rfl (by omega)) ?_
  refine gl_buildSliceU rfl rfl rfl rfl rfl rfl (xs := bytesV [byte l.length]) (by rw [← u8b (by omega) (by omega)]; rfl) rfl ?_; intro a3 ha3
  refine a_ ?_
  repeat refine x_ ?_
  refine a_ ?_
  repeat refine n_ ?_
  refine g_loop (ι := Nat × Option Addr × Nat) (fun i => i.1 ≤ l.length) (fun i => [(0, .slice a l.length c), (3, .slice i.2.1 (1 + i.1) i.2.2), (4, .int .i64 (i.1 : Nat))]) (fun i => [.own (.slice i.2.1 (1 + i.1) i.2.2) 5 1 (bytesV (byte l.length :: (l.take i.1).map byte))]) (fun i => l.length - i.1) (0, a3, 1) (by simp only; omega) ?_ ?_ ?_
  ·(repeat (first | exact Sub.nil _ | refine Sub.cons rfl ?_))
  ·intro w hw; exact hw
  ·rintro ⟨k, b, d⟩ hk
   simp only at hk
   have hkk : (k, b, d).fst ≤ 5 := by show k ≤ 5; omega
   repeat refine x_ ?_
   refine m_ ?_
   refine m_ ?_
   refine f_ (s_len_sl rfl) ?_
   refine f_ (s_lss rfl rfl) ?_
   repeat refine n_ ?_
   refine g_cond rfl (fun h => ?_) (fun h => ?_)
   ·have hk' : k < l.length := by simp at h; omega
    have hsome := rdI_some hrd hk'
    have hb := hsm (l.getD k 0) (getD_mem hk')
    have e : bytesV (byte l.length :: (l.take (k + 1)).map byte) = bytesV (byte l.length :: (l.take k).map byte) ++ bytesV [byte (l.getD k 0)] := by
     rw [List.take_succ_eq_append_getElem hk', List.map_append]; simp [hk', bytesV]
    repeat refine x_ ?_
    refine m_ ?_
    refine m_ ?_
    refine m_ ?_
    refine f_ (s_indexAddr rfl (by assumption) rfl (by omega)) ?_
    refine r_ (s_load1 rfl (fun w hw => rdI hw hrd (i := k) (by omega) (by omega))) ?_
    refine f_ (s_conv_keep_u8 rfl (by omega)) ?_
    refine gl_buildSliceU rfl rfl rfl rfl rfl rfl (xs := bytesV [byte (l.getD k 0)]) (by rw [← u8b (by omega) (by omega)]; rfl) rfl ?_; intro a6 ha6
    refine gl_append rfl rfl (fun a' c' => .there .here) (fun w hw => (hw.ownN z_2).2.2.1) rfl rfl rfl (by intro q hq; simp [bytesV] at hq; subst hq; rfl) (by show (_ + 1) * 1 ≤ _; omega) (by omega) rfl ?_; intro a7 c7 hc7
    refine a_ ?_
    repeat refine x_ ?_
    refine m_ ?_
    refine f_ (s_add_i64 rfl rfl (by omega)) ?_
    refine a_ ?_
    repeat refine n_ ?_
    refine at_next (k + 1, a7, c7) (by simp only; omega) (by simp only; omega) ?_ ?_
    ·have e9 : 1 + (k + 1) = 1 + k + 1 := by omega
     simp only [e9]
     (repeat (first | exact Sub.nil _ | refine Sub.cons rfl ?_))
    ·intro w hw
     simp only
     rw [e]
     exact hw.drop
   ·have hkl : k = l.length := by simp at h; omega
    subst hkl
    repeat refine x_ ?_
    refine m_ ?_
    refine r_ (s_string (l := byte l.length :: l.map byte) rfl (by simp; omega) (fun w hw => by have h9 := (hw.ownN .del).2.2.1; rwa [List.take_length] at h9)) ?_
    refine a_ ?_
    repeat refine n_ ?_
    refine g_ret ?_
    exact at_end1 rfl rfl [] ⟨by rw [textL, if_pos hr], rfl⟩ (fun _ h => h.dropAll)
end Go.Proofs.YtodcghipfolejaaGreat
namespace Go.Proofs.YtodcghipfolejaaGreat
open Go Go.Sl
def scanL : List UInt8 → Nat → Nat → Nat × Nat × Nat
 | [], _, _ => (0, 0, 3)
 | c :: r, i, n =>
  if i = 9 ∧ 1 < c.toNat then (0, 0, 4)
  else if c.toNat < 128 then (if c.toNat = 0 ∧ 0 < i then (0, 0, 4) else (n + c.toNat % 128 * 128 ^ i, i + 1, 0))
  else scanL r (i + 1) (n + c.toNat % 128 * 128 ^ i)
theorem scan_big : ∀ (l : List UInt8) (i n : Nat), 0 < i → (scanL l i n).2.2 = 0 → 128 ≤ (scanL l i n).1
 | [], i, n, _, h => by simp [scanL] at h
 | c :: r, i, n, hi, h => by
  rw [scanL] at h ⊢
  split at h
  ·simp at h
  ·rename_i h0
   rw [if_neg h0]
   split at h
   ·rename_i h1
    rw [if_pos h1]
    split at h
    ·simp at h
    ·rename_i h2
     rw [if_neg h2]
     have h3 : 1 ≤ c.toNat % 128 := by omega
     have h4 : 128 ≤ 128 ^ i := by
      have := Nat.pow_le_pow_right (n := 128) (by omega) hi
      simpa using this
     have := Nat.mul_le_mul h3 h4
     simp only; omega
   ·rename_i h1
    rw [if_neg h1]
    exact scan_big r (i + 1) _ (by omega) h
theorem scan_one {c : UInt8} {r : List UInt8} (h : c.toNat < 128) : scanL (c :: r) 0 0 = (c.toNat, 1, 0) := by
 rw [scanL, if_neg (by omega), if_pos h, if_neg (by omega)]
 simp; omega
theorem scan_more {c : UInt8} {r : List UInt8} (h : ¬ c.toNat < 128) : scanL (c :: r) 0 0 = scanL r 1 (c.toNat % 128) := by
 rw [scanL, if_neg (by omega), if_neg h]; simp
theorem scan_lt : ∀ (l : List UInt8) (i n : Nat), i ≤ 9 → n < 128 ^ i → (scanL l i n).1 < 2 ^ 64 ∧ (scanL l i n).2.1 ≤ i + l.length
 | [], i, n, _, _ => by simp [scanL]
 | c :: r, i, n, hi, hn => by
  have hp : 128 ^ i = 2 ^ (7 * i) := by rw [show 128 = 2 ^ 7 by rfl, ← Nat.pow_mul]
  have hc := c.toNat_lt
  have h7 : c.toNat % 128 < 128 := Nat.mod_lt _ (by omega)
  rw [scanL]
  split
  ·simp
  ·rename_i h0
   have h8 : n + c.toNat % 128 * 128 ^ i < 2 ^ 64 ∧ (¬ c.toNat < 128 → n + c.toNat % 128 * 128 ^ i < 128 ^ (i + 1) ∧ i + 1 ≤ 9) := by
    rw [Nat.pow_succ]
    generalize hq : 128 ^ i = q at *
    by_cases h9 : i = 9
    ·subst h9
     have : q = 9223372036854775808 := by rw [← hq]
     have hle : c.toNat ≤ 1 := by omega
     have h10 : c.toNat % 128 * q ≤ 1 * q := Nat.mul_le_mul_right _ (by omega)
     omega
    ·have hq8 : q ≤ 2 ^ 56 := by
      rw [hp]; exact Nat.pow_le_pow_right (by omega) (by omega)
     have h10 : c.toNat % 128 * q ≤ 127 * q := Nat.mul_le_mul_right _ (by omega)
     omega
   split
   ·split
    ·simp
    ·simp only [List.length_cons]; omega
   ·rename_i h1
    have := scan_lt r (i + 1) _ (h8.2 h1).2 (h8.2 h1).1
    rw [List.length_cons]; omega
def RD (b : Nat) (s : List UInt8) (at_ e : Nat) : As := .blk b (.cells #[B s, .int .i64 (at_ : Nat), .int .i64 (e : Nat)] 171)
set_option maxRecDepth 4000 in
theorem Open_ct (s : List UInt8) : Ct Tryz.prog 114 [B s] (fun _ => True) [] (fun v A => ∃ b, v = Ptr b ∧ A = [RD b s 0 0]) := by
 refine ct_enter 6 Tryz.func114 rfl rfl rfl ?_
 intro F _
 repeat refine x_ ?_
 refine a_ ?_
 repeat refine x_ ?_
 refine m_ ?_
 refine f_ (s_build rfl (run_build_struct (places := [(0, 1), (1, 1), (2, 1)]) rfl (by intro f hf; simp at hf; rcases hf with rfl | rfl | rfl <;> rfl) rfl)) ?_
 refine gl_boxA rfl rfl ?_; intro g5
 refine a_ ?_
 repeat refine n_ ?_
 refine g_ret ?_
 exact at_end1 rfl rfl _ ⟨_, rfl, rfl⟩ (fun _ h => h)
theorem and_127 (c : UInt8) : Value.int .u8 (Go.bits .and .u8 ((c.toNat : Nat) : Int) 127) = .int .u8 ((c.toNat % 128 : Nat) : Int) := by
 have h : ∀ n : Fin 256, Go.bits .and .u8 ((n.val : Nat) : Int) 127 = ((n.val % 128 : Nat) : Int) := by decide +kernel
 exact congrArg _ (h ⟨c.toNat, c.toNat_lt⟩)
theorem shl_7 (d i : Nat) (h : d * 128 ^ i < 2 ^ 64) (hi : i ≤ 9) : Value.int .u64 (IntKind.u64.wrap (((d : Nat) : Int) * 2 ^ (min (7 * (i : Int)).toNat IntKind.u64.bits))) = .int .u64 ((d * 128 ^ i : Nat) : Int) := by
 have e : min (7 * (i : Int)).toNat IntKind.u64.bits = 7 * i := by simp [IntKind.bits]; omega
 rw [e, IntKind.wrap_u64]
 have h2 : ((d : Nat) : Int) * 2 ^ (7 * i) = ((d * 128 ^ i : Nat) : Int) := by
  rw [show (128 : Nat) ^ i = 2 ^ (7 * i) by rw [show 128 = 2 ^ 7 by rfl, ← Nat.pow_mul]]
  simp
 rw [h2]
 congr 1; omega
theorem or_7 (n d i : Nat) (hn : n < 128 ^ i) (h : n + d * 128 ^ i < 2 ^ 64) : Value.int .u64 (Go.bits .or .u64 ((n : Nat) : Int) ((d * 128 ^ i : Nat) : Int)) = .int .u64 ((n + d * 128 ^ i : Nat) : Int) := by
 rw [bits_or_u64_nat _ _ (by omega) (by omega)]
 have e : (128 : Nat) ^ i = 2 ^ (7 * i) := by rw [show 128 = 2 ^ 7 by rfl, ← Nat.pow_mul]
 rw [e] at hn ⊢
 have := Nat.shiftLeft_add_eq_or_of_lt (i := 7 * i) hn d
 rw [Nat.shiftLeft_eq] at this
 rw [Nat.or_comm, ← this, Nat.add_comm]
def TrioV (p : Nat × Nat × Nat) : Value := .tuple #[.int .u64 (p.1 : Nat), .int .i64 (p.2.1 : Nat), .int .i64 (p.2.2 : Nat)]
theorem drop_at {s : List UInt8} {k : Nat} (h : k < s.length) : s.drop k = s.getD k 0 :: s.drop (k + 1) := by
 rw [List.drop_eq_getElem_cons h]; congr 1; simp [h]
set_option maxHeartbeats 2000000 in
theorem scan_ct (b : Nat) (s : List UInt8) (at_ e : Nat) (hs : s.length ≤ 9223372036854775807) (ha : at_ ≤ s.length) : Ct Tryz.prog 145 [Ptr b] (fun _ => True) [RD b s at_ e] (fun v A => v = TrioV (scanL (s.drop at_) 0 0) ∧ A = [RD b s at_ e]) := by
 refine ct_enter 58 Tryz.func145 rfl rfl rfl ?_
 intro F _
 unfold RD
 repeat refine x_ ?_
 refine a_ ?_
 refine a_ ?_
 refine a_ ?_
 repeat refine x_ ?_
 refine a_ ?_
 repeat refine x_ ?_
 refine a_ ?_
 repeat refine n_ ?_
 refine g_loop (ι := Nat × Nat) (fun i => i.1 ≤ 9 ∧ i.2 < 128 ^ i.1 ∧ at_ + i.1 ≤ s.length ∧ scanL (s.drop at_) 0 0 = scanL (s.drop (at_ + i.1)) i.1 i.2) (fun i => [(0, Ptr b), (5, .int .u64 (i.2 : Nat)), (6, .int .i64 (i.1 : Nat))]) (fun i => [.blk b (.cells #[B s, .int .i64 (at_ : Nat), .int .i64 (e : Nat)] 171)]) (fun i => 10 - i.1) (0, 0) ⟨by simp, by simp, by simpa using ha, rfl⟩ ?_ ?_ ?_
 ·(repeat (first | exact Sub.nil _ | refine Sub.cons rfl ?_))
 ·intro w hw; exact hw
 ·rintro ⟨i, n⟩ ⟨hi, hn, hl, heq⟩
  simp only at hi hn hl heq
  repeat refine y_ ?_
  refine g_draw0 ([3, 9], [0, 1, 3, 7, 0, 31, 0, 64, 192, 448, 960, 2047], []) 12 rfl ?_
  refine w_ 0 rfl (s_move rfl) ?_
  refine w_ 1 rfl (s_nilCheck rfl) ?_
  refine w_ 2 rfl z_1 ?_
  (refine ga_read 3 rfl z_2 (s_load_blk rfl .del z_7) rfl rfl rfl z_4 ?_)
  refine w_ 4 rfl (s_move rfl) ?_
  refine w_ 5 rfl (s_add_i64 rfl rfl (by omega)) ?_
  refine w_ 6 rfl (s_move rfl) ?_
  refine w_ 7 rfl (s_nilCheck rfl) ?_
  refine w_ 8 rfl z_1 ?_
  (refine ga_read 9 rfl z_2 (s_load_blk rfl .del z_7) rfl rfl rfl z_4 ?_)
  refine w_ 10 rfl (s_len_str rfl) ?_
  refine w_ 11 rfl (s_geq rfl rfl) ?_
  refine ga_done z_4 ?_
  repeat refine y_ ?_
  refine g_cond rfl (fun h => ?_) (fun h => ?_)
  ·have hk : at_ + i = s.length := by have := of_decide_eq_true h; omega
   repeat refine x_ ?_
   refine a_ ?_
   refine a_ ?_
   refine a_ ?_
   repeat refine n_ ?_
   refine g_ret ?_
   refine at_end3 rfl rfl rfl rfl _ ⟨?_, rfl⟩ (fun _ h => h)
   rw [heq, hk, List.drop_length]; rfl
  ·have hk : at_ + i < s.length := by have := of_decide_eq_false h; omega
   clear h
   obtain ⟨c, hc⟩ : ∃ c, c = s.getD (at_ + i) 0 := ⟨_, rfl⟩
   have hdrop := drop_at hk
   rw [← hc] at hdrop
   rw [hdrop, scanL] at heq
   have hidx : ((at_ : Int) + (i : Int)).toNat = at_ + i := by omega
   repeat refine y_ ?_
   refine g_draw0 ([3, 7], [0, 1, 3, 7, 0, 16, 48, 112, 0, 496, 1023, 2047], []) 12 rfl ?_
   refine w_ 0 rfl (s_move rfl) ?_
   refine w_ 1 rfl (s_nilCheck rfl) ?_
   refine w_ 2 rfl z_1 ?_
   (refine ga_read 3 rfl z_2 (s_load_blk rfl .del z_7) rfl rfl rfl z_4 ?_)
   refine w_ 4 rfl (s_move rfl) ?_
   refine w_ 5 rfl (s_nilCheck rfl) ?_
   refine w_ 6 rfl z_1 ?_
   (refine ga_read 7 rfl z_2 (s_load_blk rfl .del z_7) rfl rfl rfl z_4 ?_)
   refine w_ 8 rfl (s_move rfl) ?_
   refine w_ 9 rfl (s_add_i64 rfl rfl (by omega)) ?_
   refine w_ 10 rfl ((s_index_str rfl rfl (by omega)).eq (v' := .int .u8 ((c.toNat : Nat))) (by rw [hc, hidx])) ?_
   refine w_ 11 rfl (s_assign rfl) ?_
   refine ga_done z_4 ?_
   repeat refine y_ ?_
   obtain ⟨q1, hq1⟩ : ∃ q, q = decide ((i : Int) = 9) := ⟨_, rfl⟩
   obtain ⟨q2, hq2⟩ : ∃ q, q = decide ((1 : Int) < (c.toNat : Nat)) := ⟨_, rfl⟩
   refine g_cutK [(0, Ptr b), (5, .int .u64 (n : Nat)), (6, .int .i64 (i : Nat)), (7, .int .u8 (c.toNat : Nat)), (38, .bool (q1 && q2))] [.blk b (.cells #[B s, .int .i64 (at_ : Nat), .int .i64 (e : Nat)] 171)] ?_ ?_
   ·cases q1 <;> cases q2
    all_goals (
     repeat refine x_ ?_
     refine m_ ?_
     refine f_ ((s_eql rfl rfl).eb hq1) ?_
     refine m_ ?_
     (first | refine gl_guard_no rfl rfl rfl rfl rfl rfl rfl ?_ | (refine v_ ?_; refine m_ ?_))
     (first | refine gl_guard_no rfl rfl rfl rfl rfl rfl rfl ?_ | (refine v_ ?_; refine f_ ((s_gtr rfl rfl).eb hq2) ?_))
     refine f_ z_6 ?_
     refine gl_nil ?_
     repeat refine y_ ?_)
    all_goals exact at_cut j_ i_
   ·repeat refine y_ ?_
    refine g_cond rfl (fun h => ?_) (fun h => ?_)
    ·have h0 : i = 9 ∧ 1 < c.toNat := by
      rw [hq1, hq2, Bool.and_eq_true, decide_eq_true_eq, decide_eq_true_eq] at h; omega
     rw [if_pos h0] at heq
     repeat refine x_ ?_
     refine a_ ?_
     refine a_ ?_
     refine a_ ?_
     repeat refine n_ ?_
     refine g_ret ?_
     refine at_end3 rfl rfl rfl rfl _ ⟨?_, rfl⟩ (fun _ h => h)
     rw [heq]; rfl
    ·have h0 : ¬ (i = 9 ∧ 1 < c.toNat) := by
      rw [hq1, hq2, Bool.and_eq_false_iff, decide_eq_false_iff_not, decide_eq_false_iff_not] at h; omega
     clear h hq1 hq2
     rw [if_neg h0] at heq
     have hb := scan_lt [c] i n hi hn
     have hlt : n + c.toNat % 128 * 128 ^ i < 2 ^ 64 ∧ (¬ c.toNat < 128 → n + c.toNat % 128 * 128 ^ i < 128 ^ (i + 1) ∧ i + 1 ≤ 9) := by
      have hp : 128 ^ i = 2 ^ (7 * i) := by rw [show 128 = 2 ^ 7 by rfl, ← Nat.pow_mul]
      have hcc := c.toNat_lt
      rw [Nat.pow_succ]
      generalize hq : 128 ^ i = q at *
      by_cases h9 : i = 9
      ·subst h9
       have : q = 9223372036854775808 := by rw [← hq]
       have h10 : c.toNat % 128 * q ≤ 1 * q := Nat.mul_le_mul_right _ (by omega)
       omega
      ·have hq8 : q ≤ 2 ^ 56 := by
        rw [hp]; exact Nat.pow_le_pow_right (by omega) (by omega)
       have h10 : c.toNat % 128 * q ≤ 127 * q := Nat.mul_le_mul_right _ (by omega)
       omega
     obtain ⟨m, hm⟩ : ∃ m, m = n + c.toNat % 128 * 128 ^ i := ⟨_, rfl⟩
     repeat refine x_ ?_
     refine m_ ?_
     refine m_ ?_
     refine f_ ((s_bits (.inl rfl) rfl rfl).eq (and_127 c)) ?_
     refine f_ (s_conv_keep_u64 rfl (by omega)) ?_
     refine m_ ?_
     refine f_ (s_mul_i64 rfl rfl (by omega)) ?_
     refine f_ ((s_shl rfl rfl (by omega)).eq (shl_7 _ i (by omega) hi)) ?_
     refine f_ (((s_bits (.inr (.inl rfl)) rfl rfl).eq (or_7 n _ i hn hlt.1)).eq (congrArg (fun x : Nat => Value.int .u64 ((x : Nat) : Int)) hm.symm)) ?_
     refine a_ ?_
     repeat refine n_ ?_
     rw [← hm] at heq hlt
     obtain ⟨q3, hq3⟩ : ∃ q, q = decide ((c.toNat : Int) < 128) := ⟨_, rfl⟩
     repeat refine x_ ?_
     refine m_ ?_
     refine f_ ((s_lss rfl rfl).eb hq3) ?_
     repeat refine n_ ?_
     refine g_cond rfl (fun h => ?_) (fun h => ?_)
     ·have h1 : c.toNat < 128 := by rw [hq3, decide_eq_true_eq] at h; omega
      rw [if_pos h1] at heq
      obtain ⟨q4, hq4⟩ : ∃ q, q = decide ((c.toNat : Int) = 0) := ⟨_, rfl⟩
      obtain ⟨q5, hq5⟩ : ∃ q, q = decide ((0 : Int) < (i : Nat)) := ⟨_, rfl⟩
      repeat refine y_ ?_
      refine g_cutK [(0, Ptr b), (5, .int .u64 (m : Nat)), (6, .int .i64 (i : Nat)), (54, .bool (q4 && q5))] [.blk b (.cells #[B s, .int .i64 (at_ : Nat), .int .i64 (e : Nat)] 171)] ?_ ?_
      ·cases q4 <;> cases q5
       all_goals (
        repeat refine x_ ?_
        refine m_ ?_
        refine f_ ((s_eql rfl rfl).eb hq4) ?_
        refine m_ ?_
        (first | refine gl_guard_no rfl rfl rfl rfl rfl rfl rfl ?_ | (refine v_ ?_; refine m_ ?_))
        (first | refine gl_guard_no rfl rfl rfl rfl rfl rfl rfl ?_ | (refine v_ ?_; refine f_ ((s_gtr rfl rfl).eb hq5) ?_))
        refine f_ z_6 ?_
        refine gl_nil ?_
        repeat refine y_ ?_)
       all_goals exact at_cut j_ i_
      ·repeat refine y_ ?_
       refine g_cond rfl (fun h2 => ?_) (fun h2 => ?_)
       ·have h3 : c.toNat = 0 ∧ 0 < i := by
         rw [hq4, hq5, Bool.and_eq_true, decide_eq_true_eq, decide_eq_true_eq] at h2; omega
        rw [if_pos h3] at heq
        repeat refine x_ ?_
        refine a_ ?_
        refine a_ ?_
        refine a_ ?_
        repeat refine n_ ?_
        refine g_ret ?_
        refine at_end3 rfl rfl rfl rfl _ ⟨?_, rfl⟩ (fun _ h => h)
        rw [heq]; rfl
       ·have h3 : ¬ (c.toNat = 0 ∧ 0 < i) := by
         rw [hq4, hq5, Bool.and_eq_false_iff, decide_eq_false_iff_not, decide_eq_false_iff_not] at h2; omega
        rw [if_neg h3] at heq
        repeat refine x_ ?_
        refine m_ ?_
        refine m_ ?_
        refine f_ (s_add_i64 rfl rfl (by omega)) ?_
        refine a_ ?_
        refine a_ ?_
        refine a_ ?_
        repeat refine n_ ?_
        refine g_ret ?_
        refine at_end3 rfl rfl rfl rfl _ ⟨?_, rfl⟩ (fun _ h => h)
        rw [heq]; rfl
     ·have h1 : ¬ c.toNat < 128 := by rw [hq3, decide_eq_false_iff_not] at h; omega
      rw [if_neg h1] at heq
      repeat refine x_ ?_
      refine m_ ?_
      refine f_ (s_add_i64 rfl rfl (by omega)) ?_
      refine a_ ?_
      repeat refine n_ ?_
      refine at_next (i + 1, m) ⟨(hlt.2 h1).2, (hlt.2 h1).1, by simp only; omega, ?_⟩ (by simp only; omega) ?_ ?_
      ·simp only
       rw [heq]; congr 1
      ·(repeat (first | exact Sub.nil _ | refine Sub.cons rfl ?_))
      ·intro w hw; exact hw
theorem any_ct (b : Nat) (n k : Int) : Pu Tryz.prog 131 [Ptr b, .int .u64 n, .int .i64 k] (fun _ => True) (.int .i64 0) := by
 refine ct_enter 7 Tryz.func131 rfl rfl rfl ?_
 intro F _
 repeat refine x_ ?_
 refine a_ ?_
 repeat refine x_ ?_
 refine a_ ?_
 repeat refine n_ ?_
 refine g_ret ?_
 exact at_end1 rfl rfl [] ⟨rfl, rfl⟩ (fun _ h => h)
def bnd (s : List UInt8) (at_ e most : Nat) : Nat × Nat × Nat × Nat :=
 if e ≠ 0 then (0, 0, at_, e)
 else if (scanL (s.drop at_) 0 0).2.2 ≠ 0 then (0, 0, at_, (scanL (s.drop at_) 0 0).2.2)
 else if most < (scanL (s.drop at_) 0 0).1 then (0, 0, at_, 2)
 else ((scanL (s.drop at_) 0 0).1, (scanL (s.drop at_) 0 0).2.1, at_ + (scanL (s.drop at_) 0 0).2.1, 0)
def AnyV (b : Nat) : Value := .func (.func 131) [Ptr b].toArray [].toArray
def BndP (b : Nat) (s : List UInt8) (r : Nat × Nat × Nat × Nat) (v : Value) (A : List As) : Prop := v = .tuple #[.int .u64 (r.1 : Nat), .int .i64 (r.2.1 : Nat)] ∧ A = [RD b s r.2.2.1 r.2.2.2]
set_option maxHeartbeats 2000000 in
theorem bound_ct (b : Nat) (s : List UInt8) (at_ e most : Nat) (mz : Int) (hmz : mz = (most : Nat)) (hs : s.length ≤ 9223372036854775807) (ha : at_ ≤ s.length) : Ct Tryz.prog 130 [Ptr b, .int .u64 mz, AnyV b] (fun _ => True) [RD b s at_ e] (BndP b s (bnd s at_ e most)) := by
 subst hmz
 refine ct_enter 55 Tryz.func130 rfl rfl rfl ?_
 intro F _
 unfold RD
 repeat refine x_ ?_
 refine a_ ?_
 refine a_ ?_
 repeat refine n_ ?_
 by_cases he : e = 0
 ·subst he
  have hsc := scan_lt (s.drop at_) 0 0 (by omega) (by simp)
  rw [List.length_drop] at hsc
  obtain ⟨n, hn⟩ : ∃ n, n = (scanL (s.drop at_) 0 0).1 := ⟨_, rfl⟩
  obtain ⟨k, hk⟩ : ∃ n, n = (scanL (s.drop at_) 0 0).2.1 := ⟨_, rfl⟩
  obtain ⟨x, hx⟩ : ∃ n, n = (scanL (s.drop at_) 0 0).2.2 := ⟨_, rfl⟩
  have eb : bnd s at_ 0 most = if x ≠ 0 then (0, 0, at_, x) else if most < n then (0, 0, at_, 2) else (n, k, at_ + k, 0) := by
   rw [bnd, if_neg (by simp), ← hn, ← hk, ← hx]
  rw [← hn, ← hk] at hsc
  repeat refine x_ ?_
  refine m_ ?_
  refine f_ (s_eql_ptr rfl rfl) ?_
  refine m_ ?_
  (refine v_ ?_; refine m_ ?_)
  (refine v_ ?_; refine f_ (s_nilCheck rfl) ?_)
  (refine v_ ?_; refine f_ z_1 ?_)
  (refine v_ ?_; refine r_ z_10 ?_)
  (refine v_ ?_; refine f_ ((s_neq rfl rfl).eq (v' := .bool false) rfl) ?_)
  refine f_ z_12 ?_
  repeat refine x_ ?_
  refine m_ ?_
  refine gl_call [] rfl (scan_ct b s at_ 0 hs ha) i_ (fun _ _ _ => trivial) rfl ?_; rintro v A ⟨rfl, rfl⟩; unfold TrioV RD; rw [← hn, ← hk, ← hx]
  refine m_ ?_
  refine f_ (s_extract rfl rfl) ?_
  refine f_ (s_extract rfl rfl) ?_
  refine f_ (s_extract rfl rfl) ?_
  refine a_ ?_
  refine a_ ?_
  refine a_ ?_
  repeat refine n_ ?_
  rw [eb]
  by_cases h1 : x = 0
  ·rw [if_neg (by omega)]
   have hx0 : ((x : Nat) : Int) = 0 := by omega
   rw [hx0]
   clear eb
   by_cases h2 : most < n
   ·rw [if_pos h2]
    repeat refine x_ ?_
    refine m_ ?_
    refine f_ (s_eql rfl rfl) ?_
    refine m_ ?_
    (refine v_ ?_; refine m_ ?_)
    (refine v_ ?_; refine m_ ?_)
    (refine v_ ?_; refine f_ ((s_gtr rfl rfl).eq (v' := .bool true) (congrArg Value.bool (decide_eq_true (by omega)))) ?_)
    refine f_ z_13 ?_
    repeat refine x_ ?_
    refine a_ ?_
    repeat refine x_ ?_
    refine m_ ?_
    refine f_ (s_eql rfl rfl) ?_
    repeat refine x_ ?_
    refine m_ ?_
    refine f_ (s_neq rfl rfl) ?_
    repeat refine x_ ?_
    refine m_ ?_
    refine m_ ?_
    refine f_ (s_nilCheck rfl) ?_
    refine f_ z_1 ?_
    (refine gl_store_blkC (pre := [_, _]) (post := []) rfl rfl z_5 z_7 z_7 z_7 ?_)
    repeat refine x_ ?_
    refine a_ ?_
    refine a_ ?_
    repeat refine n_ ?_
    refine g_ret ?_
    exact at_end2 rfl rfl rfl _ ⟨rfl, rfl⟩ (fun _ h => h)
   ·rw [if_neg h2]
    repeat refine x_ ?_
    refine m_ ?_
    refine f_ (s_eql rfl rfl) ?_
    refine m_ ?_
    (refine v_ ?_; refine m_ ?_)
    (refine v_ ?_; refine m_ ?_)
    (refine v_ ?_; refine f_ ((s_gtr rfl rfl).eq (v' := .bool false) (congrArg Value.bool (decide_eq_false (by omega)))) ?_)
    refine f_ z_13 ?_
    repeat refine x_ ?_
    refine m_ ?_
    refine f_ (s_eql rfl rfl) ?_
    repeat refine x_ ?_
    refine m_ ?_
    refine m_ ?_
    refine m_ ?_
    refine gl_callv _ rfl rfl rfl (any_ct b _ _) i_ (fun _ _ _ => trivial) rfl ?_; rintro v A ⟨rfl, rfl⟩
    refine a_ ?_
    repeat refine x_ ?_
    refine m_ ?_
    refine f_ (s_neq rfl rfl) ?_
    repeat refine x_ ?_
    refine m_ ?_
    refine f_ (s_nilCheck rfl) ?_
    refine f_ z_1 ?_
    refine r_ z_10 ?_
    refine m_ ?_
    refine f_ (s_add_i64 rfl rfl (by omega)) ?_
    refine f_ (s_nilCheck rfl) ?_
    refine f_ z_1 ?_
    (refine gl_store_blkC (pre := [_]) (post := [_]) rfl rfl z_5 z_7 z_7 z_7 ?_)
    repeat refine x_ ?_
    refine m_ ?_
    refine m_ ?_
    refine a_ ?_
    refine a_ ?_
    repeat refine n_ ?_
    refine g_ret ?_
    exact at_end2 rfl rfl rfl _ ⟨rfl, rfl⟩ (fun _ h => h)
  ·rw [if_pos h1]
   clear eb
   repeat refine x_ ?_
   refine m_ ?_
   refine f_ ((s_eql rfl rfl).eq (v' := .bool false) (congrArg Value.bool (decide_eq_false (by omega)))) ?_
   refine m_ ?_
   (refine gl_guard_no rfl rfl rfl rfl rfl rfl rfl ?_)
   (refine gl_guard_no rfl rfl rfl rfl rfl rfl rfl ?_)
   (refine gl_guard_no rfl rfl rfl rfl rfl rfl rfl ?_)
   refine f_ z_12 ?_
   repeat refine x_ ?_
   refine m_ ?_
   refine f_ ((s_eql rfl rfl).eq (v' := .bool false) (congrArg Value.bool (decide_eq_false (by omega)))) ?_
   repeat refine x_ ?_
   refine m_ ?_
   refine f_ ((s_neq rfl rfl).eq (v' := .bool true) (by rw [decide_eq_false (by omega)]; rfl)) ?_
   repeat refine x_ ?_
   refine m_ ?_
   refine m_ ?_
   refine f_ (s_nilCheck rfl) ?_
   refine f_ z_1 ?_
   (refine gl_store_blkC (pre := [_, _]) (post := []) rfl rfl z_5 z_7 z_7 z_7 ?_)
   repeat refine x_ ?_
   refine a_ ?_
   refine a_ ?_
   repeat refine n_ ?_
   refine g_ret ?_
   exact at_end2 rfl rfl rfl _ ⟨rfl, rfl⟩ (fun _ h => h)
 ·rw [bnd, if_pos he]
  repeat refine x_ ?_
  refine m_ ?_
  refine f_ (s_eql_ptr rfl rfl) ?_
  refine m_ ?_
  (refine v_ ?_; refine m_ ?_)
  (refine v_ ?_; refine f_ (s_nilCheck rfl) ?_)
  (refine v_ ?_; refine f_ z_1 ?_)
  (refine v_ ?_; refine r_ z_10 ?_)
  (refine v_ ?_; refine f_ ((s_neq rfl rfl).eq (v' := .bool true) (by rw [decide_eq_false (by omega)]; rfl)) ?_)
  refine f_ z_12 ?_
  repeat refine x_ ?_
  refine a_ ?_
  refine a_ ?_
  repeat refine n_ ?_
  refine g_ret ?_
  exact at_end2 rfl rfl rfl _ ⟨rfl, rfl⟩ (fun _ h => h)
structure Cnt5 (s : List UInt8) (at_ e : Nat) (r : Nat × Nat × Nat × Nat) : Prop where
 good : e = 0 → at_ < s.length → (s.getD at_ 0).toNat ≤ 5 → r = ((s.getD at_ 0).toNat, 1, at_ + 1, 0)
 bad : ¬ (e = 0 ∧ at_ < s.length ∧ (s.getD at_ 0).toNat ≤ 5) → r.1 = 0 ∧ r.2.2.1 = at_ ∧ r.2.2.2 ≠ 0
theorem cnt5 (s : List UInt8) (at_ e : Nat) (ha : at_ ≤ s.length) : Cnt5 s at_ e (bnd s at_ e 5) := by
 constructor
 ·intro he hl h5
  rw [bnd, if_neg (by omega), drop_at hl, scan_one (by omega)]
  simp only [ne_eq, not_true_eq_false, if_false]
  rw [if_neg (by omega)]
 ·intro hno
  unfold bnd
  by_cases he : e = 0
  ·rw [if_neg (by omega)]
   by_cases hl : at_ < s.length
   ·have h5 : ¬ (s.getD at_ 0).toNat ≤ 5 := fun h => hno ⟨he, hl, h⟩
    rw [drop_at hl]
    by_cases h1 : (s.getD at_ 0).toNat < 128
    ·rw [scan_one h1]
     simp only [ne_eq, not_true_eq_false, if_false]
     rw [if_pos (by omega)]
     simp
    ·rw [scan_more h1]
     by_cases h2 : (scanL (s.drop (at_ + 1)) 1 ((s.getD at_ 0).toNat % 128)).2.2 = 0
     ·have h3 := scan_big _ _ _ (by omega) h2
      rw [if_neg (by omega), if_pos (by omega)]
      simp
     ·rw [if_pos h2]
      exact ⟨rfl, rfl, h2⟩
   ·have : s.drop at_ = [] := List.drop_of_length_le (by omega)
    rw [this]
    simp [scanL]
  ·rw [if_pos he]
   exact ⟨rfl, rfl, he⟩
def CntP (b : Nat) (s : List UInt8) (at_ e : Nat) (v : Value) (A : List As) : Prop := ∃ n p x, Cnt5 s at_ e (n, 1, p, x) ∧ p ≤ s.length ∧ n ≤ 5 ∧ v = .int .i64 (n : Nat) ∧ A = [RD b s p x]
theorem Count_ct (b : Nat) (s : List UInt8) (at_ e : Nat) (hs : s.length ≤ 9223372036854775807) (ha : at_ ≤ s.length) : Ct Tryz.prog 115 [Ptr b, .int .i64 5] (fun _ => True) [RD b s at_ e] (CntP b s at_ e) := by
 have hc := cnt5 s at_ e ha
 obtain ⟨n, hn⟩ : ∃ n, n = (bnd s at_ e 5).1 := ⟨_, rfl⟩
 obtain ⟨p, hp⟩ : ∃ n, n = (bnd s at_ e 5).2.2.1 := ⟨_, rfl⟩
 obtain ⟨x, hx⟩ : ∃ n, n = (bnd s at_ e 5).2.2.2 := ⟨_, rfl⟩
 have hall : Cnt5 s at_ e (n, 1, p, x) ∧ p ≤ s.length ∧ n ≤ 5 := by
  by_cases h : e = 0 ∧ at_ < s.length ∧ (s.getD at_ 0).toNat ≤ 5
  ·have := hc.good h.1 h.2.1 h.2.2
   rw [this] at hn hp hx
   subst hn hp hx
   exact ⟨⟨fun _ _ _ => rfl, fun hno => absurd h hno⟩, by simp only; omega, h.2.2⟩
  ·have := hc.bad h
   refine ⟨⟨fun h1 h2 h3 => absurd ⟨h1, h2, h3⟩ h, fun _ => ⟨by simp only; omega, by simp only; omega, by simp only; omega⟩⟩, by omega, by omega⟩
 refine ct_enter 19 Tryz.func115 rfl rfl rfl ?_
 intro F _
 repeat refine x_ ?_
 refine a_ ?_
 repeat refine x_ ?_
 refine m_ ?_
 refine m_ ?_
 refine f_ ((s_max2 rfl rfl).eq (v' := .int .i64 5) rfl) ?_
 refine f_ (s_conv_keep_u64 rfl (by omega)) ?_
 refine m_ ?_
 refine f_ (s_makeFunc rfl rfl) ?_
 refine gl_call [] rfl (bound_ct b s at_ e 5 _ rfl hs ha) i_ (fun _ _ _ => trivial) rfl ?_; rintro v A ⟨rfl, rfl⟩; rw [← hn, ← hp, ← hx]
 refine m_ ?_
 refine f_ (s_extract rfl rfl) ?_
 refine f_ (s_extract rfl rfl) ?_
 refine a_ ?_
 refine a_ ?_
 repeat refine x_ ?_
 refine m_ ?_
 refine f_ (s_conv_keep_i64 rfl (by omega)) ?_
 refine a_ ?_
 repeat refine n_ ?_
 refine g_ret ?_
 exact at_end1 rfl rfl _ ⟨n, p, x, hall.1, hall.2.1, hall.2.2, rfl, rfl⟩ (fun _ h => h)
def endE (s : List UInt8) (at_ e : Nat) : Nat := if e = 0 ∧ at_ < s.length then 9 else e
set_option maxHeartbeats 1000000 in
theorem End_ct (b : Nat) (s : List UInt8) (at_ e : Nat) (hs : s.length ≤ 9223372036854775807) (ha : at_ ≤ s.length) : Ct Tryz.prog 116 [Ptr b] (fun _ => True) [RD b s at_ e] (fun v A => v = .int .i64 (endE s at_ e : Nat) ∧ A = [RD b s at_ (endE s at_ e)]) := by
 refine ct_enter 29 Tryz.func116 rfl rfl rfl ?_
 intro F _
 unfold RD
 repeat refine x_ ?_
 refine a_ ?_
 repeat refine x_ ?_
 refine m_ ?_
 refine f_ (s_eql_ptr rfl rfl) ?_
 repeat refine n_ ?_
 by_cases h : e = 0 ∧ at_ < s.length
 ·rw [endE, if_pos h]
  obtain ⟨rfl, hl⟩ := h
  repeat refine y_ ?_
  refine g_draw0 ([3, 9, 13], [0, 1, 3, 7, 15, 31, 63, 127, 255, 511, 63, 1087, 3135, 7231, 15423, 32767, 65535], []) 17 rfl ?_
  refine w_ 0 rfl (s_move rfl) ?_
  refine w_ 1 rfl (s_nilCheck rfl) ?_
  refine w_ 2 rfl z_1 ?_
  (refine ga_read 3 rfl z_2 (s_load_blk rfl .del z_7) rfl rfl rfl z_4 ?_)
  refine w_ 4 rfl ((s_eql rfl rfl).eq (v' := .bool true) rfl) ?_
  refine w_ 5 rfl (s_move rfl) ?_
  (refine ga_free_g 6 rfl (s_move rfl) rfl rfl rfl rfl rfl rfl z_4 ?_)
  (refine ga_free_g 7 rfl (s_nilCheck rfl) rfl rfl rfl rfl rfl rfl z_4 ?_)
  (refine ga_free_g 8 rfl z_1 rfl rfl rfl rfl rfl rfl z_4 ?_)
  (refine ga_read_g 9 rfl z_2 (s_load_blk rfl .del z_7) rfl rfl rfl rfl rfl rfl z_4 ?_)
  (refine ga_free_g 10 rfl (s_move rfl) rfl rfl rfl rfl rfl rfl z_4 ?_)
  (refine ga_free_g 11 rfl (s_nilCheck rfl) rfl rfl rfl rfl rfl rfl z_4 ?_)
  (refine ga_free_g 12 rfl z_1 rfl rfl rfl rfl rfl rfl z_4 ?_)
  (refine ga_read_g 13 rfl z_2 (s_load_blk rfl .del z_7) rfl rfl rfl rfl rfl rfl z_4 ?_)
  (refine ga_free_g 14 rfl (s_len_str rfl) rfl rfl rfl rfl rfl rfl z_4 ?_)
  (refine ga_free_g 15 rfl ((s_lss rfl rfl).eq (v' := .bool true) (congrArg Value.bool (decide_eq_true (by omega)))) rfl rfl rfl rfl rfl rfl z_4 ?_)
  refine w_ 16 rfl z_13 ?_
  refine ga_done z_4 ?_
  repeat refine x_ ?_
  refine m_ ?_
  refine f_ (s_nilCheck rfl) ?_
  refine f_ z_1 ?_
  (refine gl_store_blkC (pre := [_, _]) (post := []) rfl rfl z_5 z_7 z_7 z_7 ?_)
  repeat refine x_ ?_
  refine m_ ?_
  refine f_ (s_nilCheck rfl) ?_
  refine f_ z_1 ?_
  refine r_ z_10 ?_
  refine a_ ?_
  repeat refine n_ ?_
  refine g_ret ?_
  exact at_end1 rfl rfl _ ⟨rfl, rfl⟩ (fun _ h => h)
 ·rw [endE, if_neg h]
  by_cases he : e = 0
  ·subst he
   repeat refine y_ ?_
   refine g_draw0 ([3, 9, 13], [0, 1, 3, 7, 15, 31, 63, 127, 255, 511, 63, 1087, 3135, 7231, 15423, 32767, 65535], []) 17 rfl ?_
   refine w_ 0 rfl (s_move rfl) ?_
   refine w_ 1 rfl (s_nilCheck rfl) ?_
   refine w_ 2 rfl z_1 ?_
   (refine ga_read 3 rfl z_2 (s_load_blk rfl .del z_7) rfl rfl rfl z_4 ?_)
   refine w_ 4 rfl ((s_eql rfl rfl).eq (v' := .bool true) rfl) ?_
   refine w_ 5 rfl (s_move rfl) ?_
   (refine ga_free_g 6 rfl (s_move rfl) rfl rfl rfl rfl rfl rfl z_4 ?_)
   (refine ga_free_g 7 rfl (s_nilCheck rfl) rfl rfl rfl rfl rfl rfl z_4 ?_)
   (refine ga_free_g 8 rfl z_1 rfl rfl rfl rfl rfl rfl z_4 ?_)
   (refine ga_read_g 9 rfl z_2 (s_load_blk rfl .del z_7) rfl rfl rfl rfl rfl rfl z_4 ?_)
   (refine ga_free_g 10 rfl (s_move rfl) rfl rfl rfl rfl rfl rfl z_4 ?_)
   (refine ga_free_g 11 rfl (s_nilCheck rfl) rfl rfl rfl rfl rfl rfl z_4 ?_)
   (refine ga_free_g 12 rfl z_1 rfl rfl rfl rfl rfl rfl z_4 ?_)
   (refine ga_read_g 13 rfl z_2 (s_load_blk rfl .del z_7) rfl rfl rfl rfl rfl rfl z_4 ?_)
   (refine ga_free_g 14 rfl (s_len_str rfl) rfl rfl rfl rfl rfl rfl z_4 ?_)
   (refine ga_free_g 15 rfl ((s_lss rfl rfl).eq (v' := .bool false) (congrArg Value.bool (decide_eq_false (by omega)))) rfl rfl rfl rfl rfl rfl z_4 ?_)
   refine w_ 16 rfl z_13 ?_
   refine ga_done z_4 ?_
   repeat refine x_ ?_
   refine m_ ?_
   refine f_ (s_nilCheck rfl) ?_
   refine f_ z_1 ?_
   refine r_ z_10 ?_
   refine a_ ?_
   repeat refine n_ ?_
   refine g_ret ?_
   exact at_end1 rfl rfl _ ⟨rfl, rfl⟩ (fun _ h => h)
  ·repeat refine y_ ?_
   refine g_draw0 ([3, 9, 13], [0, 1, 3, 7, 15, 31, 63, 127, 255, 511, 63, 1087, 3135, 7231, 15423, 32767, 65535], []) 17 rfl ?_
   refine w_ 0 rfl (s_move rfl) ?_
   refine w_ 1 rfl (s_nilCheck rfl) ?_
   refine w_ 2 rfl z_1 ?_
   (refine ga_read 3 rfl z_2 (s_load_blk rfl .del z_7) rfl rfl rfl z_4 ?_)
   refine w_ 4 rfl ((s_eql rfl rfl).eq (v' := .bool false) (congrArg Value.bool (decide_eq_false (by omega)))) ?_
   refine w_ 5 rfl (s_move rfl) ?_
   (refine s_ 6 ?_)
   (refine s_ 7 ?_)
   (refine s_ 8 ?_)
   (refine s_ 9 ?_)
   (refine s_ 10 ?_)
   (refine s_ 11 ?_)
   (refine s_ 12 ?_)
   (refine s_ 13 ?_)
   (refine s_ 14 ?_)
   (refine s_ 15 ?_)
   refine w_ 16 rfl z_12 ?_
   refine ga_done z_4 ?_
   repeat refine x_ ?_
   refine m_ ?_
   refine f_ (s_nilCheck rfl) ?_
   refine f_ z_1 ?_
   refine r_ z_10 ?_
   refine a_ ?_
   repeat refine n_ ?_
   refine g_ret ?_
   exact at_end1 rfl rfl _ ⟨rfl, rfl⟩ (fun _ h => h)
end Go.Proofs.YtodcghipfolejaaGreat
namespace Go.Proofs.YtodcghipfolejaaGreat
open Go Go.Sl
theorem Step_ct (l m : List Int) (a b : Option Addr) (c d : Nat) (hl : l.length ≤ 4611686018427387903) (hm : m.length ≤ 4611686018427387903) : Pu Tryz.prog 101 [.slice a l.length c, .slice b m.length d] (Rd2 a b l m) (.bool (stepS l m)) := by
 refine ct_enter 30 Tryz.func101 rfl rfl rfl ?_
 intro F hr
 have hrd := hr.1
 have hrm := hr.2
 repeat refine x_ ?_
 refine a_ ?_
 repeat refine n_ ?_
 obtain ⟨q1, hq1⟩ : ∃ q, q = rightB l := ⟨_, rfl⟩
 obtain ⟨q2, hq2⟩ : ∃ q, q = rightB m := ⟨_, rfl⟩
 refine g_cutK [(0, .slice a l.length c), (1, .slice b m.length d), (14, .bool (!q1 || !q2))] [] ?_ ?_
 ·rcases (show q1 = false ∨ (q1 = true ∧ q2 = true) ∨ (q1 = true ∧ q2 = false) by cases q1 <;> cases q2 <;> simp) with rfl | ⟨rfl, rfl⟩ | ⟨rfl, rfl⟩
  all_goals (
   repeat refine x_ ?_
   refine m_ ?_
   refine gl_callp rfl (Right_ct l a c (by omega)) (fun h hh _ => hrd.le hh) rfl ?_; rw [← hq1]
   refine f_ (s_not rfl) ?_
   refine m_ ?_
   (first | refine gl_guard_no rfl rfl rfl rfl rfl rfl rfl ?_ | (refine v_ ?_; refine m_ ?_))
   (first | refine gl_guard_no rfl rfl rfl rfl rfl rfl rfl ?_ | (refine v_ ?_; refine gl_callp rfl (Right_ct m b d (by omega)) (fun h hh _ => hrm.le hh) rfl ?_; rw [← hq2]))
   (first | refine gl_guard_no rfl rfl rfl rfl rfl rfl rfl ?_ | (refine v_ ?_; refine f_ (s_not rfl) ?_))
   refine f_ z_6 ?_
   refine gl_nil ?_
   repeat refine y_ ?_)
  all_goals exact at_cut j_ i_
 ·repeat refine y_ ?_
  have es : stepS l m = (q1 && q2 && decide (diffN l m 5 = 1)) := by rw [stepS, hq1, hq2]
  rw [es]
  refine g_cond rfl (fun h => ?_) (fun h => ?_)
  ·have e : (q1 && q2 && decide (diffN l m 5 = 1)) = false := by cases q1 <;> cases q2 <;> simp_all
   rw [e]
   repeat refine x_ ?_
   refine a_ ?_
   repeat refine n_ ?_
   refine g_ret ?_
   exact at_end1 rfl rfl [] ⟨rfl, rfl⟩ (fun _ h => h)
  ·have e : (q1 && q2 && decide (diffN l m 5 = 1)) = decide (diffN l m 5 = 1) := by cases q1 <;> cases q2 <;> simp_all
   rw [e]
   clear h e es hq1 hq2
   repeat refine x_ ?_
   refine a_ ?_
   repeat refine x_ ?_
   refine a_ ?_
   repeat refine n_ ?_
   refine g_loop (ι := Nat) (fun k => k ≤ 5) (fun k => [(0, .slice a l.length c), (1, .slice b m.length d), (5, .int .i64 (diffN l m k : Nat)), (6, .int .i64 ((k : Nat) + 1))]) (fun k => []) (fun k => 5 - k) 0 (by omega) ?_ ?_ ?_
   ·(repeat (first | exact Sub.nil _ | refine Sub.cons rfl ?_))
   ·intro w hw; exact hw
   ·intro k hk
    have hdl := diff_le l m k
    repeat refine x_ ?_
    refine m_ ?_
    refine f_ (s_leq rfl rfl) ?_
    repeat refine n_ ?_
    refine g_cond rfl (fun h => ?_) (fun h => ?_)
    ·have hk' : k < 5 := by simp at h; omega
     repeat refine x_ ?_
     refine m_ ?_
     refine m_ ?_
     refine gl_callp rfl (Contains_ct l _ a c (by omega)) (fun h hh _ => hrd.le hh) rfl ?_
     refine m_ ?_
     refine m_ ?_
     refine gl_callp rfl (Contains_ct m _ b d (by omega)) (fun h hh _ => hrm.le hh) rfl ?_
     refine f_ ((s_neq_bool rfl rfl).eq (v' := .bool (!decide (inB l ((k : Int) + 1) = inB m ((k : Int) + 1)))) (by cases inB l ((k : Int) + 1) <;> cases inB m ((k : Int) + 1) <;> rfl)) ?_
     repeat refine n_ ?_
     refine g_cutK [(0, .slice a l.length c), (1, .slice b m.length d), (5, .int .i64 (diffN l m (k + 1) : Nat)), (6, .int .i64 ((k : Nat) + 1))] [] ?_ ?_
     ·refine g_cond rfl (fun h2 => ?_) (fun h2 => ?_)
      ·have e : ((diffN l m (k + 1) : Nat) : Int) = (diffN l m k : Nat) + 1 := by rw [diff_succ, if_pos h2]; omega
       rw [e]
       repeat refine x_ ?_
       refine m_ ?_
       refine f_ (s_add_i64 rfl rfl (by omega)) ?_
       refine a_ ?_
       repeat refine n_ ?_
       exact at_cut j_ i_
      ·have e : diffN l m (k + 1) = diffN l m k := by rw [diff_succ, if_neg (by rw [h2]; simp)]; rfl
       rw [e]
       repeat refine y_ ?_
       exact at_cut j_ i_
     ·repeat refine y_ ?_
      repeat refine x_ ?_
      refine m_ ?_
      refine f_ (s_add_i64 rfl rfl (by omega)) ?_
      refine a_ ?_
      repeat refine n_ ?_
      refine at_next (k + 1) (by omega) (by omega) ?_ ?_
      ·(repeat (first | exact Sub.nil _ | refine Sub.cons rfl ?_))
      ·intro w hw; exact hw
    ·have hkl : k = 5 := by simp at h; omega
     subst hkl
     repeat refine x_ ?_
     refine m_ ?_
     refine f_ ((s_eql rfl rfl).eq (v' := .bool (decide (diffN l m 5 = 1))) (congrArg Value.bool (decide_eq_decide.2 (by omega)))) ?_
     refine a_ ?_
     repeat refine n_ ?_
     refine g_ret ?_
     exact at_end1 rfl rfl [] ⟨rfl, rfl⟩ (fun _ h => h)
theorem any_no {a b : List Int} {k : Nat} (h : ∀ i, i < k → onestep a b i = false) : (List.range k).any (onestep a b) = false := by
 rw [List.any_eq_false]; intro i hi; simp [h i (by simpa using hi)]
theorem any_yes {a b : List Int} {i k : Nat} (hi : i < k) (h : onestep a b i = true) : (List.range k).any (onestep a b) = true := by
 rw [List.any_eq_true]; exact ⟨i, by simpa using hi, h⟩
set_option maxHeartbeats 2000000 in
theorem rStep_ct (l m : List Int) (a b : Option Addr) (c d : Nat) (hl : l.length ≤ 4611686018427387903) (hm : m.length ≤ 4611686018427387903) : Pu Tryz.prog 79 [.slice a l.length c, .slice b m.length d] (Rd2 a b l m) (.bool (stepS l m)) := by
 refine ct_enter 41 Tryz.func79 rfl rfl rfl ?_
 intro F hr
 have hrd := hr.1
 have hrm := hr.2
 repeat refine x_ ?_
 refine a_ ?_
 repeat refine n_ ?_
 obtain ⟨q1, hq1⟩ : ∃ q, q = rightB l := ⟨_, rfl⟩
 obtain ⟨q2, hq2⟩ : ∃ q, q = rightB m := ⟨_, rfl⟩
 refine g_cutK [(0, .slice a l.length c), (1, .slice b m.length d), (13, .bool (!q1 || !q2))] [] ?_ ?_
 ·rcases (show q1 = false ∨ (q1 = true ∧ q2 = true) ∨ (q1 = true ∧ q2 = false) by cases q1 <;> cases q2 <;> simp) with rfl | ⟨rfl, rfl⟩ | ⟨rfl, rfl⟩
  all_goals (
   repeat refine x_ ?_
   refine m_ ?_
   refine gl_callp rfl (rRight_ct l a c (by omega)) (fun h hh _ => hrd.le hh) rfl ?_; rw [← hq1]
   refine f_ (s_not rfl) ?_
   refine m_ ?_
   (first | refine gl_guard_no rfl rfl rfl rfl rfl rfl rfl ?_ | (refine v_ ?_; refine m_ ?_))
   (first | refine gl_guard_no rfl rfl rfl rfl rfl rfl rfl ?_ | (refine v_ ?_; refine gl_callp rfl (rRight_ct m b d (by omega)) (fun h hh _ => hrm.le hh) rfl ?_; rw [← hq2]))
   (first | refine gl_guard_no rfl rfl rfl rfl rfl rfl rfl ?_ | (refine v_ ?_; refine f_ (s_not rfl) ?_))
   refine f_ z_6 ?_
   refine gl_nil ?_
   repeat refine y_ ?_)
  all_goals exact at_cut j_ i_
 ·repeat refine y_ ?_
  refine g_cond rfl (fun h => ?_) (fun h => ?_)
  ·have e : stepS l m = false := by rw [stepS, ← hq1, ← hq2]; cases q1 <;> cases q2 <;> simp_all
   rw [e]
   repeat refine x_ ?_
   refine a_ ?_
   repeat refine n_ ?_
   refine g_ret ?_
   exact at_end1 rfl rfl [] ⟨rfl, rfl⟩ (fun _ h => h)
  ·have hrl : rightB l = true := by rw [← hq1]; cases q1 <;> simp_all
   have hrr : rightB m = true := by rw [← hq2]; cases q1 <;> cases q2 <;> simp_all
   have e : stepS l m = (List.range 5).any (onestep l m) := by rw [stepS, hrl, hrr, step_eq hrl hrr]; rfl
   rw [e]
   clear h e hq1 hq2
   repeat refine x_ ?_
   refine a_ ?_
   repeat refine n_ ?_
   refine g_loop (ι := Nat) (fun k => k ≤ 5 ∧ ∀ i, i < k → onestep l m i = false) (fun k => [(0, .slice a l.length c), (1, .slice b m.length d), (5, .int .i64 ((k : Nat) + 1))]) (fun k => []) (fun k => 5 - k) 0 ⟨by omega, fun j hj => absurd hj (by omega)⟩ ?_ ?_ ?_
   ·(repeat (first | exact Sub.nil _ | refine Sub.cons rfl ?_))
   ·intro w hw; exact hw
   ·rintro k ⟨hk, hno⟩
    repeat refine x_ ?_
    refine m_ ?_
    refine f_ (s_leq rfl rfl) ?_
    repeat refine n_ ?_
    refine g_cond rfl (fun h => ?_) (fun h => ?_)
    ·have hk' : k < 5 := by simp at h; omega
     repeat refine y_ ?_
     refine g_cutK [(0, .slice a l.length c), (1, .slice b m.length d), (5, .int .i64 ((k : Nat) + 1)), (40, .bool (onestep l m k))] [] ?_ ?_
     ·obtain ⟨p1, hp1⟩ : ∃ q, q = inB l ((k : Int) + 1) := ⟨_, rfl⟩
      obtain ⟨p2, hp2⟩ : ∃ q, q = decide (withL l ((k : Int) + 1) = m) := ⟨_, rfl⟩
      obtain ⟨p3, hp3⟩ : ∃ q, q = decide (withoutL l ((k : Int) + 1) = m) := ⟨_, rfl⟩
      have e : onestep l m k = ((!p1 && p2) || (p1 && p3)) := by rw [onestep, hp1, hp2, hp3]
      rw [e]
      have hl5 := right_len hrl
      have hwl := pick_le (fun x => inB l x || decide (x = (k : Int) + 1)) 5
      have hwo := without_le l ((k : Int) + 1)
      cases p1 <;> cases p2 <;> cases p3
      all_goals (
       repeat refine x_ ?_
       refine m_ ?_
       refine m_ ?_
       refine gl_callp rfl (In_ct l _ a c (by omega)) (fun h hh _ => hrd.le hh) rfl ?_; rw [← hp1]
       refine f_ (s_not rfl) ?_
       refine m_ ?_
       (first | refine gl_guard_no rfl rfl rfl rfl rfl rfl rfl ?_ | (refine v_ ?_; refine m_ ?_))
       (first | refine gl_guard_no rfl rfl rfl rfl rfl rfl rfl ?_ | (refine v_ ?_; refine m_ ?_))
       (first | refine gl_guard_no rfl rfl rfl rfl rfl rfl rfl ?_ | (refine v_ ?_; refine gl_call [] rfl (With_ct l _ a c (by omega)) i_ (fun h hh _ => hrd.le hh) rfl ?_; rintro v A ⟨wa, wc, rfl, rfl⟩))
       (first | refine gl_guard_no rfl rfl rfl rfl rfl rfl rfl ?_ | (refine v_ ?_; refine m_ ?_))
       (first | refine gl_guard_no rfl rfl rfl rfl rfl rfl rfl ?_ | (refine v_ ?_; refine gl_callp rfl (Same_ct (withL l ((k : Int) + 1)) m wa b wc d (by show (pick _ 5).length ≤ _; omega)) (fun h hh ⟨bs, hb⟩ => ⟨Sat.rd hb z_2, hrm.le hh⟩) rfl ?_; rw [← hp2]))
       refine f_ z_6 ?_
       refine m_ ?_
       (first | refine gl_guard_no rfl rfl rfl rfl rfl rfl rfl ?_ | (refine v_ ?_; refine m_ ?_))
       (first | refine gl_guard_no rfl rfl rfl rfl rfl rfl rfl ?_ | (refine v_ ?_; refine m_ ?_))
       (first | refine gl_guard_no rfl rfl rfl rfl rfl rfl rfl ?_ | (refine v_ ?_; refine gl_callp rfl (In_ct l _ a c (by omega)) (fun h hh _ => hrd.le hh) rfl ?_; rw [← hp1]))
       (first | refine gl_guard_no rfl rfl rfl rfl rfl rfl rfl ?_ | (refine v_ ?_; refine m_ ?_))
       (first|refine u_ ?_|(refine v_ ?_; refine m_ ?_))
       (first|refine u_ ?_|(refine v_ ?_; refine m_ ?_))
       (first|refine u_ ?_|(refine v_ ?_; refine gl_call [] rfl (Without_ct l _ a c (by omega)) i_ (fun h hh _ => hrd.le hh) rfl ?_; rintro v A ⟨wa, wc, rfl, rfl⟩))
       (first|refine u_ ?_|(refine v_ ?_; refine m_ ?_))
       (first|refine u_ ?_|(refine v_ ?_; refine gl_callp rfl (Same_ct (withoutL l ((k : Int) + 1)) m wa b wc d (by omega)) (fun h hh ⟨bs, hb⟩ => ⟨Sat.rd hb z_2, hrm.le hh⟩) rfl ?_; rw [← hp3]))
       (first | refine gl_guard_no rfl rfl rfl rfl rfl rfl rfl ?_ | (refine v_ ?_; refine f_ z_6 ?_))
       refine f_ z_6 ?_
       refine gl_nil ?_
       repeat refine y_ ?_)
      all_goals exact at_cut j_ (fun w hw => hw.dropAll)
     ·repeat refine y_ ?_
      refine g_cond rfl (fun h2 => ?_) (fun h2 => ?_)
      ·rw [any_yes hk' h2]
       repeat refine x_ ?_
       refine a_ ?_
       repeat refine n_ ?_
       refine g_ret ?_
       exact at_end1 rfl rfl [] ⟨rfl, rfl⟩ (fun _ h => h)
      ·repeat refine y_ ?_
       repeat refine x_ ?_
       refine m_ ?_
       refine f_ (s_add_i64 rfl rfl (by omega)) ?_
       refine a_ ?_
       repeat refine n_ ?_
       refine at_next (k + 1) ⟨by omega, fun j hj => ?_⟩ (by omega) ?_ ?_
       ·rcases Nat.lt_succ_iff_lt_or_eq.1 hj with h4 | rfl
        ·exact hno j h4
        ·exact h2
       ·(repeat (first | exact Sub.nil _ | refine Sub.cons rfl ?_))
       ·intro w hw; exact hw
    ·have hkl : k = 5 := by simp at h; omega
     subst hkl
     rw [any_no hno]
     repeat refine x_ ?_
     refine a_ ?_
     repeat refine n_ ?_
     refine g_ret ?_
     exact at_end1 rfl rfl [] ⟨rfl, rfl⟩ (fun _ h => h)
end Go.Proofs.YtodcghipfolejaaGreat
