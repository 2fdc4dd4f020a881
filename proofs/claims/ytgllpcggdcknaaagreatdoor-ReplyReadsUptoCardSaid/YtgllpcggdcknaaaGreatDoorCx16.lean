import Derived.Test.YtgllpcggdcknaaaGreatDoorCx15
import Derived.Test.YtgllpcggdcknaaaGreatDoorCx13
import Derived.Test.YtgllpcggdcknaaaGreatDoorCx2
import Derived.Carry
import Derived.ChangeSame
import Derived.OpenShut
import Derived.SizedLaws
import Derived.JoinedCond
import Derived.JoinedOf
import Derived.Deep.CondSized
import Derived.ChangeMaps5
import Derived.SliceStrings
import Derived.Test.YtgllpcggdcknaaaGreatDoorRows
import Derived.Test.YtgllpcggdcknaaaGreatDoorCx5
import Derived.WalkKit
import Derived.ProofKit
import Derived.MakeChecks
import Derived.Lib.LaidTab
import Derived.Stop.LaidErr
import Derived.Deep.DeepLaidRun
import Derived.Deep.DeepHandedRow
import Derived.Deep.DeepWitnessRowRef
set_option linter.unusedVariables false
set_option linter.unusedSimpArgs false
namespace Go.Proofs.YtgllpcggdcknaaaGreatDoor.Rp
open Go Go.Sl Go.RowKit
set_option maxRecDepth 8000 in
theorem eqB_ct (l m : List Bs) (a b : Option Addr) (c d : Nat) (hl : l.length ≤ 1000000000000) : Pu Tryz.prog 37 [.slice a l.length c, .slice b m.length d] (fun h => RdS h a (fV l) ∧ RdS h b (fV m)) (.bool (decide (l = m))) := by
 refine ct_enter 26 Tryz.func37 rfl rfl rfl ?_
 intro F hr
 have hrd := hr.1
 have hrm := hr.2
 repeat refine x_ ?_
 refine a_ ?_
 repeat refine x_ ?_
 refine m_ ?_
 refine f_ (s_len_sl rfl) ?_
 refine m_ ?_
 refine f_ (s_len_sl rfl) ?_
 refine f_ (s_neq rfl rfl) ?_
 repeat refine n_ ?_
 refine g_cond rfl (fun h => ?_) (fun h => ?_)
 ·have hne : l ≠ m := by rintro rfl; simp at h
  rw [decide_eq_false hne]
  repeat refine x_ ?_
  refine a_ ?_
  repeat refine n_ ?_
  refine g_ret ?_
  exact at_end1 rfl rfl [] ⟨rfl, rfl⟩ (fun _ h => h)
 have hlen : l.length = m.length := by simp at h; omega
 repeat refine x_ ?_
 refine m_ ?_
 refine f_ (s_len_sl rfl) ?_
 refine m_ ?_
 repeat refine n_ ?_
 refine g_loop (ι := Nat) (fun k => k ≤ l.length ∧ ∀ i, i < k → l.getD i [] = m.getD i []) (fun k => [(0, .slice a l.length c), (1, .slice b m.length d), (12, .int .i64 (l.length : Nat)), (13, .int .i64 (k : Nat))]) (fun k => []) (fun k => l.length - k) 0 ⟨by omega, fun i h => by omega⟩ ?_ ?_ ?_
 ·(repeat (first | exact Sub.nil _ | refine Sub.cons rfl ?_))
 ·intro w hw; exact hw
 intro k hk
 obtain ⟨hk, hok⟩ := hk
 repeat refine x_ ?_
 refine f_ (s_lss rfl rfl) ?_
 repeat refine n_ ?_
 refine g_cond rfl (fun h => ?_) (fun h => ?_)
 ·have hk' : k < l.length := by simp at h; omega
  have hsome := rdB_some hrd hk'
  have hsome2 := rdB_some hrm (i := k) (by omega)
  repeat refine x_ ?_
  refine m_ ?_
  refine a_ ?_
  repeat refine n_ ?_
  refine g_draw0 ([3, 7], [0, 0, 3, 7, 0, 0, 48, 112, 255], []) 9 rfl ?_
  refine w_ 0 rfl (s_move rfl) ?_
  refine w_ 1 rfl (s_move rfl) ?_
  refine w_ 2 rfl (s_indexAddr rfl (by assumption) rfl (by omega)) ?_
  refine ga_readF 3 rfl (s_load1 rfl (fun w hw => rdB hw hrd (i := k) (by omega) (by omega))) z_10 rfl rfl rfl z_6 ?_
  refine w_ 4 rfl (s_move rfl) ?_
  refine w_ 5 rfl (s_move rfl) ?_
  refine w_ 6 rfl (s_indexAddr rfl (by assumption) rfl (by omega)) ?_
  refine ga_readF 7 rfl (s_load1 rfl (fun w hw => rdB hw hrm (i := k) (by omega) (by omega))) z_10 rfl rfl rfl z_6 ?_
  refine w_ 8 rfl (s_neq_str rfl rfl) ?_
  refine ga_done z_6 ?_
  repeat refine y_ ?_
  refine g_cond rfl (fun h2 => ?_) (fun h2 => ?_)
  ·have hne : l ≠ m := by rintro rfl; simp at h2
   rw [decide_eq_false hne]
   repeat refine x_ ?_
   refine a_ ?_
   repeat refine n_ ?_
   refine g_ret ?_
   exact at_end1 rfl rfl [] ⟨rfl, rfl⟩ (fun _ h => h)
  ·have h3 : l.getD k [] = m.getD k [] := by first | (simpa using h2) | (simp at h2 ⊢; omega)
   repeat refine x_ ?_
   refine f_ ((s_add_i64 rfl rfl (by omega)).eq (v' := .int .i64 ((k + 1 : Nat) : Int)) (by congr 1)) ?_
   refine m_ ?_
   repeat refine n_ ?_
   refine at_next (k + 1) ⟨by omega, fun i hi => ?_⟩ (by omega) ?_ ?_
   ·rcases Nat.lt_succ_iff_lt_or_eq.1 hi with h4 | rfl
    ·exact hok i h4
    ·exact h3
   ·(repeat (first | exact Sub.nil _ | refine Sub.cons rfl ?_))
   ·intro w hw; exact hw
 ·have hkl : k = l.length := by simp at h; omega
  have e : l = m := getB_ext hlen fun i hi => hok i (by omega)
  rw [decide_eq_true e]
  repeat refine x_ ?_
  refine a_ ?_
  repeat refine n_ ?_
  refine g_ret ?_
  exact at_end1 rfl rfl [] ⟨rfl, rfl⟩ (fun _ h => h)
set_option maxRecDepth 8000 in
theorem eqN_ct (l m : List Nat) (a b : Option Addr) (c d : Nat) (hl : l.length ≤ 1000000000000) : Pu Tryz.prog 38 [.slice a l.length c, .slice b m.length d] (fun h => RdS h a (nV l) ∧ RdS h b (nV m)) (.bool (decide (l = m))) := by
 refine ct_enter 26 Tryz.func38 rfl rfl rfl ?_
 intro F hr
 have hrd := hr.1
 have hrm := hr.2
 repeat refine x_ ?_
 refine a_ ?_
 repeat refine x_ ?_
 refine m_ ?_
 refine f_ (s_len_sl rfl) ?_
 refine m_ ?_
 refine f_ (s_len_sl rfl) ?_
 refine f_ (s_neq rfl rfl) ?_
 repeat refine n_ ?_
 refine g_cond rfl (fun h => ?_) (fun h => ?_)
 ·have hne : l ≠ m := by rintro rfl; simp at h
  rw [decide_eq_false hne]
  repeat refine x_ ?_
  refine a_ ?_
  repeat refine n_ ?_
  refine g_ret ?_
  exact at_end1 rfl rfl [] ⟨rfl, rfl⟩ (fun _ h => h)
 have hlen : l.length = m.length := by simp at h; omega
 repeat refine x_ ?_
 refine m_ ?_
 refine f_ (s_len_sl rfl) ?_
 refine m_ ?_
 repeat refine n_ ?_
 refine g_loop (ι := Nat) (fun k => k ≤ l.length ∧ ∀ i, i < k → l.getD i 0 = m.getD i 0) (fun k => [(0, .slice a l.length c), (1, .slice b m.length d), (12, .int .i64 (l.length : Nat)), (13, .int .i64 (k : Nat))]) (fun k => []) (fun k => l.length - k) 0 ⟨by omega, fun i h => by omega⟩ ?_ ?_ ?_
 ·(repeat (first | exact Sub.nil _ | refine Sub.cons rfl ?_))
 ·intro w hw; exact hw
 intro k hk
 obtain ⟨hk, hok⟩ := hk
 repeat refine x_ ?_
 refine f_ (s_lss rfl rfl) ?_
 repeat refine n_ ?_
 refine g_cond rfl (fun h => ?_) (fun h => ?_)
 ·have hk' : k < l.length := by simp at h; omega
  have hsome := rdN_some hrd hk'
  have hsome2 := rdN_some hrm (i := k) (by omega)
  repeat refine x_ ?_
  refine m_ ?_
  refine a_ ?_
  repeat refine n_ ?_
  refine g_draw0 ([3, 7], [0, 0, 3, 7, 0, 0, 48, 112, 255], []) 9 rfl ?_
  refine w_ 0 rfl (s_move rfl) ?_
  refine w_ 1 rfl (s_move rfl) ?_
  refine w_ 2 rfl (s_indexAddr rfl (by assumption) rfl (by omega)) ?_
  refine ga_readF 3 rfl (s_load1 rfl (fun w hw => rdN hw hrd (i := k) (by omega) (by omega))) z_10 rfl rfl rfl z_6 ?_
  refine w_ 4 rfl (s_move rfl) ?_
  refine w_ 5 rfl (s_move rfl) ?_
  refine w_ 6 rfl (s_indexAddr rfl (by assumption) rfl (by omega)) ?_
  refine ga_readF 7 rfl (s_load1 rfl (fun w hw => rdN hw hrm (i := k) (by omega) (by omega))) z_10 rfl rfl rfl z_6 ?_
  refine w_ 8 rfl (s_neq rfl rfl) ?_
  refine ga_done z_6 ?_
  repeat refine y_ ?_
  refine g_cond rfl (fun h2 => ?_) (fun h2 => ?_)
  ·have hne : l ≠ m := by rintro rfl; simp at h2
   rw [decide_eq_false hne]
   repeat refine x_ ?_
   refine a_ ?_
   repeat refine n_ ?_
   refine g_ret ?_
   exact at_end1 rfl rfl [] ⟨rfl, rfl⟩ (fun _ h => h)
  ·have h3 : l.getD k 0 = m.getD k 0 := by first | (simpa using h2) | (simp at h2 ⊢; omega)
   repeat refine x_ ?_
   refine f_ ((s_add_i64 rfl rfl (by omega)).eq (v' := .int .i64 ((k + 1 : Nat) : Int)) (by congr 1)) ?_
   refine m_ ?_
   repeat refine n_ ?_
   refine at_next (k + 1) ⟨by omega, fun i hi => ?_⟩ (by omega) ?_ ?_
   ·rcases Nat.lt_succ_iff_lt_or_eq.1 hi with h4 | rfl
    ·exact hok i h4
    ·exact h3
   ·(repeat (first | exact Sub.nil _ | refine Sub.cons rfl ?_))
   ·intro w hw; exact hw
 ·have hkl : k = l.length := by simp at h; omega
  have e : l = m := getN_ext hlen fun i hi => hok i (by omega)
  rw [decide_eq_true e]
  repeat refine x_ ?_
  refine a_ ?_
  repeat refine n_ ?_
  refine g_ret ?_
  exact at_end1 rfl rfl [] ⟨rfl, rfl⟩ (fun _ h => h)
theorem scb6 (q1 q2 q3 q4 q5 q6 : Bool) : (q1 = false) ∨ (q1 = true ∧ q2 = false) ∨ (q1 = true ∧ q2 = true ∧ q3 = false) ∨ (q1 = true ∧ q2 = true ∧ q3 = true ∧ q4 = false) ∨ (q1 = true ∧ q2 = true ∧ q3 = true ∧ q4 = true ∧ q5 = false) ∨ (q1 = true ∧ q2 = true ∧ q3 = true ∧ q4 = true ∧ q5 = true ∧ q6 = false) ∨ (q1 = true ∧ q2 = true ∧ q3 = true ∧ q4 = true ∧ q5 = true ∧ q6 = true) := by
 cases q1 with
 | false => simp
 | true =>
 cases q2 with
 | false => simp
 | true =>
 cases q3 with
 | false => simp
 | true =>
 cases q4 with
 | false => simp
 | true =>
 cases q5 with
 | false => simp
 | true =>
 cases q6 with
 | false => simp
 | true =>
 simp
theorem scb10 (q1 q2 q3 q4 q5 q6 q7 q8 q9 q10 : Bool) : (q1 = false) ∨ (q1 = true ∧ q2 = false) ∨ (q1 = true ∧ q2 = true ∧ q3 = false) ∨ (q1 = true ∧ q2 = true ∧ q3 = true ∧ q4 = false) ∨ (q1 = true ∧ q2 = true ∧ q3 = true ∧ q4 = true ∧ q5 = false) ∨ (q1 = true ∧ q2 = true ∧ q3 = true ∧ q4 = true ∧ q5 = true ∧ q6 = false) ∨ (q1 = true ∧ q2 = true ∧ q3 = true ∧ q4 = true ∧ q5 = true ∧ q6 = true ∧ q7 = false) ∨ (q1 = true ∧ q2 = true ∧ q3 = true ∧ q4 = true ∧ q5 = true ∧ q6 = true ∧ q7 = true ∧ q8 = false) ∨ (q1 = true ∧ q2 = true ∧ q3 = true ∧ q4 = true ∧ q5 = true ∧ q6 = true ∧ q7 = true ∧ q8 = true ∧ q9 = false) ∨ (q1 = true ∧ q2 = true ∧ q3 = true ∧ q4 = true ∧ q5 = true ∧ q6 = true ∧ q7 = true ∧ q8 = true ∧ q9 = true ∧ q10 = false) ∨ (q1 = true ∧ q2 = true ∧ q3 = true ∧ q4 = true ∧ q5 = true ∧ q6 = true ∧ q7 = true ∧ q8 = true ∧ q9 = true ∧ q10 = true) := by
 cases q1 with
 | false => simp
 | true =>
 cases q2 with
 | false => simp
 | true =>
 cases q3 with
 | false => simp
 | true =>
 cases q4 with
 | false => simp
 | true =>
 cases q5 with
 | false => simp
 | true =>
 cases q6 with
 | false => simp
 | true =>
 cases q7 with
 | false => simp
 | true =>
 cases q8 with
 | false => simp
 | true =>
 cases q9 with
 | false => simp
 | true =>
 cases q10 with
 | false => simp
 | true =>
 simp
set_option maxRecDepth 8000 in
theorem same1_ct (u v : VM) (hl : u.v.flags.length ≤ 1000000000000) : Pu Tryz.prog 36 [vmA u, vmA v] (fun h => RdS h u.a (fV u.v.flags) ∧ RdS h v.a (fV v.v.flags)) (.bool (decide (u.v = v.v))) := by
 obtain ⟨p1, hp1⟩ : ∃ q, q = decide (u.v.kind = v.v.kind) := ⟨_, rfl⟩
 obtain ⟨p2, hp2⟩ : ∃ q, q = decide ((u.v.n : Int) = v.v.n) := ⟨_, rfl⟩
 obtain ⟨p3, hp3⟩ : ∃ q, q = decide (u.v.flags = v.v.flags) := ⟨_, rfl⟩
 obtain ⟨p4, hp4⟩ : ∃ q, q = decide (u.v.text = v.v.text) := ⟨_, rfl⟩
 obtain ⟨p5, hp5⟩ : ∃ q, q = (u.v.part == v.v.part) := ⟨_, rfl⟩
 obtain ⟨p6, hp6⟩ : ∃ q, q = decide ((u.v.fr : Int) = v.v.fr) := ⟨_, rfl⟩
 have e : decide (u.v = v.v) = (p1 && p2 && p3 && p4 && p5 && p6) := by
  rw [hp1, hp2, hp3, hp4, hp5, hp6, Bool.eq_iff_iff]
  simp only [Bool.and_eq_true, decide_eq_true_eq, beq_iff_eq]
  constructor
  ·intro e; rw [e]; simp
  ·rintro ⟨⟨⟨⟨⟨a, b⟩, c⟩, d⟩, e⟩, f⟩; exact RV.ext' a (by omega) c d e (by omega)
 rw [e]
 clear e
 refine ct_enter 45 Tryz.func36 rfl rfl rfl ?_
 intro F hr
 have hra := hr.1
 have hrb := hr.2
 repeat refine x_ ?_
 refine gl_boxA rfl rfl ?_; intro g2
 refine gl_boxA rfl rfl ?_; intro g3
 refine a_ ?_
 repeat refine n_ ?_
 rcases scb6 p1 p2 p3 p4 p5 p6 with rfl | ⟨rfl, rfl⟩ | ⟨rfl, rfl, rfl⟩ | ⟨rfl, rfl, rfl, rfl⟩ | ⟨rfl, rfl, rfl, rfl, rfl⟩ | ⟨rfl, rfl, rfl, rfl, rfl, rfl⟩ | ⟨rfl, rfl, rfl, rfl, rfl, rfl⟩
 all_goals (
  repeat refine x_ ?_
  refine f_ z_1 ?_
  refine r_ (by exact s_load_blk rfl z_3 a6_0) ?_
  refine f_ z_1 ?_
  refine r_ (by exact s_load_blk rfl z_3 a6_0) ?_
  refine f_ ((s_eql rfl rfl).eb hp1) ?_
  refine m_ ?_
  (first | refine gl_guard_no rfl rfl rfl rfl rfl rfl rfl ?_ | (refine v_ ?_; refine f_ z_1 ?_))
  (first | refine gl_guard_no rfl rfl rfl rfl rfl rfl rfl ?_ | (refine v_ ?_; refine r_ (by exact s_load_blk rfl z_3 a6_1) ?_))
  (first | refine gl_guard_no rfl rfl rfl rfl rfl rfl rfl ?_ | (refine v_ ?_; refine f_ z_1 ?_))
  (first | refine gl_guard_no rfl rfl rfl rfl rfl rfl rfl ?_ | (refine v_ ?_; refine r_ (by exact s_load_blk rfl z_3 a6_1) ?_))
  (first | refine gl_guard_no rfl rfl rfl rfl rfl rfl rfl ?_ | (refine v_ ?_; refine f_ ((s_eql rfl rfl).eb hp2) ?_))
  refine f_ z_4 ?_
  refine m_ ?_
  (first | refine gl_guard_no rfl rfl rfl rfl rfl rfl rfl ?_ | (refine v_ ?_; refine f_ z_1 ?_))
  (first | refine gl_guard_no rfl rfl rfl rfl rfl rfl rfl ?_ | (refine v_ ?_; refine r_ (by exact s_load_blk rfl z_3 a6_2) ?_))
  (first | refine gl_guard_no rfl rfl rfl rfl rfl rfl rfl ?_ | (refine v_ ?_; refine f_ z_1 ?_))
  (first | refine gl_guard_no rfl rfl rfl rfl rfl rfl rfl ?_ | (refine v_ ?_; refine r_ (by exact s_load_blk rfl z_3 a6_2) ?_))
  (first | refine gl_guard_no rfl rfl rfl rfl rfl rfl rfl ?_ | (refine v_ ?_; refine gl_callp rfl (eqB_ct u.v.flags v.v.flags u.a v.a u.c v.c hl) (fun h hh hb => ⟨hra.le hh, hrb.le hh⟩) rfl ?_; rw [← hp3]))
  refine f_ z_4 ?_
  refine m_ ?_
  (first | refine gl_guard_no rfl rfl rfl rfl rfl rfl rfl ?_ | (refine v_ ?_; refine f_ z_1 ?_))
  (first | refine gl_guard_no rfl rfl rfl rfl rfl rfl rfl ?_ | (refine v_ ?_; refine r_ (by exact s_load_blk rfl z_3 a6_3) ?_))
  (first | refine gl_guard_no rfl rfl rfl rfl rfl rfl rfl ?_ | (refine v_ ?_; refine f_ z_1 ?_))
  (first | refine gl_guard_no rfl rfl rfl rfl rfl rfl rfl ?_ | (refine v_ ?_; refine r_ (by exact s_load_blk rfl z_3 a6_3) ?_))
  (first | refine gl_guard_no rfl rfl rfl rfl rfl rfl rfl ?_ | (refine v_ ?_; refine f_ ((s_eql_str rfl rfl).eb hp4) ?_))
  refine f_ z_4 ?_
  refine m_ ?_
  (first | refine gl_guard_no rfl rfl rfl rfl rfl rfl rfl ?_ | (refine v_ ?_; refine f_ z_1 ?_))
  (first | refine gl_guard_no rfl rfl rfl rfl rfl rfl rfl ?_ | (refine v_ ?_; refine r_ (by exact s_load_blk rfl z_3 a6_4) ?_))
  (first | refine gl_guard_no rfl rfl rfl rfl rfl rfl rfl ?_ | (refine v_ ?_; refine f_ z_1 ?_))
  (first | refine gl_guard_no rfl rfl rfl rfl rfl rfl rfl ?_ | (refine v_ ?_; refine r_ (by exact s_load_blk rfl z_3 a6_4) ?_))
  (first | refine gl_guard_no rfl rfl rfl rfl rfl rfl rfl ?_ | (refine v_ ?_; refine f_ ((s_eql_bool rfl rfl).eb hp5) ?_))
  refine f_ z_4 ?_
  refine m_ ?_
  (first | refine gl_guard_no rfl rfl rfl rfl rfl rfl rfl ?_ | (refine v_ ?_; refine f_ z_1 ?_))
  (first | refine gl_guard_no rfl rfl rfl rfl rfl rfl rfl ?_ | (refine v_ ?_; refine r_ (by exact s_load_blk rfl z_3 a6_5) ?_))
  (first | refine gl_guard_no rfl rfl rfl rfl rfl rfl rfl ?_ | (refine v_ ?_; refine f_ z_1 ?_))
  (first | refine gl_guard_no rfl rfl rfl rfl rfl rfl rfl ?_ | (refine v_ ?_; refine r_ (by exact s_load_blk rfl z_3 a6_5) ?_))
  (first | refine gl_guard_no rfl rfl rfl rfl rfl rfl rfl ?_ | (refine v_ ?_; refine f_ ((s_eql rfl rfl).eb hp6) ?_))
  refine f_ z_4 ?_
  refine a_ ?_
  refine gl_nil ?_
  repeat refine y_ ?_)
 all_goals (refine g_ret ?_; exact at_end1 rfl rfl [] ⟨rfl, rfl⟩ (fun w hw => hw.dropAll))
set_option maxRecDepth 8000 in
theorem eqV_ct (l m : List VM) (a b : Option Addr) (c d : Nat) (hl : l.length ≤ 1000000000000) (hz : ∀ u ∈ l, u.v.flags.length ≤ 1000000000000) : Pu Tryz.prog 39 [.slice a l.length c, .slice b m.length d, .func (.func 36) #[] #[]] (fun h => (RdS h a (vmV l) ∧ ∀ u ∈ l, RdS h u.a (fV u.v.flags)) ∧ (RdS h b (vmV m) ∧ ∀ u ∈ m, RdS h u.a (fV u.v.flags))) (.bool (decide (l.map VM.v = m.map VM.v))) := by
 refine ct_enter 32 Tryz.func39 rfl rfl rfl ?_
 intro F hr
 have hra := hr.1.1
 have hrb := hr.2.1
 repeat refine x_ ?_
 refine a_ ?_
 repeat refine x_ ?_
 refine m_ ?_
 refine f_ (s_len_sl rfl) ?_
 refine m_ ?_
 refine f_ (s_len_sl rfl) ?_
 refine f_ (s_neq rfl rfl) ?_
 repeat refine n_ ?_
 refine g_cond rfl (fun h => ?_) (fun h => ?_)
 ·have hne : l.map VM.v ≠ m.map VM.v := by
   intro e
   have := congrArg List.length e
   rw [List.length_map, List.length_map] at this
   rw [this] at h
   simp at h
  rw [decide_eq_false hne]
  repeat refine x_ ?_
  refine a_ ?_
  repeat refine n_ ?_
  refine g_ret ?_
  exact at_end1 rfl rfl [] ⟨rfl, rfl⟩ (fun _ h => h)
 have hlen : l.length = m.length := by simp at h; omega
 repeat refine x_ ?_
 refine m_ ?_
 refine f_ (s_len_sl rfl) ?_
 refine m_ ?_
 repeat refine n_ ?_
 refine g_loop (ι := Nat) (fun k => k ≤ l.length ∧ ∀ i, i < k → (l.getD i VM0).v = (m.getD i VM0).v) (fun k => [(0, .slice a l.length c), (1, .slice b m.length d), (2, .func (.func 36) #[] #[]), (15, .slice a l.length c), (16, .int .i64 (l.length : Nat)), (17, .int .i64 (k : Nat))]) (fun _ => []) (fun k => l.length - k) 0 ⟨by omega, fun i h => by omega⟩ ?_ ?_ ?_
 ·(repeat (first | exact Sub.nil _ | refine Sub.cons rfl ?_))
 ·intro w hw; exact hw
 rintro k ⟨hk, hok⟩
 repeat refine x_ ?_
 refine f_ (s_lss rfl rfl) ?_
 repeat refine n_ ?_
 refine g_cond rfl (fun h => ?_) (fun h => ?_)
 ·have hk' : k < l.length := by simp at h; omega
  have hk2 : k < m.length := by omega
  have hs1 := rdVM_some hra hk'
  have hs2 := rdVM_some hrb hk2
  obtain ⟨u, hue⟩ : ∃ u, u = l.getD k VM0 := ⟨_, rfl⟩
  obtain ⟨v, hve⟩ : ∃ u, u = m.getD k VM0 := ⟨_, rfl⟩
  have hum : u ∈ l := by rw [hue]; exact getVM_mem hk'
  have hvm : v ∈ m := by rw [hve]; exact getVM_mem hk2
  have hru := hr.1.2 u hum
  have hrv := hr.2.2 v hvm
  repeat refine x_ ?_
  refine m_ ?_
  refine f_ (s_indexAddr rfl (by assumption) rfl (by omega)) ?_
  refine r_ (s_loadN (cs := vmC u) rfl (fun w hw => by rw [hue]; exact rdVM hw hra (i := k) (by omega) hk') rfl) ?_
  refine gl_allocA rfl ?_; intro g8
  refine a_ ?_
  (refine gl_store_blkW rfl rfl z_5 z_8 z_8 z_2 ?_)
  repeat refine x_ ?_
  refine m_ ?_
  refine m_ ?_
  refine f_ (s_indexAddr rfl (by assumption) rfl (by omega)) ?_
  refine r_ (s_loadN (cs := vmC v) rfl (fun w hw => by rw [hve]; exact rdVM hw hrb (i := k) (by omega) hk2) rfl) ?_
  refine gl_allocA rfl ?_; intro g9
  (refine gl_store_blkW rfl rfl z_5 z_8 z_8 z_2 ?_)
  repeat refine x_ ?_
  refine m_ ?_
  refine r_ ((s_load_blkW rfl z_3 z_8).eq (v' := vmA u) rfl) ?_
  refine r_ ((s_load_blkW rfl z_3 z_8).eq (v' := vmA v) rfl) ?_
  refine gl_callv _ rfl rfl (ps := []) (qs := []) rfl (same1_ct u v (hz u hum)) i_ (fun h hh hb => ⟨hru.le hh, hrv.le hh⟩) rfl ?_; rintro v A ⟨rfl, rfl⟩
  refine f_ (s_not rfl) ?_
  repeat refine n_ ?_
  refine g_cond rfl (fun h2 => ?_) (fun h2 => ?_)
  ·have huv : u.v ≠ v.v := by simpa using h2
   have hne : l.map VM.v ≠ m.map VM.v := by
    intro e
    refine huv ?_
    have h3 : (l.map VM.v)[k]? = (m.map VM.v)[k]? := by rw [e]
    rw [List.getElem?_map, List.getElem?_map, List.getElem?_eq_getElem hk', List.getElem?_eq_getElem hk2] at h3
    rw [hue, hve, List.getD_eq_getElem?_getD, List.getD_eq_getElem?_getD, List.getElem?_eq_getElem hk', List.getElem?_eq_getElem hk2]
    simpa using h3
   rw [decide_eq_false hne]
   repeat refine x_ ?_
   refine a_ ?_
   repeat refine n_ ?_
   refine g_ret ?_
   exact at_end1 rfl rfl [] ⟨rfl, rfl⟩ (fun _ h => h.dropAll)
  ·have h3 : u.v = v.v := by simpa using h2
   repeat refine x_ ?_
   refine f_ ((s_add_i64 rfl rfl (by omega)).eq (v' := .int .i64 ((k + 1 : Nat) : Int)) (by congr 1)) ?_
   refine m_ ?_
   repeat refine n_ ?_
   refine at_next (k + 1) ⟨by omega, fun i hi => ?_⟩ (by omega) ?_ ?_
   ·rcases Nat.lt_succ_iff_lt_or_eq.1 hi with h4 | rfl
    ·exact hok i h4
    ·rw [← hue, ← hve]; exact h3
   ·(repeat (first | exact Sub.nil _ | refine Sub.cons rfl ?_))
   ·intro w hw; exact hw.dropAll
 have hkl : k = l.length := by simp at h; omega
 subst hkl
 rw [decide_eq_true (getVM_ext hlen hok)]
 repeat refine x_ ?_
 refine a_ ?_
 repeat refine n_ ?_
 refine g_ret ?_
 exact at_end1 rfl rfl [] ⟨rfl, rfl⟩ (fun _ h => h)
set_option maxRecDepth 8000 in
set_option maxHeartbeats 1000000 in
theorem same_ct (r s : RR) (x y : RL) (hz : SzC r) (hv : r.values = x.vs.map VM.v) (hv2 : s.values = y.vs.map VM.v) : Pu Tryz.prog 16 [rrA r x, rrA s y] (fun h => RRd r x h ∧ RRd s y h) (.bool (decide (r = s))) := by
 have hzn := hz.nl
 have hzf := hz.fl
 have hzl := hz.vl
 have hzv := hz.vs
 unfold big at hzn hzf hzl hzv
 obtain ⟨q1, hq1⟩ : ∃ q, q = decide (r.kind = s.kind) := ⟨_, rfl⟩
 obtain ⟨q2, hq2⟩ : ∃ q, q = decide (r.tag = s.tag) := ⟨_, rfl⟩
 obtain ⟨q3, hq3⟩ : ∃ q, q = decide (r.code = s.code) := ⟨_, rfl⟩
 obtain ⟨q4, hq4⟩ : ∃ q, q = decide (r.text = s.text) := ⟨_, rfl⟩
 obtain ⟨q5, hq5⟩ : ∃ q, q = decide ((r.n : Int) = s.n) := ⟨_, rfl⟩
 obtain ⟨q6, hq6⟩ : ∃ q, q = decide (r.nums = s.nums) := ⟨_, rfl⟩
 obtain ⟨q7, hq7⟩ : ∃ q, q = decide (r.flags = s.flags) := ⟨_, rfl⟩
 obtain ⟨q8, hq8⟩ : ∃ q, q = decide (r.box = s.box) := ⟨_, rfl⟩
 obtain ⟨q9, hq9⟩ : ∃ q, q = decide (x.vs.map VM.v = y.vs.map VM.v) := ⟨_, rfl⟩
 obtain ⟨q10, hq10⟩ : ∃ q, q = decide ((r.mod : Int) = s.mod) := ⟨_, rfl⟩
 have e : decide (r = s) = (q1 && q2 && q3 && q4 && q5 && q6 && q7 && q8 && q9 && q10) := by
  rw [hq1, hq2, hq3, hq4, hq5, hq6, hq7, hq8, hq9, hq10, ← hv, ← hv2, Bool.eq_iff_iff]
  simp only [Bool.and_eq_true, decide_eq_true_eq]
  constructor
  ·intro e; rw [e]; simp
  ·rintro ⟨⟨⟨⟨⟨⟨⟨⟨⟨a, b⟩, c⟩, d⟩, e⟩, f⟩, g⟩, i⟩, j⟩, k⟩; exact RR.ext' a b c d (by omega) f (by omega) g i j
 rw [e]
 clear e
 have hxl : x.vs.length ≤ 1000000000000 := by have := congrArg List.length hv; rw [List.length_map] at this; omega
 have hxz : ∀ u ∈ x.vs, u.v.flags.length ≤ 1000000000000 := fun u hu => hzv _ (by rw [hv]; exact List.mem_map.mpr ⟨u, hu, rfl⟩)
 refine ct_enter 75 Tryz.func16 rfl rfl rfl ?_
 intro F hr
 have hra := hr.1
 have hrb := hr.2
 repeat refine x_ ?_
 refine gl_boxA rfl rfl ?_; intro g2
 refine gl_boxA rfl rfl ?_; intro g3
 refine a_ ?_
 repeat refine x_ ?_
 refine a_ ?_
 repeat refine n_ ?_
 rcases scb10 q1 q2 q3 q4 q5 q6 q7 q8 q9 q10 with rfl | ⟨rfl, rfl⟩ | ⟨rfl, rfl, rfl⟩ | ⟨rfl, rfl, rfl, rfl⟩ | ⟨rfl, rfl, rfl, rfl, rfl⟩ | ⟨rfl, rfl, rfl, rfl, rfl, rfl⟩ | ⟨rfl, rfl, rfl, rfl, rfl, rfl, rfl⟩ | ⟨rfl, rfl, rfl, rfl, rfl, rfl, rfl, rfl⟩ | ⟨rfl, rfl, rfl, rfl, rfl, rfl, rfl, rfl, rfl⟩ | ⟨rfl, rfl, rfl, rfl, rfl, rfl, rfl, rfl, rfl, rfl⟩ | ⟨rfl, rfl, rfl, rfl, rfl, rfl, rfl, rfl, rfl, rfl⟩
 all_goals (
  repeat refine x_ ?_
  refine f_ z_1 ?_
  refine r_ (by exact s_load_blk rfl z_3 a10_0) ?_
  refine f_ z_1 ?_
  refine r_ (by exact s_load_blk rfl z_3 a10_0) ?_
  refine f_ ((s_eql rfl rfl).eb hq1) ?_
  refine m_ ?_
  (first | refine gl_guard_no rfl rfl rfl rfl rfl rfl rfl ?_ | (refine v_ ?_; refine f_ z_1 ?_))
  (first | refine gl_guard_no rfl rfl rfl rfl rfl rfl rfl ?_ | (refine v_ ?_; refine r_ (by exact s_load_blk rfl z_3 a10_1) ?_))
  (first | refine gl_guard_no rfl rfl rfl rfl rfl rfl rfl ?_ | (refine v_ ?_; refine f_ z_1 ?_))
  (first | refine gl_guard_no rfl rfl rfl rfl rfl rfl rfl ?_ | (refine v_ ?_; refine r_ (by exact s_load_blk rfl z_3 a10_1) ?_))
  (first | refine gl_guard_no rfl rfl rfl rfl rfl rfl rfl ?_ | (refine v_ ?_; refine f_ ((s_eql_str rfl rfl).eb hq2) ?_))
  refine f_ z_4 ?_
  refine m_ ?_
  (first | refine gl_guard_no rfl rfl rfl rfl rfl rfl rfl ?_ | (refine v_ ?_; refine f_ z_1 ?_))
  (first | refine gl_guard_no rfl rfl rfl rfl rfl rfl rfl ?_ | (refine v_ ?_; refine r_ (by exact s_load_blk rfl z_3 a10_2) ?_))
  (first | refine gl_guard_no rfl rfl rfl rfl rfl rfl rfl ?_ | (refine v_ ?_; refine f_ z_1 ?_))
  (first | refine gl_guard_no rfl rfl rfl rfl rfl rfl rfl ?_ | (refine v_ ?_; refine r_ (by exact s_load_blk rfl z_3 a10_2) ?_))
  (first | refine gl_guard_no rfl rfl rfl rfl rfl rfl rfl ?_ | (refine v_ ?_; refine f_ ((s_eql_str rfl rfl).eb hq3) ?_))
  refine f_ z_4 ?_
  refine m_ ?_
  (first | refine gl_guard_no rfl rfl rfl rfl rfl rfl rfl ?_ | (refine v_ ?_; refine f_ z_1 ?_))
  (first | refine gl_guard_no rfl rfl rfl rfl rfl rfl rfl ?_ | (refine v_ ?_; refine r_ (by exact s_load_blk rfl z_3 a10_3) ?_))
  (first | refine gl_guard_no rfl rfl rfl rfl rfl rfl rfl ?_ | (refine v_ ?_; refine f_ z_1 ?_))
  (first | refine gl_guard_no rfl rfl rfl rfl rfl rfl rfl ?_ | (refine v_ ?_; refine r_ (by exact s_load_blk rfl z_3 a10_3) ?_))
  (first | refine gl_guard_no rfl rfl rfl rfl rfl rfl rfl ?_ | (refine v_ ?_; refine f_ ((s_eql_str rfl rfl).eb hq4) ?_))
  refine f_ z_4 ?_
  refine m_ ?_
  (first | refine gl_guard_no rfl rfl rfl rfl rfl rfl rfl ?_ | (refine v_ ?_; refine f_ z_1 ?_))
  (first | refine gl_guard_no rfl rfl rfl rfl rfl rfl rfl ?_ | (refine v_ ?_; refine r_ (by exact s_load_blk rfl z_3 a10_4) ?_))
  (first | refine gl_guard_no rfl rfl rfl rfl rfl rfl rfl ?_ | (refine v_ ?_; refine f_ z_1 ?_))
  (first | refine gl_guard_no rfl rfl rfl rfl rfl rfl rfl ?_ | (refine v_ ?_; refine r_ (by exact s_load_blk rfl z_3 a10_4) ?_))
  (first | refine gl_guard_no rfl rfl rfl rfl rfl rfl rfl ?_ | (refine v_ ?_; refine f_ ((s_eql rfl rfl).eb hq5) ?_))
  refine f_ z_4 ?_
  refine m_ ?_
  (first | refine gl_guard_no rfl rfl rfl rfl rfl rfl rfl ?_ | (refine v_ ?_; refine f_ z_1 ?_))
  (first | refine gl_guard_no rfl rfl rfl rfl rfl rfl rfl ?_ | (refine v_ ?_; refine r_ (by exact s_load_blk rfl z_3 a10_5) ?_))
  (first | refine gl_guard_no rfl rfl rfl rfl rfl rfl rfl ?_ | (refine v_ ?_; refine f_ z_1 ?_))
  (first | refine gl_guard_no rfl rfl rfl rfl rfl rfl rfl ?_ | (refine v_ ?_; refine r_ (by exact s_load_blk rfl z_3 a10_5) ?_))
  (first | refine gl_guard_no rfl rfl rfl rfl rfl rfl rfl ?_ | (refine v_ ?_; refine gl_callp rfl (eqN_ct r.nums s.nums x.na y.na x.nc y.nc hzn) (fun h hh hb => ⟨hra.nums.le hh, hrb.nums.le hh⟩) rfl ?_; rw [← hq6]))
  refine f_ z_4 ?_
  refine m_ ?_
  (first | refine gl_guard_no rfl rfl rfl rfl rfl rfl rfl ?_ | (refine v_ ?_; refine f_ z_1 ?_))
  (first | refine gl_guard_no rfl rfl rfl rfl rfl rfl rfl ?_ | (refine v_ ?_; refine r_ (by exact s_load_blk rfl z_3 a10_7) ?_))
  (first | refine gl_guard_no rfl rfl rfl rfl rfl rfl rfl ?_ | (refine v_ ?_; refine f_ z_1 ?_))
  (first | refine gl_guard_no rfl rfl rfl rfl rfl rfl rfl ?_ | (refine v_ ?_; refine r_ (by exact s_load_blk rfl z_3 a10_7) ?_))
  (first | refine gl_guard_no rfl rfl rfl rfl rfl rfl rfl ?_ | (refine v_ ?_; refine gl_callp rfl (eqB_ct r.flags s.flags x.fa y.fa x.fc y.fc hzf) (fun h hh hb => ⟨hra.flags.le hh, hrb.flags.le hh⟩) rfl ?_; rw [← hq7]))
  refine f_ z_4 ?_
  refine m_ ?_
  (first | refine gl_guard_no rfl rfl rfl rfl rfl rfl rfl ?_ | (refine v_ ?_; refine f_ z_1 ?_))
  (first | refine gl_guard_no rfl rfl rfl rfl rfl rfl rfl ?_ | (refine v_ ?_; refine r_ (by exact s_load_blk rfl z_3 a10_8) ?_))
  (first | refine gl_guard_no rfl rfl rfl rfl rfl rfl rfl ?_ | (refine v_ ?_; refine f_ z_1 ?_))
  (first | refine gl_guard_no rfl rfl rfl rfl rfl rfl rfl ?_ | (refine v_ ?_; refine r_ (by exact s_load_blk rfl z_3 a10_8) ?_))
  (first | refine gl_guard_no rfl rfl rfl rfl rfl rfl rfl ?_ | (refine v_ ?_; refine f_ ((s_eql_str rfl rfl).eb hq8) ?_))
  refine f_ z_4 ?_
  refine m_ ?_
  (first | refine gl_guard_no rfl rfl rfl rfl rfl rfl rfl ?_ | (refine v_ ?_; refine f_ z_1 ?_))
  (first | refine gl_guard_no rfl rfl rfl rfl rfl rfl rfl ?_ | (refine v_ ?_; refine r_ (by exact s_load_blk rfl z_3 a10_9) ?_))
  (first | refine gl_guard_no rfl rfl rfl rfl rfl rfl rfl ?_ | (refine v_ ?_; refine f_ z_1 ?_))
  (first | refine gl_guard_no rfl rfl rfl rfl rfl rfl rfl ?_ | (refine v_ ?_; refine r_ (by exact s_load_blk rfl z_3 a10_9) ?_))
  (first | refine gl_guard_no rfl rfl rfl rfl rfl rfl rfl ?_ | (refine v_ ?_; refine m_ ?_))
  (first | refine gl_guard_no rfl rfl rfl rfl rfl rfl rfl ?_ | (refine v_ ?_; refine gl_callp rfl (eqV_ct x.vs y.vs x.va y.va x.vc y.vc hxl hxz) (fun h hh hb => ⟨⟨hra.vs.le hh, fun m hm => (hra.fs m hm).le hh⟩, ⟨hrb.vs.le hh, fun m hm => (hrb.fs m hm).le hh⟩⟩) rfl ?_; rw [← hq9]))
  refine f_ z_4 ?_
  refine m_ ?_
  (first | refine gl_guard_no rfl rfl rfl rfl rfl rfl rfl ?_ | (refine v_ ?_; refine f_ z_1 ?_))
  (first | refine gl_guard_no rfl rfl rfl rfl rfl rfl rfl ?_ | (refine v_ ?_; refine r_ (by exact s_load_blk rfl z_3 a10_6) ?_))
  (first | refine gl_guard_no rfl rfl rfl rfl rfl rfl rfl ?_ | (refine v_ ?_; refine f_ z_1 ?_))
  (first | refine gl_guard_no rfl rfl rfl rfl rfl rfl rfl ?_ | (refine v_ ?_; refine r_ (by exact s_load_blk rfl z_3 a10_6) ?_))
  (first | refine gl_guard_no rfl rfl rfl rfl rfl rfl rfl ?_ | (refine v_ ?_; refine f_ ((s_eql rfl rfl).eb hq10) ?_))
  refine f_ z_4 ?_
  refine a_ ?_
  refine gl_nil ?_
  repeat refine y_ ?_)
 all_goals (refine g_ret ?_; exact at_end1 rfl rfl [] ⟨rfl, rfl⟩ (fun w hw => hw.dropAll))
end Go.Proofs.YtgllpcggdcknaaaGreatDoor.Rp
namespace Go.Proofs.YtgllpcggdcknaaaGreatDoor.Rp
open Go Go.Sl Go.RowKit
def writeS (r : RR) : Option Bs := if 1 ≤ r.kind ∧ r.kind ≤ 14 ∧ readS (textP r ++ crlf) = some (r, (textP r ++ crlf).length) then some (textP r ++ crlf) else none
def writeV (o : Option Bs) : Value := .tuple #[B (o.getD []), .int .i64 (if o.isSome = true then 0 else 1)]
theorem sc3o (q1 q2 : Bool) : q1 = false ∨ (q1 = true ∧ q2 = true) ∨ (q1 = true ∧ q2 = false) := by
 cases q1 <;> cases q2 <;> simp
set_option maxRecDepth 8000 in
theorem Print_ct (r : RR) (x : RL) (hz : SzW r) (hc : CapL r x) (hv : r.values = x.vs.map VM.v) (hl : (textP r).length < 4294967279) : Pu Tryz.prog 9 [rrA r x] (PreW r x) (writeV (writeS r)) := by
 obtain ⟨q1, hq1⟩ : ∃ q, q = decide (r.kind < 1) := ⟨_, rfl⟩
 obtain ⟨q2, hq2⟩ : ∃ q, q = decide (r.kind > 14) := ⟨_, rfl⟩
 have hqq : ¬(1 ≤ r.kind ∧ r.kind ≤ 14) ↔ (q1 || q2) = true := by
  rw [Bool.or_eq_true, hq1, hq2, decide_eq_true_eq, decide_eq_true_eq]
  omega
 refine ct_enter 40 Tryz.func9 rfl rfl rfl ?_
 intro F hh
 have hg := hh.1
 have hrr := hh.2
 repeat refine x_ ?_
 refine gl_boxA rfl rfl ?_; intro g1
 refine a_ ?_
 refine a_ ?_
 repeat refine n_ ?_
 refine g_cutK [(1, Ptr g1), (15, .bool (q1 || q2))] [blkR g1 r x] ?_ ?_
 ·cases q1
  all_goals (
   repeat refine x_ ?_
   refine f_ z_1 ?_
   refine r_ (by exact s_load_blk rfl z_3 a10_0) ?_
   refine f_ ((s_lss rfl rfl).eb hq1) ?_
   refine m_ ?_
   (first | refine gl_guard_no rfl rfl rfl rfl rfl rfl rfl ?_ | (refine v_ ?_; refine f_ z_1 ?_))
   (first | refine gl_guard_no rfl rfl rfl rfl rfl rfl rfl ?_ | (refine v_ ?_; refine r_ (by exact s_load_blk rfl z_3 a10_0) ?_))
   (first | refine gl_guard_no rfl rfl rfl rfl rfl rfl rfl ?_ | (refine v_ ?_; refine f_ ((s_gtr rfl rfl).eb hq2) ?_))
   refine f_ z_4 ?_
   refine gl_nil ?_
   repeat refine y_ ?_)
  all_goals exact at_cut j_ i_
 repeat refine y_ ?_
 refine g_cond rfl (fun h => ?_) (fun h => ?_)
 ·have e : writeS r = none := by
   unfold writeS
   exact if_neg fun c => hqq.2 h ⟨c.1, c.2.1⟩
  rw [e]
  repeat refine x_ ?_
  refine a_ ?_
  refine a_ ?_
  repeat refine n_ ?_
  refine g_ret ?_
  exact at_end2 rfl rfl rfl [] ⟨rfl, rfl⟩ (fun w hw => hw.dropAll)
 have hk : 1 ≤ r.kind ∧ r.kind ≤ 14 := by
  refine Classical.not_not.1 fun c => ?_
  rw [hqq.1 c] at h
  cases h
 obtain ⟨T, hT⟩ : ∃ T, T = textP r ++ crlf := ⟨_, rfl⟩
 have hT' : textP r ++ [13, 10] = T := hT.symm
 have hTl : T.length < 4294967281 := by rw [hT, List.length_append]; simp; omega
 have c12 := Read_ct T hTl
 obtain ⟨o, ho⟩ : ∃ o, o = readS T := ⟨_, rfl⟩
 rw [← ho] at c12
 unfold ReadW at c12
 obtain ⟨q, hqe⟩ : ∃ q, q = (o.getD (R0, 0)).1 := ⟨_, rfl⟩
 obtain ⟨n, hne⟩ : ∃ q, q = (o.getD (R0, 0)).2 := ⟨_, rfl⟩
 obtain ⟨z, hze⟩ : ∃ q, q = o.isSome := ⟨_, rfl⟩
 rw [← hqe, ← hne, ← hze] at c12
 obtain ⟨p2, hp2⟩ : ∃ p, p = !decide ((n : Int) = (T.length : Nat)) := ⟨_, rfl⟩
 obtain ⟨p3, hp3⟩ : ∃ p, p = decide (r = q) := ⟨_, rfl⟩
 have e : writeS r = if (!z || (p2 || !p3)) = true then none else some T := by
  unfold writeS
  rw [← hT, ← ho]
  have hiff : (1 ≤ r.kind ∧ r.kind ≤ 14 ∧ o = some (r, T.length)) ↔ ¬((!z || (p2 || !p3)) = true) := by
   cases o with
   | none =>
    have : z = false := hze
    rw [this]
    simp
   | some a =>
    obtain ⟨a1, a2⟩ := a
    have h1 : z = true := hze
    have h2 : q = a1 := hqe
    have h3 : n = a2 := hne
    rw [h1, hp2, hp3, h2, h3]
    simp only [Option.some.injEq, Prod.mk.injEq, Bool.not_true, Bool.false_or, Bool.or_eq_true, Bool.not_eq_true', decide_eq_false_iff_not, not_or, Classical.not_not]
    constructor
    ·rintro ⟨_, _, h4, h5⟩; exact ⟨by omega, h4.symm⟩
    ·rintro ⟨h4, h5⟩; exact ⟨hk.1, hk.2, h5.symm, by omega⟩
  by_cases hb : (!z || (p2 || !p3)) = true
  ·rw [if_pos hb, if_neg (fun c => hiff.1 c hb)]
  ·rw [if_neg hb, if_pos (hiff.2 hb)]
 rw [e]
 clear e hT
 repeat refine x_ ?_
 refine r_ ((s_load_blkW rfl z_3 z_8).eq (v' := rrA r x) rfl) ?_
 refine gl_callp rfl (textW_ct r x hz hc hv hk) (fun h hh hb => ⟨hg.le hh, hrr.le hh⟩) rfl ?_
 refine f_ ((s_add_str rfl rfl (by simp only [List.length_cons, List.length_nil]; omega)).eq (v' := B T) (by rw [hT'])) ?_
 refine a_ ?_
 repeat refine x_ ?_
 refine m_ ?_
 refine gl_call _ rfl c12 i_ (fun h hh hb => hg.le hh) rfl ?_; rintro v A ⟨y, hy, rfl, rfl⟩; refine gl_pull (fun w hw => hw.perm List.perm_append_comm) ?_; simp only [List.cons_append, List.nil_append]
 refine m_ ?_
 refine f_ (s_extract rfl rfl) ?_
 refine f_ (s_extract rfl rfl) ?_
 refine f_ (s_extract rfl rfl) ?_
 refine gl_allocA rfl ?_; intro g5
 (refine gl_store_blkW rfl rfl z_5 z_8 z_8 z_2 ?_)
 refine a_ ?_
 refine a_ ?_
 repeat refine n_ ?_
 refine g_cutK [(4, B T), (38, .bool (!z || (p2 || !p3)))] [] ?_ ?_
 ·rcases sc3o z p2 with rfl | ⟨rfl, rfl⟩ | ⟨rfl, rfl⟩
  all_goals (
   repeat refine x_ ?_
   refine m_ ?_
   refine f_ (s_neq rfl rfl) ?_
   refine m_ ?_
   (first | refine gl_guard_no rfl rfl rfl rfl rfl rfl rfl ?_ | (refine v_ ?_; refine m_ ?_))
   (first | refine gl_guard_no rfl rfl rfl rfl rfl rfl rfl ?_ | (refine v_ ?_; refine m_ ?_))
   (first | refine gl_guard_no rfl rfl rfl rfl rfl rfl rfl ?_ | (refine v_ ?_; refine f_ (s_len_str rfl) ?_))
   (first | refine gl_guard_no rfl rfl rfl rfl rfl rfl rfl ?_ | (refine v_ ?_; refine f_ ((s_neq rfl rfl).eb hp2) ?_))
   refine f_ z_4 ?_
   refine m_ ?_
   (first | refine gl_guard_no rfl rfl rfl rfl rfl rfl rfl ?_ | (refine v_ ?_; refine r_ ((s_load_blkW rfl z_3 z_8).eq (v' := rrA r x) rfl) ?_))
   (first | refine gl_guard_no rfl rfl rfl rfl rfl rfl rfl ?_ | (refine v_ ?_; refine r_ ((s_load_blkW rfl z_3 z_8).eq (v' := rrA q y) rfl) ?_))
   (first | refine gl_guard_no rfl rfl rfl rfl rfl rfl rfl ?_ | (refine v_ ?_; refine gl_callp rfl (same_ct r q x y hz.sz.c hv hy) (fun h hh hb => ⟨hrr.le hh, rrd_own hy (fun y' hy' => .tail _ (.tail _ hy')) hb⟩) rfl ?_; rw [← hp3]))
   (first | refine gl_guard_no rfl rfl rfl rfl rfl rfl rfl ?_ | (refine v_ ?_; refine f_ (s_not rfl) ?_))
   refine f_ z_4 ?_
   refine gl_nil ?_
   repeat refine y_ ?_)
  all_goals exact at_cut j_ (fun w hw => hw.dropAll)
 repeat refine y_ ?_
 refine g_cond rfl (fun h => ?_) (fun h => ?_)
 ·rw [if_pos h]
  repeat refine x_ ?_
  refine a_ ?_
  refine a_ ?_
  repeat refine n_ ?_
  refine g_ret ?_
  exact at_end2 rfl rfl rfl [] ⟨rfl, rfl⟩ i_
 ·rw [if_neg (by rw [h]; simp)]
  repeat refine x_ ?_
  refine m_ ?_
  refine a_ ?_
  refine a_ ?_
  repeat refine n_ ?_
  refine g_ret ?_
  exact at_end2 rfl rfl rfl [] ⟨rfl, rfl⟩ i_
end Go.Proofs.YtgllpcggdcknaaaGreatDoor.Rp
namespace Go.Proofs.YtgllpcggdcknaaaGreatDoor.Rp
open Go Go.Sl Go.RowKit
theorem write_eq (r : RR) : writeS r = if okR r = true then some (textP r ++ crlf) else none := by
 by_cases h : okR r = true
 ·rw [if_pos h]
  have hk : 1 ≤ r.kind ∧ r.kind ≤ 14 := by
   refine Classical.not_not.1 fun c => ?_
   rw [okR_x c] at h
   cases h
  have hb := read_B h []
  rw [List.append_nil] at hb
  unfold writeS
  rw [if_pos ⟨hk.1, hk.2, hb⟩]
 ·rw [if_neg h]
  unfold writeS
  refine if_neg fun c => ?_
  exact read_none rfl (by simpa using h) _ _ c.2.2 rfl
theorem szR_read {s : Bs} {r : RR} {n : Nat} (h : readS s = some (r, n)) (hs : s.length ≤ 1000000000000) : SzR r := by
 have h1 := readR_eq s
 rw [h] at h1
 unfold readR at h1
 split at h1
 ·have : guessS s = r := congrArg Prod.fst h1
  rw [← this]
  exact guess_sz hs
 ·have : R0 = r := congrArg Prod.fst h1
  rw [← this]
  exact szR0
theorem ok_nums {r : RR} (h : okR r = true) (hk : r.kind ≠ 13) : r.nums = [] := by
 unfold okR at h
 repeat' split at h
 all_goals first
  | (exact absurd ‹r.kind = 13› hk)
  | (simp only [onlyB, Bool.false_or, Bool.true_or, Bool.true_and, Bool.and_eq_true, List.isEmpty_iff] at h; simp only [h])
  | cases h
theorem ok_vals {r : RR} (h : okR r = true) (hk : r.kind ≠ 12) (hk2 : r.kind ≠ 14) : r.values = [] := by
 unfold okR at h
 repeat' split at h
 all_goals first
  | (exact absurd ‹r.kind = 12› hk)
  | (exact absurd ‹r.kind = 14› hk2)
  | (simp only [onlyB, Bool.false_or, Bool.true_or, Bool.true_and, Bool.and_eq_true, List.isEmpty_iff] at h; simp only [h])
  | cases h
theorem textP_14 {r : RR} (hk : r.kind = 14) : textP r = 42 :: 32 :: digS r.n ++ wFetch ++ 40 :: joinS [32] (cellsP r) ++ [41] := by
 unfold textP
 rw [hk]
 rfl
theorem textP_12 {r : RR} (hk : r.kind = 12) : textP r = 42 :: 32 :: wStatus ++ formS r.box ++ 32 :: 40 :: joinS [32] (cellsP r) ++ [41] := by
 unfold textP
 rw [hk]
 rfl
theorem szW_ok {r : RR} (hz : SzR r) (h : okR r = true) (hl : (textP r).length ≤ big) : SzW r := by
 refine ⟨hz, ?_, ?_⟩
 ·by_cases hk : r.kind = 13
  ·rw [textP_13 hk] at hl
   simp only [List.length_append, List.length_cons] at hl
   omega
  ·rw [ok_nums h hk]
   exact Nat.zero_le _
 ·by_cases hk : r.kind = 12
  ·rw [textP_12 hk] at hl
   simp only [List.length_append, List.length_cons] at hl
   omega
  by_cases hk2 : r.kind = 14
  ·rw [textP_14 hk2] at hl
   simp only [List.length_append, List.length_cons] at hl
   omega
  ·have : cellsP r = [] := by unfold cellsP; rw [ok_vals h hk hk2]; rfl
   rw [this]
   exact Nat.zero_le _
theorem read_len {s : Bs} {r : RR} {n : Nat} (h : readS s = some (r, n)) : n ≤ s.length ∧ (textP r).length + 2 = n ∧ s.take n = textP r ++ crlf := by
 obtain ⟨h1, h2, t, h3⟩ := read_A h
 have h4 := congrArg List.length h3
 rw [List.length_append] at h4
 refine ⟨by omega, by rw [h2, List.length_append]; rfl, ?_⟩
 rw [h2, h3, List.take_left']
 rfl
section
variable {P : Program} {N : Nat} {K R : Kont} {E : List (Nat × Kont)} {L : Lcs} {F : Snap} {H : List As}
end
abbrev rA : RR := ⟨1, [97], [82, 69, 65, 68, 45, 87, 82, 73, 84, 69], [100, 111, 110, 101], 0, [], 0, [], [], []⟩
abbrev sA : Bs := [42, 32, 51, 32, 70, 69, 84, 67, 72, 32, 40, 85, 73, 68, 32, 55, 32, 77, 79, 68, 83, 69, 81, 32, 40, 57, 41, 41, 13, 10, 120]
abbrev rB : RR := ⟨14, [], [], [], 3, [], 0, [], [], [⟨7, 7, [], [], false, 0⟩, ⟨9, 9, [], [], false, 0⟩]⟩
theorem write_rA : writeS rA = some [97, 32, 79, 75, 32, 91, 82, 69, 65, 68, 45, 87, 82, 73, 84, 69, 93, 32, 100, 111, 110, 101, 13, 10] := by
 rw [write_eq, if_pos (by decide)]
 decide
theorem read_sA : readS sA = some (rB, 30) := by
 have h := read_B (r := rB) (by decide) [120]
 have e : (textP rB ++ crlf) ++ [120] = sA := by decide +kernel
 rw [e] at h
 rw [h]
 decide +kernel
end Go.Proofs.YtgllpcggdcknaaaGreatDoor.Rp
namespace Go.Proofs.YtgllpcggdcknaaaGreatDoor.Rp
open Go Go.Sl Go.RowKit
theorem rrd_none (r : RR) (h : Heap) (hn : r.nums = []) (hf : r.flags = []) (hv : r.values = []) : RRd r L0 h := by
 refine ⟨hv, ?_, ?_, RdS.nil _ _, fun m hm => nomatch hm⟩
 ·rw [hn]; exact RdS.nil _ _
 ·rw [hf]; exact RdS.nil _ _
theorem cap_none (r : RR) (hf : r.flags = []) : CapL r L0 := ⟨by rw [hf]; exact Nat.zero_le _, fun m hm => nomatch hm⟩
theorem szW_rA : SzW rA := szW_ok (szR_of (by decide) (by decide) (by decide) (by decide) (by decide) z_7 (by decide) z_7 (by decide) (by decide) z_7) (by decide) (by decide)
theorem two_vals {vs : List VM} {a b : RV} (h : [a, b] = vs.map VM.v) : ∃ m1 m2, vs = [m1, m2] ∧ m1.v = a ∧ m2.v = b := by
 match vs, h with
 | [m1, m2], h => simp only [List.map_cons, List.map_nil, List.cons.injEq, and_true] at h; exact ⟨m1, m2, rfl, h.1.symm, h.2.symm⟩
set_option maxRecDepth 8000 in
theorem alive_ct : Pu Tryz.prog 8 [] Gl (.bool true) := by
 have c9 := Print_ct rA L0 szW_rA (cap_none rA rfl) rfl (by decide)
 have c12 := Read_ct sA (by decide)
 rw [write_rA] at c9
 rw [read_sA] at c12
 unfold writeV at c9
 unfold ReadW at c12
 simp only [Option.getD_some, Option.isSome_some, if_true] at c9 c12
 refine ct_enter 49 Tryz.func8 rfl rfl rfl ?_
 intro F hg
 repeat refine x_ ?_
 refine a_ ?_
 repeat refine x_ ?_
 refine f_ (s_bld rfl rfl) ?_
 refine gl_callp rfl c9 (fun h hh hb => ⟨hg.le hh, rrd_none rA h rfl rfl rfl⟩) rfl ?_
 refine m_ ?_
 refine f_ (s_extract rfl rfl) ?_
 refine f_ (s_extract rfl rfl) ?_
 refine a_ ?_
 refine a_ ?_
 repeat refine x_ ?_
 refine gl_call _ rfl c12 i_ (fun h hh hb => hg.le hh) rfl ?_; rintro v A ⟨y, hy, rfl, rfl⟩; refine gl_pull (fun w hw => hw.perm List.perm_append_comm) ?_; simp only [List.cons_append, List.nil_append]
 refine m_ ?_
 refine f_ (s_extract rfl rfl) ?_
 refine f_ (s_extract rfl rfl) ?_
 refine f_ (s_extract rfl rfl) ?_
 refine gl_allocA rfl ?_; intro g3
 (refine gl_store_blkW rfl rfl z_5 z_8 z_8 z_2 ?_)
 refine a_ ?_
 refine a_ ?_
 repeat refine n_ ?_
 obtain ⟨m1, m2, hm, h1, h2⟩ := two_vals hy
 obtain ⟨na, nc, fa, fc, va, vc, vs⟩ := y
 simp only at hm
 subst hm
 refine g_ownN (a := va) (n := 2) (c := vc) z_3 (fun _ _ hsome => ?_)
 have hva := hsome (by decide)
 have h9 : (vmV [m1, m2])[7]? = some (.int .u64 9) := by simp [vmV, h2]
 have hc : ∀ j u, [Value.int .u64 9][j]? = some u → (vmV [m1, m2])[7 + j]? = some u := fun j u hu => by
  match j, hu with
  | 0, hu => simp only [List.getElem?_cons_zero, Option.some.injEq] at hu; subst hu; exact h9
 repeat refine x_ ?_
 refine m_ ?_
 refine f_ ((s_eql_str rfl rfl).eq (v' := .bool true) rfl) ?_
 refine m_ ?_
 (refine v_ ?_; refine m_ ?_)
 (refine v_ ?_; refine f_ (s_eql rfl rfl) ?_)
 refine f_ z_9 ?_
 refine m_ ?_
 (refine v_ ?_; refine m_ ?_)
 (refine v_ ?_; refine f_ (s_eql rfl rfl) ?_)
 refine f_ z_9 ?_
 refine m_ ?_
 (refine v_ ?_; refine m_ ?_)
 (refine v_ ?_; refine f_ ((s_eql rfl rfl).eq (v' := .bool true) rfl) ?_)
 refine f_ z_9 ?_
 refine m_ ?_
 (refine v_ ?_; refine f_ z_1 ?_)
 (refine v_ ?_; refine r_ (by exact s_load_blk rfl z_3 a10_4) ?_)
 (refine v_ ?_; refine f_ ((s_eql rfl rfl).eq (v' := .bool true) rfl) ?_)
 refine f_ z_9 ?_
 refine m_ ?_
 (refine v_ ?_; refine f_ z_1 ?_)
 (refine v_ ?_; refine r_ (by exact s_load_blk rfl z_3 a10_9) ?_)
 (refine v_ ?_; refine f_ (s_len_sl rfl) ?_)
 (refine v_ ?_; refine f_ (s_eql rfl rfl) ?_)
 refine f_ z_9 ?_
 refine m_ ?_
 (refine v_ ?_; refine f_ z_1 ?_)
 (refine v_ ?_; refine r_ (by exact s_load_blk rfl z_3 a10_9) ?_)
 (refine v_ ?_; refine f_ ((s_indexAddr (len := 2) rfl hva rfl (by omega))) ?_)
 (refine v_ ?_; refine f_ (by exact s_fieldAddr_o rfl (by assumption) z_8 (by infer_instance) (by decide)) ?_)
 (refine v_ ?_; refine r_ (s_load1 (v := .int .u64 9) rfl (fun w hw => peek_own (q := 7) hw z_3 z_7 hc)) ?_)
 (refine v_ ?_; refine f_ ((s_eql rfl rfl).eq (v' := .bool true) rfl) ?_)
 refine f_ z_9 ?_
 refine a_ ?_
 repeat refine n_ ?_
 refine g_ret ?_
 exact at_end1 rfl rfl [] ⟨rfl, rfl⟩ (fun w hw => hw.dropAll)
end Go.Proofs.YtgllpcggdcknaaaGreatDoor.Rp
namespace Go.Proofs.YtgllpcggdcknaaaGreatDoor.Rp
open Go Go.Sl Go.RowKit
theorem szC_got {s : Bs} (hs : s.length ≤ 1000000000000) : SzC ((readS s).getD (R0, 0)).1 := by
 cases h : readS s with
 | none => exact szR0.c
 | some q =>
  obtain ⟨r, n⟩ := q
  exact (szR_read h hs).c
theorem got_n {s : Bs} : ((readS s).isSome = true → 0 < ((readS s).getD (R0, 0)).2) ∧ ((readS s).isSome = false → ((readS s).getD (R0, 0)).2 = 0) := by
 cases h : readS s with
 | none => exact ⟨(fun h => nomatch h), fun _ => rfl⟩
 | some q =>
  obtain ⟨r, n⟩ := q
  have := read_len h
  exact ⟨fun _ => by simp only [Option.getD_some]; omega, (fun h => nomatch h)⟩
set_option maxRecDepth 8000 in
theorem ReplyReads_ct (s : Bs) (hs : s.length < 4294967281) : Pu Tryz.prog 4 [B s] Gl (.bool true) := by
 have c12 := Read_ct s hs
 have c13 := ReadR9_ct s (by omega)
 rw [readR_eq] at c13
 have hz := szC_got (s := s) (by omega)
 have hn := got_n (s := s)
 unfold ReadW at c12
 unfold ReadP at c13
 obtain ⟨q, hqe⟩ : ∃ q, q = ((readS s).getD (R0, 0)).1 := ⟨_, rfl⟩
 obtain ⟨n, hne⟩ : ∃ q, q = ((readS s).getD (R0, 0)).2 := ⟨_, rfl⟩
 obtain ⟨z, hze⟩ : ∃ q, q = (readS s).isSome := ⟨_, rfl⟩
 rw [← hqe, ← hne, ← hze] at c12
 rw [← hqe, ← hne] at c13
 rw [← hqe] at hz
 rw [← hne, ← hze] at hn
 have hqq := SameR_ct q q
 refine ct_enter 45 Tryz.func4 rfl rfl rfl ?_
 intro F hg
 repeat refine x_ ?_
 refine a_ ?_
 repeat refine x_ ?_
 refine m_ ?_
 refine gl_call _ rfl c12 i_ (fun h hh hb => hg.le hh) rfl ?_; rintro v A ⟨x, hx, rfl, rfl⟩; refine gl_pull (fun w hw => hw.perm List.perm_append_comm) ?_; simp only [List.cons_append, List.nil_append]
 refine m_ ?_
 refine f_ (s_extract rfl rfl) ?_
 refine f_ (s_extract rfl rfl) ?_
 refine f_ (s_extract rfl rfl) ?_
 refine gl_allocA rfl ?_; intro g3
 (refine gl_store_blkW rfl rfl z_5 z_8 z_8 z_2 ?_)
 refine a_ ?_
 refine a_ ?_
 repeat refine x_ ?_
 refine m_ ?_
 refine gl_call _ rfl c13 i_ (fun _ _ _ => trivial) rfl ?_; rintro v A ⟨y, hy, rfl, rfl⟩; refine gl_pull (H' := blkR g3 q x :: (rrH q x ++ rrH q y)) (fun w hw => hw.perm (List.perm_append_comm (l₁ := rrH q y))) ?_
 refine m_ ?_
 refine f_ (s_extract rfl rfl) ?_
 refine f_ (s_extract rfl rfl) ?_
 refine gl_allocA rfl ?_; intro g6
 (refine gl_store_blkW rfl rfl z_5 z_8 z_8 z_2 ?_)
 refine a_ ?_
 repeat refine n_ ?_
 have hm1 : ∀ v ∈ rrH q x, v ∈ (blkR g6 q y :: blkR g3 q x :: (rrH q x ++ rrH q y)) := fun v hv => .tail _ (.tail _ (List.mem_append_left _ hv))
 have hm2 : ∀ v ∈ rrH q y, v ∈ (blkR g6 q y :: blkR g3 q x :: (rrH q x ++ rrH q y)) := fun v hv => .tail _ (.tail _ (List.mem_append_right _ hv))
 cases z with
 | true =>
  have hn1 := hn.1 rfl
  repeat refine x_ ?_
  refine gl_callp rfl alive_ct (fun h hh hb => hg.le hh) rfl ?_
  refine m_ ?_
  (refine v_ ?_; refine r_ ((s_load_blkW rfl z_3 z_8).eq (v' := rrA q x) rfl) ?_)
  (refine v_ ?_; refine r_ ((s_load_blkW rfl z_3 z_8).eq (v' := rrA q y) rfl) ?_)
  (refine v_ ?_; refine gl_callp rfl (SameR_ct q q x y hz) (fun h hh hb => ⟨rrd_own hx hm1 hb, rrd_own hy hm2 hb⟩) rfl ?_; rw [decide_eq_true rfl])
  refine f_ z_9 ?_
  refine m_ ?_
  (refine v_ ?_; refine m_ ?_)
  (refine v_ ?_; refine m_ ?_)
  (refine v_ ?_; refine f_ ((s_eql rfl rfl).eq (v' := .bool true) (congrArg Value.bool (decide_eq_true rfl))) ?_)
  refine f_ z_9 ?_
  refine m_ ?_
  (refine v_ ?_; refine m_ ?_)
  (refine v_ ?_; refine f_ ((s_eql rfl rfl).eq (v' := .bool true) rfl) ?_)
  (refine v_ ?_; refine m_ ?_)
  (refine v_ ?_; refine f_ ((s_gtr rfl rfl).eq (v' := .bool true) (congrArg Value.bool (decide_eq_true (by omega)))) ?_)
  (refine v_ ?_; refine f_ ((s_eql_bool rfl rfl).eq (v' := .bool true) rfl) ?_)
  refine f_ z_9 ?_
  refine m_ ?_
  (refine v_ ?_; refine m_ ?_)
  (refine v_ ?_; refine f_ ((s_gtr rfl rfl).eq (v' := .bool true) (congrArg Value.bool (decide_eq_true (by omega)))) ?_)
  (refine v_ ?_; refine m_ ?_)
  (refine gl_guard_no rfl rfl rfl rfl rfl rfl rfl ?_)
  (refine gl_guard_no rfl rfl rfl rfl rfl rfl rfl ?_)
  (refine v_ ?_; refine f_ z_9 ?_)
  refine f_ z_9 ?_
  refine a_ ?_
  repeat refine n_ ?_
  refine g_ret ?_
  exact at_end1 rfl rfl [] ⟨rfl, rfl⟩ (fun w hw => hw.dropAll)
 | false =>
  have hn1 := hn.2 rfl
  repeat refine x_ ?_
  refine gl_callp rfl alive_ct (fun h hh hb => hg.le hh) rfl ?_
  refine m_ ?_
  (refine v_ ?_; refine r_ ((s_load_blkW rfl z_3 z_8).eq (v' := rrA q x) rfl) ?_)
  (refine v_ ?_; refine r_ ((s_load_blkW rfl z_3 z_8).eq (v' := rrA q y) rfl) ?_)
  (refine v_ ?_; refine gl_callp rfl (SameR_ct q q x y hz) (fun h hh hb => ⟨rrd_own hx hm1 hb, rrd_own hy hm2 hb⟩) rfl ?_; rw [decide_eq_true rfl])
  refine f_ z_9 ?_
  refine m_ ?_
  (refine v_ ?_; refine m_ ?_)
  (refine v_ ?_; refine m_ ?_)
  (refine v_ ?_; refine f_ ((s_eql rfl rfl).eq (v' := .bool true) (congrArg Value.bool (decide_eq_true rfl))) ?_)
  refine f_ z_9 ?_
  refine m_ ?_
  (refine v_ ?_; refine m_ ?_)
  (refine v_ ?_; refine f_ ((s_eql rfl rfl).eq (v' := .bool false) rfl) ?_)
  (refine v_ ?_; refine m_ ?_)
  (refine v_ ?_; refine f_ ((s_gtr rfl rfl).eq (v' := .bool false) (congrArg Value.bool (decide_eq_false (by omega)))) ?_)
  (refine v_ ?_; refine f_ ((s_eql_bool rfl rfl).eq (v' := .bool true) rfl) ?_)
  refine f_ z_9 ?_
  refine m_ ?_
  (refine v_ ?_; refine m_ ?_)
  (refine v_ ?_; refine f_ ((s_gtr rfl rfl).eq (v' := .bool false) (congrArg Value.bool (decide_eq_false (by omega)))) ?_)
  (refine v_ ?_; refine m_ ?_)
  (refine v_ ?_; refine m_ ?_)
  (refine v_ ?_; refine f_ ((s_eql rfl rfl).eq (v' := .bool true) rfl) ?_)
  (refine v_ ?_; refine f_ (by exact s_pick_f rfl rfl) ?_)
  refine f_ z_9 ?_
  refine a_ ?_
  repeat refine n_ ?_
  refine g_ret ?_
  exact at_end1 rfl rfl [] ⟨rfl, rfl⟩ (fun w hw => hw.dropAll)
end Go.Proofs.YtgllpcggdcknaaaGreatDoor.Rp
namespace Go.Sl
open Go Go.RowKit Go.WideShapes Go.ChangeShapes Go.ChangeMaps
theorem Hp.below {W w' : World} {A : List As} (h : Hp (snap W) w' A) : Below W.heap.size W w' := by
 have hk : ∀ k, k < W.heap.size → w'.heap[k]? = W.heap[k]? := fun k hk => by
  have e : W.heap[k]? = some W.heap[k] := Array.getElem?_eq_getElem hk
  rw [e]
  exact h.keep k _ (by show hpBut W [] k = _; rw [hpBut_nil]; exact e)
 refine ⟨h.os, h.tape, h.output, ?_, hk⟩
 rcases Nat.lt_or_ge w'.heap.size W.heap.size with hlt | hge
 ·have h1 := hk w'.heap.size hlt
  rw [Array.getElem?_eq_getElem hlt] at h1
  simp at h1
 ·exact hge
section
variable {H : Type} {enc : TypeId × Value → H} {P : Program}
theorem law_post {f : Func} {s : ChangeSpec} {apart fresh handsOn again : Bool} {W W' : World} {args : Array Value} {v : Value} {ds gs : List (DataW H)} {before pa pv : List MemPlace}
  (hW : DataW.Whole enc P f.params.toList s.vars apart W args.toList ds gs before)
  (hres : ∀ (b : Nat) (sp : Nat → Bool) (hd : Bool), DataW.TrodAll enc P W' b sp hd f.resultTypes.toList (v.resultList f.resultTypes.size) (s.fn H (ds ++ gs)).results [])
  (hargs : ∀ sp : Nat → Bool, (∀ p ∈ before, sp p.block = true) → DataW.TrodAll enc P W' 0 sp true f.params.toList args.toList (s.fn H (ds ++ gs)).args pa)
  (hvars : ∀ sp : Nat → Bool, (∀ p ∈ before, sp p.block = true) → DataW.TrodVars enc P W' sp s.vars (s.fn H (ds ++ gs)).vars pv)
  (hps : before = pa ++ pv) (hb : Below W.heap.size W W')
  (hok : ∀ (j : Nat) (t : TypeId) (r : Value), f.resultTypes[j]? = some t → (v.resultList f.resultTypes.size)[j]? = some r → Value.okWide P W' .any 0 t r) :
  s.post enc P f apart fresh handsOn again W args v W' := by
 have hlt : ∀ p ∈ before, p.block < W.heap.size := fun p hp => hW.lt p hp
 have hold : ∀ p ∈ before, (fun b => decide (b < W.heap.size)) p.block = true := fun p hp => by simpa using hlt p hp
 refine ⟨ds, gs, before, [], pa, pv, hW, hres _ _ _, hargs _ hold, hvars _ hold, World.keptBut_mono (fun p hp => ⟨hp, ?_⟩) (hb.frame (· ∈ before)), fun _ => ?_⟩
 ·rw [hps, List.mem_append] at hp
  exact Or.inr hp
 ·obtain ⟨_, _, _, _, _, hz, hn⟩ := hW
  refine ⟨hok, _, _, ([] ++ pa) ++ pv, ⟨[] ++ pa, pv, trodAll_append (hargs _ (fun _ _ => rfl)) (hres _ _ _), hvars _ (fun _ _ => rfl), rfl, ?_, ?_⟩, ?_⟩
  ·intro b off hp
   have hin : MemPlace.cell b off ∈ before := by rw [hps]; simpa using hp
   rw [hb.frozen (hlt _ hin)]
   exact hz b off hin
  ·intro ha
   have := hn ha
   rw [hps] at this
   simpa using this
  ·intro p hp _
   rw [hps]
   simpa using hp
theorem trodAll_below (hl : laidOutB P = true) {W W' : World} (hb : Below W.heap.size W W') (sp : Nat → Bool) : ∀ {ts : List TypeId} {vs : List Value} {ds : List (DataW H)} {ps : List MemPlace},
  (ts.all fun t => P.readableRec t && decide (t < P.types.size)) = true → DataW.TrodAll enc P W 0 (fun _ => true) true ts vs ds ps → (∀ p ∈ ps, p.block < W.heap.size) → (∀ p ∈ ps, sp p.block = true) →
   DataW.TrodAll enc P W' 0 sp true ts vs ds ps
 | [], vs, ds, ps, _, h, _, _ => by
  obtain ⟨rfl, rfl, rfl⟩ := trodAll_nil h
  rfl
 | t :: ts, vs, ds, ps, hr, h, hlt, hs => by
  obtain ⟨v, vs', d, ds', p, q, rfl, rfl, rfl, h1, h2⟩ := trodAll_cons h
  simp only [List.all_cons, Bool.and_eq_true, decide_eq_true_eq] at hr
  refine ⟨p, q, WideElems.Trod_stays hl hr.1.1 hr.1.2 h1 (fun x hx => hb.same (hlt x (List.mem_append.2 (.inl hx)))) (fun x hx => hs x (List.mem_append.2 (.inl hx))), ?_, rfl⟩
  exact trodAll_below hl hb sp (by simpa using hr.2) h2 (fun x hx => hlt x (List.mem_append.2 (.inr hx))) (fun x hx => hs x (List.mem_append.2 (.inr hx)))
theorem law_true {f : FuncId} {fn : Func} {s : ChangeSpec} {fresh handsOn again : Bool} {W : World} {vs : List Value} {ds gs : List (DataW H)} {before : List MemPlace} {Pre : Heap → Prop} {t : TypeId}
  (hc : Pu P f vs Pre (.bool true)) (hpre : Pre (hp W)) (hvs : s.vars = [])
  (hW : DataW.Whole enc P fn.params.toList s.vars false W vs ds gs before) (hres : fn.resultTypes = #[t]) (ht : P.underlying t = some .bool)
  (hl : laidOutB P = true) (hr : (fn.params.toList.all fun t => P.readableRec t && decide (t < P.types.size)) = true)
  (hs : s.fn H (ds ++ gs) = { results := [.lit (.bool true)], args := ds }) :
  Calls P f vs.toArray W fun e W' => ∃ v, e = .returned v ∧ s.post enc P fn false fresh handsOn again W vs.toArray v W' := by
 refine (hc W [] rfl List.nodup_nil (by rw [hpBut_nil]; exact hpre)).mono ?_
 rintro e W' ⟨v, A, rfl, ⟨rfl, rfl⟩, hh⟩
 refine ⟨_, rfl, ?_⟩
 have hW' := hW
 have hlt := fun p hp => hW'.lt p hp
 obtain ⟨p, q, hA, hV, hpq, hfz, hnd⟩ := hW
 rw [hvs] at hV
 obtain ⟨rfl, rfl⟩ := trodVars_none hV
 have hb := Hp.below hh
 refine law_post (pa := p) (pv := []) (args := vs.toArray) (by simpa using hW') (fun b sp hd => ?_) (fun sp hsp => ?_) (fun sp hsp => ?_) hpq hb ?_
 ·rw [hs, hres]
  exact trodAll_cons_mk (shut_bool ht true) trodAll_mk0
 ·rw [hs]
  refine trodAll_below hl hb sp hr hA (fun x hx => hlt x ?_) (fun x hx => hsp x ?_) <;> (rw [hpq]; simpa using hx)
 ·rw [hs, hvs]; rfl
 ·exact ok_one hres rfl (okWide_bool_mk ht true)
theorem arg_string {r : Reach} {b0 base : Nat} {sp : Nat → Bool} {held : Bool} {w : World} {t : TypeId} {v : Value} {d : DataW H} {ps : List MemPlace} (ht : P.underlying t = some .string) (hval : Value.okWide P w r b0 t v) (hd : DataW.Trod enc P w base sp held t v d ps) :
  ∃ l : List UInt8, v = B l ∧ d = .lit (.string l) ∧ l.length ≤ maxLen := by
 obtain ⟨s, rfl, rfl, _, hs⟩ := open_string ht hval hd
 exact ⟨s.data.toList, rfl, rfl, by rw [Array.length_toList]; exact hs⟩
end
end Go.Sl
namespace Go.Sl
open Go Go.RowKit Go.WideShapes Go.ChangeShapes Go.ChangeMaps
mutual
def bulkOf {H : Type} : DataW H → Nat
 | .lit (.string bytes) => bytes.length + 1
 | .lit _ => 1
 | .nil => 1
 | .ptr d => bulkOf d + 1
 | .slice elems spare => bulkAll elems + bulkAll spare + 1
 | .agg parts => bulkAll parts + 1
 | .iface _ d => bulkOf d + 1
 | .map entries => bulkEntries entries + 1
 | .held _ => 1
def bulkAll {H : Type} : List (DataW H) → Nat
 | [] => 0
 | d :: r => bulkOf d + bulkAll r
def bulkEntries {H : Type} : List (Lit × DataW H) → Nat
 | [] => 0
 | x :: r => bulkEntry x + bulkEntries r
def bulkEntry {H : Type} : Lit × DataW H → Nat
 | (.string bytes, d) => bytes.length + bulkOf d + 1
 | (_, d) => bulkOf d + 1
end
section
variable {P : Program} {t e : TypeId} {k : IntKind}
variable {H : Type} {enc : TypeId × Value → H} {w : World} {r : Reach} {b0 base : Nat} {sp : Nat → Bool} {held : Bool} {v : Value} {d : DataW H} {ps : List MemPlace}
theorem arg_str (ht : P.underlying t = some .string) (hval : Value.okWide P w r b0 t v) (hd : DataW.Trod enc P w base sp held t v d ps) : ∃ l : List UInt8, v = B l ∧ d = .lit (.string l) ∧ l.length ≤ maxLen ∧ l.length + 1 ≤ bulkOf d := by
 obtain ⟨l, h1, h2, h3⟩ := arg_string ht hval hd
 exact ⟨l, h1, h2, h3, by subst h2; simp [bulkOf]⟩
end
section
variable {P : Program} {t e : TypeId} {k : IntKind}
variable {H : Type} {enc : TypeId × Value → H} {w : World} {r : Reach} {b0 base : Nat} {sp : Nat → Bool} {held : Bool} {v : Value} {d : DataW H} {ps : List MemPlace}
end
section
variable {P : Program} {t e : TypeId} {k : IntKind} {n : Nat}
variable {H : Type} {enc : TypeId × Value → H} {w : World} {r : Reach} {b0 base : Nat} {sp : Nat → Bool} {held : Bool} {v : Value} {d : DataW H} {ps : List MemPlace}
end
end Go.Sl
namespace Go.Proofs.YtgllpcggdcknaaaGreatDoor.Rp
open Go Go.Sl Go.RowKit
abbrev laidL : List (String × DataW Unit) := [("math/bits.deBruijn32tab", Rows.laid_math_bits_deBruijn32tab), ("math/bits.deBruijn64tab", Rows.laid_math_bits_deBruijn64tab), ("internal/strconv.uint64pow10", Rows.laid_internal_strconv_uint64pow10), ("unicode/utf8.acceptRanges", Rows.laid_unicode_utf8_acceptRanges), ("strconv.ErrRange", Rows.laid_strconv_ErrRange), ("strconv.ErrSyntax", Rows.laid_strconv_ErrSyntax), ("unicode/utf8.first", Rows.laid_unicode_utf8_first)]
theorem gPow : Tryz.prog.globalNamed "internal/strconv.uint64pow10" = some 1 := by kernel_rfl
theorem gPowT : (Tryz.prog.globals[1]?).map (·.type) = some 132 := by kernel_rfl
theorem gSyn : Tryz.prog.globalNamed "strconv.ErrSyntax" = some 2 := by kernel_rfl
theorem gSynT : (Tryz.prog.globals[2]?).map (·.type) = some 94 := by kernel_rfl
theorem gRng : Tryz.prog.globalNamed "strconv.ErrRange" = some 3 := by kernel_rfl
theorem gRngT : (Tryz.prog.globals[3]?).map (·.type) = some 94 := by kernel_rfl
theorem starE : "*" ++ "errors.errorString" = "*errors.errorString" := by decide
theorem row167 (u : TypeId) (h : Tryz.prog.typeName? 3 u = some "*errors.errorString") : u = 167 :=
 typeName_ptr_named (nm := "errors.errorString") (by rw [starE]; kernel_rfl) z_6 (by decide) u (by rw [starE]; exact h)
theorem var_block {P : Program} {W : World} {n : String} {g : Nat} {cs : Array Value} (hg : P.globalNamed n = some g) (h : W.var? P n = some cs) : ∃ t fr, hp W g = some (.cells cs t fr) := by
 unfold World.var? at h
 rw [hg] at h
 simp only [Option.bind_some] at h
 split at h
 ·next c t fr hh =>
  cases h
  exact ⟨t, fr, hh⟩
 ·cases h
theorem gMax : Tryz.prog.globalNamed "internal/bytealg.MaxLen" = some 0 := by kernel_rfl
theorem one_of {cs : Array Value} {v : Value} (hs : cs.size = 1) (h : cs[0]? = some v) : cs = #[v] := by
 obtain ⟨l⟩ := cs
 match l, hs with
 | [u], _ =>
  simp at h
  subst h
  rfl
theorem max_open {W : World} (h : W.ShapedOpen Tryz.prog) : ∃ m t fr, hp W 0 = some (.cells #[.int .i64 m] t fr) := by
 obtain ⟨m, hm⟩ := cell_of_shapedOpen_int (zero := #[.int .i64 0]) (t := 3) (g := 0) h (of_decide_eq_true z_6) z_6 rfl z_6 z_6 Tryz.underlying3
 obtain ⟨cs, hcc, hsz, _⟩ := h.1 0 #[.int .i64 0] 3 (of_decide_eq_true z_6) z_6
 have hv : W.var? Tryz.prog "internal/bytealg.MaxLen" = some cs := by
  unfold World.var?
  rw [gMax]
  simp only [Option.bind_some]
  rw [hcc]
 have h3 := World.var?_cell gMax hv 0
 rw [hm] at h3
 have hs1 : cs.size = 1 := hsz
 have hcs := one_of hs1 h3.symm
 subst hcs
 exact ⟨_, _, _, hcc⟩
theorem pow_eq : (Rows.laid_internal_strconv_uint64pow10 : DataW Unit) = Lib.tabData .u64 Lib.pow10Tab := rfl
theorem gl_of_laid {W : World} (hL : laidMetH Tryz.prog laidL W) (hO : W.ShapedOpen Tryz.prog) : Gl (hp W) := by
 rw [MakeChecks.laidMetH_plain _ _ _ z_6] at hL
 have h2 := hL.tail.tail
 have h4 := h2.tail.tail
 rw [pow_eq] at h2
 have hP := Lib.tabIs_of_head gPow gPowT Tryz.underlying132 Tryz.underlying22 z_6 z_6 h2
 obtain ⟨a3, s3, v3, _⟩ := laid_sentinel h4 gRng gRngT Tryz.underlying94 row167 Tryz.underlying167 Tryz.underlying169 rfl rfl Tryz.underlying9 z_6 z_6
 obtain ⟨a2, s2, v2, _⟩ := laid_sentinel h4.tail gSyn gSynT Tryz.underlying94 row167 Tryz.underlying167 Tryz.underlying169 rfl rfl Tryz.underlying9 z_6 z_6
 obtain ⟨t1, f1, b1⟩ := var_block gPow hP
 obtain ⟨t2, f2, b2⟩ := var_block gSyn v2
 obtain ⟨t3, f3, b3⟩ := var_block gRng v3
 exact ⟨max_open hO, ⟨t1, f1, b1⟩, ⟨_, t2, f2, b2, .inr ⟨_, _, rfl⟩⟩, ⟨_, t3, f3, b3, .inr ⟨_, _, rfl⟩⟩⟩
end Go.Proofs.YtgllpcggdcknaaaGreatDoor.Rp
namespace Go.Proofs.YtgllpcggdcknaaaGreatDoor.Rp
open Go Go.Sl Go.RowKit
def lit1 : DataW Unit → Value
 | .lit (.int k n) => .int k n
 | _ => .nilFunc
def tab1 : DataW Unit → List Value
 | .agg ps => ps.map lit1
 | _ => []
def tab2 : DataW Unit → List Value
 | .agg ps => ps.flatMap tab1
 | _ => []
def putO (cs : List Value) : Obj → Obj
 | .cells _ t fr => .cells cs.toArray t fr
 | o => o
noncomputable def low : Nat := (World.holding Tryz.prog default ⟨#[], #[], []⟩).heap.size
abbrev rngS : ByteArray := ⟨#[118, 97, 108, 117, 101, 32, 111, 117, 116, 32, 111, 102, 32, 114, 97, 110, 103, 101]⟩
abbrev synS : ByteArray := ⟨#[105, 110, 118, 97, 108, 105, 100, 32, 115, 121, 110, 116, 97, 120]⟩
noncomputable def laidWorld (os : Os) : World :=
 let w0 := World.holding Tryz.prog os ⟨#[.cells #[.string rngS] 169, .cells #[.string synS] 169], #[], []⟩
 { w0 with heap := ((((((w0.heap.modify 1 (putO (tab1 Rows.laid_internal_strconv_uint64pow10))).modify 2 (putO [.iface 167 (.pointer (some ⟨low + 1, 0, none⟩))])).modify 3 (putO [.iface 167 (.pointer (some ⟨low, 0, none⟩))])).modify 4 (putO (tab1 Rows.laid_math_bits_deBruijn32tab))).modify 5 (putO (tab1 Rows.laid_math_bits_deBruijn64tab))).modify 6 (putO (tab1 Rows.laid_unicode_utf8_first))).modify 7 (putO (tab2 Rows.laid_unicode_utf8_acceptRanges)) }
set_option maxRecDepth 100000 in
theorem laid_met (os : Os) (args : Array Value) : laidMetH Tryz.prog laidL ((laidWorld os).forCall (fun _ _ => 0) ⟨#[], args, []⟩).memory := by
 rw [MakeChecks.laidMetH_plain _ _ _ z_6]
 exact laidMet_of_run3 8 z_6 z_6 z_6
set_option maxRecDepth 100000 in
theorem laid_vars (os : Os) (args : Array Value) : ((laidWorld os).forCall (fun _ _ => 0) ⟨#[], args, []⟩).variablesRefB Tryz.prog = true := by kernel_rfl
set_option maxRecDepth 100000 in
theorem laid_rest (os : Os) (args : Array Value) : (((laidWorld os).forCall (fun _ _ => 0) ⟨#[], args, []⟩).heap.toList.drop Tryz.prog.globals.size).take ((begin Tryz.prog (fun _ _ => 0) default).world.heap.size - Tryz.prog.globals.size) =
   (begin Tryz.prog (fun _ _ => 0) default).world.heap.toList.drop Tryz.prog.globals.size := by kernel_rfl
end Go.Proofs.YtgllpcggdcknaaaGreatDoor.Rp
namespace Go.Proofs.YtgllpcggdcknaaaGreatDoor.Rp
open Go Go.Sl Go.RowKit
mutual
theorem bulk_eq {H : Type} : ∀ d : DataW H, Rows.uptoBulk d = bulkOf d
 | .lit l => by cases l <;> rfl
 | .nil => rfl
 | .ptr d => by simp only [Rows.uptoBulk, bulkOf, bulk_eq d]
 | .slice e s => by simp only [Rows.uptoBulk, bulkOf, bulk_all e, bulk_all s]
 | .agg p => by simp only [Rows.uptoBulk, bulkOf, bulk_all p]
 | .iface _ d => by simp only [Rows.uptoBulk, bulkOf, bulk_eq d]
 | .map e => by simp only [Rows.uptoBulk, bulkOf, bulk_entries e]
 | .held _ => rfl
theorem bulk_all {H : Type} : ∀ l : List (DataW H), Rows.uptoBulkAll l = bulkAll l
 | [] => rfl
 | d :: r => by simp only [Rows.uptoBulkAll, bulkAll, bulk_eq d, bulk_all r]
theorem bulk_entries {H : Type} : ∀ l : List (Lit × DataW H), Rows.uptoBulkEntries l = bulkEntries l
 | [] => rfl
 | x :: r => by simp only [Rows.uptoBulkEntries, bulkEntries, bulk_entry x, bulk_entries r]
theorem bulk_entry {H : Type} : ∀ x : Lit × DataW H, Rows.uptoBulkEntry x = bulkEntry x
 | (l, d) => by cases l <;> simp only [Rows.uptoBulkEntry, bulkEntry, bulk_eq d]
end
theorem own : ownKnob Tryz.prog.godebug = none := by kernel_rfl
end Go.Proofs.YtgllpcggdcknaaaGreatDoor.Rp
