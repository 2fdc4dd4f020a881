import Derived.Test.YtgllpcggdcknaaaGreatDoorIx12
import Derived.Test.YtgllpcggdcknaaaGreatDoorIx10
import Derived.Test.YtgllpcggdcknaaaGreatDoorIx2
import Derived.Carry
import Derived.ChangeSame
import Derived.OpenShut
import Derived.SizedLaws
import Derived.JoinedCond
import Derived.JoinedOf
import Derived.Deep.CondSized
import Derived.ChangeMaps5
import Derived.SliceStrings
import Derived.Test.YtgllpcggdcknaaaGreatDoorRows
import Derived.Test.YtgllpcggdcknaaaGreatDoorIx5
import Derived.WalkKit
import Derived.ProofKit
import Derived.MakeChecks
import Derived.Lib.LaidTab
import Derived.Stop.LaidErr
import Derived.Deep.DeepLaidRun
import Derived.Deep.DeepHandedRow
import Derived.Deep.DeepWitnessRowRef
set_option linter.unusedVariables false
set_option linter.unusedSimpArgs false
namespace Go.Proofs.YtgllpcggdcknaaaGreatDoor.Rp
open Go Go.Sl Go.RowKit
set_option maxRecDepth 8000 in
theorem eqB_ct (l m : List Bs) (a b : Option Addr) (c d : Nat) (hl : l.length ≤ 1000000000000) : Pu Tryz.prog 37 [.slice a l.length c, .slice b m.length d] (fun h => RdS h a (fV l) ∧ RdS h b (fV m)) (.bool (decide (l = m))) := by
 refine ct_enter 26 Tryz.func37 rfl rfl rfl ?_
 intro F hr
 have hrd := hr.1
 have hrm := hr.2
 repeat refine x_ ?_
 refine a_ ?_
 repeat refine x_ ?_
 refine m_ ?_
 refine f_ (s_len_sl rfl) ?_
 refine m_ ?_
 refine f_ (s_len_sl rfl) ?_
 refine f_ (s_neq rfl rfl) ?_
 repeat refine n_ ?_
 refine g_cond rfl (fun h => ?_) (fun h => ?_)
 ·have hne : l ≠ m := by rintro rfl; simp at h
  rw [decide_eq_false hne]
  repeat refine x_ ?_
  refine a_ ?_
  repeat refine n_ ?_
  refine g_ret ?_
  exact at_end1 rfl rfl [] ⟨rfl, rfl⟩ (fun _ h => h)
 have hlen : l.length = m.length := by simp at h; omega
 repeat refine x_ ?_
 refine m_ ?_
 refine f_ (s_len_sl rfl) ?_
 refine m_ ?_
 repeat refine n_ ?_
 refine g_loop (ι := Nat) (fun k => k ≤ l.length ∧ ∀ i, i < k → l.getD i [] = m.getD i []) (fun k => [(0, .slice a l.length c), (1, .slice b m.length d), (12, .int .i64 (l.length : Nat)), (13, .int .i64 (k : Nat))]) (fun k => []) (fun k => l.length - k) 0 ⟨by omega, fun i h => by omega⟩ ?_ ?_ ?_
 ·(repeat (first | exact Sub.nil _ | refine Sub.cons rfl ?_))
 ·intro w hw; exact hw
 intro k hk
 obtain ⟨hk, hok⟩ := hk
 repeat refine x_ ?_
 refine f_ (s_lss rfl rfl) ?_
 repeat refine n_ ?_
 refine g_cond rfl (fun h => ?_) (fun h => ?_)
 ·have hk' : k < l.length := by simp at h; omega
  have hsome := rdB_some hrd hk'
  have hsome2 := rdB_some hrm (i := k) (by omega)
  repeat refine x_ ?_
  refine m_ ?_
  refine a_ ?_
  repeat refine n_ ?_
  refine g_draw0 ([3, 7], [0, 0, 3, 7, 0, 0, 48, 112, 255], []) 9 rfl ?_
  refine w_ 0 rfl (s_move rfl) ?_
  refine w_ 1 rfl (s_move rfl) ?_
  refine w_ 2 rfl (s_indexAddr rfl (by assumption) rfl (by omega)) ?_
  refine ga_readF 3 rfl (s_load1 rfl (fun w hw => rdB hw hrd (i := k) (by omega) (by omega))) z_8 rfl rfl rfl z_5 ?_
  refine w_ 4 rfl (s_move rfl) ?_
  refine w_ 5 rfl (s_move rfl) ?_
  refine w_ 6 rfl (s_indexAddr rfl (by assumption) rfl (by omega)) ?_
  refine ga_readF 7 rfl (s_load1 rfl (fun w hw => rdB hw hrm (i := k) (by omega) (by omega))) z_8 rfl rfl rfl z_5 ?_
  refine w_ 8 rfl (s_neq_str rfl rfl) ?_
  refine ga_done z_5 ?_
  repeat refine y_ ?_
  refine g_cond rfl (fun h2 => ?_) (fun h2 => ?_)
  ·have hne : l ≠ m := by rintro rfl; simp at h2
   rw [decide_eq_false hne]
   repeat refine x_ ?_
   refine a_ ?_
   repeat refine n_ ?_
   refine g_ret ?_
   exact at_end1 rfl rfl [] ⟨rfl, rfl⟩ (fun _ h => h)
  ·have h3 : l.getD k [] = m.getD k [] := by first | (simpa using h2) | (simp at h2 ⊢; omega)
   repeat refine x_ ?_
   refine f_ ((s_add_i64 rfl rfl (by omega)).eq (v' := .int .i64 ((k + 1 : Nat) : Int)) (by congr 1)) ?_
   refine m_ ?_
   repeat refine n_ ?_
   refine at_next (k + 1) ⟨by omega, fun i hi => ?_⟩ (by omega) ?_ ?_
   ·rcases Nat.lt_succ_iff_lt_or_eq.1 hi with h4 | rfl
    ·exact hok i h4
    ·exact h3
   ·(repeat (first | exact Sub.nil _ | refine Sub.cons rfl ?_))
   ·intro w hw; exact hw
 ·have hkl : k = l.length := by simp at h; omega
  have e : l = m := getB_ext hlen fun i hi => hok i (by omega)
  rw [decide_eq_true e]
  repeat refine x_ ?_
  refine a_ ?_
  repeat refine n_ ?_
  refine g_ret ?_
  exact at_end1 rfl rfl [] ⟨rfl, rfl⟩ (fun _ h => h)
set_option maxRecDepth 8000 in
theorem eqN_ct (l m : List Nat) (a b : Option Addr) (c d : Nat) (hl : l.length ≤ 1000000000000) : Pu Tryz.prog 38 [.slice a l.length c, .slice b m.length d] (fun h => RdS h a (nV l) ∧ RdS h b (nV m)) (.bool (decide (l = m))) := by
 refine ct_enter 26 Tryz.func38 rfl rfl rfl ?_
 intro F hr
 have hrd := hr.1
 have hrm := hr.2
 repeat refine x_ ?_
 refine a_ ?_
 repeat refine x_ ?_
 refine m_ ?_
 refine f_ (s_len_sl rfl) ?_
 refine m_ ?_
 refine f_ (s_len_sl rfl) ?_
 refine f_ (s_neq rfl rfl) ?_
 repeat refine n_ ?_
 refine g_cond rfl (fun h => ?_) (fun h => ?_)
 ·have hne : l ≠ m := by rintro rfl; simp at h
  rw [decide_eq_false hne]
  repeat refine x_ ?_
  refine a_ ?_
  repeat refine n_ ?_
  refine g_ret ?_
  exact at_end1 rfl rfl [] ⟨rfl, rfl⟩ (fun _ h => h)
 have hlen : l.length = m.length := by simp at h; omega
 repeat refine x_ ?_
 refine m_ ?_
 refine f_ (s_len_sl rfl) ?_
 refine m_ ?_
 repeat refine n_ ?_
 refine g_loop (ι := Nat) (fun k => k ≤ l.length ∧ ∀ i, i < k → l.getD i 0 = m.getD i 0) (fun k => [(0, .slice a l.length c), (1, .slice b m.length d), (12, .int .i64 (l.length : Nat)), (13, .int .i64 (k : Nat))]) (fun k => []) (fun k => l.length - k) 0 ⟨by omega, fun i h => by omega⟩ ?_ ?_ ?_
 ·(repeat (first | exact Sub.nil _ | refine Sub.cons rfl ?_))
 ·intro w hw; exact hw
 intro k hk
 obtain ⟨hk, hok⟩ := hk
 repeat refine x_ ?_
 refine f_ (s_lss rfl rfl) ?_
 repeat refine n_ ?_
 refine g_cond rfl (fun h => ?_) (fun h => ?_)
 ·have hk' : k < l.length := by simp at h; omega
  have hsome := rdN_some hrd hk'
  have hsome2 := rdN_some hrm (i := k) (by omega)
  repeat refine x_ ?_
  refine m_ ?_
  refine a_ ?_
  repeat refine n_ ?_
  refine g_draw0 ([3, 7], [0, 0, 3, 7, 0, 0, 48, 112, 255], []) 9 rfl ?_
  refine w_ 0 rfl (s_move rfl) ?_
  refine w_ 1 rfl (s_move rfl) ?_
  refine w_ 2 rfl (s_indexAddr rfl (by assumption) rfl (by omega)) ?_
  refine ga_readF 3 rfl (s_load1 rfl (fun w hw => rdN hw hrd (i := k) (by omega) (by omega))) z_8 rfl rfl rfl z_5 ?_
  refine w_ 4 rfl (s_move rfl) ?_
  refine w_ 5 rfl (s_move rfl) ?_
  refine w_ 6 rfl (s_indexAddr rfl (by assumption) rfl (by omega)) ?_
  refine ga_readF 7 rfl (s_load1 rfl (fun w hw => rdN hw hrm (i := k) (by omega) (by omega))) z_8 rfl rfl rfl z_5 ?_
  refine w_ 8 rfl (s_neq rfl rfl) ?_
  refine ga_done z_5 ?_
  repeat refine y_ ?_
  refine g_cond rfl (fun h2 => ?_) (fun h2 => ?_)
  ·have hne : l ≠ m := by rintro rfl; simp at h2
   rw [decide_eq_false hne]
   repeat refine x_ ?_
   refine a_ ?_
   repeat refine n_ ?_
   refine g_ret ?_
   exact at_end1 rfl rfl [] ⟨rfl, rfl⟩ (fun _ h => h)
  ·have h3 : l.getD k 0 = m.getD k 0 := by first | (simpa using h2) | (simp at h2 ⊢; omega)
   repeat refine x_ ?_
   refine f_ ((s_add_i64 rfl rfl (by omega)).eq (v' := .int .i64 ((k + 1 : Nat) : Int)) (by congr 1)) ?_
   refine m_ ?_
   repeat refine n_ ?_
   refine at_next (k + 1) ⟨by omega, fun i hi => ?_⟩ (by omega) ?_ ?_
   ·rcases Nat.lt_succ_iff_lt_or_eq.1 hi with h4 | rfl
    ·exact hok i h4
    ·exact h3
   ·(repeat (first | exact Sub.nil _ | refine Sub.cons rfl ?_))
   ·intro w hw; exact hw
 ·have hkl : k = l.length := by simp at h; omega
  have e : l = m := getN_ext hlen fun i hi => hok i (by omega)
  rw [decide_eq_true e]
  repeat refine x_ ?_
  refine a_ ?_
  repeat refine n_ ?_
  refine g_ret ?_
  exact at_end1 rfl rfl [] ⟨rfl, rfl⟩ (fun _ h => h)
theorem scb6 (q1 q2 q3 q4 q5 q6 : Bool) : (q1 = false) ∨ (q1 = true ∧ q2 = false) ∨ (q1 = true ∧ q2 = true ∧ q3 = false) ∨ (q1 = true ∧ q2 = true ∧ q3 = true ∧ q4 = false) ∨ (q1 = true ∧ q2 = true ∧ q3 = true ∧ q4 = true ∧ q5 = false) ∨ (q1 = true ∧ q2 = true ∧ q3 = true ∧ q4 = true ∧ q5 = true ∧ q6 = false) ∨ (q1 = true ∧ q2 = true ∧ q3 = true ∧ q4 = true ∧ q5 = true ∧ q6 = true) := by
 cases q1 with
 | false => simp
 | true =>
 cases q2 with
 | false => simp
 | true =>
 cases q3 with
 | false => simp
 | true =>
 cases q4 with
 | false => simp
 | true =>
 cases q5 with
 | false => simp
 | true =>
 cases q6 with
 | false => simp
 | true =>
 simp
theorem scb10 (q1 q2 q3 q4 q5 q6 q7 q8 q9 q10 : Bool) : (q1 = false) ∨ (q1 = true ∧ q2 = false) ∨ (q1 = true ∧ q2 = true ∧ q3 = false) ∨ (q1 = true ∧ q2 = true ∧ q3 = true ∧ q4 = false) ∨ (q1 = true ∧ q2 = true ∧ q3 = true ∧ q4 = true ∧ q5 = false) ∨ (q1 = true ∧ q2 = true ∧ q3 = true ∧ q4 = true ∧ q5 = true ∧ q6 = false) ∨ (q1 = true ∧ q2 = true ∧ q3 = true ∧ q4 = true ∧ q5 = true ∧ q6 = true ∧ q7 = false) ∨ (q1 = true ∧ q2 = true ∧ q3 = true ∧ q4 = true ∧ q5 = true ∧ q6 = true ∧ q7 = true ∧ q8 = false) ∨ (q1 = true ∧ q2 = true ∧ q3 = true ∧ q4 = true ∧ q5 = true ∧ q6 = true ∧ q7 = true ∧ q8 = true ∧ q9 = false) ∨ (q1 = true ∧ q2 = true ∧ q3 = true ∧ q4 = true ∧ q5 = true ∧ q6 = true ∧ q7 = true ∧ q8 = true ∧ q9 = true ∧ q10 = false) ∨ (q1 = true ∧ q2 = true ∧ q3 = true ∧ q4 = true ∧ q5 = true ∧ q6 = true ∧ q7 = true ∧ q8 = true ∧ q9 = true ∧ q10 = true) := by
 cases q1 with
 | false => simp
 | true =>
 cases q2 with
 | false => simp
 | true =>
 cases q3 with
 | false => simp
 | true =>
 cases q4 with
 | false => simp
 | true =>
 cases q5 with
 | false => simp
 | true =>
 cases q6 with
 | false => simp
 | true =>
 cases q7 with
 | false => simp
 | true =>
 cases q8 with
 | false => simp
 | true =>
 cases q9 with
 | false => simp
 | true =>
 cases q10 with
 | false => simp
 | true =>
 simp
set_option maxRecDepth 8000 in
theorem same1_ct (u v : VM) (hl : u.v.flags.length ≤ 1000000000000) : Pu Tryz.prog 36 [vmA u, vmA v] (fun h => RdS h u.a (fV u.v.flags) ∧ RdS h v.a (fV v.v.flags)) (.bool (decide (u.v = v.v))) := by
 obtain ⟨p1, hp1⟩ : ∃ q, q = decide (u.v.kind = v.v.kind) := ⟨_, rfl⟩
 obtain ⟨p2, hp2⟩ : ∃ q, q = decide ((u.v.n : Int) = v.v.n) := ⟨_, rfl⟩
 obtain ⟨p3, hp3⟩ : ∃ q, q = decide (u.v.flags = v.v.flags) := ⟨_, rfl⟩
 obtain ⟨p4, hp4⟩ : ∃ q, q = decide (u.v.text = v.v.text) := ⟨_, rfl⟩
 obtain ⟨p5, hp5⟩ : ∃ q, q = (u.v.part == v.v.part) := ⟨_, rfl⟩
 obtain ⟨p6, hp6⟩ : ∃ q, q = decide ((u.v.fr : Int) = v.v.fr) := ⟨_, rfl⟩
 have e : decide (u.v = v.v) = (p1 && p2 && p3 && p4 && p5 && p6) := by
  rw [hp1, hp2, hp3, hp4, hp5, hp6, Bool.eq_iff_iff]
  simp only [Bool.and_eq_true, decide_eq_true_eq, beq_iff_eq]
  constructor
  ·intro e; rw [e]; simp
  ·rintro ⟨⟨⟨⟨⟨a, b⟩, c⟩, d⟩, e⟩, f⟩; exact RV.ext' a (by omega) c d e (by omega)
 rw [e]
 clear e
 refine ct_enter 45 Tryz.func36 rfl rfl rfl ?_
 intro F hr
 have hra := hr.1
 have hrb := hr.2
 repeat refine x_ ?_
 refine gl_boxA rfl rfl ?_; intro g2
 refine gl_boxA rfl rfl ?_; intro g3
 refine a_ ?_
 repeat refine n_ ?_
 rcases scb6 p1 p2 p3 p4 p5 p6 with rfl | ⟨rfl, rfl⟩ | ⟨rfl, rfl, rfl⟩ | ⟨rfl, rfl, rfl, rfl⟩ | ⟨rfl, rfl, rfl, rfl, rfl⟩ | ⟨rfl, rfl, rfl, rfl, rfl, rfl⟩ | ⟨rfl, rfl, rfl, rfl, rfl, rfl⟩
 all_goals (
  repeat refine x_ ?_
  refine f_ z_1 ?_
  refine r_ (by exact s_load_blk rfl z_2 a6_0) ?_
  refine f_ z_1 ?_
  refine r_ (by exact s_load_blk rfl z_2 a6_0) ?_
  refine f_ ((s_eql rfl rfl).eb hp1) ?_
  refine m_ ?_
  (first | refine gl_guard_no rfl rfl rfl rfl rfl rfl rfl ?_ | (refine v_ ?_; refine f_ z_1 ?_))
  (first | refine gl_guard_no rfl rfl rfl rfl rfl rfl rfl ?_ | (refine v_ ?_; refine r_ (by exact s_load_blk rfl z_2 a6_1) ?_))
  (first | refine gl_guard_no rfl rfl rfl rfl rfl rfl rfl ?_ | (refine v_ ?_; refine f_ z_1 ?_))
  (first | refine gl_guard_no rfl rfl rfl rfl rfl rfl rfl ?_ | (refine v_ ?_; refine r_ (by exact s_load_blk rfl z_2 a6_1) ?_))
  (first | refine gl_guard_no rfl rfl rfl rfl rfl rfl rfl ?_ | (refine v_ ?_; refine f_ ((s_eql rfl rfl).eb hp2) ?_))
  refine f_ z_4 ?_
  refine m_ ?_
  (first | refine gl_guard_no rfl rfl rfl rfl rfl rfl rfl ?_ | (refine v_ ?_; refine f_ z_1 ?_))
  (first | refine gl_guard_no rfl rfl rfl rfl rfl rfl rfl ?_ | (refine v_ ?_; refine r_ (by exact s_load_blk rfl z_2 a6_2) ?_))
  (first | refine gl_guard_no rfl rfl rfl rfl rfl rfl rfl ?_ | (refine v_ ?_; refine f_ z_1 ?_))
  (first | refine gl_guard_no rfl rfl rfl rfl rfl rfl rfl ?_ | (refine v_ ?_; refine r_ (by exact s_load_blk rfl z_2 a6_2) ?_))
  (first | refine gl_guard_no rfl rfl rfl rfl rfl rfl rfl ?_ | (refine v_ ?_; refine gl_callp rfl (eqB_ct u.v.flags v.v.flags u.a v.a u.c v.c hl) (fun h hh hb => ⟨hra.le hh, hrb.le hh⟩) rfl ?_; rw [← hp3]))
  refine f_ z_4 ?_
  refine m_ ?_
  (first | refine gl_guard_no rfl rfl rfl rfl rfl rfl rfl ?_ | (refine v_ ?_; refine f_ z_1 ?_))
  (first | refine gl_guard_no rfl rfl rfl rfl rfl rfl rfl ?_ | (refine v_ ?_; refine r_ (by exact s_load_blk rfl z_2 a6_3) ?_))
  (first | refine gl_guard_no rfl rfl rfl rfl rfl rfl rfl ?_ | (refine v_ ?_; refine f_ z_1 ?_))
  (first | refine gl_guard_no rfl rfl rfl rfl rfl rfl rfl ?_ | (refine v_ ?_; refine r_ (by exact s_load_blk rfl z_2 a6_3) ?_))
  (first | refine gl_guard_no rfl rfl rfl rfl rfl rfl rfl ?_ | (refine v_ ?_; refine f_ ((s_eql_str rfl rfl).eb hp4) ?_))
  refine f_ z_4 ?_
  refine m_ ?_
  (first | refine gl_guard_no rfl rfl rfl rfl rfl rfl rfl ?_ | (refine v_ ?_; refine f_ z_1 ?_))
  (first | refine gl_guard_no rfl rfl rfl rfl rfl rfl rfl ?_ | (refine v_ ?_; refine r_ (by exact s_load_blk rfl z_2 a6_4) ?_))
  (first | refine gl_guard_no rfl rfl rfl rfl rfl rfl rfl ?_ | (refine v_ ?_; refine f_ z_1 ?_))
  (first | refine gl_guard_no rfl rfl rfl rfl rfl rfl rfl ?_ | (refine v_ ?_; refine r_ (by exact s_load_blk rfl z_2 a6_4) ?_))
  (first | refine gl_guard_no rfl rfl rfl rfl rfl rfl rfl ?_ | (refine v_ ?_; refine f_ ((s_eql_bool rfl rfl).eb hp5) ?_))
  refine f_ z_4 ?_
  refine m_ ?_
  (first | refine gl_guard_no rfl rfl rfl rfl rfl rfl rfl ?_ | (refine v_ ?_; refine f_ z_1 ?_))
  (first | refine gl_guard_no rfl rfl rfl rfl rfl rfl rfl ?_ | (refine v_ ?_; refine r_ (by exact s_load_blk rfl z_2 a6_5) ?_))
  (first | refine gl_guard_no rfl rfl rfl rfl rfl rfl rfl ?_ | (refine v_ ?_; refine f_ z_1 ?_))
  (first | refine gl_guard_no rfl rfl rfl rfl rfl rfl rfl ?_ | (refine v_ ?_; refine r_ (by exact s_load_blk rfl z_2 a6_5) ?_))
  (first | refine gl_guard_no rfl rfl rfl rfl rfl rfl rfl ?_ | (refine v_ ?_; refine f_ ((s_eql rfl rfl).eb hp6) ?_))
  refine f_ z_4 ?_
  refine a_ ?_
  refine gl_nil ?_
  repeat refine y_ ?_)
 all_goals (refine g_ret ?_; exact at_end1 rfl rfl [] ⟨rfl, rfl⟩ (fun w hw => hw.dropAll))
set_option maxRecDepth 8000 in
theorem eqV_ct (l m : List VM) (a b : Option Addr) (c d : Nat) (hl : l.length ≤ 1000000000000) (hz : ∀ u ∈ l, u.v.flags.length ≤ 1000000000000) : Pu Tryz.prog 39 [.slice a l.length c, .slice b m.length d, .func (.func 36) #[] #[]] (fun h => (RdS h a (vmV l) ∧ ∀ u ∈ l, RdS h u.a (fV u.v.flags)) ∧ (RdS h b (vmV m) ∧ ∀ u ∈ m, RdS h u.a (fV u.v.flags))) (.bool (decide (l.map VM.v = m.map VM.v))) := by
 refine ct_enter 32 Tryz.func39 rfl rfl rfl ?_
 intro F hr
 have hra := hr.1.1
 have hrb := hr.2.1
 repeat refine x_ ?_
 refine a_ ?_
 repeat refine x_ ?_
 refine m_ ?_
 refine f_ (s_len_sl rfl) ?_
 refine m_ ?_
 refine f_ (s_len_sl rfl) ?_
 refine f_ (s_neq rfl rfl) ?_
 repeat refine n_ ?_
 refine g_cond rfl (fun h => ?_) (fun h => ?_)
 ·have hne : l.map VM.v ≠ m.map VM.v := by
   intro e
   have := congrArg List.length e
   rw [List.length_map, List.length_map] at this
   rw [this] at h
   simp at h
  rw [decide_eq_false hne]
  repeat refine x_ ?_
  refine a_ ?_
  repeat refine n_ ?_
  refine g_ret ?_
  exact at_end1 rfl rfl [] ⟨rfl, rfl⟩ (fun _ h => h)
 have hlen : l.length = m.length := by simp at h; omega
 repeat refine x_ ?_
 refine m_ ?_
 refine f_ (s_len_sl rfl) ?_
 refine m_ ?_
 repeat refine n_ ?_
 refine g_loop (ι := Nat) (fun k => k ≤ l.length ∧ ∀ i, i < k → (l.getD i VM0).v = (m.getD i VM0).v) (fun k => [(0, .slice a l.length c), (1, .slice b m.length d), (2, .func (.func 36) #[] #[]), (15, .slice a l.length c), (16, .int .i64 (l.length : Nat)), (17, .int .i64 (k : Nat))]) (fun _ => []) (fun k => l.length - k) 0 ⟨by omega, fun i h => by omega⟩ ?_ ?_ ?_
 ·(repeat (first | exact Sub.nil _ | refine Sub.cons rfl ?_))
 ·intro w hw; exact hw
 rintro k ⟨hk, hok⟩
 repeat refine x_ ?_
 refine f_ (s_lss rfl rfl) ?_
 repeat refine n_ ?_
 refine g_cond rfl (fun h => ?_) (fun h => ?_)
 ·have hk' : k < l.length := by simp at h; omega
  have hk2 : k < m.length := by omega
  have hs1 := rdVM_some hra hk'
  have hs2 := rdVM_some hrb hk2
  obtain ⟨u, hue⟩ : ∃ u, u = l.getD k VM0 := ⟨_, rfl⟩
  obtain ⟨v, hve⟩ : ∃ u, u = m.getD k VM0 := ⟨_, rfl⟩
  have hum : u ∈ l := by rw [hue]; exact getVM_mem hk'
  have hvm : v ∈ m := by rw [hve]; exact getVM_mem hk2
  have hru := hr.1.2 u hum
  have hrv := hr.2.2 v hvm
  repeat refine x_ ?_
  refine m_ ?_
  refine f_ (s_indexAddr rfl (by assumption) rfl (by omega)) ?_
  refine r_ (s_loadN (cs := vmC u) rfl (fun w hw => by rw [hue]; exact rdVM hw hra (i := k) (by omega) hk') rfl) ?_
  refine gl_allocA rfl ?_; intro g8
  refine a_ ?_
  (refine gl_store_blkW rfl rfl z_6 z_7 z_7 z_3 ?_)
  repeat refine x_ ?_
  refine m_ ?_
  refine m_ ?_
  refine f_ (s_indexAddr rfl (by assumption) rfl (by omega)) ?_
  refine r_ (s_loadN (cs := vmC v) rfl (fun w hw => by rw [hve]; exact rdVM hw hrb (i := k) (by omega) hk2) rfl) ?_
  refine gl_allocA rfl ?_; intro g9
  (refine gl_store_blkW rfl rfl z_6 z_7 z_7 z_3 ?_)
  repeat refine x_ ?_
  refine m_ ?_
  refine r_ ((s_load_blkW rfl z_2 z_7).eq (v' := vmA u) rfl) ?_
  refine r_ ((s_load_blkW rfl z_2 z_7).eq (v' := vmA v) rfl) ?_
  refine gl_callv _ rfl rfl (ps := []) (qs := []) rfl (same1_ct u v (hz u hum)) i_ (fun h hh hb => ⟨hru.le hh, hrv.le hh⟩) rfl ?_; rintro v A ⟨rfl, rfl⟩
  refine f_ (s_not rfl) ?_
  repeat refine n_ ?_
  refine g_cond rfl (fun h2 => ?_) (fun h2 => ?_)
  ·have huv : u.v ≠ v.v := by simpa using h2
   have hne : l.map VM.v ≠ m.map VM.v := by
    intro e
    refine huv ?_
    have h3 : (l.map VM.v)[k]? = (m.map VM.v)[k]? := by rw [e]
    rw [List.getElem?_map, List.getElem?_map, List.getElem?_eq_getElem hk', List.getElem?_eq_getElem hk2] at h3
    rw [hue, hve, List.getD_eq_getElem?_getD, List.getD_eq_getElem?_getD, List.getElem?_eq_getElem hk', List.getElem?_eq_getElem hk2]
    simpa using h3
   rw [decide_eq_false hne]
   repeat refine x_ ?_
   refine a_ ?_
   repeat refine n_ ?_
   refine g_ret ?_
   exact at_end1 rfl rfl [] ⟨rfl, rfl⟩ (fun _ h => h.dropAll)
  ·have h3 : u.v = v.v := by simpa using h2
   repeat refine x_ ?_
   refine f_ ((s_add_i64 rfl rfl (by omega)).eq (v' := .int .i64 ((k + 1 : Nat) : Int)) (by congr 1)) ?_
   refine m_ ?_
   repeat refine n_ ?_
   refine at_next (k + 1) ⟨by omega, fun i hi => ?_⟩ (by omega) ?_ ?_
   ·rcases Nat.lt_succ_iff_lt_or_eq.1 hi with h4 | rfl
    ·exact hok i h4
    ·rw [← hue, ← hve]; exact h3
   ·(repeat (first | exact Sub.nil _ | refine Sub.cons rfl ?_))
   ·intro w hw; exact hw.dropAll
 have hkl : k = l.length := by simp at h; omega
 subst hkl
 rw [decide_eq_true (getVM_ext hlen hok)]
 repeat refine x_ ?_
 refine a_ ?_
 repeat refine n_ ?_
 refine g_ret ?_
 exact at_end1 rfl rfl [] ⟨rfl, rfl⟩ (fun _ h => h)
set_option maxRecDepth 8000 in
set_option maxHeartbeats 1000000 in
theorem same_ct (r s : RR) (x y : RL) (hz : SzC r) (hv : r.values = x.vs.map VM.v) (hv2 : s.values = y.vs.map VM.v) : Pu Tryz.prog 16 [rrA r x, rrA s y] (fun h => RRd r x h ∧ RRd s y h) (.bool (decide (r = s))) := by
 have hzn := hz.nl
 have hzf := hz.fl
 have hzl := hz.vl
 have hzv := hz.vs
 unfold big at hzn hzf hzl hzv
 obtain ⟨q1, hq1⟩ : ∃ q, q = decide (r.kind = s.kind) := ⟨_, rfl⟩
 obtain ⟨q2, hq2⟩ : ∃ q, q = decide (r.tag = s.tag) := ⟨_, rfl⟩
 obtain ⟨q3, hq3⟩ : ∃ q, q = decide (r.code = s.code) := ⟨_, rfl⟩
 obtain ⟨q4, hq4⟩ : ∃ q, q = decide (r.text = s.text) := ⟨_, rfl⟩
 obtain ⟨q5, hq5⟩ : ∃ q, q = decide ((r.n : Int) = s.n) := ⟨_, rfl⟩
 obtain ⟨q6, hq6⟩ : ∃ q, q = decide (r.nums = s.nums) := ⟨_, rfl⟩
 obtain ⟨q7, hq7⟩ : ∃ q, q = decide (r.flags = s.flags) := ⟨_, rfl⟩
 obtain ⟨q8, hq8⟩ : ∃ q, q = decide (r.box = s.box) := ⟨_, rfl⟩
 obtain ⟨q9, hq9⟩ : ∃ q, q = decide (x.vs.map VM.v = y.vs.map VM.v) := ⟨_, rfl⟩
 obtain ⟨q10, hq10⟩ : ∃ q, q = decide ((r.mod : Int) = s.mod) := ⟨_, rfl⟩
 have e : decide (r = s) = (q1 && q2 && q3 && q4 && q5 && q6 && q7 && q8 && q9 && q10) := by
  rw [hq1, hq2, hq3, hq4, hq5, hq6, hq7, hq8, hq9, hq10, ← hv, ← hv2, Bool.eq_iff_iff]
  simp only [Bool.and_eq_true, decide_eq_true_eq]
  constructor
  ·intro e; rw [e]; simp
  ·rintro ⟨⟨⟨⟨⟨⟨⟨⟨⟨a, b⟩, c⟩, d⟩, e⟩, f⟩, g⟩, i⟩, j⟩, k⟩; exact RR.ext' a b c d (by omega) f (by omega) g i j
 rw [e]
 clear e
 have hxl : x.vs.length ≤ 1000000000000 := by have := congrArg List.length hv; rw [List.length_map] at this; omega
 have hxz : ∀ u ∈ x.vs, u.v.flags.length ≤ 1000000000000 := fun u hu => hzv _ (by rw [hv]; exact List.mem_map.mpr ⟨u, hu, rfl⟩)
 refine ct_enter 75 Tryz.func16 rfl rfl rfl ?_
 intro F hr
 have hra := hr.1
 have hrb := hr.2
 repeat refine x_ ?_
 refine gl_boxA rfl rfl ?_; intro g2
 refine gl_boxA rfl rfl ?_; intro g3
 refine a_ ?_
 repeat refine x_ ?_
 refine a_ ?_
 repeat refine n_ ?_
 rcases scb10 q1 q2 q3 q4 q5 q6 q7 q8 q9 q10 with rfl | ⟨rfl, rfl⟩ | ⟨rfl, rfl, rfl⟩ | ⟨rfl, rfl, rfl, rfl⟩ | ⟨rfl, rfl, rfl, rfl, rfl⟩ | ⟨rfl, rfl, rfl, rfl, rfl, rfl⟩ | ⟨rfl, rfl, rfl, rfl, rfl, rfl, rfl⟩ | ⟨rfl, rfl, rfl, rfl, rfl, rfl, rfl, rfl⟩ | ⟨rfl, rfl, rfl, rfl, rfl, rfl, rfl, rfl, rfl⟩ | ⟨rfl, rfl, rfl, rfl, rfl, rfl, rfl, rfl, rfl, rfl⟩ | ⟨rfl, rfl, rfl, rfl, rfl, rfl, rfl, rfl, rfl, rfl⟩
 all_goals (
  repeat refine x_ ?_
  refine f_ z_1 ?_
  refine r_ (by exact s_load_blk rfl z_2 a10_0) ?_
  refine f_ z_1 ?_
  refine r_ (by exact s_load_blk rfl z_2 a10_0) ?_
  refine f_ ((s_eql rfl rfl).eb hq1) ?_
  refine m_ ?_
  (first | refine gl_guard_no rfl rfl rfl rfl rfl rfl rfl ?_ | (refine v_ ?_; refine f_ z_1 ?_))
  (first | refine gl_guard_no rfl rfl rfl rfl rfl rfl rfl ?_ | (refine v_ ?_; refine r_ (by exact s_load_blk rfl z_2 a10_1) ?_))
  (first | refine gl_guard_no rfl rfl rfl rfl rfl rfl rfl ?_ | (refine v_ ?_; refine f_ z_1 ?_))
  (first | refine gl_guard_no rfl rfl rfl rfl rfl rfl rfl ?_ | (refine v_ ?_; refine r_ (by exact s_load_blk rfl z_2 a10_1) ?_))
  (first | refine gl_guard_no rfl rfl rfl rfl rfl rfl rfl ?_ | (refine v_ ?_; refine f_ ((s_eql_str rfl rfl).eb hq2) ?_))
  refine f_ z_4 ?_
  refine m_ ?_
  (first | refine gl_guard_no rfl rfl rfl rfl rfl rfl rfl ?_ | (refine v_ ?_; refine f_ z_1 ?_))
  (first | refine gl_guard_no rfl rfl rfl rfl rfl rfl rfl ?_ | (refine v_ ?_; refine r_ (by exact s_load_blk rfl z_2 a10_2) ?_))
  (first | refine gl_guard_no rfl rfl rfl rfl rfl rfl rfl ?_ | (refine v_ ?_; refine f_ z_1 ?_))
  (first | refine gl_guard_no rfl rfl rfl rfl rfl rfl rfl ?_ | (refine v_ ?_; refine r_ (by exact s_load_blk rfl z_2 a10_2) ?_))
  (first | refine gl_guard_no rfl rfl rfl rfl rfl rfl rfl ?_ | (refine v_ ?_; refine f_ ((s_eql_str rfl rfl).eb hq3) ?_))
  refine f_ z_4 ?_
  refine m_ ?_
  (first | refine gl_guard_no rfl rfl rfl rfl rfl rfl rfl ?_ | (refine v_ ?_; refine f_ z_1 ?_))
  (first | refine gl_guard_no rfl rfl rfl rfl rfl rfl rfl ?_ | (refine v_ ?_; refine r_ (by exact s_load_blk rfl z_2 a10_3) ?_))
  (first | refine gl_guard_no rfl rfl rfl rfl rfl rfl rfl ?_ | (refine v_ ?_; refine f_ z_1 ?_))
  (first | refine gl_guard_no rfl rfl rfl rfl rfl rfl rfl ?_ | (refine v_ ?_; refine r_ (by exact s_load_blk rfl z_2 a10_3) ?_))
  (first | refine gl_guard_no rfl rfl rfl rfl rfl rfl rfl ?_ | (refine v_ ?_; refine f_ ((s_eql_str rfl rfl).eb hq4) ?_))
  refine f_ z_4 ?_
  refine m_ ?_
  (first | refine gl_guard_no rfl rfl rfl rfl rfl rfl rfl ?_ | (refine v_ ?_; refine f_ z_1 ?_))
  (first | refine gl_guard_no rfl rfl rfl rfl rfl rfl rfl ?_ | (refine v_ ?_; refine r_ (by exact s_load_blk rfl z_2 a10_4) ?_))
  (first | refine gl_guard_no rfl rfl rfl rfl rfl rfl rfl ?_ | (refine v_ ?_; refine f_ z_1 ?_))
  (first | refine gl_guard_no rfl rfl rfl rfl rfl rfl rfl ?_ | (refine v_ ?_; refine r_ (by exact s_load_blk rfl z_2 a10_4) ?_))
  (first | refine gl_guard_no rfl rfl rfl rfl rfl rfl rfl ?_ | (refine v_ ?_; refine f_ ((s_eql rfl rfl).eb hq5) ?_))
  refine f_ z_4 ?_
  refine m_ ?_
  (first | refine gl_guard_no rfl rfl rfl rfl rfl rfl rfl ?_ | (refine v_ ?_; refine f_ z_1 ?_))
  (first | refine gl_guard_no rfl rfl rfl rfl rfl rfl rfl ?_ | (refine v_ ?_; refine r_ (by exact s_load_blk rfl z_2 a10_5) ?_))
  (first | refine gl_guard_no rfl rfl rfl rfl rfl rfl rfl ?_ | (refine v_ ?_; refine f_ z_1 ?_))
  (first | refine gl_guard_no rfl rfl rfl rfl rfl rfl rfl ?_ | (refine v_ ?_; refine r_ (by exact s_load_blk rfl z_2 a10_5) ?_))
  (first | refine gl_guard_no rfl rfl rfl rfl rfl rfl rfl ?_ | (refine v_ ?_; refine gl_callp rfl (eqN_ct r.nums s.nums x.na y.na x.nc y.nc hzn) (fun h hh hb => ⟨hra.nums.le hh, hrb.nums.le hh⟩) rfl ?_; rw [← hq6]))
  refine f_ z_4 ?_
  refine m_ ?_
  (first | refine gl_guard_no rfl rfl rfl rfl rfl rfl rfl ?_ | (refine v_ ?_; refine f_ z_1 ?_))
  (first | refine gl_guard_no rfl rfl rfl rfl rfl rfl rfl ?_ | (refine v_ ?_; refine r_ (by exact s_load_blk rfl z_2 a10_7) ?_))
  (first | refine gl_guard_no rfl rfl rfl rfl rfl rfl rfl ?_ | (refine v_ ?_; refine f_ z_1 ?_))
  (first | refine gl_guard_no rfl rfl rfl rfl rfl rfl rfl ?_ | (refine v_ ?_; refine r_ (by exact s_load_blk rfl z_2 a10_7) ?_))
  (first | refine gl_guard_no rfl rfl rfl rfl rfl rfl rfl ?_ | (refine v_ ?_; refine gl_callp rfl (eqB_ct r.flags s.flags x.fa y.fa x.fc y.fc hzf) (fun h hh hb => ⟨hra.flags.le hh, hrb.flags.le hh⟩) rfl ?_; rw [← hq7]))
  refine f_ z_4 ?_
  refine m_ ?_
  (first | refine gl_guard_no rfl rfl rfl rfl rfl rfl rfl ?_ | (refine v_ ?_; refine f_ z_1 ?_))
  (first | refine gl_guard_no rfl rfl rfl rfl rfl rfl rfl ?_ | (refine v_ ?_; refine r_ (by exact s_load_blk rfl z_2 a10_8) ?_))
  (first | refine gl_guard_no rfl rfl rfl rfl rfl rfl rfl ?_ | (refine v_ ?_; refine f_ z_1 ?_))
  (first | refine gl_guard_no rfl rfl rfl rfl rfl rfl rfl ?_ | (refine v_ ?_; refine r_ (by exact s_load_blk rfl z_2 a10_8) ?_))
  (first | refine gl_guard_no rfl rfl rfl rfl rfl rfl rfl ?_ | (refine v_ ?_; refine f_ ((s_eql_str rfl rfl).eb hq8) ?_))
  refine f_ z_4 ?_
  refine m_ ?_
  (first | refine gl_guard_no rfl rfl rfl rfl rfl rfl rfl ?_ | (refine v_ ?_; refine f_ z_1 ?_))
  (first | refine gl_guard_no rfl rfl rfl rfl rfl rfl rfl ?_ | (refine v_ ?_; refine r_ (by exact s_load_blk rfl z_2 a10_9) ?_))
  (first | refine gl_guard_no rfl rfl rfl rfl rfl rfl rfl ?_ | (refine v_ ?_; refine f_ z_1 ?_))
  (first | refine gl_guard_no rfl rfl rfl rfl rfl rfl rfl ?_ | (refine v_ ?_; refine r_ (by exact s_load_blk rfl z_2 a10_9) ?_))
  (first | refine gl_guard_no rfl rfl rfl rfl rfl rfl rfl ?_ | (refine v_ ?_; refine m_ ?_))
  (first | refine gl_guard_no rfl rfl rfl rfl rfl rfl rfl ?_ | (refine v_ ?_; refine gl_callp rfl (eqV_ct x.vs y.vs x.va y.va x.vc y.vc hxl hxz) (fun h hh hb => ⟨⟨hra.vs.le hh, fun m hm => (hra.fs m hm).le hh⟩, ⟨hrb.vs.le hh, fun m hm => (hrb.fs m hm).le hh⟩⟩) rfl ?_; rw [← hq9]))
  refine f_ z_4 ?_
  refine m_ ?_
  (first | refine gl_guard_no rfl rfl rfl rfl rfl rfl rfl ?_ | (refine v_ ?_; refine f_ z_1 ?_))
  (first | refine gl_guard_no rfl rfl rfl rfl rfl rfl rfl ?_ | (refine v_ ?_; refine r_ (by exact s_load_blk rfl z_2 a10_6) ?_))
  (first | refine gl_guard_no rfl rfl rfl rfl rfl rfl rfl ?_ | (refine v_ ?_; refine f_ z_1 ?_))
  (first | refine gl_guard_no rfl rfl rfl rfl rfl rfl rfl ?_ | (refine v_ ?_; refine r_ (by exact s_load_blk rfl z_2 a10_6) ?_))
  (first | refine gl_guard_no rfl rfl rfl rfl rfl rfl rfl ?_ | (refine v_ ?_; refine f_ ((s_eql rfl rfl).eb hq10) ?_))
  refine f_ z_4 ?_
  refine a_ ?_
  refine gl_nil ?_
  repeat refine y_ ?_)
 all_goals (refine g_ret ?_; exact at_end1 rfl rfl [] ⟨rfl, rfl⟩ (fun w hw => hw.dropAll))
end Go.Proofs.YtgllpcggdcknaaaGreatDoor.Rp
namespace Go.Proofs.YtgllpcggdcknaaaGreatDoor.Rp
open Go Go.Sl Go.RowKit
def writeS (r : RR) : Option Bs := if 1 ≤ r.kind ∧ r.kind ≤ 14 ∧ readS (textP r ++ crlf) = some (r, (textP r ++ crlf).length) then some (textP r ++ crlf) else none
def writeV (o : Option Bs) : Value := .tuple #[B (o.getD []), .int .i64 (if o.isSome = true then 0 else 1)]
theorem sc3o (q1 q2 : Bool) : q1 = false ∨ (q1 = true ∧ q2 = true) ∨ (q1 = true ∧ q2 = false) := by
 cases q1 <;> cases q2 <;> simp
set_option maxRecDepth 8000 in
theorem Print_ct (r : RR) (x : RL) (hz : SzW r) (hc : CapL r x) (hv : r.values = x.vs.map VM.v) (hl : (textP r).length < 4294967279) : Pu Tryz.prog 9 [rrA r x] (PreW r x) (writeV (writeS r)) := by
 obtain ⟨q1, hq1⟩ : ∃ q, q = decide (r.kind < 1) := ⟨_, rfl⟩
 obtain ⟨q2, hq2⟩ : ∃ q, q = decide (r.kind > 14) := ⟨_, rfl⟩
 have hqq : ¬(1 ≤ r.kind ∧ r.kind ≤ 14) ↔ (q1 || q2) = true := by
  rw [Bool.or_eq_true, hq1, hq2, decide_eq_true_eq, decide_eq_true_eq]
  omega
 refine ct_enter 40 Tryz.func9 rfl rfl rfl ?_
 intro F hh
 have hg := hh.1
 have hrr := hh.2
 repeat refine x_ ?_
 refine gl_boxA rfl rfl ?_; intro g1
 refine a_ ?_
 refine a_ ?_
 repeat refine n_ ?_
 refine g_cutK [(1, Ptr g1), (15, .bool (q1 || q2))] [blkR g1 r x] ?_ ?_
 ·cases q1
  all_goals (
   repeat refine x_ ?_
   refine f_ z_1 ?_
   refine r_ (by exact s_load_blk rfl z_2 a10_0) ?_
   refine f_ ((s_lss rfl rfl).eb hq1) ?_
   refine m_ ?_
   (first | refine gl_guard_no rfl rfl rfl rfl rfl rfl rfl ?_ | (refine v_ ?_; refine f_ z_1 ?_))
   (first | refine gl_guard_no rfl rfl rfl rfl rfl rfl rfl ?_ | (refine v_ ?_; refine r_ (by exact s_load_blk rfl z_2 a10_0) ?_))
   (first | refine gl_guard_no rfl rfl rfl rfl rfl rfl rfl ?_ | (refine v_ ?_; refine f_ ((s_gtr rfl rfl).eb hq2) ?_))
   refine f_ z_4 ?_
   refine gl_nil ?_
   repeat refine y_ ?_)
  all_goals exact at_cut j_ i_
 repeat refine y_ ?_
 refine g_cond rfl (fun h => ?_) (fun h => ?_)
 ·have e : writeS r = none := by
   unfold writeS
   exact if_neg fun c => hqq.2 h ⟨c.1, c.2.1⟩
  rw [e]
  repeat refine x_ ?_
  refine a_ ?_
  refine a_ ?_
  repeat refine n_ ?_
  refine g_ret ?_
  exact at_end2 rfl rfl rfl [] ⟨rfl, rfl⟩ (fun w hw => hw.dropAll)
 have hk : 1 ≤ r.kind ∧ r.kind ≤ 14 := by
  refine Classical.not_not.1 fun c => ?_
  rw [hqq.1 c] at h
  cases h
 obtain ⟨T, hT⟩ : ∃ T, T = textP r ++ crlf := ⟨_, rfl⟩
 have hT' : textP r ++ [13, 10] = T := hT.symm
 have hTl : T.length < 4294967281 := by rw [hT, List.length_append]; simp; omega
 have c12 := Read_ct T hTl
 obtain ⟨o, ho⟩ : ∃ o, o = readS T := ⟨_, rfl⟩
 rw [← ho] at c12
 unfold ReadW at c12
 obtain ⟨q, hqe⟩ : ∃ q, q = (o.getD (R0, 0)).1 := ⟨_, rfl⟩
 obtain ⟨n, hne⟩ : ∃ q, q = (o.getD (R0, 0)).2 := ⟨_, rfl⟩
 obtain ⟨z, hze⟩ : ∃ q, q = o.isSome := ⟨_, rfl⟩
 rw [← hqe, ← hne, ← hze] at c12
 obtain ⟨p2, hp2⟩ : ∃ p, p = !decide ((n : Int) = (T.length : Nat)) := ⟨_, rfl⟩
 obtain ⟨p3, hp3⟩ : ∃ p, p = decide (r = q) := ⟨_, rfl⟩
 have e : writeS r = if (!z || (p2 || !p3)) = true then none else some T := by
  unfold writeS
  rw [← hT, ← ho]
  have hiff : (1 ≤ r.kind ∧ r.kind ≤ 14 ∧ o = some (r, T.length)) ↔ ¬((!z || (p2 || !p3)) = true) := by
   cases o with
   | none =>
    have : z = false := hze
    rw [this]
    simp
   | some a =>
    obtain ⟨a1, a2⟩ := a
    have h1 : z = true := hze
    have h2 : q = a1 := hqe
    have h3 : n = a2 := hne
    rw [h1, hp2, hp3, h2, h3]
    simp only [Option.some.injEq, Prod.mk.injEq, Bool.not_true, Bool.false_or, Bool.or_eq_true, Bool.not_eq_true', decide_eq_false_iff_not, not_or, Classical.not_not]
    constructor
    ·rintro ⟨_, _, h4, h5⟩; exact ⟨by omega, h4.symm⟩
    ·rintro ⟨h4, h5⟩; exact ⟨hk.1, hk.2, h5.symm, by omega⟩
  by_cases hb : (!z || (p2 || !p3)) = true
  ·rw [if_pos hb, if_neg (fun c => hiff.1 c hb)]
  ·rw [if_neg hb, if_pos (hiff.2 hb)]
 rw [e]
 clear e hT
 repeat refine x_ ?_
 refine r_ ((s_load_blkW rfl z_2 z_7).eq (v' := rrA r x) rfl) ?_
 refine gl_callp rfl (textW_ct r x hz hc hv hk) (fun h hh hb => ⟨hg.le hh, hrr.le hh⟩) rfl ?_
 refine f_ ((s_add_str rfl rfl (by simp only [List.length_cons, List.length_nil]; omega)).eq (v' := B T) (by rw [hT'])) ?_
 refine a_ ?_
 repeat refine x_ ?_
 refine m_ ?_
 refine gl_call _ rfl c12 i_ (fun h hh hb => hg.le hh) rfl ?_; rintro v A ⟨y, hy, rfl, rfl⟩; refine gl_pull (fun w hw => hw.perm List.perm_append_comm) ?_; simp only [List.cons_append, List.nil_append]
 refine m_ ?_
 refine f_ (s_extract rfl rfl) ?_
 refine f_ (s_extract rfl rfl) ?_
 refine f_ (s_extract rfl rfl) ?_
 refine gl_allocA rfl ?_; intro g5
 (refine gl_store_blkW rfl rfl z_6 z_7 z_7 z_3 ?_)
 refine a_ ?_
 refine a_ ?_
 repeat refine n_ ?_
 refine g_cutK [(4, B T), (38, .bool (!z || (p2 || !p3)))] [] ?_ ?_
 ·rcases sc3o z p2 with rfl | ⟨rfl, rfl⟩ | ⟨rfl, rfl⟩
  all_goals (
   repeat refine x_ ?_
   refine m_ ?_
   refine f_ (s_neq rfl rfl) ?_
   refine m_ ?_
   (first | refine gl_guard_no rfl rfl rfl rfl rfl rfl rfl ?_ | (refine v_ ?_; refine m_ ?_))
   (first | refine gl_guard_no rfl rfl rfl rfl rfl rfl rfl ?_ | (refine v_ ?_; refine m_ ?_))
   (first | refine gl_guard_no rfl rfl rfl rfl rfl rfl rfl ?_ | (refine v_ ?_; refine f_ (s_len_str rfl) ?_))
   (first | refine gl_guard_no rfl rfl rfl rfl rfl rfl rfl ?_ | (refine v_ ?_; refine f_ ((s_neq rfl rfl).eb hp2) ?_))
   refine f_ z_4 ?_
   refine m_ ?_
   (first | refine gl_guard_no rfl rfl rfl rfl rfl rfl rfl ?_ | (refine v_ ?_; refine r_ ((s_load_blkW rfl z_2 z_7).eq (v' := rrA r x) rfl) ?_))
   (first | refine gl_guard_no rfl rfl rfl rfl rfl rfl rfl ?_ | (refine v_ ?_; refine r_ ((s_load_blkW rfl z_2 z_7).eq (v' := rrA q y) rfl) ?_))
   (first | refine gl_guard_no rfl rfl rfl rfl rfl rfl rfl ?_ | (refine v_ ?_; refine gl_callp rfl (same_ct r q x y hz.sz.c hv hy) (fun h hh hb => ⟨hrr.le hh, rrd_own hy (fun y' hy' => .tail _ (.tail _ hy')) hb⟩) rfl ?_; rw [← hp3]))
   (first | refine gl_guard_no rfl rfl rfl rfl rfl rfl rfl ?_ | (refine v_ ?_; refine f_ (s_not rfl) ?_))
   refine f_ z_4 ?_
   refine gl_nil ?_
   repeat refine y_ ?_)
  all_goals exact at_cut j_ (fun w hw => hw.dropAll)
 repeat refine y_ ?_
 refine g_cond rfl (fun h => ?_) (fun h => ?_)
 ·rw [if_pos h]
  repeat refine x_ ?_
  refine a_ ?_
  refine a_ ?_
  repeat refine n_ ?_
  refine g_ret ?_
  exact at_end2 rfl rfl rfl [] ⟨rfl, rfl⟩ i_
 ·rw [if_neg (by rw [h]; simp)]
  repeat refine x_ ?_
  refine m_ ?_
  refine a_ ?_
  refine a_ ?_
  repeat refine n_ ?_
  refine g_ret ?_
  exact at_end2 rfl rfl rfl [] ⟨rfl, rfl⟩ i_
end Go.Proofs.YtgllpcggdcknaaaGreatDoor.Rp
namespace Go.Proofs.YtgllpcggdcknaaaGreatDoor.Rp
open Go Go.Sl Go.RowKit
theorem write_eq (r : RR) : writeS r = if okR r = true then some (textP r ++ crlf) else none := by
 by_cases h : okR r = true
 ·rw [if_pos h]
  have hk : 1 ≤ r.kind ∧ r.kind ≤ 14 := by
   refine Classical.not_not.1 fun c => ?_
   rw [okR_x c] at h
   cases h
  have hb := read_B h []
  rw [List.append_nil] at hb
  unfold writeS
  rw [if_pos ⟨hk.1, hk.2, hb⟩]
 ·rw [if_neg h]
  unfold writeS
  refine if_neg fun c => ?_
  exact read_none rfl (by simpa using h) _ _ c.2.2 rfl
theorem ok_nums {r : RR} (h : okR r = true) (hk : r.kind ≠ 13) : r.nums = [] := by
 unfold okR at h
 repeat' split at h
 all_goals first
  | (exact absurd ‹r.kind = 13› hk)
  | (simp only [onlyB, Bool.false_or, Bool.true_or, Bool.true_and, Bool.and_eq_true, List.isEmpty_iff] at h; simp only [h])
  | cases h
theorem ok_vals {r : RR} (h : okR r = true) (hk : r.kind ≠ 12) (hk2 : r.kind ≠ 14) : r.values = [] := by
 unfold okR at h
 repeat' split at h
 all_goals first
  | (exact absurd ‹r.kind = 12› hk)
  | (exact absurd ‹r.kind = 14› hk2)
  | (simp only [onlyB, Bool.false_or, Bool.true_or, Bool.true_and, Bool.and_eq_true, List.isEmpty_iff] at h; simp only [h])
  | cases h
theorem textP_14 {r : RR} (hk : r.kind = 14) : textP r = 42 :: 32 :: digS r.n ++ wFetch ++ 40 :: joinS [32] (cellsP r) ++ [41] := by
 unfold textP
 rw [hk]
 rfl
theorem textP_12 {r : RR} (hk : r.kind = 12) : textP r = 42 :: 32 :: wStatus ++ formS r.box ++ 32 :: 40 :: joinS [32] (cellsP r) ++ [41] := by
 unfold textP
 rw [hk]
 rfl
theorem szW_ok {r : RR} (hz : SzR r) (h : okR r = true) (hl : (textP r).length ≤ big) : SzW r := by
 refine ⟨hz, ?_, ?_⟩
 ·by_cases hk : r.kind = 13
  ·rw [textP_13 hk] at hl
   simp only [List.length_append, List.length_cons] at hl
   omega
  ·rw [ok_nums h hk]
   exact Nat.zero_le _
 ·by_cases hk : r.kind = 12
  ·rw [textP_12 hk] at hl
   simp only [List.length_append, List.length_cons] at hl
   omega
  by_cases hk2 : r.kind = 14
  ·rw [textP_14 hk2] at hl
   simp only [List.length_append, List.length_cons] at hl
   omega
  ·have : cellsP r = [] := by unfold cellsP; rw [ok_vals h hk hk2]; rfl
   rw [this]
   exact Nat.zero_le _
section
variable {P : Program} {N : Nat} {K R : Kont} {E : List (Nat × Kont)} {L : Lcs} {F : Snap} {H : List As}
end
abbrev rA : RR := ⟨1, [97], [82, 69, 65, 68, 45, 87, 82, 73, 84, 69], [100, 111, 110, 101], 0, [], 0, [], [], []⟩
abbrev sA : Bs := [42, 32, 51, 32, 70, 69, 84, 67, 72, 32, 40, 85, 73, 68, 32, 55, 32, 77, 79, 68, 83, 69, 81, 32, 40, 57, 41, 41, 13, 10, 120]
abbrev rB : RR := ⟨14, [], [], [], 3, [], 0, [], [], [⟨7, 7, [], [], false, 0⟩, ⟨9, 9, [], [], false, 0⟩]⟩
theorem write_rA : writeS rA = some [97, 32, 79, 75, 32, 91, 82, 69, 65, 68, 45, 87, 82, 73, 84, 69, 93, 32, 100, 111, 110, 101, 13, 10] := by
 rw [write_eq, if_pos (by decide)]
 decide
theorem read_sA : readS sA = some (rB, 30) := by
 have h := read_B (r := rB) (by decide) [120]
 have e : (textP rB ++ crlf) ++ [120] = sA := by decide +kernel
 rw [e] at h
 rw [h]
 decide +kernel
end Go.Proofs.YtgllpcggdcknaaaGreatDoor.Rp
namespace Go.Proofs.YtgllpcggdcknaaaGreatDoor.Rp
open Go Go.Sl Go.RowKit
theorem rrd_none (r : RR) (h : Heap) (hn : r.nums = []) (hf : r.flags = []) (hv : r.values = []) : RRd r L0 h := by
 refine ⟨hv, ?_, ?_, RdS.nil _ _, fun m hm => nomatch hm⟩
 ·rw [hn]; exact RdS.nil _ _
 ·rw [hf]; exact RdS.nil _ _
theorem cap_none (r : RR) (hf : r.flags = []) : CapL r L0 := ⟨by rw [hf]; exact Nat.zero_le _, fun m hm => nomatch hm⟩
theorem szW_rA : SzW rA := szW_ok (szR_of (by decide) (by decide) (by decide) (by decide) (by decide) z_10 (by decide) z_10 (by decide) (by decide) z_10) (by decide) (by decide)
theorem two_vals {vs : List VM} {a b : RV} (h : [a, b] = vs.map VM.v) : ∃ m1 m2, vs = [m1, m2] ∧ m1.v = a ∧ m2.v = b := by
 match vs, h with
 | [m1, m2], h => simp only [List.map_cons, List.map_nil, List.cons.injEq, and_true] at h; exact ⟨m1, m2, rfl, h.1.symm, h.2.symm⟩
set_option maxRecDepth 8000 in
theorem alive_ct : Pu Tryz.prog 8 [] Gl (.bool true) := by
 have c9 := Print_ct rA L0 szW_rA (cap_none rA rfl) rfl (by decide)
 have c12 := Read_ct sA (by decide)
 rw [write_rA] at c9
 rw [read_sA] at c12
 unfold writeV at c9
 unfold ReadW at c12
 simp only [Option.getD_some, Option.isSome_some, if_true] at c9 c12
 refine ct_enter 49 Tryz.func8 rfl rfl rfl ?_
 intro F hg
 repeat refine x_ ?_
 refine a_ ?_
 repeat refine x_ ?_
 refine f_ (s_bld rfl rfl) ?_
 refine gl_callp rfl c9 (fun h hh hb => ⟨hg.le hh, rrd_none rA h rfl rfl rfl⟩) rfl ?_
 refine m_ ?_
 refine f_ (s_extract rfl rfl) ?_
 refine f_ (s_extract rfl rfl) ?_
 refine a_ ?_
 refine a_ ?_
 repeat refine x_ ?_
 refine gl_call _ rfl c12 i_ (fun h hh hb => hg.le hh) rfl ?_; rintro v A ⟨y, hy, rfl, rfl⟩; refine gl_pull (fun w hw => hw.perm List.perm_append_comm) ?_; simp only [List.cons_append, List.nil_append]
 refine m_ ?_
 refine f_ (s_extract rfl rfl) ?_
 refine f_ (s_extract rfl rfl) ?_
 refine f_ (s_extract rfl rfl) ?_
 refine gl_allocA rfl ?_; intro g3
 (refine gl_store_blkW rfl rfl z_6 z_7 z_7 z_3 ?_)
 refine a_ ?_
 refine a_ ?_
 repeat refine n_ ?_
 obtain ⟨m1, m2, hm, h1, h2⟩ := two_vals hy
 obtain ⟨na, nc, fa, fc, va, vc, vs⟩ := y
 simp only at hm
 subst hm
 refine g_ownN (a := va) (n := 2) (c := vc) z_2 (fun _ _ hsome => ?_)
 have hva := hsome (by decide)
 have h9 : (vmV [m1, m2])[7]? = some (.int .u64 9) := by simp [vmV, h2]
 have hc : ∀ j u, [Value.int .u64 9][j]? = some u → (vmV [m1, m2])[7 + j]? = some u := fun j u hu => by
  match j, hu with
  | 0, hu => simp only [List.getElem?_cons_zero, Option.some.injEq] at hu; subst hu; exact h9
 repeat refine x_ ?_
 refine m_ ?_
 refine f_ ((s_eql_str rfl rfl).eq (v' := .bool true) rfl) ?_
 refine m_ ?_
 (refine v_ ?_; refine m_ ?_)
 (refine v_ ?_; refine f_ (s_eql rfl rfl) ?_)
 refine f_ z_9 ?_
 refine m_ ?_
 (refine v_ ?_; refine m_ ?_)
 (refine v_ ?_; refine f_ (s_eql rfl rfl) ?_)
 refine f_ z_9 ?_
 refine m_ ?_
 (refine v_ ?_; refine m_ ?_)
 (refine v_ ?_; refine f_ ((s_eql rfl rfl).eq (v' := .bool true) rfl) ?_)
 refine f_ z_9 ?_
 refine m_ ?_
 (refine v_ ?_; refine f_ z_1 ?_)
 (refine v_ ?_; refine r_ (by exact s_load_blk rfl z_2 a10_4) ?_)
 (refine v_ ?_; refine f_ ((s_eql rfl rfl).eq (v' := .bool true) rfl) ?_)
 refine f_ z_9 ?_
 refine m_ ?_
 (refine v_ ?_; refine f_ z_1 ?_)
 (refine v_ ?_; refine r_ (by exact s_load_blk rfl z_2 a10_9) ?_)
 (refine v_ ?_; refine f_ (s_len_sl rfl) ?_)
 (refine v_ ?_; refine f_ (s_eql rfl rfl) ?_)
 refine f_ z_9 ?_
 refine m_ ?_
 (refine v_ ?_; refine f_ z_1 ?_)
 (refine v_ ?_; refine r_ (by exact s_load_blk rfl z_2 a10_9) ?_)
 (refine v_ ?_; refine f_ ((s_indexAddr (len := 2) rfl hva rfl (by omega))) ?_)
 (refine v_ ?_; refine f_ (by exact s_fieldAddr_o rfl (by assumption) z_7 (by infer_instance) (by decide)) ?_)
 (refine v_ ?_; refine r_ (s_load1 (v := .int .u64 9) rfl (fun w hw => peek_own (q := 7) hw z_2 z_10 hc)) ?_)
 (refine v_ ?_; refine f_ ((s_eql rfl rfl).eq (v' := .bool true) rfl) ?_)
 refine f_ z_9 ?_
 refine a_ ?_
 repeat refine n_ ?_
 refine g_ret ?_
 exact at_end1 rfl rfl [] ⟨rfl, rfl⟩ (fun w hw => hw.dropAll)
end Go.Proofs.YtgllpcggdcknaaaGreatDoor.Rp
namespace Go.Proofs.YtgllpcggdcknaaaGreatDoor.Rp
open Go Go.Sl Go.RowKit
set_option maxRecDepth 8000 in
theorem ReplyWrites_ct (r : RR) (x : RL) (hz : SzW r) (hc : CapL r x) (hv : r.values = x.vs.map VM.v) (hl : (textP r).length < 4294967279) : Pu Tryz.prog 3 [rrA r x] (PreW r x) (.bool true) := by
 have h1 := hz.sz.nl
 have h2 := hz.sz.fl
 have h3 := hz.sz.vl
 have hvl : r.values.length = x.vs.length := by rw [hv]; simp
 unfold big at h1 h2 h3
 rw [hvl] at h3
 have c10 := PrintR9_ct r x hz.sz hv
 refine ct_enter 57 Tryz.func3 rfl rfl rfl ?_
 intro F hh
 have hg := hh.1
 have hrr := hh.2
 repeat refine x_ ?_
 refine gl_boxA rfl rfl ?_; intro g1
 refine a_ ?_
 repeat refine x_ ?_
 refine gl_callp rfl alive_ct (fun h hh hb => hg.le hh) rfl ?_
 refine f_ (s_not rfl) ?_
 repeat refine x_ ?_
 refine r_ ((s_load_blkW rfl z_2 z_7).eq (v' := rrA r x) rfl) ?_
 refine gl_allocA rfl ?_; intro g3
 (refine gl_store_blkW rfl rfl z_6 z_7 z_7 z_3 ?_)
 repeat refine x_ ?_
 refine gl_buildSlice0 rfl ?_; intro a11
 refine f_ z_1 ?_
 refine r_ (by exact s_load_blk rfl z_2 a10_5) ?_
 refine gl_append rfl rfl (fun a' c' => .here) (fun w hw => hrr.nums.le hw.keep) (by rw [nV_len, Nat.mul_one]) rfl rfl (nV_one _) (by show (0 + r.nums.length) * 8 ≤ _; omega) (by omega) rfl ?_; intro a5 c5 hc5; rw [Nat.zero_add] at hc5; simp only [Nat.zero_add, List.nil_append]
 refine f_ z_1 ?_
 (refine gl_store_blkC (pre := [_, _, _, _, _]) (post := [_, _, _, _]) rfl rfl z_6 z_7 z_7 z_7 ?_)
 repeat refine x_ ?_
 refine gl_buildSlice0 rfl ?_; intro a12
 refine f_ z_1 ?_
 refine r_ (by exact s_load_blk rfl z_2 a10_7) ?_
 refine gl_append rfl rfl (fun a' c' => .here) (fun w hw => hrr.flags.le hw.keep) (by rw [fV_len, Nat.mul_one]) rfl rfl (fV_one _) (by show (0 + r.flags.length) * 16 ≤ _; omega) (by omega) rfl ?_; intro a6 c6 hc6; rw [Nat.zero_add] at hc6; simp only [Nat.zero_add, List.nil_append]
 refine f_ z_1 ?_
 (refine gl_store_blkC (pre := [_, _, _, _, _, _, _]) (post := [_, _]) rfl rfl z_6 z_7 z_7 z_7 ?_)
 repeat refine x_ ?_
 refine gl_buildSlice0 rfl ?_; intro a13
 refine f_ z_1 ?_
 refine r_ (by exact s_load_blk rfl z_2 a10_9) ?_
 refine gl_append rfl rfl (fun a' c' => .here) (fun w hw => hrr.vs.le hw.keep) (vmV_len _) rfl rfl (vmV_one _) (by show (0 + x.vs.length) * 72 ≤ _; omega) (by omega) rfl ?_; intro a7 c7 hc7; rw [Nat.zero_add] at hc7; simp only [Nat.zero_add, List.nil_append]
 refine f_ z_1 ?_
 (refine gl_store_blkC (pre := [_, _, _, _, _, _, _, _, _]) (post := []) rfl rfl z_6 z_7 z_7 z_7 ?_)
 repeat refine n_ ?_
 obtain ⟨y, hy⟩ : ∃ y : RL, y = ⟨a5, c5, a6, c6, a7, c7, x.vs⟩ := ⟨_, rfl⟩
 have hcy : CapL r y := ⟨by rw [hy]; exact hc6, by rw [hy]; exact hc.v⟩
 have hvy : r.values = y.vs.map VM.v := by rw [hy]; exact hv
 have hry : ∀ h, Heap.le F.heap h → (∃ bs, Sat h [.own (.slice a7 x.vs.length c7) 46 6 (vmV x.vs), OwnS a6 r.flags c6, .own (.slice a5 r.nums.length c5) 22 1 (nV r.nums), blkR g3 r y, blkR g1 r x] bs) → RRd r y h := fun h hh hb => by
  obtain ⟨bs, hb⟩ := hb
  rw [hy] at hb ⊢
  exact ⟨hv, rd_of_own hb (.tail _ (.tail _ (.head _))), rd_of_own hb (.tail _ (.head _)), rd_of_own hb (.head _), fun m hm => (hrr.fs m hm).le hh⟩
 refine G.weaken (L' := [(1, Ptr g1), (3, Ptr g3)]) (H' := [.own (.slice a7 x.vs.length c7) 46 6 (vmV x.vs), OwnS a6 r.flags c6, .own (.slice a5 r.nums.length c5) 22 1 (nV r.nums), blkR g3 r y, blkR g1 r x]) ?_ j_ (fun w hw => by rw [hy]; exact hw)
 have c9 := Print_ct r y hz hcy hvy hl
 rw [write_eq] at c9
 unfold writeV at c9
 unfold printQ at c10
 clear hy
 by_cases hok : okR r = true
 ·rw [if_pos hok] at c9 c10
  rw [hok] at c10
  simp only [Option.getD_some, Option.isSome_some, if_true] at c9
  repeat refine x_ ?_
  refine r_ ((s_load_blkW rfl z_2 z_7).eq (v' := rrA r y) rfl) ?_
  refine gl_callp rfl c9 (fun h hh hb => ⟨hg.le hh, hry h hh hb⟩) rfl ?_
  refine m_ ?_
  refine f_ (s_extract rfl rfl) ?_
  refine f_ (s_extract rfl rfl) ?_
  refine a_ ?_
  refine a_ ?_
  repeat refine x_ ?_
  refine r_ ((s_load_blkW rfl z_2 z_7).eq (v' := rrA r x) rfl) ?_
  refine gl_callp rfl c10 (fun h hh hb => hrr.le hh) rfl ?_
  refine m_ ?_
  refine f_ (s_extract rfl rfl) ?_
  refine f_ (s_extract rfl rfl) ?_
  refine a_ ?_
  refine a_ ?_
  repeat refine x_ ?_
  refine m_ ?_
  refine m_ ?_
  refine f_ ((s_eql_str rfl rfl).eq (v' := .bool true) (congrArg Value.bool (decide_eq_true rfl))) ?_
  refine m_ ?_
  (refine v_ ?_; refine m_ ?_)
  (refine v_ ?_; refine f_ ((s_eql rfl rfl).eq (v' := .bool true) rfl) ?_)
  (refine v_ ?_; refine m_ ?_)
  (refine v_ ?_; refine f_ ((s_eql_bool rfl rfl).eq (v' := .bool true) rfl) ?_)
  refine f_ z_9 ?_
  refine m_ ?_
  (refine v_ ?_; refine m_ ?_)
  (refine v_ ?_; refine m_ ?_)
  (refine gl_guard_no rfl rfl rfl rfl rfl rfl rfl ?_)
  (refine gl_guard_no rfl rfl rfl rfl rfl rfl rfl ?_)
  (refine v_ ?_; refine f_ z_9 ?_)
  refine f_ z_9 ?_
  refine m_ ?_
  (refine v_ ?_; refine r_ ((s_load_blkW rfl z_2 z_7).eq (v' := rrA r y) rfl) ?_)
  (refine v_ ?_; refine r_ ((s_load_blkW rfl z_2 z_7).eq (v' := rrA r x) rfl) ?_)
  (refine v_ ?_; refine gl_callp rfl (SameR_ct r r y x hz.sz.c) (fun h hh hb => ⟨hry h hh hb, hrr.le hh⟩) rfl ?_; rw [decide_eq_true rfl])
  refine f_ z_9 ?_
  refine a_ ?_
  repeat refine n_ ?_
  refine g_ret ?_
  exact at_end1 rfl rfl [] ⟨rfl, rfl⟩ (fun w hw => hw.dropAll)
 ·rw [if_neg hok] at c9 c10
  rw [show okR r = false by simpa using hok] at c10
  simp only [Option.getD_none, Option.isSome_none] at c9
  repeat refine x_ ?_
  refine r_ ((s_load_blkW rfl z_2 z_7).eq (v' := rrA r y) rfl) ?_
  refine gl_callp rfl c9 (fun h hh hb => ⟨hg.le hh, hry h hh hb⟩) rfl ?_
  refine m_ ?_
  refine f_ (s_extract rfl rfl) ?_
  refine f_ (s_extract rfl rfl) ?_
  refine a_ ?_
  refine a_ ?_
  repeat refine x_ ?_
  refine r_ ((s_load_blkW rfl z_2 z_7).eq (v' := rrA r x) rfl) ?_
  refine gl_callp rfl c10 (fun h hh hb => hrr.le hh) rfl ?_
  refine m_ ?_
  refine f_ (s_extract rfl rfl) ?_
  refine f_ (s_extract rfl rfl) ?_
  refine a_ ?_
  refine a_ ?_
  repeat refine x_ ?_
  refine m_ ?_
  refine m_ ?_
  refine f_ ((s_eql_str rfl rfl).eq (v' := .bool true) (congrArg Value.bool (decide_eq_true rfl))) ?_
  refine m_ ?_
  (refine v_ ?_; refine m_ ?_)
  (refine v_ ?_; refine f_ ((s_eql rfl rfl).eq (v' := .bool false) rfl) ?_)
  (refine v_ ?_; refine m_ ?_)
  (refine v_ ?_; refine f_ ((s_eql_bool rfl rfl).eq (v' := .bool true) rfl) ?_)
  refine f_ z_9 ?_
  refine m_ ?_
  (refine v_ ?_; refine m_ ?_)
  (refine v_ ?_; refine m_ ?_)
  (refine v_ ?_; refine m_ ?_)
  (refine v_ ?_; refine f_ ((s_eql rfl rfl).eq (v' := .bool true) rfl) ?_)
  (refine v_ ?_; refine f_ (by exact s_pick_f rfl rfl) ?_)
  refine f_ z_9 ?_
  refine m_ ?_
  (refine v_ ?_; refine r_ ((s_load_blkW rfl z_2 z_7).eq (v' := rrA r y) rfl) ?_)
  (refine v_ ?_; refine r_ ((s_load_blkW rfl z_2 z_7).eq (v' := rrA r x) rfl) ?_)
  (refine v_ ?_; refine gl_callp rfl (SameR_ct r r y x hz.sz.c) (fun h hh hb => ⟨hry h hh hb, hrr.le hh⟩) rfl ?_; rw [decide_eq_true rfl])
  refine f_ z_9 ?_
  refine a_ ?_
  repeat refine n_ ?_
  refine g_ret ?_
  exact at_end1 rfl rfl [] ⟨rfl, rfl⟩ (fun w hw => hw.dropAll)
end Go.Proofs.YtgllpcggdcknaaaGreatDoor.Rp
namespace Go.Sl
open Go Go.RowKit Go.WideShapes Go.ChangeShapes Go.ChangeMaps
theorem Hp.below {W w' : World} {A : List As} (h : Hp (snap W) w' A) : Below W.heap.size W w' := by
 have hk : ∀ k, k < W.heap.size → w'.heap[k]? = W.heap[k]? := fun k hk => by
  have e : W.heap[k]? = some W.heap[k] := Array.getElem?_eq_getElem hk
  rw [e]
  exact h.keep k _ (by show hpBut W [] k = _; rw [hpBut_nil]; exact e)
 refine ⟨h.os, h.tape, h.output, ?_, hk⟩
 rcases Nat.lt_or_ge w'.heap.size W.heap.size with hlt | hge
 ·have h1 := hk w'.heap.size hlt
  rw [Array.getElem?_eq_getElem hlt] at h1
  simp at h1
 ·exact hge
section
variable {H : Type} {enc : TypeId × Value → H} {P : Program}
theorem law_post {f : Func} {s : ChangeSpec} {apart fresh handsOn again : Bool} {W W' : World} {args : Array Value} {v : Value} {ds gs : List (DataW H)} {before pa pv : List MemPlace}
  (hW : DataW.Whole enc P f.params.toList s.vars apart W args.toList ds gs before)
  (hres : ∀ (b : Nat) (sp : Nat → Bool) (hd : Bool), DataW.TrodAll enc P W' b sp hd f.resultTypes.toList (v.resultList f.resultTypes.size) (s.fn H (ds ++ gs)).results [])
  (hargs : ∀ sp : Nat → Bool, (∀ p ∈ before, sp p.block = true) → DataW.TrodAll enc P W' 0 sp true f.params.toList args.toList (s.fn H (ds ++ gs)).args pa)
  (hvars : ∀ sp : Nat → Bool, (∀ p ∈ before, sp p.block = true) → DataW.TrodVars enc P W' sp s.vars (s.fn H (ds ++ gs)).vars pv)
  (hps : before = pa ++ pv) (hb : Below W.heap.size W W')
  (hok : ∀ (j : Nat) (t : TypeId) (r : Value), f.resultTypes[j]? = some t → (v.resultList f.resultTypes.size)[j]? = some r → Value.okWide P W' .any 0 t r) :
  s.post enc P f apart fresh handsOn again W args v W' := by
 have hlt : ∀ p ∈ before, p.block < W.heap.size := fun p hp => hW.lt p hp
 have hold : ∀ p ∈ before, (fun b => decide (b < W.heap.size)) p.block = true := fun p hp => by simpa using hlt p hp
 refine ⟨ds, gs, before, [], pa, pv, hW, hres _ _ _, hargs _ hold, hvars _ hold, World.keptBut_mono (fun p hp => ⟨hp, ?_⟩) (hb.frame (· ∈ before)), fun _ => ?_⟩
 ·rw [hps, List.mem_append] at hp
  exact Or.inr hp
 ·obtain ⟨_, _, _, _, _, hz, hn⟩ := hW
  refine ⟨hok, _, _, ([] ++ pa) ++ pv, ⟨[] ++ pa, pv, trodAll_append (hargs _ (fun _ _ => rfl)) (hres _ _ _), hvars _ (fun _ _ => rfl), rfl, ?_, ?_⟩, ?_⟩
  ·intro b off hp
   have hin : MemPlace.cell b off ∈ before := by rw [hps]; simpa using hp
   rw [hb.frozen (hlt _ hin)]
   exact hz b off hin
  ·intro ha
   have := hn ha
   rw [hps] at this
   simpa using this
  ·intro p hp _
   rw [hps]
   simpa using hp
theorem trodAll_below (hl : laidOutB P = true) {W W' : World} (hb : Below W.heap.size W W') (sp : Nat → Bool) : ∀ {ts : List TypeId} {vs : List Value} {ds : List (DataW H)} {ps : List MemPlace},
  (ts.all fun t => P.readableRec t && decide (t < P.types.size)) = true → DataW.TrodAll enc P W 0 (fun _ => true) true ts vs ds ps → (∀ p ∈ ps, p.block < W.heap.size) → (∀ p ∈ ps, sp p.block = true) →
   DataW.TrodAll enc P W' 0 sp true ts vs ds ps
 | [], vs, ds, ps, _, h, _, _ => by
  obtain ⟨rfl, rfl, rfl⟩ := trodAll_nil h
  rfl
 | t :: ts, vs, ds, ps, hr, h, hlt, hs => by
  obtain ⟨v, vs', d, ds', p, q, rfl, rfl, rfl, h1, h2⟩ := trodAll_cons h
  simp only [List.all_cons, Bool.and_eq_true, decide_eq_true_eq] at hr
  refine ⟨p, q, WideElems.Trod_stays hl hr.1.1 hr.1.2 h1 (fun x hx => hb.same (hlt x (List.mem_append.2 (.inl hx)))) (fun x hx => hs x (List.mem_append.2 (.inl hx))), ?_, rfl⟩
  exact trodAll_below hl hb sp (by simpa using hr.2) h2 (fun x hx => hlt x (List.mem_append.2 (.inr hx))) (fun x hx => hs x (List.mem_append.2 (.inr hx)))
theorem law_true {f : FuncId} {fn : Func} {s : ChangeSpec} {fresh handsOn again : Bool} {W : World} {vs : List Value} {ds gs : List (DataW H)} {before : List MemPlace} {Pre : Heap → Prop} {t : TypeId}
  (hc : Pu P f vs Pre (.bool true)) (hpre : Pre (hp W)) (hvs : s.vars = [])
  (hW : DataW.Whole enc P fn.params.toList s.vars false W vs ds gs before) (hres : fn.resultTypes = #[t]) (ht : P.underlying t = some .bool)
  (hl : laidOutB P = true) (hr : (fn.params.toList.all fun t => P.readableRec t && decide (t < P.types.size)) = true)
  (hs : s.fn H (ds ++ gs) = { results := [.lit (.bool true)], args := ds }) :
  Calls P f vs.toArray W fun e W' => ∃ v, e = .returned v ∧ s.post enc P fn false fresh handsOn again W vs.toArray v W' := by
 refine (hc W [] rfl List.nodup_nil (by rw [hpBut_nil]; exact hpre)).mono ?_
 rintro e W' ⟨v, A, rfl, ⟨rfl, rfl⟩, hh⟩
 refine ⟨_, rfl, ?_⟩
 have hW' := hW
 have hlt := fun p hp => hW'.lt p hp
 obtain ⟨p, q, hA, hV, hpq, hfz, hnd⟩ := hW
 rw [hvs] at hV
 obtain ⟨rfl, rfl⟩ := trodVars_none hV
 have hb := Hp.below hh
 refine law_post (pa := p) (pv := []) (args := vs.toArray) (by simpa using hW') (fun b sp hd => ?_) (fun sp hsp => ?_) (fun sp hsp => ?_) hpq hb ?_
 ·rw [hs, hres]
  exact trodAll_cons_mk (shut_bool ht true) trodAll_mk0
 ·rw [hs]
  refine trodAll_below hl hb sp hr hA (fun x hx => hlt x ?_) (fun x hx => hsp x ?_) <;> (rw [hpq]; simpa using hx)
 ·rw [hs, hvs]; rfl
 ·exact ok_one hres rfl (okWide_bool_mk ht true)
end
end Go.Sl
namespace Go.Sl
open Go Go.RowKit Go.WideShapes Go.ChangeShapes Go.ChangeMaps
mutual
def bulkOf {H : Type} : DataW H → Nat
 | .lit (.string bytes) => bytes.length + 1
 | .lit _ => 1
 | .nil => 1
 | .ptr d => bulkOf d + 1
 | .slice elems spare => bulkAll elems + bulkAll spare + 1
 | .agg parts => bulkAll parts + 1
 | .iface _ d => bulkOf d + 1
 | .map entries => bulkEntries entries + 1
 | .held _ => 1
def bulkAll {H : Type} : List (DataW H) → Nat
 | [] => 0
 | d :: r => bulkOf d + bulkAll r
def bulkEntries {H : Type} : List (Lit × DataW H) → Nat
 | [] => 0
 | x :: r => bulkEntry x + bulkEntries r
def bulkEntry {H : Type} : Lit × DataW H → Nat
 | (.string bytes, d) => bytes.length + bulkOf d + 1
 | (_, d) => bulkOf d + 1
end
theorem bulkAll_sum {H : Type} (l : List (DataW H)) : bulkAll l = (l.map bulkOf).sum := by
 induction l with
 | nil => rfl
 | cons d r ih => simp only [bulkAll, List.map_cons, List.sum_cons, ih]
structure Shp (P : Program) (t : TypeId) {α : Type} (cells : α → List Value) (ok : Heap → α → Prop) (bulk : α → Nat) : Prop where
 h : ∀ {H : Type} (enc : TypeId × Value → H) (w : World) (base : Nat) (sp : Nat → Bool) (held : Bool) (fuel : Nat) (cs : List Value) (x : DataW H × List MemPlace), DataW.trod enc P w base sp held fuel t cs = some x → ∃ y, cs = cells y ∧ ok (hp w) y ∧ bulk y ≤ bulkOf x.1
section
variable {P : Program} {t e : TypeId} {k : IntKind}
theorem shp_int (ht : P.underlying t = some (.int k)) : Shp P t (fun n : Int => [.int k n]) (fun _ n => (Lit.int k n).wf = true) (fun _ => 1) := ⟨fun enc w base sp held fuel cs x h => by
 obtain ⟨n, rfl, rfl, hw⟩ := DataW.trod_int ht h
 exact ⟨n, rfl, hw, Nat.le_refl _⟩⟩
theorem shp_bool (ht : P.underlying t = some .bool) : Shp P t (fun b : Bool => [.bool b]) (fun _ _ => True) (fun _ => 1) := ⟨fun enc w base sp held fuel cs x h => by
 obtain ⟨n, rfl, rfl⟩ := DataW.trod_bool ht h
 exact ⟨n, rfl, trivial, Nat.le_refl _⟩⟩
theorem shp_string (ht : P.underlying t = some .string) : Shp P t (fun l : List UInt8 => [B l]) (fun _ l => l.length ≤ maxLen) (fun l => l.length + 1) := ⟨fun enc w base sp held fuel cs x h => by
 obtain ⟨s, rfl, rfl, hs⟩ := DataW.trod_string ht h
 exact ⟨s.data.toList, rfl, by rw [Array.length_toList]; exact hs, by simp [bulkOf]⟩⟩
structure SlOk {α : Type} (cells : α → List Value) (ok : Heap → α → Prop) (h : Heap) (a : Option Addr) (ls : List α) (c : Nat) : Prop where
 le : ls.length ≤ c
 max : c ≤ maxLen
 rd : RdS h a (ls.flatMap cells)
 each : ∀ y ∈ ls, ok h y
theorem flat_get {α : Type} {cells : α → List Value} {n : Nat} (hn : ∀ y, (cells y).length = n) (hpos : 0 < n) : ∀ (ls : List α) (j : Nat) (u : Value), (ls.flatMap cells)[j]? = some u → ∃ y, ls[j / n]? = some y ∧ (cells y)[j % n]? = some u
 | [], j, u, h => by simp at h
 | x :: r, j, u, h => by
  rw [List.flatMap_cons] at h
  by_cases hj : j < n
  ·rw [List.getElem?_append_left (by rw [hn]; exact hj)] at h
   refine ⟨x, ?_, ?_⟩
   ·rw [Nat.div_eq_of_lt hj]; rfl
   ·rw [Nat.mod_eq_of_lt hj]; exact h
  ·rw [List.getElem?_append_right (by rw [hn]; omega), hn] at h
   obtain ⟨y, h1, h2⟩ := flat_get hn hpos r (j - n) u h
   refine ⟨y, ?_, ?_⟩
   ·have : j / n = (j - n) / n + 1 := by
     conv => lhs; rw [show j = (j - n) + n by omega]
     rw [Nat.add_div_right _ hpos]
    rw [this]; simpa using h1
   ·rw [Nat.mod_eq_sub_mod (by omega)]; exact h2
theorem slice_open {α : Type} {cells : α → List Value} {ok : Heap → α → Prop} {bulk : α → Nat} (ht : P.underlying t = some (.slice e)) (S : Shp P e cells ok bulk) {n : Nat} (hc : P.cellsOf e = n) (hn : ∀ y, (cells y).length = n) (hpos : 0 < n)
  {H : Type} {enc : TypeId × Value → H} {w : World} {base : Nat} {sp : Nat → Bool} {held : Bool} {fuel : Nat} {cs : List Value} {x : DataW H × List MemPlace} (h : DataW.trod enc P w base sp held fuel t cs = some x) :
  ∃ (a : Option Addr) (ls : List α) (c : Nat), cs = [.slice a ls.length c] ∧ SlOk cells ok (hp w) a ls c ∧ ((x.1 = .nil ∧ ls = []) ∨ ∃ elems spare, x.1 = .slice elems spare ∧ elems.length = ls.length) ∧ (ls.map bulk).sum + 1 ≤ bulkOf x.1 := by
 rcases DataW.trod_slice ht h with ⟨rfl, rfl⟩ | ⟨a, len, cap, elems, rest, m, _, rfl, rfl, hb, hl, hm, hlen, hel, _, _⟩
 ·exact ⟨none, [], 0, rfl, ⟨Nat.le_refl _, Nat.zero_le _, RdS.nil _ _, by simp⟩, .inl ⟨rfl, rfl⟩, by simp [bulkOf]⟩
 ·have key : ∀ (k : Nat), k ≤ len → ∃ ls : List α, ls.length = k ∧ (∀ i y, ls[i]? = some y → w.cells? base (a.add (i * n)) n = some (cells y) ∧ ok (hp w) y) ∧ (ls.map bulk).sum ≤ ((elems.take k).map (fun x => bulkOf x.1)).sum := by
   intro k
   induction k with
   | zero => intro _; exact ⟨[], rfl, by simp, by simp⟩
   | succ k ih =>
    intro hk
    obtain ⟨ls, h1, h2, h3⟩ := ih (by omega)
    have h4 := hel k (by omega)
    have hk' : k < elems.length := by omega
    rw [List.getElem?_eq_getElem hk', hc, Option.bind_eq_some_iff] at h4
    obtain ⟨cs, h5, h6⟩ := h4
    obtain ⟨y, rfl, h7, h8⟩ := S.h enc w base sp held m cs _ h6
    refine ⟨ls ++ [y], by simp [h1], fun i z hz => ?_, ?_⟩
    ·by_cases hi : i < k
     ·rw [List.getElem?_append_left (by omega)] at hz; exact h2 i z hz
     ·rw [List.getElem?_append_right (by omega)] at hz
      have hi0 : i = k := by
       have := (List.getElem?_eq_some_iff.1 hz).1
       simp at this; omega
      subst hi0
      simp [h1] at hz; subst hz
      exact ⟨h5, h7⟩
    ·rw [List.take_succ_eq_append_getElem hk']
     simp only [List.map_append, List.map_cons, List.map_nil, List.sum_append, List.sum_cons, List.sum_nil]
     omega
  obtain ⟨ls, h1, h2, h3⟩ := key len (Nat.le_refl _)
  subst h1
  refine ⟨some a, ls, cap, rfl, ⟨hl, hm, fun _ => ⟨a, rfl, fun j u hu => ?_⟩, fun y hy => ?_⟩, .inr ⟨_, _, rfl, by simp [hlen]⟩, ?_⟩
  ·obtain ⟨y, h4, h5⟩ := flat_get hn hpos ls j u hu
   obtain ⟨h6, _⟩ := h2 _ _ h4
   have h7 := (World.cells?_some h6).2.2 (j % n) (Nat.mod_lt _ hpos)
   rw [cell?_hp]
   rw [h5, add_add] at h7
   have : j / n * n + j % n = j := by rw [Nat.mul_comm]; exact Nat.div_add_mod j n
   rw [this] at h7; exact h7
  ·obtain ⟨i, hi⟩ := List.getElem?_of_mem hy
   exact (h2 i y hi).2
  ·simp only [bulkOf, bulkAll_sum, List.map_map]
   rw [List.take_of_length_le (by omega)] at h3
   simp only [Function.comp_def]
   omega
theorem shp_slice {α : Type} {cells : α → List Value} {ok : Heap → α → Prop} {bulk : α → Nat} (ht : P.underlying t = some (.slice e)) (S : Shp P e cells ok bulk) {n : Nat} (hc : P.cellsOf e = n) (hn : ∀ y, (cells y).length = n) (hpos : 0 < n) :
  Shp P t (fun y : Option Addr × List α × Nat => [.slice y.1 y.2.1.length y.2.2]) (fun h y => SlOk cells ok h y.1 y.2.1 y.2.2) (fun y => (y.2.1.map bulk).sum + 1) := ⟨fun enc w base sp held fuel cs x h => by
 obtain ⟨a, ls, c, h1, h2, _, h3⟩ := slice_open ht S hc hn hpos h
 exact ⟨(a, ls, c), h1, h2, h3⟩⟩
structure ShpF (P : Program) (fs : List Field) (off tot : Nat) {α : Type} (cells : α → List Value) (ok : Heap → α → Prop) (bulk : α → Nat) : Prop where
 h : ∀ {H : Type} (enc : TypeId × Value → H) (w : World) (base : Nat) (sp : Nat → Bool) (held : Bool) (n : Nat) (cs : List Value) (xs : List (DataW H × List MemPlace)), xs.length = fs.length → cs.length = tot →
  (∀ (i : Nat) (f : Field), fs[i]? = some f → DataW.trod enc P w base sp held n f.type ((cs.drop f.offset).take (P.cellsOf f.type)) = xs[i]?) → ∃ y, cs.drop off = cells y ∧ ok (hp w) y ∧ bulk y ≤ (xs.map fun x => bulkOf x.1).sum
theorem shpF_nil {tot : Nat} : ShpF P [] tot tot (fun _ : Unit => []) (fun _ _ => True) (fun _ => 0) := ⟨fun enc w base sp held n cs xs _ hl _ =>
 ⟨(), by rw [List.drop_of_length_le (by omega)], trivial, Nat.zero_le _⟩⟩
theorem shpF_cons {f : Field} {fs : List Field} {off off' tot k : Nat} {α β : Type} {c1 : α → List Value} {ok1 : Heap → α → Prop} {b1 : α → Nat} {c2 : β → List Value} {ok2 : Heap → β → Prop} {b2 : β → Nat}
  (S : Shp P f.type c1 ok1 b1) (ho : f.offset = off) (hk : P.cellsOf f.type = k) (ho2 : off' = off + k) (R : ShpF P fs off' tot c2 ok2 b2) :
  ShpF P (f :: fs) off tot (fun y : α × β => c1 y.1 ++ c2 y.2) (fun h y => ok1 h y.1 ∧ ok2 h y.2) (fun y => b1 y.1 + b2 y.2) := ⟨fun enc w base sp held n cs xs hl hcs hall => by
 cases xs with
 | nil => simp at hl
 | cons x xs =>
  have h0 := hall 0 f rfl
  rw [ho, hk] at h0
  obtain ⟨y, h1, h2, h3⟩ := S.h enc w base sp held n _ _ h0
  obtain ⟨z, h4, h5, h6⟩ := R.h enc w base sp held n cs xs (by simpa using hl) hcs (fun i g hg => by have := hall (i + 1) g (by simpa using hg); simpa using this)
  refine ⟨(y, z), ?_, ⟨h2, h5⟩, ?_⟩
  ·simp only
   rw [← h1, ← h4, ho2, ← List.drop_drop, List.take_append_drop]
  ·simp only [List.map_cons, List.sum_cons]; omega⟩
theorem shp_struct {fs : Array Field} {tot : Nat} {α : Type} {cells : α → List Value} {ok : Heap → α → Prop} {bulk : α → Nat} (ht : P.underlying t = some (.struct fs)) (hc : P.cellsOf t = tot) (R : ShpF P fs.toList 0 tot cells ok bulk) : Shp P t cells ok bulk := ⟨fun enc w base sp held fuel cs x h => by
 obtain ⟨xs, n, _, rfl, h1, h2, h3⟩ := DataW.trod_struct ht h
 obtain ⟨y, h4, h5, h6⟩ := R.h enc w base sp held n cs xs (by simpa using h2) (by rw [h1, hc]) (fun i f hf => h3 i f (by simpa using hf))
 refine ⟨y, by simpa using h4, h5, ?_⟩
 simp only [bulkOf, bulkAll_sum, List.map_map, Function.comp_def]
 omega⟩
theorem Shp.map {α β : Type} {c1 : α → List Value} {ok1 : Heap → α → Prop} {b1 : α → Nat} {c2 : β → List Value} {ok2 : Heap → β → Prop} {b2 : β → Nat} (S : Shp P t c1 ok1 b1) (f : α → β) (hc : ∀ y, c1 y = c2 (f y)) (ho : ∀ h y, ok1 h y → ok2 h (f y)) (hb : ∀ y, b2 (f y) ≤ b1 y) : Shp P t c2 ok2 b2 := ⟨fun enc w base sp held fuel cs x h => by
 obtain ⟨y, h1, h2, h3⟩ := S.h enc w base sp held fuel cs x h
 exact ⟨f y, by rw [h1, hc], ho _ _ h2, Nat.le_trans (hb y) h3⟩⟩
variable {H : Type} {enc : TypeId × Value → H} {w : World} {r : Reach} {b0 base : Nat} {sp : Nat → Bool} {held : Bool} {v : Value} {d : DataW H} {ps : List MemPlace}
theorem arg_struct {fs : Array Field} {α : Type} {cells : α → List Value} {ok : Heap → α → Prop} {bulk : α → Nat} (ht : P.underlying t = some (.struct fs)) (S : Shp P t cells ok bulk)
  (hval : Value.okWide P w r b0 t v) (hd : DataW.Trod enc P w base sp held t v d ps) :
  ∃ y : α, v = .agg (cells y).toArray ∧ ok (hp w) y ∧ bulk y ≤ bulkOf d := by
 obtain ⟨cs, rfl, _⟩ := okWide_struct ht hval
 obtain ⟨fuel, hf⟩ := hd
 obtain ⟨y, h1, h2, h3⟩ := S.h enc w base sp held fuel _ _ hf
 refine ⟨y, ?_, h2, h3⟩
 rw [← h1]; simp [Value.cells]
end
theorem sum_ones {α : Type} (l : List α) : (l.map fun _ => 1).sum = l.length := by
 induction l with
 | nil => rfl
 | cons x r ih => simp only [List.map_cons, List.sum_cons, ih, List.length_cons]; omega
theorem wf_u64 {n : Int} (h : (Lit.int .u64 n).wf = true) : 0 ≤ n ∧ n ≤ 18446744073709551615 := by
 simp only [Lit.wf, Bool.and_eq_true, decide_eq_true_eq] at h
 have e1 : IntKind.u64.min = 0 := by decide
 have e2 : IntKind.u64.max = 18446744073709551615 := by decide
 omega
section
variable {P : Program} {t e : TypeId} {k : IntKind}
variable {H : Type} {enc : TypeId × Value → H} {w : World} {r : Reach} {b0 base : Nat} {sp : Nat → Bool} {held : Bool} {v : Value} {d : DataW H} {ps : List MemPlace}
end
section
variable {P : Program} {t e : TypeId} {k : IntKind} {n : Nat}
variable {H : Type} {enc : TypeId × Value → H} {w : World} {r : Reach} {b0 base : Nat} {sp : Nat → Bool} {held : Bool} {v : Value} {d : DataW H} {ps : List MemPlace}
end
end Go.Sl
namespace Go.Proofs.YtgllpcggdcknaaaGreatDoor.Rp
open Go Go.Sl Go.RowKit Go.WideShapes Go.ChangeShapes
theorem shp_u64 {P : Program} {t : TypeId} (ht : P.underlying t = some (.int .u64)) : Shp P t (fun n : Nat => [.int .u64 (n : Nat)]) (fun _ n => n ≤ 18446744073709551615) (fun _ => 1) := ⟨fun enc w base sp held fuel cs x h => by
 obtain ⟨n, h1, h2, h3⟩ := (shp_int ht).h enc w base sp held fuel cs x h
 have hw := wf_u64 h2
 refine ⟨n.toNat, ?_, by omega, h3⟩
 rw [h1, Int.toNat_of_nonneg hw.1]⟩
theorem flat_B (l : List Bs) : (l.flatMap fun f => [B f]) = fV l := by
 induction l with
 | nil => rfl
 | cons x r ih => rw [List.flatMap_cons, ih]; rfl
theorem flat_N (l : List Nat) : (l.flatMap fun n => [Value.int .u64 (n : Nat)]) = nV l := by
 induction l with
 | nil => rfl
 | cons x r ih => rw [List.flatMap_cons, ih]; rfl
def wF (l : List Bs) : Nat := (l.map fun f => f.length + 1).sum
theorem wF_eq (l : List (List UInt8)) : wF l = (l.map fun l => l.length + 1).sum := rfl
def wV (m : VM) : Nat := wF m.v.flags + m.v.text.length + 6
def wR (m : RM) : Nat := m.r.tag.length + m.r.code.length + m.r.text.length + m.r.nums.length + wF m.r.flags + m.r.box.length + (m.x.vs.map wV).sum + 1
structure VOk (h : Heap) (m : VM) : Prop where
 rd : RdS h m.a (fV m.v.flags)
 cap : m.v.flags.length ≤ m.c
 n : m.v.n ≤ 18446744073709551615
 fr : m.v.fr ≤ 18446744073709551615
theorem shpVal : Shp Tryz.prog 46 (fun m : VM => vmC m) (fun h m => VOk h m) wV :=
 (shp_struct Tryz.underlying46 z_5
  (shpF_cons (k := 1) (off' := 1) (shp_int (k := .i64) z_5) rfl z_5 rfl
  (shpF_cons (k := 1) (off' := 2) (shp_u64 z_5) rfl z_5 rfl
  (shpF_cons (k := 1) (off' := 3) (shp_slice (e := 9) z_5 (shp_string z_5) (n := 1) z_5 (fun _ => rfl) (by decide)) rfl z_5 rfl
  (shpF_cons (k := 1) (off' := 4) (shp_string z_5) rfl z_5 rfl
  (shpF_cons (k := 1) (off' := 5) (shp_bool z_5) rfl z_5 rfl
  (shpF_cons (k := 1) (off' := 6) (shp_u64 z_5) rfl z_5 rfl shpF_nil))))))).map
  (fun y => (⟨⟨y.1, y.2.1, y.2.2.1.2.1, y.2.2.2.1, y.2.2.2.2.1, y.2.2.2.2.2.1⟩, y.2.2.1.1, y.2.2.1.2.2⟩ : VM)) (fun y => rfl)
  (fun h y o => by
   obtain ⟨_, o2, o3, _, _, o6, _⟩ := o
   have h7 := o3.rd
   rw [flat_B] at h7
   exact ⟨h7, o3.le, o2, o6⟩)
  (fun y => by simp only [wV, wF_eq]; omega)
structure ROk (h : Heap) (m : RM) : Prop where
 rd : RRd m.r m.x h
 cap : CapL m.r m.x
 n : m.r.n ≤ 18446744073709551615
 mod : m.r.mod ≤ 18446744073709551615
 ns : ∀ k ∈ m.r.nums, k ≤ 18446744073709551615
 vs : ∀ v ∈ m.x.vs, v.v.n ≤ 18446744073709551615 ∧ v.v.fr ≤ 18446744073709551615
theorem shpRep : Shp Tryz.prog 27 (fun m : RM => rmC m) (fun h m => ROk h m) wR :=
 (shp_struct Tryz.underlying27 z_5
  (shpF_cons (k := 1) (off' := 1) (shp_int (k := .i64) z_5) rfl z_5 rfl
  (shpF_cons (k := 1) (off' := 2) (shp_string z_5) rfl z_5 rfl
  (shpF_cons (k := 1) (off' := 3) (shp_string z_5) rfl z_5 rfl
  (shpF_cons (k := 1) (off' := 4) (shp_string z_5) rfl z_5 rfl
  (shpF_cons (k := 1) (off' := 5) (shp_u64 z_5) rfl z_5 rfl
  (shpF_cons (k := 1) (off' := 6) (shp_slice (e := 22) z_5 (shp_u64 z_5) (n := 1) z_5 (fun _ => rfl) (by decide)) rfl z_5 rfl
  (shpF_cons (k := 1) (off' := 7) (shp_u64 z_5) rfl z_5 rfl
  (shpF_cons (k := 1) (off' := 8) (shp_slice (e := 9) z_5 (shp_string z_5) (n := 1) z_5 (fun _ => rfl) (by decide)) rfl z_5 rfl
  (shpF_cons (k := 1) (off' := 9) (shp_string z_5) rfl z_5 rfl
  (shpF_cons (k := 1) (off' := 10) (shp_slice (e := 46) z_5 shpVal (n := 6) z_5 (fun _ => rfl) (by decide)) rfl z_5 rfl shpF_nil))))))))))).map
  (fun y => (⟨⟨y.1, y.2.1, y.2.2.1, y.2.2.2.1, y.2.2.2.2.1, y.2.2.2.2.2.1.2.1, y.2.2.2.2.2.2.1, y.2.2.2.2.2.2.2.1.2.1, y.2.2.2.2.2.2.2.2.1, y.2.2.2.2.2.2.2.2.2.1.2.1.map VM.v⟩,
   ⟨y.2.2.2.2.2.1.1, y.2.2.2.2.2.1.2.2, y.2.2.2.2.2.2.2.1.1, y.2.2.2.2.2.2.2.1.2.2, y.2.2.2.2.2.2.2.2.2.1.1, y.2.2.2.2.2.2.2.2.2.1.2.2, y.2.2.2.2.2.2.2.2.2.1.2.1⟩⟩ : RM)) (fun y => rfl)
  (fun h y o => by
   obtain ⟨_, _, _, _, o5, o6, o7, o8, _, o10, _⟩ := o
   have h6 := o6.rd
   have h8 := o8.rd
   rw [flat_N] at h6
   rw [flat_B] at h8
   exact ⟨⟨rfl, h6, h8, o10.rd, fun m hm => (o10.each m hm).rd⟩, ⟨o8.le, fun m hm => (o10.each m hm).cap⟩, o5, o7, o6.each, fun m hm => ⟨(o10.each m hm).n, (o10.each m hm).fr⟩⟩)
  (fun y => by simp only [wR, wF_eq, sum_ones]; omega)
theorem wF_len (l : List Bs) : l.length ≤ wF l := by
 unfold wF
 induction l with
 | nil => simp
 | cons a t ih => simp only [List.map_cons, List.sum_cons, List.length_cons]; omega
theorem wF_mem {l : List Bs} {f : Bs} (h : f ∈ l) : f.length ≤ wF l := by
 unfold wF
 induction l with
 | nil => cases h
 | cons a t ih =>
  simp only [List.map_cons, List.sum_cons]
  rcases List.mem_cons.1 h with rfl | h
  ·omega
  ·have := ih h; omega
theorem join_wF : ∀ l : List Bs, (joinS [32] l).length ≤ wF l
 | [] => by simp [joinS]
 | [a] => by simp [joinS, wF]
 | a :: b :: t => by
  have h2 := join_wF (b :: t)
  rw [join_cons _ _ z_10]
  simp only [wF, List.map_cons, List.sum_cons, List.length_append, List.length_cons, List.length_nil] at h2 ⊢
  omega
theorem sum_mem {α : Type} {f : α → Nat} {l : List α} {a : α} (h : a ∈ l) : f a ≤ (l.map f).sum := by
 induction l with
 | nil => cases h
 | cons b t ih =>
  simp only [List.map_cons, List.sum_cons]
  rcases List.mem_cons.1 h with rfl | h
  ·omega
  ·have := ih h; omega
theorem szV_w {m : VM} (h1 : m.v.n ≤ 18446744073709551615) (h2 : m.v.fr ≤ 18446744073709551615) (hw : wV m ≤ 1048576) : SzV m.v := by
 have h3 := wF_len m.v.flags
 have h4 := join_wF m.v.flags
 unfold wV at hw
 refine ⟨by unfold big; omega, fun f hf => ?_, by unfold big; omega, by unfold big; omega, h1, h2⟩
 have := wF_mem hf
 unfold big
 omega
theorem szR_w {h : Heap} {m : RM} (o : ROk h m) (hw : wR m ≤ 1048576) : SzR m.r := by
 have h3 := wF_len m.r.flags
 have h4 := join_wF m.r.flags
 have hv := o.rd.vals
 unfold wR at hw
 have hvl : m.x.vs.length ≤ (m.x.vs.map wV).sum := by
  have : ∀ l : List VM, l.length ≤ (l.map wV).sum := fun l => by
   induction l with
   | nil => simp
   | cons a t ih => simp only [List.map_cons, List.sum_cons, List.length_cons, wV]; omega
  exact this _
 have hvl2 : m.r.values.length = m.x.vs.length := by rw [hv, List.length_map]
 refine ⟨by unfold big; omega, by unfold big; omega, by unfold big; omega, o.n, by unfold big; omega, o.ns, o.mod, by unfold big; omega, fun f hf => ?_, by unfold big; omega, by unfold big; omega, by unfold big; omega, fun v hv' => ?_⟩
 ·have := wF_mem hf
  unfold big
  omega
 ·rw [hv] at hv'
  obtain ⟨u, hu, rfl⟩ := List.mem_map.1 hv'
  have := sum_mem (f := wV) hu
  exact szV_w (o.vs u hu).1 (o.vs u hu).2 (by omega)
theorem valueP_w {m : VM} (h1 : m.v.n ≤ 18446744073709551615) (h2 : m.v.fr ≤ 18446744073709551615) (hw : wV m ≤ 1048576) : (valueP m.v).length ≤ wV m + 150 := by
 have hj := join_wF m.v.flags
 have hp := partP_len m.v h2
 have hd := digS_len64 h1
 have hl := litS_len m.v.text (by unfold wV at hw; unfold big; omega)
 unfold wV at hw ⊢
 unfold valueP
 split
 ·simp
 ·next hk =>
  have hi := itemA_len m.v.kind.toNat (by omega)
  split
  ·have : (itemA 6).length = 5 := rfl
   unfold printF
   simp only [List.length_append, List.length_cons, List.length_nil]
   omega
  split
  ·have : (itemA 9).length = 6 := rfl
   simp only [List.length_append, List.length_cons, List.length_nil]
   omega
  split
  ·simp only [List.length_append, List.length_cons]; omega
  ·simp only [List.length_append, List.length_cons]; omega
theorem cellF_w {k : Int} {m : VM} (h1 : m.v.n ≤ 18446744073709551615) (h2 : m.v.fr ≤ 18446744073709551615) (hw : wV m ≤ 1048576) : wF (cellF k m.v) ≤ wV m + 151 := by
 unfold cellF
 split
 ·have := valueP_w h1 h2 hw
  simp only [wF, List.map_cons, List.map_nil, List.sum_cons, List.sum_nil]
  omega
 split
 ·next hk =>
  have := countP_len (szV_w h1 h2 hw) hk
  simp only [wF, List.map_cons, List.map_nil, List.sum_cons, List.sum_nil]
  omega
 ·simp [wF]
theorem cells_w {k : Int} : ∀ {l : List VM}, (∀ m ∈ l, m.v.n ≤ 18446744073709551615 ∧ m.v.fr ≤ 18446744073709551615) → (l.map wV).sum ≤ 1048576 → wF (l.flatMap fun m => cellF k m.v) ≤ 30 * (l.map wV).sum
 | [], _, _ => by simp [wF]
 | a :: t, h, hw => by
  simp only [List.map_cons, List.sum_cons] at hw
  have h1 := cellF_w (k := k) (h a z_10).1 (h a z_10).2 (by omega)
  have h2 := cells_w (k := k) (l := t) (fun m hm => h m (by simp [hm])) (by omega)
  have h6 : 6 ≤ wV a := by unfold wV; omega
  have e : ∀ (a b : List Bs), wF (a ++ b) = wF a + wF b := fun a b => by simp [wF]
  rw [List.flatMap_cons, e]
  simp only [List.map_cons, List.sum_cons]
  omega
theorem cells_eq {r : RR} {x : RL} (hv : r.values = x.vs.map VM.v) : cellsP r = x.vs.flatMap fun m => cellF r.kind m.v := by
 rw [← cellJ_all hv]
 unfold cellJ
 rw [List.take_length]
theorem textP_w {h : Heap} {m : RM} (o : ROk h m) (hw : wR m ≤ 1048576) : (textP m.r).length ≤ 40 * wR m + 200 ∧ (numsP m.r.nums).length ≤ 40 * wR m ∧ (joinS [32] (cellsP m.r)).length ≤ 40 * wR m := by
 have h1 := numsP_len o.ns
 have h2 := join_wF (cellsP m.r)
 have hw' := hw
 unfold wR at hw
 have h3 := cells_w (k := m.r.kind) o.vs (by omega)
 rw [← cells_eq o.rd.vals] at h3
 have h4 := form_len m.r.box (by unfold big; omega)
 have h5 := digS_len64 o.n
 have h6 := digS_len64 o.mod
 have h7 := join_wF m.r.flags
 have h8 := stat_len (m.r.kind.toNat - 1)
 have h9 : (codeP m.r.code).length ≤ m.r.code.length + 3 := by
  unfold codeP
  split
  ·simp
  ·simp
 have h10 : (modP m.r.mod).length ≤ 40 := by
  unfold modP
  split
  ·simp
  ·simp only [List.length_append, List.length_cons, List.length_nil]; omega
 refine ⟨?_, by unfold wR; omega, by unfold wR; omega⟩
 unfold wR
 unfold textP printF
 repeat' split
 all_goals (simp only [List.length_append, List.length_cons, List.length_nil]; omega)
theorem szW_w {h : Heap} {m : RM} (o : ROk h m) (hw : wR m ≤ 1048576) : SzW m.r := by
 have h1 := textP_w o hw
 exact ⟨szR_w o hw, by unfold big; omega, by unfold big; omega⟩
end Go.Proofs.YtgllpcggdcknaaaGreatDoor.Rp
namespace Go.Proofs.YtgllpcggdcknaaaGreatDoor.Rp
open Go Go.Sl Go.RowKit
abbrev laidL : List (String × DataW Unit) := [("math/bits.deBruijn32tab", Rows.laid_math_bits_deBruijn32tab), ("math/bits.deBruijn64tab", Rows.laid_math_bits_deBruijn64tab), ("internal/strconv.uint64pow10", Rows.laid_internal_strconv_uint64pow10), ("unicode/utf8.acceptRanges", Rows.laid_unicode_utf8_acceptRanges), ("strconv.ErrRange", Rows.laid_strconv_ErrRange), ("strconv.ErrSyntax", Rows.laid_strconv_ErrSyntax), ("unicode/utf8.first", Rows.laid_unicode_utf8_first)]
theorem gPow : Tryz.prog.globalNamed "internal/strconv.uint64pow10" = some 1 := by kernel_rfl
theorem gPowT : (Tryz.prog.globals[1]?).map (·.type) = some 132 := by kernel_rfl
theorem gSyn : Tryz.prog.globalNamed "strconv.ErrSyntax" = some 2 := by kernel_rfl
theorem gSynT : (Tryz.prog.globals[2]?).map (·.type) = some 94 := by kernel_rfl
theorem gRng : Tryz.prog.globalNamed "strconv.ErrRange" = some 3 := by kernel_rfl
theorem gRngT : (Tryz.prog.globals[3]?).map (·.type) = some 94 := by kernel_rfl
theorem starE : "*" ++ "errors.errorString" = "*errors.errorString" := by decide
theorem row167 (u : TypeId) (h : Tryz.prog.typeName? 3 u = some "*errors.errorString") : u = 167 :=
 typeName_ptr_named (nm := "errors.errorString") (by rw [starE]; kernel_rfl) z_5 (by decide) u (by rw [starE]; exact h)
theorem var_block {P : Program} {W : World} {n : String} {g : Nat} {cs : Array Value} (hg : P.globalNamed n = some g) (h : W.var? P n = some cs) : ∃ t fr, hp W g = some (.cells cs t fr) := by
 unfold World.var? at h
 rw [hg] at h
 simp only [Option.bind_some] at h
 split at h
 ·next c t fr hh =>
  cases h
  exact ⟨t, fr, hh⟩
 ·cases h
theorem gMax : Tryz.prog.globalNamed "internal/bytealg.MaxLen" = some 0 := by kernel_rfl
theorem one_of {cs : Array Value} {v : Value} (hs : cs.size = 1) (h : cs[0]? = some v) : cs = #[v] := by
 obtain ⟨l⟩ := cs
 match l, hs with
 | [u], _ =>
  simp at h
  subst h
  rfl
theorem max_open {W : World} (h : W.ShapedOpen Tryz.prog) : ∃ m t fr, hp W 0 = some (.cells #[.int .i64 m] t fr) := by
 obtain ⟨m, hm⟩ := cell_of_shapedOpen_int (zero := #[.int .i64 0]) (t := 3) (g := 0) h (of_decide_eq_true z_5) z_5 rfl z_5 z_5 Tryz.underlying3
 obtain ⟨cs, hcc, hsz, _⟩ := h.1 0 #[.int .i64 0] 3 (of_decide_eq_true z_5) z_5
 have hv : W.var? Tryz.prog "internal/bytealg.MaxLen" = some cs := by
  unfold World.var?
  rw [gMax]
  simp only [Option.bind_some]
  rw [hcc]
 have h3 := World.var?_cell gMax hv 0
 rw [hm] at h3
 have hs1 : cs.size = 1 := hsz
 have hcs := one_of hs1 h3.symm
 subst hcs
 exact ⟨_, _, _, hcc⟩
theorem pow_eq : (Rows.laid_internal_strconv_uint64pow10 : DataW Unit) = Lib.tabData .u64 Lib.pow10Tab := rfl
theorem gl_of_laid {W : World} (hL : laidMetH Tryz.prog laidL W) (hO : W.ShapedOpen Tryz.prog) : Gl (hp W) := by
 rw [MakeChecks.laidMetH_plain _ _ _ z_5] at hL
 have h2 := hL.tail.tail
 have h4 := h2.tail.tail
 rw [pow_eq] at h2
 have hP := Lib.tabIs_of_head gPow gPowT Tryz.underlying132 Tryz.underlying22 z_5 z_5 h2
 obtain ⟨a3, s3, v3, _⟩ := laid_sentinel h4 gRng gRngT Tryz.underlying94 row167 Tryz.underlying167 Tryz.underlying169 rfl rfl Tryz.underlying9 z_5 z_5
 obtain ⟨a2, s2, v2, _⟩ := laid_sentinel h4.tail gSyn gSynT Tryz.underlying94 row167 Tryz.underlying167 Tryz.underlying169 rfl rfl Tryz.underlying9 z_5 z_5
 obtain ⟨t1, f1, b1⟩ := var_block gPow hP
 obtain ⟨t2, f2, b2⟩ := var_block gSyn v2
 obtain ⟨t3, f3, b3⟩ := var_block gRng v3
 exact ⟨max_open hO, ⟨t1, f1, b1⟩, ⟨_, t2, f2, b2, .inr ⟨_, _, rfl⟩⟩, ⟨_, t3, f3, b3, .inr ⟨_, _, rfl⟩⟩⟩
end Go.Proofs.YtgllpcggdcknaaaGreatDoor.Rp
namespace Go.Proofs.YtgllpcggdcknaaaGreatDoor.Rp
open Go Go.Sl Go.RowKit
def lit1 : DataW Unit → Value
 | .lit (.int k n) => .int k n
 | _ => .nilFunc
def tab1 : DataW Unit → List Value
 | .agg ps => ps.map lit1
 | _ => []
def tab2 : DataW Unit → List Value
 | .agg ps => ps.flatMap tab1
 | _ => []
def putO (cs : List Value) : Obj → Obj
 | .cells _ t fr => .cells cs.toArray t fr
 | o => o
noncomputable def low : Nat := (World.holding Tryz.prog default ⟨#[], #[], []⟩).heap.size
abbrev rngS : ByteArray := ⟨#[118, 97, 108, 117, 101, 32, 111, 117, 116, 32, 111, 102, 32, 114, 97, 110, 103, 101]⟩
abbrev synS : ByteArray := ⟨#[105, 110, 118, 97, 108, 105, 100, 32, 115, 121, 110, 116, 97, 120]⟩
noncomputable def laidWorld (os : Os) : World :=
 let w0 := World.holding Tryz.prog os ⟨#[.cells #[.string rngS] 169, .cells #[.string synS] 169], #[], []⟩
 { w0 with heap := ((((((w0.heap.modify 1 (putO (tab1 Rows.laid_internal_strconv_uint64pow10))).modify 2 (putO [.iface 167 (.pointer (some ⟨low + 1, 0, none⟩))])).modify 3 (putO [.iface 167 (.pointer (some ⟨low, 0, none⟩))])).modify 4 (putO (tab1 Rows.laid_math_bits_deBruijn32tab))).modify 5 (putO (tab1 Rows.laid_math_bits_deBruijn64tab))).modify 6 (putO (tab1 Rows.laid_unicode_utf8_first))).modify 7 (putO (tab2 Rows.laid_unicode_utf8_acceptRanges)) }
set_option maxRecDepth 100000 in
theorem laid_met (os : Os) (args : Array Value) : laidMetH Tryz.prog laidL ((laidWorld os).forCall (fun _ _ => 0) ⟨#[], args, []⟩).memory := by
 rw [MakeChecks.laidMetH_plain _ _ _ z_5]
 exact laidMet_of_run3 8 z_5 z_5 z_5
set_option maxRecDepth 100000 in
theorem laid_vars (os : Os) (args : Array Value) : ((laidWorld os).forCall (fun _ _ => 0) ⟨#[], args, []⟩).variablesRefB Tryz.prog = true := by kernel_rfl
set_option maxRecDepth 100000 in
theorem laid_rest (os : Os) (args : Array Value) : (((laidWorld os).forCall (fun _ _ => 0) ⟨#[], args, []⟩).heap.toList.drop Tryz.prog.globals.size).take ((begin Tryz.prog (fun _ _ => 0) default).world.heap.size - Tryz.prog.globals.size) =
   (begin Tryz.prog (fun _ _ => 0) default).world.heap.toList.drop Tryz.prog.globals.size := by kernel_rfl
end Go.Proofs.YtgllpcggdcknaaaGreatDoor.Rp
namespace Go.Proofs.YtgllpcggdcknaaaGreatDoor.Rp
open Go Go.Sl Go.RowKit
mutual
theorem bulk_eq {H : Type} : ∀ d : DataW H, Rows.uptoBulk d = bulkOf d
 | .lit l => by cases l <;> rfl
 | .nil => rfl
 | .ptr d => by simp only [Rows.uptoBulk, bulkOf, bulk_eq d]
 | .slice e s => by simp only [Rows.uptoBulk, bulkOf, bulk_all e, bulk_all s]
 | .agg p => by simp only [Rows.uptoBulk, bulkOf, bulk_all p]
 | .iface _ d => by simp only [Rows.uptoBulk, bulkOf, bulk_eq d]
 | .map e => by simp only [Rows.uptoBulk, bulkOf, bulk_entries e]
 | .held _ => rfl
theorem bulk_all {H : Type} : ∀ l : List (DataW H), Rows.uptoBulkAll l = bulkAll l
 | [] => rfl
 | d :: r => by simp only [Rows.uptoBulkAll, bulkAll, bulk_eq d, bulk_all r]
theorem bulk_entries {H : Type} : ∀ l : List (Lit × DataW H), Rows.uptoBulkEntries l = bulkEntries l
 | [] => rfl
 | x :: r => by simp only [Rows.uptoBulkEntries, bulkEntries, bulk_entry x, bulk_entries r]
theorem bulk_entry {H : Type} : ∀ x : Lit × DataW H, Rows.uptoBulkEntry x = bulkEntry x
 | (l, d) => by cases l <;> simp only [Rows.uptoBulkEntry, bulkEntry, bulk_eq d]
end
theorem own : ownKnob Tryz.prog.godebug = none := by kernel_rfl
end Go.Proofs.YtgllpcggdcknaaaGreatDoor.Rp
