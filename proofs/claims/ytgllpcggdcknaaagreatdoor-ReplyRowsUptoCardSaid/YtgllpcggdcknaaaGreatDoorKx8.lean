import Derived.Test.YtgllpcggdcknaaaGreatDoorKx7
import Derived.Laws.Tables
set_option linter.unusedVariables false
set_option linter.unusedSimpArgs false
namespace Go.Proofs.YtgllpcggdcknaaaGreatDoor.Rp
open Go Go.Sl
instance decRV : DecidableEq RV := fun a b => decidable_of_iff (a.kind = b.kind ∧ a.n = b.n ∧ a.flags = b.flags ∧ a.text = b.text ∧ a.part = b.part ∧ a.fr = b.fr) (by cases a; cases b; simp)
instance decRR : DecidableEq RR := fun a b => decidable_of_iff (a.kind = b.kind ∧ a.tag = b.tag ∧ a.code = b.code ∧ a.text = b.text ∧ a.n = b.n ∧ a.nums = b.nums ∧ a.mod = b.mod ∧ a.flags = b.flags ∧ a.box = b.box ∧ a.values = b.values) (by cases a; cases b; simp)
theorem RR.ext' {a b : RR} (h1 : a.kind = b.kind) (h2 : a.tag = b.tag) (h3 : a.code = b.code) (h4 : a.text = b.text) (h5 : a.n = b.n) (h6 : a.nums = b.nums) (h7 : a.mod = b.mod) (h8 : a.flags = b.flags) (h9 : a.box = b.box) (h10 : a.values = b.values) : a = b := by
  cases a; cases b; simp at *; simp [*]
theorem RV.ext' {a b : RV} (h1 : a.kind = b.kind) (h2 : a.n = b.n) (h3 : a.flags = b.flags) (h4 : a.text = b.text) (h5 : a.part = b.part) (h6 : a.fr = b.fr) : a = b := by
  cases a; cases b; simp at *; simp [*]
theorem sca9 (q1 q2 q3 q4 q5 q6 q7 q8 q9 : Bool) : (q1 = false) ∨ (q1 = true ∧ q2 = false) ∨ (q1 = true ∧ q2 = true ∧ q3 = false) ∨ (q1 = true ∧ q2 = true ∧ q3 = true ∧ q4 = false) ∨ (q1 = true ∧ q2 = true ∧ q3 = true ∧ q4 = true ∧ q5 = false) ∨ (q1 = true ∧ q2 = true ∧ q3 = true ∧ q4 = true ∧ q5 = true ∧ q6 = false) ∨ (q1 = true ∧ q2 = true ∧ q3 = true ∧ q4 = true ∧ q5 = true ∧ q6 = true ∧ q7 = false) ∨ (q1 = true ∧ q2 = true ∧ q3 = true ∧ q4 = true ∧ q5 = true ∧ q6 = true ∧ q7 = true ∧ q8 = false) ∨ (q1 = true ∧ q2 = true ∧ q3 = true ∧ q4 = true ∧ q5 = true ∧ q6 = true ∧ q7 = true ∧ q8 = true ∧ q9 = false) ∨ (q1 = true ∧ q2 = true ∧ q3 = true ∧ q4 = true ∧ q5 = true ∧ q6 = true ∧ q7 = true ∧ q8 = true ∧ q9 = true) := by
  cases q1 with
  | false => simp
  | true =>
  cases q2 with
  | false => simp
  | true =>
  cases q3 with
  | false => simp
  | true =>
  cases q4 with
  | false => simp
  | true =>
  cases q5 with
  | false => simp
  | true =>
  cases q6 with
  | false => simp
  | true =>
  cases q7 with
  | false => simp
  | true =>
  cases q8 with
  | false => simp
  | true =>
  cases q9 with
  | false => simp
  | true =>
  simp
theorem sca6 (q1 q2 q3 q4 q5 q6 : Bool) : (q1 = false) ∨ (q1 = true ∧ q2 = false) ∨ (q1 = true ∧ q2 = true ∧ q3 = false) ∨ (q1 = true ∧ q2 = true ∧ q3 = true ∧ q4 = false) ∨ (q1 = true ∧ q2 = true ∧ q3 = true ∧ q4 = true ∧ q5 = false) ∨ (q1 = true ∧ q2 = true ∧ q3 = true ∧ q4 = true ∧ q5 = true ∧ q6 = false) ∨ (q1 = true ∧ q2 = true ∧ q3 = true ∧ q4 = true ∧ q5 = true ∧ q6 = true) := by
  cases q1 with
  | false => simp
  | true =>
  cases q2 with
  | false => simp
  | true =>
  cases q3 with
  | false => simp
  | true =>
  cases q4 with
  | false => simp
  | true =>
  cases q5 with
  | false => simp
  | true =>
  cases q6 with
  | false => simp
  | true =>
  simp
theorem getN_ext {l m : List Nat} (hlen : l.length = m.length) (h : ∀ i, i < l.length → l.getD i 0 = m.getD i 0) : l = m := by
  apply List.ext_getElem hlen
  intro i h1 h2
  have := h i h1
  rw [List.getD_eq_getElem?_getD, List.getD_eq_getElem?_getD, List.getElem?_eq_getElem h1, List.getElem?_eq_getElem h2] at this
  exact this
theorem getVM_ext {l m : List VM} (hlen : l.length = m.length) (h : ∀ i, i < l.length → (l.getD i VM0).v = (m.getD i VM0).v) : l.map VM.v = m.map VM.v := by
  apply List.ext_getElem (by simpa using hlen)
  intro i h1 h2
  rw [List.length_map] at h1 h2
  have := h i h1
  rw [List.getD_eq_getElem?_getD, List.getD_eq_getElem?_getD, List.getElem?_eq_getElem h1, List.getElem?_eq_getElem h2] at this
  simpa using this
structure SzC (r : RR) : Prop where
  nl : r.nums.length ≤ big
  fl : r.flags.length ≤ big
  vl : r.values.length ≤ big
  vs : ∀ v ∈ r.values, v.flags.length ≤ big
theorem SzR.c {r : RR} (h : SzR r) : SzC r := ⟨h.nl, h.fl, h.vl, fun v hv => (h.vs v hv).fl⟩
set_option maxRecDepth 8000 in
set_option maxHeartbeats 1000000 in
theorem SameR_ct (r s : RR) (x y : RL) (hz : SzC r) : Pu Tryz.prog 11 [rrA r x, rrA s y] (fun h => RRd r x h ∧ RRd s y h) (.bool (decide (r = s))) := by
  have hzn := hz.nl
  have hzf := hz.fl
  have hzl := hz.vl
  have hzv := hz.vs
  unfold big at hzn hzf hzl hzv
  obtain ⟨q1, hq1⟩ : ∃ q, q = decide (r.kind = s.kind) := ⟨_, rfl⟩
  obtain ⟨q2, hq2⟩ : ∃ q, q = decide (r.tag = s.tag) := ⟨_, rfl⟩
  obtain ⟨q3, hq3⟩ : ∃ q, q = decide (r.code = s.code) := ⟨_, rfl⟩
  obtain ⟨q4, hq4⟩ : ∃ q, q = decide (r.text = s.text) := ⟨_, rfl⟩
  obtain ⟨q5, hq5⟩ : ∃ q, q = decide ((r.n : Int) = s.n) := ⟨_, rfl⟩
  obtain ⟨q6, hq6⟩ : ∃ q, q = decide (r.box = s.box) := ⟨_, rfl⟩
  obtain ⟨q7, hq7⟩ : ∃ q, q = decide ((r.mod : Int) = s.mod) := ⟨_, rfl⟩
  obtain ⟨q8, hq8⟩ : ∃ q, q = decide ((r.nums.length : Int) = s.nums.length) := ⟨_, rfl⟩
  obtain ⟨q9, hq9⟩ : ∃ q, q = decide ((x.vs.length : Int) = y.vs.length) := ⟨_, rfl⟩
  obtain ⟨q10, hq10⟩ : ∃ q, q = decide (r.flags = s.flags) := ⟨_, rfl⟩
  refine ct_enter 158 Tryz.func11 rfl rfl rfl ?_
  intro F hr
  have hra := hr.1
  have hrb := hr.2
  have hva := hra.vals
  have hvb := hrb.vals
  have hxl : x.vs.length ≤ 1000000000000 := by have := congrArg List.length hva; rw [List.length_map] at this; omega
  obtain ⟨all, hall⟩ : ∃ b, b = (q1 && q2 && q3 && q4 && q5 && q6 && q7 && q8 && q9 && q10) := ⟨_, rfl⟩
  have hne : all = false → r ≠ s := by
    rintro h rfl
    have hl : x.vs.length = y.vs.length := by have := congrArg List.length (hva.symm.trans hvb); simpa using this
    rw [hall, hq1, hq2, hq3, hq4, hq5, hq6, hq7, hq8, hq9, hq10, hl] at h
    simp at h
  have heq : all = true → (r.kind = s.kind ∧ r.tag = s.tag ∧ r.code = s.code ∧ r.text = s.text ∧ r.n = s.n ∧ r.box = s.box ∧ r.mod = s.mod ∧ r.nums.length = s.nums.length ∧ x.vs.length = y.vs.length ∧ r.flags = s.flags) := by
    intro h
    rw [hall, hq1, hq2, hq3, hq4, hq5, hq6, hq7, hq8, hq9, hq10] at h
    simp only [Bool.and_eq_true, decide_eq_true_eq] at h
    obtain ⟨⟨⟨⟨⟨⟨⟨⟨⟨a, b⟩, c⟩, d⟩, e⟩, f⟩, g⟩, i⟩, j⟩, k⟩ := h
    exact ⟨a, b, c, d, by omega, f, by omega, by omega, by omega, k⟩
  repeat refine x_ ?_
  refine gl_boxA rfl rfl ?_; intro g2
  refine gl_boxA rfl rfl ?_; intro g3
  refine a_ ?_
  repeat refine n_ ?_
  refine g_cutK [(2, Ptr g2), (3, Ptr g3), (81, .bool (!all))] [blkR g3 s y, blkR g2 r x] ?_ ?_
  · rw [hall]
    rcases sca9 q1 q2 q3 q4 q5 q6 q7 q8 q9 with rfl | ⟨rfl, rfl⟩ | ⟨rfl, rfl, rfl⟩ | ⟨rfl, rfl, rfl, rfl⟩ | ⟨rfl, rfl, rfl, rfl, rfl⟩ | ⟨rfl, rfl, rfl, rfl, rfl, rfl⟩ | ⟨rfl, rfl, rfl, rfl, rfl, rfl, rfl⟩ | ⟨rfl, rfl, rfl, rfl, rfl, rfl, rfl, rfl⟩ | ⟨rfl, rfl, rfl, rfl, rfl, rfl, rfl, rfl, rfl⟩ | ⟨rfl, rfl, rfl, rfl, rfl, rfl, rfl, rfl, rfl⟩
    all_goals (
      repeat refine x_ ?_
      refine f_ z_1 ?_
      refine r_ (by exact s_load_blk rfl z_3 a10_0) ?_
      refine f_ z_1 ?_
      refine r_ (by exact s_load_blk rfl z_3 a10_0) ?_
      refine f_ ((s_neq rfl rfl).eq (congrArg (fun b => Value.bool (!b)) hq1.symm)) ?_
      refine m_ ?_
      (first | refine gl_guard_no rfl rfl rfl rfl rfl rfl rfl ?_ | (refine v_ ?_; refine f_ z_1 ?_))
      (first | refine gl_guard_no rfl rfl rfl rfl rfl rfl rfl ?_ | (refine v_ ?_; refine r_ (by exact s_load_blk rfl z_3 a10_1) ?_))
      (first | refine gl_guard_no rfl rfl rfl rfl rfl rfl rfl ?_ | (refine v_ ?_; refine f_ z_1 ?_))
      (first | refine gl_guard_no rfl rfl rfl rfl rfl rfl rfl ?_ | (refine v_ ?_; refine r_ (by exact s_load_blk rfl z_3 a10_1) ?_))
      (first | refine gl_guard_no rfl rfl rfl rfl rfl rfl rfl ?_ | (refine v_ ?_; refine f_ ((s_neq_str rfl rfl).eq (congrArg (fun b => Value.bool (!b)) hq2.symm)) ?_))
      refine f_ z_4 ?_
      refine m_ ?_
      (first | refine gl_guard_no rfl rfl rfl rfl rfl rfl rfl ?_ | (refine v_ ?_; refine f_ z_1 ?_))
      (first | refine gl_guard_no rfl rfl rfl rfl rfl rfl rfl ?_ | (refine v_ ?_; refine r_ (by exact s_load_blk rfl z_3 a10_2) ?_))
      (first | refine gl_guard_no rfl rfl rfl rfl rfl rfl rfl ?_ | (refine v_ ?_; refine f_ z_1 ?_))
      (first | refine gl_guard_no rfl rfl rfl rfl rfl rfl rfl ?_ | (refine v_ ?_; refine r_ (by exact s_load_blk rfl z_3 a10_2) ?_))
      (first | refine gl_guard_no rfl rfl rfl rfl rfl rfl rfl ?_ | (refine v_ ?_; refine f_ ((s_neq_str rfl rfl).eq (congrArg (fun b => Value.bool (!b)) hq3.symm)) ?_))
      refine f_ z_4 ?_
      refine m_ ?_
      (first | refine gl_guard_no rfl rfl rfl rfl rfl rfl rfl ?_ | (refine v_ ?_; refine f_ z_1 ?_))
      (first | refine gl_guard_no rfl rfl rfl rfl rfl rfl rfl ?_ | (refine v_ ?_; refine r_ (by exact s_load_blk rfl z_3 a10_3) ?_))
      (first | refine gl_guard_no rfl rfl rfl rfl rfl rfl rfl ?_ | (refine v_ ?_; refine f_ z_1 ?_))
      (first | refine gl_guard_no rfl rfl rfl rfl rfl rfl rfl ?_ | (refine v_ ?_; refine r_ (by exact s_load_blk rfl z_3 a10_3) ?_))
      (first | refine gl_guard_no rfl rfl rfl rfl rfl rfl rfl ?_ | (refine v_ ?_; refine f_ ((s_neq_str rfl rfl).eq (congrArg (fun b => Value.bool (!b)) hq4.symm)) ?_))
      refine f_ z_4 ?_
      refine m_ ?_
      (first | refine gl_guard_no rfl rfl rfl rfl rfl rfl rfl ?_ | (refine v_ ?_; refine f_ z_1 ?_))
      (first | refine gl_guard_no rfl rfl rfl rfl rfl rfl rfl ?_ | (refine v_ ?_; refine r_ (by exact s_load_blk rfl z_3 a10_4) ?_))
      (first | refine gl_guard_no rfl rfl rfl rfl rfl rfl rfl ?_ | (refine v_ ?_; refine f_ z_1 ?_))
      (first | refine gl_guard_no rfl rfl rfl rfl rfl rfl rfl ?_ | (refine v_ ?_; refine r_ (by exact s_load_blk rfl z_3 a10_4) ?_))
      (first | refine gl_guard_no rfl rfl rfl rfl rfl rfl rfl ?_ | (refine v_ ?_; refine f_ ((s_neq rfl rfl).eq (congrArg (fun b => Value.bool (!b)) hq5.symm)) ?_))
      refine f_ z_4 ?_
      refine m_ ?_
      (first | refine gl_guard_no rfl rfl rfl rfl rfl rfl rfl ?_ | (refine v_ ?_; refine f_ z_1 ?_))
      (first | refine gl_guard_no rfl rfl rfl rfl rfl rfl rfl ?_ | (refine v_ ?_; refine r_ (by exact s_load_blk rfl z_3 a10_8) ?_))
      (first | refine gl_guard_no rfl rfl rfl rfl rfl rfl rfl ?_ | (refine v_ ?_; refine f_ z_1 ?_))
      (first | refine gl_guard_no rfl rfl rfl rfl rfl rfl rfl ?_ | (refine v_ ?_; refine r_ (by exact s_load_blk rfl z_3 a10_8) ?_))
      (first | refine gl_guard_no rfl rfl rfl rfl rfl rfl rfl ?_ | (refine v_ ?_; refine f_ ((s_neq_str rfl rfl).eq (congrArg (fun b => Value.bool (!b)) hq6.symm)) ?_))
      refine f_ z_4 ?_
      refine m_ ?_
      (first | refine gl_guard_no rfl rfl rfl rfl rfl rfl rfl ?_ | (refine v_ ?_; refine f_ z_1 ?_))
      (first | refine gl_guard_no rfl rfl rfl rfl rfl rfl rfl ?_ | (refine v_ ?_; refine r_ (by exact s_load_blk rfl z_3 a10_6) ?_))
      (first | refine gl_guard_no rfl rfl rfl rfl rfl rfl rfl ?_ | (refine v_ ?_; refine f_ z_1 ?_))
      (first | refine gl_guard_no rfl rfl rfl rfl rfl rfl rfl ?_ | (refine v_ ?_; refine r_ (by exact s_load_blk rfl z_3 a10_6) ?_))
      (first | refine gl_guard_no rfl rfl rfl rfl rfl rfl rfl ?_ | (refine v_ ?_; refine f_ ((s_neq rfl rfl).eq (congrArg (fun b => Value.bool (!b)) hq7.symm)) ?_))
      refine f_ z_4 ?_
      refine m_ ?_
      (first | refine gl_guard_no rfl rfl rfl rfl rfl rfl rfl ?_ | (refine v_ ?_; refine f_ z_1 ?_))
      (first | refine gl_guard_no rfl rfl rfl rfl rfl rfl rfl ?_ | (refine v_ ?_; refine r_ (by exact s_load_blk rfl z_3 a10_5) ?_))
      (first | refine gl_guard_no rfl rfl rfl rfl rfl rfl rfl ?_ | (refine v_ ?_; refine f_ (s_len_sl rfl) ?_))
      (first | refine gl_guard_no rfl rfl rfl rfl rfl rfl rfl ?_ | (refine v_ ?_; refine f_ z_1 ?_))
      (first | refine gl_guard_no rfl rfl rfl rfl rfl rfl rfl ?_ | (refine v_ ?_; refine r_ (by exact s_load_blk rfl z_3 a10_5) ?_))
      (first | refine gl_guard_no rfl rfl rfl rfl rfl rfl rfl ?_ | (refine v_ ?_; refine f_ (s_len_sl rfl) ?_))
      (first | refine gl_guard_no rfl rfl rfl rfl rfl rfl rfl ?_ | (refine v_ ?_; refine f_ ((s_neq rfl rfl).eq (congrArg (fun b => Value.bool (!b)) hq8.symm)) ?_))
      refine f_ z_4 ?_
      refine m_ ?_
      (first | refine gl_guard_no rfl rfl rfl rfl rfl rfl rfl ?_ | (refine v_ ?_; refine f_ z_1 ?_))
      (first | refine gl_guard_no rfl rfl rfl rfl rfl rfl rfl ?_ | (refine v_ ?_; refine r_ (by exact s_load_blk rfl z_3 a10_9) ?_))
      (first | refine gl_guard_no rfl rfl rfl rfl rfl rfl rfl ?_ | (refine v_ ?_; refine f_ (s_len_sl rfl) ?_))
      (first | refine gl_guard_no rfl rfl rfl rfl rfl rfl rfl ?_ | (refine v_ ?_; refine f_ z_1 ?_))
      (first | refine gl_guard_no rfl rfl rfl rfl rfl rfl rfl ?_ | (refine v_ ?_; refine r_ (by exact s_load_blk rfl z_3 a10_9) ?_))
      (first | refine gl_guard_no rfl rfl rfl rfl rfl rfl rfl ?_ | (refine v_ ?_; refine f_ (s_len_sl rfl) ?_))
      (first | refine gl_guard_no rfl rfl rfl rfl rfl rfl rfl ?_ | (refine v_ ?_; refine f_ ((s_neq rfl rfl).eq (congrArg (fun b => Value.bool (!b)) hq9.symm)) ?_))
      refine f_ z_4 ?_
      refine m_ ?_
      (first | refine gl_guard_no rfl rfl rfl rfl rfl rfl rfl ?_ | (refine v_ ?_; refine f_ z_1 ?_))
      (first | refine gl_guard_no rfl rfl rfl rfl rfl rfl rfl ?_ | (refine v_ ?_; refine r_ (by exact s_load_blk rfl z_3 a10_7) ?_))
      (first | refine gl_guard_no rfl rfl rfl rfl rfl rfl rfl ?_ | (refine v_ ?_; refine f_ z_1 ?_))
      (first | refine gl_guard_no rfl rfl rfl rfl rfl rfl rfl ?_ | (refine v_ ?_; refine r_ (by exact s_load_blk rfl z_3 a10_7) ?_))
      (first | refine gl_guard_no rfl rfl rfl rfl rfl rfl rfl ?_ | (refine v_ ?_; refine gl_callp rfl (SameF_ct r.flags s.flags x.fa y.fa x.fc y.fc (by omega)) (fun h hh hb => ⟨hra.flags.le hh, hrb.flags.le hh⟩) rfl ?_; rw [← hq10]))
      (first | refine gl_guard_no rfl rfl rfl rfl rfl rfl rfl ?_ | (refine v_ ?_; refine f_ (s_not rfl) ?_))
      refine f_ z_4 ?_
      refine gl_nil ?_
      repeat refine y_ ?_)
    all_goals exact at_cut j_ i_
  repeat refine y_ ?_
  refine g_cond rfl (fun h => ?_) (fun h => ?_)
  · rw [decide_eq_false (hne (by simpa using h))]
    repeat refine x_ ?_
    refine a_ ?_
    repeat refine n_ ?_
    refine g_ret ?_
    exact at_end1 rfl rfl [] ⟨rfl, rfl⟩ (fun w hw => hw.dropAll)
  obtain ⟨e1, e2, e3, e4, e5, e6, e7, e8, e9, e10⟩ := heq (by simpa using h)
  repeat refine x_ ?_
  refine a_ ?_
  repeat refine n_ ?_
  refine g_loop (ι := Nat) (fun k => k ≤ r.nums.length ∧ ∀ i, i < k → r.nums.getD i 0 = s.nums.getD i 0) (fun k => [(2, Ptr g2), (3, Ptr g3), (5, .int .i64 (k : Nat))]) (fun _ => [blkR g3 s y, blkR g2 r x]) (fun k => r.nums.length - k) 0 ⟨by omega, fun i h => by omega⟩ ?_ ?_ ?_
  · (repeat (first | exact Sub.nil _ | refine Sub.cons rfl ?_))
  · intro w hw; exact hw
  rintro k ⟨hk, hok⟩
  repeat refine x_ ?_
  refine m_ ?_
  refine f_ z_1 ?_
  refine r_ (by exact s_load_blk rfl z_3 a10_5) ?_
  refine f_ (s_len_sl rfl) ?_
  refine f_ (s_lss rfl rfl) ?_
  repeat refine n_ ?_
  refine g_cond rfl (fun h => ?_) (fun h => ?_)
  · have hk' : k < r.nums.length := by simp at h; omega
    have hs1 := rdN_some hra.nums hk'
    have hs2 := rdN_some hrb.nums (i := k) (by omega)
    repeat refine y_ ?_
    refine g_draw ([1, 4, 6, 9], [0, 1, 0, 7, 15, 0, 32, 0, 224, 480, 1023], []) [blkR g3 s y, blkR g2 r x] 11 rfl ?_
    refine w_ 0 rfl z_1 ?_
    (refine ga_read_k 1 rfl (by exact .tail _ (.head _)) (s_load_blk rfl .del a10_5) (by (exact fun _ h => h)) rfl rfl rfl z_5 ?_)
    refine w_ 2 rfl (s_move rfl) ?_
    refine w_ 3 rfl (s_indexAddr rfl (by assumption) rfl (by omega)) ?_
    refine ga_readF 4 rfl (s_load1 rfl (fun w hw => rdN hw hra.nums (i := k) (by omega) (by omega))) (by (exact fun _ h => h)) rfl rfl rfl z_5 ?_
    refine w_ 5 rfl z_1 ?_
    (refine ga_read_k 6 rfl (by exact .head _) (s_load_blk rfl .del a10_5) (by (exact fun _ h => h)) rfl rfl rfl z_5 ?_)
    refine w_ 7 rfl (s_move rfl) ?_
    refine w_ 8 rfl (s_indexAddr rfl (by assumption) rfl (by omega)) ?_
    refine ga_readF 9 rfl (s_load1 rfl (fun w hw => rdN hw hrb.nums (i := k) (by omega) (by omega))) (by (exact fun _ h => h)) rfl rfl rfl z_5 ?_
    refine w_ 10 rfl ((s_neq rfl rfl).eq (v' := .bool (!decide (r.nums.getD k 0 = s.nums.getD k 0))) (congrArg (fun b => Value.bool (!b)) (decide_eq_decide.mpr (by omega)))) ?_
    refine ga_done z_5 ?_
    repeat refine y_ ?_
    refine g_cond rfl (fun h2 => ?_) (fun h2 => ?_)
    · have hn : r ≠ s := by rintro rfl; simp at h2
      rw [decide_eq_false hn]
      repeat refine x_ ?_
      refine a_ ?_
      repeat refine n_ ?_
      refine g_ret ?_
      exact at_end1 rfl rfl [] ⟨rfl, rfl⟩ (fun w hw => hw.dropAll)
    · have h3 : r.nums.getD k 0 = s.nums.getD k 0 := by simpa using h2
      repeat refine x_ ?_
      refine m_ ?_
      refine f_ (s_add_i64 rfl rfl (by omega)) ?_
      refine a_ ?_
      repeat refine n_ ?_
      refine at_next (k + 1) ⟨by omega, fun i hi => ?_⟩ (by omega) ?_ ?_
      · rcases Nat.lt_succ_iff_lt_or_eq.1 hi with h4 | rfl
        · exact hok i h4
        · exact h3
      · (repeat (first | exact Sub.nil _ | refine Sub.cons rfl ?_))
      · intro w hw; exact hw
  have hkl : k = r.nums.length := by simp at h; omega
  subst hkl
  have en := getN_ext e8 hok
  repeat refine x_ ?_
  refine a_ ?_
  repeat refine n_ ?_
  refine g_loop (ι := Nat) (fun k => k ≤ x.vs.length ∧ ∀ i, i < k → (x.vs.getD i VM0).v = (y.vs.getD i VM0).v) (fun k => [(2, Ptr g2), (3, Ptr g3), (6, .int .i64 (k : Nat))]) (fun _ => [blkR g3 s y, blkR g2 r x]) (fun k => x.vs.length - k) 0 ⟨by omega, fun i h => by omega⟩ ?_ ?_ ?_
  · (repeat (first | exact Sub.nil _ | refine Sub.cons rfl ?_))
  · intro w hw; exact hw
  rintro k ⟨hk, hokv⟩
  repeat refine x_ ?_
  refine m_ ?_
  refine f_ z_1 ?_
  refine r_ (by exact s_load_blk rfl z_3 a10_9) ?_
  refine f_ (s_len_sl rfl) ?_
  refine f_ (s_lss rfl rfl) ?_
  repeat refine n_ ?_
  refine g_cond rfl (fun h => ?_) (fun h => ?_)
  · have hk' : k < x.vs.length := by simp at h; omega
    have hk2 : k < y.vs.length := by omega
    have hs1 := rdVM_some hra.vs hk'
    have hs2 := rdVM_some hrb.vs hk2
    obtain ⟨u, hue⟩ : ∃ u, u = x.vs.getD k VM0 := ⟨_, rfl⟩
    obtain ⟨v, hve⟩ : ∃ u, u = y.vs.getD k VM0 := ⟨_, rfl⟩
    have hum : u ∈ x.vs := by rw [hue]; exact getVM_mem hk'
    have hvm : v ∈ y.vs := by rw [hve]; exact getVM_mem hk2
    have hfu := hra.fs u hum
    have hfv := hrb.fs v hvm
    have hul := hzv u.v (by rw [hva]; exact List.mem_map.mpr ⟨u, hum, rfl⟩)
    obtain ⟨p1, hp1⟩ : ∃ q, q = decide (u.v.kind = v.v.kind) := ⟨_, rfl⟩
    obtain ⟨p2, hp2⟩ : ∃ q, q = decide ((u.v.n : Int) = v.v.n) := ⟨_, rfl⟩
    obtain ⟨p3, hp3⟩ : ∃ q, q = decide (u.v.flags = v.v.flags) := ⟨_, rfl⟩
    obtain ⟨p4, hp4⟩ : ∃ q, q = decide (u.v.text = v.v.text) := ⟨_, rfl⟩
    obtain ⟨p5, hp5⟩ : ∃ q, q = decide (u.v.part = v.v.part) := ⟨_, rfl⟩
    obtain ⟨p6, hp6⟩ : ∃ q, q = decide ((u.v.fr : Int) = v.v.fr) := ⟨_, rfl⟩
    have hpe : u.v = v.v ↔ (p1 = true ∧ p2 = true ∧ p3 = true ∧ p4 = true ∧ p5 = true ∧ p6 = true) := by
      rw [hp1, hp2, hp3, hp4, hp5, hp6]
      simp only [decide_eq_true_eq]
      constructor
      · intro e; rw [e]; simp
      · rintro ⟨a, b, c, d, e, f⟩; exact RV.ext' a (by omega) c d e (by omega)
    have hbad : ¬(p1 = true ∧ p2 = true ∧ p3 = true ∧ p4 = true ∧ p5 = true ∧ p6 = true) → r ≠ s := by
      rintro h rfl
      have h1 : x.vs.map VM.v = y.vs.map VM.v := hva.symm.trans hvb
      refine h (hpe.1 ?_)
      have h2 : (x.vs.map VM.v)[k]? = (y.vs.map VM.v)[k]? := by rw [h1]
      rw [List.getElem?_map, List.getElem?_map, List.getElem?_eq_getElem hk', List.getElem?_eq_getElem hk2] at h2
      rw [hue, hve, List.getD_eq_getElem?_getD, List.getD_eq_getElem?_getD, List.getElem?_eq_getElem hk', List.getElem?_eq_getElem hk2]
      simpa using h2
    clear hq1 hq2 hq3 hq4 hq5 hq6 hq7 hq8 hq9 hq10 hall hne heq
    repeat refine y_ ?_
    refine g_draw ([1, 4, 6, 9], [0, 1, 0, 7, 15, 0, 32, 0, 224, 480, 0, 0, 3103, 8191], [10, 11, 12, 13]) [blkR g3 s y, blkR g2 r x] 14 rfl ?_
    refine w_ 0 rfl z_1 ?_
    (refine ga_read_k 1 rfl (by exact .tail _ (.head _)) (s_load_blk rfl .del a10_9) (by (exact fun _ h => h)) rfl rfl rfl z_5 ?_)
    refine w_ 2 rfl (s_move rfl) ?_
    refine w_ 3 rfl (s_indexAddr rfl (by assumption) rfl (by omega)) ?_
    refine ga_readF 4 rfl (s_loadN (cs := vmC u) rfl (fun w hw => by rw [hue]; exact rdVM hw hra.vs (i := k) (by omega) hk') rfl) (by (exact fun _ h => h)) rfl rfl rfl z_5 ?_
    refine w_ 5 rfl z_1 ?_
    (refine ga_read_k 6 rfl (by exact .head _) (s_load_blk rfl .del a10_9) (by (exact fun _ h => h)) rfl rfl rfl z_5 ?_)
    refine w_ 7 rfl (s_move rfl) ?_
    refine w_ 8 rfl (s_indexAddr rfl (by assumption) rfl (by omega)) ?_
    refine ga_readF 9 rfl (s_loadN (cs := vmC v) rfl (fun w hw => by rw [hve]; exact rdVM hw hrb.vs (i := k) (by omega) hk2) rfl) (by (exact fun _ h => h)) rfl rfl rfl z_5 ?_
    refine ga_two 10 11 rfl rfl z_5 ?_ ?_
    refine gl_allocA rfl ?_; intro g7
    refine gl_nil ?_
    refine at_ga (.inr (by exact keeps_of k_)) ?_
    refine ga_one 11 rfl z_5 ?_
    refine gl_allocA rfl ?_; intro g8
    refine gl_nil ?_
    refine at_ga (.inr (by exact keeps_of k_)) ?_
    refine ga_one 12 rfl z_5 ?_
    (refine gl_store_blkW rfl rfl z_6 z_7 z_7 z_2 ?_)
    refine gl_nil ?_
    refine at_ga (.inr (by exact keeps_of k_)) ?_
    refine ga_one 13 rfl z_5 ?_
    (refine gl_store_blkW rfl rfl z_6 z_7 z_7 z_2 ?_)
    refine gl_nil ?_
    refine at_ga (.inl z_5) ?_
    refine ga_done z_5 ?_
    rotate_left 1
    refine gl_allocA rfl ?_; intro g8
    refine gl_nil ?_
    refine at_ga (.inr (by exact keeps_of k_)) ?_
    refine ga_one 10 rfl z_5 ?_
    refine gl_allocA rfl ?_; intro g7
    refine gl_nil ?_
    refine at_ga (.inr (by exact keeps_of k_)) ?_
    refine ga_one 12 rfl z_5 ?_
    (refine gl_store_blkW rfl rfl z_6 z_7 z_7 z_2 ?_)
    refine gl_nil ?_
    refine at_ga (.inr (by exact keeps_of k_)) ?_
    refine ga_one 13 rfl z_5 ?_
    (refine gl_store_blkW rfl rfl z_6 z_7 z_7 z_2 ?_)
    refine gl_nil ?_
    refine at_ga (.inl z_5) ?_
    refine ga_done z_5 ?_
    rotate_left 1
    all_goals (repeat refine y_ ?_)
    all_goals (rcases sca6 p1 p2 p3 p4 p5 p6 with rfl | ⟨rfl, rfl⟩ | ⟨rfl, rfl, rfl⟩ | ⟨rfl, rfl, rfl, rfl⟩ | ⟨rfl, rfl, rfl, rfl, rfl⟩ | ⟨rfl, rfl, rfl, rfl, rfl, rfl⟩ | ⟨rfl, rfl, rfl, rfl, rfl, rfl⟩)
    all_goals (
      repeat refine x_ ?_
      refine f_ z_1 ?_
      refine r_ (by exact s_load_blk rfl z_3 a6_0) ?_
      refine f_ z_1 ?_
      refine r_ (by exact s_load_blk rfl z_3 a6_0) ?_
      refine f_ ((s_neq rfl rfl).eq (congrArg (fun b => Value.bool (!b)) hp1.symm)) ?_
      refine m_ ?_
      (first | refine gl_guard_no rfl rfl rfl rfl rfl rfl rfl ?_ | (refine v_ ?_; refine f_ z_1 ?_))
      (first | refine gl_guard_no rfl rfl rfl rfl rfl rfl rfl ?_ | (refine v_ ?_; refine r_ (by exact s_load_blk rfl z_3 a6_1) ?_))
      (first | refine gl_guard_no rfl rfl rfl rfl rfl rfl rfl ?_ | (refine v_ ?_; refine f_ z_1 ?_))
      (first | refine gl_guard_no rfl rfl rfl rfl rfl rfl rfl ?_ | (refine v_ ?_; refine r_ (by exact s_load_blk rfl z_3 a6_1) ?_))
      (first | refine gl_guard_no rfl rfl rfl rfl rfl rfl rfl ?_ | (refine v_ ?_; refine f_ ((s_neq rfl rfl).eq (congrArg (fun b => Value.bool (!b)) hp2.symm)) ?_))
      refine f_ z_4 ?_
      refine m_ ?_
      (first | refine gl_guard_no rfl rfl rfl rfl rfl rfl rfl ?_ | (refine v_ ?_; refine f_ z_1 ?_))
      (first | refine gl_guard_no rfl rfl rfl rfl rfl rfl rfl ?_ | (refine v_ ?_; refine r_ (by exact s_load_blk rfl z_3 a6_2) ?_))
      (first | refine gl_guard_no rfl rfl rfl rfl rfl rfl rfl ?_ | (refine v_ ?_; refine f_ z_1 ?_))
      (first | refine gl_guard_no rfl rfl rfl rfl rfl rfl rfl ?_ | (refine v_ ?_; refine r_ (by exact s_load_blk rfl z_3 a6_2) ?_))
      (first | refine gl_guard_no rfl rfl rfl rfl rfl rfl rfl ?_ | (refine v_ ?_; refine gl_callp rfl (SameF_ct u.v.flags v.v.flags u.a v.a u.c v.c (by omega)) (fun h hh hb => ⟨hfu.le hh, hfv.le hh⟩) rfl ?_; rw [← hp3]))
      (first | refine gl_guard_no rfl rfl rfl rfl rfl rfl rfl ?_ | (refine v_ ?_; refine f_ (s_not rfl) ?_))
      refine f_ z_4 ?_
      refine m_ ?_
      (first | refine gl_guard_no rfl rfl rfl rfl rfl rfl rfl ?_ | (refine v_ ?_; refine f_ z_1 ?_))
      (first | refine gl_guard_no rfl rfl rfl rfl rfl rfl rfl ?_ | (refine v_ ?_; refine r_ (by exact s_load_blk rfl z_3 a6_3) ?_))
      (first | refine gl_guard_no rfl rfl rfl rfl rfl rfl rfl ?_ | (refine v_ ?_; refine f_ z_1 ?_))
      (first | refine gl_guard_no rfl rfl rfl rfl rfl rfl rfl ?_ | (refine v_ ?_; refine r_ (by exact s_load_blk rfl z_3 a6_3) ?_))
      (first | refine gl_guard_no rfl rfl rfl rfl rfl rfl rfl ?_ | (refine v_ ?_; refine f_ ((s_neq_str rfl rfl).eq (congrArg (fun b => Value.bool (!b)) hp4.symm)) ?_))
      refine f_ z_4 ?_
      refine m_ ?_
      (first | refine gl_guard_no rfl rfl rfl rfl rfl rfl rfl ?_ | (refine v_ ?_; refine f_ z_1 ?_))
      (first | refine gl_guard_no rfl rfl rfl rfl rfl rfl rfl ?_ | (refine v_ ?_; refine r_ (by exact s_load_blk rfl z_3 a6_4) ?_))
      (first | refine gl_guard_no rfl rfl rfl rfl rfl rfl rfl ?_ | (refine v_ ?_; refine f_ z_1 ?_))
      (first | refine gl_guard_no rfl rfl rfl rfl rfl rfl rfl ?_ | (refine v_ ?_; refine r_ (by exact s_load_blk rfl z_3 a6_4) ?_))
      (first | refine gl_guard_no rfl rfl rfl rfl rfl rfl rfl ?_ | (refine v_ ?_; refine f_ ((s_neq_bool rfl rfl).eq (congrArg (fun b => Value.bool (!b)) hp5.symm)) ?_))
      refine f_ z_4 ?_
      refine m_ ?_
      (first | refine gl_guard_no rfl rfl rfl rfl rfl rfl rfl ?_ | (refine v_ ?_; refine f_ z_1 ?_))
      (first | refine gl_guard_no rfl rfl rfl rfl rfl rfl rfl ?_ | (refine v_ ?_; refine r_ (by exact s_load_blk rfl z_3 a6_5) ?_))
      (first | refine gl_guard_no rfl rfl rfl rfl rfl rfl rfl ?_ | (refine v_ ?_; refine f_ z_1 ?_))
      (first | refine gl_guard_no rfl rfl rfl rfl rfl rfl rfl ?_ | (refine v_ ?_; refine r_ (by exact s_load_blk rfl z_3 a6_5) ?_))
      (first | refine gl_guard_no rfl rfl rfl rfl rfl rfl rfl ?_ | (refine v_ ?_; refine f_ ((s_neq rfl rfl).eq (congrArg (fun b => Value.bool (!b)) hp6.symm)) ?_))
      refine f_ z_4 ?_
      refine gl_nil ?_
      repeat refine y_ ?_)
    all_goals try (
      repeat refine x_ ?_
      refine a_ ?_
      refine gl_nil ?_
      repeat refine y_ ?_)
    all_goals try (refine g_ret ?_; exact at_end1 rfl rfl [] ⟨(congrArg Value.bool (decide_eq_false (hbad z_8))).symm, rfl⟩ (fun w hw => hw.dropAll))
    all_goals (
      repeat refine x_ ?_
      refine m_ ?_
      refine f_ (s_add_i64 rfl rfl (by omega)) ?_
      refine a_ ?_
      refine gl_nil ?_
      repeat refine y_ ?_)
    all_goals (refine at_next (k + 1) ⟨by omega, fun i hi => ?_⟩ (by omega) ?_ ?_)
    all_goals first
      | (rcases Nat.lt_succ_iff_lt_or_eq.1 hi with h4 | rfl
         · exact hokv i h4
         · rw [← hue, ← hve]; exact hpe.2 ⟨rfl, rfl, rfl, rfl, rfl, rfl⟩)
      | (intro w hw; exact hw.drop.drop)
      | (repeat (first | exact Sub.nil _ | refine Sub.cons rfl ?_))
  have hkl : k = x.vs.length := by simp at h; omega
  subst hkl
  have ev := getVM_ext e9 hokv
  rw [decide_eq_true (RR.ext' e1 e2 e3 e4 e5 en e7 e10 e6 (by rw [hva, hvb, ev]))]
  repeat refine x_ ?_
  refine a_ ?_
  repeat refine n_ ?_
  refine g_ret ?_
  exact at_end1 rfl rfl [] ⟨rfl, rfl⟩ (fun w hw => hw.dropAll)
end Go.Proofs.YtgllpcggdcknaaaGreatDoor.Rp
namespace Go.Proofs.YtgllpcggdcknaaaGreatDoor.Rp
open Go Go.Sl
theorem canon_len {s c : Bs} (h : canonS s = some c) : c.length ≤ 32 := by
 unfold canonS at h
 split at h
 ·next f hf =>
  cases h
  have := List.mem_of_find?_eq_some hf
  revert this
  have hs : ∀ f ∈ sysL, f.length ≤ 32 := by decide
  exact hs c
 ·split at h
  ·next hh =>
   cases h
   simp only [lowS, List.length_map]
   exact hh.2
  ·cases h
theorem make_small (l : List Bs) : (makeR l).1.length ≤ 16 ∧ ∀ f ∈ (makeR l).1, f.length ≤ 32 := by
 by_cases h : (makeR l).2 = 0
 ·have h1 := make_right (names := l) (l := (makeR l).1) (Prod.ext rfl h)
  have h2 := of_right h1
  exact ⟨h2.2.2, fun f hf => canon_len (h2.1 f hf)⟩
 ·have : (makeR l).1 = [] := by
   unfold makeR at h ⊢
   cases hc : canonL l with
   | none => rfl
   | some cs =>
    rw [hc] at h
    simp only at h ⊢
    by_cases hl : 16 < (setS cs).length
    ·rw [if_pos hl]
    ·rw [if_neg hl] at h
     exact absurd rfl h
  rw [this]
  simp
theorem join_small {l : List Bs} (h : l.length ≤ 16 ∧ ∀ f ∈ l, f.length ≤ 32) : (joinS [32] l).length ≤ 1000 := by
 have h1 := joinS_len h.2
 have h2 := Nat.mul_le_mul_right (32 + 1) h.1
 omega
theorem uqL_len : ∀ (n : Nat) (s b : Bs) (i : Nat) (t : Bs) (m : Nat), s.length ≤ n → uqL b i s = some (t, m) → t.length ≤ b.length + s.length
 | _, [], _, _, _, _, _, h => by simp [uqL] at h
 | 0, c :: s, _, _, _, _, hn, _ => by simp at hn
 | n + 1, c :: s, b, i, t, m, hn, h => by
  simp only [List.length_cons] at hn ⊢
  rw [uqL_cons] at h
  split at h
  ·cases h
  split at h
  ·simp at h; rw [← h.1]; omega
  split at h
  ·split at h
   ·cases h
   ·next d t' =>
    split at h
    ·simp only [List.length_cons] at hn ⊢
     have := uqL_len n t' _ _ t m (by omega) h
     simp only [List.length_append, List.length_cons, List.length_nil] at this
     omega
    ·cases h
  split at h
  ·have := uqL_len n s _ _ t m (by omega) h
   simp only [List.length_append, List.length_cons, List.length_nil] at this
   omega
  ·cases h
theorem uqS_len (s : Bs) : ((uqS s).getD ([], 0)).1.length ≤ s.length := by
 cases h : uqS s with
 | none => simp
 | some q =>
  obtain ⟨t, m⟩ := q
  cases s with
  | nil => cases h
  | cons c v =>
   unfold uqS at h
   simp only at h
   split at h
   ·have := uqL_len v.length v [] 1 t m (Nat.le_refl _) h
    simp at this ⊢
    omega
   ·cases h
theorem szR_of {r : RR} (h1 : r.tag.length ≤ 1000000000000) (h2 : r.code.length ≤ 1000000000000) (h3 : r.text.length ≤ 1000000000000) (h4 : r.n ≤ great) (h5 : r.nums.length ≤ 66) (h6 : ∀ n ∈ r.nums, n ≤ great) (h7 : r.mod ≤ great) (h8 : r.flags.length ≤ 16 ∧ ∀ f ∈ r.flags, f.length ≤ 32) (h9 : r.box.length ≤ 1000000000000) (h10 : r.values.length ≤ 11) (h11 : ∀ v ∈ r.values, SzV v) : SzR r := by
 have hj := join_small h8
 unfold great at h4 h7
 exact ⟨h1, h2, h3, by omega, by unfold big; omega, fun n hn => by have := h6 n hn; unfold great at this; omega, by omega, by unfold big; omega, fun f hf => by have := h8.2 f hf; unfold big; omega, by unfold big; omega, h9, by unfold big; omega, h11⟩
end Go.Proofs.YtgllpcggdcknaaaGreatDoor.Rp
namespace Go.Proofs.YtgllpcggdcknaaaGreatDoor.Rp
open Go Go.Sl
theorem rrd_own {r : RR} {x : RL} {h : Heap} {H : List As} (hv : r.values = x.vs.map VM.v) (hm : ∀ y ∈ rrH r x, y ∈ H) (hb : ∃ bs, Sat h H bs) : RRd r x h := by
 obtain ⟨bs, hb⟩ := hb
 exact RRd.of_own hv hb hm
structure RM where
 r : RR
 x : RL
abbrev RM0 : RM := ⟨R0, L0⟩
abbrev rmC (m : RM) : List Value := rrC m.r m.x
abbrev rmV (l : List RM) : List Value := l.flatMap rmC
theorem rmC_len : ∀ m, (rmC m).length = 10 := fun _ => rfl
theorem rmC_one : ∀ m, ∀ q ∈ rmC m, q.oneCell' = true := fun m q hq => by simp at hq; rcases hq with rfl | rfl | rfl | rfl | rfl | rfl | rfl | rfl | rfl | rfl <;> rfl
theorem rmV_one (l : List RM) : ∀ q ∈ rmV l, q.oneCell' = true := rec_one (C := rmC) rmC_one l
theorem rmV_append (a b : List RM) : rmV (a ++ b) = rmV a ++ rmV b := List.flatMap_append
theorem rdRM {F : Snap} {w : World} {H : List As} {a : Option Addr} {l : List RM} {q i : Nat} (hw : Hp F w H) (r : RdS F.heap a (rmV l)) (h : q = 10 * i) (hi : i < l.length) : PeekC (hp w) (addO a q) (rmC (l.getD i RM0)) := rec_rdN (C := rmC) (r.le hw.keep) rmC_len (by decide) RM0 h hi
theorem rdRM_some {h : Heap} {a : Option Addr} {l : List RM} {i : Nat} (r : RdS h a (rmV l)) (hi : i < l.length) : ∃ ad, a = some ad := rec_some (C := rmC) r rmC_len (by decide) hi
theorem getRM_mem {l : List RM} {k : Nat} (hk : k < l.length) : l.getD k RM0 ∈ l := by
 rw [List.getD_eq_getElem?_getD, List.getElem?_eq_getElem hk]
 exact List.getElem_mem hk
structure RmR (l : List RM) (a : Option Addr) (h : Heap) : Prop where
 r : RdS h a (rmV l)
 m : ∀ m ∈ l, RRd m.r m.x h
theorem RmR.le {l : List RM} {a : Option Addr} {h h' : Heap} (k : RmR l a h) (hl : Heap.le h h') : RmR l a h' := ⟨k.r.le hl, fun m hm => (k.m m hm).le hl⟩
theorem getRM_ext {l m : List RM} (hlen : l.length = m.length) (h : ∀ i, i < l.length → (l.getD i RM0).r = (m.getD i RM0).r) : l.map RM.r = m.map RM.r := by
 apply List.ext_getElem (by simpa using hlen)
 intro i h1 h2
 rw [List.length_map] at h1 h2
 have := h i h1
 rw [List.getD_eq_getElem?_getD, List.getD_eq_getElem?_getD, List.getElem?_eq_getElem h1, List.getElem?_eq_getElem h2] at this
 simpa using this
set_option maxRecDepth 8000 in
theorem SameAll_ct (l m : List RM) (a b : Option Addr) (c d : Nat) (hl : l.length ≤ 1000000000000) (hz : ∀ q ∈ l, SzC q.r) : Pu Tryz.prog 14 [.slice a l.length c, .slice b m.length d] (fun h => RmR l a h ∧ RmR m b h) (.bool (decide (l.map RM.r = m.map RM.r))) := by
 refine ct_enter 27 Tryz.func14 rfl rfl rfl ?_
 intro F hr
 have hra := hr.1
 have hrb := hr.2
 repeat refine x_ ?_
 refine a_ ?_
 repeat refine x_ ?_
 refine m_ ?_
 refine f_ (s_len_sl rfl) ?_
 refine m_ ?_
 refine f_ (s_len_sl rfl) ?_
 refine f_ (s_neq rfl rfl) ?_
 repeat refine n_ ?_
 refine g_cond rfl (fun h => ?_) (fun h => ?_)
 ·have hne : l.map RM.r ≠ m.map RM.r := by
   intro e
   have := congrArg List.length e
   rw [List.length_map, List.length_map] at this
   rw [this] at h
   simp at h
  rw [decide_eq_false hne]
  repeat refine x_ ?_
  refine a_ ?_
  repeat refine n_ ?_
  refine g_ret ?_
  exact at_end1 rfl rfl [] ⟨rfl, rfl⟩ (fun _ h => h)
 have hlen : l.length = m.length := by simp at h; omega
 repeat refine x_ ?_
 refine a_ ?_
 repeat refine n_ ?_
 refine g_loop (ι := Nat) (fun k => k ≤ l.length ∧ ∀ i, i < k → (l.getD i RM0).r = (m.getD i RM0).r) (fun k => [(0, .slice a l.length c), (1, .slice b m.length d), (5, .int .i64 (k : Nat))]) (fun _ => []) (fun k => l.length - k) 0 ⟨by omega, fun i h => by omega⟩ ?_ ?_ ?_
 ·(repeat (first | exact Sub.nil _ | refine Sub.cons rfl ?_))
 ·intro w hw; exact hw
 rintro k ⟨hk, hok⟩
 repeat refine x_ ?_
 refine m_ ?_
 refine m_ ?_
 refine f_ (s_len_sl rfl) ?_
 refine f_ (s_lss rfl rfl) ?_
 repeat refine n_ ?_
 refine g_cond rfl (fun h => ?_) (fun h => ?_)
 ·have hk' : k < l.length := by simp at h; omega
  have hk2 : k < m.length := by omega
  have hs1 := rdRM_some hra.r hk'
  have hs2 := rdRM_some hrb.r hk2
  obtain ⟨u, hue⟩ : ∃ u, u = l.getD k RM0 := ⟨_, rfl⟩
  obtain ⟨v, hve⟩ : ∃ u, u = m.getD k RM0 := ⟨_, rfl⟩
  have hum : u ∈ l := by rw [hue]; exact getRM_mem hk'
  have hvm : v ∈ m := by rw [hve]; exact getRM_mem hk2
  have hru := hra.m u hum
  have hrv := hrb.m v hvm
  repeat refine y_ ?_
  refine g_draw0 ([3, 7], [0, 0, 3, 7, 0, 0, 48, 112, 255, 511], [8]) 10 rfl ?_
  refine w_ 0 rfl (s_move rfl) ?_
  refine w_ 1 rfl (s_move rfl) ?_
  refine w_ 2 rfl (s_indexAddr rfl (by assumption) rfl (by omega)) ?_
  refine ga_readF 3 rfl (s_loadN (cs := rmC u) rfl (fun w hw => by rw [hue]; exact rdRM hw hra.r (i := k) (by omega) hk') rfl) (by (exact fun _ h => h)) rfl rfl rfl z_5 ?_
  refine w_ 4 rfl (s_move rfl) ?_
  refine w_ 5 rfl (s_move rfl) ?_
  refine w_ 6 rfl (s_indexAddr rfl (by assumption) rfl (by omega)) ?_
  refine ga_readF 7 rfl (s_loadN (cs := rmC v) rfl (fun w hw => by rw [hve]; exact rdRM hw hrb.r (i := k) (by omega) hk2) rfl) (by (exact fun _ h => h)) rfl rfl rfl z_5 ?_
  refine ga_one 8 rfl z_5 ?_
  refine gl_callp rfl (SameR_ct u.r v.r u.x v.x (hz u hum)) (fun h hh hb => ⟨hru.le hh, hrv.le hh⟩) rfl ?_
  refine gl_nil ?_
  refine at_ga (.inl z_5) ?_
  refine w_ 9 rfl (s_not rfl) ?_
  refine ga_done z_5 ?_
  repeat refine y_ ?_
  refine g_cond rfl (fun h2 => ?_) (fun h2 => ?_)
  ·have hne : l.map RM.r ≠ m.map RM.r := by
    intro e
    have h3 : (l.map RM.r)[k]? = (m.map RM.r)[k]? := by rw [e]
    rw [List.getElem?_map, List.getElem?_map, List.getElem?_eq_getElem hk', List.getElem?_eq_getElem hk2] at h3
    have h4 : u.r = v.r := by
     rw [hue, hve, List.getD_eq_getElem?_getD, List.getD_eq_getElem?_getD, List.getElem?_eq_getElem hk', List.getElem?_eq_getElem hk2]
     simpa using h3
    simp [h4] at h2
   rw [decide_eq_false hne]
   repeat refine x_ ?_
   refine a_ ?_
   repeat refine n_ ?_
   refine g_ret ?_
   exact at_end1 rfl rfl [] ⟨rfl, rfl⟩ (fun _ h => h)
  ·have h3 : u.r = v.r := by simpa using h2
   repeat refine x_ ?_
   refine m_ ?_
   refine f_ (s_add_i64 rfl rfl (by omega)) ?_
   refine a_ ?_
   repeat refine n_ ?_
   refine at_next (k + 1) ⟨by omega, fun i hi => ?_⟩ (by omega) ?_ ?_
   ·rcases Nat.lt_succ_iff_lt_or_eq.1 hi with h4 | rfl
    ·exact hok i h4
    ·rw [← hue, ← hve]; exact h3
   ·(repeat (first | exact Sub.nil _ | refine Sub.cons rfl ?_))
   ·intro w hw; exact hw
 have hkl : k = l.length := by simp at h; omega
 subst hkl
 rw [decide_eq_true (getRM_ext hlen hok)]
 repeat refine x_ ?_
 refine a_ ?_
 repeat refine n_ ?_
 refine g_ret ?_
 exact at_end1 rfl rfl [] ⟨rfl, rfl⟩ (fun _ h => h)
end Go.Proofs.YtgllpcggdcknaaaGreatDoor.Rp
namespace Go.Proofs.YtgllpcggdcknaaaGreatDoor.Rp
open Go Go.Sl Go.RowKit
theorem needS_le {s w : Bs} {p : Nat} {ok : Bool} (h : p ≤ s.length) : (needS s w ⟨p, ok⟩).p ≤ s.length ∧ p ≤ (needS s w ⟨p, ok⟩).p := eatS_le h
theorem parseF_small (s : Bs) : (parseF s).1.length ≤ 16 ∧ ∀ f ∈ (parseF s).1, f.length ≤ 32 := by
 unfold parseF
 simp only
 generalize (if (s.take (s.takeWhile fun c => c != 41).length).drop 1 = [] then ([] : List Bs) else splitS ((s.take (s.takeWhile fun c => c != 41).length).drop 1)) = names
 split
 ·split
  ·exact make_small _
  ·simp
 ·simp
def FlP (b : Nat) (s : Bs) (q : List Bs × RS) (v : Value) (A : List As) : Prop := ∃ a c, v = .slice a q.1.length c ∧ A = [rdr b s q.2, OwnS a q.1 c]
set_option maxRecDepth 8000 in
theorem flags_ct (b : Nat) (s : Bs) (p : Nat) (ok : Bool) (hs : s.length < 4294967281) (hp : p ≤ s.length) : Ct Tryz.prog 50 [Ptr b] Gl [rdp b s p ok] (FlP b s (flagsS s ⟨p, ok⟩)) := by
 refine ct_enter 37 Tryz.func50 rfl rfl rfl ?_
 intro F hg
 cases ok with
 | false =>
  repeat refine x_ ?_
  refine a_ ?_
  repeat refine x_ ?_
  refine m_ ?_
  refine f_ (s_nilCheck rfl) ?_
  refine f_ z_1 ?_
  refine r_ (by exact s_load_blk rfl z_3 a3_2) ?_
  refine f_ (s_not rfl) ?_
  repeat refine x_ ?_
  refine a_ ?_
  repeat refine n_ ?_
  refine g_ret ?_
  exact at_end1 rfl rfl [rdp b s p false, OwnS none [] 0] ⟨none, 0, rfl, rfl⟩ (fun w hw => (hw.addNil _ _).perm (.swap _ _ _))
 | true =>
  have hsm := parseF_small (s.drop p)
  have hjs := join_small hsm
  obtain ⟨m, hm⟩ : ∃ m, m = parseF (s.drop p) := ⟨_, rfl⟩
  have hpl : (printF m.1).length ≤ 1002 := by rw [hm]; unfold printF; simp; omega
  rw [← hm] at hsm hjs
  have hpc := ParseF_ct (s.drop p) (by rw [List.length_drop]; omega)
  rw [← hm] at hpc
  obtain ⟨q, hq⟩ : ∃ q, q = decide (m.2.2 = 0) := ⟨_, rfl⟩
  have e : flagsS s ⟨p, true⟩ = (m.1, if q = true then needS s (printF m.1) ⟨p, true⟩ else ⟨p, false⟩) := by
   unfold flagsS
   rw [if_pos rfl]
   simp only
   rw [← hm]
   by_cases h : m.2.2 = 0
   ·rw [if_pos h, if_pos (hq.trans (decide_eq_true h))]
   ·rw [if_neg h, if_neg (by rw [hq, decide_eq_false h]; simp)]
  rw [e]
  repeat refine x_ ?_
  refine a_ ?_
  repeat refine x_ ?_
  refine m_ ?_
  refine f_ (s_nilCheck rfl) ?_
  refine f_ z_1 ?_
  refine r_ (by exact s_load_blk rfl z_3 a3_2) ?_
  refine f_ (s_not rfl) ?_
  repeat refine n_ ?_
  refine g_draw0 ([3, 7], [0, 1, 3, 7, 0, 16, 48, 112, 255, 511, 1023, 2047, 2047, 2047, 4095, 24575, 65535], [9]) 17 rfl ?_
  refine w_ 0 rfl (s_move rfl) ?_
  refine w_ 1 rfl (s_nilCheck rfl) ?_
  refine w_ 2 rfl z_1 ?_
  (refine ga_read 3 rfl z_3 (s_load_blk rfl .del a3_0) rfl rfl rfl z_5 ?_)
  refine w_ 4 rfl (s_move rfl) ?_
  refine w_ 5 rfl (s_nilCheck rfl) ?_
  refine w_ 6 rfl z_1 ?_
  (refine ga_read 7 rfl z_3 (s_load_blk rfl .del a3_1) rfl rfl rfl z_5 ?_)
  refine w_ 8 rfl ((s_slice_str rfl rfl rfl (by omega)).eq (v' := B (s.drop p)) (by rw [List.take_of_length_le (by rw [List.length_drop]; omega), Int.toNat_natCast])) ?_
  refine ga_one 9 rfl z_5 ?_
  refine gl_call _ rfl hpc i_ (fun h hh hb => hg.le hh) rfl ?_; rintro v A ⟨a21, c21, rfl, rfl⟩
  refine gl_nil ?_
  refine at_ga (.inl z_5) ?_
  refine w_ 10 rfl (s_move rfl) ?_
  refine w_ 11 rfl (s_extract rfl rfl) ?_
  refine w_ 12 rfl (s_extract rfl rfl) ?_
  refine w_ 13 rfl (s_extract rfl rfl) ?_
  refine w_ 14 rfl (s_assign rfl) ?_
  refine w_ 15 rfl (s_assign rfl) ?_
  refine w_ 16 rfl (s_assign rfl) ?_
  refine ga_done z_5 ?_
  repeat refine y_ ?_
  refine g_ownN (a := a21) (n := m.1.length) (c := c21) z_3 (fun _ hnc _ => ?_)
  cases q with
  | true =>
   repeat refine x_ ?_
   refine m_ ?_
   refine m_ ?_
   refine f_ ((s_eql rfl rfl).eq (v' := .bool true) (congrArg Value.bool hq.symm)) ?_
   refine m_ ?_
   (refine v_ ?_; refine m_ ?_)
   (refine v_ ?_; refine m_ ?_)
   (refine v_ ?_; refine gl_callp rfl (PrintP_ct m.1 a21 c21 hnc (by omega) (by omega)) (fun h hh ⟨bs, hb⟩ => Sat.rd hb z_3) rfl ?_)
   (refine v_ ?_; refine gl_call [OwnS a21 m.1 c21] rfl (eat_ct b s (printF m.1) p true (by omega) hp (by omega)) (fun w hw => hw.perm (.swap _ _ _)) (fun _ _ _ => trivial) rfl ?_; rintro v A ⟨rfl, rfl⟩)
   refine f_ (by exact s_pick_t rfl rfl) ?_
   refine f_ (s_nilCheck rfl) ?_
   refine f_ z_1 ?_
   (refine gl_store_blkC (pre := [_, _]) (post := []) rfl rfl z_6 z_7 z_7 z_7 ?_)
   repeat refine x_ ?_
   refine m_ ?_
   refine a_ ?_
   repeat refine n_ ?_
   refine g_ret ?_
   exact at_end1 rfl rfl [rdr b s (needS s (printF m.1) ⟨p, true⟩), OwnS a21 m.1 c21] ⟨a21, c21, rfl, rfl⟩ i_
  | false =>
   repeat refine x_ ?_
   refine m_ ?_
   refine m_ ?_
   refine f_ ((s_eql rfl rfl).eq (v' := .bool false) (congrArg Value.bool hq.symm)) ?_
   refine m_ ?_
   (refine gl_guard_no rfl rfl rfl rfl rfl rfl rfl ?_)
   (refine gl_guard_no rfl rfl rfl rfl rfl rfl rfl ?_)
   (refine gl_guard_no rfl rfl rfl rfl rfl rfl rfl ?_)
   (refine gl_guard_no rfl rfl rfl rfl rfl rfl rfl ?_)
   refine f_ (by exact s_pick_f rfl rfl) ?_
   refine f_ (s_nilCheck rfl) ?_
   refine f_ z_1 ?_
   (refine gl_store_blkC (pre := [_, _]) (post := []) rfl rfl z_6 z_7 z_7 z_7 ?_)
   repeat refine x_ ?_
   refine m_ ?_
   refine a_ ?_
   repeat refine n_ ?_
   refine g_ret ?_
   exact at_end1 rfl rfl [rdp b s p false, OwnS a21 m.1 c21] ⟨a21, c21, rfl, rfl⟩ (fun w hw => hw.perm (.swap _ _ _))
set_option maxRecDepth 8000 in
theorem boxR_ct (b : Nat) (s : Bs) (p : Nat) (ok : Bool) (hs : s.length < 4294967281) (hp : p ≤ s.length) : Ct Tryz.prog 51 [Ptr b] Gl [rdp b s p ok] (fun v A => v = B (boxS s ⟨p, ok⟩).1 ∧ A = [rdr b s (boxS s ⟨p, ok⟩).2]) := by
 refine ct_enter 94 Tryz.func51 rfl rfl rfl ?_
 intro F hg
 cases ok with
 | false =>
  repeat refine x_ ?_
  refine a_ ?_
  repeat refine x_ ?_
  refine m_ ?_
  refine f_ (s_nilCheck rfl) ?_
  refine f_ z_1 ?_
  refine r_ (by exact s_load_blk rfl z_3 a3_2) ?_
  refine f_ (s_not rfl) ?_
  repeat refine x_ ?_
  refine a_ ?_
  repeat refine n_ ?_
  refine g_ret ?_
  exact at_end1 rfl rfl [rdp b s p false] ⟨rfl, rfl⟩ i_
 | true =>
  have hu := untilS_le (s := s) (w := [32, 13]) (p := p) (ok := true) hp
  obtain ⟨u, hue⟩ : ∃ u, u = untilS s [32, 13] ⟨p, true⟩ := ⟨_, rfl⟩
  have huc := until_ct b s [32, 13] p true (by omega) hp (by decide)
  have huo : u.2.ok = true := by rw [hue]; unfold untilS; rw [if_pos rfl]
  rw [← hue] at hu huc
  obtain ⟨t, ⟨up, uo⟩⟩ := u
  simp only at hu huc huo
  subst huo
  obtain ⟨q, hq⟩ : ∃ q, q = ([34] : Bs).isPrefixOf t := ⟨_, rfl⟩
  have hul := uqS_len (s.drop p)
  have hu2 := uqS_le (s := s.drop p)
  rw [List.length_drop] at hul hu2
  have e : boxS s ⟨p, true⟩ = ((boxN (boxT s ⟨p, true⟩).1).getD [], ⟨(boxT s ⟨p, true⟩).2.p, (boxT s ⟨p, true⟩).2.ok && (boxN (boxT s ⟨p, true⟩).1).isSome && decide ((boxN (boxT s ⟨p, true⟩).1).getD [] = (boxT s ⟨p, true⟩).1)⟩) := by
   unfold boxS
   rw [if_pos rfl]
  have e2 : boxT s ⟨p, true⟩ = if q = true then (((uqS (s.drop p)).getD ([], 0)).1, ⟨p + ((uqS (s.drop p)).getD ([], 0)).2, (uqS (s.drop p)).isSome && ([34] : Bs).isPrefixOf (formS ((uqS (s.drop p)).getD ([], 0)).1)⟩) else (t, ⟨up, decide (formS t = t)⟩) := by
   unfold boxT
   simp only
   rw [← hue, ← hq]
  rw [e]
  obtain ⟨T, hT⟩ : ∃ T, T = boxT s ⟨p, true⟩ := ⟨_, rfl⟩
  rw [← hT] at e2 ⊢
  have hTl : T.1.length ≤ s.length := by
   rw [e2]
   split
   ·simp only; omega
   ·exact hu.2.2.1
  obtain ⟨T1, ⟨Tp, To⟩⟩ := T
  simp only at hTl ⊢
  repeat refine x_ ?_
  refine a_ ?_
  repeat refine x_ ?_
  refine m_ ?_
  refine f_ (s_nilCheck rfl) ?_
  refine f_ z_1 ?_
  refine r_ (by exact s_load_blk rfl z_3 a3_2) ?_
  refine f_ (s_not rfl) ?_
  repeat refine x_ ?_
  refine m_ ?_
  refine gl_call _ rfl huc i_ (fun _ _ _ => trivial) rfl ?_; rintro v A ⟨rfl, rfl⟩; refine gl_pull (H' := [rdp b s up true]) i_ ?_
  refine a_ ?_
  repeat refine x_ ?_
  refine m_ ?_
  refine gl_callp rfl (HasPrefix_ct t [34]) (fun _ _ _ => trivial) rfl ?_; rw [← hq]
  repeat refine n_ ?_
  refine g_cutK [(0, Ptr b), (3, B T1)] [rdp b s Tp To] ?_ ?_
  ·refine g_cond rfl (fun h => ?_) (fun h => ?_)
   ·rw [if_pos h] at e2
    obtain ⟨o, ho⟩ : ∃ o, o = uqS (s.drop p) := ⟨_, rfl⟩
    have hun := UnquoteW_ct (s.drop p) (by unfold big; rw [List.length_drop]; omega)
    rw [← ho] at e2 hun hul hu2
    obtain ⟨z, hz⟩ : ∃ z, z = o.isSome := ⟨_, rfl⟩
    unfold unqV at hun
    rw [← hz] at e2 hun
    cases e2
    repeat refine x_ ?_
    refine m_ ?_
    refine f_ (s_nilCheck rfl) ?_
    refine f_ z_1 ?_
    refine r_ (by exact s_load_blk rfl z_3 a3_1) ?_
    refine m_ ?_
    refine f_ (s_len_str rfl) ?_
    refine f_ ((s_sub_i64 rfl rfl (by omega)).eq (v' := .int .i64 (p : Nat)) (by congr 1; omega)) ?_
    refine f_ (s_nilCheck rfl) ?_
    refine f_ z_1 ?_
    (refine gl_store_blkC (pre := [_]) (post := [_]) rfl rfl z_6 z_7 z_7 z_7 ?_)
    repeat refine n_ ?_
    refine g_draw0 ([3, 7], [0, 1, 3, 7, 0, 16, 48, 112, 255, 511, 1023, 2047, 2047, 2047, 4095, 24575, 65535], [9]) 17 rfl ?_
    refine w_ 0 rfl (s_move rfl) ?_
    refine w_ 1 rfl (s_nilCheck rfl) ?_
    refine w_ 2 rfl z_1 ?_
    (refine ga_read 3 rfl z_3 (s_load_blk rfl .del a3_0) rfl rfl rfl z_5 ?_)
    refine w_ 4 rfl (s_move rfl) ?_
    refine w_ 5 rfl (s_nilCheck rfl) ?_
    refine w_ 6 rfl z_1 ?_
    (refine ga_read 7 rfl z_3 (s_load_blk rfl .del a3_1) rfl rfl rfl z_5 ?_)
    refine w_ 8 rfl ((s_slice_str rfl rfl rfl (by omega)).eq (v' := B (s.drop p)) (by rw [List.take_of_length_le (by rw [List.length_drop]; omega), Int.toNat_natCast])) ?_
    refine ga_one 9 rfl z_5 ?_
    refine gl_callp rfl hun (fun _ _ _ => trivial) rfl ?_
    refine gl_nil ?_
    refine at_ga (.inl z_5) ?_
    refine w_ 10 rfl (s_move rfl) ?_
    refine w_ 11 rfl (s_extract rfl rfl) ?_
    refine w_ 12 rfl (s_extract rfl rfl) ?_
    refine w_ 13 rfl (s_extract rfl rfl) ?_
    refine w_ 14 rfl (s_assign rfl) ?_
    refine w_ 15 rfl (s_assign rfl) ?_
    refine w_ 16 rfl (s_assign rfl) ?_
    refine ga_done z_5 ?_
    repeat refine x_ ?_
    refine m_ ?_
    refine m_ ?_
    refine f_ (s_nilCheck rfl) ?_
    refine f_ z_1 ?_
    (refine gl_store_blkC (pre := [_, _]) (post := []) rfl rfl z_6 z_7 z_7 z_7 ?_)
    repeat refine x_ ?_
    refine m_ ?_
    refine f_ (s_nilCheck rfl) ?_
    refine f_ z_1 ?_
    refine r_ (by exact s_load_blk rfl z_3 a3_1) ?_
    refine m_ ?_
    refine f_ ((s_add_i64 rfl rfl (by omega)).eq (v' := .int .i64 ((p + (o.getD ([], 0)).2 : Nat) : Int)) (by congr 1)) ?_
    refine f_ (s_nilCheck rfl) ?_
    refine f_ z_1 ?_
    (refine gl_store_blkC (pre := [_]) (post := [_]) rfl rfl z_6 z_7 z_7 z_7 ?_)
    repeat refine x_ ?_
    refine m_ ?_
    refine a_ ?_
    repeat refine n_ ?_
    cases z
    all_goals (
     repeat refine x_ ?_
     refine m_ ?_
     refine m_ ?_
     refine f_ (s_nilCheck rfl) ?_
     refine f_ z_1 ?_
     refine r_ (by exact s_load_blk rfl z_3 a3_2) ?_
     refine m_ ?_
     (first | refine gl_guard_no rfl rfl rfl rfl rfl rfl rfl ?_ | (refine v_ ?_; refine m_ ?_))
     (first | refine gl_guard_no rfl rfl rfl rfl rfl rfl rfl ?_ | (refine v_ ?_; refine gl_callp rfl (FormW_ct (o.getD ([], 0)).1 (by unfold big; omega)) (fun h hh hb => hg.le hh) rfl ?_))
     (first | refine gl_guard_no rfl rfl rfl rfl rfl rfl rfl ?_ | (refine v_ ?_; refine gl_callp rfl (HasPrefix_ct (formS (o.getD ([], 0)).1) [34]) (fun _ _ _ => trivial) rfl ?_))
     refine f_ z_4 ?_
     refine f_ (s_nilCheck rfl) ?_
     refine f_ z_1 ?_
     (refine gl_store_blkC (pre := [_, _]) (post := []) rfl rfl z_6 z_7 z_7 z_7 ?_)
     refine gl_nil ?_
     repeat refine y_ ?_)
    all_goals exact at_cut j_ i_
   ·rw [if_neg (by rw [h]; simp)] at e2
    cases e2
    repeat refine x_ ?_
    refine m_ ?_
    refine m_ ?_
    refine gl_callp rfl (FormW_ct t (by unfold big; omega)) (fun h hh hb => hg.le hh) rfl ?_
    refine m_ ?_
    refine f_ ((s_eql_str rfl rfl).eq (v' := .bool (decide (formS t = t))) rfl) ?_
    refine f_ (s_nilCheck rfl) ?_
    refine f_ z_1 ?_
    (refine gl_store_blkC (pre := [_, _]) (post := []) rfl rfl z_6 z_7 z_7 z_7 ?_)
    repeat refine n_ ?_
    exact at_cut j_ i_
  have hbx := BoxW_ct T1 (by unfold big; omega)
  obtain ⟨o, ho⟩ : ∃ o, o = boxN T1 := ⟨_, rfl⟩
  rw [← ho] at hbx ⊢
  obtain ⟨z, hz⟩ : ∃ z, z = o.isSome := ⟨_, rfl⟩
  unfold optV at hbx
  rw [← hz] at hbx ⊢
  obtain ⟨B2, hB2⟩ : ∃ z, z = o.getD [] := ⟨_, rfl⟩
  rw [← hB2] at hbx ⊢
  obtain ⟨y, hy⟩ : ∃ z, z = decide (B2 = T1) := ⟨_, rfl⟩
  rw [← hy]
  repeat refine x_ ?_
  refine m_ ?_
  refine gl_callp rfl hbx (fun _ _ _ => trivial) rfl ?_
  refine m_ ?_
  refine f_ (s_extract rfl rfl) ?_
  refine f_ (s_extract rfl rfl) ?_
  refine a_ ?_
  refine a_ ?_
  repeat refine n_ ?_
  cases To <;> cases z
  all_goals (
   repeat refine x_ ?_
   refine m_ ?_
   refine m_ ?_
   refine f_ (s_nilCheck rfl) ?_
   refine f_ z_1 ?_
   refine r_ (by exact s_load_blk rfl z_3 a3_2) ?_
   refine m_ ?_
   (first | refine gl_guard_no rfl rfl rfl rfl rfl rfl rfl ?_ | (refine v_ ?_; refine m_ ?_))
   refine f_ z_4 ?_
   refine m_ ?_
   (first | refine gl_guard_no rfl rfl rfl rfl rfl rfl rfl ?_ | (refine v_ ?_; refine m_ ?_))
   (first | refine gl_guard_no rfl rfl rfl rfl rfl rfl rfl ?_ | (refine v_ ?_; refine m_ ?_))
   (first | refine gl_guard_no rfl rfl rfl rfl rfl rfl rfl ?_ | (refine v_ ?_; refine f_ ((s_eql_str rfl rfl).eb hy) ?_))
   refine f_ z_4 ?_
   refine f_ (s_nilCheck rfl) ?_
   refine f_ z_1 ?_
   (refine gl_store_blkC (pre := [_, _]) (post := []) rfl rfl z_6 z_7 z_7 z_7 ?_)
   refine gl_nil ?_
   repeat refine y_ ?_)
  all_goals (
   repeat refine x_ ?_
   refine m_ ?_
   refine a_ ?_
   refine gl_nil ?_
   repeat refine y_ ?_)
  all_goals (refine g_ret ?_; exact at_end1 rfl rfl [rdp b s Tp _] ⟨rfl, rfl⟩ i_)
theorem litS_le {s : Bs} {p : Nat} {ok : Bool} (h : p ≤ s.length) : (litS s ⟨p, ok⟩).2.p ≤ s.length ∧ (litS s ⟨p, ok⟩).1.length ≤ 4096 := by
 have h1 := needS_le (s := s) (w := [123]) (ok := ok) h
 obtain ⟨⟨p1, o1⟩, he1⟩ : ∃ z, z = needS s [123] ⟨p, ok⟩ := ⟨_, rfl⟩
 rw [← he1] at h1
 have h2 := numberS_le (s := s) (p := p1) (ok := o1) h1.1
 obtain ⟨⟨n, ⟨p2, o2⟩⟩, he2⟩ : ∃ z, z = numberS s ⟨p1, o1⟩ := ⟨_, rfl⟩
 rw [← he2] at h2
 have h3 := needS_le (s := s) (w := [125, 13, 10]) (p := p2) (ok := o2) h2.1
 unfold litS
 simp only
 rw [← he1, ← he2]
 simp only
 split
 ·next hh => simp only [List.length_take, List.length_drop]; omega
 ·simp only [List.length_nil]; omega
set_option maxRecDepth 8000 in
theorem literal_ct (b : Nat) (s : Bs) (p : Nat) (ok : Bool) (hs : s.length ≤ 1000000000000) (hp : p ≤ s.length) : Ct Tryz.prog 92 [Ptr b] Gl [rdp b s p ok] (fun v A => v = B (litS s ⟨p, ok⟩).1 ∧ A = [rdr b s (litS s ⟨p, ok⟩).2]) := by
 have h1 := needS_le (s := s) (w := [123]) (ok := ok) hp
 have c1 := need_ct b s [123] p ok hs hp (by decide)
 obtain ⟨⟨p1, o1⟩, he1⟩ : ∃ z, z = needS s [123] ⟨p, ok⟩ := ⟨_, rfl⟩
 rw [← he1] at h1 c1
 have h2 := numberS_le (s := s) (p := p1) (ok := o1) h1.1
 have c2 := number_ct b s p1 o1 (by omega) h1.1
 obtain ⟨⟨n, ⟨p2, o2⟩⟩, he2⟩ : ∃ z, z = numberS s ⟨p1, o1⟩ := ⟨_, rfl⟩
 rw [← he2] at h2 c2
 have h3 := needS_le (s := s) (w := [125, 13, 10]) (p := p2) (ok := o2) h2.1
 have c3 := need_ct b s [125, 13, 10] p2 o2 hs h2.1 (by decide)
 obtain ⟨⟨p3, o3⟩, he3⟩ : ∃ z, z = needS s [125, 13, 10] ⟨p2, o2⟩ := ⟨_, rfl⟩
 rw [← he3] at h3 c3
 simp only at h1 h2 h3 c1 c2 c3
 unfold great at h2
 have e : litS s ⟨p, ok⟩ = if o3 = true ∧ n ≤ 4096 ∧ n ≤ s.length - p3 then ((s.drop p3).take n, ⟨p3 + n, o3⟩) else ([], ⟨p3, false⟩) := by
  unfold litS
  simp only
  rw [← he1, ← he2]
  simp only
  rw [← he3]
 obtain ⟨q1, hq1⟩ : ∃ q, q = decide ((n : Int) > 4096) := ⟨_, rfl⟩
 obtain ⟨q2, hq2⟩ : ∃ q, q = decide ((n : Int) > ((s.length - p3 : Nat) : Int)) := ⟨_, rfl⟩
 have hqq : (o3 = true ∧ n ≤ 4096 ∧ n ≤ s.length - p3) ↔ (!o3 || (q1 || q2)) = false := by
  rw [Bool.or_eq_false_iff, Bool.or_eq_false_iff, hq1, hq2, decide_eq_false_iff_not, decide_eq_false_iff_not]
  simp only [Bool.not_eq_false']
  exact and_congr Iff.rfl (and_congr (by omega) (by omega))
 rw [e]
 refine ct_enter 62 Tryz.func92 rfl rfl rfl ?_
 intro F hg
 repeat refine x_ ?_
 refine a_ ?_
 repeat refine x_ ?_
 refine m_ ?_
 refine gl_call _ rfl c1 i_ (fun _ _ _ => trivial) rfl ?_; rintro v A ⟨rfl, rfl⟩
 repeat refine x_ ?_
 refine m_ ?_
 refine gl_call _ rfl c2 i_ (fun h hh hb => hg.le hh) rfl ?_; rintro v A ⟨rfl, rfl⟩
 refine a_ ?_
 repeat refine x_ ?_
 refine m_ ?_
 refine gl_call _ rfl c3 i_ (fun _ _ _ => trivial) rfl ?_; rintro v A ⟨rfl, rfl⟩; refine gl_pull (H' := [rdp b s p3 o3]) i_ ?_
 repeat refine n_ ?_
 refine g_cutK [(0, Ptr b), (3, .int .u64 (n : Nat)), (33, .bool (!o3 || (q1 || q2)))] [rdp b s p3 o3] ?_ ?_
 ·cases o3 <;> cases q1
  all_goals (
   repeat refine y_ ?_
   refine g_draw0 ([3, 15, 20], [0, 1, 3, 7, 15, 31, 63, 127, 255, 511, 1023, 2047, 1023, 5119, 13311, 29695, 62463, 1023, 132095, 394239, 918527, 2094079, 4194303, 8388607], []) 24 rfl ?_
   refine w_ 0 rfl (s_move rfl) ?_
   refine w_ 1 rfl (s_nilCheck rfl) ?_
   refine w_ 2 rfl z_1 ?_
   (refine ga_read 3 rfl z_3 (s_load_blk rfl .del a3_2) rfl rfl rfl z_5 ?_)
   refine w_ 4 rfl (s_not rfl) ?_
   refine w_ 5 rfl (s_move rfl) ?_
   (first | refine s_ 6 ?_ | refine ga_free_g 6 rfl (s_move rfl) rfl rfl rfl rfl rfl rfl z_5 ?_)
   (first | refine s_ 7 ?_ | refine ga_free_g 7 rfl ((s_gtr rfl rfl).eb hq1) rfl rfl rfl rfl rfl rfl z_5 ?_)
   refine w_ 8 rfl z_4 ?_
   refine w_ 9 rfl (s_move rfl) ?_
   (first | refine s_ 10 ?_ | refine ga_free_g 10 rfl (s_move rfl) rfl rfl rfl rfl rfl rfl z_5 ?_)
   (first | refine s_ 11 ?_ | refine ga_free_g 11 rfl ((s_conv_keep_i64 rfl (by omega))) rfl rfl rfl rfl rfl rfl z_5 ?_)
   (first | refine s_ 12 ?_ | refine ga_free_g 12 rfl (s_move rfl) rfl rfl rfl rfl rfl rfl z_5 ?_)
   (first | refine s_ 13 ?_ | refine ga_free_g 13 rfl (s_nilCheck rfl) rfl rfl rfl rfl rfl rfl z_5 ?_)
   (first | refine s_ 14 ?_ | refine ga_free_g 14 rfl z_1 rfl rfl rfl rfl rfl rfl z_5 ?_)
   (first | refine s_ 15 ?_ | refine ga_read_g 15 rfl z_3 (s_load_blk rfl .del a3_0) rfl rfl rfl rfl rfl rfl z_5 ?_)
   (first | refine s_ 16 ?_ | refine ga_free_g 16 rfl (s_len_str rfl) rfl rfl rfl rfl rfl rfl z_5 ?_)
   (first | refine s_ 17 ?_ | refine ga_free_g 17 rfl (s_move rfl) rfl rfl rfl rfl rfl rfl z_5 ?_)
   (first | refine s_ 18 ?_ | refine ga_free_g 18 rfl (s_nilCheck rfl) rfl rfl rfl rfl rfl rfl z_5 ?_)
   (first | refine s_ 19 ?_ | refine ga_free_g 19 rfl z_1 rfl rfl rfl rfl rfl rfl z_5 ?_)
   (first | refine s_ 20 ?_ | refine ga_read_g 20 rfl z_3 (s_load_blk rfl .del a3_1) rfl rfl rfl rfl rfl rfl z_5 ?_)
   (first | refine s_ 21 ?_ | refine ga_free_g 21 rfl ((s_sub_i64 rfl rfl (by omega)).eq (v' := .int .i64 ((s.length - p3 : Nat) : Int)) (by congr 1; omega)) rfl rfl rfl rfl rfl rfl z_5 ?_)
   (first | refine s_ 22 ?_ | refine ga_free_g 22 rfl ((s_gtr rfl rfl).eb hq2) rfl rfl rfl rfl rfl rfl z_5 ?_)
   refine w_ 23 rfl z_4 ?_
   refine ga_done z_5 ?_
   repeat refine y_ ?_)
  all_goals exact at_cut j_ i_
 repeat refine y_ ?_
 refine g_cond rfl (fun h => ?_) (fun h => ?_)
 ·rw [if_neg (fun x => by rw [hqq.1 x] at h; cases h)]
  repeat refine x_ ?_
  refine m_ ?_
  refine f_ (s_nilCheck rfl) ?_
  refine f_ z_1 ?_
  (refine gl_store_blkC (pre := [_, _]) (post := []) rfl rfl z_6 z_7 z_7 z_7 ?_)
  repeat refine x_ ?_
  refine a_ ?_
  repeat refine n_ ?_
  refine g_ret ?_
  exact at_end1 rfl rfl [rdp b s p3 false] ⟨rfl, rfl⟩ i_
 ·have hh := hqq.2 h
  rw [if_pos hh]
  repeat refine x_ ?_
  refine m_ ?_
  refine f_ (s_nilCheck rfl) ?_
  refine f_ z_1 ?_
  refine r_ (by exact s_load_blk rfl z_3 a3_1) ?_
  refine m_ ?_
  refine f_ ((s_conv_keep_i64 rfl (by omega))) ?_
  refine f_ ((s_add_i64 rfl rfl (by omega)).eq (v' := .int .i64 ((p3 + n : Nat) : Int)) (by congr 1)) ?_
  refine f_ (s_nilCheck rfl) ?_
  refine f_ z_1 ?_
  (refine gl_store_blkC (pre := [_]) (post := [_]) rfl rfl z_6 z_7 z_7 z_7 ?_)
  repeat refine n_ ?_
  refine g_draw0 ([3, 7, 14], [0, 1, 3, 7, 0, 16, 48, 112, 0, 256, 1008, 0, 2048, 6144, 14336, 32767, 65535], []) 17 rfl ?_
  refine w_ 0 rfl (s_move rfl) ?_
  refine w_ 1 rfl (s_nilCheck rfl) ?_
  refine w_ 2 rfl z_1 ?_
  (refine ga_read 3 rfl z_3 (s_load_blk rfl .del a3_0) rfl rfl rfl z_5 ?_)
  refine w_ 4 rfl (s_move rfl) ?_
  refine w_ 5 rfl (s_nilCheck rfl) ?_
  refine w_ 6 rfl z_1 ?_
  (refine ga_read 7 rfl z_3 (s_load_blk rfl .del a3_1) rfl rfl rfl z_5 ?_)
  refine w_ 8 rfl (s_move rfl) ?_
  refine w_ 9 rfl ((s_conv_keep_i64 rfl (by omega))) ?_
  refine w_ 10 rfl ((s_sub_i64 rfl rfl (by omega)).eq (v' := .int .i64 (p3 : Nat)) (by congr 1; omega)) ?_
  refine w_ 11 rfl (s_move rfl) ?_
  refine w_ 12 rfl (s_nilCheck rfl) ?_
  refine w_ 13 rfl z_1 ?_
  (refine ga_read 14 rfl z_3 (s_load_blk rfl .del a3_1) rfl rfl rfl z_5 ?_)
  refine w_ 15 rfl ((s_slice_str rfl rfl rfl (by omega)).eq (v' := B ((s.drop p3).take n)) (by simp only [Int.toNat_natCast]; rw [show p3 + n - p3 = n by omega])) ?_
  refine w_ 16 rfl (s_assign rfl) ?_
  refine ga_done z_5 ?_
  repeat refine y_ ?_
  refine g_ret ?_
  exact at_end1 rfl rfl [rdp b s (p3 + n) o3] ⟨rfl, rfl⟩ i_
end Go.Proofs.YtgllpcggdcknaaaGreatDoor.Rp
namespace Go.Proofs.YtgllpcggdcknaaaGreatDoor.Rp
open Go Go.Sl Go.RowKit
theorem eat_ex (b : Nat) (s w : Bs) (p : Nat) (ok : Bool) (hs : s.length < 4294967281) (hp : p ≤ s.length) (hw : w.length ≤ 1000000000000) :
  ∃ q p1 o1, eatS s w ⟨p, ok⟩ = (q, ⟨p1, o1⟩) ∧ p ≤ p1 ∧ p1 ≤ s.length ∧ o1 = ok ∧ (q = true → p1 = p + w.length) ∧ (q = false → p1 = p) ∧ Ct Tryz.prog 19 [Ptr b, B w] (fun _ => True) [rdp b s p ok] (fun v A => v = .bool q ∧ A = [rdp b s p1 o1]) := by
 have h1 := eatS_le (s := s) (w := w) (ok := ok) hp
 have h2 := eat_ct b s w p ok (by omega) hp hw
 have h3 : (eatS s w ⟨p, ok⟩).2.ok = ok ∧ ((eatS s w ⟨p, ok⟩).1 = true → (eatS s w ⟨p, ok⟩).2.p = p + w.length) ∧ ((eatS s w ⟨p, ok⟩).1 = false → (eatS s w ⟨p, ok⟩).2.p = p) := by
  unfold eatS
  split
  ·exact ⟨rfl, fun _ => rfl, fun h => nomatch h⟩
  ·exact ⟨rfl, (fun h => nomatch h), fun _ => rfl⟩
 obtain ⟨⟨q, ⟨p1, o1⟩⟩, he⟩ : ∃ z, z = eatS s w ⟨p, ok⟩ := ⟨_, rfl⟩
 rw [← he] at h1 h2 h3
 exact ⟨q, p1, o1, he.symm, h1.2, h1.1, h3.1, h3.2.1, h3.2.2, h2⟩
theorem need_ex (b : Nat) (s w : Bs) (p : Nat) (ok : Bool) (hs : s.length < 4294967281) (hp : p ≤ s.length) (hw : w.length ≤ 1000000000000) :
  ∃ p1 o1, needS s w ⟨p, ok⟩ = ⟨p1, o1⟩ ∧ p ≤ p1 ∧ p1 ≤ s.length ∧ Ct Tryz.prog 23 [Ptr b, B w] (fun _ => True) [rdp b s p ok] (fun v A => v = .tuple #[] ∧ A = [rdp b s p1 o1]) := by
 have h1 := needS_le (s := s) (w := w) (ok := ok) hp
 have h2 := need_ct b s w p ok (by omega) hp hw
 obtain ⟨⟨p1, o1⟩, he⟩ : ∃ z, z = needS s w ⟨p, ok⟩ := ⟨_, rfl⟩
 rw [← he] at h1 h2
 exact ⟨p1, o1, he.symm, h1.2, h1.1, h2⟩
theorem until_ex (b : Nat) (s w : Bs) (p : Nat) (ok : Bool) (hs : s.length < 4294967281) (hp : p ≤ s.length) (hw : w.length ≤ 1000000000000) :
  ∃ t p1 o1, untilS s w ⟨p, ok⟩ = (t, ⟨p1, o1⟩) ∧ p1 = p + t.length ∧ p1 ≤ s.length ∧ o1 = ok ∧ Ct Tryz.prog 20 [Ptr b, B w] (fun _ => True) [rdp b s p ok] (fun v A => v = B t ∧ A = [rdp b s p1 o1]) := by
 have h1 := untilS_le (s := s) (w := w) (ok := ok) hp
 have h2 := until_ct b s w p ok (by omega) hp hw
 have h3 : (untilS s w ⟨p, ok⟩).2.ok = ok := by unfold untilS; split <;> rfl
 obtain ⟨⟨t, ⟨p1, o1⟩⟩, he⟩ : ∃ z, z = untilS s w ⟨p, ok⟩ := ⟨_, rfl⟩
 rw [← he] at h1 h2 h3
 exact ⟨t, p1, o1, he.symm, h1.2.2.2, h1.1, h3, h2⟩
theorem number_ex (b : Nat) (s : Bs) (p : Nat) (ok : Bool) (hs : s.length < 4294967281) (hp : p ≤ s.length) :
  ∃ n p1 o1, numberS s ⟨p, ok⟩ = (n, ⟨p1, o1⟩) ∧ p ≤ p1 ∧ p1 ≤ s.length ∧ n ≤ great ∧ Ct Tryz.prog 55 [Ptr b] Gl [rdp b s p ok] (fun v A => v = .int .u64 (n : Nat) ∧ A = [rdp b s p1 o1]) := by
 have h1 := numberS_le (s := s) (p := p) (ok := ok) hp
 have h2 := number_ct b s p ok (by omega) hp
 obtain ⟨⟨n, ⟨p1, o1⟩⟩, he⟩ : ∃ z, z = numberS s ⟨p, ok⟩ := ⟨_, rfl⟩
 rw [← he] at h1 h2
 exact ⟨n, p1, o1, he.symm, h1.2.1, h1.1, h1.2.2, h2⟩
theorem plainS_ct (s : Bs) (hs : s.length ≤ 1000000000000) : Pu Tryz.prog 21 [B s] (fun _ => True) (.bool (plainS s)) := by
 refine ct_enter 27 Tryz.func21 rfl rfl rfl ?_
 intro F _
 repeat refine x_ ?_
 refine a_ ?_
 repeat refine x_ ?_
 refine m_ ?_
 refine f_ (s_len_str rfl) ?_
 refine m_ ?_
 repeat refine n_ ?_
 refine g_loop (ι := Nat) (fun k => k ≤ s.length ∧ ∀ j, j < k → isPlain (s.getD j 0) = true) (fun k => [(0, B s), (5, .int .i64 (s.length : Nat)), (6, .int .i64 (k : Nat))]) (fun _ => []) (fun k => s.length - k) 0 ⟨by omega, fun j h => by omega⟩ ?_ ?_ ?_
 ·(repeat (first | exact Sub.nil _ | refine Sub.cons rfl ?_))
 ·intro w hw; exact hw
 rintro k ⟨hk, hno⟩
 repeat refine x_ ?_
 refine f_ (s_lss rfl rfl) ?_
 repeat refine n_ ?_
 refine g_cond rfl (fun h => ?_) (fun h => ?_)
 ·have hk' : k < s.length := by simp at h; omega
  obtain ⟨p1, hp1⟩ : ∃ q, q = decide (((s.getD k 0).toNat : Int) < 32) := ⟨_, rfl⟩
  obtain ⟨p2, hp2⟩ : ∃ q, q = decide ((126 : Int) < ((s.getD k 0).toNat : Nat)) := ⟨_, rfl⟩
  have hb : isPlain (s.getD k 0) = !(p1 || p2) := by
   rw [hp1, hp2, Bool.eq_iff_iff]
   simp only [isPlain, Bool.and_eq_true, Bool.not_eq_true', Bool.or_eq_false_iff, decide_eq_true_eq, decide_eq_false_iff_not]
   omega
  repeat refine x_ ?_
  refine m_ ?_
  refine a_ ?_
  repeat refine n_ ?_
  refine g_cutK [(0, B s), (5, .int .i64 (s.length : Nat)), (6, .int .i64 (k : Nat)), (18, .bool (p1 || p2))] [] ?_ ?_
  ·cases p1
   all_goals (
    repeat refine x_ ?_
    refine m_ ?_
    refine m_ ?_
    refine f_ ((s_index_str rfl rfl (by omega)).eq (v' := U8 (s.getD k 0)) (by simp only [Int.toNat_natCast])) ?_
    refine f_ ((s_lss rfl rfl).eb hp1) ?_
    refine m_ ?_
    (first | refine gl_guard_no rfl rfl rfl rfl rfl rfl rfl ?_ | (refine v_ ?_; refine m_ ?_))
    (first | refine gl_guard_no rfl rfl rfl rfl rfl rfl rfl ?_ | (refine v_ ?_; refine m_ ?_))
    (first | refine gl_guard_no rfl rfl rfl rfl rfl rfl rfl ?_ | (refine v_ ?_; refine f_ ((s_index_str rfl rfl (by omega)).eq (v' := U8 (s.getD k 0)) (by simp only [Int.toNat_natCast])) ?_))
    (first | refine gl_guard_no rfl rfl rfl rfl rfl rfl rfl ?_ | (refine v_ ?_; refine f_ ((s_gtr rfl rfl).eb hp2) ?_))
    refine f_ z_4 ?_
    refine gl_nil ?_
    repeat refine y_ ?_)
   all_goals exact at_cut j_ i_
  repeat refine y_ ?_
  refine g_cond rfl (fun h2 => ?_) (fun h2 => ?_)
  ·have e : plainS s = false := by
    unfold plainS
    rw [all_no (p := isPlain) hk' (by rw [hb, h2]; rfl)]
    rfl
   rw [e]
   repeat refine x_ ?_
   refine a_ ?_
   repeat refine n_ ?_
   refine g_ret ?_
   exact at_end1 rfl rfl [] ⟨rfl, rfl⟩ (fun _ h => h)
  ·repeat refine y_ ?_
   repeat refine x_ ?_
   refine f_ (s_add_i64 rfl rfl (by omega)) ?_
   refine m_ ?_
   repeat refine n_ ?_
   refine at_next (k + 1) ⟨by omega, fun j hj => ?_⟩ (by omega) ?_ ?_
   ·rcases Nat.lt_succ_iff_lt_or_eq.1 hj with h4 | rfl
    ·exact hno j h4
    ·rw [hb, h2]; rfl
   ·(repeat (first | exact Sub.nil _ | refine Sub.cons rfl ?_))
   ·intro w hw; exact hw
 have hkl : k = s.length := by simp at h; omega
 subst hkl
 obtain ⟨q1, hq1⟩ : ∃ q, q = !decide (s = []) := ⟨_, rfl⟩
 obtain ⟨q2, hq2⟩ : ∃ q, q = decide (((s.length : Nat) : Int) ≤ 512) := ⟨_, rfl⟩
 have e : plainS s = (q1 && q2) := by
  unfold plainS
  have h1 : s.all isPlain = true := all_yes hno
  have h2 : (!s.isEmpty) = q1 := by rw [hq1]; cases s <;> simp
  have h3 : decide (s.length ≤ 512) = q2 := by rw [hq2]; exact decide_eq_decide.mpr (by omega)
  rw [h1, h2, h3, Bool.true_and]
 rw [e]
 clear e
 repeat refine y_ ?_
 cases q1
 all_goals (
  repeat refine x_ ?_
  refine m_ ?_
  refine f_ ((s_neq_str rfl rfl).eb hq1) ?_
  refine m_ ?_
  (first | refine gl_guard_no rfl rfl rfl rfl rfl rfl rfl ?_ | (refine v_ ?_; refine m_ ?_))
  (first | refine gl_guard_no rfl rfl rfl rfl rfl rfl rfl ?_ | (refine v_ ?_; refine f_ (s_len_str rfl) ?_))
  (first | refine gl_guard_no rfl rfl rfl rfl rfl rfl rfl ?_ | (refine v_ ?_; refine f_ ((s_leq rfl rfl).eb hq2) ?_))
  refine f_ z_4 ?_
  refine a_ ?_
  refine gl_nil ?_
  repeat refine y_ ?_)
 all_goals (refine g_ret ?_; exact at_end1 rfl rfl [] ⟨rfl, rfl⟩ (fun _ h => h))
theorem status_ct (k : Nat) (hk : k < 4) : Pu Tryz.prog 29 [.int .i64 ((k : Int) + 1)] (fun _ => True) (B (statW.getD k [])) := by
 refine ct_enter 7 Tryz.func29 rfl rfl rfl ?_
 intro F _
 repeat refine x_ ?_
 refine a_ ?_
 repeat refine x_ ?_
 refine f_ (s_build (v := .agg #[B [79, 75], B [78, 79], B [66, 65, 68], B [66, 89, 69]]) rfl (fun w => run_build w _ _ _ z_5)) ?_
 refine m_ ?_
 refine f_ ((s_sub_i64 rfl rfl (by omega)).eq (v' := .int .i64 (k : Nat)) (by congr 1; omega)) ?_
 refine f_ ((s_index_arrS k rfl rfl rfl (by omega) (v := B (statW.getD k [])) (by have c : k = 0 ∨ k = 1 ∨ k = 2 ∨ k = 3 := (by omega); rcases c with rfl | rfl | rfl | rfl <;> rfl))) ?_
 refine a_ ?_
 repeat refine n_ ?_
 refine g_ret ?_
 exact at_end1 rfl rfl [] ⟨rfl, rfl⟩ (fun _ h => h)
theorem itemWords_ct : Ct Tryz.prog 34 [] (fun _ => True) [] (fun v A => ∃ a, v = .slice (some a) 12 12 ∧ A = [OwnS (some a) itemW 12]) := by
 refine ct_enter 2 Tryz.func34 rfl rfl rfl ?_
 intro F _
 repeat refine x_ ?_
 refine a_ ?_
 repeat refine x_ ?_
 refine gl_buildSliceU rfl rfl rfl rfl rfl rfl (xs := fV itemW) rfl rfl ?_; rintro a3 ⟨ad3, rfl⟩
 refine a_ ?_
 repeat refine n_ ?_
 refine g_ret ?_
 exact at_end1 rfl rfl _ ⟨ad3, rfl, rfl⟩ i_
theorem idx_iff : ∀ {l : List Bs} (_ : l.Nodup) {j : Nat} (_ : j < l.length) (w : Bs), l.getD j [] = w ↔ l.idxOf w = j
 | a :: t, hn, 0, hj, w => by
  by_cases h : a = w
  ·subst h; simp
  ·rw [idxOf_ne h]; simp [h]
 | a :: t, hn, j + 1, hj, w => by
  have hn' := List.nodup_cons.1 hn
  have hj' : j < t.length := by simpa using hj
  by_cases h : a = w
  ·subst h
   rw [List.idxOf_cons_self, List.getD_cons_succ]
   constructor
   ·intro hg
    refine absurd ?_ hn'.1
    rw [← hg, List.getD_eq_getElem?_getD, List.getElem?_eq_getElem hj']
    exact List.getElem_mem hj'
   ·intro x; cases x
  ·have := idx_iff hn'.2 hj' w
   rw [List.getD_cons_succ, this, idxOf_ne h]
   omega
theorem stat_iff {k : Nat} (hk : k < 4) (w : Bs) : decide (statW.getD k [] = w) = decide (statK w = k + 1) := by
 refine decide_eq_decide.mpr ?_
 rw [idx_iff (l := statW) (by decide) hk]
 unfold statK
 split <;> omega
theorem statK_le (w : Bs) : statK w ≤ 4 := by
 unfold statK
 split <;> omega
end Go.Proofs.YtgllpcggdcknaaaGreatDoor.Rp
namespace Go.Proofs.YtgllpcggdcknaaaGreatDoor.Rp
open Go Go.Sl Go.RowKit
def RdP (b : Nat) (s : Bs) (q : RR × RS) (v : Value) (A : List As) : Prop := (∃ A', RpP q.1 v A' ∧ A = rdr b s q.2 :: A') ∧ q.2.p ≤ s.length
set_option maxRecDepth 8000 in
theorem search_ct (b : Nat) (s : Bs) (p : Nat) (ok : Bool) (hs : s.length < 4294967281) (hp : p ≤ s.length) : Ct Tryz.prog 52 [Ptr b] Gl [rdp b s p ok] (RdP b s (searchS s ⟨p, ok⟩)) := by
  refine ct_enter 47 Tryz.func52 rfl rfl rfl ?_
  intro F hg
  repeat refine x_ ?_
  refine gl_allocA rfl ?_; intro g2
  repeat refine x_ ?_
  refine f_ (s_bld rfl rfl) ?_
  refine gl_allocA rfl ?_; intro g3
  (refine gl_store_blkW rfl rfl z_6 z_7 z_7 z_2 ?_)
  repeat refine n_ ?_
  refine g_own_nil 22 1 ?_
  refine g_loop (ι := Nat × Nat × Bool × List Nat × Option Addr × Nat) (fun i => i.2.1 ≤ s.length ∧ s.length + 1 ≤ i.1 + i.2.1 ∧ i.2.2.2.1.length + i.1 = s.length + 1 ∧ searchL s (s.length + 1) [] ⟨p, ok⟩ = searchL s i.1 i.2.2.2.1 ⟨i.2.1, i.2.2.1⟩) (fun i => [(0, Ptr b), (2, Ptr g2), (3, Ptr g3)]) (fun i => [rdp b s i.2.1 i.2.2.1, .own (.slice i.2.2.2.2.1 i.2.2.2.1.length i.2.2.2.2.2) 22 1 (nV i.2.2.2.1), blkR g3 ⟨13, [], [], [], 0, i.2.2.2.1, 0, [], [], []⟩ ⟨i.2.2.2.2.1, i.2.2.2.2.2, none, 0, none, 0, []⟩, blkR g2 R0 L0]) (fun i => i.1) (s.length + 1, p, ok, [], none, 0) ⟨hp, by omega, by simp, rfl⟩ ?_ ?_ ?_
  · (repeat (first | exact Sub.nil _ | refine Sub.cons rfl ?_))
  · intro w hw; exact hw.perm (List.perm_append_comm (l₁ := [_, _, _]) (l₂ := [_]))
  rintro ⟨k, p', o', l, bb, d⟩ ⟨hp', hk, hl, he⟩
  simp only at hp' hk hl he
  obtain ⟨k', rfl⟩ : ∃ k', k = k' + 1 := ⟨k - 1, by omega⟩
  obtain ⟨q1, p1, o1, e1, h1a, h1b, h1o, h1t, h1f, c1⟩ := eat_ex b s [32] p' o' hs hp' (by decide)
  have hst : searchL s (k' + 1) l ⟨p', o'⟩ = if q1 = true then (if (eatS s wModseq ⟨p1, o1⟩).1 = true then
        (let m := numberS s (eatS s wModseq ⟨p1, o1⟩).2
         let e := needS s [41] m.2
         ((l, m.1), ⟨e.p, e.ok && decide (0 < m.1)⟩))
      else searchL s k' (l ++ [(numberS s ⟨p1, o1⟩).1]) (numberS s ⟨p1, o1⟩).2) else ((l, 0), ⟨p', o'⟩) := by rw [searchL, e1]
  repeat refine x_ ?_
  refine m_ ?_
  refine gl_call _ rfl c1 i_ (fun _ _ _ => trivial) rfl ?_; rintro v A ⟨rfl, rfl⟩
  repeat refine n_ ?_
  refine g_cond rfl (fun h => ?_) (fun h => ?_)
  · have hp1 := h1t h
    simp only [List.length_singleton] at hp1
    obtain ⟨q2, p2, o2, e2, h2a, h2b, h2o, h2t, h2f, c2⟩ := eat_ex b s wModseq p1 o1 hs h1b (by decide)
    repeat refine x_ ?_
    refine m_ ?_
    refine gl_call _ rfl c2 i_ (fun _ _ _ => trivial) rfl ?_; rintro v A ⟨rfl, rfl⟩
    repeat refine n_ ?_
    refine g_cond rfl (fun h2 => ?_) (fun h2 => ?_)
    · obtain ⟨n, p3, o3, e3, h3a, h3b, h3g, c3⟩ := number_ex b s p2 o2 hs h2b
      obtain ⟨p4, o4, e4, h4a, h4b, c4⟩ := need_ex b s [41] p3 o3 hs h3b (by decide)
      obtain ⟨q3, hq3⟩ : ∃ q, q = decide (0 < n) := ⟨_, rfl⟩
      have hq : searchL s (s.length + 1) [] ⟨p, ok⟩ = ((l, n), ⟨p4, o4 && q3⟩) := by
        rw [he, hst, if_pos h, if_pos (by rw [e2]; exact h2), e2]
        simp only
        rw [e3]
        simp only
        rw [e4, hq3]
      repeat refine x_ ?_
      refine m_ ?_
      refine gl_call _ rfl c3 i_ (fun h hh hb => hg.le hh) rfl ?_; rintro v A ⟨rfl, rfl⟩
      refine f_ z_1 ?_
      (refine gl_store_blkC (pre := [_, _, _, _, _, _]) (post := [_, _, _]) rfl rfl z_6 z_7 z_7 z_7 ?_)
      repeat refine x_ ?_
      refine m_ ?_
      refine gl_call _ rfl c4 i_ (fun _ _ _ => trivial) rfl ?_; rintro v A ⟨rfl, rfl⟩
      repeat refine n_ ?_
      refine g_cutK [(0, Ptr b), (2, Ptr g2), (3, Ptr g3)] [rdp b s p4 (o4 && q3), .own (.slice bb l.length d) 22 1 (nV l), blkR g3 ⟨13, [], [], [], 0, l, n, [], [], []⟩ ⟨bb, d, none, 0, none, 0, []⟩, blkR g2 R0 L0] ?_ ?_
      · cases o4
        all_goals (
          repeat refine x_ ?_
          refine m_ ?_
          refine m_ ?_
          refine f_ (s_nilCheck rfl) ?_
          refine f_ z_1 ?_
          refine r_ (by exact s_load_blk rfl z_3 a3_2) ?_
          refine m_ ?_
          (first | refine gl_guard_no rfl rfl rfl rfl rfl rfl rfl ?_ | (refine v_ ?_; refine f_ z_1 ?_))
          (first | refine gl_guard_no rfl rfl rfl rfl rfl rfl rfl ?_ | (refine v_ ?_; refine r_ (by exact s_load_blk rfl z_3 a10_6) ?_))
          (first | refine gl_guard_no rfl rfl rfl rfl rfl rfl rfl ?_ | (refine v_ ?_; refine f_ ((s_gtr rfl rfl).eq (congrArg Value.bool ((decide_eq_decide.mpr (by omega)).trans hq3.symm))) ?_))
          refine f_ z_4 ?_
          refine f_ (s_nilCheck rfl) ?_
          refine f_ z_1 ?_
          (refine gl_store_blkC (pre := [_, _]) (post := []) rfl rfl z_6 z_7 z_7 z_7 ?_)
          refine gl_nil ?_
          repeat refine y_ ?_)
        all_goals exact at_cut j_ i_
      obtain ⟨q4, hq4⟩ : ∃ q, q = decide (l.length ≤ 64) := ⟨_, rfl⟩
      have e : searchS s ⟨p, ok⟩ = (⟨13, [], [], [], 0, l, n, [], [], []⟩, ⟨p4, (o4 && q3) && q4⟩) := by
        unfold searchS
        simp only
        rw [hq]
        simp only
        rw [hq4]
      rw [e]
      repeat refine y_ ?_
      refine g_cutK [(0, Ptr b), (2, Ptr g2), (3, Ptr g3)] [rdp b s p4 ((o4 && q3) && q4), .own (.slice bb l.length d) 22 1 (nV l), blkR g3 ⟨13, [], [], [], 0, l, n, [], [], []⟩ ⟨bb, d, none, 0, none, 0, []⟩, blkR g2 R0 L0] ?_ ?_
      · obtain ⟨z, hz⟩ : ∃ z, z = (o4 && q3) := ⟨_, rfl⟩
        rw [← hz]
        cases z
        all_goals (
          repeat refine x_ ?_
          refine m_ ?_
          refine m_ ?_
          refine f_ (s_nilCheck rfl) ?_
          refine f_ z_1 ?_
          refine r_ (by exact s_load_blk rfl z_3 a3_2) ?_
          refine m_ ?_
          (first | refine gl_guard_no rfl rfl rfl rfl rfl rfl rfl ?_ | (refine v_ ?_; refine f_ z_1 ?_))
          (first | refine gl_guard_no rfl rfl rfl rfl rfl rfl rfl ?_ | (refine v_ ?_; refine r_ (by exact s_load_blk rfl z_3 a10_5) ?_))
          (first | refine gl_guard_no rfl rfl rfl rfl rfl rfl rfl ?_ | (refine v_ ?_; refine f_ (s_len_sl rfl) ?_))
          (first | refine gl_guard_no rfl rfl rfl rfl rfl rfl rfl ?_ | (refine v_ ?_; refine f_ ((s_leq rfl rfl).eq (congrArg Value.bool ((show decide ((l.length : Int) ≤ 64) = _ from decide_eq_decide.mpr (by omega)).trans hq4.symm))) ?_))
          refine f_ z_4 ?_
          refine f_ (s_nilCheck rfl) ?_
          refine f_ z_1 ?_
          (refine gl_store_blkC (pre := [_, _]) (post := []) rfl rfl z_6 z_7 z_7 z_7 ?_)
          refine gl_nil ?_
          repeat refine y_ ?_)
        all_goals exact at_cut j_ i_
      repeat refine x_ ?_
      refine r_ ((s_load_blkW rfl z_3 z_7).eq (v' := rrA ⟨13, [], [], [], 0, l, n, [], [], []⟩ ⟨bb, d, none, 0, none, 0, []⟩) rfl) ?_
      (refine gl_store_blkW rfl rfl z_6 z_7 z_7 z_2 ?_)
      repeat refine n_ ?_
      refine g_ret ?_
      exact at_endB rfl rfl z_3 rfl _ ⟨⟨_, ⟨⟨bb, d, none, 0, none, 0, []⟩, rfl, rfl, rfl⟩, rfl⟩, h4b⟩ (fun w hw => by
        have h1 : Hp F w [rdp b s p4 ((o4 && q3) && q4), .own (.slice bb l.length d) 22 1 (nV l)] := hw.left (A := [_, _])
        exact ((h1.addNil 46 6).addNil 9 1).perm (List.perm_append_comm (l₁ := [_, _]) (l₂ := [_, _])))
    · have h2e : q2 = false := h2
      have hp2 := h2f h2e
      subst hp2
      subst h2o
      obtain ⟨n, p3, o3, e3, h3a, h3b, h3g, c3⟩ := number_ex b s p2 o2 hs h2b
      have hnv : nV (l ++ [n]) = nV l ++ nV [n] := nV_append _ _
      rw [hst, if_pos h, if_neg (by rw [e2, h2e]; simp), e3] at he
      repeat refine y_ ?_
      refine g_draw ([1], [0, 1, 0, 4, 12, 31, 63, 127], [3, 4, 5, 7]) [blkR g3 ⟨13, [], [], [], 0, l, 0, [], [], []⟩ ⟨bb, d, none, 0, none, 0, []⟩] 8 rfl ?_
      refine w_ 0 rfl z_1 ?_
      (refine ga_read_k 1 rfl (by exact .head _) (s_load_blk rfl .del a10_5) k_ rfl rfl rfl z_5 ?_)
      refine w_ 2 rfl (s_move rfl) ?_
      refine ga_one 3 rfl z_5 ?_
      refine gl_call _ rfl c3 i_ (fun h hh hb => hg.le hh) rfl ?_; rintro v A ⟨rfl, rfl⟩
      refine gl_nil ?_
      refine at_ga (.inr (by exact keeps_of k_)) ?_
      refine ga_one 4 rfl z_5 ?_
      refine gl_buildSliceU rfl rfl rfl rfl rfl rfl (xs := nV [n]) rfl rfl ?_; intro a39 ha39
      refine gl_nil ?_
      refine at_ga (.inr (by exact keeps_of k_)) ?_
      refine ga_one 5 rfl z_5 ?_
      refine gl_append rfl rfl (fun a' c' => .there (.there .here)) (fun w hw => (hw.ownN z_3).2.2.1) rfl rfl rfl (nV_one _) (by show (l.length + 1) * 8 ≤ _; omega) (by simp only; omega) rfl ?_; intro a5 c5 hc5
      refine gl_nil ?_
      refine at_ga (.inl z_5) ?_
      refine w_ 6 rfl z_1 ?_
      refine ga_one 7 rfl z_5 ?_
      (refine gl_store_blkC (pre := [_, _, _, _, _]) (post := [_, _, _, _]) rfl rfl z_6 z_7 z_7 z_7 ?_)
      refine gl_nil ?_
      refine at_ga (.inl z_5) ?_
      refine ga_done z_5 ?_
      repeat refine y_ ?_
      refine at_next (k', p3, o3, l ++ [n], a5, c5) ⟨h3b, by simp only; omega, by simp; omega, by simp only; exact he⟩ z_8 ?_ ?_
      · (repeat (first | exact Sub.nil _ | refine Sub.cons rfl ?_))
      · intro w hw
        simp only [blkR, List.length_append, List.length_singleton]
        rw [hnv]
        exact hw.drop
  · have h1e : q1 = false := h
    have hp1 := h1f h1e
    subst hp1
    subst h1o
    have hq : searchL s (s.length + 1) [] ⟨p, ok⟩ = ((l, 0), ⟨p1, o1⟩) := by rw [he, hst, if_neg (by rw [h1e]; simp)]
    obtain ⟨q4, hq4⟩ : ∃ q, q = decide (l.length ≤ 64) := ⟨_, rfl⟩
    have e : searchS s ⟨p, ok⟩ = (⟨13, [], [], [], 0, l, 0, [], [], []⟩, ⟨p1, o1 && q4⟩) := by
      unfold searchS
      simp only
      rw [hq]
      simp only
      rw [hq4]
    rw [e]
    repeat refine y_ ?_
    refine g_cutK [(0, Ptr b), (2, Ptr g2), (3, Ptr g3)] [rdp b s p1 (o1 && q4), .own (.slice bb l.length d) 22 1 (nV l), blkR g3 ⟨13, [], [], [], 0, l, 0, [], [], []⟩ ⟨bb, d, none, 0, none, 0, []⟩, blkR g2 R0 L0] ?_ ?_
    · obtain ⟨z, hz⟩ : ∃ z, z = o1 := ⟨_, rfl⟩
      rw [← hz]
      cases z
      all_goals (
        repeat refine x_ ?_
        refine m_ ?_
        refine m_ ?_
        refine f_ (s_nilCheck rfl) ?_
        refine f_ z_1 ?_
        refine r_ (by exact s_load_blk rfl z_3 a3_2) ?_
        refine m_ ?_
        (first | refine gl_guard_no rfl rfl rfl rfl rfl rfl rfl ?_ | (refine v_ ?_; refine f_ z_1 ?_))
        (first | refine gl_guard_no rfl rfl rfl rfl rfl rfl rfl ?_ | (refine v_ ?_; refine r_ (by exact s_load_blk rfl z_3 a10_5) ?_))
        (first | refine gl_guard_no rfl rfl rfl rfl rfl rfl rfl ?_ | (refine v_ ?_; refine f_ (s_len_sl rfl) ?_))
        (first | refine gl_guard_no rfl rfl rfl rfl rfl rfl rfl ?_ | (refine v_ ?_; refine f_ ((s_leq rfl rfl).eq (congrArg Value.bool ((show decide ((l.length : Int) ≤ 64) = _ from decide_eq_decide.mpr (by omega)).trans hq4.symm))) ?_))
        refine f_ z_4 ?_
        refine f_ (s_nilCheck rfl) ?_
        refine f_ z_1 ?_
        (refine gl_store_blkC (pre := [_, _]) (post := []) rfl rfl z_6 z_7 z_7 z_7 ?_)
        refine gl_nil ?_
        repeat refine y_ ?_)
      all_goals exact at_cut j_ i_
    repeat refine x_ ?_
    refine r_ ((s_load_blkW rfl z_3 z_7).eq (v' := rrA ⟨13, [], [], [], 0, l, 0, [], [], []⟩ ⟨bb, d, none, 0, none, 0, []⟩) rfl) ?_
    (refine gl_store_blkW rfl rfl z_6 z_7 z_7 z_2 ?_)
    repeat refine n_ ?_
    refine g_ret ?_
    exact at_endB rfl rfl z_3 rfl _ ⟨⟨_, ⟨⟨bb, d, none, 0, none, 0, []⟩, rfl, rfl, rfl⟩, rfl⟩, h1b⟩ (fun w hw => by
      have h1 : Hp F w [rdp b s p1 (o1 && q4), .own (.slice bb l.length d) 22 1 (nV l)] := hw.left (A := [_, _])
      exact ((h1.addNil 46 6).addNil 9 1).perm (List.perm_append_comm (l₁ := [_, _]) (l₂ := [_, _])))
end Go.Proofs.YtgllpcggdcknaaaGreatDoor.Rp
