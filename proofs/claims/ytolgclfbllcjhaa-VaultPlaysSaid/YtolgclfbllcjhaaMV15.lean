/- The vault's laws: an act, what is too much, a call on both. -/
import Derived.Test.YtolgclfbllcjhaaMV14
namespace Go.Proofs.Ytolgclfbllcjhaa.Vt
open Go Go.Sl
set_option linter.unusedVariables false
set_option linter.unusedSimpArgs false

structure VA where
  kind : Int
  s : Bs
  t : Bs
  la : Option Addr
  l : List Bs
  lc : Nat
  n : Int
abbrev vaC (a : VA) : List Value := [.int .i64 a.kind, B a.s, B a.t, .slice a.la a.l.length a.lc, .int .i64 a.n]
abbrev vaV (a : VA) : Value := .agg #[.int .i64 a.kind, B a.s, B a.t, .slice a.la a.l.length a.lc, .int .i64 a.n]
abbrev VA0 : VA := ⟨0, [], [], none, [], 0, 0⟩
theorem vaC_len : ∀ x, (vaC x).length = 5 := fun _ => rfl
structure VaOk (h : Heap) (a : VA) : Prop where
  s : a.s.length ≤ 140737488351232
  t : a.t.length ≤ 140737488351232
  rd : RdS h a.la (stV a.l)
  each : ∀ s ∈ a.l, s.length ≤ 140737488351232
  n : -9223372036854775808 ≤ a.n ∧ a.n ≤ 9223372036854775807
theorem VaOk.le {h h' : Heap} {a : VA} (f : VaOk h a) (l : Heap.le h h') : VaOk h' a := ⟨f.s, f.t, f.rd.le l, f.each, f.n⟩
abbrev vaL (l : List VA) : List Value := l.flatMap vaC
theorem rdV {F : Snap} {w : World} {H : List As} {a : Option Addr} {l : List VA} {q i : Nat} (hw : Hp F w H) (r : RdS F.heap a (vaL l)) (h : q = 5 * i) (hi : i < l.length) : PeekC (hp w) (addO a q) (vaC (l.getD i VA0)) := rec_rdN (C := vaC) (r.le hw.keep) vaC_len (by decide) VA0 h hi
theorem rdV1 {F : Snap} {w : World} {H : List As} {a : Option Addr} {l : List VA} {q i j : Nat} {v : Value} (hw : Hp F w H) (r : RdS F.heap a (vaL l)) (h : q = 5 * i + j) (hi : i < l.length) (hv : (vaC (l.getD i VA0))[j]? = some v) : PeekC (hp w) (addO a q) [v] := rec_rd1 (C := vaC) (r.le hw.keep) vaC_len VA0 h hi hv
theorem rdV_some {h : Heap} {a : Option Addr} {l : List VA} {i : Nat} (r : RdS h a (vaL l)) (hi : i < l.length) : ∃ ad, a = some ad := rec_some (C := vaC) r vaC_len (by decide) hi
theorem va_mem {l : List VA} {i : Nat} (hi : i < l.length) : l.getD i VA0 ∈ l := by
  rw [List.getD_eq_getElem?_getD, List.getElem?_eq_getElem hi]; exact List.getElem_mem hi
def GrP (l : List VA) (v : Value) (A : List As) : Prop := ∃ q, v = .bool q ∧ A = [] ∧ (q = false → l.length ≤ 40 ∧ ∀ a ∈ l, a.l.length ≤ 40)
theorem long_b (l : List Bs) : 0 ≤ longZ l ∧ longZ l ≤ 1073741824 := by
  unfold longZ
  split
  · omega
  · have := fewL_le l; omega
set_option maxRecDepth 8000 in
set_option maxHeartbeats 2000000 in
theorem great_ct (l : List VA) (a : Option Addr) (c : Nat) : Ct Try.prog 44 [.slice a l.length c] (fun h => RdS h a (vaL l) ∧ ∀ m ∈ l, VaOk h m) [] (GrP l) := by
  refine ct_enter 47 Try.func44 rfl rfl rfl ?_
  intro F hF
  have hrd := hF.1
  have hm := hF.2
  obtain ⟨q, hq⟩ : ∃ q, q = decide ((40 : Int) < (l.length : Nat)) := ⟨_, rfl⟩
  repeat (first | refine g_seq ?_ | refine at_code ?_ | refine g_skip ?_ | refine g_block ?_ | refine g_exit rfl ?_ | refine g_cond_t rfl ?_ | refine g_cond_f rfl ?_)
  refine g_region ?_
  refine gl_f (s_assign rfl) rfl rfl rfl ?_
  refine gl_nil ?_
  repeat (first | refine g_seq ?_ | refine at_code ?_ | refine g_skip ?_ | refine g_block ?_ | refine g_exit rfl ?_ | refine g_cond_t rfl ?_ | refine g_cond_f rfl ?_)
  refine g_region ?_
  refine gl_f (s_move rfl) rfl rfl rfl ?_
  refine gl_f (s_len_sl rfl) rfl rfl rfl ?_
  refine gl_f ((s_gtr rfl rfl).eq (congrArg Value.bool hq.symm)) rfl rfl rfl ?_
  refine gl_nil ?_
  repeat (first | refine g_seq ?_ | refine at_code ?_ | refine g_skip ?_ | refine g_block ?_ | refine g_exit rfl ?_ | refine g_cond_t rfl ?_ | refine g_cond_f rfl ?_)
  cases q
  rotate_left
  · repeat (first | refine g_seq ?_ | refine at_code ?_ | refine g_skip ?_ | refine g_block ?_ | refine g_exit rfl ?_ | refine g_cond_t rfl ?_ | refine g_cond_f rfl ?_)
    repeat (first | refine g_seq ?_ | refine at_code ?_ | refine g_skip ?_ | refine g_block ?_ | refine g_exit rfl ?_ | refine g_cond_t rfl ?_ | refine g_cond_f rfl ?_)
    refine g_region ?_
    refine gl_f (s_assign rfl) rfl rfl rfl ?_
    refine gl_nil ?_
    repeat (first | refine g_seq ?_ | refine at_code ?_ | refine g_skip ?_ | refine g_block ?_ | refine g_exit rfl ?_ | refine g_cond_t rfl ?_ | refine g_cond_f rfl ?_)
    refine g_ret ?_
    exact at_end1 rfl rfl [] ⟨true, rfl, rfl, fun h => by cases h⟩ (fun _ h => h)
  have hl : l.length ≤ 40 := by have := of_decide_eq_false hq.symm; omega
  repeat (first | refine g_seq ?_ | refine at_code ?_ | refine g_skip ?_ | refine g_block ?_ | refine g_exit rfl ?_ | refine g_cond_t rfl ?_ | refine g_cond_f rfl ?_)
  repeat (first | refine g_seq ?_ | refine at_code ?_ | refine g_skip ?_ | refine g_block ?_ | refine g_exit rfl ?_ | refine g_cond_t rfl ?_ | refine g_cond_f rfl ?_)
  refine g_region ?_
  refine gl_f (s_assign rfl) rfl rfl rfl ?_
  refine gl_nil ?_
  repeat (first | refine g_seq ?_ | refine at_code ?_ | refine g_skip ?_ | refine g_block ?_ | refine g_exit rfl ?_ | refine g_cond_t rfl ?_ | refine g_cond_f rfl ?_)
  refine g_region ?_
  refine gl_f (s_assign rfl) rfl rfl rfl ?_
  refine gl_nil ?_
  repeat (first | refine g_seq ?_ | refine at_code ?_ | refine g_skip ?_ | refine g_block ?_ | refine g_exit rfl ?_ | refine g_cond_t rfl ?_ | refine g_cond_f rfl ?_)
  refine g_loop (ι := Nat × Int) (fun i => i.1 ≤ l.length ∧ (0 ≤ i.2 ∧ i.2 ≤ i.1 * 2147483648) ∧ ∀ j, j < i.1 → (l.getD j VA0).l.length ≤ 40) (fun i => [(0, .slice a l.length c), (3, .int .i64 i.2), (4, .int .i64 (i.1 : Nat))]) (fun i => []) (fun i => l.length - i.1) (0, 0) ⟨Nat.zero_le _, by simp, fun j hj => absurd hj (Nat.not_lt_zero j)⟩ ?_ ?_ ?_
  · (repeat (first | exact Sub.nil _ | refine Sub.cons rfl ?_))
  · intro w hw; exact hw
  rintro ⟨k, n⟩ ⟨hk, hn, hj⟩
  simp only at hk hn hj
  repeat (first | refine g_seq ?_ | refine at_code ?_ | refine g_skip ?_ | refine g_block ?_ | refine g_exit rfl ?_ | refine g_cond_t rfl ?_ | refine g_cond_f rfl ?_)
  refine g_region ?_
  refine gl_f (s_move rfl) rfl rfl rfl ?_
  refine gl_f (s_move rfl) rfl rfl rfl ?_
  refine gl_f (s_len_sl rfl) rfl rfl rfl ?_
  refine gl_f (s_lss rfl rfl) rfl rfl rfl ?_
  refine gl_nil ?_
  repeat (first | refine g_seq ?_ | refine at_code ?_ | refine g_skip ?_ | refine g_block ?_ | refine g_exit rfl ?_ | refine g_cond_t rfl ?_ | refine g_cond_f rfl ?_)
  refine g_cond rfl (fun h => ?_) (fun h => ?_)
  rotate_left
  · have hkl : k = l.length := by simp at h; omega
    obtain ⟨q2, hq2⟩ : ∃ q, q = decide ((32768 : Int) < n) := ⟨_, rfl⟩
    repeat (first | refine g_seq ?_ | refine at_code ?_ | refine g_skip ?_ | refine g_block ?_ | refine g_exit rfl ?_ | refine g_cond_t rfl ?_ | refine g_cond_f rfl ?_)
    repeat (first | refine g_seq ?_ | refine at_code ?_ | refine g_skip ?_ | refine g_block ?_ | refine g_exit rfl ?_ | refine g_cond_t rfl ?_ | refine g_cond_f rfl ?_)
    refine g_region ?_
    refine gl_f (s_move rfl) rfl rfl rfl ?_
    refine gl_f ((s_gtr rfl rfl).eq (congrArg Value.bool hq2.symm)) rfl rfl rfl ?_
    refine gl_f (s_assign rfl) rfl rfl rfl ?_
    refine gl_nil ?_
    repeat (first | refine g_seq ?_ | refine at_code ?_ | refine g_skip ?_ | refine g_block ?_ | refine g_exit rfl ?_ | refine g_cond_t rfl ?_ | refine g_cond_f rfl ?_)
    refine g_ret ?_
    exact at_end1 rfl rfl [] ⟨q2, rfl, rfl, fun _ => ⟨hl, fun b hb => by
      obtain ⟨j, hj2, rfl⟩ := List.getElem_of_mem hb
      have := hj j (by omega)
      rw [List.getD_eq_getElem?_getD, List.getElem?_eq_getElem hj2] at this
      exact this⟩⟩ (fun _ h => h)
  have hkl : k < l.length := by simp at h; omega
  have hsome := rdV_some hrd hkl
  have hmk := hm _ (va_mem hkl)
  obtain ⟨m, hme⟩ : ∃ m, m = l.getD k VA0 := ⟨_, rfl⟩
  have hrd1 : ∀ {w : World} {H : List As} {j : Nat} {v : Value}, Hp F w H → (vaC m)[j]? = some v → PeekC (hp w) (addO a (((k : Nat) : Int).toNat * 5 + j)) [v] := fun {w H j v} hw hv => rdV1 (j := j) hw hrd (i := k) (by omega) hkl (by rw [← hme]; exact hv)
  rw [← hme] at hmk
  obtain ⟨q3, hq3⟩ : ∃ q, q = decide ((40 : Int) < (m.l.length : Nat)) := ⟨_, rfl⟩
  repeat (first | refine g_seq ?_ | refine at_code ?_ | refine g_skip ?_ | refine g_block ?_ | refine g_exit rfl ?_ | refine g_cond_t rfl ?_ | refine g_cond_f rfl ?_)
  repeat (first | refine g_seq ?_ | refine at_code ?_ | refine g_skip ?_ | refine g_block ?_ | refine g_exit rfl ?_ | refine g_cond_t rfl ?_ | refine g_cond_f rfl ?_)
  refine g_region ?_
  refine gl_f (s_move rfl) rfl rfl rfl ?_
  refine gl_f (s_move rfl) rfl rfl rfl ?_
  refine gl_f (s_indexAddr rfl (by assumption) rfl (by omega)) rfl rfl rfl ?_
  refine gl_f (by first | exact s_fieldAddr rfl (by rfl) (by infer_instance) (by decide) | exact s_fieldAddr_o rfl (by assumption) (by rfl) (by infer_instance) (by decide)) rfl rfl rfl ?_
  refine gl_r (s_load1 (v := .slice m.la m.l.length m.lc) rfl (fun w hw => hrd1 (j := 3) hw rfl)) rfl rfl rfl ?_
  refine gl_f (s_len_sl rfl) rfl rfl rfl ?_
  refine gl_f ((s_gtr rfl rfl).eq (congrArg Value.bool hq3.symm)) rfl rfl rfl ?_
  refine gl_nil ?_
  repeat (first | refine g_seq ?_ | refine at_code ?_ | refine g_skip ?_ | refine g_block ?_ | refine g_exit rfl ?_ | refine g_cond_t rfl ?_ | refine g_cond_f rfl ?_)
  cases q3
  rotate_left
  · repeat (first | refine g_seq ?_ | refine at_code ?_ | refine g_skip ?_ | refine g_block ?_ | refine g_exit rfl ?_ | refine g_cond_t rfl ?_ | refine g_cond_f rfl ?_)
    repeat (first | refine g_seq ?_ | refine at_code ?_ | refine g_skip ?_ | refine g_block ?_ | refine g_exit rfl ?_ | refine g_cond_t rfl ?_ | refine g_cond_f rfl ?_)
    refine g_region ?_
    refine gl_f (s_assign rfl) rfl rfl rfl ?_
    refine gl_nil ?_
    repeat (first | refine g_seq ?_ | refine at_code ?_ | refine g_skip ?_ | refine g_block ?_ | refine g_exit rfl ?_ | refine g_cond_t rfl ?_ | refine g_cond_f rfl ?_)
    refine g_ret ?_
    exact at_end1 rfl rfl [] ⟨true, rfl, rfl, fun h => by cases h⟩ (fun _ h => h)
  have hml : m.l.length ≤ 40 := by have := of_decide_eq_false hq3.symm; omega
  have f1 := few_pos m.s
  have f2 := few_pos m.t
  have f3 := long_b m.l
  repeat (first | refine g_seq ?_ | refine at_code ?_ | refine g_skip ?_ | refine g_block ?_ | refine g_exit rfl ?_ | refine g_cond_t rfl ?_ | refine g_cond_f rfl ?_)
  repeat (first | refine g_seq ?_ | refine at_code ?_ | refine g_skip ?_ | refine g_block ?_ | refine g_exit rfl ?_ | refine g_cond_t rfl ?_ | refine g_cond_f rfl ?_)
  refine g_draw [5, 13, 21] [] 25 rfl ?_
  refine ga_free 0 rfl (s_move rfl) rfl rfl rfl (by kernel_rfl) ?_
  refine ga_free 1 rfl (s_move rfl) rfl rfl rfl (by kernel_rfl) ?_
  refine ga_free 2 rfl (s_move rfl) rfl rfl rfl (by kernel_rfl) ?_
  refine ga_free 3 rfl (s_indexAddr rfl (by assumption) rfl (by omega)) rfl rfl rfl (by kernel_rfl) ?_
  refine ga_free 4 rfl (by first | exact s_fieldAddr rfl (by rfl) (by infer_instance) (by decide) | exact s_fieldAddr_o rfl (by assumption) (by rfl) (by infer_instance) (by decide)) rfl rfl rfl (by kernel_rfl) ?_
  refine ga_readF 5 rfl (s_load1 (v := B m.s) rfl (fun w hw => hrd1 (j := 1) hw rfl)) (by (first | exact fun _ h => h | (repeat first | exact sub_nil | refine sub_cons (by repeat first | exact List.Mem.head _ | apply List.Mem.tail) ?_))) rfl rfl rfl (by kernel_rfl) ?_
  refine ga_free 6 rfl (s_len_str rfl) rfl rfl rfl (by kernel_rfl) ?_
  refine ga_free 9 rfl (s_move rfl) rfl rfl rfl (by kernel_rfl) ?_
  refine ga_free 10 rfl (s_move rfl) rfl rfl rfl (by kernel_rfl) ?_
  refine ga_free 11 rfl (s_indexAddr rfl (by assumption) rfl (by omega)) rfl rfl rfl (by kernel_rfl) ?_
  refine ga_free 12 rfl (by first | exact s_fieldAddr rfl (by rfl) (by infer_instance) (by decide) | exact s_fieldAddr_o rfl (by assumption) (by rfl) (by infer_instance) (by decide)) rfl rfl rfl (by kernel_rfl) ?_
  refine ga_readF 13 rfl (s_load1 (v := B m.t) rfl (fun w hw => hrd1 (j := 2) hw rfl)) (by (first | exact fun _ h => h | (repeat first | exact sub_nil | refine sub_cons (by repeat first | exact List.Mem.head _ | apply List.Mem.tail) ?_))) rfl rfl rfl (by kernel_rfl) ?_
  refine ga_free 14 rfl (s_len_str rfl) rfl rfl rfl (by kernel_rfl) ?_
  refine ga_free 17 rfl (s_move rfl) rfl rfl rfl (by kernel_rfl) ?_
  refine ga_free 18 rfl (s_move rfl) rfl rfl rfl (by kernel_rfl) ?_
  refine ga_free 19 rfl (s_indexAddr rfl (by assumption) rfl (by omega)) rfl rfl rfl (by kernel_rfl) ?_
  refine ga_free 20 rfl (by first | exact s_fieldAddr rfl (by rfl) (by infer_instance) (by decide) | exact s_fieldAddr_o rfl (by assumption) (by rfl) (by infer_instance) (by decide)) rfl rfl rfl (by kernel_rfl) ?_
  refine ga_readF 21 rfl (s_load1 (v := .slice m.la m.l.length m.lc) rfl (fun w hw => hrd1 (j := 3) hw rfl)) (by (first | exact fun _ h => h | (repeat first | exact sub_nil | refine sub_cons (by repeat first | exact List.Mem.head _ | apply List.Mem.tail) ?_))) rfl rfl rfl (by kernel_rfl) ?_
  refine ga_one 7 rfl (by kernel_rfl) ?_
  refine gl_callp rfl (few_ct _) (fun _ _ _ => trivial) rfl ?_; rw [show min ((m.s.length : Nat) : Int) 1048576 = fewZ m.s from rfl]
  refine gl_nil ?_
  refine at_ga (.inr (by exact keeps_of (by (first | exact fun _ h => h | (repeat first | exact sub_nil | refine sub_cons (by repeat first | exact List.Mem.head _ | apply List.Mem.tail) ?_))))) ?_
  refine ga_free 8 rfl (s_add_i64 rfl rfl (by omega)) rfl rfl rfl (by kernel_rfl) ?_
  refine ga_one 15 rfl (by kernel_rfl) ?_
  refine gl_callp rfl (few_ct _) (fun _ _ _ => trivial) rfl ?_; rw [show min ((m.t.length : Nat) : Int) 1048576 = fewZ m.t from rfl]
  refine gl_nil ?_
  refine at_ga (.inr (by exact keeps_of (by (first | exact fun _ h => h | (repeat first | exact sub_nil | refine sub_cons (by repeat first | exact List.Mem.head _ | apply List.Mem.tail) ?_))))) ?_
  refine ga_free 16 rfl (s_add_i64 rfl rfl (by omega)) rfl rfl rfl (by kernel_rfl) ?_
  refine ga_one 22 rfl (by kernel_rfl) ?_
  refine gl_callp rfl (long_ct m.l m.la m.lc) (fun h hh _ => hmk.rd.le hh) rfl ?_
  refine gl_nil ?_
  refine at_ga (.inr (by exact keeps_of (by (first | exact fun _ h => h | (repeat first | exact sub_nil | refine sub_cons (by repeat first | exact List.Mem.head _ | apply List.Mem.tail) ?_))))) ?_
  refine ga_free 23 rfl (s_add_i64 rfl rfl (by omega)) rfl rfl rfl (by kernel_rfl) ?_
  refine ga_free 24 rfl (s_assign rfl) rfl rfl rfl (by kernel_rfl) ?_
  refine ga_done (by kernel_rfl) ?_
  repeat (first | refine g_seq ?_ | refine at_code ?_ | refine g_skip ?_ | refine g_block ?_ | refine g_exit rfl ?_ | refine g_cond_t rfl ?_ | refine g_cond_f rfl ?_)
  repeat (first | refine g_seq ?_ | refine at_code ?_ | refine g_skip ?_ | refine g_block ?_ | refine g_exit rfl ?_ | refine g_cond_t rfl ?_ | refine g_cond_f rfl ?_)
  refine g_region ?_
  refine gl_f (s_move rfl) rfl rfl rfl ?_
  refine gl_f (s_add_i64 rfl rfl (by omega)) rfl rfl rfl ?_
  refine gl_f (s_assign rfl) rfl rfl rfl ?_
  refine gl_nil ?_
  repeat (first | refine g_seq ?_ | refine at_code ?_ | refine g_skip ?_ | refine g_block ?_ | refine g_exit rfl ?_ | refine g_cond_t rfl ?_ | refine g_cond_f rfl ?_)
  refine at_next (k + 1, n + fewZ m.s + fewZ m.t + longZ m.l) ⟨by simp only; omega, by simp only; omega, fun j hj2 => ?_⟩ (by simp only; omega) ?_ ?_
  · rcases Nat.lt_succ_iff_lt_or_eq.1 hj2 with h4 | rfl
    · exact hj j h4
    · rw [← hme]; exact hml
  · (repeat (first | exact Sub.nil _ | refine Sub.cons rfl ?_))
  · intro w hw; exact hw
/-- what an act makes of a disk -/
def actV (x : DM) (m : VA) : DM :=
  if m.kind = 1 then vpD x m.s else if m.kind = 2 then x else if m.kind = 3 then x else if m.kind = 4 then (kpX (m.l.map Dg.sha) x).1
  else if m.kind = 5 then turnD x ⟨2, bN m.s, m.t⟩ else if m.kind = 6 then fuseD x m.n else if m.kind = 7 then crashD x m.n else if m.kind = 8 then turnD x ⟨2, m.s, m.t⟩ else x
/-- how many files there may be -/
def puts (p : List Cl) : Nat := (p.filter fun c => decide (c.kind ≠ 3)).length
def szP (x : DM) : Nat := x.lasts.length + puts x.pend
theorem without_len (l : List Fl) (n : Bs) : (withoutL l n).length ≤ l.length := List.length_filter_le _ _
theorem with_len (l : List Fl) (n s : Bs) : (withL l n s).length ≤ l.length + 1 := by
  have h1 := without_len l n
  have h2 := (ins_perm (n, s) (withoutL l n)).length_eq
  rw [List.length_cons] at h2
  show (insL (n, s) (withoutL l n)).length ≤ _
  omega
theorem done_puts (l : List Fl) (c : Cl) (k : Nat) (hk : c.kind = 1 ∨ c.kind = 2 ∨ c.kind = 3) : (doneL l c k).length ≤ l.length + (if c.kind = 3 then 0 else 1) := by
  unfold doneL
  rcases hk with h | h | h
  · split
    · omega
    · rw [h]; exact with_len ..
  · split
    · omega
    · rw [h]; exact with_len ..
  · split
    · omega
    · rw [if_neg (by omega), if_neg (by omega)]; exact without_len ..
theorem replay_puts : ∀ (p : List Cl) (l : List Fl) (k : Nat), (∀ c ∈ p, c.kind = 1 ∨ c.kind = 2 ∨ c.kind = 3) → (replay l p k).length ≤ l.length + puts p
  | [], l, k, _ => by simp [replay, puts]
  | c :: p, l, k, h => by
    have h1 := done_puts l c (min (stepsC c) k) (h c (.head _))
    have h2 := replay_puts p (doneL l c (min (stepsC c) k)) (k - min (stepsC c) k) (fun d hd => h d (.tail _ hd))
    have h3 : puts (c :: p) = puts p + (if c.kind = 3 then 0 else 1) := by
      by_cases e : c.kind = 3
      · simp [puts, List.filter_cons, e]
      · simp [puts, List.filter_cons, e]
    rw [replay, h3]; omega
theorem sz_seen {x : DM} (hI : Inv x) : x.seen.length ≤ szP x := by
  have h1 := hI.at_ (countD x) (Nat.le_refl _)
  have h2 := replay_puts x.pend x.lasts (countD x) (fun c hc => (hI.pend c hc).kind)
  rw [h1] at h2
  exact h2
theorem sz_spend (x : DM) : szP (spendD x) = szP x := by
  obtain ⟨_, e2, e3, _⟩ := spend_seen x
  rw [szP, szP, e2, e3]
theorem puts_snoc (p : List Cl) (c : Cl) : puts (p ++ [c]) = puts p + (if c.kind = 3 then 0 else 1) := by
  by_cases e : c.kind = 3
  · simp [puts, List.filter_append, List.filter_cons, e]
  · simp [puts, List.filter_append, List.filter_cons, e]
theorem sz_turn (x : DM) (c : Cl) : szP (turnD x c) ≤ szP x + (if c.kind = 3 then 0 else 1) := by
  unfold turnD
  split
  · unfold turnX
    rw [sz_spend, szP, szP]
    show x.lasts.length + puts (x.pend ++ [c]) ≤ _
    rw [puts_snoc]; omega
  · omega
theorem sz_sync {x : DM} (hI : Inv x) : szP (syncD x) ≤ szP x := by
  unfold syncD
  split
  · exact Nat.le_refl _
  · rw [sz_spend]
    have := sz_seen hI
    show x.seen.length + puts [] ≤ _
    simp [puts]; exact this
theorem sz_put {x : DM} (hI : Inv x) (b : Bs) : szP (vpD x b) ≤ szP x + 1 := by
  unfold vpD
  split
  · omega
  · split
    · omega
    · split
      · have h1 := sz_turn x (vpC b)
        rw [if_neg (show ¬ (vpC b).kind = 3 from (by decide : ¬ (2 : Int) = 3))] at h1
        exact Nat.le_trans (sz_sync (turn_inv hI (.inr (.inl rfl)))) h1
      · omega
theorem sz_crash {x : DM} (hI : Inv x) (k : Int) : szP (crashD x k) ≤ szP x := by
  unfold crashD
  split
  · exact Nat.le_refl _
  · have := replay_puts x.pend x.lasts k.toNat (fun c hc => (hI.pend c hc).kind)
    show (replay x.lasts x.pend k.toNat).length + puts [] ≤ _
    simp [puts]; exact this
theorem sz_kp (ds : List Bs) : ∀ (l : List Bs) (x : DM) (n : Nat), Inv x → szP (kpG ds x l n).1 ≤ szP x
  | [], x, n, h => by
    rw [kpG]; split
    · exact Nat.le_refl _
    · exact sz_sync h
  | s :: r, x, n, h => by
    rw [kpG]; split
    · exact sz_kp ds r x n h
    · split
      · exact Nat.le_refl _
      · have h1 := sz_turn x (dC s)
        rw [if_pos (show (dC s).kind = 3 from rfl)] at h1
        exact Nat.le_trans (sz_kp ds r _ _ (turn_inv h (dC_k s))) h1
theorem wf_kp2 (ds : List Bs) : ∀ (l : List Bs) (x : DM) (n m : Nat), Wf x m → Wf (kpG ds x l n).1 (m + l.length)
  | [], x, n, m, h => by
    rw [kpG]; split
    · exact h
    · exact wf_sync h
  | s :: r, x, n, m, h => by
    rw [kpG]; split
    · exact (wf_kp2 ds r x n m h).mono (by rw [List.length_cons]; omega)
    · split
      · exact h.mono (by rw [List.length_cons]; omega)
      · exact (wf_kp2 ds r _ _ _ (wf_turn h (dC_k s))).mono (by rw [List.length_cons]; omega)
theorem wf_actV {x : DM} {i : Nat} (h : Wf x (41 * i)) (hs : szP x ≤ i) (hi : i ≤ 40) {m : VA} (hn : -9223372036854775808 ≤ m.n ∧ m.n ≤ 9223372036854775807) : Wf (actV x m) (41 * (i + 1)) ∧ szP (actV x m) ≤ i + 1 := by
  have h0 : Wf x (41 * (i + 1)) := h.mono (by omega)
  have h1 := sz_seen h.inv
  have h2 := all_len x.seen
  unfold actV
  repeat' split
  · exact ⟨(wf_vp h m.s).mono (by omega), Nat.le_trans (sz_put h.inv m.s) (by omega)⟩
  · exact ⟨h0, by omega⟩
  · exact ⟨h0, by omega⟩
  · exact ⟨(wf_kp2 _ _ x 0 _ h).mono (by omega), Nat.le_trans (sz_kp _ _ x 0 h.inv) (by omega)⟩
  · have h3 := sz_turn x ⟨2, bN m.s, m.t⟩
    exact ⟨(wf_turn h (.inr (.inl rfl))).mono (by omega), Nat.le_trans h3 (by simp; omega)⟩
  · exact ⟨(wf_fuse h hn).mono (by omega), by show szP x ≤ _; omega⟩
  · exact ⟨(wf_crash h _).mono (by omega), Nat.le_trans (sz_crash h.inv _) (by omega)⟩
  · have h3 := sz_turn x ⟨2, m.s, m.t⟩
    exact ⟨(wf_turn h (.inr (.inl rfl))).mono (by omega), Nat.le_trans h3 (by simp; omega)⟩
  · exact ⟨h0, by omega⟩
end Go.Proofs.Ytolgclfbllcjhaa.Vt
