/- The law VaultKept. -/
import Derived.Test.YtolgclfbllcjhaaLV11
import Derived.Test.YtolgclfbllcjhaaLD18
namespace Go.Proofs.Ytolgclfbllcjhaa.Vt
open Go Go.Sl
set_option linter.unusedVariables false
set_option linter.unusedSimpArgs false

theorem wf_kp (ds : List Bs) : ∀ (l : List Bs) (x : DM) (n m : Nat), Wf x m → Wf (kpG ds x l n).1 (m + l.length)
  | [], x, n, m, h => by
    rw [kpG]; split
    · exact h
    · exact wf_sync h
  | s :: r, x, n, m, h => by
    rw [kpG]; split
    · exact (wf_kp ds r x n m h).mono (by rw [List.length_cons]; omega)
    · split
      · exact h.mono (by rw [List.length_cons]; omega)
      · exact (wf_kp ds r _ _ _ (wf_turn h (dC_k s))).mono (by rw [List.length_cons]; omega)
abbrev kcO (c0 c1 : Int) : Obj := .cells #[.int .i64 c0, .int .i64 c1] 78
structure KT (bodies : List Bs) (a0 : DA) (i : Nat) (x : DM) (a : DA) (kept : List Bs) : Prop where
  le : i ≤ bodies.length
  ka : KA1 262144 kept x
  wf : Wf x i
  ok : DOk x a
  D : a.D = a0.D
  sub : ∀ b ∈ kept, b ∈ bodies
  sum : sumL kept ≤ sumL (bodies.take i)
  len : kept.length ≤ i
structure KU (F : Snap) (a0 : DA) (kept more : List Bs) (n : Nat) (i : Nat) (F' : Snap) (x : DM) (a : DA) : Prop where
  le : i ≤ more.length
  F : F.le F'
  ki : KI2 kept x
  wf : Wf x (n + i)
  ok : DOk x a
  D : a.D = a0.D
  pc : ∀ p ∈ a.pl, PcOk F'.heap p
theorem perm_k3 {α : Type} (R D Z : List α) : ((D ++ Z) ++ R).Perm ((R ++ D) ++ Z) := by
  rw [List.append_assoc R]; exact List.perm_append_comm
set_option maxRecDepth 16000 in
set_option maxHeartbeats 8000000 in
theorem VaultKept_ct (bodies more : List Bs) (ba ma : Option Addr) (bc mc : Nat) (c0 c1 : Int) (hb1 : bodies.length ≤ 140737488355328) (hk1 : more.length ≤ 140737488355328) :
    Pu Try.prog 11 [.slice ba bodies.length bc, .slice ma more.length mc, .agg #[.int .i64 c0, .int .i64 c1]] (fun h => RdS h ba (stV bodies) ∧ RdS h ma (stV more)) (.bool true) := by
  refine ct_enter 150 Try.func11 rfl rfl rfl ?_
  intro F hF
  have hrb := hF.1
  have hrm := hF.2
  obtain ⟨q1, hq1⟩ : ∃ q, q = decide ((32768 : Int) < longZ bodies) := ⟨_, rfl⟩
  obtain ⟨q2, hq2⟩ : ∃ q, q = decide ((32768 : Int) < longZ more) := ⟨_, rfl⟩
  obtain ⟨q3, hq3⟩ : ∃ q, q = clashB (bodies ++ more) := ⟨_, rfl⟩
  repeat (first | refine g_seq ?_ | refine at_code ?_ | refine g_skip ?_ | refine g_block ?_ | refine g_exit rfl ?_ | refine g_cond_t rfl ?_ | refine g_cond_f rfl ?_)
  refine g_region ?_
  refine gl_boxA rfl rfl ?_; intro g5
  refine gl_f (s_assign rfl) rfl rfl rfl ?_
  refine gl_nil ?_
  repeat (first | refine g_seq ?_ | refine at_code ?_ | refine g_skip ?_ | refine g_block ?_ | refine g_exit rfl ?_ | refine g_cond_t rfl ?_ | refine g_cond_f rfl ?_)
  refine g_region ?_
  refine gl_callp rfl alive_ct (fun _ _ _ => trivial) rfl ?_
  refine gl_f (s_not rfl) rfl rfl rfl ?_
  refine gl_nil ?_
  repeat (first | refine g_seq ?_ | refine at_code ?_ | refine g_skip ?_ | refine g_block ?_ | refine g_exit rfl ?_ | refine g_cond_t rfl ?_ | refine g_cond_f rfl ?_)
  cases q1
  rotate_left
  · repeat (first | refine g_seq ?_ | refine at_code ?_ | refine g_skip ?_ | refine g_block ?_ | refine g_exit rfl ?_ | refine g_cond_t rfl ?_ | refine g_cond_f rfl ?_)
    refine g_region ?_
    refine gl_f (s_move rfl) rfl rfl rfl ?_
    refine gl_callp rfl (long_ct bodies ba bc) (fun h hh _ => hrb.le hh) rfl ?_
    refine gl_f ((s_gtr rfl rfl).eq (congrArg Value.bool hq1.symm)) rfl rfl rfl ?_
    refine gl_f (s_move rfl) rfl rfl rfl ?_
    (first | refine gl_guard_no rfl rfl rfl rfl rfl rfl rfl ?_ | refine gl_guard_un rfl rfl rfl rfl rfl rfl ?_ | (refine gl_guard_yes rfl rfl rfl ?_; refine gl_f (s_move rfl) rfl rfl rfl ?_))
    (first | refine gl_guard_no rfl rfl rfl rfl rfl rfl rfl ?_ | refine gl_guard_un rfl rfl rfl rfl rfl rfl ?_ | (refine gl_guard_yes rfl rfl rfl ?_; fail))
    (first | refine gl_guard_no rfl rfl rfl rfl rfl rfl rfl ?_ | refine gl_guard_un rfl rfl rfl rfl rfl rfl ?_ | (refine gl_guard_yes rfl rfl rfl ?_; refine gl_f (s_gtr rfl rfl) rfl rfl rfl ?_))
    refine gl_f (by first | exact s_pick_t rfl rfl | exact s_pick_f rfl rfl) rfl rfl rfl ?_
    refine gl_f (s_move rfl) rfl rfl rfl ?_
    (first | refine gl_guard_no rfl rfl rfl rfl rfl rfl rfl ?_ | refine gl_guard_un rfl rfl rfl rfl rfl rfl ?_ | (refine gl_guard_yes rfl rfl rfl ?_; refine gl_buildSlice0 rfl ?_; intro a29))
    (first | refine gl_guard_no rfl rfl rfl rfl rfl rfl rfl ?_ | refine gl_guard_un rfl rfl rfl rfl rfl rfl ?_ | (refine gl_guard_yes rfl rfl rfl ?_; refine gl_f (s_move rfl) rfl rfl rfl ?_))
    (first | refine gl_guard_no rfl rfl rfl rfl rfl rfl rfl ?_ | refine gl_guard_un rfl rfl rfl rfl rfl rfl ?_ | (refine gl_guard_yes rfl rfl rfl ?_; fail))
    (first | refine gl_guard_no rfl rfl rfl rfl rfl rfl rfl ?_ | refine gl_guard_un rfl rfl rfl rfl rfl rfl ?_ | (refine gl_guard_yes rfl rfl rfl ?_; refine gl_f (s_move rfl) rfl rfl rfl ?_))
    (first | refine gl_guard_no rfl rfl rfl rfl rfl rfl rfl ?_ | refine gl_guard_un rfl rfl rfl rfl rfl rfl ?_ | (refine gl_guard_yes rfl rfl rfl ?_; fail))
    (first | refine gl_guard_no rfl rfl rfl rfl rfl rfl rfl ?_ | refine gl_guard_un rfl rfl rfl rfl rfl rfl ?_ | (refine gl_guard_yes rfl rfl rfl ?_; fail))
    refine gl_f (by first | exact s_pick_t rfl rfl | exact s_pick_f rfl rfl) rfl rfl rfl ?_
    refine gl_nil ?_
    repeat (first | refine g_seq ?_ | refine at_code ?_ | refine g_skip ?_ | refine g_block ?_ | refine g_exit rfl ?_ | refine g_cond_t rfl ?_ | refine g_cond_f rfl ?_)
    repeat (first | refine g_seq ?_ | refine at_code ?_ | refine g_skip ?_ | refine g_block ?_ | refine g_exit rfl ?_ | refine g_cond_t rfl ?_ | refine g_cond_f rfl ?_)
    refine g_region ?_
    refine gl_f (s_assign rfl) rfl rfl rfl ?_
    refine gl_nil ?_
    repeat (first | refine g_seq ?_ | refine at_code ?_ | refine g_skip ?_ | refine g_block ?_ | refine g_exit rfl ?_ | refine g_cond_t rfl ?_ | refine g_cond_f rfl ?_)
    refine g_ret ?_
    exact at_end1 rfl rfl [] ⟨rfl, rfl⟩ (fun _ h => h.dropAll)
  cases q2
  rotate_left
  · repeat (first | refine g_seq ?_ | refine at_code ?_ | refine g_skip ?_ | refine g_block ?_ | refine g_exit rfl ?_ | refine g_cond_t rfl ?_ | refine g_cond_f rfl ?_)
    refine g_region ?_
    refine gl_f (s_move rfl) rfl rfl rfl ?_
    refine gl_callp rfl (long_ct bodies ba bc) (fun h hh _ => hrb.le hh) rfl ?_
    refine gl_f ((s_gtr rfl rfl).eq (congrArg Value.bool hq1.symm)) rfl rfl rfl ?_
    refine gl_f (s_move rfl) rfl rfl rfl ?_
    (first | refine gl_guard_no rfl rfl rfl rfl rfl rfl rfl ?_ | refine gl_guard_un rfl rfl rfl rfl rfl rfl ?_ | (refine gl_guard_yes rfl rfl rfl ?_; refine gl_f (s_move rfl) rfl rfl rfl ?_))
    (first | refine gl_guard_no rfl rfl rfl rfl rfl rfl rfl ?_ | refine gl_guard_un rfl rfl rfl rfl rfl rfl ?_ | (refine gl_guard_yes rfl rfl rfl ?_; refine gl_callp rfl (long_ct more ma mc) (fun h hh _ => hrm.le hh) rfl ?_))
    (first | refine gl_guard_no rfl rfl rfl rfl rfl rfl rfl ?_ | refine gl_guard_un rfl rfl rfl rfl rfl rfl ?_ | (refine gl_guard_yes rfl rfl rfl ?_; refine gl_f ((s_gtr rfl rfl).eq (congrArg Value.bool hq2.symm)) rfl rfl rfl ?_))
    refine gl_f (by first | exact s_pick_t rfl rfl | exact s_pick_f rfl rfl) rfl rfl rfl ?_
    refine gl_f (s_move rfl) rfl rfl rfl ?_
    (first | refine gl_guard_no rfl rfl rfl rfl rfl rfl rfl ?_ | refine gl_guard_un rfl rfl rfl rfl rfl rfl ?_ | (refine gl_guard_yes rfl rfl rfl ?_; refine gl_buildSlice0 rfl ?_; intro a29))
    (first | refine gl_guard_no rfl rfl rfl rfl rfl rfl rfl ?_ | refine gl_guard_un rfl rfl rfl rfl rfl rfl ?_ | (refine gl_guard_yes rfl rfl rfl ?_; refine gl_f (s_move rfl) rfl rfl rfl ?_))
    (first | refine gl_guard_no rfl rfl rfl rfl rfl rfl rfl ?_ | refine gl_guard_un rfl rfl rfl rfl rfl rfl ?_ | (refine gl_guard_yes rfl rfl rfl ?_; fail))
    (first | refine gl_guard_no rfl rfl rfl rfl rfl rfl rfl ?_ | refine gl_guard_un rfl rfl rfl rfl rfl rfl ?_ | (refine gl_guard_yes rfl rfl rfl ?_; refine gl_f (s_move rfl) rfl rfl rfl ?_))
    (first | refine gl_guard_no rfl rfl rfl rfl rfl rfl rfl ?_ | refine gl_guard_un rfl rfl rfl rfl rfl rfl ?_ | (refine gl_guard_yes rfl rfl rfl ?_; fail))
    (first | refine gl_guard_no rfl rfl rfl rfl rfl rfl rfl ?_ | refine gl_guard_un rfl rfl rfl rfl rfl rfl ?_ | (refine gl_guard_yes rfl rfl rfl ?_; fail))
    refine gl_f (by first | exact s_pick_t rfl rfl | exact s_pick_f rfl rfl) rfl rfl rfl ?_
    refine gl_nil ?_
    repeat (first | refine g_seq ?_ | refine at_code ?_ | refine g_skip ?_ | refine g_block ?_ | refine g_exit rfl ?_ | refine g_cond_t rfl ?_ | refine g_cond_f rfl ?_)
    repeat (first | refine g_seq ?_ | refine at_code ?_ | refine g_skip ?_ | refine g_block ?_ | refine g_exit rfl ?_ | refine g_cond_t rfl ?_ | refine g_cond_f rfl ?_)
    refine g_region ?_
    refine gl_f (s_assign rfl) rfl rfl rfl ?_
    refine gl_nil ?_
    repeat (first | refine g_seq ?_ | refine at_code ?_ | refine g_skip ?_ | refine g_block ?_ | refine g_exit rfl ?_ | refine g_cond_t rfl ?_ | refine g_cond_f rfl ?_)
    refine g_ret ?_
    exact at_end1 rfl rfl [] ⟨rfl, rfl⟩ (fun _ h => h.dropAll)
  obtain ⟨lb1, lb2, lb3⟩ := long_le (l := bodies) (by have := of_decide_eq_false hq1.symm; omega)
  obtain ⟨lk1, lk2, lk3⟩ := long_le (l := more) (by have := of_decide_eq_false hq2.symm; omega)
  repeat (first | refine g_seq ?_ | refine at_code ?_ | refine g_skip ?_ | refine g_block ?_ | refine g_exit rfl ?_ | refine g_cond_t rfl ?_ | refine g_cond_f rfl ?_)
  refine g_region ?_
  refine gl_f (s_move rfl) rfl rfl rfl ?_
  refine gl_callp rfl (long_ct bodies ba bc) (fun h hh _ => hrb.le hh) rfl ?_
  refine gl_f ((s_gtr rfl rfl).eq (congrArg Value.bool hq1.symm)) rfl rfl rfl ?_
  refine gl_f (s_move rfl) rfl rfl rfl ?_
  (first | refine gl_guard_no rfl rfl rfl rfl rfl rfl rfl ?_ | refine gl_guard_un rfl rfl rfl rfl rfl rfl ?_ | (refine gl_guard_yes rfl rfl rfl ?_; refine gl_f (s_move rfl) rfl rfl rfl ?_))
  (first | refine gl_guard_no rfl rfl rfl rfl rfl rfl rfl ?_ | refine gl_guard_un rfl rfl rfl rfl rfl rfl ?_ | (refine gl_guard_yes rfl rfl rfl ?_; refine gl_callp rfl (long_ct more ma mc) (fun h hh _ => hrm.le hh) rfl ?_))
  (first | refine gl_guard_no rfl rfl rfl rfl rfl rfl rfl ?_ | refine gl_guard_un rfl rfl rfl rfl rfl rfl ?_ | (refine gl_guard_yes rfl rfl rfl ?_; refine gl_f ((s_gtr rfl rfl).eq (congrArg Value.bool hq2.symm)) rfl rfl rfl ?_))
  refine gl_f (by first | exact s_pick_t rfl rfl | exact s_pick_f rfl rfl) rfl rfl rfl ?_
  refine gl_f (s_move rfl) rfl rfl rfl ?_
  (first | refine gl_guard_no rfl rfl rfl rfl rfl rfl rfl ?_ | refine gl_guard_un rfl rfl rfl rfl rfl rfl ?_ | (refine gl_guard_yes rfl rfl rfl ?_; refine gl_buildSlice0 rfl ?_; intro a29))
  (first | refine gl_guard_no rfl rfl rfl rfl rfl rfl rfl ?_ | refine gl_guard_un rfl rfl rfl rfl rfl rfl ?_ | (refine gl_guard_yes rfl rfl rfl ?_; refine gl_f (s_move rfl) rfl rfl rfl ?_))
  (first | refine gl_guard_no rfl rfl rfl rfl rfl rfl rfl ?_ | refine gl_guard_un rfl rfl rfl rfl rfl rfl ?_ | (refine gl_guard_yes rfl rfl rfl ?_; refine gl_append rfl rfl (fun a' c' => .here) (fun w hw => hrb.le hw.keep) (stV_len _) rfl rfl (stV_one _) (by show (_ + _) * 16 ≤ _; omega) (by omega) rfl ?_; intro a39 c39 hc39; rw [Nat.zero_add, List.nil_append]))
  (first | refine gl_guard_no rfl rfl rfl rfl rfl rfl rfl ?_ | refine gl_guard_un rfl rfl rfl rfl rfl rfl ?_ | (refine gl_guard_yes rfl rfl rfl ?_; refine gl_f (s_move rfl) rfl rfl rfl ?_))
  (first | refine gl_guard_no rfl rfl rfl rfl rfl rfl rfl ?_ | refine gl_guard_un rfl rfl rfl rfl rfl rfl ?_ | (refine gl_guard_yes rfl rfl rfl ?_; refine gl_append rfl rfl (fun a' c' => .here) (fun w hw => hrm.le hw.keep) (stV_len _) rfl rfl (stV_one _) (by show (_ + _) * 16 ≤ _; omega) (by omega) rfl ?_; intro a41 c41 hc41; rw [← List.length_append, ← stV_append]))
  (first | refine gl_guard_no rfl rfl rfl rfl rfl rfl rfl ?_ | refine gl_guard_un rfl rfl rfl rfl rfl rfl ?_ | (refine gl_guard_yes rfl rfl rfl ?_; refine gl_callp rfl (clash_ct (bodies ++ more) a41 c41 (by rw [List.length_append]; omega) (fun s hs => by rcases List.mem_append.1 hs with h | h; have := lb3 s h; omega; have := lk3 s h; omega)) (fun h hh ⟨bs, hb⟩ => Sat.rd (a := a41) hb (by repeat first|exact .del|apply Upd.there)) rfl ?_; rw [← hq3]))
  refine gl_f (by first | exact s_pick_t rfl rfl | exact s_pick_f rfl rfl) rfl rfl rfl ?_
  refine gl_nil ?_
  repeat (first | refine g_seq ?_ | refine at_code ?_ | refine g_skip ?_ | refine g_block ?_ | refine g_exit rfl ?_ | refine g_cond_t rfl ?_ | refine g_cond_f rfl ?_)
  refine g_pull (H' := [.blk g5 (kcO c0 c1)]) (fun w hw => hw.drop) ?_
  cases q3
  rotate_left
  · repeat (first | refine g_seq ?_ | refine at_code ?_ | refine g_skip ?_ | refine g_block ?_ | refine g_exit rfl ?_ | refine g_cond_t rfl ?_ | refine g_cond_f rfl ?_)
    repeat (first | refine g_seq ?_ | refine at_code ?_ | refine g_skip ?_ | refine g_block ?_ | refine g_exit rfl ?_ | refine g_cond_t rfl ?_ | refine g_cond_f rfl ?_)
    refine g_region ?_
    refine gl_f (s_assign rfl) rfl rfl rfl ?_
    refine gl_nil ?_
    repeat (first | refine g_seq ?_ | refine at_code ?_ | refine g_skip ?_ | refine g_block ?_ | refine g_exit rfl ?_ | refine g_cond_t rfl ?_ | refine g_cond_f rfl ?_)
    refine g_ret ?_
    exact at_end1 rfl rfl [] ⟨rfl, rfl⟩ (fun _ h => h.dropAll)
  have hnc : ¬ Clash (bodies ++ more) := clash_false hq3.symm
  repeat (first | refine g_seq ?_ | refine at_code ?_ | refine g_skip ?_ | refine g_block ?_ | refine g_exit rfl ?_ | refine g_cond_t rfl ?_ | refine g_cond_f rfl ?_)
  repeat (first | refine g_seq ?_ | refine at_code ?_ | refine g_skip ?_ | refine g_block ?_ | refine g_exit rfl ?_ | refine g_cond_t rfl ?_ | refine g_cond_f rfl ?_)
  refine g_region ?_
  refine gl_call _ rfl (New_ct 262144) (fun w hw => hw) (fun _ _ _ => trivial) rfl ?_; intro v A h; obtain ⟨a0, hp0, rfl, rfl, hok0⟩ := h.good rfl
  refine gl_f (s_move rfl) rfl rfl rfl ?_
  refine gl_f (s_extract rfl rfl) rfl rfl rfl ?_
  refine gl_f (s_extract rfl rfl) rfl rfl rfl ?_
  refine gl_f (s_assign rfl) rfl rfl rfl ?_
  refine gl_f (s_assign rfl) rfl rfl rfl ?_
  refine gl_nil ?_
  repeat (first | refine g_seq ?_ | refine at_code ?_ | refine g_skip ?_ | refine g_block ?_ | refine g_exit rfl ?_ | refine g_cond_t rfl ?_ | refine g_cond_f rfl ?_)
  repeat (first | refine g_seq ?_ | refine at_code ?_ | refine g_skip ?_ | refine g_block ?_ | refine g_exit rfl ?_ | refine g_cond_t rfl ?_ | refine g_cond_f rfl ?_)
  refine g_region ?_
  refine gl_f (s_move rfl) rfl rfl rfl ?_
  refine gl_call _ rfl (Open_ct a0) (fun w hw => hw) (fun _ _ _ => trivial) rfl ?_; rintro v A ⟨V, rfl, rfl⟩
  refine gl_f (s_assign rfl) rfl rfl rfl ?_
  refine gl_nil ?_
  repeat (first | refine g_seq ?_ | refine at_code ?_ | refine g_skip ?_ | refine g_block ?_ | refine g_exit rfl ?_ | refine g_cond_t rfl ?_ | refine g_cond_f rfl ?_)
  have w0 : Wf (newD 262144) 0 := wf_new (by decide)
  repeat (first | refine g_seq ?_ | refine at_code ?_ | refine g_skip ?_ | refine g_block ?_ | refine g_exit rfl ?_ | refine g_cond_t rfl ?_ | refine g_cond_f rfl ?_)
  refine g_region ?_
  refine gl_f (s_assign rfl) rfl rfl rfl ?_
  refine gl_nil ?_
  repeat (first | refine g_seq ?_ | refine at_code ?_ | refine g_skip ?_ | refine g_block ?_ | refine g_exit rfl ?_ | refine g_cond_t rfl ?_ | refine g_cond_f rfl ?_)
  refine g_region ?_
  refine gl_f (s_assign rfl) rfl rfl rfl ?_
  refine gl_nil ?_
  repeat (first | refine g_seq ?_ | refine at_code ?_ | refine g_skip ?_ | refine g_block ?_ | refine g_exit rfl ?_ | refine g_cond_t rfl ?_ | refine g_cond_f rfl ?_)
  refine g_own_nil 9 1 ?_
  refine g_loop (ι := Nat × DM × DA × List Bs × Option Addr × Nat) (fun i => KT bodies a0 i.1 i.2.1 i.2.2.1 i.2.2.2.1) (fun i => [(0, .slice ba bodies.length bc), (1, .slice ma more.length mc), (5, Ptr g5), (7, Ptr a0.D), (9, Ptr V), (10, .slice i.2.2.2.2.1 i.2.2.2.1.length i.2.2.2.2.2), (11, .int .i64 (i.1 : Nat))]) (fun i => OwnB i.2.2.2.2.1 i.2.2.2.1 i.2.2.2.2.2 :: .blk V (VO a0) :: .blk g5 (kcO c0 c1) :: dskH i.2.1 i.2.2.1) (fun i => bodies.length - i.1) (0, newD 262144, a0, [], none, 0) ⟨Nat.zero_le _, ⟨on_new _, rfl, rfl, fun b hb => (by cases hb), Nat.le_refl _⟩, w0, hok0, rfl, fun b hb => (by cases hb), Nat.le_refl _, Nat.le_refl _⟩ ?_ ?_ ?_
  · (repeat (first | exact Sub.nil _ | refine Sub.cons rfl ?_))
  · intro w hw; exact hw.perm (perm_up (by repeat first|exact .del|apply Upd.there) (perm_up (by repeat first|exact .del|apply Upd.there) (perm_up (by repeat first|exact .del|apply Upd.there) (.refl _))))
  rintro ⟨i, x, a, kept, kb, kc⟩ hK
  have hi := hK.le
  have hka := hK.ka
  have hwf := hK.wf
  have hok := hK.ok
  have hD := hK.D
  have hsub := hK.sub
  have hsum := hK.sum
  have hlen := hK.len
  simp only at hi hka hwf hok hD hsub hsum hlen
  have hV : VO a0 = VO a := by rw [VO, VO, hD]
  have hkl : (((i, x, a, kept, kb, kc) : Nat × DM × DA × List Bs × Option Addr × Nat).2.2.2.1).length ≤ 1000000 := by simp only; omega
  repeat (first | refine g_seq ?_ | refine at_code ?_ | refine g_skip ?_ | refine g_block ?_ | refine g_exit rfl ?_ | refine g_cond_t rfl ?_ | refine g_cond_f rfl ?_)
  refine g_region ?_
  refine gl_f (s_move rfl) rfl rfl rfl ?_
  refine gl_f (s_move rfl) rfl rfl rfl ?_
  refine gl_f (s_len_sl rfl) rfl rfl rfl ?_
  refine gl_f (s_lss rfl rfl) rfl rfl rfl ?_
  refine gl_nil ?_
  repeat (first | refine g_seq ?_ | refine at_code ?_ | refine g_skip ?_ | refine g_block ?_ | refine g_exit rfl ?_ | refine g_cond_t rfl ?_ | refine g_cond_f rfl ?_)
  refine g_cond rfl (fun h => ?_) (fun h => ?_)
  · have hil : i < bodies.length := by simp at h; omega
    have hsome := rdT_some hrb hil
    obtain ⟨ht1, ht2⟩ := sum_take hil
    obtain ⟨s, hse⟩ : ∃ s, s = bodies.getD i [] := ⟨_, rfl⟩
    have hsm : s ∈ bodies := by rw [hse]; exact getD_mem hil
    have hsl := lb3 s hsm
    have hri : ∀ {w : World} {H : List As}, Hp F w H → PeekC (hp w) (addO ba (((i : Nat) : Int).toNat * 1)) [B s] := fun hw => by rw [hse]; exact rdT hw hrb (i := i) (by omega) hil
    rw [← hse] at ht1 ht2
    have hsum' : sumL (bodies.take (i + 1)) = sumL (bodies.take i) + s.length := by rw [ht1]; simp [sumL]
    obtain ⟨q4, hq4⟩ : ∃ q, q = decide ((4096 : Int) < (s.length : Nat)) := ⟨_, rfl⟩
    repeat (first | refine g_seq ?_ | refine at_code ?_ | refine g_skip ?_ | refine g_block ?_ | refine g_exit rfl ?_ | refine g_cond_t rfl ?_ | refine g_cond_f rfl ?_)
    cases q4
    rotate_left
    · have hlong : 4096 < s.length := by have := of_decide_eq_true hq4.symm; omega
      have p1 : vpE x s = 2 := by rw [vpE, if_pos hlong]
      have p2 : vpS x s = [] := by rw [vpS, p1, if_neg (by decide)]
      have p3 : vpD x s = x := by rw [vpD, if_pos hlong]
      repeat (first | refine g_seq ?_ | refine at_code ?_ | refine g_skip ?_ | refine g_block ?_ | refine g_exit rfl ?_ | refine g_cond_t rfl ?_ | refine g_cond_f rfl ?_)
      refine g_region ?_
      refine gl_f (s_move rfl) rfl rfl rfl ?_
      refine gl_f (s_move rfl) rfl rfl rfl ?_
      refine gl_f (s_move rfl) rfl rfl rfl ?_
      refine gl_f (s_indexAddr rfl (by assumption) rfl (by omega)) rfl rfl rfl ?_
      refine gl_r (s_load1 (v := B s) rfl (fun w hw => hri hw)) rfl rfl rfl ?_
      refine gl_call [OwnB kb kept kc, .blk V (VO a0), .blk g5 (kcO c0 c1)] rfl (Put_ct x a V s i hwf (by omega) hok (by omega)) (fun w hw => hw.perm (perm_up (by repeat first|exact .del|apply Upd.there) (perm_up (by repeat first|exact .del|apply Upd.there) (perm_up (by repeat first|exact .del|apply Upd.there) (perm_up (by repeat first|exact .del|apply Upd.there) (.refl _)))))) (fun h hh ⟨bs, hb⟩ => by rw [← hV]; exact Sat.blk hb (by repeat first|exact .del|apply Upd.there)) rfl ?_; rw [p1, p2, p3]; rintro v A ⟨rfl, a2, Z2, d2, rfl, hok2, _⟩; refine gl_pull (H' := OwnB kb kept kc :: .blk V (VO a0) :: .blk g5 (kcO c0 c1) :: dskH x a2) (fun w hw => Hp.left (A := OwnB kb kept kc :: .blk V (VO a0) :: .blk g5 (kcO c0 c1) :: dskH x a2) (R := Z2) (hw.perm (perm_k3 ..))) ?_
      refine gl_f (s_move rfl) rfl rfl rfl ?_
      refine gl_f (s_extract rfl rfl) rfl rfl rfl ?_
      refine gl_f (s_extract rfl rfl) rfl rfl rfl ?_
      refine gl_f (s_assign rfl) rfl rfl rfl ?_
      refine gl_f (s_assign rfl) rfl rfl rfl ?_
      refine gl_nil ?_
      repeat (first | refine g_seq ?_ | refine at_code ?_ | refine g_skip ?_ | refine g_block ?_ | refine g_exit rfl ?_ | refine g_cond_t rfl ?_ | refine g_cond_f rfl ?_)
      repeat (first | refine g_seq ?_ | refine at_code ?_ | refine g_skip ?_ | refine g_block ?_ | refine g_exit rfl ?_ | refine g_cond_t rfl ?_ | refine g_cond_f rfl ?_)
      refine g_region ?_
      refine gl_f (s_move rfl) rfl rfl rfl ?_
      refine gl_f (s_move rfl) rfl rfl rfl ?_
      refine gl_f (s_indexAddr rfl (by assumption) rfl (by omega)) rfl rfl rfl ?_
      refine gl_r (s_load1 (v := B s) rfl (fun w hw => hri hw)) rfl rfl rfl ?_
      refine gl_f (s_len_str rfl) rfl rfl rfl ?_
      refine gl_f ((s_gtr rfl rfl).eq (congrArg Value.bool hq4.symm)) rfl rfl rfl ?_
      refine gl_nil ?_
      repeat (first | refine g_seq ?_ | refine at_code ?_ | refine g_skip ?_ | refine g_block ?_ | refine g_exit rfl ?_ | refine g_cond_t rfl ?_ | refine g_cond_f rfl ?_)
      repeat (first | refine g_seq ?_ | refine at_code ?_ | refine g_skip ?_ | refine g_block ?_ | refine g_exit rfl ?_ | refine g_cond_t rfl ?_ | refine g_cond_f rfl ?_)
      refine g_region ?_
      refine gl_f (s_move rfl) rfl rfl rfl ?_
      refine gl_f ((s_neq rfl rfl).eq (v' := .bool false) rfl) rfl rfl rfl ?_
      refine gl_f (s_move rfl) rfl rfl rfl ?_
      (first | refine gl_guard_no rfl rfl rfl rfl rfl rfl rfl ?_ | refine gl_guard_un rfl rfl rfl rfl rfl rfl ?_ | (refine gl_guard_yes rfl rfl rfl ?_; refine gl_f (s_move rfl) rfl rfl rfl ?_))
      (first | refine gl_guard_no rfl rfl rfl rfl rfl rfl rfl ?_ | refine gl_guard_un rfl rfl rfl rfl rfl rfl ?_ | (refine gl_guard_yes rfl rfl rfl ?_; refine gl_f ((s_neq_str (l := []) (l' := []) rfl rfl).eq (v' := .bool false) (by simp)) rfl rfl rfl ?_))
      refine gl_f (by first | exact s_pick_t rfl rfl | exact s_pick_f rfl rfl) rfl rfl rfl ?_
      refine gl_nil ?_
      repeat (first | refine g_seq ?_ | refine at_code ?_ | refine g_skip ?_ | refine g_block ?_ | refine g_exit rfl ?_ | refine g_cond_t rfl ?_ | refine g_cond_f rfl ?_)
      repeat (first | refine g_seq ?_ | refine at_code ?_ | refine g_skip ?_ | refine g_block ?_ | refine g_exit rfl ?_ | refine g_cond_t rfl ?_ | refine g_cond_f rfl ?_)
      refine g_region ?_
      refine gl_f (s_move rfl) rfl rfl rfl ?_
      refine gl_f (s_add_i64 rfl rfl (by omega)) rfl rfl rfl ?_
      refine gl_f (s_assign rfl) rfl rfl rfl ?_
      refine gl_nil ?_
      repeat (first | refine g_seq ?_ | refine at_code ?_ | refine g_skip ?_ | refine g_block ?_ | refine g_exit rfl ?_ | refine g_cond_t rfl ?_ | refine g_cond_f rfl ?_)
      refine at_next (i + 1, x, a2, kept, kb, kc) ⟨by simp only; omega, hka, hwf.mono (by simp only; omega), hok2, d2.trans hD, hsub, by simp only; omega, by simp only; omega⟩ (by simp only; omega) ?_ ?_
      · (repeat (first | exact Sub.nil _ | refine Sub.cons rfl ?_))
      · intro w hw; exact hw
    have hsl4 : s.length ≤ 4096 := by have := of_decide_eq_false hq4.symm; omega
    obtain ⟨p1, p2, p3⟩ := ka_put hka hwf.inv (b := s) hsl4 (by omega) (fun b hb e => bN_eq hnc (List.mem_append_left _ (hsub b hb)) (List.mem_append_left _ hsm) e)
    have hsk : sumL (kept ++ [s]) = sumL kept + s.length := by simp [sumL]
    obtain ⟨sh, hsh⟩ : ∃ sh, sh = Dg.sha s := ⟨_, rfl⟩
    rw [← hsh] at p2
    repeat (first | refine g_seq ?_ | refine at_code ?_ | refine g_skip ?_ | refine g_block ?_ | refine g_exit rfl ?_ | refine g_cond_t rfl ?_ | refine g_cond_f rfl ?_)
    refine g_region ?_
    refine gl_f (s_move rfl) rfl rfl rfl ?_
    refine gl_f (s_move rfl) rfl rfl rfl ?_
    refine gl_f (s_move rfl) rfl rfl rfl ?_
    refine gl_f (s_indexAddr rfl (by assumption) rfl (by omega)) rfl rfl rfl ?_
    refine gl_r (s_load1 (v := B s) rfl (fun w hw => hri hw)) rfl rfl rfl ?_
    refine gl_call [OwnB kb kept kc, .blk V (VO a0), .blk g5 (kcO c0 c1)] rfl (Put_ct x a V s i hwf (by omega) hok (by omega)) (fun w hw => hw.perm (perm_up (by repeat first|exact .del|apply Upd.there) (perm_up (by repeat first|exact .del|apply Upd.there) (perm_up (by repeat first|exact .del|apply Upd.there) (perm_up (by repeat first|exact .del|apply Upd.there) (.refl _)))))) (fun h hh ⟨bs, hb⟩ => by rw [← hV]; exact Sat.blk hb (by repeat first|exact .del|apply Upd.there)) rfl ?_; rw [p1, p2]; rintro v A ⟨rfl, a2, Z2, d2, rfl, hok2, _⟩; refine gl_pull (H' := OwnB kb kept kc :: .blk V (VO a0) :: .blk g5 (kcO c0 c1) :: dskH (vpD x s) a2) (fun w hw => Hp.left (A := OwnB kb kept kc :: .blk V (VO a0) :: .blk g5 (kcO c0 c1) :: dskH (vpD x s) a2) (R := Z2) (hw.perm (perm_k3 ..))) ?_
    refine gl_f (s_move rfl) rfl rfl rfl ?_
    refine gl_f (s_extract rfl rfl) rfl rfl rfl ?_
    refine gl_f (s_extract rfl rfl) rfl rfl rfl ?_
    refine gl_f (s_assign rfl) rfl rfl rfl ?_
    refine gl_f (s_assign rfl) rfl rfl rfl ?_
    refine gl_nil ?_
    repeat (first | refine g_seq ?_ | refine at_code ?_ | refine g_skip ?_ | refine g_block ?_ | refine g_exit rfl ?_ | refine g_cond_t rfl ?_ | refine g_cond_f rfl ?_)
    repeat (first | refine g_seq ?_ | refine at_code ?_ | refine g_skip ?_ | refine g_block ?_ | refine g_exit rfl ?_ | refine g_cond_t rfl ?_ | refine g_cond_f rfl ?_)
    refine g_region ?_
    refine gl_f (s_move rfl) rfl rfl rfl ?_
    refine gl_f (s_move rfl) rfl rfl rfl ?_
    refine gl_f (s_indexAddr rfl (by assumption) rfl (by omega)) rfl rfl rfl ?_
    refine gl_r (s_load1 (v := B s) rfl (fun w hw => hri hw)) rfl rfl rfl ?_
    refine gl_f (s_len_str rfl) rfl rfl rfl ?_
    refine gl_f ((s_gtr rfl rfl).eq (congrArg Value.bool hq4.symm)) rfl rfl rfl ?_
    refine gl_nil ?_
    repeat (first | refine g_seq ?_ | refine at_code ?_ | refine g_skip ?_ | refine g_block ?_ | refine g_exit rfl ?_ | refine g_cond_t rfl ?_ | refine g_cond_f rfl ?_)
    repeat (first | refine g_seq ?_ | refine at_code ?_ | refine g_skip ?_ | refine g_block ?_ | refine g_exit rfl ?_ | refine g_cond_t rfl ?_ | refine g_cond_f rfl ?_)
    refine g_region ?_
    refine gl_f (s_move rfl) rfl rfl rfl ?_
    refine gl_f ((s_neq rfl rfl).eq (v' := .bool false) rfl) rfl rfl rfl ?_
    refine gl_f (s_move rfl) rfl rfl rfl ?_
    (first | refine gl_guard_no rfl rfl rfl rfl rfl rfl rfl ?_ | refine gl_guard_un rfl rfl rfl rfl rfl rfl ?_ | (refine gl_guard_yes rfl rfl rfl ?_; refine gl_f (s_move rfl) rfl rfl rfl ?_))
    (first | refine gl_guard_no rfl rfl rfl rfl rfl rfl rfl ?_ | refine gl_guard_un rfl rfl rfl rfl rfl rfl ?_ | (refine gl_guard_yes rfl rfl rfl ?_; refine gl_f (s_move rfl) rfl rfl rfl ?_))
    (first | refine gl_guard_no rfl rfl rfl rfl rfl rfl rfl ?_ | refine gl_guard_un rfl rfl rfl rfl rfl rfl ?_ | (refine gl_guard_yes rfl rfl rfl ?_; refine gl_f (s_move rfl) rfl rfl rfl ?_))
    (first | refine gl_guard_no rfl rfl rfl rfl rfl rfl rfl ?_ | refine gl_guard_un rfl rfl rfl rfl rfl rfl ?_ | (refine gl_guard_yes rfl rfl rfl ?_; refine gl_f (s_indexAddr rfl (by assumption) rfl (by omega)) rfl rfl rfl ?_))
    (first | refine gl_guard_no rfl rfl rfl rfl rfl rfl rfl ?_ | refine gl_guard_un rfl rfl rfl rfl rfl rfl ?_ | (refine gl_guard_yes rfl rfl rfl ?_; refine gl_r (s_load1 (v := B s) rfl (fun w hw => hri hw)) rfl rfl rfl ?_))
    (first | refine gl_guard_no rfl rfl rfl rfl rfl rfl rfl ?_ | refine gl_guard_un rfl rfl rfl rfl rfl rfl ?_ | (refine gl_guard_yes rfl rfl rfl ?_; refine gl_callp rfl (Dg.Sum_ct s (by omega)) (fun _ _ _ => trivial) rfl ?_; rw [← hsh]))
    (first | refine gl_guard_no rfl rfl rfl rfl rfl rfl rfl ?_ | refine gl_guard_un rfl rfl rfl rfl rfl rfl ?_ | (refine gl_guard_yes rfl rfl rfl ?_; refine gl_f ((s_neq_str rfl rfl).eq (v' := .bool false) (by simp)) rfl rfl rfl ?_))
    refine gl_f (by first | exact s_pick_t rfl rfl | exact s_pick_f rfl rfl) rfl rfl rfl ?_
    refine gl_nil ?_
    repeat (first | refine g_seq ?_ | refine at_code ?_ | refine g_skip ?_ | refine g_block ?_ | refine g_exit rfl ?_ | refine g_cond_t rfl ?_ | refine g_cond_f rfl ?_)
    repeat (first | refine g_seq ?_ | refine at_code ?_ | refine g_skip ?_ | refine g_block ?_ | refine g_exit rfl ?_ | refine g_cond_t rfl ?_ | refine g_cond_f rfl ?_)
    refine g_region ?_
    refine gl_f (s_move rfl) rfl rfl rfl ?_
    refine gl_f (s_move rfl) rfl rfl rfl ?_
    refine gl_f (s_move rfl) rfl rfl rfl ?_
    refine gl_f (s_indexAddr rfl (by assumption) rfl (by omega)) rfl rfl rfl ?_
    refine gl_r (s_load1 (v := B s) rfl (fun w hw => hri hw)) rfl rfl rfl ?_
    refine gl_buildSliceU rfl rfl rfl rfl rfl rfl (xs := [B s]) rfl rfl ?_; intro a7 ha7
    refine gl_append rfl rfl (fun a' c' => .there .here) (fun w hw => (hw.ownN (by repeat first|exact .del|apply Upd.there)).2.2.1) rfl rfl rfl (by (intro q hq; simp [Value.cells] at hq; first | (subst hq; rfl) | (rcases hq with rfl | rfl | rfl | rfl | rfl | rfl | rfl | rfl <;> rfl) | (rcases hq with rfl | rfl | rfl | rfl | rfl | rfl | rfl <;> rfl) | (rcases hq with rfl | rfl | rfl | rfl | rfl | rfl <;> rfl) | (rcases hq with rfl | rfl | rfl | rfl | rfl <;> rfl) | (rcases hq with rfl | rfl | rfl | rfl <;> rfl) | (rcases hq with rfl | rfl | rfl <;> rfl) | (rcases hq with rfl | rfl <;> rfl))) (by show (_ + 1) * 16 ≤ _; omega) (by omega) rfl ?_; intro a8 c8 hc8
    refine gl_f (s_assign rfl) rfl rfl rfl ?_
    refine gl_nil ?_
    repeat (first | refine g_seq ?_ | refine at_code ?_ | refine g_skip ?_ | refine g_block ?_ | refine g_exit rfl ?_ | refine g_cond_t rfl ?_ | refine g_cond_f rfl ?_)
    repeat (first | refine g_seq ?_ | refine at_code ?_ | refine g_skip ?_ | refine g_block ?_ | refine g_exit rfl ?_ | refine g_cond_t rfl ?_ | refine g_cond_f rfl ?_)
    refine g_region ?_
    refine gl_f (s_move rfl) rfl rfl rfl ?_
    refine gl_f (s_add_i64 rfl rfl (by omega)) rfl rfl rfl ?_
    refine gl_f (s_assign rfl) rfl rfl rfl ?_
    refine gl_nil ?_
    repeat (first | refine g_seq ?_ | refine at_code ?_ | refine g_skip ?_ | refine g_block ?_ | refine g_exit rfl ?_ | refine g_cond_t rfl ?_ | refine g_cond_f rfl ?_)
    refine at_next (i + 1, vpD x s, a2, kept ++ [s], a8, c8) ⟨by simp only; omega, p3, wf_vp hwf s, hok2, d2.trans hD, fun b hb => (by rcases List.mem_append.1 hb with h | h; exact hsub b h; rw [List.mem_singleton.1 h]; exact hsm), by simp only; omega, by simp only [List.length_append, List.length_singleton]; omega⟩ (by simp only; omega) ?_ ?_
    · simp only [List.length_append, List.length_singleton]
      (repeat (first | exact Sub.nil _ | refine Sub.cons rfl ?_))
    · intro w hw
      simp only
      rw [← own_snocB rfl]
      exact hw.drop
  have hil : i = bodies.length := by simp at h; omega
  subst hil
  obtain ⟨fn, hfn, hfe⟩ := k_mod c0 6
  rw [show (((6 : Nat) : Int) + 1) = 7 from rfl] at hfe
  repeat (first | refine g_seq ?_ | refine at_code ?_ | refine g_skip ?_ | refine g_block ?_ | refine g_exit rfl ?_ | refine g_cond_t rfl ?_ | refine g_cond_f rfl ?_)
  repeat (first | refine g_seq ?_ | refine at_code ?_ | refine g_skip ?_ | refine g_block ?_ | refine g_exit rfl ?_ | refine g_cond_t rfl ?_ | refine g_cond_f rfl ?_)
  refine g_region ?_
  refine gl_f (s_move rfl) rfl rfl rfl ?_
  refine gl_f (s_indexAddr_arr rfl rfl (by omega)) rfl rfl rfl ?_
  refine gl_r (by first | exact s_load_blk rfl (by repeat first|exact .del|apply Upd.there) (by rfl) | exact s_load1 rfl (fun w hw => peekB hw (by assumption) (by rfl))) rfl rfl rfl ?_
  refine gl_f (s_conv_int rfl) rfl rfl rfl ?_
  refine gl_f ((s_rem_pos rfl rfl ⟨by rw [IntKind.wrap_u64]; omega, by omega⟩).eq (congrArg (Value.int .u64) hfe)) rfl rfl rfl ?_
  refine gl_f (s_conv_keep_i64 rfl (by omega)) rfl rfl rfl ?_
  refine gl_call [OwnB kb kept kc, .blk V (VO a0), .blk g5 (kcO c0 c1)] rfl (Ct.addr hD (Fuse_ct x a (fn : Nat) hok)) (fun w hw => hw.perm (perm_up (by repeat first|exact .del|apply Upd.there) (perm_up (by repeat first|exact .del|apply Upd.there) (perm_up (by repeat first|exact .del|apply Upd.there) (perm_up (by repeat first|exact .del|apply Upd.there) (.refl _)))))) (fun _ _ _ => trivial) rfl ?_; rintro v A ⟨rfl, rfl⟩; refine gl_pull (H' := OwnB kb kept kc :: .blk V (VO a0) :: .blk g5 (kcO c0 c1) :: dskH (fuseD x (fn : Nat)) a) (fun w hw => hw.perm (perm_up (by repeat first|exact .del|apply Upd.there) (perm_up (by repeat first|exact .del|apply Upd.there) (perm_up (by repeat first|exact .del|apply Upd.there) (perm_up (by repeat first|exact .del|apply Upd.there) (perm_up (by repeat first|exact .del|apply Upd.there) (perm_up (by repeat first|exact .del|apply Upd.there) (perm_up (by repeat first|exact .del|apply Upd.there) (.refl _))))))))) ?_
  refine gl_nil ?_
  repeat (first | refine g_seq ?_ | refine at_code ?_ | refine g_skip ?_ | refine g_block ?_ | refine g_exit rfl ?_ | refine g_cond_t rfl ?_ | refine g_cond_f rfl ?_)
  have hkf := ka_ki hka (fn : Nat)
  have hwf1 : Wf (fuseD x (fn : Nat)) bodies.length := wf_fuse hwf (by omega)
  have hok1 : DOk (fuseD x (fn : Nat)) a := ⟨hok.seen, hok.lasts, hok.pl⟩
  have hpl0 : a.pl = [] := pl_nil hok hka.pd
  repeat (first | refine g_seq ?_ | refine at_code ?_ | refine g_skip ?_ | refine g_block ?_ | refine g_exit rfl ?_ | refine g_cond_t rfl ?_ | refine g_cond_f rfl ?_)
  refine g_region ?_
  refine gl_f (s_assign rfl) rfl rfl rfl ?_
  refine gl_nil ?_
  repeat (first | refine g_seq ?_ | refine at_code ?_ | refine g_skip ?_ | refine g_block ?_ | refine g_exit rfl ?_ | refine g_cond_t rfl ?_ | refine g_cond_f rfl ?_)
  refine g_loopF (ι := Nat × Snap × DM × DA) (fun i => KU F a0 kept more bodies.length i.1 i.2.1 i.2.2.1 i.2.2.2) (fun i => [(1, .slice ma more.length mc), (5, Ptr g5), (7, Ptr a0.D), (9, Ptr V), (10, .slice kb kept.length kc), (14, .int .i64 (i.1 : Nat))]) (fun i => i.2.1) (fun i => OwnB kb kept kc :: .blk V (VO a0) :: .blk g5 (kcO c0 c1) :: dskH i.2.2.1 i.2.2.2) (fun i => more.length - i.1) (0, F, fuseD x (fn : Nat), a) ⟨Nat.zero_le _, Snap.le_refl _, hkf, hwf1, hok1, hD, fun p hp => (by simp only [hpl0] at hp; cases hp)⟩ ?_ rfl ?_ ?_
  · (repeat (first | exact Sub.nil _ | refine Sub.cons rfl ?_))
  · intro w hw; exact hw
  clear hkf hwf1 hok1 hpl0 hV hK hi hka hwf hok hD hfe h hkl
  clear a x
  rintro ⟨i, F', x, a⟩ hK
  have hi := hK.le
  have hle := hK.F
  have hki := hK.ki
  have hwf := hK.wf
  have hok := hK.ok
  have hD := hK.D
  have hpc := hK.pc
  simp only at hi hle hki hwf hok hD hpc
  have hV : VO a0 = VO a := by rw [VO, VO, hD]
  have hrm' : RdS F'.heap ma (stV more) := hrm.le hle.heap
  repeat (first | refine g_seq ?_ | refine at_code ?_ | refine g_skip ?_ | refine g_block ?_ | refine g_exit rfl ?_ | refine g_cond_t rfl ?_ | refine g_cond_f rfl ?_)
  refine g_region ?_
  refine gl_f (s_move rfl) rfl rfl rfl ?_
  refine gl_f (s_move rfl) rfl rfl rfl ?_
  refine gl_f (s_len_sl rfl) rfl rfl rfl ?_
  refine gl_f (s_lss rfl rfl) rfl rfl rfl ?_
  refine gl_nil ?_
  repeat (first | refine g_seq ?_ | refine at_code ?_ | refine g_skip ?_ | refine g_block ?_ | refine g_exit rfl ?_ | refine g_cond_t rfl ?_ | refine g_cond_f rfl ?_)
  refine g_cond rfl (fun h => ?_) (fun h => ?_)
  · have hil : i < more.length := by simp at h; omega
    have hsome := rdT_some hrm' hil
    obtain ⟨s, hse⟩ : ∃ s, s = more.getD i [] := ⟨_, rfl⟩
    have hsm : s ∈ more := by rw [hse]; exact getD_mem hil
    have hsl := lk3 s hsm
    have hri : ∀ {w : World} {H : List As}, Hp F' w H → PeekC (hp w) (addO ma (((i : Nat) : Int).toNat * 1)) [B s] := fun hw => by rw [hse]; exact rdT hw hrm' (i := i) (by omega) hil
    have hki' := ki_put hki hwf.inv (b := s) (fun b hb e => bN_eq hnc (List.mem_append_left _ (hsub b hb)) (List.mem_append_right _ hsm) e)
    repeat (first | refine g_seq ?_ | refine at_code ?_ | refine g_skip ?_ | refine g_block ?_ | refine g_exit rfl ?_ | refine g_cond_t rfl ?_ | refine g_cond_f rfl ?_)
    repeat (first | refine g_seq ?_ | refine at_code ?_ | refine g_skip ?_ | refine g_block ?_ | refine g_exit rfl ?_ | refine g_cond_t rfl ?_ | refine g_cond_f rfl ?_)
    refine g_region ?_
    refine gl_f (s_move rfl) rfl rfl rfl ?_
    refine gl_f (s_move rfl) rfl rfl rfl ?_
    refine gl_f (s_move rfl) rfl rfl rfl ?_
    refine gl_f (s_indexAddr rfl (by assumption) rfl (by omega)) rfl rfl rfl ?_
    refine gl_r (s_load1 (v := B s) rfl (fun w hw => hri hw)) rfl rfl rfl ?_
    refine gl_call [OwnB kb kept kc, .blk V (VO a0), .blk g5 (kcO c0 c1)] rfl (Put_ct x a V s (bodies.length + i) hwf (by omega) hok (by omega)) (fun w hw => hw.perm (perm_up (by repeat first|exact .del|apply Upd.there) (perm_up (by repeat first|exact .del|apply Upd.there) (perm_up (by repeat first|exact .del|apply Upd.there) (perm_up (by repeat first|exact .del|apply Upd.there) (.refl _)))))) (fun h hh ⟨bs, hb⟩ => by rw [← hV]; exact Sat.blk hb (by repeat first|exact .del|apply Upd.there)) rfl ?_; rintro v A ⟨_, a2, Z2, d2, rfl, hok2, f2⟩; refine gl_pull (H' := (OwnB kb kept kc :: .blk V (VO a0) :: .blk g5 (kcO c0 c1) :: dskH (vpD x s) a2) ++ Z2) (fun w hw => hw.perm (perm_k3 ..)) ?_; refine gl_freeze (fun F2 hl2 hz => ?_)
    refine gl_nil ?_
    repeat (first | refine g_seq ?_ | refine at_code ?_ | refine g_skip ?_ | refine g_block ?_ | refine g_exit rfl ?_ | refine g_cond_t rfl ?_ | refine g_cond_f rfl ?_)
    have hpc2 := f2 _ (fun p hp => (hpc p hp).le hl2.heap) hz
    repeat (first | refine g_seq ?_ | refine at_code ?_ | refine g_skip ?_ | refine g_block ?_ | refine g_exit rfl ?_ | refine g_cond_t rfl ?_ | refine g_cond_f rfl ?_)
    refine g_region ?_
    refine gl_f (s_move rfl) rfl rfl rfl ?_
    refine gl_f (s_add_i64 rfl rfl (by omega)) rfl rfl rfl ?_
    refine gl_f (s_assign rfl) rfl rfl rfl ?_
    refine gl_nil ?_
    repeat (first | refine g_seq ?_ | refine at_code ?_ | refine g_skip ?_ | refine g_block ?_ | refine g_exit rfl ?_ | refine g_cond_t rfl ?_ | refine g_cond_f rfl ?_)
    refine at_nextF (i + 1, F2, vpD x s, a2) ⟨by simp only; omega, hle.trans hl2, hki', wf_vp hwf s, hok2, d2.trans hD, hpc2⟩ (by simp only; omega) ?_ rfl ?_
    · (repeat (first | exact Sub.nil _ | refine Sub.cons rfl ?_))
    · intro w hw; exact hw
  have hil : i = more.length := by simp at h; omega
  have hsn := hwf.seen
  have hal := all_len x.seen
  have hKc := Keep_ct x a V (bodies.length + i) (kept.map Dg.sha)
  have hkX := ki_keep (allL x.seen) x 0 _ hki hwf
  have hwX := wf_kp (kept.map Dg.sha) (allL x.seen) x 0 _ hwf
  rw [List.length_map] at hKc
  obtain ⟨X, hX⟩ : ∃ X, X = kpX (kept.map Dg.sha) x := ⟨_, rfl⟩
  rw [← hX] at hKc
  rw [show kpG (kept.map Dg.sha) x (allL x.seen) 0 = X from hX.symm] at hkX hwX
  obtain ⟨X, Xn, Xe⟩ := X
  simp only at hKc hkX hwX
  refine g_ownN (a := kb) (by repeat first|exact .del|apply Upd.there) (fun _ _ hkb => ?_)
  repeat (first | refine g_seq ?_ | refine at_code ?_ | refine g_skip ?_ | refine g_block ?_ | refine g_exit rfl ?_ | refine g_cond_t rfl ?_ | refine g_cond_f rfl ?_)
  repeat (first | refine g_seq ?_ | refine at_code ?_ | refine g_skip ?_ | refine g_block ?_ | refine g_exit rfl ?_ | refine g_cond_t rfl ?_ | refine g_cond_f rfl ?_)
  refine g_region ?_
  refine gl_f (s_move rfl) rfl rfl rfl ?_
  refine gl_f (s_move rfl) rfl rfl rfl ?_
  refine gl_call _ rfl (sums_ct kept kb kc (by omega) (fun s hs => by have := lb3 s (hsub s hs); omega)) (fun w hw => hw) (fun h hh ⟨bs, hb⟩ => by rw [← stV_map]; exact Sat.rd (a := kb) hb (by repeat first|exact .del|apply Upd.there)) rfl ?_; rintro v A ⟨sa, sc, rfl, rfl⟩
  refine gl_call [OwnB sa (kept.map Dg.sha) sc, OwnB kb kept kc, .blk V (VO a0), .blk g5 (kcO c0 c1)] rfl (hKc sa sc hwf (by omega) hok (by omega)) (fun w hw => hw.perm (perm_up (by repeat first|exact .del|apply Upd.there) (perm_up (by repeat first|exact .del|apply Upd.there) (perm_up (by repeat first|exact .del|apply Upd.there) (perm_up (by repeat first|exact .del|apply Upd.there) (.refl _)))))) (fun h hh ⟨bs, hb⟩ => ⟨by rw [← hV]; exact Sat.blk hb (by repeat first|exact .del|apply Upd.there), by rw [← stV_map]; exact Sat.rd (a := sa) hb (by repeat first|exact .del|apply Upd.there)⟩) rfl ?_; rintro v A ⟨rfl, a3, Z3, d3, rfl, hok3, f3⟩; refine gl_pull (H' := (OwnB sa (kept.map Dg.sha) sc :: OwnB kb kept kc :: .blk V (VO a0) :: .blk g5 (kcO c0 c1) :: dskH X a3) ++ Z3) (fun w hw => hw.perm (perm_k3 ..)) ?_; refine gl_freeze (fun F3 hl3 hz => ?_)
  refine gl_nil ?_
  repeat (first | refine g_seq ?_ | refine at_code ?_ | refine g_skip ?_ | refine g_block ?_ | refine g_exit rfl ?_ | refine g_cond_t rfl ?_ | refine g_cond_f rfl ?_)
  have hpc3 := f3 _ (fun p hp => (hpc p hp).le hl3.heap) hz
  have hD3 := d3.trans hD
  have hpl3 := pl_len hwX (by omega) hok3
  have hpn : X.pend.length ≤ 1000000 := Nat.le_trans (Nat.le_trans (Nat.le_add_left _ _) hwX.sz) (by omega)
  have hcl := count_le hwX.inv
  obtain ⟨kn, hkn, hke⟩ := k_mod c1 (countD X)
  obtain ⟨cr1, cr2⟩ := crash_loss hkn
  have wy := wf_crash hwX (kn : Nat)
  rw [cr2] at wy
  repeat (first | refine g_seq ?_ | refine at_code ?_ | refine g_skip ?_ | refine g_block ?_ | refine g_exit rfl ?_ | refine g_cond_t rfl ?_ | refine g_cond_f rfl ?_)
  refine g_draw [2] [.blk g5 (kcO c0 c1)] 12 rfl ?_
  refine ga_free 0 rfl (s_move rfl) rfl rfl rfl (by kernel_rfl) ?_
  refine ga_free 1 rfl (s_indexAddr_arr rfl rfl (by omega)) rfl rfl rfl (by kernel_rfl) ?_
  (first | refine ga_read_k 2 rfl (by first | exact .head _ | exact .tail _ (.head _) | exact .tail _ (.tail _ (.head _)) | exact .tail _ (.tail _ (.tail _ (.head _)))) (s_load_blk rfl .del (by rfl)) (by (first | exact fun _ h => h | (repeat first | exact sub_nil | refine sub_cons (by repeat first | exact List.Mem.head _ | apply List.Mem.tail) ?_))) rfl rfl rfl (by kernel_rfl) ?_ | refine ga_readF 2 rfl (s_load1 rfl (fun w hw => peekB hw (by assumption) (by rfl))) (by (first | exact fun _ h => h | (repeat first | exact sub_nil | refine sub_cons (by repeat first | exact List.Mem.head _ | apply List.Mem.tail) ?_))) rfl rfl rfl (by kernel_rfl) ?_)
  refine ga_free 3 rfl (s_conv_int rfl) rfl rfl rfl (by kernel_rfl) ?_
  refine ga_free 4 rfl (s_move rfl) rfl rfl rfl (by kernel_rfl) ?_
  refine ga_one 5 rfl (by kernel_rfl) ?_
  refine gl_callp rfl (Pu.addr hD3 (Pending_ct X a3 hwX.inv hok3.pl hpn)) (fun h hh ⟨bs, hb⟩ => ⟨Sat.blk hb (by repeat first|exact .del|apply Upd.there), Sat.rd (a := a3.pa) hb (by repeat first|exact .del|apply Upd.there)⟩) rfl ?_
  refine gl_nil ?_
  refine at_ga (.inr (by exact keeps_of (by (first | exact fun _ h => h | (repeat first | exact sub_nil | refine sub_cons (by repeat first | exact List.Mem.head _ | apply List.Mem.tail) ?_))))) ?_
  refine ga_free 6 rfl (s_add_i64 rfl rfl (by omega)) rfl rfl rfl (by kernel_rfl) ?_
  refine ga_free 7 rfl (s_conv_keep_u64 rfl (by omega)) rfl rfl rfl (by kernel_rfl) ?_
  refine ga_free 8 rfl ((s_rem_pos rfl rfl ⟨by rw [IntKind.wrap_u64]; omega, by omega⟩).eq (congrArg (Value.int .u64) hke)) rfl rfl rfl (by kernel_rfl) ?_
  refine ga_free 9 rfl (s_conv_keep_i64 rfl (by omega)) rfl rfl rfl (by kernel_rfl) ?_
  refine ga_one 10 rfl (by kernel_rfl) ?_
  refine gl_call [OwnB sa (kept.map Dg.sha) sc, OwnB kb kept kc, .blk V (VO a0), .blk g5 (kcO c0 c1)] rfl (Ct.addr hD3 (Crash_ct X a3 (kn : Nat) hwX.inv hok3 hpl3 (by omega))) (fun w hw => hw.perm (perm_up (by repeat first|exact .del|apply Upd.there) (perm_up (by repeat first|exact .del|apply Upd.there) (perm_up (by repeat first|exact .del|apply Upd.there) (perm_up (by repeat first|exact .del|apply Upd.there) (.refl _)))))) (fun h hh _ p hp => (hpc3 p hp).le hh) rfl ?_; rw [cr1, cr2]; rintro v A ⟨rfl, a4, e4, rfl, hok4, _⟩; refine gl_pull (H' := OwnB sa (kept.map Dg.sha) sc :: OwnB kb kept kc :: .blk V (VO a0) :: .blk g5 (kcO c0 c1) :: dskH (lossD X kn) a4) (fun w hw => hw.perm (perm_up (by repeat first|exact .del|apply Upd.there) (perm_up (by repeat first|exact .del|apply Upd.there) (perm_up (by repeat first|exact .del|apply Upd.there) (perm_up (by repeat first|exact .del|apply Upd.there) (perm_up (by repeat first|exact .del|apply Upd.there) (perm_up (by repeat first|exact .del|apply Upd.there) (perm_up (by repeat first|exact .del|apply Upd.there) (perm_up (by repeat first|exact .del|apply Upd.there) (.refl _)))))))))) ?_
  refine gl_nil ?_
  refine at_ga (.inr (by exact keeps_of (by (first | exact fun _ h => h | (repeat first | exact sub_nil | refine sub_cons (by repeat first | exact List.Mem.head _ | apply List.Mem.tail) ?_))))) ?_
  refine ga_free 11 rfl ((s_neq rfl rfl).eq (v' := .bool false) rfl) rfl rfl rfl (by kernel_rfl) ?_
  refine ga_done (by kernel_rfl) ?_
  repeat (first | refine g_seq ?_ | refine at_code ?_ | refine g_skip ?_ | refine g_block ?_ | refine g_exit rfl ?_ | refine g_cond_t rfl ?_ | refine g_cond_f rfl ?_)
  have hV4 : VO a0 = VO a4 := by rw [VO, VO, e4, hD3]
  repeat (first | refine g_seq ?_ | refine at_code ?_ | refine g_skip ?_ | refine g_block ?_ | refine g_exit rfl ?_ | refine g_cond_t rfl ?_ | refine g_cond_f rfl ?_)
  refine g_region ?_
  refine gl_f (s_move rfl) rfl rfl rfl ?_
  refine gl_call _ rfl (Open_ct a0) (fun w hw => hw) (fun _ _ _ => trivial) rfl ?_; rintro v A ⟨V2, rfl, rfl⟩
  refine gl_f (s_assign rfl) rfl rfl rfl ?_
  refine gl_nil ?_
  repeat (first | refine g_seq ?_ | refine at_code ?_ | refine g_skip ?_ | refine g_block ?_ | refine g_exit rfl ?_ | refine g_cond_t rfl ?_ | refine g_cond_f rfl ?_)
  repeat (first | refine g_seq ?_ | refine at_code ?_ | refine g_skip ?_ | refine g_block ?_ | refine g_exit rfl ?_ | refine g_cond_t rfl ?_ | refine g_cond_f rfl ?_)
  refine g_region ?_
  refine gl_f (s_assign rfl) rfl rfl rfl ?_
  refine gl_nil ?_
  repeat (first | refine g_seq ?_ | refine at_code ?_ | refine g_skip ?_ | refine g_block ?_ | refine g_exit rfl ?_ | refine g_cond_t rfl ?_ | refine g_cond_f rfl ?_)
  refine g_loop (ι := Nat) (fun j => j ≤ kept.length) (fun j => [(9, Ptr V2), (10, .slice kb kept.length kc), (15, .int .i64 (j : Nat))]) (fun j => .blk V2 (VO a0) :: OwnB sa (kept.map Dg.sha) sc :: OwnB kb kept kc :: .blk V (VO a0) :: .blk g5 (kcO c0 c1) :: dskH (lossD X kn) a4) (fun j => kept.length - j) 0 (Nat.zero_le _) ?_ ?_ ?_
  · (repeat (first | exact Sub.nil _ | refine Sub.cons rfl ?_))
  · intro w hw; exact hw
  rintro j hj
  repeat (first | refine g_seq ?_ | refine at_code ?_ | refine g_skip ?_ | refine g_block ?_ | refine g_exit rfl ?_ | refine g_cond_t rfl ?_ | refine g_cond_f rfl ?_)
  refine g_region ?_
  refine gl_f (s_move rfl) rfl rfl rfl ?_
  refine gl_f (s_move rfl) rfl rfl rfl ?_
  refine gl_f (s_len_sl rfl) rfl rfl rfl ?_
  refine gl_f (s_lss rfl rfl) rfl rfl rfl ?_
  refine gl_nil ?_
  repeat (first | refine g_seq ?_ | refine at_code ?_ | refine g_skip ?_ | refine g_block ?_ | refine g_exit rfl ?_ | refine g_cond_t rfl ?_ | refine g_cond_f rfl ?_)
  refine g_cond rfl (fun h => ?_) (fun h => ?_)
  · have hjl : j < kept.length := by simp at h; omega
    have hsome : ∃ ad, kb = some ad := hkb (by omega)
    obtain ⟨s, hse⟩ : ∃ s, s = kept.getD j [] := ⟨_, rfl⟩
    have hsm : s ∈ kept := by rw [hse]; exact getD_mem hjl
    have hsl := lb3 s (hsub s hsm)
    have hpk : ∀ {w : World} {H H' : List As}, Hp F3 w H → Upd H (OwnB kb kept kc) [] H' → PeekC (hp w) (addO kb (((j : Nat) : Int).toNat * 1)) [B s] := fun hw u => peek_own hw u (by simp) (fun q v hq => by
      match q, hq with
      | 0, hq => simp at hq; subst hq; rw [Nat.mul_one, hse]; simp [hjl])
    obtain ⟨g1, g2⟩ := ki_loss (k := kn) hkX hwX.inv hsm
    obtain ⟨sh, hsh⟩ : ∃ sh, sh = Dg.sha s := ⟨_, rfl⟩
    rw [← hsh] at g1 g2
    repeat (first | refine g_seq ?_ | refine at_code ?_ | refine g_skip ?_ | refine g_block ?_ | refine g_exit rfl ?_ | refine g_cond_t rfl ?_ | refine g_cond_f rfl ?_)
    repeat (first | refine g_seq ?_ | refine at_code ?_ | refine g_skip ?_ | refine g_block ?_ | refine g_exit rfl ?_ | refine g_cond_t rfl ?_ | refine g_cond_f rfl ?_)
    refine g_region ?_
    refine gl_f (s_move rfl) rfl rfl rfl ?_
    refine gl_f (s_move rfl) rfl rfl rfl ?_
    refine gl_f (s_move rfl) rfl rfl rfl ?_
    refine gl_f (s_indexAddr rfl (by assumption) rfl (by omega)) rfl rfl rfl ?_
    refine gl_r (s_load1 (v := B s) rfl (fun w hw => hpk hw (by repeat first|exact .del|apply Upd.there))) rfl rfl rfl ?_
    refine gl_callp rfl (Dg.Sum_ct s (by omega)) (fun _ _ _ => trivial) rfl ?_; rw [← hsh]
    refine gl_callp rfl (Get_ct (lossD X kn) a4 V2 sh wy.inv hok4) (fun h hh ⟨bs, hb⟩ => ⟨⟨Sat.blk hb (by repeat first|exact .del|apply Upd.there), Sat.blk hb (by repeat first|exact .del|apply Upd.there)⟩, by rw [← hV4]; exact Sat.blk hb (by repeat first|exact .del|apply Upd.there)⟩) rfl ?_; rw [g1, g2]
    refine gl_f (s_move rfl) rfl rfl rfl ?_
    refine gl_f (s_extract rfl rfl) rfl rfl rfl ?_
    refine gl_f (s_extract rfl rfl) rfl rfl rfl ?_
    refine gl_f (s_assign rfl) rfl rfl rfl ?_
    refine gl_f (s_assign rfl) rfl rfl rfl ?_
    refine gl_nil ?_
    repeat (first | refine g_seq ?_ | refine at_code ?_ | refine g_skip ?_ | refine g_block ?_ | refine g_exit rfl ?_ | refine g_cond_t rfl ?_ | refine g_cond_f rfl ?_)
    repeat (first | refine g_seq ?_ | refine at_code ?_ | refine g_skip ?_ | refine g_block ?_ | refine g_exit rfl ?_ | refine g_cond_t rfl ?_ | refine g_cond_f rfl ?_)
    refine g_region ?_
    refine gl_f (s_move rfl) rfl rfl rfl ?_
    refine gl_f ((s_neq rfl rfl).eq (v' := .bool false) rfl) rfl rfl rfl ?_
    refine gl_f (s_move rfl) rfl rfl rfl ?_
    (first | refine gl_guard_no rfl rfl rfl rfl rfl rfl rfl ?_ | refine gl_guard_un rfl rfl rfl rfl rfl rfl ?_ | (refine gl_guard_yes rfl rfl rfl ?_; refine gl_f (s_move rfl) rfl rfl rfl ?_))
    (first | refine gl_guard_no rfl rfl rfl rfl rfl rfl rfl ?_ | refine gl_guard_un rfl rfl rfl rfl rfl rfl ?_ | (refine gl_guard_yes rfl rfl rfl ?_; refine gl_f (s_move rfl) rfl rfl rfl ?_))
    (first | refine gl_guard_no rfl rfl rfl rfl rfl rfl rfl ?_ | refine gl_guard_un rfl rfl rfl rfl rfl rfl ?_ | (refine gl_guard_yes rfl rfl rfl ?_; refine gl_f (s_move rfl) rfl rfl rfl ?_))
    (first | refine gl_guard_no rfl rfl rfl rfl rfl rfl rfl ?_ | refine gl_guard_un rfl rfl rfl rfl rfl rfl ?_ | (refine gl_guard_yes rfl rfl rfl ?_; refine gl_f (s_indexAddr rfl (by assumption) rfl (by omega)) rfl rfl rfl ?_))
    (first | refine gl_guard_no rfl rfl rfl rfl rfl rfl rfl ?_ | refine gl_guard_un rfl rfl rfl rfl rfl rfl ?_ | (refine gl_guard_yes rfl rfl rfl ?_; refine gl_r (s_load1 (v := B s) rfl (fun w hw => hpk hw (by repeat first|exact .del|apply Upd.there))) rfl rfl rfl ?_))
    (first | refine gl_guard_no rfl rfl rfl rfl rfl rfl rfl ?_ | refine gl_guard_un rfl rfl rfl rfl rfl rfl ?_ | (refine gl_guard_yes rfl rfl rfl ?_; refine gl_f ((s_neq_str rfl rfl).eq (v' := .bool false) (by simp)) rfl rfl rfl ?_))
    refine gl_f (by first | exact s_pick_t rfl rfl | exact s_pick_f rfl rfl) rfl rfl rfl ?_
    refine gl_nil ?_
    repeat (first | refine g_seq ?_ | refine at_code ?_ | refine g_skip ?_ | refine g_block ?_ | refine g_exit rfl ?_ | refine g_cond_t rfl ?_ | refine g_cond_f rfl ?_)
    repeat (first | refine g_seq ?_ | refine at_code ?_ | refine g_skip ?_ | refine g_block ?_ | refine g_exit rfl ?_ | refine g_cond_t rfl ?_ | refine g_cond_f rfl ?_)
    refine g_region ?_
    refine gl_f (s_move rfl) rfl rfl rfl ?_
    refine gl_f (s_add_i64 rfl rfl (by omega)) rfl rfl rfl ?_
    refine gl_f (s_assign rfl) rfl rfl rfl ?_
    refine gl_nil ?_
    repeat (first | refine g_seq ?_ | refine at_code ?_ | refine g_skip ?_ | refine g_block ?_ | refine g_exit rfl ?_ | refine g_cond_t rfl ?_ | refine g_cond_f rfl ?_)
    refine at_next (j + 1) (by omega) (by omega) ?_ ?_
    · (repeat (first | exact Sub.nil _ | refine Sub.cons rfl ?_))
    · intro w hw; exact hw
  repeat (first | refine g_seq ?_ | refine at_code ?_ | refine g_skip ?_ | refine g_block ?_ | refine g_exit rfl ?_ | refine g_cond_t rfl ?_ | refine g_cond_f rfl ?_)
  repeat (first | refine g_seq ?_ | refine at_code ?_ | refine g_skip ?_ | refine g_block ?_ | refine g_exit rfl ?_ | refine g_cond_t rfl ?_ | refine g_cond_f rfl ?_)
  refine g_region ?_
  refine gl_f (s_assign rfl) rfl rfl rfl ?_
  refine gl_nil ?_
  repeat (first | refine g_seq ?_ | refine at_code ?_ | refine g_skip ?_ | refine g_block ?_ | refine g_exit rfl ?_ | refine g_cond_t rfl ?_ | refine g_cond_f rfl ?_)
  refine g_ret ?_
  refine at_unfreeze (hle.trans hl3) ?_
  exact at_end1 rfl rfl [] ⟨rfl, rfl⟩ (fun _ h => h.dropAll)
end Go.Proofs.Ytolgclfbllcjhaa.Vt
