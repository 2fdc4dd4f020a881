/- The law DiskBegins. -/
import Derived.Test.YtolgclfbllcjhaaD18
namespace Go.Proofs.Ytolgclfbllcjhaa
open Go Go.Sl
set_option linter.unusedVariables false
set_option linter.unusedSimpArgs false

theorem Hp.swapR {F : Snap} {w : World} {A Z T : List As} (h : Hp F w ((A ++ Z) ++ T)) : Hp F w ((A ++ T) ++ Z) := h.perm (by
  rw [List.append_assoc, List.append_assoc]
  exact List.Perm.append_left A List.perm_append_comm)
structure PB (cap : Int) (x1 : DM) (l : List AM) (F : Snap) (i : Nat) (F' : Snap) (a : DA) : Prop where
  le : i ≤ l.length ∧ i ≤ 100
  F : F.le F'
  ok : DOk (runT x1 l i) a
  b : ∀ p ∈ a.pl, PcOk F'.heap p
structure PT (x1 : DM) (l : List AM) (kn : Nat) (i : Nat) (t : DA) : Prop where
  le : i ≤ l.length ∧ i ≤ 100
  ok : DOk (runT x1 l i) t
  k : countD (runT x1 l i) ≤ kn
set_option maxRecDepth 16000 in
set_option maxHeartbeats 16000000 in
theorem DiskBegins_ct (cap : Int) (l1 : List AM) (la1 : Option Addr) (lc1 : Nat) (l : List AM) (la : Option Addr) (lc : Nat) (k : Int) (hl1 : l1.length ≤ 9223372036854775807) (hm1 : ∀ m ∈ l1, AmOk m) (hl : l.length ≤ 9223372036854775807) (hm : ∀ m ∈ l, AmOk m) (hk : -9223372036854775808 ≤ k ∧ k ≤ 9223372036854775807) :
    Pu Try.prog 5 [.int .i64 cap, .slice la1 l1.length lc1, .slice la l.length lc, .int .i64 k] (fun h => RdS h la1 (amL l1) ∧ RdS h la (amL l)) (.bool true) := by
  refine ct_enter 145 Try.func5 rfl rfl rfl ?_
  intro F hrds
  have hrd1 := hrds.1
  have hrd2 := hrds.2
  repeat (first | refine g_seq ?_ | refine at_code ?_ | refine g_skip ?_ | refine g_block ?_ | refine g_exit rfl ?_ | refine g_cond_t rfl ?_ | refine g_cond_f rfl ?_)
  refine g_region ?_
  refine gl_f (s_assign rfl) rfl rfl rfl ?_
  refine gl_nil ?_
  repeat (first | refine g_seq ?_ | refine at_code ?_ | refine g_skip ?_ | refine g_block ?_ | refine g_exit rfl ?_ | refine g_cond_t rfl ?_ | refine g_cond_f rfl ?_)
  refine g_region ?_
  refine gl_callp rfl alive_ct (fun _ _ _ => trivial) rfl ?_
  refine gl_f (s_not rfl) rfl rfl rfl ?_
  refine gl_nil ?_
  repeat (first | refine g_seq ?_ | refine at_code ?_ | refine g_skip ?_ | refine g_block ?_ | refine g_exit rfl ?_ | refine g_cond_t rfl ?_ | refine g_cond_f rfl ?_)
  obtain ⟨q, hq⟩ : ∃ q, q = badCap cap := ⟨_, rfl⟩
  cases q
  rotate_left
  · repeat (first | refine g_seq ?_ | refine at_code ?_ | refine g_skip ?_ | refine g_block ?_ | refine g_exit rfl ?_ | refine g_cond_t rfl ?_ | refine g_cond_f rfl ?_)
    refine g_region ?_
    refine gl_f (s_move rfl) rfl rfl rfl ?_
    refine gl_call _ rfl (New_ct cap) (fun w hw => hw) (fun _ _ _ => trivial) rfl ?_; rintro v A (⟨_, rfl, rfl⟩ | ⟨h, _⟩); rotate_left; rw [← hq] at h; cases h
    refine gl_f (s_move rfl) rfl rfl rfl ?_
    refine gl_f (s_extract rfl rfl) rfl rfl rfl ?_
    refine gl_f (s_extract rfl rfl) rfl rfl rfl ?_
    refine gl_f (s_assign rfl) rfl rfl rfl ?_
    refine gl_f (s_assign rfl) rfl rfl rfl ?_
    refine gl_nil ?_
    repeat (first | refine g_seq ?_ | refine at_code ?_ | refine g_skip ?_ | refine g_block ?_ | refine g_exit rfl ?_ | refine g_cond_t rfl ?_ | refine g_cond_f rfl ?_)
    repeat (first | refine g_seq ?_ | refine at_code ?_ | refine g_skip ?_ | refine g_block ?_ | refine g_exit rfl ?_ | refine g_cond_t rfl ?_ | refine g_cond_f rfl ?_)
    refine g_region ?_
    refine gl_f (s_move rfl) rfl rfl rfl ?_
    refine gl_f (s_eql_ptr rfl rfl) rfl rfl rfl ?_
    refine gl_nil ?_
    repeat (first | refine g_seq ?_ | refine at_code ?_ | refine g_skip ?_ | refine g_block ?_ | refine g_exit rfl ?_ | refine g_cond_t rfl ?_ | refine g_cond_f rfl ?_)
    refine g_region ?_
    refine gl_f (s_move rfl) rfl rfl rfl ?_
    refine gl_f ((s_eql rfl rfl).eq (v' := .bool true) rfl) rfl rfl rfl ?_
    refine gl_f (s_assign rfl) rfl rfl rfl ?_
    refine gl_nil ?_
    repeat (first | refine g_seq ?_ | refine at_code ?_ | refine g_skip ?_ | refine g_block ?_ | refine g_exit rfl ?_ | refine g_cond_t rfl ?_ | refine g_cond_f rfl ?_)
    refine g_ret ?_
    exact at_end1 rfl rfl [] ⟨rfl, rfl⟩ (fun _ h => h)
  repeat (first | refine g_seq ?_ | refine at_code ?_ | refine g_skip ?_ | refine g_block ?_ | refine g_exit rfl ?_ | refine g_cond_t rfl ?_ | refine g_cond_f rfl ?_)
  refine g_region ?_
  refine gl_f (s_move rfl) rfl rfl rfl ?_
  refine gl_call _ rfl (New_ct cap) (fun w hw => hw) (fun _ _ _ => trivial) rfl ?_; intro v A h; obtain ⟨a0, hp0, rfl, rfl, hok0⟩ := h.good hq.symm
  refine gl_f (s_move rfl) rfl rfl rfl ?_
  refine gl_f (s_extract rfl rfl) rfl rfl rfl ?_
  refine gl_f (s_extract rfl rfl) rfl rfl rfl ?_
  refine gl_f (s_assign rfl) rfl rfl rfl ?_
  refine gl_f (s_assign rfl) rfl rfl rfl ?_
  refine gl_nil ?_
  repeat (first | refine g_seq ?_ | refine at_code ?_ | refine g_skip ?_ | refine g_block ?_ | refine g_exit rfl ?_ | refine g_cond_t rfl ?_ | refine g_cond_f rfl ?_)
  repeat (first | refine g_seq ?_ | refine at_code ?_ | refine g_skip ?_ | refine g_block ?_ | refine g_exit rfl ?_ | refine g_cond_t rfl ?_ | refine g_cond_f rfl ?_)
  refine g_region ?_
  refine gl_f (s_move rfl) rfl rfl rfl ?_
  refine gl_f (s_eql_ptr rfl rfl) rfl rfl rfl ?_
  refine gl_nil ?_
  repeat (first | refine g_seq ?_ | refine at_code ?_ | refine g_skip ?_ | refine g_block ?_ | refine g_exit rfl ?_ | refine g_cond_t rfl ?_ | refine g_cond_f rfl ?_)
  refine g_region ?_
  refine gl_f (s_assign rfl) rfl rfl rfl ?_
  refine gl_nil ?_
  repeat (first | refine g_seq ?_ | refine at_code ?_ | refine g_skip ?_ | refine g_block ?_ | refine g_exit rfl ?_ | refine g_cond_t rfl ?_ | refine g_cond_f rfl ?_)
  refine g_loop (ι := Nat × DM × DA) (fun i => PG cap l1 i.1 i.2.1 i.2.2) (fun i => [(0, .int .i64 cap), (1, .slice la1 l1.length lc1), (2, .slice la l.length lc), (3, .int .i64 k), (9, Ptr i.2.2.D), (11, .int .i64 (i.1 : Nat))]) (fun i => dskH i.2.1 i.2.2) (fun i => 100 - i.1) (0, newD cap, a0) ⟨⟨Nat.zero_le _, (by show 0 ≤ 100; decide)⟩, wf_new hq.symm, on_new cap, hok0⟩ ?_ ?_ ?_
  · (repeat (first | exact Sub.nil _ | refine Sub.cons rfl ?_))
  · intro w hw; exact Hp.left hw
  rintro ⟨i, x, a⟩ hP
  have hi := hP.le
  have hwf := hP.wf
  have hon := hP.on
  have hok := hP.ok
  simp only at hP hi hwf hon hok
  obtain ⟨q1, hq1⟩ : ∃ q, q = decide ((i : Int) < (l1.length : Nat)) := ⟨_, rfl⟩
  obtain ⟨q2, hq2⟩ : ∃ q, q = decide ((i : Int) < 100) := ⟨_, rfl⟩
  rcases (show (q1 = true ∧ q2 = true) ∨ q1 = false ∨ (q1 = true ∧ q2 = false) by cases q1 <;> cases q2 <;> simp) with ⟨rfl, rfl⟩ | rfl | ⟨rfl, rfl⟩
  · have hil : i < l1.length := by have := of_decide_eq_true hq1.symm; omega
    have hi3 : i < 100 := by have := of_decide_eq_true hq2.symm; omega
    have hsome := rdM_some hrd1 hil
    have hmi := am_get hm1 hil
    obtain ⟨m, hme⟩ : ∃ m, m = l1.getD i A0 := ⟨_, rfl⟩
    have hrdN : ∀ {w : World} {H : List As}, Hp F w H → PeekC (hp w) (addO la1 (((i : Nat) : Int).toNat * 4)) (amC m) := fun hw => by rw [hme]; exact rdM hw hrd1 (i := i) (by omega) hil
    rw [← hme] at hmi
    repeat (first | refine g_seq ?_ | refine at_code ?_ | refine g_skip ?_ | refine g_block ?_ | refine g_exit rfl ?_ | refine g_cond_t rfl ?_ | refine g_cond_f rfl ?_)
    refine g_region ?_
    refine gl_f (s_move rfl) rfl rfl rfl ?_
    refine gl_f (s_move rfl) rfl rfl rfl ?_
    refine gl_f (s_len_sl rfl) rfl rfl rfl ?_
    refine gl_f ((s_lss rfl rfl).eq (congrArg Value.bool hq1.symm)) rfl rfl rfl ?_
    refine gl_f (s_move rfl) rfl rfl rfl ?_
    (first | refine gl_guard_no rfl rfl rfl rfl rfl rfl rfl ?_ | refine gl_guard_un rfl rfl rfl rfl rfl rfl ?_ | (refine gl_guard_yes rfl rfl rfl ?_; refine gl_f (s_move rfl) rfl rfl rfl ?_))
    (first | refine gl_guard_no rfl rfl rfl rfl rfl rfl rfl ?_ | refine gl_guard_un rfl rfl rfl rfl rfl rfl ?_ | (refine gl_guard_yes rfl rfl rfl ?_; refine gl_f ((s_lss rfl rfl).eq (congrArg Value.bool hq2.symm)) rfl rfl rfl ?_))
    refine gl_f (by first | exact s_pick_t rfl rfl | exact s_pick_f rfl rfl) rfl rfl rfl ?_
    refine gl_nil ?_
    repeat (first | refine g_seq ?_ | refine at_code ?_ | refine g_skip ?_ | refine g_block ?_ | refine g_exit rfl ?_ | refine g_cond_t rfl ?_ | refine g_cond_f rfl ?_)
    repeat (first | refine g_seq ?_ | refine at_code ?_ | refine g_skip ?_ | refine g_block ?_ | refine g_exit rfl ?_ | refine g_cond_t rfl ?_ | refine g_cond_f rfl ?_)
    refine g_region ?_
    refine gl_f (s_move rfl) rfl rfl rfl ?_
    refine gl_f (s_move rfl) rfl rfl rfl ?_
    refine gl_f (s_move rfl) rfl rfl rfl ?_
    refine gl_f (s_indexAddr rfl (by assumption) rfl (by omega)) rfl rfl rfl ?_
    refine gl_r (s_loadN (cs := amC m) rfl (fun w hw => hrdN hw) rfl) rfl rfl rfl ?_
    refine gl_call [] rfl (lturn_ct x a m i hwf (by omega) hok hmi) (fun w hw => by rwa [List.append_nil]) (fun _ _ _ => trivial) rfl ?_; rintro v A ⟨rfl, a', Z, e1, rfl, hok', _⟩; refine gl_pull (H' := dskH (tD x m) a') (fun w hw => Hp.left (Hp.left hw)) ?_; rw [← e1]
    refine gl_nil ?_
    repeat (first | refine g_seq ?_ | refine at_code ?_ | refine g_skip ?_ | refine g_block ?_ | refine g_exit rfl ?_ | refine g_cond_t rfl ?_ | refine g_cond_f rfl ?_)
    repeat (first | refine g_seq ?_ | refine at_code ?_ | refine g_skip ?_ | refine g_block ?_ | refine g_exit rfl ?_ | refine g_cond_t rfl ?_ | refine g_cond_f rfl ?_)
    refine g_region ?_
    refine gl_f (s_move rfl) rfl rfl rfl ?_
    refine gl_f (s_add_i64 rfl rfl (by omega)) rfl rfl rfl ?_
    refine gl_f (s_assign rfl) rfl rfl rfl ?_
    refine gl_nil ?_
    repeat (first | refine g_seq ?_ | refine at_code ?_ | refine g_skip ?_ | refine g_block ?_ | refine g_exit rfl ?_ | refine g_cond_t rfl ?_ | refine g_cond_f rfl ?_)
    refine at_next (i + 1, tD x m, a') ⟨⟨by omega, by omega⟩, wf_t hwf m, on_t hon m, hok'⟩ (by simp only; omega) ?_ ?_
    · (repeat (first | exact Sub.nil _ | refine Sub.cons rfl ?_))
    · intro w hw; exact hw
  case' inr.inl =>
    repeat (first | refine g_seq ?_ | refine at_code ?_ | refine g_skip ?_ | refine g_block ?_ | refine g_exit rfl ?_ | refine g_cond_t rfl ?_ | refine g_cond_f rfl ?_)
    refine g_region ?_
    refine gl_f (s_move rfl) rfl rfl rfl ?_
    refine gl_f (s_move rfl) rfl rfl rfl ?_
    refine gl_f (s_len_sl rfl) rfl rfl rfl ?_
    refine gl_f ((s_lss rfl rfl).eq (congrArg Value.bool hq1.symm)) rfl rfl rfl ?_
    refine gl_f (s_move rfl) rfl rfl rfl ?_
    (first | refine gl_guard_no rfl rfl rfl rfl rfl rfl rfl ?_ | refine gl_guard_un rfl rfl rfl rfl rfl rfl ?_ | (refine gl_guard_yes rfl rfl rfl ?_; refine gl_f (s_move rfl) rfl rfl rfl ?_))
    (first | refine gl_guard_no rfl rfl rfl rfl rfl rfl rfl ?_ | refine gl_guard_un rfl rfl rfl rfl rfl rfl ?_ | (refine gl_guard_yes rfl rfl rfl ?_; refine gl_f (s_lss rfl rfl) rfl rfl rfl ?_))
    refine gl_f (by first | exact s_pick_t rfl rfl | exact s_pick_f rfl rfl) rfl rfl rfl ?_
    refine gl_nil ?_
    repeat (first | refine g_seq ?_ | refine at_code ?_ | refine g_skip ?_ | refine g_block ?_ | refine g_exit rfl ?_ | refine g_cond_t rfl ?_ | refine g_cond_f rfl ?_)
  case' inr.inr =>
    repeat (first | refine g_seq ?_ | refine at_code ?_ | refine g_skip ?_ | refine g_block ?_ | refine g_exit rfl ?_ | refine g_cond_t rfl ?_ | refine g_cond_f rfl ?_)
    refine g_region ?_
    refine gl_f (s_move rfl) rfl rfl rfl ?_
    refine gl_f (s_move rfl) rfl rfl rfl ?_
    refine gl_f (s_len_sl rfl) rfl rfl rfl ?_
    refine gl_f ((s_lss rfl rfl).eq (congrArg Value.bool hq1.symm)) rfl rfl rfl ?_
    refine gl_f (s_move rfl) rfl rfl rfl ?_
    (first | refine gl_guard_no rfl rfl rfl rfl rfl rfl rfl ?_ | refine gl_guard_un rfl rfl rfl rfl rfl rfl ?_ | (refine gl_guard_yes rfl rfl rfl ?_; refine gl_f (s_move rfl) rfl rfl rfl ?_))
    (first | refine gl_guard_no rfl rfl rfl rfl rfl rfl rfl ?_ | refine gl_guard_un rfl rfl rfl rfl rfl rfl ?_ | (refine gl_guard_yes rfl rfl rfl ?_; refine gl_f ((s_lss rfl rfl).eq (congrArg Value.bool hq2.symm)) rfl rfl rfl ?_))
    refine gl_f (by first | exact s_pick_t rfl rfl | exact s_pick_f rfl rfl) rfl rfl rfl ?_
    refine gl_nil ?_
    repeat (first | refine g_seq ?_ | refine at_code ?_ | refine g_skip ?_ | refine g_block ?_ | refine g_exit rfl ?_ | refine g_cond_t rfl ?_ | refine g_cond_f rfl ?_)
  all_goals
    have hse : syncE x = 0 := by rw [syncE, if_neg (by rw [hon.off]; decide)]
    repeat (first | refine g_seq ?_ | refine at_code ?_ | refine g_skip ?_ | refine g_block ?_ | refine g_exit rfl ?_ | refine g_cond_t rfl ?_ | refine g_cond_f rfl ?_)
    refine g_region ?_
    refine gl_f (s_move rfl) rfl rfl rfl ?_
    refine gl_call [] rfl (Sync_ct x a hwf.inv hok) (fun w hw => by rwa [List.append_nil]) (fun _ _ _ => trivial) rfl ?_; rw [hse]; rintro v A ⟨rfl, a1, Z1, e1, rfl, hok1, _⟩; refine gl_pull (H' := dskH (syncD x) a1) (fun w hw => Hp.left (Hp.left hw)) ?_; rw [← e1]
    refine gl_f ((s_neq rfl rfl).eq (v' := .bool false) rfl) rfl rfl rfl ?_
    refine gl_nil ?_
    repeat (first | refine g_seq ?_ | refine at_code ?_ | refine g_skip ?_ | refine g_block ?_ | refine g_exit rfl ?_ | refine g_cond_t rfl ?_ | refine g_cond_f rfl ?_)
    have hwf1 := (wf_sync hwf).mono (m := 100) (by omega)
    have hon1 := on_sync hon
    have hsy := sync_on hon.f
    have hpe1 : (syncD x).pend = [] := by rw [hsy]
    have hla1 : (syncD x).lasts = (syncD x).seen := by rw [hsy]
    have hpl1 := pl_nil hok1 hpe1
    generalize syncD x = x1 at *
    have hfs := files_on hwf1.inv hon1.off
    have hsl := (hwf1.small (by omega)).seen
    obtain ⟨S, hS⟩ : ∃ S, S = x1.seen := ⟨_, rfl⟩
    have hSs : Srt S := by rw [hS]; exact hwf1.inv.seen
    have hSl : S.length ≤ 1000000 := by rw [hS]; exact hsl
    have wr := run_wf hwf1 l
    have onr := run_on hon1 l
    repeat (first | refine g_seq ?_ | refine at_code ?_ | refine g_skip ?_ | refine g_block ?_ | refine g_exit rfl ?_ | refine g_cond_t rfl ?_ | refine g_cond_f rfl ?_)
    refine g_region ?_
    refine gl_f (s_move rfl) rfl rfl rfl ?_
    refine gl_call [] rfl (Twin_ct x1 a1 hok1 (by rw [hpl1]; decide)) (fun w hw => by rwa [List.append_nil]) (fun _ _ _ => trivial) rfl ?_; rintro v A ⟨t0, ht0, rfl, rfl, hokt⟩; refine gl_pull (H' := dskH x1 a1 ++ dskH x1 t0) (fun w hw => hw.perm (perm_up (by repeat first|exact .del|apply Upd.there) (perm_up (by repeat first|exact .del|apply Upd.there) (perm_up (by repeat first|exact .del|apply Upd.there) (perm_up (by repeat first|exact .del|apply Upd.there) (.refl _)))))) ?_
    refine gl_f (s_assign rfl) rfl rfl rfl ?_
    refine gl_nil ?_
    repeat (first | refine g_seq ?_ | refine at_code ?_ | refine g_skip ?_ | refine g_block ?_ | refine g_exit rfl ?_ | refine g_cond_t rfl ?_ | refine g_cond_f rfl ?_)
    repeat (first | refine g_seq ?_ | refine at_code ?_ | refine g_skip ?_ | refine g_block ?_ | refine g_exit rfl ?_ | refine g_cond_t rfl ?_ | refine g_cond_f rfl ?_)
    refine g_region ?_
    refine gl_f (s_move rfl) rfl rfl rfl ?_
    refine gl_f (s_eql_ptr rfl rfl) rfl rfl rfl ?_
    refine gl_nil ?_
    repeat (first | refine g_seq ?_ | refine at_code ?_ | refine g_skip ?_ | refine g_block ?_ | refine g_exit rfl ?_ | refine g_cond_t rfl ?_ | refine g_cond_f rfl ?_)
    refine g_region ?_
    refine gl_f (s_assign rfl) rfl rfl rfl ?_
    refine gl_nil ?_
    repeat (first | refine g_seq ?_ | refine at_code ?_ | refine g_skip ?_ | refine g_block ?_ | refine g_exit rfl ?_ | refine g_cond_t rfl ?_ | refine g_cond_f rfl ?_)
    refine g_loopF (ι := Nat × Snap × DA) (fun i => PB cap x1 l F i.1 i.2.1 i.2.2) (fun i => [(0, .int .i64 cap), (2, .slice la l.length lc), (3, .int .i64 k), (9, Ptr i.2.2.D), (12, Ptr t0.D), (13, .int .i64 (i.1 : Nat))]) (fun i => i.2.1) (fun i => dskH (runT x1 l i.1) i.2.2 ++ dskH x1 t0) (fun i => 100 - i.1) (0, F, a1) ⟨⟨Nat.zero_le _, (by show 0 ≤ 100; decide)⟩, Snap.le_refl _, hok1, fun p hp => by simp only [hpl1] at hp; cases hp⟩ ?_ rfl ?_ ?_
    · (repeat (first | exact Sub.nil _ | refine Sub.cons rfl ?_))
    · intro w hw; exact hw
    clear hP hi hwf hon hok hse e1
    rintro ⟨i, F', a⟩ hP
    have hi := hP.le
    have hle := hP.F
    have hok := hP.ok
    have hb := hP.b
    simp only at hP hi hle hok hb
    have hwf := wr i
    have hon := onr i
    obtain ⟨x, hx⟩ : ∃ x, x = runT x1 l i := ⟨_, rfl⟩
    have hrd : RdS F'.heap la (amL l) := hrd2.le hle.heap
    obtain ⟨p1, hp1⟩ : ∃ q, q = decide ((i : Int) < (l.length : Nat)) := ⟨_, rfl⟩
    obtain ⟨p2, hp2⟩ : ∃ q, q = decide ((i : Int) < 100) := ⟨_, rfl⟩
    rcases (show (p1 = true ∧ p2 = true) ∨ p1 = false ∨ (p1 = true ∧ p2 = false) by cases p1 <;> cases p2 <;> simp) with ⟨rfl, rfl⟩ | rfl | ⟨rfl, rfl⟩
    · have hil : i < l.length := by have := of_decide_eq_true hp1.symm; omega
      have hi3 : i < 100 := by have := of_decide_eq_true hp2.symm; omega
      have hsome := rdM_some hrd hil
      have hmi := am_get hm hil
      have er : runT x1 l (i + 1) = tD (runT x1 l i) (l.getD i A0) := rfl
      obtain ⟨m, hme⟩ : ∃ m, m = l.getD i A0 := ⟨_, rfl⟩
      have hrdN : ∀ {w : World} {H : List As}, Hp F' w H → PeekC (hp w) (addO la (((i : Nat) : Int).toNat * 4)) (amC m) := fun hw => by rw [hme]; exact rdM hw hrd (i := i) (by omega) hil
      rw [← hme] at hmi er
      repeat (first | refine g_seq ?_ | refine at_code ?_ | refine g_skip ?_ | refine g_block ?_ | refine g_exit rfl ?_ | refine g_cond_t rfl ?_ | refine g_cond_f rfl ?_)
      refine g_region ?_
      refine gl_f (s_move rfl) rfl rfl rfl ?_
      refine gl_f (s_move rfl) rfl rfl rfl ?_
      refine gl_f (s_len_sl rfl) rfl rfl rfl ?_
      refine gl_f ((s_lss rfl rfl).eq (congrArg Value.bool hp1.symm)) rfl rfl rfl ?_
      refine gl_f (s_move rfl) rfl rfl rfl ?_
      (first | refine gl_guard_no rfl rfl rfl rfl rfl rfl rfl ?_ | refine gl_guard_un rfl rfl rfl rfl rfl rfl ?_ | (refine gl_guard_yes rfl rfl rfl ?_; refine gl_f (s_move rfl) rfl rfl rfl ?_))
      (first | refine gl_guard_no rfl rfl rfl rfl rfl rfl rfl ?_ | refine gl_guard_un rfl rfl rfl rfl rfl rfl ?_ | (refine gl_guard_yes rfl rfl rfl ?_; refine gl_f ((s_lss rfl rfl).eq (congrArg Value.bool hp2.symm)) rfl rfl rfl ?_))
      refine gl_f (by first | exact s_pick_t rfl rfl | exact s_pick_f rfl rfl) rfl rfl rfl ?_
      refine gl_nil ?_
      repeat (first | refine g_seq ?_ | refine at_code ?_ | refine g_skip ?_ | refine g_block ?_ | refine g_exit rfl ?_ | refine g_cond_t rfl ?_ | refine g_cond_f rfl ?_)
      repeat (first | refine g_seq ?_ | refine at_code ?_ | refine g_skip ?_ | refine g_block ?_ | refine g_exit rfl ?_ | refine g_cond_t rfl ?_ | refine g_cond_f rfl ?_)
      refine g_region ?_
      refine gl_f (s_move rfl) rfl rfl rfl ?_
      refine gl_f (s_move rfl) rfl rfl rfl ?_
      refine gl_f (s_move rfl) rfl rfl rfl ?_
      refine gl_f (s_indexAddr rfl (by assumption) rfl (by omega)) rfl rfl rfl ?_
      refine gl_r (s_loadN (cs := amC m) rfl (fun w hw => hrdN hw) rfl) rfl rfl rfl ?_
      refine gl_call (dskH x1 t0) rfl (lturn_ct (runT x1 l i) a m (100 + i) hwf (by omega) hok hmi) (fun w hw => hw) (fun _ _ _ => trivial) rfl ?_; rw [← er]; rintro v A ⟨rfl, a', Z, e1, rfl, hok', fb⟩; refine gl_pull (H' := (dskH (runT x1 l (i + 1)) a' ++ dskH x1 t0) ++ Z) (fun w hw => Hp.swapR hw) ?_; refine gl_freeze (fun F2 hl2 hz => ?_); rw [← e1]
      refine gl_nil ?_
      repeat (first | refine g_seq ?_ | refine at_code ?_ | refine g_skip ?_ | refine g_block ?_ | refine g_exit rfl ?_ | refine g_cond_t rfl ?_ | refine g_cond_f rfl ?_)
      have hb2 : ∀ p ∈ a'.pl, PcOk F2.heap p := fb _ (fun p hp => (hb p hp).le hl2.heap) hz
      repeat (first | refine g_seq ?_ | refine at_code ?_ | refine g_skip ?_ | refine g_block ?_ | refine g_exit rfl ?_ | refine g_cond_t rfl ?_ | refine g_cond_f rfl ?_)
      refine g_region ?_
      refine gl_f (s_move rfl) rfl rfl rfl ?_
      refine gl_f (s_add_i64 rfl rfl (by omega)) rfl rfl rfl ?_
      refine gl_f (s_assign rfl) rfl rfl rfl ?_
      refine gl_nil ?_
      repeat (first | refine g_seq ?_ | refine at_code ?_ | refine g_skip ?_ | refine g_block ?_ | refine g_exit rfl ?_ | refine g_cond_t rfl ?_ | refine g_cond_f rfl ?_)
      refine at_nextF (i + 1, F2, a') ⟨⟨by omega, by omega⟩, hle.trans hl2, hok', hb2⟩ (by simp only; omega) ?_ rfl ?_
      · (repeat (first | exact Sub.nil _ | refine Sub.cons rfl ?_))
      · intro w hw; exact hw
    case' inr.inl =>
      have hiM : l.length ≤ i ∨ 100 ≤ i := .inl (by have := of_decide_eq_false hp1.symm; omega)
      repeat (first | refine g_seq ?_ | refine at_code ?_ | refine g_skip ?_ | refine g_block ?_ | refine g_exit rfl ?_ | refine g_cond_t rfl ?_ | refine g_cond_f rfl ?_)
      refine g_region ?_
      refine gl_f (s_move rfl) rfl rfl rfl ?_
      refine gl_f (s_move rfl) rfl rfl rfl ?_
      refine gl_f (s_len_sl rfl) rfl rfl rfl ?_
      refine gl_f ((s_lss rfl rfl).eq (congrArg Value.bool hp1.symm)) rfl rfl rfl ?_
      refine gl_f (s_move rfl) rfl rfl rfl ?_
      (first | refine gl_guard_no rfl rfl rfl rfl rfl rfl rfl ?_ | refine gl_guard_un rfl rfl rfl rfl rfl rfl ?_ | (refine gl_guard_yes rfl rfl rfl ?_; refine gl_f (s_move rfl) rfl rfl rfl ?_))
      (first | refine gl_guard_no rfl rfl rfl rfl rfl rfl rfl ?_ | refine gl_guard_un rfl rfl rfl rfl rfl rfl ?_ | (refine gl_guard_yes rfl rfl rfl ?_; refine gl_f (s_lss rfl rfl) rfl rfl rfl ?_))
      refine gl_f (by first | exact s_pick_t rfl rfl | exact s_pick_f rfl rfl) rfl rfl rfl ?_
      refine gl_nil ?_
      repeat (first | refine g_seq ?_ | refine at_code ?_ | refine g_skip ?_ | refine g_block ?_ | refine g_exit rfl ?_ | refine g_cond_t rfl ?_ | refine g_cond_f rfl ?_)
    case' inr.inr =>
      have hiM : l.length ≤ i ∨ 100 ≤ i := .inr (by have := of_decide_eq_false hp2.symm; omega)
      repeat (first | refine g_seq ?_ | refine at_code ?_ | refine g_skip ?_ | refine g_block ?_ | refine g_exit rfl ?_ | refine g_cond_t rfl ?_ | refine g_cond_f rfl ?_)
      refine g_region ?_
      refine gl_f (s_move rfl) rfl rfl rfl ?_
      refine gl_f (s_move rfl) rfl rfl rfl ?_
      refine gl_f (s_len_sl rfl) rfl rfl rfl ?_
      refine gl_f ((s_lss rfl rfl).eq (congrArg Value.bool hp1.symm)) rfl rfl rfl ?_
      refine gl_f (s_move rfl) rfl rfl rfl ?_
      (first | refine gl_guard_no rfl rfl rfl rfl rfl rfl rfl ?_ | refine gl_guard_un rfl rfl rfl rfl rfl rfl ?_ | (refine gl_guard_yes rfl rfl rfl ?_; refine gl_f (s_move rfl) rfl rfl rfl ?_))
      (first | refine gl_guard_no rfl rfl rfl rfl rfl rfl rfl ?_ | refine gl_guard_un rfl rfl rfl rfl rfl rfl ?_ | (refine gl_guard_yes rfl rfl rfl ?_; refine gl_f ((s_lss rfl rfl).eq (congrArg Value.bool hp2.symm)) rfl rfl rfl ?_))
      refine gl_f (by first | exact s_pick_t rfl rfl | exact s_pick_f rfl rfl) rfl rfl rfl ?_
      refine gl_nil ?_
      repeat (first | refine g_seq ?_ | refine at_code ?_ | refine g_skip ?_ | refine g_block ?_ | refine g_exit rfl ?_ | refine g_cond_t rfl ?_ | refine g_cond_f rfl ?_)
    all_goals
      rw [← hx] at hok hwf hon
      have hpl := pl_len hwf (by omega) hok
      have hpn : x.pend.length ≤ 1000000 := Nat.le_trans (Nat.le_trans (Nat.le_add_left _ _) hwf.sz) (by omega)
      have hcl := count_le hwf.inv
      obtain ⟨kn, hkn, hke⟩ := k_mod k (countD x)
      obtain ⟨c1, c2⟩ := crash_loss hkn
      have wy : Wf (lossD x kn) (100 + i) := by rw [← c2]; exact wf_crash hwf _
      have hus := wy.inv.used
      have hcy := wy.inv.cap
      have hcc : (lossD x kn).cap = cap := hon.cap
      have hfY : filesD (lossD x kn) = (lossD x kn).seen := files_on wy.inv rfl
      have hlY := (wy.small (by omega)).seen
      rw [← hx]
      repeat (first | refine g_seq ?_ | refine at_code ?_ | refine g_skip ?_ | refine g_block ?_ | refine g_exit rfl ?_ | refine g_cond_t rfl ?_ | refine g_cond_f rfl ?_)
      refine g_region ?_
      refine gl_f (s_move rfl) rfl rfl rfl ?_
      refine gl_f (s_conv_int rfl) rfl rfl rfl ?_
      refine gl_f (s_move rfl) rfl rfl rfl ?_
      refine gl_callp rfl (Pending_ct x a hwf.inv hok.pl hpn) (fun h hh ⟨bs, hb⟩ => ⟨Sat.blk hb (by repeat first|exact .del|apply Upd.there), Sat.rd (a := a.pa) hb (by repeat first|exact .del|apply Upd.there)⟩) rfl ?_
      refine gl_f (s_add_i64 rfl rfl (by omega)) rfl rfl rfl ?_
      refine gl_f (s_conv_keep_u64 rfl (by omega)) rfl rfl rfl ?_
      refine gl_f ((s_rem_pos rfl rfl ⟨by rw [IntKind.wrap_u64]; omega, by omega⟩).eq (congrArg (Value.int .u64) hke)) rfl rfl rfl ?_
      refine gl_f (s_conv_keep_i64 rfl (by omega)) rfl rfl rfl ?_
      refine gl_f (s_assign rfl) rfl rfl rfl ?_
      refine gl_nil ?_
      repeat (first | refine g_seq ?_ | refine at_code ?_ | refine g_skip ?_ | refine g_block ?_ | refine g_exit rfl ?_ | refine g_cond_t rfl ?_ | refine g_cond_f rfl ?_)
      repeat (first | refine g_seq ?_ | refine at_code ?_ | refine g_skip ?_ | refine g_block ?_ | refine g_exit rfl ?_ | refine g_cond_t rfl ?_ | refine g_cond_f rfl ?_)
      refine g_region ?_
      refine gl_f (s_move rfl) rfl rfl rfl ?_
      refine gl_f (s_move rfl) rfl rfl rfl ?_
      refine gl_call (dskH x1 t0) rfl (Crash_ct x a (kn : Nat) hwf.inv hok hpl (by omega)) (fun w hw => hw) (fun h hh _ p hp => (hb p hp).le hh) rfl ?_; rw [c1, c2]; rintro v A ⟨rfl, a2, e2, rfl, hok2, _⟩; rw [← e2]
      refine gl_f ((s_neq rfl rfl).eq (v' := .bool false) rfl) rfl rfl rfl ?_
      refine gl_f (s_move rfl) rfl rfl rfl ?_
      (first | refine gl_guard_no rfl rfl rfl rfl rfl rfl rfl ?_ | refine gl_guard_un rfl rfl rfl rfl rfl rfl ?_ | (refine gl_guard_yes rfl rfl rfl ?_; refine gl_f (s_move rfl) rfl rfl rfl ?_))
      (first | refine gl_guard_no rfl rfl rfl rfl rfl rfl rfl ?_ | refine gl_guard_un rfl rfl rfl rfl rfl rfl ?_ | (refine gl_guard_yes rfl rfl rfl ?_; refine gl_callp rfl (Pending_ct (lossD x kn) a2 wy.inv hok2.pl (Nat.zero_le _)) (fun h hh ⟨bs, hb⟩ => ⟨Sat.blk hb (by repeat first|exact .del|apply Upd.there), Sat.rd (a := a2.pa) hb (by repeat first|exact .del|apply Upd.there)⟩) rfl ?_; rw [loss_count]))
      (first | refine gl_guard_no rfl rfl rfl rfl rfl rfl rfl ?_ | refine gl_guard_un rfl rfl rfl rfl rfl rfl ?_ | (refine gl_guard_yes rfl rfl rfl ?_; refine gl_f ((s_neq rfl rfl).eq (v' := .bool false) rfl) rfl rfl rfl ?_))
      refine gl_f (by first | exact s_pick_t rfl rfl | exact s_pick_f rfl rfl) rfl rfl rfl ?_
      refine gl_f (s_move rfl) rfl rfl rfl ?_
      (first | refine gl_guard_no rfl rfl rfl rfl rfl rfl rfl ?_ | refine gl_guard_un rfl rfl rfl rfl rfl rfl ?_ | (refine gl_guard_yes rfl rfl rfl ?_; refine gl_f (s_move rfl) rfl rfl rfl ?_))
      (first | refine gl_guard_no rfl rfl rfl rfl rfl rfl rfl ?_ | refine gl_guard_un rfl rfl rfl rfl rfl rfl ?_ | (refine gl_guard_yes rfl rfl rfl ?_; refine gl_callp rfl (Used_ct (lossD x kn) a2 hok2.seen (by omega)) (fun h hh ⟨bs, hb⟩ => ⟨Sat.blk hb (by repeat first|exact .del|apply Upd.there), Sat.blk hb (by repeat first|exact .del|apply Upd.there)⟩) rfl ?_))
      (first | refine gl_guard_no rfl rfl rfl rfl rfl rfl rfl ?_ | refine gl_guard_un rfl rfl rfl rfl rfl rfl ?_ | (refine gl_guard_yes rfl rfl rfl ?_; refine gl_f (s_move rfl) rfl rfl rfl ?_))
      (first | refine gl_guard_no rfl rfl rfl rfl rfl rfl rfl ?_ | refine gl_guard_un rfl rfl rfl rfl rfl rfl ?_ | (refine gl_guard_yes rfl rfl rfl ?_; refine gl_f ((s_gtr rfl rfl).eq (v' := .bool false) (by simp; omega)) rfl rfl rfl ?_))
      refine gl_f (by first | exact s_pick_t rfl rfl | exact s_pick_f rfl rfl) rfl rfl rfl ?_
      refine gl_nil ?_
      repeat (first | refine g_seq ?_ | refine at_code ?_ | refine g_skip ?_ | refine g_block ?_ | refine g_exit rfl ?_ | refine g_cond_t rfl ?_ | refine g_cond_f rfl ?_)
      repeat (first | refine g_seq ?_ | refine at_code ?_ | refine g_skip ?_ | refine g_block ?_ | refine g_exit rfl ?_ | refine g_cond_t rfl ?_ | refine g_cond_f rfl ?_)
      refine g_region ?_
      refine gl_f (s_assign rfl) rfl rfl rfl ?_
      refine gl_nil ?_
      repeat (first | refine g_seq ?_ | refine at_code ?_ | refine g_skip ?_ | refine g_block ?_ | refine g_exit rfl ?_ | refine g_cond_t rfl ?_ | refine g_cond_f rfl ?_)
      have hk0 : countD (runT x1 l 0) ≤ kn := by
        show countD x1 ≤ kn
        rw [show countD x1 = 0 by rw [countD, hpe1]; rfl]
        exact Nat.zero_le _
      refine g_loop (ι := Nat × DA) (fun j => PT x1 l kn j.1 j.2) (fun j => [(2, .slice la l.length lc), (3, .int .i64 (kn : Nat)), (9, Ptr a2.D), (12, Ptr j.2.D), (14, .int .i64 (j.1 : Nat))]) (fun j => dskH (lossD x kn) a2 ++ dskH (runT x1 l j.1) j.2) (fun j => 100 - j.1) (0, t0) ⟨⟨Nat.zero_le _, (by show 0 ≤ 100; decide)⟩, hokt, hk0⟩ ?_ ?_ ?_
      · (repeat (first | exact Sub.nil _ | refine Sub.cons rfl ?_))
      · intro w hw; exact hw
      rintro ⟨j, t⟩ hT
      have hj := hT.le
      have hokj := hT.ok
      have hkj := hT.k
      simp only at hT hj hokj hkj
      have wj := wr j
      have onj := onr j
      have hfj := files_on wj.inv onj.off
      have hlj := (wj.small (by omega)).seen
      have hplj := pl_len wj (by omega) hokj
      have hpnj : (runT x1 l j).pend.length ≤ 1000000 := Nat.le_trans (Nat.le_trans (Nat.le_add_left _ _) wj.sz) (by omega)
      obtain ⟨r1, hr1⟩ : ∃ q, q = decide ((j : Int) < (l.length : Nat)) := ⟨_, rfl⟩
      obtain ⟨r2, hr2⟩ : ∃ q, q = decide ((j : Int) < 100) := ⟨_, rfl⟩
      rcases (show (r1 = true ∧ r2 = true) ∨ r1 = false ∨ (r1 = true ∧ r2 = false) by cases r1 <;> cases r2 <;> simp) with ⟨rfl, rfl⟩ | rfl | ⟨rfl, rfl⟩
      rotate_left
      case' inr.inl =>
        have hjM : j = i := by have := of_decide_eq_false hr1.symm; omega
        repeat (first | refine g_seq ?_ | refine at_code ?_ | refine g_skip ?_ | refine g_block ?_ | refine g_exit rfl ?_ | refine g_cond_t rfl ?_ | refine g_cond_f rfl ?_)
        refine g_region ?_
        refine gl_f (s_move rfl) rfl rfl rfl ?_
        refine gl_f (s_move rfl) rfl rfl rfl ?_
        refine gl_f (s_len_sl rfl) rfl rfl rfl ?_
        refine gl_f ((s_lss rfl rfl).eq (congrArg Value.bool hr1.symm)) rfl rfl rfl ?_
        refine gl_f (s_move rfl) rfl rfl rfl ?_
        (first | refine gl_guard_no rfl rfl rfl rfl rfl rfl rfl ?_ | refine gl_guard_un rfl rfl rfl rfl rfl rfl ?_ | (refine gl_guard_yes rfl rfl rfl ?_; refine gl_f (s_move rfl) rfl rfl rfl ?_))
        (first | refine gl_guard_no rfl rfl rfl rfl rfl rfl rfl ?_ | refine gl_guard_un rfl rfl rfl rfl rfl rfl ?_ | (refine gl_guard_yes rfl rfl rfl ?_; refine gl_f (s_lss rfl rfl) rfl rfl rfl ?_))
        refine gl_f (by first | exact s_pick_t rfl rfl | exact s_pick_f rfl rfl) rfl rfl rfl ?_
        refine gl_nil ?_
        repeat (first | refine g_seq ?_ | refine at_code ?_ | refine g_skip ?_ | refine g_block ?_ | refine g_exit rfl ?_ | refine g_cond_t rfl ?_ | refine g_cond_f rfl ?_)
      case' inr.inr =>
        have hjM : j = i := by have := of_decide_eq_false hr2.symm; omega
        repeat (first | refine g_seq ?_ | refine at_code ?_ | refine g_skip ?_ | refine g_block ?_ | refine g_exit rfl ?_ | refine g_cond_t rfl ?_ | refine g_cond_f rfl ?_)
        refine g_region ?_
        refine gl_f (s_move rfl) rfl rfl rfl ?_
        refine gl_f (s_move rfl) rfl rfl rfl ?_
        refine gl_f (s_len_sl rfl) rfl rfl rfl ?_
        refine gl_f ((s_lss rfl rfl).eq (congrArg Value.bool hr1.symm)) rfl rfl rfl ?_
        refine gl_f (s_move rfl) rfl rfl rfl ?_
        (first | refine gl_guard_no rfl rfl rfl rfl rfl rfl rfl ?_ | refine gl_guard_un rfl rfl rfl rfl rfl rfl ?_ | (refine gl_guard_yes rfl rfl rfl ?_; refine gl_f (s_move rfl) rfl rfl rfl ?_))
        (first | refine gl_guard_no rfl rfl rfl rfl rfl rfl rfl ?_ | refine gl_guard_un rfl rfl rfl rfl rfl rfl ?_ | (refine gl_guard_yes rfl rfl rfl ?_; refine gl_f ((s_lss rfl rfl).eq (congrArg Value.bool hr2.symm)) rfl rfl rfl ?_))
        refine gl_f (by first | exact s_pick_t rfl rfl | exact s_pick_f rfl rfl) rfl rfl rfl ?_
        refine gl_nil ?_
        repeat (first | refine g_seq ?_ | refine at_code ?_ | refine g_skip ?_ | refine g_block ?_ | refine g_exit rfl ?_ | refine g_cond_t rfl ?_ | refine g_cond_f rfl ?_)
      rotate_right
      · have hjl : j < l.length := by have := of_decide_eq_true hr1.symm; omega
        have hj3 : j < 100 := by have := of_decide_eq_true hr2.symm; omega
        have hji : j + 1 ≤ i := by omega
        have hsomeJ := rdM_some hrd hjl
        have hmj := am_get hm hjl
        have er : runT x1 l (j + 1) = tD (runT x1 l j) (l.getD j A0) := rfl
        have wj1 := wr (j + 1)
        have onj1 := onr (j + 1)
        have hcl1 := count_le wj1.inv
        have hclj := count_le wj.inv
        have mid := begins_mid (k := kn) hwf1 hon1 l hji hkj
        rw [← hx] at mid
        obtain ⟨m, hme⟩ : ∃ m, m = l.getD j A0 := ⟨_, rfl⟩
        have hrdN : ∀ {w : World} {H : List As}, Hp F' w H → PeekC (hp w) (addO la (((j : Nat) : Int).toNat * 4)) (amC m) := fun hw => by rw [hme]; exact rdM hw hrd (i := j) (by omega) hjl
        rw [← hme] at hmj er mid
        clear hme
        obtain ⟨kind, name, sx, kx⟩ := m
        simp only at mid
        have hmn := hmj.name
        have hms := hmj.s
        simp only at hmn hms
        repeat (first | refine g_seq ?_ | refine at_code ?_ | refine g_skip ?_ | refine g_block ?_ | refine g_exit rfl ?_ | refine g_cond_t rfl ?_ | refine g_cond_f rfl ?_)
        refine g_region ?_
        refine gl_f (s_move rfl) rfl rfl rfl ?_
        refine gl_f (s_move rfl) rfl rfl rfl ?_
        refine gl_f (s_len_sl rfl) rfl rfl rfl ?_
        refine gl_f ((s_lss rfl rfl).eq (congrArg Value.bool hr1.symm)) rfl rfl rfl ?_
        refine gl_f (s_move rfl) rfl rfl rfl ?_
        (first | refine gl_guard_no rfl rfl rfl rfl rfl rfl rfl ?_ | refine gl_guard_un rfl rfl rfl rfl rfl rfl ?_ | (refine gl_guard_yes rfl rfl rfl ?_; refine gl_f (s_move rfl) rfl rfl rfl ?_))
        (first | refine gl_guard_no rfl rfl rfl rfl rfl rfl rfl ?_ | refine gl_guard_un rfl rfl rfl rfl rfl rfl ?_ | (refine gl_guard_yes rfl rfl rfl ?_; refine gl_f ((s_lss rfl rfl).eq (congrArg Value.bool hr2.symm)) rfl rfl rfl ?_))
        refine gl_f (by first | exact s_pick_t rfl rfl | exact s_pick_f rfl rfl) rfl rfl rfl ?_
        refine gl_nil ?_
        repeat (first | refine g_seq ?_ | refine at_code ?_ | refine g_skip ?_ | refine g_block ?_ | refine g_exit rfl ?_ | refine g_cond_t rfl ?_ | refine g_cond_f rfl ?_)
        repeat (first | refine g_seq ?_ | refine at_code ?_ | refine g_skip ?_ | refine g_block ?_ | refine g_exit rfl ?_ | refine g_cond_t rfl ?_ | refine g_cond_f rfl ?_)
        refine g_region ?_
        refine gl_f (s_move rfl) rfl rfl rfl ?_
        refine gl_f (s_move rfl) rfl rfl rfl ?_
        refine gl_f (s_indexAddr rfl (by assumption) rfl (by omega)) rfl rfl rfl ?_
        refine gl_r (s_loadN (cs := amC ⟨kind, name, sx, kx⟩) rfl (fun w hw => hrdN hw) rfl) rfl rfl rfl ?_
        refine gl_allocA rfl ?_; intro g15
        (first | refine gl_store_blkW rfl rfl (by repeat first|exact .here|apply Upd.there) (by rfl) (by rfl) (by (intro q hq; simp [Value.cells] at hq; first | (subst hq; rfl) | (rcases hq with rfl | rfl | rfl | rfl | rfl | rfl | rfl | rfl <;> rfl) | (rcases hq with rfl | rfl | rfl | rfl | rfl | rfl | rfl <;> rfl) | (rcases hq with rfl | rfl | rfl | rfl | rfl | rfl <;> rfl) | (rcases hq with rfl | rfl | rfl | rfl | rfl <;> rfl) | (rcases hq with rfl | rfl | rfl | rfl <;> rfl) | (rcases hq with rfl | rfl | rfl <;> rfl) | (rcases hq with rfl | rfl <;> rfl))) ?_ | refine gl_store_blk rfl rfl (by repeat first|exact .here|apply Upd.there) (by rfl) (by (intro q hq; simp [Value.cells] at hq; first | (subst hq; rfl) | (rcases hq with rfl | rfl | rfl | rfl | rfl | rfl | rfl | rfl <;> rfl) | (rcases hq with rfl | rfl | rfl | rfl | rfl | rfl | rfl <;> rfl) | (rcases hq with rfl | rfl | rfl | rfl | rfl | rfl <;> rfl) | (rcases hq with rfl | rfl | rfl | rfl | rfl <;> rfl) | (rcases hq with rfl | rfl | rfl | rfl <;> rfl) | (rcases hq with rfl | rfl | rfl <;> rfl) | (rcases hq with rfl | rfl <;> rfl))) (by rfl) ?_)
        refine gl_nil ?_
        repeat (first | refine g_seq ?_ | refine at_code ?_ | refine g_skip ?_ | refine g_block ?_ | refine g_exit rfl ?_ | refine g_cond_t rfl ?_ | refine g_cond_f rfl ?_)
        repeat (first | refine g_seq ?_ | refine at_code ?_ | refine g_skip ?_ | refine g_block ?_ | refine g_exit rfl ?_ | refine g_cond_t rfl ?_ | refine g_cond_f rfl ?_)
        refine g_region ?_
        refine gl_f (s_move rfl) rfl rfl rfl ?_
        refine gl_callp rfl (Pending_ct (runT x1 l j) t wj.inv hokj.pl hpnj) (fun h hh ⟨bs, hb⟩ => ⟨Sat.blk hb (by repeat first|exact .del|apply Upd.there), Sat.rd (a := t.pa) hb (by repeat first|exact .del|apply Upd.there)⟩) rfl ?_
        refine gl_f (s_assign rfl) rfl rfl rfl ?_
        refine gl_nil ?_
        repeat (first | refine g_seq ?_ | refine at_code ?_ | refine g_skip ?_ | refine g_block ?_ | refine g_exit rfl ?_ | refine g_cond_t rfl ?_ | refine g_cond_f rfl ?_)
        obtain ⟨M, hM⟩ : ∃ M : AM, M = ⟨kind, name, sx, kx⟩ := ⟨_, rfl⟩
        repeat (first | refine g_seq ?_ | refine at_code ?_ | refine g_skip ?_ | refine g_block ?_ | refine g_exit rfl ?_ | refine g_cond_t rfl ?_ | refine g_cond_f rfl ?_)
        refine g_region ?_
        refine gl_f (s_move rfl) rfl rfl rfl ?_
        refine gl_call (.blk g15 (.cells #[.int .i64 kind, B name, B sx, .int .i64 kx] 30) :: dskH (lossD x kn) a2) rfl (Twin_ct (runT x1 l j) t hokj hplj) (fun w hw => hw.perm (perm_up (by repeat first|exact .del|apply Upd.there) (perm_up (by repeat first|exact .del|apply Upd.there) (perm_up (by repeat first|exact .del|apply Upd.there) (perm_up (by repeat first|exact .del|apply Upd.there) (.refl _)))))) (fun _ _ _ => trivial) rfl ?_; rintro v A ⟨u, hu, rfl, rfl, hoku⟩
        refine gl_f (s_assign rfl) rfl rfl rfl ?_
        refine gl_nil ?_
        repeat (first | refine g_seq ?_ | refine at_code ?_ | refine g_skip ?_ | refine g_block ?_ | refine g_exit rfl ?_ | refine g_cond_t rfl ?_ | refine g_cond_f rfl ?_)
        obtain ⟨q3, hq3⟩ : ∃ q, q = decide (tE (runT x1 l j) ⟨kind, name, sx, kx⟩ = 0) := ⟨_, rfl⟩
        cases q3
        · have h0 := of_decide_eq_false hq3.symm
          have hno := t_no h0
          repeat (first | refine g_seq ?_ | refine at_code ?_ | refine g_skip ?_ | refine g_block ?_ | refine g_exit rfl ?_ | refine g_cond_t rfl ?_ | refine g_cond_f rfl ?_)
          refine g_region ?_
          refine gl_f (s_move rfl) rfl rfl rfl ?_
          refine gl_r (by first | exact s_load_blkW rfl (by repeat first|exact .del|apply Upd.there) (by rfl) | exact s_load_blkN rfl (by repeat first|exact .del|apply Upd.there) (by rfl) | exact s_loadN rfl (fun w hw => peekBN hw (by assumption)) (by rfl)) rfl rfl rfl ?_
          refine gl_call (dskH (runT x1 l j) u ++ (.blk g15 (.cells #[.int .i64 kind, B name, B sx, .int .i64 kx] 30) :: dskH (lossD x kn) a2)) rfl (lturn_ct (runT x1 l j) t ⟨kind, name, sx, kx⟩ (100 + j) wj (by omega) hokj hmj) (fun w hw => hw.perm (perm_up (by repeat first|exact .del|apply Upd.there) (perm_up (by repeat first|exact .del|apply Upd.there) (perm_up (by repeat first|exact .del|apply Upd.there) (perm_up (by repeat first|exact .del|apply Upd.there) (.refl _)))))) (fun _ _ _ => trivial) rfl ?_; rw [← er]; rintro v A ⟨rfl, t', Z, e1, rfl, hok', _⟩; refine gl_pull (H' := dskH (lossD x kn) a2 ++ dskH (runT x1 l (j + 1)) t') (fun w hw => (fun hw : Hp _ w (dskH (runT x1 l (j + 1)) t' ++ (dskH (runT x1 l j) u ++ (.blk g15 (.cells #[.int .i64 kind, B name, B sx, .int .i64 kx] 30) :: dskH (lossD x kn) a2))) => Hp.left (A := dskH (lossD x kn) a2 ++ dskH (runT x1 l (j + 1)) t') (R := dskH (runT x1 l j) u ++ [.blk g15 (.cells #[.int .i64 kind, B name, B sx, .int .i64 kx] 30)]) (hw.perm (perm_up (by repeat first|exact .del|apply Upd.there) (perm_up (by repeat first|exact .del|apply Upd.there) (perm_up (by repeat first|exact .del|apply Upd.there) (perm_up (by repeat first|exact .del|apply Upd.there) (perm_up (by repeat first|exact .del|apply Upd.there) (perm_up (by repeat first|exact .del|apply Upd.there) (perm_up (by repeat first|exact .del|apply Upd.there) (perm_up (by repeat first|exact .del|apply Upd.there) (.refl _))))))))))) (Hp.left (Hp.swapR hw))) ?_; rw [← e1]
          refine gl_f ((s_neq rfl rfl).eq (v' := .bool true) (by simp [h0])) rfl rfl rfl ?_
          refine gl_nil ?_
          repeat (first | refine g_seq ?_ | refine at_code ?_ | refine g_skip ?_ | refine g_block ?_ | refine g_exit rfl ?_ | refine g_cond_t rfl ?_ | refine g_cond_f rfl ?_)
          repeat (first | refine g_seq ?_ | refine at_code ?_ | refine g_skip ?_ | refine g_block ?_ | refine g_exit rfl ?_ | refine g_cond_t rfl ?_ | refine g_cond_f rfl ?_)
          refine g_region ?_
          refine gl_f (s_move rfl) rfl rfl rfl ?_
          refine gl_f (s_add_i64 rfl rfl (by omega)) rfl rfl rfl ?_
          refine gl_f (s_assign rfl) rfl rfl rfl ?_
          refine gl_nil ?_
          repeat (first | refine g_seq ?_ | refine at_code ?_ | refine g_skip ?_ | refine g_block ?_ | refine g_exit rfl ?_ | refine g_cond_t rfl ?_ | refine g_cond_f rfl ?_)
          refine at_next (j + 1, t') ⟨⟨by omega, by omega⟩, hok', by rw [er, hno]; exact hkj⟩ (by simp only; omega) ?_ ?_
          · (repeat (first | exact Sub.nil _ | refine Sub.cons rfl ?_))
          · intro w hw; exact hw
        have h0 := of_decide_eq_true hq3.symm
        obtain ⟨q4, hq4⟩ : ∃ q, q = decide ((kn : Int) < ((countD (runT x1 l (j + 1)) : Nat) : Int)) := ⟨_, rfl⟩
        have hpnk : (runT x1 l (j + 1)).pend.length ≤ 1000000 := Nat.le_trans (Nat.le_trans (Nat.le_add_left _ _) wj1.sz) (by omega)
        repeat (first | refine g_seq ?_ | refine at_code ?_ | refine g_skip ?_ | refine g_block ?_ | refine g_exit rfl ?_ | refine g_cond_t rfl ?_ | refine g_cond_f rfl ?_)
        refine g_region ?_
        refine gl_f (s_move rfl) rfl rfl rfl ?_
        refine gl_r (by first | exact s_load_blkW rfl (by repeat first|exact .del|apply Upd.there) (by rfl) | exact s_load_blkN rfl (by repeat first|exact .del|apply Upd.there) (by rfl) | exact s_loadN rfl (fun w hw => peekBN hw (by assumption)) (by rfl)) rfl rfl rfl ?_
        refine gl_call (dskH (runT x1 l j) u ++ (.blk g15 (.cells #[.int .i64 kind, B name, B sx, .int .i64 kx] 30) :: dskH (lossD x kn) a2)) rfl (lturn_ct (runT x1 l j) t ⟨kind, name, sx, kx⟩ (100 + j) wj (by omega) hokj hmj) (fun w hw => hw.perm (perm_up (by repeat first|exact .del|apply Upd.there) (perm_up (by repeat first|exact .del|apply Upd.there) (perm_up (by repeat first|exact .del|apply Upd.there) (perm_up (by repeat first|exact .del|apply Upd.there) (.refl _)))))) (fun _ _ _ => trivial) rfl ?_; rw [← er, h0]; rintro v A ⟨rfl, t', Z, e1, rfl, hok', _⟩; refine gl_pull (H' := dskH (runT x1 l (j + 1)) t' ++ (dskH (runT x1 l j) u ++ (.blk g15 (.cells #[.int .i64 kind, B name, B sx, .int .i64 kx] 30) :: dskH (lossD x kn) a2))) (fun w hw => Hp.left (Hp.swapR hw)) ?_; rw [← e1]
        refine gl_f ((s_neq rfl rfl).eq (v' := .bool false) rfl) rfl rfl rfl ?_
        refine gl_nil ?_
        repeat (first | refine g_seq ?_ | refine at_code ?_ | refine g_skip ?_ | refine g_block ?_ | refine g_exit rfl ?_ | refine g_cond_t rfl ?_ | refine g_cond_f rfl ?_)
        repeat (first | refine g_seq ?_ | refine at_code ?_ | refine g_skip ?_ | refine g_block ?_ | refine g_exit rfl ?_ | refine g_cond_t rfl ?_ | refine g_cond_f rfl ?_)
        refine g_region ?_
        refine gl_f (s_move rfl) rfl rfl rfl ?_
        refine gl_callp rfl (Pending_ct (runT x1 l (j + 1)) t' wj1.inv hok'.pl hpnk) (fun h hh ⟨bs, hb⟩ => ⟨Sat.blk hb (by repeat first|exact .del|apply Upd.there), Sat.rd (a := t'.pa) hb (by repeat first|exact .del|apply Upd.there)⟩) rfl ?_
        refine gl_f (s_move rfl) rfl rfl rfl ?_
        refine gl_f ((s_gtr rfl rfl).eq (congrArg Value.bool hq4.symm)) rfl rfl rfl ?_
        refine gl_nil ?_
        repeat (first | refine g_seq ?_ | refine at_code ?_ | refine g_skip ?_ | refine g_block ?_ | refine g_exit rfl ?_ | refine g_cond_t rfl ?_ | refine g_cond_f rfl ?_)
        cases q4
        · repeat (first | refine g_seq ?_ | refine at_code ?_ | refine g_skip ?_ | refine g_block ?_ | refine g_exit rfl ?_ | refine g_cond_t rfl ?_ | refine g_cond_f rfl ?_)
          refine g_region ?_
          refine gl_f (s_move rfl) rfl rfl rfl ?_
          refine gl_f (s_add_i64 rfl rfl (by omega)) rfl rfl rfl ?_
          refine gl_f (s_assign rfl) rfl rfl rfl ?_
          refine gl_nil ?_
          repeat (first | refine g_seq ?_ | refine at_code ?_ | refine g_skip ?_ | refine g_block ?_ | refine g_exit rfl ?_ | refine g_cond_t rfl ?_ | refine g_cond_f rfl ?_)
          refine at_next (j + 1, t') ⟨⟨by omega, by omega⟩, hok', by have := of_decide_eq_false hq4.symm; simp only; omega⟩ (by simp only; omega) ?_ ?_
          · (repeat (first | exact Sub.nil _ | refine Sub.cons rfl ?_))
          · intro w hw; exact Hp.left (A := dskH (lossD x kn) a2 ++ dskH (runT x1 l (j + 1)) t') (R := dskH (runT x1 l j) u ++ [.blk g15 (.cells #[.int .i64 kind, B name, B sx, .int .i64 kx] 30)]) (hw.perm (perm_up (by repeat first|exact .del|apply Upd.there) (perm_up (by repeat first|exact .del|apply Upd.there) (perm_up (by repeat first|exact .del|apply Upd.there) (perm_up (by repeat first|exact .del|apply Upd.there) (perm_up (by repeat first|exact .del|apply Upd.there) (perm_up (by repeat first|exact .del|apply Upd.there) (perm_up (by repeat first|exact .del|apply Upd.there) (perm_up (by repeat first|exact .del|apply Upd.there) (.refl _))))))))))
        obtain ⟨m1, m2⟩ := mid (by have := of_decide_eq_true hq4.symm; omega)
        obtain ⟨q5, hq5⟩ : ∃ q, q = decide (kind = 1) := ⟨_, rfl⟩
        obtain ⟨q6, hq6⟩ : ∃ q, q = decide (((countD (runT x1 l j) : Nat) : Int) < (kn : Int)) := ⟨_, rfl⟩
        rcases (show (q5 = true ∧ q6 = true) ∨ q5 = false ∨ (q5 = true ∧ q6 = false) by cases q5 <;> cases q6 <;> simp) with ⟨rfl, rfl⟩ | rfl | ⟨rfl, rfl⟩
        rotate_left
        case' inr.inl =>
          have hse := m2 (fun ⟨h, _⟩ => of_decide_eq_false hq5.symm h)
          repeat (first | refine g_seq ?_ | refine at_code ?_ | refine g_skip ?_ | refine g_block ?_ | refine g_exit rfl ?_ | refine g_cond_t rfl ?_ | refine g_cond_f rfl ?_)
          refine g_region ?_
          refine gl_f (by first | exact s_fieldAddr rfl (by rfl) (by infer_instance) (by decide) | exact s_fieldAddr_o rfl (by assumption) (by rfl) (by infer_instance) (by decide)) rfl rfl rfl ?_
          refine gl_r (s_load1 (v := .int .i64 kind) rfl (fun w hw => peek_blk hw (by repeat first|exact .del|apply Upd.there) rfl)) rfl rfl rfl ?_
          refine gl_f ((s_eql rfl rfl).eq (congrArg Value.bool hq5.symm)) rfl rfl rfl ?_
          refine gl_f (s_move rfl) rfl rfl rfl ?_
          (first | refine gl_guard_no rfl rfl rfl rfl rfl rfl rfl ?_ | refine gl_guard_un rfl rfl rfl rfl rfl rfl ?_ | (refine gl_guard_yes rfl rfl rfl ?_; refine gl_f (s_move rfl) rfl rfl rfl ?_))
          (first | refine gl_guard_no rfl rfl rfl rfl rfl rfl rfl ?_ | refine gl_guard_un rfl rfl rfl rfl rfl rfl ?_ | (refine gl_guard_yes rfl rfl rfl ?_; refine gl_f (s_move rfl) rfl rfl rfl ?_))
          (first | refine gl_guard_no rfl rfl rfl rfl rfl rfl rfl ?_ | refine gl_guard_un rfl rfl rfl rfl rfl rfl ?_ | (refine gl_guard_yes rfl rfl rfl ?_; refine gl_f (s_gtr rfl rfl) rfl rfl rfl ?_))
          refine gl_f (by first | exact s_pick_t rfl rfl | exact s_pick_f rfl rfl) rfl rfl rfl ?_
          refine gl_nil ?_
          repeat (first | refine g_seq ?_ | refine at_code ?_ | refine g_skip ?_ | refine g_block ?_ | refine g_exit rfl ?_ | refine g_cond_t rfl ?_ | refine g_cond_f rfl ?_)
        case' inr.inr =>
          have hse := m2 (fun ⟨_, h⟩ => of_decide_eq_false hq6.symm (by omega))
          repeat (first | refine g_seq ?_ | refine at_code ?_ | refine g_skip ?_ | refine g_block ?_ | refine g_exit rfl ?_ | refine g_cond_t rfl ?_ | refine g_cond_f rfl ?_)
          refine g_region ?_
          refine gl_f (by first | exact s_fieldAddr rfl (by rfl) (by infer_instance) (by decide) | exact s_fieldAddr_o rfl (by assumption) (by rfl) (by infer_instance) (by decide)) rfl rfl rfl ?_
          refine gl_r (by first | exact s_load_blk rfl (by repeat first|exact .del|apply Upd.there) (by rfl) | exact s_load1 rfl (fun w hw => peekB hw (by assumption) (by rfl))) rfl rfl rfl ?_
          refine gl_f ((s_eql rfl rfl).eq (congrArg Value.bool hq5.symm)) rfl rfl rfl ?_
          refine gl_f (s_move rfl) rfl rfl rfl ?_
          (first | refine gl_guard_no rfl rfl rfl rfl rfl rfl rfl ?_ | refine gl_guard_un rfl rfl rfl rfl rfl rfl ?_ | (refine gl_guard_yes rfl rfl rfl ?_; refine gl_f (s_move rfl) rfl rfl rfl ?_))
          (first | refine gl_guard_no rfl rfl rfl rfl rfl rfl rfl ?_ | refine gl_guard_un rfl rfl rfl rfl rfl rfl ?_ | (refine gl_guard_yes rfl rfl rfl ?_; refine gl_f (s_move rfl) rfl rfl rfl ?_))
          (first | refine gl_guard_no rfl rfl rfl rfl rfl rfl rfl ?_ | refine gl_guard_un rfl rfl rfl rfl rfl rfl ?_ | (refine gl_guard_yes rfl rfl rfl ?_; refine gl_f ((s_gtr rfl rfl).eq (congrArg Value.bool hq6.symm)) rfl rfl rfl ?_))
          refine gl_f (by first | exact s_pick_t rfl rfl | exact s_pick_f rfl rfl) rfl rfl rfl ?_
          refine gl_nil ?_
          repeat (first | refine g_seq ?_ | refine at_code ?_ | refine g_skip ?_ | refine g_block ?_ | refine g_exit rfl ?_ | refine g_cond_t rfl ?_ | refine g_cond_f rfl ?_)
        rotate_right
        · obtain ⟨hle5, he5, hs5⟩ := m1 ⟨of_decide_eq_true hq5.symm, by have := of_decide_eq_true hq6.symm; omega⟩
          repeat (first | refine g_seq ?_ | refine at_code ?_ | refine g_skip ?_ | refine g_block ?_ | refine g_exit rfl ?_ | refine g_cond_t rfl ?_ | refine g_cond_f rfl ?_)
          refine g_region ?_
          refine gl_f (by first | exact s_fieldAddr rfl (by rfl) (by infer_instance) (by decide) | exact s_fieldAddr_o rfl (by assumption) (by rfl) (by infer_instance) (by decide)) rfl rfl rfl ?_
          refine gl_r (by first | exact s_load_blk rfl (by repeat first|exact .del|apply Upd.there) (by rfl) | exact s_load1 rfl (fun w hw => peekB hw (by assumption) (by rfl))) rfl rfl rfl ?_
          refine gl_f ((s_eql rfl rfl).eq (congrArg Value.bool hq5.symm)) rfl rfl rfl ?_
          refine gl_f (s_move rfl) rfl rfl rfl ?_
          (first | refine gl_guard_no rfl rfl rfl rfl rfl rfl rfl ?_ | refine gl_guard_un rfl rfl rfl rfl rfl rfl ?_ | (refine gl_guard_yes rfl rfl rfl ?_; refine gl_f (s_move rfl) rfl rfl rfl ?_))
          (first | refine gl_guard_no rfl rfl rfl rfl rfl rfl rfl ?_ | refine gl_guard_un rfl rfl rfl rfl rfl rfl ?_ | (refine gl_guard_yes rfl rfl rfl ?_; refine gl_f (s_move rfl) rfl rfl rfl ?_))
          (first | refine gl_guard_no rfl rfl rfl rfl rfl rfl rfl ?_ | refine gl_guard_un rfl rfl rfl rfl rfl rfl ?_ | (refine gl_guard_yes rfl rfl rfl ?_; refine gl_f ((s_gtr rfl rfl).eq (congrArg Value.bool hq6.symm)) rfl rfl rfl ?_))
          refine gl_f (by first | exact s_pick_t rfl rfl | exact s_pick_f rfl rfl) rfl rfl rfl ?_
          refine gl_nil ?_
          repeat (first | refine g_seq ?_ | refine at_code ?_ | refine g_skip ?_ | refine g_block ?_ | refine g_exit rfl ?_ | refine g_cond_t rfl ?_ | refine g_cond_f rfl ?_)
          obtain ⟨V, hV⟩ : ∃ V, V = turnD (runT x1 l j) ⟨1, name, sx.take (kn - countD (runT x1 l j))⟩ := ⟨_, rfl⟩
          rw [← hV] at hs5
          have wV : Wf V (100 + j + 1) := by rw [hV]; exact wf_turn wj (.inl rfl)
          have onV : On cap V := by rw [hV]; exact on_turnD onj _
          have hfu := files_on wV.inv onV.off
          have hse := hs5.symm
          repeat (first | refine g_seq ?_ | refine at_code ?_ | refine g_skip ?_ | refine g_block ?_ | refine g_exit rfl ?_ | refine g_cond_t rfl ?_ | refine g_cond_f rfl ?_)
          refine g_draw [2, 4] [.blk g15 (.cells #[.int .i64 kind, B name, B sx, .int .i64 kx] 30)] 10 rfl ?_
          refine ga_free 0 rfl (s_move rfl) rfl rfl rfl (by kernel_rfl) ?_
          refine ga_free 1 rfl (by first | exact s_fieldAddr rfl (by rfl) (by infer_instance) (by decide) | exact s_fieldAddr_o rfl (by assumption) (by rfl) (by infer_instance) (by decide)) rfl rfl rfl (by kernel_rfl) ?_
          (first | refine ga_read_k 2 rfl (by first | exact .head _ | exact .tail _ (.head _) | exact .tail _ (.tail _ (.head _)) | exact .tail _ (.tail _ (.tail _ (.head _)))) (s_load_blk rfl .del (by rfl)) (by (first | exact fun _ h => h | (repeat first | exact sub_nil | refine sub_cons (by repeat first | exact List.Mem.head _ | apply List.Mem.tail) ?_))) rfl rfl rfl (by kernel_rfl) ?_ | refine ga_readF 2 rfl (s_load1 rfl (fun w hw => peekB hw (by assumption) (by rfl))) (by (first | exact fun _ h => h | (repeat first | exact sub_nil | refine sub_cons (by repeat first | exact List.Mem.head _ | apply List.Mem.tail) ?_))) rfl rfl rfl (by kernel_rfl) ?_)
          refine ga_free 3 rfl (by first | exact s_fieldAddr rfl (by rfl) (by infer_instance) (by decide) | exact s_fieldAddr_o rfl (by assumption) (by rfl) (by infer_instance) (by decide)) rfl rfl rfl (by kernel_rfl) ?_
          (first | refine ga_read_k 4 rfl (by first | exact .head _ | exact .tail _ (.head _) | exact .tail _ (.tail _ (.head _)) | exact .tail _ (.tail _ (.tail _ (.head _)))) (s_load_blk rfl .del (by rfl)) (by (first | exact fun _ h => h | (repeat first | exact sub_nil | refine sub_cons (by repeat first | exact List.Mem.head _ | apply List.Mem.tail) ?_))) rfl rfl rfl (by kernel_rfl) ?_ | refine ga_readF 4 rfl (s_load1 rfl (fun w hw => peekB hw (by assumption) (by rfl))) (by (first | exact fun _ h => h | (repeat first | exact sub_nil | refine sub_cons (by repeat first | exact List.Mem.head _ | apply List.Mem.tail) ?_))) rfl rfl rfl (by kernel_rfl) ?_)
          refine ga_free 5 rfl (s_move rfl) rfl rfl rfl (by kernel_rfl) ?_
          refine ga_free 6 rfl (s_move rfl) rfl rfl rfl (by kernel_rfl) ?_
          refine ga_free 7 rfl (s_sub_i64 rfl rfl (by omega)) rfl rfl rfl (by kernel_rfl) ?_
          refine ga_free 8 rfl ((s_slice_str rfl rfl rfl ⟨by omega, by omega, by omega⟩).eq (v' := B (sx.take (kn - countD (runT x1 l j)))) (by rw [show ((kn : Int) - ((countD (runT x1 l j) : Nat) : Int)).toNat - (0 : Int).toNat = kn - countD (runT x1 l j) by omega]; rfl)) rfl rfl rfl (by kernel_rfl) ?_
          refine ga_one 9 rfl (by kernel_rfl) ?_
          refine gl_call (dskH (runT x1 l (j + 1)) t' ++ (.blk g15 (.cells #[.int .i64 kind, B name, B sx, .int .i64 kx] 30) :: dskH (lossD x kn) a2)) rfl (Add_ct (runT x1 l j) u name (sx.take (kn - countD (runT x1 l j))) wj.inv hoku (by rw [hu]; exact hplj) hmn (by rw [List.length_take]; omega)) (fun w hw => hw.perm (perm_up (by repeat first|exact .del|apply Upd.there) (perm_up (by repeat first|exact .del|apply Upd.there) (perm_up (by repeat first|exact .del|apply Upd.there) (perm_up (by repeat first|exact .del|apply Upd.there) (.refl _)))))) (fun _ _ _ => trivial) rfl ?_; rw [← hV, he5]; rintro v A ⟨rfl, u', Zu, d1, rfl, hoku', _⟩; refine gl_pull (H' := dskH V u' ++ (dskH (runT x1 l (j + 1)) t' ++ (.blk g15 (.cells #[.int .i64 kind, B name, B sx, .int .i64 kx] 30) :: dskH (lossD x kn) a2))) (fun w hw => Hp.left (Hp.swapR hw)) ?_; rw [← d1]
          refine gl_nil ?_
          refine at_ga (.inr (by exact keeps_of (by (first | exact fun _ h => h | (repeat first | exact sub_nil | refine sub_cons (by repeat first | exact List.Mem.head _ | apply List.Mem.tail) ?_))))) ?_
          refine ga_done (by kernel_rfl) ?_
          repeat (first | refine g_seq ?_ | refine at_code ?_ | refine g_skip ?_ | refine g_block ?_ | refine g_exit rfl ?_ | refine g_cond_t rfl ?_ | refine g_cond_f rfl ?_)
          repeat (first | refine g_seq ?_ | refine at_code ?_ | refine g_skip ?_ | refine g_block ?_ | refine g_exit rfl ?_ | refine g_cond_t rfl ?_ | refine g_cond_f rfl ?_)
          refine g_region ?_
          refine gl_f (s_move rfl) rfl rfl rfl ?_
          refine gl_call _ rfl (Files_ct (lossD x kn) a2 (100 + i) wy (by omega) hok2) (fun w hw => hw) (fun h hh ⟨bs, hb⟩ => ⟨Sat.blk hb (by repeat first|exact .del|apply Upd.there), Sat.blk hb (by repeat first|exact .del|apply Upd.there)⟩) rfl ?_; rw [hfY]; rintro v A ⟨fa, fc, rfl, rfl⟩
          refine gl_f (s_move rfl) rfl rfl rfl ?_
          refine gl_call _ rfl (Files_ct V u' (100 + j + 1) wV (by omega) hoku') (fun w hw => hw) (fun h hh ⟨bs, hb⟩ => ⟨Sat.blk hb (by repeat first|exact .del|apply Upd.there), Sat.blk hb (by repeat first|exact .del|apply Upd.there)⟩) rfl ?_; rw [hfu]; rintro v A ⟨ga, gc, rfl, rfl⟩
          refine gl_callp rfl (Same_ct (lossD x kn).seen V.seen fa ga fc gc (by omega)) (fun h hh ⟨bs, hb⟩ => ⟨Sat.rd (a := fa) hb (by repeat first|exact .del|apply Upd.there), Sat.rd (a := ga) hb (by repeat first|exact .del|apply Upd.there)⟩) rfl ?_; rw [decide_eq_true hse]
          refine gl_f (s_assign rfl) rfl rfl rfl ?_
          refine gl_nil ?_
          repeat (first | refine g_seq ?_ | refine at_code ?_ | refine g_skip ?_ | refine g_block ?_ | refine g_exit rfl ?_ | refine g_cond_t rfl ?_ | refine g_cond_f rfl ?_)
          refine g_ret ?_
          refine at_unfreeze hle ?_
          exact at_end1 rfl rfl [] ⟨rfl, rfl⟩ (fun _ h => h.dropAll)
        all_goals
          have hfu := hfj
          have hse := Eq.symm hse
          repeat (first | refine g_seq ?_ | refine at_code ?_ | refine g_skip ?_ | refine g_block ?_ | refine g_exit rfl ?_ | refine g_cond_t rfl ?_ | refine g_cond_f rfl ?_)
          refine g_region ?_
          refine gl_f (s_move rfl) rfl rfl rfl ?_
          refine gl_call _ rfl (Files_ct (lossD x kn) a2 (100 + i) wy (by omega) hok2) (fun w hw => hw) (fun h hh ⟨bs, hb⟩ => ⟨Sat.blk hb (by repeat first|exact .del|apply Upd.there), Sat.blk hb (by repeat first|exact .del|apply Upd.there)⟩) rfl ?_; rw [hfY]; rintro v A ⟨fa, fc, rfl, rfl⟩
          refine gl_f (s_move rfl) rfl rfl rfl ?_
          refine gl_call _ rfl (Files_ct (runT x1 l j) u (100 + j) wj (by omega) hoku) (fun w hw => hw) (fun h hh ⟨bs, hb⟩ => ⟨Sat.blk hb (by repeat first|exact .del|apply Upd.there), Sat.blk hb (by repeat first|exact .del|apply Upd.there)⟩) rfl ?_; rw [hfu]; rintro v A ⟨ga, gc, rfl, rfl⟩
          refine gl_callp rfl (Same_ct (lossD x kn).seen (runT x1 l j).seen fa ga fc gc (by omega)) (fun h hh ⟨bs, hb⟩ => ⟨Sat.rd (a := fa) hb (by repeat first|exact .del|apply Upd.there), Sat.rd (a := ga) hb (by repeat first|exact .del|apply Upd.there)⟩) rfl ?_; rw [decide_eq_true hse]
          refine gl_f (s_assign rfl) rfl rfl rfl ?_
          refine gl_nil ?_
          repeat (first | refine g_seq ?_ | refine at_code ?_ | refine g_skip ?_ | refine g_block ?_ | refine g_exit rfl ?_ | refine g_cond_t rfl ?_ | refine g_cond_f rfl ?_)
          refine g_ret ?_
          refine at_unfreeze hle ?_
          exact at_end1 rfl rfl [] ⟨rfl, rfl⟩ (fun _ h => h.dropAll)
      all_goals
        have hse : (lossD x kn).seen = (runT x1 l j).seen := by
          subst hjM
          rw [hx]
          exact begins_end hwf1 hon1 l hkj
        repeat (first | refine g_seq ?_ | refine at_code ?_ | refine g_skip ?_ | refine g_block ?_ | refine g_exit rfl ?_ | refine g_cond_t rfl ?_ | refine g_cond_f rfl ?_)
        refine g_region ?_
        refine gl_f (s_move rfl) rfl rfl rfl ?_
        refine gl_call (dskH (lossD x kn) a2 ++ dskH (runT x1 l j) t) rfl (Files_ct (lossD x kn) a2 (100 + i) wy (by omega) hok2) (fun w hw => hw) (fun h hh ⟨bs, hb⟩ => ⟨Sat.blk hb (by repeat first|exact .del|apply Upd.there), Sat.blk hb (by repeat first|exact .del|apply Upd.there)⟩) rfl ?_; rw [hfY]; rintro v A ⟨fa, fc, rfl, rfl⟩
        refine gl_f (s_move rfl) rfl rfl rfl ?_
        refine gl_call (OwnF fa (lossD x kn).seen fc :: (dskH (lossD x kn) a2 ++ dskH (runT x1 l j) t)) rfl (Files_ct (runT x1 l j) t (100 + j) wj (by omega) hokj) (fun w hw => hw) (fun h hh ⟨bs, hb⟩ => ⟨Sat.blk hb (by repeat first|exact .del|apply Upd.there), Sat.blk hb (by repeat first|exact .del|apply Upd.there)⟩) rfl ?_; rw [hfj]; rintro v A ⟨ga, gc, rfl, rfl⟩
        refine gl_callp rfl (Same_ct (lossD x kn).seen (runT x1 l j).seen fa ga fc gc (by omega)) (fun h hh ⟨bs, hb⟩ => ⟨Sat.rd (a := fa) hb (by repeat first|exact .del|apply Upd.there), Sat.rd (a := ga) hb (by repeat first|exact .del|apply Upd.there)⟩) rfl ?_; rw [show decide ((lossD x kn).seen = (runT x1 l j).seen) = true from decide_eq_true hse]
        refine gl_f (s_assign rfl) rfl rfl rfl ?_
        refine gl_nil ?_
        repeat (first | refine g_seq ?_ | refine at_code ?_ | refine g_skip ?_ | refine g_block ?_ | refine g_exit rfl ?_ | refine g_cond_t rfl ?_ | refine g_cond_f rfl ?_)
        refine g_ret ?_
        refine at_unfreeze hle ?_
        exact at_end1 rfl rfl [] ⟨rfl, rfl⟩ (fun _ h => h.dropAll)
end Go.Proofs.Ytolgclfbllcjhaa
