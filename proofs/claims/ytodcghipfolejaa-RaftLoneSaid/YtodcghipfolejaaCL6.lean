/- RaftLone: the walk. -/
import Derived.Test.YtodcghipfolejaaCL5
namespace Go.Proofs.Ytodcghipfolejaa.Rf
open Go Go.Sl
set_option linter.unusedVariables false
set_option linter.unusedSimpArgs false
-- ARR

theorem stK_role {n w : Int} {k : Nat} : decide ((stK n w k).role = 2) = decide (w ≤ (k : Int)) := by
  unfold stK
  by_cases h : (k : Int) < w
  · rw [if_pos h]
    show decide ((0 : Int) = 2) = _
    rw [decide_eq_false (by decide), decide_eq_false (by omega)]
  · rw [if_neg h]
    show decide ((2 : Int) = 2) = _
    rw [decide_eq_true rfl, decide_eq_true (by omega)]
theorem stK_fit {n w : Int} {k : Nat} (hw : w ≤ 2000) : PFit (stK n w k) ∧ (stK n w k).ticks < 4611686018427387904 ∧ (stK n w k).l.length ≤ 99999 := by
  unfold stK
  by_cases h : (k : Int) < w
  · rw [if_pos h]
    refine ⟨S0_fit (by omega), ?_, ?_⟩
    · show (k : Int) < _; omega
    · show 0 ≤ _; decide
  · rw [if_neg h]
    refine ⟨SL_fit [] (by decide) (fun _ h => nomatch h), ?_, ?_⟩
    · show (0 : Int) < _; decide
    · show 1 ≤ _; decide
theorem fitD_succ {ds : List Bs} {j : Nat} (hj : j < ds.length) : fitD (ds.take (j + 1)) = fitD (ds.take j) ++ if (ds.getD j []).length ≤ 2048 then [ds.getD j []] else [] := by
  have e : ds.getD j [] = ds[j] := by simp [hj]
  rw [fitD, List.take_succ_eq_append_getElem hj, List.filter_append, e]
  congr 1
  by_cases h : ds[j].length ≤ 2048
  · simp [h]
  · simp [h]
theorem fitD_le (ds : List Bs) (j : Nat) : (fitD (ds.take j)).length ≤ ds.length := by
  have h1 := List.length_filter_le (fun d : Bs => decide (d.length ≤ 2048)) (ds.take j)
  have h2 : (ds.take j).length ≤ ds.length := by rw [List.length_take]; omega
  exact Nat.le_trans h1 h2
theorem fitD_mem (ds : List Bs) (j : Nat) : ∀ d ∈ fitD (ds.take j), d.length ≤ 2048 := fun d hd => by
  have := (List.mem_filter.1 hd).2
  simpa using this
theorem rd_str {F : Snap} {w : World} {H : List As} {a : Option Addr} {ps : List Bs} (hw : Hp F w H) (r : RdS F.heap a (strV ps)) {q i : Nat} (h : q = i) (hi : i < ps.length) : PeekC (hp w) (addO a q) [B (ps.getD i [])] :=
  peek_rd hw r (by simp) (fun j u hu => by
    match j, hu with
    | 0, hu =>
      simp at hu; subst hu h
      simp [strV, hi])
theorem right3 : rightB [3] = true := by decide
abbrev blkR (b : Nat) (p : RP) (a : RA) : As := .blk b (.cells (rsC p a).toArray 85)
set_option maxRecDepth 16000 in
set_option maxHeartbeats 4000000 in
theorem RaftLone_ct (x : Int) (ds : List Bs) (da : Option Addr) (dc : Nat) : Pu Try.prog 17 [.int .i64 x, .slice da ds.length dc] (fun h => RdS h da (strV ds)) (.bool true) := by
  refine ct_enter 146 Try.func17 rfl rfl rfl ?_
  intro F hr
  obtain ⟨q1, hq1⟩ : ∃ q, q = decide (50 < (ds.length : Int)) := ⟨_, rfl⟩
  obtain ⟨y, hy⟩ : ∃ y, y = IntKind.u64.wrap x := ⟨_, rfl⟩
  have hy0 : 0 ≤ y ∧ y ≤ 18446744073709551615 := by rw [hy, IntKind.wrap_u64]; omega
  obtain ⟨W, hW⟩ : ∃ W, W = 1 + y % 30 := ⟨_, rfl⟩
  have hW0 : 1 ≤ W ∧ W ≤ 30 := by omega
  repeat (first | refine g_seq ?_ | refine at_code ?_ | refine g_skip ?_ | refine g_block ?_ | refine g_exit rfl ?_ | refine g_cond_t rfl ?_ | refine g_cond_f rfl ?_)
  refine g_region ?_
  refine gl_f (s_assign rfl) rfl rfl rfl ?_
  refine gl_nil ?_
  repeat (first | refine g_seq ?_ | refine at_code ?_ | refine g_skip ?_ | refine g_block ?_ | refine g_exit rfl ?_ | refine g_cond_t rfl ?_ | refine g_cond_f rfl ?_)
  cases q1
  rotate_left
  · repeat (first | refine g_seq ?_ | refine at_code ?_ | refine g_skip ?_ | refine g_block ?_ | refine g_exit rfl ?_ | refine g_cond_t rfl ?_ | refine g_cond_f rfl ?_)
    refine g_region ?_
    refine gl_callp rfl ralive_ct (fun _ _ _ => trivial) rfl ?_
    refine gl_f (s_not rfl) rfl rfl rfl ?_
    refine gl_f (s_move rfl) rfl rfl rfl ?_
    (first | refine gl_guard_no rfl rfl rfl rfl rfl rfl rfl ?_ | refine gl_guard_un rfl rfl rfl rfl rfl rfl ?_ | (refine gl_guard_yes rfl rfl rfl ?_; refine gl_f (s_move rfl) rfl rfl rfl ?_))
    (first | refine gl_guard_no rfl rfl rfl rfl rfl rfl rfl ?_ | refine gl_guard_un rfl rfl rfl rfl rfl rfl ?_ | (refine gl_guard_yes rfl rfl rfl ?_; refine gl_f (s_len_sl rfl) rfl rfl rfl ?_))
    (first | refine gl_guard_no rfl rfl rfl rfl rfl rfl rfl ?_ | refine gl_guard_un rfl rfl rfl rfl rfl rfl ?_ | (refine gl_guard_yes rfl rfl rfl ?_; refine gl_f ((s_gtr rfl rfl).eq (congrArg Value.bool hq1.symm)) rfl rfl rfl ?_))
    refine gl_f (by first | exact s_pick_t rfl rfl | exact s_pick_f rfl rfl) rfl rfl rfl ?_
    refine gl_nil ?_
    repeat (first | refine g_seq ?_ | refine at_code ?_ | refine g_skip ?_ | refine g_block ?_ | refine g_exit rfl ?_ | refine g_cond_t rfl ?_ | refine g_cond_f rfl ?_)
    repeat (first | refine g_seq ?_ | refine at_code ?_ | refine g_skip ?_ | refine g_block ?_ | refine g_exit rfl ?_ | refine g_cond_t rfl ?_ | refine g_cond_f rfl ?_)
    refine g_region ?_
    refine gl_callp rfl ralive_ct (fun _ _ _ => trivial) rfl ?_
    refine gl_f (s_assign rfl) rfl rfl rfl ?_
    refine gl_nil ?_
    repeat (first | refine g_seq ?_ | refine at_code ?_ | refine g_skip ?_ | refine g_block ?_ | refine g_exit rfl ?_ | refine g_cond_t rfl ?_ | refine g_cond_f rfl ?_)
    refine g_ret ?_
    exact at_end1 rfl rfl [] ⟨rfl, rfl⟩ (fun _ h => h.dropAll)
  have hl := of_decide_eq_false hq1.symm
  repeat (first | refine g_seq ?_ | refine at_code ?_ | refine g_skip ?_ | refine g_block ?_ | refine g_exit rfl ?_ | refine g_cond_t rfl ?_ | refine g_cond_f rfl ?_)
  refine g_region ?_
  refine gl_callp rfl ralive_ct (fun _ _ _ => trivial) rfl ?_
  refine gl_f (s_not rfl) rfl rfl rfl ?_
  refine gl_f (s_move rfl) rfl rfl rfl ?_
  (first | refine gl_guard_no rfl rfl rfl rfl rfl rfl rfl ?_ | refine gl_guard_un rfl rfl rfl rfl rfl rfl ?_ | (refine gl_guard_yes rfl rfl rfl ?_; refine gl_f (s_move rfl) rfl rfl rfl ?_))
  (first | refine gl_guard_no rfl rfl rfl rfl rfl rfl rfl ?_ | refine gl_guard_un rfl rfl rfl rfl rfl rfl ?_ | (refine gl_guard_yes rfl rfl rfl ?_; refine gl_f (s_len_sl rfl) rfl rfl rfl ?_))
  (first | refine gl_guard_no rfl rfl rfl rfl rfl rfl rfl ?_ | refine gl_guard_un rfl rfl rfl rfl rfl rfl ?_ | (refine gl_guard_yes rfl rfl rfl ?_; refine gl_f ((s_gtr rfl rfl).eq (congrArg Value.bool hq1.symm)) rfl rfl rfl ?_))
  refine gl_f (by first | exact s_pick_t rfl rfl | exact s_pick_f rfl rfl) rfl rfl rfl ?_
  refine gl_nil ?_
  repeat (first | refine g_seq ?_ | refine at_code ?_ | refine g_skip ?_ | refine g_block ?_ | refine g_exit rfl ?_ | refine g_cond_t rfl ?_ | refine g_cond_f rfl ?_)
  repeat (first | refine g_seq ?_ | refine at_code ?_ | refine g_skip ?_ | refine g_block ?_ | refine g_exit rfl ?_ | refine g_cond_t rfl ?_ | refine g_cond_f rfl ?_)
  refine g_region ?_
  refine gl_f (s_move rfl) rfl rfl rfl ?_
  refine gl_f ((s_conv_int rfl).eq (v' := .int .u64 y) (by rw [hy])) rfl rfl rfl ?_
  refine gl_f (s_rem_pos rfl rfl (by omega)) rfl rfl rfl ?_
  refine gl_f (s_conv_keep_i64 rfl (by omega)) rfl rfl rfl ?_
  refine gl_f ((s_add_i64 rfl rfl (by omega)).eq (v' := .int .i64 W) (by rw [hW])) rfl rfl rfl ?_
  refine gl_f (s_assign rfl) rfl rfl rfl ?_
  refine gl_nil ?_
  repeat (first | refine g_seq ?_ | refine at_code ?_ | refine g_skip ?_ | refine g_block ?_ | refine g_exit rfl ?_ | refine g_cond_t rfl ?_ | refine g_cond_f rfl ?_)
  repeat (first | refine g_seq ?_ | refine at_code ?_ | refine g_skip ?_ | refine g_block ?_ | refine g_exit rfl ?_ | refine g_cond_t rfl ?_ | refine g_cond_f rfl ?_)
  refine g_region ?_
  refine gl_f ((s_bld (cells := #[.int .u64 0, .int .i64 0, .int .u64 0]) rfl (by kernel_rfl))) rfl rfl rfl ?_
  refine gl_buildSliceU rfl rfl rfl rfl rfl rfl (xs := intsV [3]) rfl rfl ?_; intro a29 ha29
  refine gl_f ((s_bld (cells := #[.int .u64 0, .int .u64 0, .slice a29 1 1, .slice none 0 0]) rfl (by kernel_rfl)).eq (v' := (gOne 3 a29 1).v) rfl) rfl rfl rfl ?_
  refine gl_f (s_move rfl) rfl rfl rfl ?_
  refine gl_call _ rfl (New_ok 3 ⟨0, 0, 0⟩ (gOne 3 a29 1) [] W (by show 1 ≤ _; decide) (by show 0 ≤ _; decide) (by unfold badNew; rw [decide_eq_false (by decide), decide_eq_false (by decide), decide_eq_false (by omega), decide_eq_false (by omega)]; rfl)) (fun w hw => hw) (fun h hh ⟨bs, hb⟩ => ⟨Sat.rd hb (by repeat first|exact .del|apply Upd.there), RdS.nil _ _⟩) rfl ?_; rw [newP_S0]; rintro v A ⟨a0, rfl, rfl⟩
  refine gl_f (s_move rfl) rfl rfl rfl ?_
  refine gl_f (s_extract rfl rfl) rfl rfl rfl ?_
  refine gl_f (s_extract rfl rfl) rfl rfl rfl ?_
  refine gl_allocA rfl ?_; intro g5
  (first | refine gl_store_blkW rfl rfl (by repeat first|exact .here|apply Upd.there) (by rfl) (by rfl) (by (intro q hq; simp [Value.cells] at hq; first | (subst hq; rfl) | (rcases hq with rfl | rfl | rfl | rfl | rfl | rfl | rfl | rfl <;> rfl) | (rcases hq with rfl | rfl | rfl | rfl | rfl | rfl | rfl | rfl | rfl | rfl | rfl | rfl | rfl | rfl | rfl | rfl | rfl | rfl | rfl | rfl <;> rfl))) ?_ | refine gl_store_blk rfl rfl (by repeat first|exact .here|apply Upd.there) (by rfl) (by (intro q hq; simp [Value.cells] at hq; first | (subst hq; rfl) | (rcases hq with rfl | rfl | rfl | rfl | rfl | rfl | rfl | rfl <;> rfl) | (rcases hq with rfl | rfl | rfl | rfl | rfl | rfl | rfl | rfl | rfl | rfl | rfl | rfl | rfl | rfl | rfl | rfl | rfl | rfl | rfl | rfl <;> rfl))) (by rfl) ?_)
  refine gl_f (s_assign rfl) rfl rfl rfl ?_
  refine gl_nil ?_
  repeat (first | refine g_seq ?_ | refine at_code ?_ | refine g_skip ?_ | refine g_block ?_ | refine g_exit rfl ?_ | refine g_cond_t rfl ?_ | refine g_cond_f rfl ?_)
  repeat (first | refine g_seq ?_ | refine at_code ?_ | refine g_skip ?_ | refine g_block ?_ | refine g_exit rfl ?_ | refine g_cond_t rfl ?_ | refine g_cond_f rfl ?_)
  refine g_region ?_
  refine gl_f (s_move rfl) rfl rfl rfl ?_
  refine gl_f ((s_neq rfl rfl).eq (v' := .bool false) rfl) rfl rfl rfl ?_
  refine gl_nil ?_
  repeat (first | refine g_seq ?_ | refine at_code ?_ | refine g_skip ?_ | refine g_block ?_ | refine g_exit rfl ?_ | refine g_cond_t rfl ?_ | refine g_cond_f rfl ?_)
  repeat (first | refine g_seq ?_ | refine at_code ?_ | refine g_skip ?_ | refine g_block ?_ | refine g_exit rfl ?_ | refine g_cond_t rfl ?_ | refine g_cond_f rfl ?_)
  refine g_region ?_
  refine gl_f (s_assign rfl) rfl rfl rfl ?_
  refine gl_nil ?_
  repeat (first | refine g_seq ?_ | refine at_code ?_ | refine g_skip ?_ | refine g_block ?_ | refine g_exit rfl ?_ | refine g_cond_t rfl ?_ | refine g_cond_f rfl ?_)
  have e0 : S0 3 W 0 = stK 3 W 0 := by rw [stK, if_pos (by show (0 : Int) < W; omega)]; rfl
  refine g_loop (ι := Nat × RA) (fun i => (i.1 : Int) ≤ W) (fun i => [(0, .int .i64 W), (1, .slice da ds.length dc), (5, Ptr g5), (7, .int .i64 ((i.1 : Int) + 1))]) (fun i => blkR g5 (stK 3 W i.1) i.2 :: OwnS (stK 3 W i.1) i.2) (fun i => (W - (i.1 : Int)).toNat) (0, a0) (by show ((0 : Nat) : Int) ≤ W; omega) ?_ ?_ ?_
  · (repeat (first | exact Sub.nil _ | refine Sub.cons rfl ?_))
  · intro w hw
    simp only [← e0]
    exact Hp.left (R := [OwnC a29 [3] 1]) hw
  rintro ⟨k, a⟩ hk
  simp only at hk
  obtain ⟨hfit, htk, hln⟩ := stK_fit (n := 3) (k := k) (show W ≤ 2000 by omega)
  repeat (first | refine g_seq ?_ | refine at_code ?_ | refine g_skip ?_ | refine g_block ?_ | refine g_exit rfl ?_ | refine g_cond_t rfl ?_ | refine g_cond_f rfl ?_)
  refine g_region ?_
  refine gl_f (s_move rfl) rfl rfl rfl ?_
  refine gl_f (s_move rfl) rfl rfl rfl ?_
  refine gl_f (s_leq rfl rfl) rfl rfl rfl ?_
  refine gl_nil ?_
  repeat (first | refine g_seq ?_ | refine at_code ?_ | refine g_skip ?_ | refine g_block ?_ | refine g_exit rfl ?_ | refine g_cond_t rfl ?_ | refine g_cond_f rfl ?_)
  refine g_cond rfl (fun h => ?_) (fun h => ?_)
  · have hkl : (k : Int) < W := by simp at h; omega
    have hrole := stK_role (n := 3) (w := W) (k := k + 1)
    repeat (first | refine g_seq ?_ | refine at_code ?_ | refine g_skip ?_ | refine g_block ?_ | refine g_exit rfl ?_ | refine g_cond_t rfl ?_ | refine g_cond_f rfl ?_)
    refine g_region ?_
    refine gl_r ((s_load_blkW rfl (by repeat first|exact .del|apply Upd.there) (by rfl)).eq (v' := rsV (stK 3 W k) a) rfl) rfl rfl rfl ?_
    refine gl_f ((s_bld (cells := (evC eTick).toArray) rfl (by kernel_rfl)).eq (v' := evA eTick) rfl) rfl rfl rfl ?_
    refine gl_call _ rfl (StepTick_ct (stK 3 W k) (stK 3 W (k + 1)) a hfit htk hln (stK_tick right3 hkl)) (fun w hw => hw) (fun h hh ⟨bs, hb⟩ => ⟨⟨Sat.rd (a := a.ca) hb (by repeat first|exact .del|apply Upd.there), Sat.rd (a := a.la) hb (by repeat first|exact .del|apply Upd.there), Sat.rd (a := a.va) hb (by repeat first|exact .del|apply Upd.there), Sat.rd (a := a.pa) hb (by repeat first|exact .del|apply Upd.there)⟩, trivial⟩) rfl ?_; rintro v A ⟨a1, oa, oc, rfl, rfl⟩
    refine gl_f (s_move rfl) rfl rfl rfl ?_
    refine gl_f (s_extract rfl rfl) rfl rfl rfl ?_
    refine gl_f (s_extract rfl rfl) rfl rfl rfl ?_
    refine gl_f (s_extract rfl rfl) rfl rfl rfl ?_
    (first | refine gl_store_blkW rfl rfl (by repeat first|exact .here|apply Upd.there) (by rfl) (by rfl) (by (intro q hq; simp [Value.cells] at hq; first | (subst hq; rfl) | (rcases hq with rfl | rfl | rfl | rfl | rfl | rfl | rfl | rfl <;> rfl) | (rcases hq with rfl | rfl | rfl | rfl | rfl | rfl | rfl | rfl | rfl | rfl | rfl | rfl | rfl | rfl | rfl | rfl | rfl | rfl | rfl | rfl <;> rfl))) ?_ | refine gl_store_blk rfl rfl (by repeat first|exact .here|apply Upd.there) (by rfl) (by (intro q hq; simp [Value.cells] at hq; first | (subst hq; rfl) | (rcases hq with rfl | rfl | rfl | rfl | rfl | rfl | rfl | rfl <;> rfl) | (rcases hq with rfl | rfl | rfl | rfl | rfl | rfl | rfl | rfl | rfl | rfl | rfl | rfl | rfl | rfl | rfl | rfl | rfl | rfl | rfl | rfl <;> rfl))) (by rfl) ?_)
    refine gl_f (s_assign rfl) rfl rfl rfl ?_
    refine gl_nil ?_
    repeat (first | refine g_seq ?_ | refine at_code ?_ | refine g_skip ?_ | refine g_block ?_ | refine g_exit rfl ?_ | refine g_cond_t rfl ?_ | refine g_cond_f rfl ?_)
    repeat (first | refine g_seq ?_ | refine at_code ?_ | refine g_skip ?_ | refine g_block ?_ | refine g_exit rfl ?_ | refine g_cond_t rfl ?_ | refine g_cond_f rfl ?_)
    refine g_region ?_
    refine gl_f (s_move rfl) rfl rfl rfl ?_
    refine gl_f ((s_neq rfl rfl).eq (v' := .bool false) rfl) rfl rfl rfl ?_
    refine gl_f (s_move rfl) rfl rfl rfl ?_
    (first | refine gl_guard_no rfl rfl rfl rfl rfl rfl rfl ?_ | refine gl_guard_un rfl rfl rfl rfl rfl rfl ?_ | (refine gl_guard_yes rfl rfl rfl ?_; refine gl_f (by first | exact s_fieldAddr rfl (by rfl) (by infer_instance) (by decide) | exact s_fieldAddr_o rfl (by assumption) (by rfl) (by infer_instance) (by decide)) rfl rfl rfl ?_))
    (first | refine gl_guard_no rfl rfl rfl rfl rfl rfl rfl ?_ | refine gl_guard_un rfl rfl rfl rfl rfl rfl ?_ | (refine gl_guard_yes rfl rfl rfl ?_; refine gl_r (by first | exact s_load_blk rfl (by repeat first|exact .del|apply Upd.there) a18_3 | exact s_load1 rfl (fun w hw => peekB hw (by assumption) a18_3)) rfl rfl rfl ?_))
    (first | refine gl_guard_no rfl rfl rfl rfl rfl rfl rfl ?_ | refine gl_guard_un rfl rfl rfl rfl rfl rfl ?_ | (refine gl_guard_yes rfl rfl rfl ?_; refine gl_f ((s_eql rfl rfl).eq (congrArg Value.bool hrole)) rfl rfl rfl ?_))
    (first | refine gl_guard_no rfl rfl rfl rfl rfl rfl rfl ?_ | refine gl_guard_un rfl rfl rfl rfl rfl rfl ?_ | (refine gl_guard_yes rfl rfl rfl ?_; refine gl_f (s_move rfl) rfl rfl rfl ?_))
    (first | refine gl_guard_no rfl rfl rfl rfl rfl rfl rfl ?_ | refine gl_guard_un rfl rfl rfl rfl rfl rfl ?_ | (refine gl_guard_yes rfl rfl rfl ?_; refine gl_f (s_move rfl) rfl rfl rfl ?_))
    (first | refine gl_guard_no rfl rfl rfl rfl rfl rfl rfl ?_ | refine gl_guard_un rfl rfl rfl rfl rfl rfl ?_ | (refine gl_guard_yes rfl rfl rfl ?_; refine gl_f (s_eql rfl rfl) rfl rfl rfl ?_))
    (first | refine gl_guard_no rfl rfl rfl rfl rfl rfl rfl ?_ | refine gl_guard_un rfl rfl rfl rfl rfl rfl ?_ | (refine gl_guard_yes rfl rfl rfl ?_; refine gl_f ((s_neq_bool rfl rfl).eq (v' := .bool false) (by rw [show decide (W ≤ ((k + 1 : Nat) : Int)) = decide ((k : Int) + 1 = W) from decide_eq_decide.2 (by omega)]; simp)) rfl rfl rfl ?_))
    refine gl_f (by first | exact s_pick_t rfl rfl | exact s_pick_f rfl rfl) rfl rfl rfl ?_
    refine gl_nil ?_
    repeat (first | refine g_seq ?_ | refine at_code ?_ | refine g_skip ?_ | refine g_block ?_ | refine g_exit rfl ?_ | refine g_cond_t rfl ?_ | refine g_cond_f rfl ?_)
    repeat (first | refine g_seq ?_ | refine at_code ?_ | refine g_skip ?_ | refine g_block ?_ | refine g_exit rfl ?_ | refine g_cond_t rfl ?_ | refine g_cond_f rfl ?_)
    refine g_region ?_
    refine gl_f (s_move rfl) rfl rfl rfl ?_
    refine gl_f (s_add_i64 rfl rfl (by omega)) rfl rfl rfl ?_
    refine gl_f (s_assign rfl) rfl rfl rfl ?_
    refine gl_nil ?_
    repeat (first | refine g_seq ?_ | refine at_code ?_ | refine g_skip ?_ | refine g_block ?_ | refine g_exit rfl ?_ | refine g_cond_t rfl ?_ | refine g_cond_f rfl ?_)
    refine at_next (k + 1, a1) (by first | omega | (simp only; omega)) (by first | omega | (simp only; omega)) ?_ ?_
    · (repeat (first | exact Sub.nil _ | refine Sub.cons rfl ?_))
    · intro w hw
      exact Hp.left (R := OwnS (stK 3 W k) a) (hw.perm (perm_up (by repeat first|exact .del|apply Upd.there) (perm_up (by repeat first|exact .del|apply Upd.there) (perm_up (by repeat first|exact .del|apply Upd.there) (perm_up (by repeat first|exact .del|apply Upd.there) (perm_up (by repeat first|exact .del|apply Upd.there) (perm_up (by repeat first|exact .del|apply Upd.there) (perm_up (by repeat first|exact .del|apply Upd.there) (perm_up (by repeat first|exact .del|apply Upd.there) (perm_up (by repeat first|exact .del|apply Upd.there) (.refl _)))))))))))
  have hkl : (k : Int) = W := by simp at h; omega
  have hfin : ∀ n : Nat, (n : Int) = W → stK 3 W n = SL 3 W [] := fun n hn => by rw [stK, if_neg (by omega)]
  rw [hfin k hkl]
  repeat (first | refine g_seq ?_ | refine at_code ?_ | refine g_skip ?_ | refine g_block ?_ | refine g_exit rfl ?_ | refine g_cond_t rfl ?_ | refine g_cond_f rfl ?_)
  refine g_region ?_
  refine gl_f (s_assign rfl) rfl rfl rfl ?_
  refine gl_nil ?_
  repeat (first | refine g_seq ?_ | refine at_code ?_ | refine g_skip ?_ | refine g_block ?_ | refine g_exit rfl ?_ | refine g_cond_t rfl ?_ | refine g_cond_f rfl ?_)
  refine g_region ?_
  refine gl_f (s_assign rfl) rfl rfl rfl ?_
  refine gl_nil ?_
  repeat (first | refine g_seq ?_ | refine at_code ?_ | refine g_skip ?_ | refine g_block ?_ | refine g_exit rfl ?_ | refine g_cond_t rfl ?_ | refine g_cond_f rfl ?_)
  refine g_loop (ι := Nat × RA × List Bs) (fun i => i.1 ≤ ds.length ∧ i.2.2 = fitD (ds.take i.1)) (fun i => [(0, .int .i64 W), (1, .slice da ds.length dc), (5, Ptr g5), (8, .int .u64 ((i.2.2.length : Nat) + 1)), (9, .int .i64 (i.1 : Nat))]) (fun i => blkR g5 (SL 3 W i.2.2) i.2.1 :: OwnS (SL 3 W i.2.2) i.2.1) (fun i => ds.length - i.1) (0, a, []) ⟨Nat.zero_le _, rfl⟩ ?_ ?_ ?_
  · (repeat (first | exact Sub.nil _ | refine Sub.cons rfl ?_))
  · intro w hw; exact hw
  rintro ⟨j, b, fs⟩ ⟨hj, hfs⟩
  simp only at hj hfs
  have hfl : fs.length ≤ ds.length := by rw [hfs]; exact fitD_le ds j
  have hfm : ∀ d ∈ fs, d.length ≤ 2048 := by rw [hfs]; exact fitD_mem ds j
  have hfitL := SL_fit (n := 3) (w := W) fs (by omega) hfm
  have hlenL : (SL 3 W fs).l.length ≤ 99999 := by show ((1, 1, []) :: fs.map (fun d => ((1, 3, d) : Ent))).length ≤ _; rw [List.length_cons, List.length_map]; omega
  repeat (first | refine g_seq ?_ | refine at_code ?_ | refine g_skip ?_ | refine g_block ?_ | refine g_exit rfl ?_ | refine g_cond_t rfl ?_ | refine g_cond_f rfl ?_)
  refine g_region ?_
  refine gl_f (s_move rfl) rfl rfl rfl ?_
  refine gl_f (s_move rfl) rfl rfl rfl ?_
  refine gl_f (s_len_sl rfl) rfl rfl rfl ?_
  refine gl_f (s_lss rfl rfl) rfl rfl rfl ?_
  refine gl_nil ?_
  repeat (first | refine g_seq ?_ | refine at_code ?_ | refine g_skip ?_ | refine g_block ?_ | refine g_exit rfl ?_ | refine g_cond_t rfl ?_ | refine g_cond_f rfl ?_)
  refine g_cond rfl (fun h => ?_) (fun h => ?_)
  · have hjl : j < ds.length := by simp at h; omega
    have hsome : ∃ ad, da = some ad := by
      obtain ⟨ad, e, _⟩ := hr (by intro e; have := congrArg List.length e; simp [strV] at this; subst this; simp at hjl)
      exact ⟨ad, e⟩
    have hsu := fitD_succ hjl
    rw [← hfs] at hsu
    obtain ⟨d, hd⟩ : ∃ d, d = ds.getD j [] := ⟨_, rfl⟩
    rw [← hd] at hsu
    obtain ⟨q, hq⟩ : ∃ q, q = decide ((2048 : Int) < (d.length : Nat)) := ⟨_, rfl⟩
    cases q
    · have hdl : d.length ≤ 2048 := by have := of_decide_eq_false hq.symm; omega
      rw [if_pos hdl] at hsu
      obtain ⟨p1, p2, p3⟩ := prop_ok (n := 3) (w := W) fs d right3 (by omega) hdl
      repeat (first | refine g_seq ?_ | refine at_code ?_ | refine g_skip ?_ | refine g_block ?_ | refine g_exit rfl ?_ | refine g_cond_t rfl ?_ | refine g_cond_f rfl ?_)
      refine g_draw ([0, 4], [0, 0, 0, 6, 14, 30, 62, 127, 255, 511, 511, 511, 0, 5119, 14335, 32767], [7, 12, 13]) [blkR g5 (SL 3 W fs) b] 16 rfl ?_
      refine ga_read_k 0 rfl (by first | exact .head _ | exact .tail _ (.head _) | exact .tail _ (.tail _ (.head _)) | exact .tail _ (.tail _ (.tail _ (.head _)))) ((s_load_blkW rfl .del (by rfl)).eq (v' := rsV (SL 3 W fs) b) rfl) (by (first | exact fun _ h => h | (repeat first | exact sub_nil | refine sub_cons (by repeat first | exact List.Mem.head _ | apply List.Mem.tail) ?_))) rfl rfl rfl (by kernel_rfl) ?_
      refine ga_free 1 rfl (s_move rfl) rfl rfl rfl (by kernel_rfl) ?_
      refine ga_free 2 rfl (s_move rfl) rfl rfl rfl (by kernel_rfl) ?_
      refine ga_free 3 rfl (s_indexAddr rfl (by assumption) rfl (by omega)) rfl rfl rfl (by kernel_rfl) ?_
      refine ga_readF 4 rfl (s_load1 (v := B d) rfl (fun w hw => by rw [hd]; exact rd_str hw hr (i := j) (by first | omega | (simp only; omega)) hjl)) (by (first | exact fun _ h => h | (repeat first | exact sub_nil | refine sub_cons (by repeat first | exact List.Mem.head _ | apply List.Mem.tail) ?_))) rfl rfl rfl (by kernel_rfl) ?_
      refine ga_free 5 rfl ((s_bld (cells := #[.int .u64 0, .int .i64 3, B d]) rfl (by kernel_rfl))) rfl rfl rfl (by kernel_rfl) ?_
      refine ga_free 6 rfl ((s_bld (cells := (evC (eProp d)).toArray) rfl (by kernel_rfl)).eq (v' := evA (eProp d)) rfl) rfl rfl rfl (by kernel_rfl) ?_
      refine ga_two 7 12 rfl rfl (by kernel_rfl) ?_ ?_
      refine gl_call _ rfl (StepProp_ct (SL 3 W fs) (SL 3 W (fs ++ [d])) b d 0 hfitL hlenL p1 (.inl ⟨rfl, p2, p3⟩)) (fun w hw => hw) (fun h hh ⟨bs, hb⟩ => ⟨⟨Sat.rd (a := b.ca) hb (by repeat first|exact .del|apply Upd.there), Sat.rd (a := b.la) hb (by repeat first|exact .del|apply Upd.there), Sat.rd (a := b.va) hb (by repeat first|exact .del|apply Upd.there), Sat.rd (a := b.pa) hb (by repeat first|exact .del|apply Upd.there)⟩, trivial⟩) rfl ?_; rintro v A ⟨a1, oa, oc, rfl, rfl⟩
      refine gl_nil ?_
      refine at_ga (.inl (by kernel_rfl)) ?_
      refine ga_free 8 rfl (s_move rfl) rfl rfl rfl (by kernel_rfl) ?_
      refine ga_free 9 rfl (s_extract rfl rfl) rfl rfl rfl (by kernel_rfl) ?_
      refine ga_free 10 rfl (s_extract rfl rfl) rfl rfl rfl (by kernel_rfl) ?_
      refine ga_free 11 rfl (s_extract rfl rfl) rfl rfl rfl (by kernel_rfl) ?_
      refine ga_one 12 rfl (by kernel_rfl) ?_
      refine gl_allocA rfl ?_; intro g10
      refine gl_nil ?_
      refine at_ga (.inl (by kernel_rfl)) ?_
      refine ga_one 13 rfl (by kernel_rfl) ?_
      (first | refine gl_store_blkW rfl rfl (by repeat first|exact .here|apply Upd.there) (by rfl) (by rfl) (by (intro q hq; simp [Value.cells] at hq; first | (subst hq; rfl) | (rcases hq with rfl | rfl | rfl | rfl | rfl | rfl | rfl | rfl <;> rfl) | (rcases hq with rfl | rfl | rfl | rfl | rfl | rfl | rfl | rfl | rfl | rfl | rfl | rfl | rfl | rfl | rfl | rfl | rfl | rfl | rfl | rfl <;> rfl))) ?_ | refine gl_store_blk rfl rfl (by repeat first|exact .here|apply Upd.there) (by rfl) (by (intro q hq; simp [Value.cells] at hq; first | (subst hq; rfl) | (rcases hq with rfl | rfl | rfl | rfl | rfl | rfl | rfl | rfl <;> rfl) | (rcases hq with rfl | rfl | rfl | rfl | rfl | rfl | rfl | rfl | rfl | rfl | rfl | rfl | rfl | rfl | rfl | rfl | rfl | rfl | rfl | rfl <;> rfl))) (by rfl) ?_)
      refine gl_nil ?_
      refine at_ga (.inl (by kernel_rfl)) ?_
      refine ga_free 14 rfl (s_assign rfl) rfl rfl rfl (by kernel_rfl) ?_
      refine ga_free 15 rfl (s_assign rfl) rfl rfl rfl (by kernel_rfl) ?_
      refine ga_done (by kernel_rfl) ?_
      rotate_left 1
      refine gl_allocA rfl ?_; intro g10
      refine gl_nil ?_
      refine at_ga (.inr (by exact keeps_of (by (first | exact fun _ h => h | (repeat first | exact sub_nil | refine sub_cons (by repeat first | exact List.Mem.head _ | apply List.Mem.tail) ?_))))) ?_
      refine ga_one 7 rfl (by kernel_rfl) ?_
      refine gl_call _ rfl (StepProp_ct (SL 3 W fs) (SL 3 W (fs ++ [d])) b d 0 hfitL hlenL p1 (.inl ⟨rfl, p2, p3⟩)) (fun w hw => hw) (fun h hh ⟨bs, hb⟩ => ⟨⟨Sat.rd (a := b.ca) hb (by repeat first|exact .del|apply Upd.there), Sat.rd (a := b.la) hb (by repeat first|exact .del|apply Upd.there), Sat.rd (a := b.va) hb (by repeat first|exact .del|apply Upd.there), Sat.rd (a := b.pa) hb (by repeat first|exact .del|apply Upd.there)⟩, trivial⟩) rfl ?_; rintro v A ⟨a1, oa, oc, rfl, rfl⟩
      refine gl_nil ?_
      refine at_ga (.inl (by kernel_rfl)) ?_
      refine ga_free 8 rfl (s_move rfl) rfl rfl rfl (by kernel_rfl) ?_
      refine ga_free 9 rfl (s_extract rfl rfl) rfl rfl rfl (by kernel_rfl) ?_
      refine ga_free 10 rfl (s_extract rfl rfl) rfl rfl rfl (by kernel_rfl) ?_
      refine ga_free 11 rfl (s_extract rfl rfl) rfl rfl rfl (by kernel_rfl) ?_
      refine ga_one 13 rfl (by kernel_rfl) ?_
      (first | refine gl_store_blkW rfl rfl (by repeat first|exact .here|apply Upd.there) (by rfl) (by rfl) (by (intro q hq; simp [Value.cells] at hq; first | (subst hq; rfl) | (rcases hq with rfl | rfl | rfl | rfl | rfl | rfl | rfl | rfl <;> rfl) | (rcases hq with rfl | rfl | rfl | rfl | rfl | rfl | rfl | rfl | rfl | rfl | rfl | rfl | rfl | rfl | rfl | rfl | rfl | rfl | rfl | rfl <;> rfl))) ?_ | refine gl_store_blk rfl rfl (by repeat first|exact .here|apply Upd.there) (by rfl) (by (intro q hq; simp [Value.cells] at hq; first | (subst hq; rfl) | (rcases hq with rfl | rfl | rfl | rfl | rfl | rfl | rfl | rfl <;> rfl) | (rcases hq with rfl | rfl | rfl | rfl | rfl | rfl | rfl | rfl | rfl | rfl | rfl | rfl | rfl | rfl | rfl | rfl | rfl | rfl | rfl | rfl <;> rfl))) (by rfl) ?_)
      refine gl_nil ?_
      refine at_ga (.inl (by kernel_rfl)) ?_
      refine ga_free 14 rfl (s_assign rfl) rfl rfl rfl (by kernel_rfl) ?_
      refine ga_free 15 rfl (s_assign rfl) rfl rfl rfl (by kernel_rfl) ?_
      refine ga_done (by kernel_rfl) ?_
      rotate_left 1
      all_goals (repeat (first | refine g_seq ?_ | refine at_code ?_ | refine g_skip ?_ | refine g_block ?_ | refine g_exit rfl ?_ | refine g_cond_t rfl ?_ | refine g_cond_f rfl ?_))
      all_goals
        repeat (first | refine g_seq ?_ | refine at_code ?_ | refine g_skip ?_ | refine g_block ?_ | refine g_exit rfl ?_ | refine g_cond_t rfl ?_ | refine g_cond_f rfl ?_)
        refine g_region ?_
        refine gl_f (s_move rfl) rfl rfl rfl ?_
        refine gl_f (s_move rfl) rfl rfl rfl ?_
        refine gl_f (s_indexAddr rfl (by assumption) rfl (by omega)) rfl rfl rfl ?_
        refine gl_r (s_load1 (v := B d) rfl (fun w hw => by rw [hd]; exact rd_str hw hr (i := j) (by first | omega | (simp only; omega)) hjl)) rfl rfl rfl ?_
        refine gl_f (s_len_str rfl) rfl rfl rfl ?_
        refine gl_f ((s_gtr rfl rfl).eq (congrArg Value.bool hq.symm)) rfl rfl rfl ?_
        refine gl_nil ?_
        repeat (first | refine g_seq ?_ | refine at_code ?_ | refine g_skip ?_ | refine g_block ?_ | refine g_exit rfl ?_ | refine g_cond_t rfl ?_ | refine g_cond_f rfl ?_)
        repeat (first | refine g_seq ?_ | refine at_code ?_ | refine g_skip ?_ | refine g_block ?_ | refine g_exit rfl ?_ | refine g_cond_t rfl ?_ | refine g_cond_f rfl ?_)
        refine g_region ?_
        refine gl_f (s_move rfl) rfl rfl rfl ?_
        refine gl_f ((s_add_u64 rfl rfl (by show 0 ≤ (fs.length : Int) + 1 + 1 ∧ (fs.length : Int) + 1 + 1 ≤ 18446744073709551615; omega)).eq (v' := .int .u64 ((fs.length : Int) + 1 + 1)) rfl) rfl rfl rfl ?_
        refine gl_f (s_assign rfl) rfl rfl rfl ?_
        refine gl_nil ?_
        repeat (first | refine g_seq ?_ | refine at_code ?_ | refine g_skip ?_ | refine g_block ?_ | refine g_exit rfl ?_ | refine g_cond_t rfl ?_ | refine g_cond_f rfl ?_)
        repeat (first | refine g_seq ?_ | refine at_code ?_ | refine g_skip ?_ | refine g_block ?_ | refine g_exit rfl ?_ | refine g_cond_t rfl ?_ | refine g_cond_f rfl ?_)
        refine g_region ?_
        refine gl_f (s_move rfl) rfl rfl rfl ?_
        refine gl_f ((s_neq rfl rfl).eq (v' := .bool false) rfl) rfl rfl rfl ?_
        refine gl_f (s_move rfl) rfl rfl rfl ?_
        (first | refine gl_guard_no rfl rfl rfl rfl rfl rfl rfl ?_ | refine gl_guard_un rfl rfl rfl rfl rfl rfl ?_ | (refine gl_guard_yes rfl rfl rfl ?_; refine gl_f (s_move rfl) rfl rfl rfl ?_))
        (first | refine gl_guard_no rfl rfl rfl rfl rfl rfl rfl ?_ | refine gl_guard_un rfl rfl rfl rfl rfl rfl ?_ | (refine gl_guard_yes rfl rfl rfl ?_; refine gl_f (s_len_sl rfl) rfl rfl rfl ?_))
        (first | refine gl_guard_no rfl rfl rfl rfl rfl rfl rfl ?_ | refine gl_guard_un rfl rfl rfl rfl rfl rfl ?_ | (refine gl_guard_yes rfl rfl rfl ?_; refine gl_f ((s_neq rfl rfl).eq (v' := .bool false) rfl) rfl rfl rfl ?_))
        refine gl_f (by first | exact s_pick_t rfl rfl | exact s_pick_f rfl rfl) rfl rfl rfl ?_
        refine gl_f (s_move rfl) rfl rfl rfl ?_
        (first | refine gl_guard_no rfl rfl rfl rfl rfl rfl rfl ?_ | refine gl_guard_un rfl rfl rfl rfl rfl rfl ?_ | (refine gl_guard_yes rfl rfl rfl ?_; refine gl_f (by first | exact s_fieldAddr rfl (by rfl) (by infer_instance) (by decide) | exact s_fieldAddr_o rfl (by assumption) (by rfl) (by infer_instance) (by decide)) rfl rfl rfl ?_))
        (first | refine gl_guard_no rfl rfl rfl rfl rfl rfl rfl ?_ | refine gl_guard_un rfl rfl rfl rfl rfl rfl ?_ | (refine gl_guard_yes rfl rfl rfl ?_; refine gl_r (by first | exact s_load_blk rfl (by repeat first|exact .del|apply Upd.there) a18_10 | exact s_load1 rfl (fun w hw => peekB hw (by assumption) a18_10)) rfl rfl rfl ?_))
        (first | refine gl_guard_no rfl rfl rfl rfl rfl rfl rfl ?_ | refine gl_guard_un rfl rfl rfl rfl rfl rfl ?_ | (refine gl_guard_yes rfl rfl rfl ?_; refine gl_f (s_move rfl) rfl rfl rfl ?_))
        (first | refine gl_guard_no rfl rfl rfl rfl rfl rfl rfl ?_ | refine gl_guard_un rfl rfl rfl rfl rfl rfl ?_ | (refine gl_guard_yes rfl rfl rfl ?_; refine gl_f ((s_neq rfl rfl).eq (v' := .bool false) (congrArg (fun b => Value.bool (!b)) (decide_eq_true (show (((fs ++ [d]).length : Nat) : Int) + 1 = (fs.length : Int) + 1 + 1 by rw [List.length_append, List.length_singleton]; omega)))) rfl rfl rfl ?_))
        refine gl_f (by first | exact s_pick_t rfl rfl | exact s_pick_f rfl rfl) rfl rfl rfl ?_
        refine gl_nil ?_
        repeat (first | refine g_seq ?_ | refine at_code ?_ | refine g_skip ?_ | refine g_block ?_ | refine g_exit rfl ?_ | refine g_cond_t rfl ?_ | refine g_cond_f rfl ?_)
        repeat (first | refine g_seq ?_ | refine at_code ?_ | refine g_skip ?_ | refine g_block ?_ | refine g_exit rfl ?_ | refine g_cond_t rfl ?_ | refine g_cond_f rfl ?_)
        refine g_region ?_
        refine gl_r (by first | exact s_load_blkW rfl (by repeat first|exact .del|apply Upd.there) (by rfl) | exact s_load_blkN rfl (by repeat first|exact .del|apply Upd.there) (by rfl) | exact s_loadN rfl (fun w hw => peekBN hw (by assumption)) (by rfl)) rfl rfl rfl ?_
        (first | refine gl_store_blkW rfl rfl (by repeat first|exact .here|apply Upd.there) (by rfl) (by rfl) (by (intro q hq; simp [Value.cells] at hq; first | (subst hq; rfl) | (rcases hq with rfl | rfl | rfl | rfl | rfl | rfl | rfl | rfl <;> rfl) | (rcases hq with rfl | rfl | rfl | rfl | rfl | rfl | rfl | rfl | rfl | rfl | rfl | rfl | rfl | rfl | rfl | rfl | rfl | rfl | rfl | rfl <;> rfl))) ?_ | refine gl_store_blk rfl rfl (by repeat first|exact .here|apply Upd.there) (by rfl) (by (intro q hq; simp [Value.cells] at hq; first | (subst hq; rfl) | (rcases hq with rfl | rfl | rfl | rfl | rfl | rfl | rfl | rfl <;> rfl) | (rcases hq with rfl | rfl | rfl | rfl | rfl | rfl | rfl | rfl | rfl | rfl | rfl | rfl | rfl | rfl | rfl | rfl | rfl | rfl | rfl | rfl <;> rfl))) (by rfl) ?_)
        refine gl_nil ?_
        repeat (first | refine g_seq ?_ | refine at_code ?_ | refine g_skip ?_ | refine g_block ?_ | refine g_exit rfl ?_ | refine g_cond_t rfl ?_ | refine g_cond_f rfl ?_)
        repeat (first | refine g_seq ?_ | refine at_code ?_ | refine g_skip ?_ | refine g_block ?_ | refine g_exit rfl ?_ | refine g_cond_t rfl ?_ | refine g_cond_f rfl ?_)
        refine g_region ?_
        refine gl_f (s_move rfl) rfl rfl rfl ?_
        refine gl_f (s_add_i64 rfl rfl (by omega)) rfl rfl rfl ?_
        refine gl_f (s_assign rfl) rfl rfl rfl ?_
        refine gl_nil ?_
        repeat (first | refine g_seq ?_ | refine at_code ?_ | refine g_skip ?_ | refine g_block ?_ | refine g_exit rfl ?_ | refine g_cond_t rfl ?_ | refine g_cond_f rfl ?_)
        refine at_next (j + 1, a1, fs ++ [d]) ⟨Nat.succ_le_of_lt hjl, hsu.symm⟩ (by show ds.length - (j + 1) < ds.length - j; omega) ?_ ?_
        · simp only [List.length_append, List.length_singleton]
          (repeat (first | exact Sub.nil _ | refine Sub.cons rfl ?_))
        · intro w hw
          exact Hp.left (R := .blk g10 (.cells (rsC (SL 3 W (fs ++ [d])) a1).toArray 85) :: OwnS (SL 3 W fs) b) (hw.perm (perm_up (by repeat first|exact .del|apply Upd.there) (perm_up (by repeat first|exact .del|apply Upd.there) (perm_up (by repeat first|exact .del|apply Upd.there) (perm_up (by repeat first|exact .del|apply Upd.there) (perm_up (by repeat first|exact .del|apply Upd.there) (perm_up (by repeat first|exact .del|apply Upd.there) (perm_up (by repeat first|exact .del|apply Upd.there) (perm_up (by repeat first|exact .del|apply Upd.there) (perm_up (by repeat first|exact .del|apply Upd.there) (.refl _)))))))))))
    · have hdl : ¬ d.length ≤ 2048 := by have := of_decide_eq_true hq.symm; omega
      rw [if_neg hdl, List.append_nil] at hsu
      repeat (first | refine g_seq ?_ | refine at_code ?_ | refine g_skip ?_ | refine g_block ?_ | refine g_exit rfl ?_ | refine g_cond_t rfl ?_ | refine g_cond_f rfl ?_)
      refine g_draw ([0, 4], [0, 0, 0, 6, 14, 30, 62, 127, 255, 511, 511, 511, 0, 5119, 14335, 32767], [7, 12, 13]) [blkR g5 (SL 3 W fs) b] 16 rfl ?_
      refine ga_read_k 0 rfl (by first | exact .head _ | exact .tail _ (.head _) | exact .tail _ (.tail _ (.head _)) | exact .tail _ (.tail _ (.tail _ (.head _)))) ((s_load_blkW rfl .del (by rfl)).eq (v' := rsV (SL 3 W fs) b) rfl) (by (first | exact fun _ h => h | (repeat first | exact sub_nil | refine sub_cons (by repeat first | exact List.Mem.head _ | apply List.Mem.tail) ?_))) rfl rfl rfl (by kernel_rfl) ?_
      refine ga_free 1 rfl (s_move rfl) rfl rfl rfl (by kernel_rfl) ?_
      refine ga_free 2 rfl (s_move rfl) rfl rfl rfl (by kernel_rfl) ?_
      refine ga_free 3 rfl (s_indexAddr rfl (by assumption) rfl (by omega)) rfl rfl rfl (by kernel_rfl) ?_
      refine ga_readF 4 rfl (s_load1 (v := B d) rfl (fun w hw => by rw [hd]; exact rd_str hw hr (i := j) (by first | omega | (simp only; omega)) hjl)) (by (first | exact fun _ h => h | (repeat first | exact sub_nil | refine sub_cons (by repeat first | exact List.Mem.head _ | apply List.Mem.tail) ?_))) rfl rfl rfl (by kernel_rfl) ?_
      refine ga_free 5 rfl ((s_bld (cells := #[.int .u64 0, .int .i64 3, B d]) rfl (by kernel_rfl))) rfl rfl rfl (by kernel_rfl) ?_
      refine ga_free 6 rfl ((s_bld (cells := (evC (eProp d)).toArray) rfl (by kernel_rfl)).eq (v' := evA (eProp d)) rfl) rfl rfl rfl (by kernel_rfl) ?_
      refine ga_two 7 12 rfl rfl (by kernel_rfl) ?_ ?_
      refine gl_call _ rfl (StepProp_ct (SL 3 W fs) (SL 3 W fs) b d 2 hfitL hlenL (prop_long fs d (by omega)) (.inr ⟨by decide, rfl⟩)) (fun w hw => hw) (fun h hh ⟨bs, hb⟩ => ⟨⟨Sat.rd (a := b.ca) hb (by repeat first|exact .del|apply Upd.there), Sat.rd (a := b.la) hb (by repeat first|exact .del|apply Upd.there), Sat.rd (a := b.va) hb (by repeat first|exact .del|apply Upd.there), Sat.rd (a := b.pa) hb (by repeat first|exact .del|apply Upd.there)⟩, trivial⟩) rfl ?_; rintro v A ⟨a1, oa, oc, rfl, rfl⟩
      refine gl_nil ?_
      refine at_ga (.inl (by kernel_rfl)) ?_
      refine ga_free 8 rfl (s_move rfl) rfl rfl rfl (by kernel_rfl) ?_
      refine ga_free 9 rfl (s_extract rfl rfl) rfl rfl rfl (by kernel_rfl) ?_
      refine ga_free 10 rfl (s_extract rfl rfl) rfl rfl rfl (by kernel_rfl) ?_
      refine ga_free 11 rfl (s_extract rfl rfl) rfl rfl rfl (by kernel_rfl) ?_
      refine ga_one 12 rfl (by kernel_rfl) ?_
      refine gl_allocA rfl ?_; intro g10
      refine gl_nil ?_
      refine at_ga (.inl (by kernel_rfl)) ?_
      refine ga_one 13 rfl (by kernel_rfl) ?_
      (first | refine gl_store_blkW rfl rfl (by repeat first|exact .here|apply Upd.there) (by rfl) (by rfl) (by (intro q hq; simp [Value.cells] at hq; first | (subst hq; rfl) | (rcases hq with rfl | rfl | rfl | rfl | rfl | rfl | rfl | rfl <;> rfl) | (rcases hq with rfl | rfl | rfl | rfl | rfl | rfl | rfl | rfl | rfl | rfl | rfl | rfl | rfl | rfl | rfl | rfl | rfl | rfl | rfl | rfl <;> rfl))) ?_ | refine gl_store_blk rfl rfl (by repeat first|exact .here|apply Upd.there) (by rfl) (by (intro q hq; simp [Value.cells] at hq; first | (subst hq; rfl) | (rcases hq with rfl | rfl | rfl | rfl | rfl | rfl | rfl | rfl <;> rfl) | (rcases hq with rfl | rfl | rfl | rfl | rfl | rfl | rfl | rfl | rfl | rfl | rfl | rfl | rfl | rfl | rfl | rfl | rfl | rfl | rfl | rfl <;> rfl))) (by rfl) ?_)
      refine gl_nil ?_
      refine at_ga (.inl (by kernel_rfl)) ?_
      refine ga_free 14 rfl (s_assign rfl) rfl rfl rfl (by kernel_rfl) ?_
      refine ga_free 15 rfl (s_assign rfl) rfl rfl rfl (by kernel_rfl) ?_
      refine ga_done (by kernel_rfl) ?_
      rotate_left 1
      refine gl_allocA rfl ?_; intro g10
      refine gl_nil ?_
      refine at_ga (.inr (by exact keeps_of (by (first | exact fun _ h => h | (repeat first | exact sub_nil | refine sub_cons (by repeat first | exact List.Mem.head _ | apply List.Mem.tail) ?_))))) ?_
      refine ga_one 7 rfl (by kernel_rfl) ?_
      refine gl_call _ rfl (StepProp_ct (SL 3 W fs) (SL 3 W fs) b d 2 hfitL hlenL (prop_long fs d (by omega)) (.inr ⟨by decide, rfl⟩)) (fun w hw => hw) (fun h hh ⟨bs, hb⟩ => ⟨⟨Sat.rd (a := b.ca) hb (by repeat first|exact .del|apply Upd.there), Sat.rd (a := b.la) hb (by repeat first|exact .del|apply Upd.there), Sat.rd (a := b.va) hb (by repeat first|exact .del|apply Upd.there), Sat.rd (a := b.pa) hb (by repeat first|exact .del|apply Upd.there)⟩, trivial⟩) rfl ?_; rintro v A ⟨a1, oa, oc, rfl, rfl⟩
      refine gl_nil ?_
      refine at_ga (.inl (by kernel_rfl)) ?_
      refine ga_free 8 rfl (s_move rfl) rfl rfl rfl (by kernel_rfl) ?_
      refine ga_free 9 rfl (s_extract rfl rfl) rfl rfl rfl (by kernel_rfl) ?_
      refine ga_free 10 rfl (s_extract rfl rfl) rfl rfl rfl (by kernel_rfl) ?_
      refine ga_free 11 rfl (s_extract rfl rfl) rfl rfl rfl (by kernel_rfl) ?_
      refine ga_one 13 rfl (by kernel_rfl) ?_
      (first | refine gl_store_blkW rfl rfl (by repeat first|exact .here|apply Upd.there) (by rfl) (by rfl) (by (intro q hq; simp [Value.cells] at hq; first | (subst hq; rfl) | (rcases hq with rfl | rfl | rfl | rfl | rfl | rfl | rfl | rfl <;> rfl) | (rcases hq with rfl | rfl | rfl | rfl | rfl | rfl | rfl | rfl | rfl | rfl | rfl | rfl | rfl | rfl | rfl | rfl | rfl | rfl | rfl | rfl <;> rfl))) ?_ | refine gl_store_blk rfl rfl (by repeat first|exact .here|apply Upd.there) (by rfl) (by (intro q hq; simp [Value.cells] at hq; first | (subst hq; rfl) | (rcases hq with rfl | rfl | rfl | rfl | rfl | rfl | rfl | rfl <;> rfl) | (rcases hq with rfl | rfl | rfl | rfl | rfl | rfl | rfl | rfl | rfl | rfl | rfl | rfl | rfl | rfl | rfl | rfl | rfl | rfl | rfl | rfl <;> rfl))) (by rfl) ?_)
      refine gl_nil ?_
      refine at_ga (.inl (by kernel_rfl)) ?_
      refine ga_free 14 rfl (s_assign rfl) rfl rfl rfl (by kernel_rfl) ?_
      refine ga_free 15 rfl (s_assign rfl) rfl rfl rfl (by kernel_rfl) ?_
      refine ga_done (by kernel_rfl) ?_
      rotate_left 1
      all_goals (repeat (first | refine g_seq ?_ | refine at_code ?_ | refine g_skip ?_ | refine g_block ?_ | refine g_exit rfl ?_ | refine g_cond_t rfl ?_ | refine g_cond_f rfl ?_))
      all_goals
        repeat (first | refine g_seq ?_ | refine at_code ?_ | refine g_skip ?_ | refine g_block ?_ | refine g_exit rfl ?_ | refine g_cond_t rfl ?_ | refine g_cond_f rfl ?_)
        refine g_region ?_
        refine gl_f (s_move rfl) rfl rfl rfl ?_
        refine gl_f (s_move rfl) rfl rfl rfl ?_
        refine gl_f (s_indexAddr rfl (by assumption) rfl (by omega)) rfl rfl rfl ?_
        refine gl_r (s_load1 (v := B d) rfl (fun w hw => by rw [hd]; exact rd_str hw hr (i := j) (by first | omega | (simp only; omega)) hjl)) rfl rfl rfl ?_
        refine gl_f (s_len_str rfl) rfl rfl rfl ?_
        refine gl_f ((s_gtr rfl rfl).eq (congrArg Value.bool hq.symm)) rfl rfl rfl ?_
        refine gl_nil ?_
        repeat (first | refine g_seq ?_ | refine at_code ?_ | refine g_skip ?_ | refine g_block ?_ | refine g_exit rfl ?_ | refine g_cond_t rfl ?_ | refine g_cond_f rfl ?_)
        repeat (first | refine g_seq ?_ | refine at_code ?_ | refine g_skip ?_ | refine g_block ?_ | refine g_exit rfl ?_ | refine g_cond_t rfl ?_ | refine g_cond_f rfl ?_)
        refine g_region ?_
        refine gl_f (s_move rfl) rfl rfl rfl ?_
        refine gl_f ((s_neq rfl rfl).eq (v' := .bool false) rfl) rfl rfl rfl ?_
        refine gl_f (s_move rfl) rfl rfl rfl ?_
        (first | refine gl_guard_no rfl rfl rfl rfl rfl rfl rfl ?_ | refine gl_guard_un rfl rfl rfl rfl rfl rfl ?_ | (refine gl_guard_yes rfl rfl rfl ?_; refine gl_f (s_move rfl) rfl rfl rfl ?_))
        (first | refine gl_guard_no rfl rfl rfl rfl rfl rfl rfl ?_ | refine gl_guard_un rfl rfl rfl rfl rfl rfl ?_ | (refine gl_guard_yes rfl rfl rfl ?_; refine gl_f (s_len_sl rfl) rfl rfl rfl ?_))
        (first | refine gl_guard_no rfl rfl rfl rfl rfl rfl rfl ?_ | refine gl_guard_un rfl rfl rfl rfl rfl rfl ?_ | (refine gl_guard_yes rfl rfl rfl ?_; refine gl_f ((s_neq rfl rfl).eq (v' := .bool false) rfl) rfl rfl rfl ?_))
        refine gl_f (by first | exact s_pick_t rfl rfl | exact s_pick_f rfl rfl) rfl rfl rfl ?_
        refine gl_f (s_move rfl) rfl rfl rfl ?_
        (first | refine gl_guard_no rfl rfl rfl rfl rfl rfl rfl ?_ | refine gl_guard_un rfl rfl rfl rfl rfl rfl ?_ | (refine gl_guard_yes rfl rfl rfl ?_; refine gl_r ((s_load_blkW rfl (by repeat first|exact .del|apply Upd.there) (by rfl)).eq (v' := rsV (SL 3 W fs) a1) rfl) rfl rfl rfl ?_))
        (first | refine gl_guard_no rfl rfl rfl rfl rfl rfl rfl ?_ | refine gl_guard_un rfl rfl rfl rfl rfl rfl ?_ | (refine gl_guard_yes rfl rfl rfl ?_; refine gl_r ((s_load_blkW rfl (by repeat first|exact .del|apply Upd.there) (by rfl)).eq (v' := rsV (SL 3 W fs) b) rfl) rfl rfl rfl ?_))
        (first | refine gl_guard_no rfl rfl rfl rfl rfl rfl rfl ?_ | refine gl_guard_un rfl rfl rfl rfl rfl rfl ?_ | (refine gl_guard_yes rfl rfl rfl ?_; refine gl_callp rfl (Same_ct (SL 3 W fs) a1 b (PFit.sm hfitL)) (fun h hh ⟨bs, hbs⟩ => ⟨⟨Sat.rd (a := a1.ca) hbs (by repeat first|exact .del|apply Upd.there), Sat.rd (a := a1.la) hbs (by repeat first|exact .del|apply Upd.there), Sat.rd (a := a1.va) hbs (by repeat first|exact .del|apply Upd.there), Sat.rd (a := a1.pa) hbs (by repeat first|exact .del|apply Upd.there)⟩, ⟨Sat.rd (a := b.ca) hbs (by repeat first|exact .del|apply Upd.there), Sat.rd (a := b.la) hbs (by repeat first|exact .del|apply Upd.there), Sat.rd (a := b.va) hbs (by repeat first|exact .del|apply Upd.there), Sat.rd (a := b.pa) hbs (by repeat first|exact .del|apply Upd.there)⟩⟩) rfl ?_))
        (first | refine gl_guard_no rfl rfl rfl rfl rfl rfl rfl ?_ | refine gl_guard_un rfl rfl rfl rfl rfl rfl ?_ | (refine gl_guard_yes rfl rfl rfl ?_; refine gl_f (s_not rfl) rfl rfl rfl ?_))
        refine gl_f (by first | exact s_pick_t rfl rfl | exact s_pick_f rfl rfl) rfl rfl rfl ?_
        refine gl_nil ?_
        repeat (first | refine g_seq ?_ | refine at_code ?_ | refine g_skip ?_ | refine g_block ?_ | refine g_exit rfl ?_ | refine g_cond_t rfl ?_ | refine g_cond_f rfl ?_)
        repeat (first | refine g_seq ?_ | refine at_code ?_ | refine g_skip ?_ | refine g_block ?_ | refine g_exit rfl ?_ | refine g_cond_t rfl ?_ | refine g_cond_f rfl ?_)
        refine g_region ?_
        refine gl_f (s_move rfl) rfl rfl rfl ?_
        refine gl_f (s_add_i64 rfl rfl (by omega)) rfl rfl rfl ?_
        refine gl_f (s_assign rfl) rfl rfl rfl ?_
        refine gl_nil ?_
        repeat (first | refine g_seq ?_ | refine at_code ?_ | refine g_skip ?_ | refine g_block ?_ | refine g_exit rfl ?_ | refine g_cond_t rfl ?_ | refine g_cond_f rfl ?_)
        refine at_next (j + 1, b, fs) ⟨Nat.succ_le_of_lt hjl, hsu.symm⟩ (by show ds.length - (j + 1) < ds.length - j; omega) ?_ ?_
        · (repeat (first | exact Sub.nil _ | refine Sub.cons rfl ?_))
        · intro w hw
          exact Hp.left (R := .blk g10 (.cells (rsC (SL 3 W fs) a1).toArray 85) :: OwnS (SL 3 W fs) a1) (hw.perm (perm_up (by repeat first|exact .del|apply Upd.there) (perm_up (by repeat first|exact .del|apply Upd.there) (perm_up (by repeat first|exact .del|apply Upd.there) (perm_up (by repeat first|exact .del|apply Upd.there) (perm_up (by repeat first|exact .del|apply Upd.there) (perm_up (by repeat first|exact .del|apply Upd.there) (perm_up (by repeat first|exact .del|apply Upd.there) (perm_up (by repeat first|exact .del|apply Upd.there) (perm_up (by repeat first|exact .del|apply Upd.there) (.refl _)))))))))))
  repeat (first | refine g_seq ?_ | refine at_code ?_ | refine g_skip ?_ | refine g_block ?_ | refine g_exit rfl ?_ | refine g_cond_t rfl ?_ | refine g_cond_f rfl ?_)
  repeat (first | refine g_seq ?_ | refine at_code ?_ | refine g_skip ?_ | refine g_block ?_ | refine g_exit rfl ?_ | refine g_cond_t rfl ?_ | refine g_cond_f rfl ?_)
  refine g_region ?_
  refine gl_f (by first | exact s_fieldAddr rfl (by rfl) (by infer_instance) (by decide) | exact s_fieldAddr_o rfl (by assumption) (by rfl) (by infer_instance) (by decide)) rfl rfl rfl ?_
  refine gl_r (by first | exact s_load_blk rfl (by repeat first|exact .del|apply Upd.there) a18_1 | exact s_load1 rfl (fun w hw => peekB hw (by assumption) a18_1)) rfl rfl rfl ?_
  refine gl_f (by first | exact s_fieldAddr rfl (by rfl) (by infer_instance) (by decide) | exact s_fieldAddr_o rfl (by assumption) (by rfl) (by infer_instance) (by decide)) rfl rfl rfl ?_
  refine gl_r (by first | exact s_load_blk rfl (by repeat first|exact .del|apply Upd.there) a18_2 | exact s_load1 rfl (fun w hw => peekB hw (by assumption) a18_2)) rfl rfl rfl ?_
  refine gl_f ((s_bld (cells := #[.int .u64 1, .int .i64 3, .int .u64 0]) rfl (by kernel_rfl))) rfl rfl rfl ?_
  refine gl_f (by first | exact s_fieldAddr rfl (by rfl) (by infer_instance) (by decide) | exact s_fieldAddr_o rfl (by assumption) (by rfl) (by infer_instance) (by decide)) rfl rfl rfl ?_
  refine gl_r ((s_load_blkN rfl (by repeat first|exact .del|apply Upd.there) (by rfl)).eq (v' := ((SL 3 W fs).lm b).v) rfl) rfl rfl rfl ?_
  refine gl_f (by first | exact s_fieldAddr rfl (by rfl) (by infer_instance) (by decide) | exact s_fieldAddr_o rfl (by assumption) (by rfl) (by infer_instance) (by decide)) rfl rfl rfl ?_
  refine gl_r (by first | exact s_load_blk rfl (by repeat first|exact .del|apply Upd.there) a18_9 | exact s_load1 rfl (fun w hw => peekB hw (by assumption) a18_9)) rfl rfl rfl ?_
  refine gl_f (s_move rfl) rfl rfl rfl ?_
  refine gl_call _ rfl (New_ok 3 ⟨1, 3, 0⟩ ((SL 3 W fs).lm b) [] W (by show 1 ≤ _; decide) (by show (SL 3 W fs).l.length ≤ _; omega) (by unfold badNew; rw [decide_eq_false (by decide), decide_eq_false (by decide), decide_eq_false (by omega), decide_eq_false (by omega)]; rfl)) (fun w hw => hw) (fun h hh ⟨bs, hb⟩ => ⟨Sat.rd (a := b.ca) hb (by repeat first|exact .del|apply Upd.there), Sat.rd (a := b.la) hb (by repeat first|exact .del|apply Upd.there)⟩) rfl ?_; rintro v A ⟨a1, rfl, rfl⟩
  refine gl_f (s_move rfl) rfl rfl rfl ?_
  refine gl_f (s_extract rfl rfl) rfl rfl rfl ?_
  refine gl_f (s_extract rfl rfl) rfl rfl rfl ?_
  refine gl_allocA rfl ?_; intro g13
  (first | refine gl_store_blkW rfl rfl (by repeat first|exact .here|apply Upd.there) (by rfl) (by rfl) (by (intro q hq; simp [Value.cells] at hq; first | (subst hq; rfl) | (rcases hq with rfl | rfl | rfl | rfl | rfl | rfl | rfl | rfl <;> rfl) | (rcases hq with rfl | rfl | rfl | rfl | rfl | rfl | rfl | rfl | rfl | rfl | rfl | rfl | rfl | rfl | rfl | rfl | rfl | rfl | rfl | rfl <;> rfl))) ?_ | refine gl_store_blk rfl rfl (by repeat first|exact .here|apply Upd.there) (by rfl) (by (intro q hq; simp [Value.cells] at hq; first | (subst hq; rfl) | (rcases hq with rfl | rfl | rfl | rfl | rfl | rfl | rfl | rfl <;> rfl) | (rcases hq with rfl | rfl | rfl | rfl | rfl | rfl | rfl | rfl | rfl | rfl | rfl | rfl | rfl | rfl | rfl | rfl | rfl | rfl | rfl | rfl <;> rfl))) (by rfl) ?_)
  refine gl_f (s_assign rfl) rfl rfl rfl ?_
  refine gl_nil ?_
  repeat (first | refine g_seq ?_ | refine at_code ?_ | refine g_skip ?_ | refine g_block ?_ | refine g_exit rfl ?_ | refine g_cond_t rfl ?_ | refine g_cond_f rfl ?_)
  repeat (first | refine g_seq ?_ | refine at_code ?_ | refine g_skip ?_ | refine g_block ?_ | refine g_exit rfl ?_ | refine g_cond_t rfl ?_ | refine g_cond_f rfl ?_)
  refine g_region ?_
  refine gl_f (s_move rfl) rfl rfl rfl ?_
  refine gl_f ((s_eql rfl rfl).eq (v' := .bool true) rfl) rfl rfl rfl ?_
  refine gl_f (s_move rfl) rfl rfl rfl ?_
  (first | refine gl_guard_no rfl rfl rfl rfl rfl rfl rfl ?_ | refine gl_guard_un rfl rfl rfl rfl rfl rfl ?_ | (refine gl_guard_yes rfl rfl rfl ?_; refine gl_f (by first | exact s_fieldAddr rfl (by rfl) (by infer_instance) (by decide) | exact s_fieldAddr_o rfl (by assumption) (by rfl) (by infer_instance) (by decide)) rfl rfl rfl ?_))
  (first | refine gl_guard_no rfl rfl rfl rfl rfl rfl rfl ?_ | refine gl_guard_un rfl rfl rfl rfl rfl rfl ?_ | (refine gl_guard_yes rfl rfl rfl ?_; refine gl_r ((s_load_blkN rfl (by repeat first|exact .del|apply Upd.there) (by rfl)).eq (v' := ((SL 3 W fs).lm a1).v) rfl) rfl rfl rfl ?_))
  (first | refine gl_guard_no rfl rfl rfl rfl rfl rfl rfl ?_ | refine gl_guard_un rfl rfl rfl rfl rfl rfl ?_ | (refine gl_guard_yes rfl rfl rfl ?_; refine gl_f (by first | exact s_fieldAddr rfl (by rfl) (by infer_instance) (by decide) | exact s_fieldAddr_o rfl (by assumption) (by rfl) (by infer_instance) (by decide)) rfl rfl rfl ?_))
  (first | refine gl_guard_no rfl rfl rfl rfl rfl rfl rfl ?_ | refine gl_guard_un rfl rfl rfl rfl rfl rfl ?_ | (refine gl_guard_yes rfl rfl rfl ?_; refine gl_r ((s_load_blkN rfl (by repeat first|exact .del|apply Upd.there) (by rfl)).eq (v' := ((SL 3 W fs).lm b).v) rfl) rfl rfl rfl ?_))
  (first | refine gl_guard_no rfl rfl rfl rfl rfl rfl rfl ?_ | refine gl_guard_un rfl rfl rfl rfl rfl rfl ?_ | (refine gl_guard_yes rfl rfl rfl ?_; refine gl_callp rfl (SameLogs_ct ((SL 3 W fs).lm a1) ((SL 3 W fs).lm b) (by show 1 ≤ _; decide) (by show (SL 3 W fs).l.length ≤ _; omega)) (fun h hh ⟨bs, hbs⟩ => ⟨⟨Sat.rd (a := a1.ca) hbs (by repeat first|exact .del|apply Upd.there), Sat.rd (a := a1.la) hbs (by repeat first|exact .del|apply Upd.there)⟩, ⟨Sat.rd (a := b.ca) hbs (by repeat first|exact .del|apply Upd.there), Sat.rd (a := b.la) hbs (by repeat first|exact .del|apply Upd.there)⟩⟩) rfl ?_; rw [same_self]))
  refine gl_f (by first | exact s_pick_t rfl rfl | exact s_pick_f rfl rfl) rfl rfl rfl ?_
  refine gl_f (s_move rfl) rfl rfl rfl ?_
  (first | refine gl_guard_no rfl rfl rfl rfl rfl rfl rfl ?_ | refine gl_guard_un rfl rfl rfl rfl rfl rfl ?_ | (refine gl_guard_yes rfl rfl rfl ?_; refine gl_f (by first | exact s_fieldAddr rfl (by rfl) (by infer_instance) (by decide) | exact s_fieldAddr_o rfl (by assumption) (by rfl) (by infer_instance) (by decide)) rfl rfl rfl ?_))
  (first | refine gl_guard_no rfl rfl rfl rfl rfl rfl rfl ?_ | refine gl_guard_un rfl rfl rfl rfl rfl rfl ?_ | (refine gl_guard_yes rfl rfl rfl ?_; refine gl_r (by first | exact s_load_blk rfl (by repeat first|exact .del|apply Upd.there) a18_10 | exact s_load1 rfl (fun w hw => peekB hw (by assumption) a18_10)) rfl rfl rfl ?_))
  (first | refine gl_guard_no rfl rfl rfl rfl rfl rfl rfl ?_ | refine gl_guard_un rfl rfl rfl rfl rfl rfl ?_ | (refine gl_guard_yes rfl rfl rfl ?_; refine gl_f ((s_eql rfl rfl).eq (v' := .bool true) rfl) rfl rfl rfl ?_))
  refine gl_f (by first | exact s_pick_t rfl rfl | exact s_pick_f rfl rfl) rfl rfl rfl ?_
  refine gl_f (s_move rfl) rfl rfl rfl ?_
  (first | refine gl_guard_no rfl rfl rfl rfl rfl rfl rfl ?_ | refine gl_guard_un rfl rfl rfl rfl rfl rfl ?_ | (refine gl_guard_yes rfl rfl rfl ?_; refine gl_f (by first | exact s_fieldAddr rfl (by rfl) (by infer_instance) (by decide) | exact s_fieldAddr_o rfl (by assumption) (by rfl) (by infer_instance) (by decide)) rfl rfl rfl ?_))
  (first | refine gl_guard_no rfl rfl rfl rfl rfl rfl rfl ?_ | refine gl_guard_un rfl rfl rfl rfl rfl rfl ?_ | (refine gl_guard_yes rfl rfl rfl ?_; refine gl_r (by first | exact s_load_blk rfl (by repeat first|exact .del|apply Upd.there) a18_3 | exact s_load1 rfl (fun w hw => peekB hw (by assumption) a18_3)) rfl rfl rfl ?_))
  (first | refine gl_guard_no rfl rfl rfl rfl rfl rfl rfl ?_ | refine gl_guard_un rfl rfl rfl rfl rfl rfl ?_ | (refine gl_guard_yes rfl rfl rfl ?_; refine gl_f ((s_eql rfl rfl).eq (v' := .bool true) rfl) rfl rfl rfl ?_))
  refine gl_f (by first | exact s_pick_t rfl rfl | exact s_pick_f rfl rfl) rfl rfl rfl ?_
  refine gl_f (s_assign rfl) rfl rfl rfl ?_
  refine gl_nil ?_
  repeat (first | refine g_seq ?_ | refine at_code ?_ | refine g_skip ?_ | refine g_block ?_ | refine g_exit rfl ?_ | refine g_cond_t rfl ?_ | refine g_cond_f rfl ?_)
  refine g_ret ?_
  exact at_end1 rfl rfl [] ⟨rfl, rfl⟩ (fun _ h => h.dropAll)
end Go.Proofs.Ytodcghipfolejaa.Rf
