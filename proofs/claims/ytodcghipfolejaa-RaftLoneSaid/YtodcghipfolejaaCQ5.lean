/- The walk of Commit. -/
import Derived.Test.YtodcghipfolejaaCQ1
import Derived.Test.YtodcghipfolejaaCQH5
import Derived.Test.YtodcghipfolejaaCQMathC
namespace Go.Proofs.Ytodcghipfolejaa
open Go Go.Sl
set_option linter.unusedVariables false
set_option linter.unusedSimpArgs false

noncomputable def com (l : List Int) (hs : List At2) : Int := if rightB l = true then Classical.epsilon (ComS l hs) else 0
theorem com_eq {l : List Int} {hs : List At2} {r : Int} (hr : rightB l = true) (h : ComS l hs r) : com l hs = r := by
  rw [com, if_pos hr]
  exact ComS_unique (Classical.epsilon_spec ⟨r, h⟩) h
theorem com_no {l : List Int} {hs : List At2} (hr : rightB l = false) : com l hs = 0 := by rw [com, if_neg (by rw [hr]; simp)]
theorem rdA_some {h : Heap} {a : Option Addr} {l : List At2} {i : Nat} (r : RdS h a (atV l)) (hi : i < l.length) : ∃ ad, a = some ad := by
  obtain ⟨ad, e, _⟩ := r (by intro e; have := congrArg List.length e; rw [atV_length] at this; simp at this; omega)
  exact ⟨ad, e⟩
theorem rdA {F : Snap} {w : World} {H : List As} {a : Option Addr} {l : List At2} (hw : Hp F w H) (r : RdS F.heap a (atV l)) {q i : Nat} (h : q = 2 * i) (hi : i < l.length) : PeekC (hp w) (addO a q) [.int .i64 (l.getD i (0, 0)).1, .int .u64 (l.getD i (0, 0)).2] :=
  peek_rd hw r (by simp) (fun j u hu => by
    subst h
    have := atV_get l i hi
    match j, hu with
    | 0, hu => simp only [List.getElem?_cons_zero, Option.some.injEq] at hu; subst hu; exact this.1
    | 1, hu => simp only [List.getElem?_cons_succ, List.getElem?_cons_zero, Option.some.injEq] at hu; subst hu; exact this.2)
def RdLH (a b : Option Addr) (l : List Int) (hs : List At2) (h : Heap) : Prop := RdS h a (intsV l) ∧ RdS h b (atV hs)

theorem pop_cnt {ys zs : List Int} {i : Int} (hm : Mx ys ys.length) (hp : (ys.getD 0 0 :: zs).Perm ys) : zs.countP (fun v => decide (i ≤ v)) = ys.countP (fun v => decide (i ≤ v)) - 1 := by
  have h1 := hp.countP_eq (fun v => decide (i ≤ v))
  by_cases h : i ≤ ys.getD 0 0
  · rw [List.countP_cons_of_pos (by simpa using h)] at h1; omega
  · rw [List.countP_cons_of_neg (by simpa using h)] at h1
    have h2 : ys.countP (fun v => decide (i ≤ v)) = 0 := by
      rw [List.countP_eq_zero]
      intro v hv hq
      have := mx_max hm v hv
      simp only [decide_eq_true_eq] at hq
      omega
    omega
set_option maxHeartbeats 2000000 in
theorem Commit_ct (l : List Int) (hs : List At2) (a b : Option Addr) (c d : Nat) (hl : l.length ≤ 4611686018427387903) (hh : hs.length ≤ 4611686018427387903) : Pu Try.prog 23 [.slice a l.length c, .slice b hs.length d] (RdLH a b l hs) (.int .u64 (com l hs)) := by
  refine ct_enter 51 Try.func23 rfl rfl rfl ?_
  intro F hr
  have hrl := hr.1
  have hrh := hr.2
  obtain ⟨q, hq⟩ : ∃ q, q = rightB l := ⟨_, rfl⟩
  repeat (first | refine g_seq ?_ | refine at_code ?_ | refine g_skip ?_ | refine g_block ?_ | refine g_exit rfl ?_ | refine g_cond_t rfl ?_ | refine g_cond_f rfl ?_)
  refine g_region ?_
  refine gl_f (s_assign rfl) rfl rfl rfl ?_
  refine gl_nil ?_
  repeat (first | refine g_seq ?_ | refine at_code ?_ | refine g_skip ?_ | refine g_block ?_ | refine g_exit rfl ?_ | refine g_cond_t rfl ?_ | refine g_cond_f rfl ?_)
  cases q
  · repeat (first | refine g_seq ?_ | refine at_code ?_ | refine g_skip ?_ | refine g_block ?_ | refine g_exit rfl ?_ | refine g_cond_t rfl ?_ | refine g_cond_f rfl ?_)
    refine g_region ?_
    refine gl_f (s_move rfl) rfl rfl rfl ?_
    refine gl_callp rfl (Right_ct l a c (by omega)) (fun h hh _ => hrl.le hh) rfl ?_; rw [← hq]
    refine gl_f (s_not rfl) rfl rfl rfl ?_
    refine gl_nil ?_
    repeat (first | refine g_seq ?_ | refine at_code ?_ | refine g_skip ?_ | refine g_block ?_ | refine g_exit rfl ?_ | refine g_cond_t rfl ?_ | refine g_cond_f rfl ?_)
    repeat (first | refine g_seq ?_ | refine at_code ?_ | refine g_skip ?_ | refine g_block ?_ | refine g_exit rfl ?_ | refine g_cond_t rfl ?_ | refine g_cond_f rfl ?_)
    refine g_region ?_
    refine gl_f (s_assign rfl) rfl rfl rfl ?_
    refine gl_nil ?_
    repeat (first | refine g_seq ?_ | refine at_code ?_ | refine g_skip ?_ | refine g_block ?_ | refine g_exit rfl ?_ | refine g_cond_t rfl ?_ | refine g_cond_f rfl ?_)
    refine g_ret ?_
    exact at_end1 rfl rfl [] ⟨by rw [com_no hq.symm], rfl⟩ (fun _ h => h)
  · obtain ⟨hl0, hl5⟩ := right_len hq.symm
    repeat (first | refine g_seq ?_ | refine at_code ?_ | refine g_skip ?_ | refine g_block ?_ | refine g_exit rfl ?_ | refine g_cond_t rfl ?_ | refine g_cond_f rfl ?_)
    refine g_region ?_
    refine gl_f (s_move rfl) rfl rfl rfl ?_
    refine gl_callp rfl (Right_ct l a c (by omega)) (fun h hh _ => hrl.le hh) rfl ?_; rw [← hq]
    refine gl_f (s_not rfl) rfl rfl rfl ?_
    refine gl_nil ?_
    repeat (first | refine g_seq ?_ | refine at_code ?_ | refine g_skip ?_ | refine g_block ?_ | refine g_exit rfl ?_ | refine g_cond_t rfl ?_ | refine g_cond_f rfl ?_)
    repeat (first | refine g_seq ?_ | refine at_code ?_ | refine g_skip ?_ | refine g_block ?_ | refine g_exit rfl ?_ | refine g_cond_t rfl ?_ | refine g_cond_f rfl ?_)
    refine g_region ?_
    refine gl_alloc rfl ?_; intro g5
    refine gl_nil ?_
    repeat (first | refine g_seq ?_ | refine at_code ?_ | refine g_skip ?_ | refine g_block ?_ | refine g_exit rfl ?_ | refine g_cond_t rfl ?_ | refine g_cond_f rfl ?_)
    refine g_own_nil 27 1 ?_
    repeat (first | refine g_seq ?_ | refine at_code ?_ | refine g_skip ?_ | refine g_block ?_ | refine g_exit rfl ?_ | refine g_cond_t rfl ?_ | refine g_cond_f rfl ?_)
    refine g_region ?_
    refine gl_f (s_move rfl) rfl rfl rfl ?_
    refine gl_f (s_len_sl rfl) rfl rfl rfl ?_
    refine gl_f (s_move rfl) rfl rfl rfl ?_
    refine gl_nil ?_
    repeat (first | refine g_seq ?_ | refine at_code ?_ | refine g_skip ?_ | refine g_block ?_ | refine g_exit rfl ?_ | refine g_cond_t rfl ?_ | refine g_cond_f rfl ?_)
    refine g_loop (ι := Nat × Option Addr × Nat × List Int) (fun i => i.1 ≤ l.length ∧ i.2.2.2.Perm ((l.take i.1).map (bst hs)) ∧ Mx i.2.2.2 i.2.2.2.length) (fun i => [(0, .slice a l.length c), (1, .slice b hs.length d), (5, Ptr g5), (14, .slice a l.length c), (15, .int .i64 (l.length : Nat)), (16, .int .i64 (i.1 : Nat))]) (fun i => HX g5 i.2.1 i.2.2.1 i.2.2.2) (fun i => l.length - i.1) (0, none, 0, []) ⟨by simp only; omega, by simp, fun k _ hk => absurd hk (by simp)⟩ ?_ ?_ ?_
    · (repeat (first | exact Sub.nil _ | refine Sub.cons rfl ?_))
    · intro w hw; exact hw.front (.there .del)
    · rintro ⟨k, xa, xc, xs⟩ ⟨hk, hp, hm⟩
      simp only at hk hp hm
      have hxl : xs.length = k := by rw [hp.length_eq, List.length_map, List.length_take]; omega
      repeat (first | refine g_seq ?_ | refine at_code ?_ | refine g_skip ?_ | refine g_block ?_ | refine g_exit rfl ?_ | refine g_cond_t rfl ?_ | refine g_cond_f rfl ?_)
      refine g_region ?_
      refine gl_f (s_lss rfl rfl) rfl rfl rfl ?_
      refine gl_nil ?_
      repeat (first | refine g_seq ?_ | refine at_code ?_ | refine g_skip ?_ | refine g_block ?_ | refine g_exit rfl ?_ | refine g_cond_t rfl ?_ | refine g_cond_f rfl ?_)
      refine g_cond rfl (fun h => ?_) (fun h => ?_)
      · have hk' : k < l.length := by simp at h; omega
        have hsome := rdI_some hrl hk'
        repeat (first | refine g_seq ?_ | refine at_code ?_ | refine g_skip ?_ | refine g_block ?_ | refine g_exit rfl ?_ | refine g_cond_t rfl ?_ | refine g_cond_f rfl ?_)
        refine g_region ?_
        refine gl_f (s_indexAddr rfl (by assumption) rfl (by omega)) rfl rfl rfl ?_
        refine gl_r (s_load1 rfl (fun w hw => rdI hw hrl (i := k) (by omega) (by omega))) rfl rfl rfl ?_
        refine gl_f (s_assign rfl) rfl rfl rfl ?_
        refine gl_nil ?_
        repeat (first | refine g_seq ?_ | refine at_code ?_ | refine g_skip ?_ | refine g_block ?_ | refine g_exit rfl ?_ | refine g_cond_t rfl ?_ | refine g_cond_f rfl ?_)
        repeat (first | refine g_seq ?_ | refine at_code ?_ | refine g_skip ?_ | refine g_block ?_ | refine g_exit rfl ?_ | refine g_cond_t rfl ?_ | refine g_cond_f rfl ?_)
        refine g_region ?_
        refine gl_f (s_assign rfl) rfl rfl rfl ?_
        refine gl_nil ?_
        repeat (first | refine g_seq ?_ | refine at_code ?_ | refine g_skip ?_ | refine g_block ?_ | refine g_exit rfl ?_ | refine g_cond_t rfl ?_ | refine g_cond_f rfl ?_)
        refine g_region ?_
        refine gl_f (s_move rfl) rfl rfl rfl ?_
        refine gl_f (s_len_sl rfl) rfl rfl rfl ?_
        refine gl_f (s_move rfl) rfl rfl rfl ?_
        refine gl_nil ?_
        repeat (first | refine g_seq ?_ | refine at_code ?_ | refine g_skip ?_ | refine g_block ?_ | refine g_exit rfl ?_ | refine g_cond_t rfl ?_ | refine g_cond_f rfl ?_)
        refine g_loop (ι := Nat) (fun j => j ≤ hs.length) (fun j => [(0, .slice a l.length c), (1, .slice b hs.length d), (5, Ptr g5), (14, .slice a l.length c), (15, .int .i64 (l.length : Nat)), (16, .int .i64 (k : Nat)), (7, .int .i64 (l.getD k 0)), (8, .int .u64 (bst (hs.take j) (l.getD k 0))), (20, .slice b hs.length d), (21, .int .i64 (hs.length : Nat)), (22, .int .i64 (j : Nat))]) (fun j => HX g5 xa xc xs) (fun j => hs.length - j) 0 (by omega) ?_ ?_ ?_
        · (repeat (first | exact Sub.nil _ | refine Sub.cons rfl ?_))
        · intro w hw; exact hw
        · intro j hj
          repeat (first | refine g_seq ?_ | refine at_code ?_ | refine g_skip ?_ | refine g_block ?_ | refine g_exit rfl ?_ | refine g_cond_t rfl ?_ | refine g_cond_f rfl ?_)
          refine g_region ?_
          refine gl_f (s_lss rfl rfl) rfl rfl rfl ?_
          refine gl_nil ?_
          repeat (first | refine g_seq ?_ | refine at_code ?_ | refine g_skip ?_ | refine g_block ?_ | refine g_exit rfl ?_ | refine g_cond_t rfl ?_ | refine g_cond_f rfl ?_)
          refine g_cond rfl (fun h2 => ?_) (fun h2 => ?_)
          · have hj' : j < hs.length := by simp at h2; omega
            have hsome2 := rdA_some hrh hj'
            repeat (first | refine g_seq ?_ | refine at_code ?_ | refine g_skip ?_ | refine g_block ?_ | refine g_exit rfl ?_ | refine g_cond_t rfl ?_ | refine g_cond_f rfl ?_)
            refine g_region ?_
            refine gl_f (s_indexAddr rfl (by assumption) rfl (by omega)) rfl rfl rfl ?_
            refine gl_r (s_loadN rfl (fun w hw => rdA hw hrh (i := j) (by omega) hj') rfl) rfl rfl rfl ?_
            refine gl_allocA rfl ?_; intro g10
            (first | refine gl_store_blkW rfl rfl (by repeat first|exact .here|apply Upd.there) (by rfl) (by rfl) (by (intro q hq; simp [Value.cells] at hq; first | (subst hq; rfl) | (rcases hq with rfl | rfl | rfl | rfl | rfl | rfl | rfl | rfl <;> rfl) | (rcases hq with rfl | rfl | rfl | rfl | rfl | rfl | rfl | rfl | rfl | rfl | rfl | rfl | rfl | rfl | rfl | rfl | rfl | rfl | rfl | rfl <;> rfl))) ?_ | refine gl_store_blk rfl rfl (by repeat first|exact .here|apply Upd.there) (by rfl) (by (intro q hq; simp [Value.cells] at hq; first | (subst hq; rfl) | (rcases hq with rfl | rfl | rfl | rfl | rfl | rfl | rfl | rfl <;> rfl) | (rcases hq with rfl | rfl | rfl | rfl | rfl | rfl | rfl | rfl | rfl | rfl | rfl | rfl | rfl | rfl | rfl | rfl | rfl | rfl | rfl | rfl <;> rfl))) (by rfl) ?_)
            refine gl_nil ?_
            repeat (first | refine g_seq ?_ | refine at_code ?_ | refine g_skip ?_ | refine g_block ?_ | refine g_exit rfl ?_ | refine g_cond_t rfl ?_ | refine g_cond_f rfl ?_)
            repeat (first | refine g_seq ?_ | refine at_code ?_ | refine g_skip ?_ | refine g_block ?_ | refine g_exit rfl ?_ | refine g_cond_t rfl ?_ | refine g_cond_f rfl ?_)
            refine g_region ?_
            refine gl_f (by first | exact s_fieldAddr rfl (by rfl) (by infer_instance) (by decide) | exact s_fieldAddr_o rfl (by assumption) (by rfl) (by infer_instance) (by decide)) rfl rfl rfl ?_
            refine gl_r (by first | exact s_load_blk rfl (by repeat first|exact .del|apply Upd.there) (by rfl) | exact s_load1 rfl (fun w hw => peekB hw (by assumption) (by rfl))) rfl rfl rfl ?_
            refine gl_f (s_move rfl) rfl rfl rfl ?_
            refine gl_f (s_eql rfl rfl) rfl rfl rfl ?_
            refine gl_nil ?_
            repeat (first | refine g_seq ?_ | refine at_code ?_ | refine g_skip ?_ | refine g_block ?_ | refine g_exit rfl ?_ | refine g_cond_t rfl ?_ | refine g_cond_f rfl ?_)
            refine g_cutK [(0, .slice a l.length c), (1, .slice b hs.length d), (5, Ptr g5), (14, .slice a l.length c), (15, .int .i64 (l.length : Nat)), (16, .int .i64 (k : Nat)), (7, .int .i64 (l.getD k 0)), (8, .int .u64 (bst (hs.take (j + 1)) (l.getD k 0))), (20, .slice b hs.length d), (21, .int .i64 (hs.length : Nat)), (22, .int .i64 (j : Nat))] (HX g5 xa xc xs) ?_ ?_
            · refine g_cond rfl (fun h3 => ?_) (fun h3 => ?_)
              · have h4 : (hs.getD j (0, 0)).1 = l.getD k 0 := of_decide_eq_true h3
                have e : bst (hs.take (j + 1)) (l.getD k 0) = max (bst (hs.take j) (l.getD k 0)) (hs.getD j (0, 0)).2 := by rw [take_succ_at hj', bst_append, if_pos h4]
                rw [e]
                repeat (first | refine g_seq ?_ | refine at_code ?_ | refine g_skip ?_ | refine g_block ?_ | refine g_exit rfl ?_ | refine g_cond_t rfl ?_ | refine g_cond_f rfl ?_)
                refine g_region ?_
                refine gl_f (s_move rfl) rfl rfl rfl ?_
                refine gl_f (by first | exact s_fieldAddr rfl (by rfl) (by infer_instance) (by decide) | exact s_fieldAddr_o rfl (by assumption) (by rfl) (by infer_instance) (by decide)) rfl rfl rfl ?_
                refine gl_r (by first | exact s_load_blk rfl (by repeat first|exact .del|apply Upd.there) (by rfl) | exact s_load1 rfl (fun w hw => peekB hw (by assumption) (by rfl))) rfl rfl rfl ?_
                refine gl_f (s_max2 rfl rfl) rfl rfl rfl ?_
                refine gl_f (s_assign rfl) rfl rfl rfl ?_
                refine gl_nil ?_
                repeat (first | refine g_seq ?_ | refine at_code ?_ | refine g_skip ?_ | refine g_block ?_ | refine g_exit rfl ?_ | refine g_cond_t rfl ?_ | refine g_cond_f rfl ?_)
                exact at_cut (by (repeat (first | exact Sub.nil _ | refine Sub.cons rfl ?_))) (fun w hw => hw.drop)
              · have h4 : ¬ (hs.getD j (0, 0)).1 = l.getD k 0 := of_decide_eq_false h3
                have e : bst (hs.take (j + 1)) (l.getD k 0) = bst (hs.take j) (l.getD k 0) := by rw [take_succ_at hj', bst_append, if_neg h4]
                rw [e]
                repeat (first | refine g_seq ?_ | refine at_code ?_ | refine g_skip ?_ | refine g_block ?_ | refine g_exit rfl ?_ | refine g_cond_t rfl ?_ | refine g_cond_f rfl ?_)
                exact at_cut (by (repeat (first | exact Sub.nil _ | refine Sub.cons rfl ?_))) (fun w hw => hw.drop)
            · repeat (first | refine g_seq ?_ | refine at_code ?_ | refine g_skip ?_ | refine g_block ?_ | refine g_exit rfl ?_ | refine g_cond_t rfl ?_ | refine g_cond_f rfl ?_)
              repeat (first | refine g_seq ?_ | refine at_code ?_ | refine g_skip ?_ | refine g_block ?_ | refine g_exit rfl ?_ | refine g_cond_t rfl ?_ | refine g_cond_f rfl ?_)
              refine g_region ?_
              refine gl_f (s_add_i64 rfl rfl (by omega)) rfl rfl rfl ?_
              refine gl_f (s_move rfl) rfl rfl rfl ?_
              refine gl_nil ?_
              repeat (first | refine g_seq ?_ | refine at_code ?_ | refine g_skip ?_ | refine g_block ?_ | refine g_exit rfl ?_ | refine g_cond_t rfl ?_ | refine g_cond_f rfl ?_)
              refine at_next (j + 1) (by omega) (by omega) ?_ ?_
              · (repeat (first | exact Sub.nil _ | refine Sub.cons rfl ?_))
              · intro w hw; exact hw
          · have hjl : j = hs.length := by simp at h2; omega
            subst hjl
            rw [List.take_length] at *
            repeat (first | refine g_seq ?_ | refine at_code ?_ | refine g_skip ?_ | refine g_block ?_ | refine g_exit rfl ?_ | refine g_cond_t rfl ?_ | refine g_cond_f rfl ?_)
            repeat (first | refine g_seq ?_ | refine at_code ?_ | refine g_skip ?_ | refine g_block ?_ | refine g_exit rfl ?_ | refine g_cond_t rfl ?_ | refine g_cond_f rfl ?_)
            refine g_region ?_
            refine gl_f (s_makeIface (by intro ms h; cases h) rfl) rfl rfl rfl ?_
            refine gl_f (s_move rfl) rfl rfl rfl ?_
            refine gl_f (s_makeIface (by intro ms h; cases h) rfl) rfl rfl rfl ?_
            refine gl_call [] rfl (HPush_ct g5 xa xc xs (bst hs (l.getD k 0)) hm (by omega)) (fun w hw => by rw [List.append_nil]; exact hw) (fun _ _ _ => trivial) rfl ?_; rintro v A ⟨rfl, ya, yc, ys, hpy, hyl, hmy, rfl⟩
            refine gl_nil ?_
            repeat (first | refine g_seq ?_ | refine at_code ?_ | refine g_skip ?_ | refine g_block ?_ | refine g_exit rfl ?_ | refine g_cond_t rfl ?_ | refine g_cond_f rfl ?_)
            repeat (first | refine g_seq ?_ | refine at_code ?_ | refine g_skip ?_ | refine g_block ?_ | refine g_exit rfl ?_ | refine g_cond_t rfl ?_ | refine g_cond_f rfl ?_)
            refine g_region ?_
            refine gl_f (s_add_i64 rfl rfl (by omega)) rfl rfl rfl ?_
            refine gl_f (s_move rfl) rfl rfl rfl ?_
            refine gl_nil ?_
            repeat (first | refine g_seq ?_ | refine at_code ?_ | refine g_skip ?_ | refine g_block ?_ | refine g_exit rfl ?_ | refine g_cond_t rfl ?_ | refine g_cond_f rfl ?_)
            refine at_next (k + 1, ya, yc, ys) ⟨by simp only; omega, ?_, hmy⟩ (by simp only; omega) ?_ ?_
            · simp only
              refine hpy.trans ?_
              have e : (l.take (k + 1)).map (bst hs) = (l.take k).map (bst hs) ++ [bst hs (l.getD k 0)] := by
                rw [List.take_succ_eq_append_getElem hk', List.map_append]; simp [hk']
              rw [e]
              exact hp.append_right _
            · (repeat (first | exact Sub.nil _ | refine Sub.cons rfl ?_))
            · intro w hw; rw [List.append_nil] at hw; exact hw
      · have hkl : k = l.length := by simp at h; omega
        subst hkl
        rw [List.take_length] at *
        repeat (first | refine g_seq ?_ | refine at_code ?_ | refine g_skip ?_ | refine g_block ?_ | refine g_exit rfl ?_ | refine g_cond_t rfl ?_ | refine g_cond_f rfl ?_)
        repeat (first | refine g_seq ?_ | refine at_code ?_ | refine g_skip ?_ | refine g_block ?_ | refine g_exit rfl ?_ | refine g_cond_t rfl ?_ | refine g_cond_f rfl ?_)
        refine g_region ?_
        refine gl_f (s_move rfl) rfl rfl rfl ?_
        refine gl_f (s_len_sl rfl) rfl rfl rfl ?_
        refine gl_f (s_quo_i64 rfl rfl (by omega)) rfl rfl rfl ?_
        refine gl_f (s_move rfl) rfl rfl rfl ?_
        refine gl_nil ?_
        repeat (first | refine g_seq ?_ | refine at_code ?_ | refine g_skip ?_ | refine g_block ?_ | refine g_exit rfl ?_ | refine g_cond_t rfl ?_ | refine g_cond_f rfl ?_)
        refine g_loop (ι := Nat × List Int) (fun i => i.1 ≤ l.length / 2 ∧ i.2.length = l.length - i.1 ∧ Mx i.2 i.2.length ∧ ∀ v, i.2.countP (fun u => decide (v ≤ u)) = cntI l hs v - i.1) (fun i => [(5, Ptr g5), (42, .int .i64 ((l.length / 2 : Nat) : Int)), (43, .int .i64 (i.1 : Nat))]) (fun i => HX g5 xa xc i.2) (fun i => l.length / 2 - i.1) (0, xs) ⟨by simp only; omega, by simp only; omega, hm, fun v => ?_⟩ ?_ ?_ ?_
        · rw [hp.countP_eq, List.countP_map]; rfl
        · (repeat (first | exact Sub.nil _ | refine Sub.cons rfl ?_))
        · intro w hw; exact hw
        · rintro ⟨t, ys⟩ ⟨ht, hyl, hmy, hcnt⟩
          simp only at ht hyl hmy hcnt
          repeat (first | refine g_seq ?_ | refine at_code ?_ | refine g_skip ?_ | refine g_block ?_ | refine g_exit rfl ?_ | refine g_cond_t rfl ?_ | refine g_cond_f rfl ?_)
          refine g_region ?_
          refine gl_f (s_lss rfl rfl) rfl rfl rfl ?_
          refine gl_nil ?_
          repeat (first | refine g_seq ?_ | refine at_code ?_ | refine g_skip ?_ | refine g_block ?_ | refine g_exit rfl ?_ | refine g_cond_t rfl ?_ | refine g_cond_f rfl ?_)
          refine g_cond rfl (fun h2 => ?_) (fun h2 => ?_)
          · have ht' : t < l.length / 2 := by simp at h2; omega
            repeat (first | refine g_seq ?_ | refine at_code ?_ | refine g_skip ?_ | refine g_block ?_ | refine g_exit rfl ?_ | refine g_cond_t rfl ?_ | refine g_cond_f rfl ?_)
            refine g_region ?_
            refine gl_f (s_makeIface (by intro ms h; cases h) rfl) rfl rfl rfl ?_
            refine gl_call [] rfl (HPop_ct g5 xa xc ys hmy (by omega) (by omega)) (fun w hw => by rw [List.append_nil]; exact hw) (fun _ _ _ => trivial) rfl ?_; rintro v A ⟨zs, hpz, hzl, hmz, rfl⟩
            refine gl_nil ?_
            repeat (first | refine g_seq ?_ | refine at_code ?_ | refine g_skip ?_ | refine g_block ?_ | refine g_exit rfl ?_ | refine g_cond_t rfl ?_ | refine g_cond_f rfl ?_)
            repeat (first | refine g_seq ?_ | refine at_code ?_ | refine g_skip ?_ | refine g_block ?_ | refine g_exit rfl ?_ | refine g_cond_t rfl ?_ | refine g_cond_f rfl ?_)
            refine g_region ?_
            refine gl_f (s_add_i64 rfl rfl (by omega)) rfl rfl rfl ?_
            refine gl_f (s_move rfl) rfl rfl rfl ?_
            refine gl_nil ?_
            repeat (first | refine g_seq ?_ | refine at_code ?_ | refine g_skip ?_ | refine g_block ?_ | refine g_exit rfl ?_ | refine g_cond_t rfl ?_ | refine g_cond_f rfl ?_)
            refine at_next (t + 1, zs) ⟨by simp only; omega, by simp only; omega, hmz, fun v => ?_⟩ (by simp only; omega) ?_ ?_
            · simp only
              rw [pop_cnt hmy hpz, hcnt v]; omega
            · (repeat (first | exact Sub.nil _ | refine Sub.cons rfl ?_))
            · intro w hw; rw [List.append_nil] at hw; exact hw
          · have htl : t = l.length / 2 := by simp at h2; omega
            subst htl
            have h0 : 0 < ys.length := by omega
            have hcom : ComS l hs (ys.getD 0 0) := fun i => by
              have h3 := hcnt i
              constructor
              · intro h4
                have : 0 < ys.countP (fun u => decide (i ≤ u)) := by
                  rw [List.countP_pos_iff]
                  exact ⟨_, getD_mem h0, by simpa using h4⟩
                omega
              · intro h4
                have : 0 < ys.countP (fun u => decide (i ≤ u)) := by omega
                rw [List.countP_pos_iff] at this
                obtain ⟨u, hu, hiu⟩ := this
                have := mx_max hmy u hu
                simp only [decide_eq_true_eq] at hiu
                omega
            unfold HX HU64
            refine g_ownN (.there .del) (fun _ _ hsm => ?_)
            have hsome := hsm h0
            repeat (first | refine g_seq ?_ | refine at_code ?_ | refine g_skip ?_ | refine g_block ?_ | refine g_exit rfl ?_ | refine g_cond_t rfl ?_ | refine g_cond_f rfl ?_)
            repeat (first | refine g_seq ?_ | refine at_code ?_ | refine g_skip ?_ | refine g_block ?_ | refine g_exit rfl ?_ | refine g_cond_t rfl ?_ | refine g_cond_f rfl ?_)
            refine g_region ?_
            refine gl_r (by first | exact s_load_blk rfl (by repeat first|exact .del|apply Upd.there) (by rfl) | exact s_load1 rfl (fun w hw => peekB hw (by assumption) (by rfl))) rfl rfl rfl ?_
            refine gl_f (s_indexAddr rfl hsome rfl (by show (0 : Int) ≤ 0 ∧ (0 : Int) < ((ys.length : Nat) : Int); omega)) rfl rfl rfl ?_
            refine gl_r (s_load1 rfl (fun w hw => rdU_own hw (.there .del) (i := 0) (by rfl) h0)) rfl rfl rfl ?_
            refine gl_f (s_assign rfl) rfl rfl rfl ?_
            refine gl_nil ?_
            repeat (first | refine g_seq ?_ | refine at_code ?_ | refine g_skip ?_ | refine g_block ?_ | refine g_exit rfl ?_ | refine g_cond_t rfl ?_ | refine g_cond_f rfl ?_)
            refine g_ret ?_
            exact at_end1 rfl rfl [] ⟨by rw [com_eq hq.symm hcom], rfl⟩ (fun _ h => h.dropAll)
end Go.Proofs.Ytodcghipfolejaa
