/- The walks over logs: the end, pieces, entries by index. -/
import Derived.Test.YtodcghipfolejaaU1
namespace Go.Proofs.Ytodcghipfolejaa
open Go Go.Sl
set_option linter.unusedVariables false
set_option linter.unusedSimpArgs false

theorem Last_ct (g : LM) (hf : g.fit) : Pu Try.prog 47 [g.v] (fun h => RdS h g.la (enV g.l)) (.tuple #[.int .u64 (lastI g), .int .u64 (lastT g)]) := by
  have h1 := hf.lo
  have h2 := hf.hi
  have h3 := hf.len
  refine ct_enter 23 Try.func47 rfl rfl rfl ?_
  intro F hrd
  repeat (first | refine g_seq ?_ | refine at_code ?_ | refine g_skip ?_ | refine g_block ?_ | refine g_exit rfl ?_ | refine g_cond_t rfl ?_ | refine g_cond_f rfl ?_)
  refine g_region ?_
  refine gl_boxA rfl rfl ?_; intro g1
  refine gl_f (s_assign rfl) rfl rfl rfl ?_
  refine gl_f (s_assign rfl) rfl rfl rfl ?_
  refine gl_nil ?_
  repeat (first | refine g_seq ?_ | refine at_code ?_ | refine g_skip ?_ | refine g_block ?_ | refine g_exit rfl ?_ | refine g_cond_t rfl ?_ | refine g_cond_f rfl ?_)
  refine g_region ?_
  refine gl_f (by first | exact s_fieldAddr rfl (by rfl) (by infer_instance) (by decide) | exact s_fieldAddr_o rfl (by assumption) (by rfl) (by infer_instance) (by decide)) rfl rfl rfl ?_
  refine gl_r (s_load_blk rfl (by repeat first|exact .del|apply Upd.there) (by rfl)) rfl rfl rfl ?_
  refine gl_f (s_len_sl rfl) rfl rfl rfl ?_
  refine gl_f (s_assign rfl) rfl rfl rfl ?_
  refine gl_nil ?_
  repeat (first | refine g_seq ?_ | refine at_code ?_ | refine g_skip ?_ | refine g_block ?_ | refine g_exit rfl ?_ | refine g_cond_t rfl ?_ | refine g_cond_f rfl ?_)
  refine g_region ?_
  refine gl_f (s_move rfl) rfl rfl rfl ?_
  refine gl_f (s_gtr rfl rfl) rfl rfl rfl ?_
  refine gl_nil ?_
  repeat (first | refine g_seq ?_ | refine at_code ?_ | refine g_skip ?_ | refine g_block ?_ | refine g_exit rfl ?_ | refine g_cond_t rfl ?_ | refine g_cond_f rfl ?_)
  refine g_cond rfl (fun h => ?_) (fun h => ?_)
  · have h4 : 0 < g.l.length := by simp at h; omega
    have hk : g.l.length - 1 < g.l.length := by omega
    have hsome := rdE_some hrd hk
    have e : lastT g = (g.l.getD (g.l.length - 1) E0).1 := by rw [lastT, if_neg (by omega)]
    rw [e]
    repeat (first | refine g_seq ?_ | refine at_code ?_ | refine g_skip ?_ | refine g_block ?_ | refine g_exit rfl ?_ | refine g_cond_t rfl ?_ | refine g_cond_f rfl ?_)
    refine g_draw0 [0, 3, 8] 11 rfl ?_
    refine ga_read 0 rfl (by repeat first|exact .del|apply Upd.there) (by first | exact s_load_blkW rfl .del (by rfl) | exact s_load_blkN rfl .del (by rfl)) rfl rfl rfl (by kernel_rfl) ?_
    refine ga_free 2 rfl (by first | exact s_fieldAddr rfl (by rfl) (by infer_instance) (by decide) | exact s_fieldAddr_o rfl (by assumption) (by rfl) (by infer_instance) (by decide)) rfl rfl rfl (by kernel_rfl) ?_
    refine ga_read 3 rfl (by repeat first|exact .del|apply Upd.there) (s_load_blk rfl .del (by rfl)) rfl rfl rfl (by kernel_rfl) ?_
    refine ga_free 4 rfl (s_move rfl) rfl rfl rfl (by kernel_rfl) ?_
    refine ga_free 5 rfl (s_sub_i64 rfl rfl (by omega)) rfl rfl rfl (by kernel_rfl) ?_
    refine ga_free 6 rfl (s_indexAddr rfl (by assumption) rfl (by omega)) rfl rfl rfl (by kernel_rfl) ?_
    refine ga_free 7 rfl (by first | exact s_fieldAddr rfl (by rfl) (by infer_instance) (by decide) | exact s_fieldAddr_o rfl (by assumption) (by rfl) (by infer_instance) (by decide)) rfl rfl rfl (by kernel_rfl) ?_
    refine ga_readF 8 rfl (s_load1 rfl (fun w hw => rdE0 hw hrd (i := g.l.length - 1) (by omega) hk)) (by (first | exact fun _ h => h | (repeat first | exact sub_nil | refine sub_cons (by repeat first | exact List.Mem.head _ | apply List.Mem.tail) ?_))) rfl rfl rfl (by kernel_rfl) ?_
    refine ga_one 1 rfl (by kernel_rfl) ?_
    refine gl_callp rfl (end_ct g hf) (fun _ _ _ => trivial) rfl ?_
    refine gl_nil ?_
    refine at_ga (.inr (by exact keeps_of (by (first | exact fun _ h => h | (repeat first | exact sub_nil | refine sub_cons (by repeat first | exact List.Mem.head _ | apply List.Mem.tail) ?_))))) ?_
    refine ga_free 9 rfl (s_assign rfl) rfl rfl rfl (by kernel_rfl) ?_
    refine ga_free 10 rfl (s_assign rfl) rfl rfl rfl (by kernel_rfl) ?_
    refine ga_done (by kernel_rfl) ?_
    repeat (first | refine g_seq ?_ | refine at_code ?_ | refine g_skip ?_ | refine g_block ?_ | refine g_exit rfl ?_ | refine g_cond_t rfl ?_ | refine g_cond_f rfl ?_)
    refine g_ret ?_
    exact at_end2 rfl rfl rfl [] ⟨rfl, rfl⟩ (fun _ h => h.dropAll)
  · have h4 : g.l.length = 0 := by simp at h; rw [h]; rfl
    have e : lastT g = g.bt := by rw [lastT, if_pos h4]
    have e2 : lastI g = g.base := by rw [lastI, h4]; simp
    rw [e, e2]
    repeat (first | refine g_seq ?_ | refine at_code ?_ | refine g_skip ?_ | refine g_block ?_ | refine g_exit rfl ?_ | refine g_cond_t rfl ?_ | refine g_cond_f rfl ?_)
    repeat (first | refine g_seq ?_ | refine at_code ?_ | refine g_skip ?_ | refine g_block ?_ | refine g_exit rfl ?_ | refine g_cond_t rfl ?_ | refine g_cond_f rfl ?_)
    refine g_draw0 [1, 3] 6 rfl ?_
    refine ga_free 0 rfl (by first | exact s_fieldAddr rfl (by rfl) (by infer_instance) (by decide) | exact s_fieldAddr_o rfl (by assumption) (by rfl) (by infer_instance) (by decide)) rfl rfl rfl (by kernel_rfl) ?_
    refine ga_read 1 rfl (by repeat first|exact .del|apply Upd.there) (s_load_blk rfl .del (by rfl)) rfl rfl rfl (by kernel_rfl) ?_
    refine ga_free 2 rfl (by first | exact s_fieldAddr rfl (by rfl) (by infer_instance) (by decide) | exact s_fieldAddr_o rfl (by assumption) (by rfl) (by infer_instance) (by decide)) rfl rfl rfl (by kernel_rfl) ?_
    refine ga_read 3 rfl (by repeat first|exact .del|apply Upd.there) (s_load_blk rfl .del (by rfl)) rfl rfl rfl (by kernel_rfl) ?_
    refine ga_free 4 rfl (s_assign rfl) rfl rfl rfl (by kernel_rfl) ?_
    refine ga_free 5 rfl (s_assign rfl) rfl rfl rfl (by kernel_rfl) ?_
    refine ga_done (by kernel_rfl) ?_
    repeat (first | refine g_seq ?_ | refine at_code ?_ | refine g_skip ?_ | refine g_block ?_ | refine g_exit rfl ?_ | refine g_cond_t rfl ?_ | refine g_cond_f rfl ?_)
    refine g_ret ?_
    exact at_end2 rfl rfl rfl [] ⟨rfl, rfl⟩ (fun _ h => h.dropAll)

set_option maxHeartbeats 2000000 in
theorem Slice_ct (g : LM) (frm most : Int) (hf : g.fit) (hi : 0 ≤ frm ∧ frm ≤ 18446744073709551615) (hm : -9223372036854775808 ≤ most ∧ most ≤ 9223372036854775807) : Ct Try.prog 46 [g.v, .int .u64 frm, .int .i64 most] (fun h => RdS h g.la (enV g.l)) [] (EnP (sliceL g frm most)) := by
  have h1 := hf.lo
  have h2 := hf.hi
  have h3 := hf.len
  have h4 := hf.cap
  refine ct_enter 42 Try.func46 rfl rfl rfl ?_
  intro F hrd
  repeat (first | refine g_seq ?_ | refine at_code ?_ | refine g_skip ?_ | refine g_block ?_ | refine g_exit rfl ?_ | refine g_cond_t rfl ?_ | refine g_cond_f rfl ?_)
  refine g_region ?_
  refine gl_boxA rfl rfl ?_; intro g3
  refine gl_f (s_assign rfl) rfl rfl rfl ?_
  refine gl_nil ?_
  repeat (first | refine g_seq ?_ | refine at_code ?_ | refine g_skip ?_ | refine g_block ?_ | refine g_exit rfl ?_ | refine g_cond_t rfl ?_ | refine g_cond_f rfl ?_)
  by_cases hs : g.base < frm ∧ frm - g.base ≤ (g.l.length : Int) ∧ 1 ≤ most
  · obtain ⟨s1, s2, s3⟩ := hs
    repeat (first | refine g_seq ?_ | refine at_code ?_ | refine g_skip ?_ | refine g_block ?_ | refine g_exit rfl ?_ | refine g_cond_t rfl ?_ | refine g_cond_f rfl ?_)
    refine g_region ?_
    refine gl_f (s_move rfl) rfl rfl rfl ?_
    refine gl_f (by first | exact s_fieldAddr rfl (by rfl) (by infer_instance) (by decide) | exact s_fieldAddr_o rfl (by assumption) (by rfl) (by infer_instance) (by decide)) rfl rfl rfl ?_
    refine gl_r (s_load_blk rfl (by repeat first|exact .del|apply Upd.there) (by rfl)) rfl rfl rfl ?_
    refine gl_f ((s_leq rfl rfl).eq (v' := .bool false) (congrArg Value.bool (decide_eq_false (by omega)))) rfl rfl rfl ?_
    refine gl_f (s_move rfl) rfl rfl rfl ?_
    (first | refine gl_guard_no rfl rfl rfl rfl rfl rfl rfl ?_ | refine gl_guard_un rfl rfl rfl rfl rfl rfl ?_ | (refine gl_guard_yes rfl rfl rfl ?_; refine gl_f (s_move rfl) rfl rfl rfl ?_))
    (first | refine gl_guard_no rfl rfl rfl rfl rfl rfl rfl ?_ | refine gl_guard_un rfl rfl rfl rfl rfl rfl ?_ | (refine gl_guard_yes rfl rfl rfl ?_; refine gl_f (by first | exact s_fieldAddr rfl (by rfl) (by infer_instance) (by decide) | exact s_fieldAddr_o rfl (by assumption) (by rfl) (by infer_instance) (by decide)) rfl rfl rfl ?_))
    (first | refine gl_guard_no rfl rfl rfl rfl rfl rfl rfl ?_ | refine gl_guard_un rfl rfl rfl rfl rfl rfl ?_ | (refine gl_guard_yes rfl rfl rfl ?_; refine gl_r (s_load_blk rfl (by repeat first|exact .del|apply Upd.there) (by rfl)) rfl rfl rfl ?_))
    (first | refine gl_guard_no rfl rfl rfl rfl rfl rfl rfl ?_ | refine gl_guard_un rfl rfl rfl rfl rfl rfl ?_ | (refine gl_guard_yes rfl rfl rfl ?_; refine gl_f (s_sub_u64 rfl rfl (by omega)) rfl rfl rfl ?_))
    (first | refine gl_guard_no rfl rfl rfl rfl rfl rfl rfl ?_ | refine gl_guard_un rfl rfl rfl rfl rfl rfl ?_ | (refine gl_guard_yes rfl rfl rfl ?_; refine gl_f (by first | exact s_fieldAddr rfl (by rfl) (by infer_instance) (by decide) | exact s_fieldAddr_o rfl (by assumption) (by rfl) (by infer_instance) (by decide)) rfl rfl rfl ?_))
    (first | refine gl_guard_no rfl rfl rfl rfl rfl rfl rfl ?_ | refine gl_guard_un rfl rfl rfl rfl rfl rfl ?_ | (refine gl_guard_yes rfl rfl rfl ?_; refine gl_r (s_load_blk rfl (by repeat first|exact .del|apply Upd.there) (by rfl)) rfl rfl rfl ?_))
    (first | refine gl_guard_no rfl rfl rfl rfl rfl rfl rfl ?_ | refine gl_guard_un rfl rfl rfl rfl rfl rfl ?_ | (refine gl_guard_yes rfl rfl rfl ?_; refine gl_f (s_len_sl rfl) rfl rfl rfl ?_))
    (first | refine gl_guard_no rfl rfl rfl rfl rfl rfl rfl ?_ | refine gl_guard_un rfl rfl rfl rfl rfl rfl ?_ | (refine gl_guard_yes rfl rfl rfl ?_; refine gl_f (s_conv_keep_u64 rfl (by omega)) rfl rfl rfl ?_))
    (first | refine gl_guard_no rfl rfl rfl rfl rfl rfl rfl ?_ | refine gl_guard_un rfl rfl rfl rfl rfl rfl ?_ | (refine gl_guard_yes rfl rfl rfl ?_; refine gl_f ((s_gtr rfl rfl).eq (v' := .bool false) (congrArg Value.bool (decide_eq_false (by omega)))) rfl rfl rfl ?_))
    refine gl_f (by first | exact s_pick_t rfl rfl | exact s_pick_f rfl rfl) rfl rfl rfl ?_
    refine gl_f (s_move rfl) rfl rfl rfl ?_
    (first | refine gl_guard_no rfl rfl rfl rfl rfl rfl rfl ?_ | refine gl_guard_un rfl rfl rfl rfl rfl rfl ?_ | (refine gl_guard_yes rfl rfl rfl ?_; refine gl_f (s_move rfl) rfl rfl rfl ?_))
    (first | refine gl_guard_no rfl rfl rfl rfl rfl rfl rfl ?_ | refine gl_guard_un rfl rfl rfl rfl rfl rfl ?_ | (refine gl_guard_yes rfl rfl rfl ?_; refine gl_f ((s_lss rfl rfl).eq (v' := .bool false) (congrArg Value.bool (decide_eq_false (by omega)))) rfl rfl rfl ?_))
    refine gl_f (by first | exact s_pick_t rfl rfl | exact s_pick_f rfl rfl) rfl rfl rfl ?_
    refine gl_nil ?_
    repeat (first | refine g_seq ?_ | refine at_code ?_ | refine g_skip ?_ | refine g_block ?_ | refine g_exit rfl ?_ | refine g_cond_t rfl ?_ | refine g_cond_f rfl ?_)
    obtain ⟨k, hk⟩ : ∃ k, k = (frm - g.base - 1).toNat := ⟨_, rfl⟩
    obtain ⟨m, hm⟩ : ∃ m, m = min most.toNat (g.l.length - k) := ⟨_, rfl⟩
    have er : sliceL g frm most = (g.l.drop k).take m := by
      rw [sliceL, if_pos ⟨s1, s2, s3⟩, ← hk, hm, ← List.take_take]
      congr 1
      rw [List.take_of_length_le (by rw [List.length_drop]; omega)]
    have el : (sliceL g frm most).length = m := by rw [er, List.length_take, List.length_drop]; omega
    have hcut := (hrd.cut (sz := 3) (enV_length g.l) h4 k g.l.length (by omega) (Nat.le_refl _))
    have hx : ((enV g.l).drop (k * 3)).take ((g.l.length - k) * 3) = enV (g.l.drop k) := by
      rw [List.take_of_length_le (by rw [List.length_drop, enV_length]; omega), enV_drop]
    rw [hx] at hcut
    have hcut2 := hcut.cut (sz := 3) (by rw [enV_length, List.length_drop]) (n := g.l.length - k) (c := g.lc - k) (by omega) 0 m (by omega) (by omega)
    rw [Nat.zero_mul, List.drop_zero, Nat.sub_zero, ← enV_take, ← er] at hcut2
    repeat (first | refine g_seq ?_ | refine at_code ?_ | refine g_skip ?_ | refine g_block ?_ | refine g_exit rfl ?_ | refine g_cond_t rfl ?_ | refine g_cond_f rfl ?_)
    refine g_region ?_
    refine gl_f (by first | exact s_fieldAddr rfl (by rfl) (by infer_instance) (by decide) | exact s_fieldAddr_o rfl (by assumption) (by rfl) (by infer_instance) (by decide)) rfl rfl rfl ?_
    refine gl_r (s_load_blk rfl (by repeat first|exact .del|apply Upd.there) (by rfl)) rfl rfl rfl ?_
    refine gl_f (s_move rfl) rfl rfl rfl ?_
    refine gl_f (by first | exact s_fieldAddr rfl (by rfl) (by infer_instance) (by decide) | exact s_fieldAddr_o rfl (by assumption) (by rfl) (by infer_instance) (by decide)) rfl rfl rfl ?_
    refine gl_r (s_load_blk rfl (by repeat first|exact .del|apply Upd.there) (by rfl)) rfl rfl rfl ?_
    refine gl_f (s_sub_u64 rfl rfl (by omega)) rfl rfl rfl ?_
    refine gl_f (s_sub_u64 rfl rfl (by omega)) rfl rfl rfl ?_
    refine gl_f ((s_slice_sl rfl rfl rfl (by omega)).eq (v' := .slice (cutA g.la g.lc k 3) (g.l.length - k) (g.lc - k)) (by rw [hk]; rfl)) rfl rfl rfl ?_
    refine gl_f (s_assign rfl) rfl rfl rfl ?_
    refine gl_nil ?_
    repeat (first | refine g_seq ?_ | refine at_code ?_ | refine g_skip ?_ | refine g_block ?_ | refine g_exit rfl ?_ | refine g_cond_t rfl ?_ | refine g_cond_f rfl ?_)
    repeat (first | refine g_seq ?_ | refine at_code ?_ | refine g_skip ?_ | refine g_block ?_ | refine g_exit rfl ?_ | refine g_cond_t rfl ?_ | refine g_cond_f rfl ?_)
    refine g_region ?_
    refine gl_f (s_move rfl) rfl rfl rfl ?_
    refine gl_f (s_move rfl) rfl rfl rfl ?_
    refine gl_f (s_move rfl) rfl rfl rfl ?_
    refine gl_f (s_len_sl rfl) rfl rfl rfl ?_
    refine gl_f (s_min2 rfl rfl) rfl rfl rfl ?_
    refine gl_f ((s_slice_sl rfl rfl rfl (by omega)).eq (v' := .slice (cutA (cutA g.la g.lc k 3) (g.lc - k) 0 3) (sliceL g frm most).length (g.lc - k)) (by rw [el, hm]; congr 1; omega)) rfl rfl rfl ?_
    refine gl_call _ rfl (CloneE_ct _ _ _ (by omega)) (fun w hw => hw) (fun h hh _ => hcut2.le hh) rfl ?_; rintro v A ⟨a6, c6, rfl, rfl⟩
    refine gl_f (s_assign rfl) rfl rfl rfl ?_
    refine gl_nil ?_
    repeat (first | refine g_seq ?_ | refine at_code ?_ | refine g_skip ?_ | refine g_block ?_ | refine g_exit rfl ?_ | refine g_cond_t rfl ?_ | refine g_cond_f rfl ?_)
    refine g_ret ?_
    exact at_end1 rfl rfl [.own (.slice a6 (sliceL g frm most).length c6) 65 3 (enV (sliceL g frm most))] ⟨a6, c6, rfl, rfl⟩ (fun w hw => hp_left hw)
  · rw [sliceL, if_neg hs]
    obtain ⟨q1, hq1⟩ : ∃ q, q = decide (frm ≤ g.base) := ⟨_, rfl⟩
    obtain ⟨q2, hq2⟩ : ∃ q, q = decide ((g.l.length : Int) < frm - g.base) := ⟨_, rfl⟩
    refine g_cutK [(26, .bool true)] [] ?_ ?_
    · cases q1 <;> cases q2
      all_goals (
        repeat (first | refine g_seq ?_ | refine at_code ?_ | refine g_skip ?_ | refine g_block ?_ | refine g_exit rfl ?_ | refine g_cond_t rfl ?_ | refine g_cond_f rfl ?_)
        refine g_region ?_
        refine gl_f (s_move rfl) rfl rfl rfl ?_
        refine gl_f (by first | exact s_fieldAddr rfl (by rfl) (by infer_instance) (by decide) | exact s_fieldAddr_o rfl (by assumption) (by rfl) (by infer_instance) (by decide)) rfl rfl rfl ?_
        refine gl_r (s_load_blk rfl (by repeat first|exact .del|apply Upd.there) (by rfl)) rfl rfl rfl ?_
        refine gl_f ((s_leq rfl rfl).eq (congrArg Value.bool hq1.symm)) rfl rfl rfl ?_
        refine gl_f (s_move rfl) rfl rfl rfl ?_
        (first | refine gl_guard_no rfl rfl rfl rfl rfl rfl rfl ?_ | refine gl_guard_un rfl rfl rfl rfl rfl rfl ?_ | (refine gl_guard_yes rfl rfl rfl ?_; refine gl_f (s_move rfl) rfl rfl rfl ?_))
        (first | refine gl_guard_no rfl rfl rfl rfl rfl rfl rfl ?_ | refine gl_guard_un rfl rfl rfl rfl rfl rfl ?_ | (refine gl_guard_yes rfl rfl rfl ?_; refine gl_f (by first | exact s_fieldAddr rfl (by rfl) (by infer_instance) (by decide) | exact s_fieldAddr_o rfl (by assumption) (by rfl) (by infer_instance) (by decide)) rfl rfl rfl ?_))
        (first | refine gl_guard_no rfl rfl rfl rfl rfl rfl rfl ?_ | refine gl_guard_un rfl rfl rfl rfl rfl rfl ?_ | (refine gl_guard_yes rfl rfl rfl ?_; refine gl_r (s_load_blk rfl (by repeat first|exact .del|apply Upd.there) (by rfl)) rfl rfl rfl ?_))
        (first | refine gl_guard_no rfl rfl rfl rfl rfl rfl rfl ?_ | refine gl_guard_un rfl rfl rfl rfl rfl rfl ?_ | (refine gl_guard_yes rfl rfl rfl ?_; refine gl_f (s_sub_u64 rfl rfl (by have := of_decide_eq_false hq1.symm; omega)) rfl rfl rfl ?_))
        (first | refine gl_guard_no rfl rfl rfl rfl rfl rfl rfl ?_ | refine gl_guard_un rfl rfl rfl rfl rfl rfl ?_ | (refine gl_guard_yes rfl rfl rfl ?_; refine gl_f (by first | exact s_fieldAddr rfl (by rfl) (by infer_instance) (by decide) | exact s_fieldAddr_o rfl (by assumption) (by rfl) (by infer_instance) (by decide)) rfl rfl rfl ?_))
        (first | refine gl_guard_no rfl rfl rfl rfl rfl rfl rfl ?_ | refine gl_guard_un rfl rfl rfl rfl rfl rfl ?_ | (refine gl_guard_yes rfl rfl rfl ?_; refine gl_r (s_load_blk rfl (by repeat first|exact .del|apply Upd.there) (by rfl)) rfl rfl rfl ?_))
        (first | refine gl_guard_no rfl rfl rfl rfl rfl rfl rfl ?_ | refine gl_guard_un rfl rfl rfl rfl rfl rfl ?_ | (refine gl_guard_yes rfl rfl rfl ?_; refine gl_f (s_len_sl rfl) rfl rfl rfl ?_))
        (first | refine gl_guard_no rfl rfl rfl rfl rfl rfl rfl ?_ | refine gl_guard_un rfl rfl rfl rfl rfl rfl ?_ | (refine gl_guard_yes rfl rfl rfl ?_; refine gl_f (s_conv_keep_u64 rfl (by omega)) rfl rfl rfl ?_))
        (first | refine gl_guard_no rfl rfl rfl rfl rfl rfl rfl ?_ | refine gl_guard_un rfl rfl rfl rfl rfl rfl ?_ | (refine gl_guard_yes rfl rfl rfl ?_; refine gl_f ((s_gtr rfl rfl).eq (congrArg Value.bool hq2.symm)) rfl rfl rfl ?_))
        refine gl_f (by first | exact s_pick_t rfl rfl | exact s_pick_f rfl rfl) rfl rfl rfl ?_
        refine gl_f (s_move rfl) rfl rfl rfl ?_
        (first | refine gl_guard_no rfl rfl rfl rfl rfl rfl rfl ?_ | refine gl_guard_un rfl rfl rfl rfl rfl rfl ?_ | (refine gl_guard_yes rfl rfl rfl ?_; refine gl_f (s_move rfl) rfl rfl rfl ?_))
        (first | refine gl_guard_no rfl rfl rfl rfl rfl rfl rfl ?_ | refine gl_guard_un rfl rfl rfl rfl rfl rfl ?_ | (refine gl_guard_yes rfl rfl rfl ?_; refine gl_f ((s_lss rfl rfl).eq (v' := .bool true) (congrArg Value.bool (decide_eq_true (by have := of_decide_eq_false hq1.symm; have := of_decide_eq_false hq2.symm; omega)))) rfl rfl rfl ?_))
        refine gl_f (by first | exact s_pick_t rfl rfl | exact s_pick_f rfl rfl) rfl rfl rfl ?_
        refine gl_nil ?_
        repeat (first | refine g_seq ?_ | refine at_code ?_ | refine g_skip ?_ | refine g_block ?_ | refine g_exit rfl ?_ | refine g_cond_t rfl ?_ | refine g_cond_f rfl ?_))
      all_goals exact at_cut (by (repeat (first | exact Sub.nil _ | refine Sub.cons rfl ?_))) (fun w hw => hw.dropAll)
    · repeat (first | refine g_seq ?_ | refine at_code ?_ | refine g_skip ?_ | refine g_block ?_ | refine g_exit rfl ?_ | refine g_cond_t rfl ?_ | refine g_cond_f rfl ?_)
      repeat (first | refine g_seq ?_ | refine at_code ?_ | refine g_skip ?_ | refine g_block ?_ | refine g_exit rfl ?_ | refine g_cond_t rfl ?_ | refine g_cond_f rfl ?_)
      refine g_region ?_
      refine gl_f (s_assign rfl) rfl rfl rfl ?_
      refine gl_nil ?_
      repeat (first | refine g_seq ?_ | refine at_code ?_ | refine g_skip ?_ | refine g_block ?_ | refine g_exit rfl ?_ | refine g_cond_t rfl ?_ | refine g_cond_f rfl ?_)
      refine g_ret ?_
      refine g_end_own 65 3 ?_
      exact at_end1 rfl rfl [.own (.slice none 0 0) 65 3 []] ⟨none, 0, rfl, rfl⟩ (fun _ h => h)

/-- the entry at an index -/
def hasE (g : LM) (i : Int) : Bool := decide (g.base < i) && decide (i - g.base ≤ (g.l.length : Int))
def entAt (g : LM) (i : Int) : Ent := if hasE g i = true then g.l.getD (i - g.base - 1).toNat E0 else E0
theorem hasL_eq (g : LM) (i : Int) : hasL g i = (decide (i = g.base) || hasE g i) := by
  rw [Bool.eq_iff_iff]
  simp only [hasL, hasE, Bool.and_eq_true, Bool.or_eq_true, decide_eq_true_eq]
  omega
def EntP (g : LM) (i : Int) (v : Value) (A : List As) : Prop := v = .tuple #[entV (entAt g i), .bool (hasE g i)] ∧ A = []
set_option maxRecDepth 4000 in
set_option maxHeartbeats 2000000 in
theorem Entry_ct (g : LM) (i : Int) (hf : g.fit) (hi : 0 ≤ i ∧ i ≤ 18446744073709551615) : Ct Try.prog 81 [g.v, .int .u64 i] (fun h => RdS h g.la (enV g.l)) [] (EntP g i) := by
  have h1 := hf.lo
  have h2 := hf.hi
  have h3 := hf.len
  refine ct_enter 28 Try.func81 rfl rfl rfl ?_
  intro F hrd
  repeat (first | refine g_seq ?_ | refine at_code ?_ | refine g_skip ?_ | refine g_block ?_ | refine g_exit rfl ?_ | refine g_cond_t rfl ?_ | refine g_cond_f rfl ?_)
  refine g_region ?_
  refine gl_boxA rfl rfl ?_; intro g2
  refine gl_allocA rfl ?_; intro g4
  refine gl_f (s_assign rfl) rfl rfl rfl ?_
  refine gl_nil ?_
  repeat (first | refine g_seq ?_ | refine at_code ?_ | refine g_skip ?_ | refine g_block ?_ | refine g_exit rfl ?_ | refine g_cond_t rfl ?_ | refine g_cond_f rfl ?_)
  refine g_region ?_
  refine gl_f (s_assign rfl) rfl rfl rfl ?_
  refine gl_nil ?_
  repeat (first | refine g_seq ?_ | refine at_code ?_ | refine g_skip ?_ | refine g_block ?_ | refine g_exit rfl ?_ | refine g_cond_t rfl ?_ | refine g_cond_f rfl ?_)
  refine g_loop (ι := Nat) (fun k => k ≤ g.l.length ∧ ∀ j, j < k → g.base + 1 + (j : Int) ≠ i) (fun k => [(1, .int .u64 i), (2, Ptr g2), (4, Ptr g4), (6, .int .i64 (k : Nat))]) (fun k => [.blk g4 (.cells #[.int .u64 0, .int .i64 0, B []] 65), .blk g2 (.cells #[.int .u64 g.base, .int .u64 g.bt, .slice g.ca g.conf.length g.cc, .slice g.la g.l.length g.lc] 47)]) (fun k => g.l.length - k) 0 ⟨by omega, fun j hj => absurd hj (by omega)⟩ ?_ ?_ ?_
  · (repeat (first | exact Sub.nil _ | refine Sub.cons rfl ?_))
  · intro w hw; exact hw
  · rintro k ⟨hk, hno⟩
    repeat (first | refine g_seq ?_ | refine at_code ?_ | refine g_skip ?_ | refine g_block ?_ | refine g_exit rfl ?_ | refine g_cond_t rfl ?_ | refine g_cond_f rfl ?_)
    refine g_region ?_
    refine gl_f (s_move rfl) rfl rfl rfl ?_
    refine gl_f (by first | exact s_fieldAddr rfl (by rfl) (by infer_instance) (by decide) | exact s_fieldAddr_o rfl (by assumption) (by rfl) (by infer_instance) (by decide)) rfl rfl rfl ?_
    refine gl_r (s_load_blk rfl (by repeat first|exact .del|apply Upd.there) (by rfl)) rfl rfl rfl ?_
    refine gl_f (s_len_sl rfl) rfl rfl rfl ?_
    refine gl_f (s_lss rfl rfl) rfl rfl rfl ?_
    refine gl_nil ?_
    repeat (first | refine g_seq ?_ | refine at_code ?_ | refine g_skip ?_ | refine g_block ?_ | refine g_exit rfl ?_ | refine g_cond_t rfl ?_ | refine g_cond_f rfl ?_)
    refine g_cond rfl (fun h => ?_) (fun h => ?_)
    · have hk' : k < g.l.length := by simp at h; omega
      have hsome := rdE_some hrd hk'
      repeat (first | refine g_seq ?_ | refine at_code ?_ | refine g_skip ?_ | refine g_block ?_ | refine g_exit rfl ?_ | refine g_cond_t rfl ?_ | refine g_cond_f rfl ?_)
      refine g_region ?_
      refine gl_f (by first | exact s_fieldAddr rfl (by rfl) (by infer_instance) (by decide) | exact s_fieldAddr_o rfl (by assumption) (by rfl) (by infer_instance) (by decide)) rfl rfl rfl ?_
      refine gl_r (s_load_blk rfl (by repeat first|exact .del|apply Upd.there) (by rfl)) rfl rfl rfl ?_
      refine gl_f (s_add_u64 rfl rfl (by omega)) rfl rfl rfl ?_
      refine gl_f (s_move rfl) rfl rfl rfl ?_
      refine gl_f (s_conv_keep_u64 rfl (by omega)) rfl rfl rfl ?_
      refine gl_f (s_add_u64 rfl rfl (by omega)) rfl rfl rfl ?_
      refine gl_f (s_move rfl) rfl rfl rfl ?_
      refine gl_f (s_eql rfl rfl) rfl rfl rfl ?_
      refine gl_nil ?_
      repeat (first | refine g_seq ?_ | refine at_code ?_ | refine g_skip ?_ | refine g_block ?_ | refine g_exit rfl ?_ | refine g_cond_t rfl ?_ | refine g_cond_f rfl ?_)
      refine g_cond rfl (fun h2 => ?_) (fun h2 => ?_)
      · have h3 : g.base + 1 + (k : Int) = i := of_decide_eq_true h2
        have e1 : hasE g i = true := by simp only [hasE, Bool.and_eq_true, decide_eq_true_eq]; omega
        have e2 : entAt g i = g.l.getD k E0 := by rw [entAt, if_pos e1]; congr 1; omega
        repeat (first | refine g_seq ?_ | refine at_code ?_ | refine g_skip ?_ | refine g_block ?_ | refine g_exit rfl ?_ | refine g_cond_t rfl ?_ | refine g_cond_f rfl ?_)
        refine g_region ?_
        refine gl_f (by first | exact s_fieldAddr rfl (by rfl) (by infer_instance) (by decide) | exact s_fieldAddr_o rfl (by assumption) (by rfl) (by infer_instance) (by decide)) rfl rfl rfl ?_
        refine gl_r (s_load_blk rfl (by repeat first|exact .del|apply Upd.there) (by rfl)) rfl rfl rfl ?_
        refine gl_f (s_move rfl) rfl rfl rfl ?_
        refine gl_f (s_indexAddr rfl (by assumption) rfl (by omega)) rfl rfl rfl ?_
        refine gl_r (s_loadN rfl (fun w hw => rdE hw hrd (i := k) (by omega) hk') rfl) rfl rfl rfl ?_
        (first | refine gl_store_blkW rfl rfl (by repeat first|exact .here|apply Upd.there) (by rfl) (by rfl) (by (intro q hq; simp [Value.cells] at hq; first | (subst hq; rfl) | (rcases hq with rfl | rfl | rfl | rfl | rfl | rfl | rfl | rfl <;> rfl) | (rcases hq with rfl | rfl | rfl | rfl | rfl | rfl | rfl <;> rfl) | (rcases hq with rfl | rfl | rfl | rfl | rfl | rfl <;> rfl) | (rcases hq with rfl | rfl | rfl | rfl | rfl <;> rfl) | (rcases hq with rfl | rfl | rfl | rfl <;> rfl) | (rcases hq with rfl | rfl | rfl <;> rfl) | (rcases hq with rfl | rfl <;> rfl))) ?_ | refine gl_store_blk rfl rfl (by repeat first|exact .here|apply Upd.there) (by rfl) (by (intro q hq; simp [Value.cells] at hq; first | (subst hq; rfl) | (rcases hq with rfl | rfl | rfl | rfl | rfl | rfl | rfl | rfl <;> rfl) | (rcases hq with rfl | rfl | rfl | rfl | rfl | rfl | rfl <;> rfl) | (rcases hq with rfl | rfl | rfl | rfl | rfl | rfl <;> rfl) | (rcases hq with rfl | rfl | rfl | rfl | rfl <;> rfl) | (rcases hq with rfl | rfl | rfl | rfl <;> rfl) | (rcases hq with rfl | rfl | rfl <;> rfl) | (rcases hq with rfl | rfl <;> rfl))) (by rfl) ?_)
        refine gl_f (s_assign rfl) rfl rfl rfl ?_
        refine gl_nil ?_
        repeat (first | refine g_seq ?_ | refine at_code ?_ | refine g_skip ?_ | refine g_block ?_ | refine g_exit rfl ?_ | refine g_cond_t rfl ?_ | refine g_cond_f rfl ?_)
        refine g_ret ?_
        exact at_endB1 rfl rfl rfl (by repeat first|exact .del|apply Upd.there) rfl [] ⟨by rw [e1, e2], rfl⟩ (fun _ h => h.dropAll)
      · have h3 : ¬ g.base + 1 + (k : Int) = i := of_decide_eq_false h2
        repeat (first | refine g_seq ?_ | refine at_code ?_ | refine g_skip ?_ | refine g_block ?_ | refine g_exit rfl ?_ | refine g_cond_t rfl ?_ | refine g_cond_f rfl ?_)
        repeat (first | refine g_seq ?_ | refine at_code ?_ | refine g_skip ?_ | refine g_block ?_ | refine g_exit rfl ?_ | refine g_cond_t rfl ?_ | refine g_cond_f rfl ?_)
        refine g_region ?_
        refine gl_f (s_move rfl) rfl rfl rfl ?_
        refine gl_f (s_add_i64 rfl rfl (by omega)) rfl rfl rfl ?_
        refine gl_f (s_assign rfl) rfl rfl rfl ?_
        refine gl_nil ?_
        repeat (first | refine g_seq ?_ | refine at_code ?_ | refine g_skip ?_ | refine g_block ?_ | refine g_exit rfl ?_ | refine g_cond_t rfl ?_ | refine g_cond_f rfl ?_)
        refine at_next (k + 1) ⟨by omega, fun j hj => ?_⟩ (by omega) ?_ ?_
        · rcases Nat.lt_succ_iff_lt_or_eq.1 hj with h4 | rfl
          · exact hno j h4
          · exact h3
        · (repeat (first | exact Sub.nil _ | refine Sub.cons rfl ?_))
        · intro w hw; exact hw
    · have hkl : k = g.l.length := by simp at h; omega
      have e1 : hasE g i = false := by
        apply Bool.eq_false_iff.2
        intro hb
        simp only [hasE, Bool.and_eq_true, decide_eq_true_eq] at hb
        exact hno (i - g.base - 1).toNat (by omega) (by omega)
      have e2 : entAt g i = E0 := by rw [entAt, if_neg (by rw [e1]; simp)]
      repeat (first | refine g_seq ?_ | refine at_code ?_ | refine g_skip ?_ | refine g_block ?_ | refine g_exit rfl ?_ | refine g_cond_t rfl ?_ | refine g_cond_f rfl ?_)
      repeat (first | refine g_seq ?_ | refine at_code ?_ | refine g_skip ?_ | refine g_block ?_ | refine g_exit rfl ?_ | refine g_cond_t rfl ?_ | refine g_cond_f rfl ?_)
      refine g_region ?_
      refine gl_f (s_build rfl (v := entV E0) (run_build_struct (places := [(0, 1), (1, 1), (2, 1)]) rfl (by intro f hf; simp at hf; rcases hf with rfl | rfl | rfl <;> rfl) rfl)) rfl rfl rfl ?_
      (first | refine gl_store_blkW rfl rfl (by repeat first|exact .here|apply Upd.there) (by rfl) (by rfl) (by (intro q hq; simp [Value.cells] at hq; first | (subst hq; rfl) | (rcases hq with rfl | rfl | rfl | rfl | rfl | rfl | rfl | rfl <;> rfl) | (rcases hq with rfl | rfl | rfl | rfl | rfl | rfl | rfl <;> rfl) | (rcases hq with rfl | rfl | rfl | rfl | rfl | rfl <;> rfl) | (rcases hq with rfl | rfl | rfl | rfl | rfl <;> rfl) | (rcases hq with rfl | rfl | rfl | rfl <;> rfl) | (rcases hq with rfl | rfl | rfl <;> rfl) | (rcases hq with rfl | rfl <;> rfl))) ?_ | refine gl_store_blk rfl rfl (by repeat first|exact .here|apply Upd.there) (by rfl) (by (intro q hq; simp [Value.cells] at hq; first | (subst hq; rfl) | (rcases hq with rfl | rfl | rfl | rfl | rfl | rfl | rfl | rfl <;> rfl) | (rcases hq with rfl | rfl | rfl | rfl | rfl | rfl | rfl <;> rfl) | (rcases hq with rfl | rfl | rfl | rfl | rfl | rfl <;> rfl) | (rcases hq with rfl | rfl | rfl | rfl | rfl <;> rfl) | (rcases hq with rfl | rfl | rfl | rfl <;> rfl) | (rcases hq with rfl | rfl | rfl <;> rfl) | (rcases hq with rfl | rfl <;> rfl))) (by rfl) ?_)
      refine gl_f (s_assign rfl) rfl rfl rfl ?_
      refine gl_nil ?_
      repeat (first | refine g_seq ?_ | refine at_code ?_ | refine g_skip ?_ | refine g_block ?_ | refine g_exit rfl ?_ | refine g_cond_t rfl ?_ | refine g_cond_f rfl ?_)
      refine g_ret ?_
      exact at_endB1 rfl rfl rfl (by repeat first|exact .del|apply Upd.there) rfl [] ⟨by rw [e1, e2], rfl⟩ (fun _ h => h.dropAll)

theorem rTerm_ct (g : LM) (i : Int) (hf : g.fit) (hi : 0 ≤ i ∧ i ≤ 18446744073709551615) : Pu Try.prog 52 [g.v, .int .u64 i] (fun h => RdS h g.la (enV g.l)) (.tuple #[.int .u64 (termV g i), .bool (hasL g i)]) := by
  have h1 := hf.lo
  have h2 := hf.hi
  have h3 := hf.len
  refine ct_enter 23 Try.func52 rfl rfl rfl ?_
  intro F hrd
  repeat (first | refine g_seq ?_ | refine at_code ?_ | refine g_skip ?_ | refine g_block ?_ | refine g_exit rfl ?_ | refine g_cond_t rfl ?_ | refine g_cond_f rfl ?_)
  refine g_region ?_
  refine gl_boxA rfl rfl ?_; intro g2
  refine gl_f (s_assign rfl) rfl rfl rfl ?_
  refine gl_f (s_assign rfl) rfl rfl rfl ?_
  refine gl_nil ?_
  repeat (first | refine g_seq ?_ | refine at_code ?_ | refine g_skip ?_ | refine g_block ?_ | refine g_exit rfl ?_ | refine g_cond_t rfl ?_ | refine g_cond_f rfl ?_)
  by_cases hb : i = g.base
  · have e1 : hasL g i = true := by simp only [hasL, Bool.and_eq_true, decide_eq_true_eq]; omega
    rw [termV, e1, if_pos rfl, if_pos hb]
    repeat (first | refine g_seq ?_ | refine at_code ?_ | refine g_skip ?_ | refine g_block ?_ | refine g_exit rfl ?_ | refine g_cond_t rfl ?_ | refine g_cond_f rfl ?_)
    refine g_region ?_
    refine gl_f (s_move rfl) rfl rfl rfl ?_
    refine gl_f (by first | exact s_fieldAddr rfl (by rfl) (by infer_instance) (by decide) | exact s_fieldAddr_o rfl (by assumption) (by rfl) (by infer_instance) (by decide)) rfl rfl rfl ?_
    refine gl_r (s_load_blk rfl (by repeat first|exact .del|apply Upd.there) (by rfl)) rfl rfl rfl ?_
    refine gl_f ((s_eql rfl rfl).eq (v' := .bool true) (congrArg Value.bool (decide_eq_true hb))) rfl rfl rfl ?_
    refine gl_nil ?_
    repeat (first | refine g_seq ?_ | refine at_code ?_ | refine g_skip ?_ | refine g_block ?_ | refine g_exit rfl ?_ | refine g_cond_t rfl ?_ | refine g_cond_f rfl ?_)
    repeat (first | refine g_seq ?_ | refine at_code ?_ | refine g_skip ?_ | refine g_block ?_ | refine g_exit rfl ?_ | refine g_cond_t rfl ?_ | refine g_cond_f rfl ?_)
    refine g_region ?_
    refine gl_f (by first | exact s_fieldAddr rfl (by rfl) (by infer_instance) (by decide) | exact s_fieldAddr_o rfl (by assumption) (by rfl) (by infer_instance) (by decide)) rfl rfl rfl ?_
    refine gl_r (s_load_blk rfl (by repeat first|exact .del|apply Upd.there) (by rfl)) rfl rfl rfl ?_
    refine gl_f (s_assign rfl) rfl rfl rfl ?_
    refine gl_f (s_assign rfl) rfl rfl rfl ?_
    refine gl_nil ?_
    repeat (first | refine g_seq ?_ | refine at_code ?_ | refine g_skip ?_ | refine g_block ?_ | refine g_exit rfl ?_ | refine g_cond_t rfl ?_ | refine g_cond_f rfl ?_)
    refine g_ret ?_
    exact at_end2 rfl rfl rfl [] ⟨rfl, rfl⟩ (fun _ h => h.dropAll)
  · have e1 : hasL g i = hasE g i := by rw [hasL_eq, decide_eq_false hb]; rfl
    have e2 : termV g i = (entAt g i).1 := by
      rw [termV, entAt, e1, if_neg hb]
      cases hasE g i <;> rfl
    rw [e1, e2]
    repeat (first | refine g_seq ?_ | refine at_code ?_ | refine g_skip ?_ | refine g_block ?_ | refine g_exit rfl ?_ | refine g_cond_t rfl ?_ | refine g_cond_f rfl ?_)
    refine g_region ?_
    refine gl_f (s_move rfl) rfl rfl rfl ?_
    refine gl_f (by first | exact s_fieldAddr rfl (by rfl) (by infer_instance) (by decide) | exact s_fieldAddr_o rfl (by assumption) (by rfl) (by infer_instance) (by decide)) rfl rfl rfl ?_
    refine gl_r (s_load_blk rfl (by repeat first|exact .del|apply Upd.there) (by rfl)) rfl rfl rfl ?_
    refine gl_f ((s_eql rfl rfl).eq (v' := .bool false) (congrArg Value.bool (decide_eq_false hb))) rfl rfl rfl ?_
    refine gl_nil ?_
    repeat (first | refine g_seq ?_ | refine at_code ?_ | refine g_skip ?_ | refine g_block ?_ | refine g_exit rfl ?_ | refine g_cond_t rfl ?_ | refine g_cond_f rfl ?_)
    repeat (first | refine g_seq ?_ | refine at_code ?_ | refine g_skip ?_ | refine g_block ?_ | refine g_exit rfl ?_ | refine g_cond_t rfl ?_ | refine g_cond_f rfl ?_)
    refine g_region ?_
    refine gl_r (by first | exact s_load_blkW rfl (by repeat first|exact .del|apply Upd.there) (by rfl) | exact s_load_blkN rfl (by repeat first|exact .del|apply Upd.there) (by rfl)) rfl rfl rfl ?_
    refine gl_f (s_move rfl) rfl rfl rfl ?_
    refine gl_call _ rfl (Entry_ct g i hf hi) (fun w hw => hw) (fun h hh _ => hrd.le hh) rfl ?_; rintro v A ⟨rfl, rfl⟩
    refine gl_f (s_move rfl) rfl rfl rfl ?_
    refine gl_f (s_extract rfl rfl) rfl rfl rfl ?_
    refine gl_f (s_extract rfl rfl) rfl rfl rfl ?_
    refine gl_allocA rfl ?_; intro g6
    (first | refine gl_store_blkW rfl rfl (by repeat first|exact .here|apply Upd.there) (by rfl) (by rfl) (by (intro q hq; simp [Value.cells] at hq; first | (subst hq; rfl) | (rcases hq with rfl | rfl | rfl | rfl | rfl | rfl | rfl | rfl <;> rfl) | (rcases hq with rfl | rfl | rfl | rfl | rfl | rfl | rfl <;> rfl) | (rcases hq with rfl | rfl | rfl | rfl | rfl | rfl <;> rfl) | (rcases hq with rfl | rfl | rfl | rfl | rfl <;> rfl) | (rcases hq with rfl | rfl | rfl | rfl <;> rfl) | (rcases hq with rfl | rfl | rfl <;> rfl) | (rcases hq with rfl | rfl <;> rfl))) ?_ | refine gl_store_blk rfl rfl (by repeat first|exact .here|apply Upd.there) (by rfl) (by (intro q hq; simp [Value.cells] at hq; first | (subst hq; rfl) | (rcases hq with rfl | rfl | rfl | rfl | rfl | rfl | rfl | rfl <;> rfl) | (rcases hq with rfl | rfl | rfl | rfl | rfl | rfl | rfl <;> rfl) | (rcases hq with rfl | rfl | rfl | rfl | rfl | rfl <;> rfl) | (rcases hq with rfl | rfl | rfl | rfl | rfl <;> rfl) | (rcases hq with rfl | rfl | rfl | rfl <;> rfl) | (rcases hq with rfl | rfl | rfl <;> rfl) | (rcases hq with rfl | rfl <;> rfl))) (by rfl) ?_)
    refine gl_f (s_assign rfl) rfl rfl rfl ?_
    refine gl_nil ?_
    repeat (first | refine g_seq ?_ | refine at_code ?_ | refine g_skip ?_ | refine g_block ?_ | refine g_exit rfl ?_ | refine g_cond_t rfl ?_ | refine g_cond_f rfl ?_)
    repeat (first | refine g_seq ?_ | refine at_code ?_ | refine g_skip ?_ | refine g_block ?_ | refine g_exit rfl ?_ | refine g_cond_t rfl ?_ | refine g_cond_f rfl ?_)
    refine g_region ?_
    refine gl_f (by first | exact s_fieldAddr rfl (by rfl) (by infer_instance) (by decide) | exact s_fieldAddr_o rfl (by assumption) (by rfl) (by infer_instance) (by decide)) rfl rfl rfl ?_
    refine gl_r (s_load_blk rfl (by repeat first|exact .del|apply Upd.there) (by rfl)) rfl rfl rfl ?_
    refine gl_f (s_move rfl) rfl rfl rfl ?_
    refine gl_f (s_assign rfl) rfl rfl rfl ?_
    refine gl_f (s_assign rfl) rfl rfl rfl ?_
    refine gl_nil ?_
    repeat (first | refine g_seq ?_ | refine at_code ?_ | refine g_skip ?_ | refine g_block ?_ | refine g_exit rfl ?_ | refine g_cond_t rfl ?_ | refine g_cond_f rfl ?_)
    refine g_ret ?_
    exact at_end2 rfl rfl rfl [] ⟨rfl, rfl⟩ (fun _ h => h.dropAll)

theorem ent_at {g : LM} {frm : Int} {k : Nat} (h : hasE g (frm + (k : Int)) = true) (hb : g.base < frm) : entAt g (frm + (k : Int)) = g.l.getD ((frm - g.base - 1).toNat + k) E0 := by
  rw [entAt, if_pos h]; congr 1; omega
set_option maxHeartbeats 2000000 in
theorem rSlice_ct (g : LM) (frm most : Int) (hf : g.fit) (hi : 0 ≤ frm ∧ frm ≤ 18446744073709551615) (hm : -9223372036854775808 ≤ most ∧ most ≤ 9223372036854775807) : Ct Try.prog 56 [g.v, .int .u64 frm, .int .i64 most] (fun h => RdS h g.la (enV g.l)) [] (EnP (sliceL g frm most)) := by
  have h1 := hf.lo
  have h2 := hf.hi
  have h3 := hf.len
  have hsl := slice_le g frm most
  refine ct_enter 32 Try.func56 rfl rfl rfl ?_
  intro F hrd
  repeat (first | refine g_seq ?_ | refine at_code ?_ | refine g_skip ?_ | refine g_block ?_ | refine g_exit rfl ?_ | refine g_cond_t rfl ?_ | refine g_cond_f rfl ?_)
  refine g_region ?_
  refine gl_boxA rfl rfl ?_; intro g3
  refine gl_f (s_assign rfl) rfl rfl rfl ?_
  refine gl_nil ?_
  repeat (first | refine g_seq ?_ | refine at_code ?_ | refine g_skip ?_ | refine g_block ?_ | refine g_exit rfl ?_ | refine g_cond_t rfl ?_ | refine g_cond_f rfl ?_)
  refine g_region ?_
  refine gl_f (s_assign rfl) rfl rfl rfl ?_
  refine gl_nil ?_
  repeat (first | refine g_seq ?_ | refine at_code ?_ | refine g_skip ?_ | refine g_block ?_ | refine g_exit rfl ?_ | refine g_cond_t rfl ?_ | refine g_cond_f rfl ?_)
  refine g_own_nil 65 3 ?_
  repeat (first | refine g_seq ?_ | refine at_code ?_ | refine g_skip ?_ | refine g_block ?_ | refine g_exit rfl ?_ | refine g_cond_t rfl ?_ | refine g_cond_f rfl ?_)
  refine g_region ?_
  refine gl_f (s_move rfl) rfl rfl rfl ?_
  refine gl_f (s_assign rfl) rfl rfl rfl ?_
  refine gl_nil ?_
  repeat (first | refine g_seq ?_ | refine at_code ?_ | refine g_skip ?_ | refine g_block ?_ | refine g_exit rfl ?_ | refine g_cond_t rfl ?_ | refine g_cond_f rfl ?_)
  refine g_loop (ι := Nat × Option Addr × Nat × Int) (fun i => i.1 ≤ (sliceL g frm most).length ∧ i.2.2.2 = frm + (i.1 : Nat)) (fun i => [(2, .int .i64 most), (3, Ptr g3), (7, .slice i.2.1 i.1 i.2.2.1), (8, .int .u64 i.2.2.2)]) (fun i => [.own (.slice i.2.1 i.1 i.2.2.1) 65 3 (enV ((sliceL g frm most).take i.1)), .blk g3 (.cells #[.int .u64 g.base, .int .u64 g.bt, .slice g.ca g.conf.length g.cc, .slice g.la g.l.length g.lc] 47)]) (fun i => g.l.length - i.1) (0, none, 0, frm) (by simp) ?_ ?_ ?_
  · (repeat (first | exact Sub.nil _ | refine Sub.cons rfl ?_))
  · intro w hw; exact hw
  · rintro ⟨k, a, c, f⟩ ⟨hk, hf0⟩
    simp only at hk hf0
    subst hf0
    have hkk : (k, a, c, frm + (k : Int)).fst ≤ 1000000 := by show k ≤ _; omega
    repeat (first | refine g_seq ?_ | refine at_code ?_ | refine g_skip ?_ | refine g_block ?_ | refine g_exit rfl ?_ | refine g_cond_t rfl ?_ | refine g_cond_f rfl ?_)
    refine g_region ?_
    refine gl_f (s_move rfl) rfl rfl rfl ?_
    refine gl_f (s_len_sl rfl) rfl rfl rfl ?_
    refine gl_f (s_move rfl) rfl rfl rfl ?_
    refine gl_f (s_lss rfl rfl) rfl rfl rfl ?_
    refine gl_nil ?_
    repeat (first | refine g_seq ?_ | refine at_code ?_ | refine g_skip ?_ | refine g_block ?_ | refine g_exit rfl ?_ | refine g_cond_t rfl ?_ | refine g_cond_f rfl ?_)
    refine g_cond rfl (fun h => ?_) (fun h => ?_)
    · have hk' : (k : Int) < most := of_decide_eq_true h
      have hfk : frm + (k : Int) ≤ 18446744073709551615 := by
        by_cases hs : g.base < frm ∧ frm - g.base ≤ (g.l.length : Int) ∧ 1 ≤ most
        · omega
        · have : k = 0 := by rw [sliceL, if_neg hs] at hk; simpa using hk
          omega
      repeat (first | refine g_seq ?_ | refine at_code ?_ | refine g_skip ?_ | refine g_block ?_ | refine g_exit rfl ?_ | refine g_cond_t rfl ?_ | refine g_cond_f rfl ?_)
      refine g_region ?_
      refine gl_r (by first | exact s_load_blkW rfl (by repeat first|exact .del|apply Upd.there) (by rfl) | exact s_load_blkN rfl (by repeat first|exact .del|apply Upd.there) (by rfl)) rfl rfl rfl ?_
      refine gl_f (s_move rfl) rfl rfl rfl ?_
      refine gl_call _ rfl (Entry_ct g _ hf (by show 0 ≤ frm + (k : Int) ∧ frm + (k : Int) ≤ _; omega)) (fun w hw => hw) (fun h hh _ => hrd.le hh) rfl ?_; rintro v A ⟨rfl, rfl⟩
      refine gl_f (s_move rfl) rfl rfl rfl ?_
      refine gl_f (s_extract rfl rfl) rfl rfl rfl ?_
      refine gl_f (s_extract rfl rfl) rfl rfl rfl ?_
      refine gl_allocA rfl ?_; intro g9
      (first | refine gl_store_blkW rfl rfl (by repeat first|exact .here|apply Upd.there) (by rfl) (by rfl) (by (intro q hq; simp [Value.cells] at hq; first | (subst hq; rfl) | (rcases hq with rfl | rfl | rfl | rfl | rfl | rfl | rfl | rfl <;> rfl) | (rcases hq with rfl | rfl | rfl | rfl | rfl | rfl | rfl <;> rfl) | (rcases hq with rfl | rfl | rfl | rfl | rfl | rfl <;> rfl) | (rcases hq with rfl | rfl | rfl | rfl | rfl <;> rfl) | (rcases hq with rfl | rfl | rfl | rfl <;> rfl) | (rcases hq with rfl | rfl | rfl <;> rfl) | (rcases hq with rfl | rfl <;> rfl))) ?_ | refine gl_store_blk rfl rfl (by repeat first|exact .here|apply Upd.there) (by rfl) (by (intro q hq; simp [Value.cells] at hq; first | (subst hq; rfl) | (rcases hq with rfl | rfl | rfl | rfl | rfl | rfl | rfl | rfl <;> rfl) | (rcases hq with rfl | rfl | rfl | rfl | rfl | rfl | rfl <;> rfl) | (rcases hq with rfl | rfl | rfl | rfl | rfl | rfl <;> rfl) | (rcases hq with rfl | rfl | rfl | rfl | rfl <;> rfl) | (rcases hq with rfl | rfl | rfl | rfl <;> rfl) | (rcases hq with rfl | rfl | rfl <;> rfl) | (rcases hq with rfl | rfl <;> rfl))) (by rfl) ?_)
      refine gl_f (s_assign rfl) rfl rfl rfl ?_
      refine gl_nil ?_
      repeat (first | refine g_seq ?_ | refine at_code ?_ | refine g_skip ?_ | refine g_block ?_ | refine g_exit rfl ?_ | refine g_cond_t rfl ?_ | refine g_cond_f rfl ?_)
      obtain ⟨q, hq⟩ : ∃ q, q = hasE g (frm + (k : Int)) := ⟨_, rfl⟩
      obtain ⟨e, he⟩ : ∃ e, e = entAt g (frm + (k : Int)) := ⟨_, rfl⟩
      have hqq : hasE g (k, a, c, frm + (k : Int)).2.2.2 = q := hq.symm
      have hee : entAt g (k, a, c, frm + (k : Int)).2.2.2 = e := he.symm
      rw [hqq, hee]
      cases q
      · have hend : sliceL g frm most = (sliceL g frm most).take k := by
          refine (List.take_of_length_le ?_).symm
          by_cases hs : g.base < frm ∧ frm - g.base ≤ (g.l.length : Int) ∧ 1 ≤ most
          · rw [sliceL, if_pos hs, List.length_take, List.length_drop]
            have := Bool.eq_false_iff.1 hq.symm
            simp only [hasE, Bool.and_eq_true, decide_eq_true_eq, ne_eq, not_and] at this
            have := this (by omega)
            omega
          · rw [sliceL, if_neg hs]; simp
        have hkl : k = (sliceL g frm most).length := by
          have := congrArg List.length hend
          rw [List.length_take] at this; omega
        repeat (first | refine g_seq ?_ | refine at_code ?_ | refine g_skip ?_ | refine g_block ?_ | refine g_exit rfl ?_ | refine g_cond_t rfl ?_ | refine g_cond_f rfl ?_)
        refine g_region ?_
        refine gl_f (s_move rfl) rfl rfl rfl ?_
        refine gl_f (s_not rfl) rfl rfl rfl ?_
        refine gl_nil ?_
        repeat (first | refine g_seq ?_ | refine at_code ?_ | refine g_skip ?_ | refine g_block ?_ | refine g_exit rfl ?_ | refine g_cond_t rfl ?_ | refine g_cond_f rfl ?_)
        refine g_region ?_
        refine gl_f (s_move rfl) rfl rfl rfl ?_
        refine gl_f (s_assign rfl) rfl rfl rfl ?_
        refine gl_nil ?_
        repeat (first | refine g_seq ?_ | refine at_code ?_ | refine g_skip ?_ | refine g_block ?_ | refine g_exit rfl ?_ | refine g_cond_t rfl ?_ | refine g_cond_f rfl ?_)
        refine g_ret ?_
        refine at_end1 rfl rfl [.own (.slice a k c) 65 3 (enV ((sliceL g frm most).take k))] ⟨a, c, by rw [← hkl], by rw [← hkl, ← hend]⟩ (fun w hw => ?_)
        exact hp_left (R := [_]) (hw.drop.perm (.refl _))
      · have hb : g.base < frm := by
          have := hq.symm
          simp only [hasE, Bool.and_eq_true, decide_eq_true_eq] at this
          by_cases hs : g.base < frm ∧ frm - g.base ≤ (g.l.length : Int) ∧ 1 ≤ most
          · exact hs.1
          · have h0 : k = 0 := by rw [sliceL, if_neg hs] at hk; simpa using hk
            omega
        have hin := hq.symm
        simp only [hasE, Bool.and_eq_true, decide_eq_true_eq] at hin
        have hlt : k < (sliceL g frm most).length := by
          rw [sliceL, if_pos ⟨hb, by omega, by omega⟩, List.length_take, List.length_drop]
          omega
        have hget : (sliceL g frm most)[k] = e := by
          rw [he, ent_at hq.symm hb]
          have hs : sliceL g frm most = (g.l.drop (frm - g.base - 1).toNat).take most.toNat := by rw [sliceL, if_pos ⟨hb, by omega, by omega⟩]
          simp only [hs, List.getElem_take, List.getElem_drop]
          have hlt2 : (frm - g.base - 1).toNat + k < g.l.length := by omega
          rw [List.getD_eq_getElem?_getD, List.getElem?_eq_getElem hlt2]
          rfl
        have ee : enV ((sliceL g frm most).take (k + 1)) = enV ((sliceL g frm most).take k) ++ enV [e] := by
          rw [List.take_succ_eq_append_getElem hlt, enV_append, hget]
        repeat (first | refine g_seq ?_ | refine at_code ?_ | refine g_skip ?_ | refine g_block ?_ | refine g_exit rfl ?_ | refine g_cond_t rfl ?_ | refine g_cond_f rfl ?_)
        refine g_region ?_
        refine gl_f (s_move rfl) rfl rfl rfl ?_
        refine gl_f (s_not rfl) rfl rfl rfl ?_
        refine gl_nil ?_
        repeat (first | refine g_seq ?_ | refine at_code ?_ | refine g_skip ?_ | refine g_block ?_ | refine g_exit rfl ?_ | refine g_cond_t rfl ?_ | refine g_cond_f rfl ?_)
        repeat (first | refine g_seq ?_ | refine at_code ?_ | refine g_skip ?_ | refine g_block ?_ | refine g_exit rfl ?_ | refine g_cond_t rfl ?_ | refine g_cond_f rfl ?_)
        refine g_region ?_
        refine gl_f (s_move rfl) rfl rfl rfl ?_
        refine gl_r (by first | exact s_load_blkW rfl (by repeat first|exact .del|apply Upd.there) (by rfl) | exact s_load_blkN rfl (by repeat first|exact .del|apply Upd.there) (by rfl)) rfl rfl rfl ?_
        refine gl_buildSliceU rfl rfl rfl rfl rfl rfl (xs := enV [e]) rfl rfl ?_; intro a29 ha29
        refine gl_append rfl rfl (fun a' c' => (by repeat first|exact .here|apply Upd.there)) (fun w hw => (hw.ownN .del).2.2.1) rfl rfl rfl (enV_one _) (by show (_ + 1) * 32 ≤ _; omega) (by omega) rfl ?_; intro a30 c30 hc30
        refine gl_f (s_assign rfl) rfl rfl rfl ?_
        refine gl_nil ?_
        repeat (first | refine g_seq ?_ | refine at_code ?_ | refine g_skip ?_ | refine g_block ?_ | refine g_exit rfl ?_ | refine g_cond_t rfl ?_ | refine g_cond_f rfl ?_)
        repeat (first | refine g_seq ?_ | refine at_code ?_ | refine g_skip ?_ | refine g_block ?_ | refine g_exit rfl ?_ | refine g_cond_t rfl ?_ | refine g_cond_f rfl ?_)
        refine g_region ?_
        refine gl_f (s_move rfl) rfl rfl rfl ?_
        refine gl_f (s_add_u64 rfl rfl (by show 0 ≤ frm + (k : Int) + 1 ∧ frm + (k : Int) + 1 ≤ _; omega)) rfl rfl rfl ?_
        refine gl_f (s_assign rfl) rfl rfl rfl ?_
        refine gl_nil ?_
        repeat (first | refine g_seq ?_ | refine at_code ?_ | refine g_skip ?_ | refine g_block ?_ | refine g_exit rfl ?_ | refine g_cond_t rfl ?_ | refine g_cond_f rfl ?_)
        refine at_next (k + 1, a30, c30, frm + (k : Int) + 1) (by simp only; omega) (by simp only; omega) ?_ ?_
        · (repeat (first | exact Sub.nil _ | refine Sub.cons rfl ?_))
        · intro w hw
          simp only
          rw [ee]
          exact hw.drop.drop
    · have hk' : most ≤ (k : Int) := by have := of_decide_eq_false h; show most ≤ (k : Int); omega
      have hkl : k = (sliceL g frm most).length := by
        by_cases hs : g.base < frm ∧ frm - g.base ≤ (g.l.length : Int) ∧ 1 ≤ most
        · have : (sliceL g frm most).length ≤ most.toNat := by rw [sliceL, if_pos hs, List.length_take]; omega
          omega
        · rw [sliceL, if_neg hs] at hk ⊢; simpa using hk
      repeat (first | refine g_seq ?_ | refine at_code ?_ | refine g_skip ?_ | refine g_block ?_ | refine g_exit rfl ?_ | refine g_cond_t rfl ?_ | refine g_cond_f rfl ?_)
      repeat (first | refine g_seq ?_ | refine at_code ?_ | refine g_skip ?_ | refine g_block ?_ | refine g_exit rfl ?_ | refine g_cond_t rfl ?_ | refine g_cond_f rfl ?_)
      refine g_region ?_
      refine gl_f (s_move rfl) rfl rfl rfl ?_
      refine gl_f (s_assign rfl) rfl rfl rfl ?_
      refine gl_nil ?_
      repeat (first | refine g_seq ?_ | refine at_code ?_ | refine g_skip ?_ | refine g_block ?_ | refine g_exit rfl ?_ | refine g_cond_t rfl ?_ | refine g_cond_f rfl ?_)
      refine g_ret ?_
      refine at_end1 rfl rfl [.own (.slice a k c) 65 3 (enV ((sliceL g frm most).take k))] ⟨a, c, by rw [← hkl], by rw [← hkl, List.take_of_length_le (by omega)]⟩ (fun w hw => ?_)
      exact hp_left (R := [_]) hw
end Go.Proofs.Ytodcghipfolejaa
