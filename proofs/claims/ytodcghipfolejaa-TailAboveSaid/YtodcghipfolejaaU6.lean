/- The walks of Merge: the reference's and the program's. -/
import Derived.Test.YtodcghipfolejaaU5
namespace Go.Proofs.Ytodcghipfolejaa
open Go Go.Sl
set_option linter.unusedVariables false
set_option linter.unusedSimpArgs false

theorem cut_ents {h : Heap} {a : Option Addr} {l : List Ent} {c : Nat} (r : RdS h a (enV l)) (hc : l.length ≤ c) (k : Nat) (hk : k ≤ l.length) : RdS h (cutA a c k 3) (enV (l.drop k)) := by
  have hcut := (r.cut (sz := 3) (enV_length l) hc k l.length (by omega) (Nat.le_refl _))
  have hx : ((enV l).drop (k * 3)).take ((l.length - k) * 3) = enV (l.drop k) := by
    rw [List.take_of_length_le (by rw [List.length_drop, enV_length]; omega), enV_drop]
  rwa [hx] at hcut
set_option maxRecDepth 4000 in
set_option maxHeartbeats 2000000 in
theorem rMerge_ct (g : LM) (prev term : Int) (l : List Ent) (lb : Option Addr) (ld : Nat) (hf : g.fit) (hp : 0 ≤ prev ∧ prev ≤ 18446744073709551615) (hl : l.length ≤ 1000000) (hld : l.length ≤ ld) : Ct Try.prog 37 [g.v, .int .u64 prev, .int .u64 term, .slice lb l.length ld] (fun h => RdS h g.la (enV g.l) ∧ RdS h lb (enV l)) [] (RefP g (mrgL g prev term l)) := by
  have h1 := hf.lo
  have h2 := hf.hi
  have h3 := hf.len
  refine ct_enter 46 Try.func37 rfl rfl rfl ?_
  intro F hr
  obtain ⟨hrd, hrl⟩ := hr
  repeat (first | refine g_seq ?_ | refine at_code ?_ | refine g_skip ?_ | refine g_block ?_ | refine g_exit rfl ?_ | refine g_cond_t rfl ?_ | refine g_cond_f rfl ?_)
  refine g_region ?_
  refine gl_boxA rfl rfl ?_; intro g4
  refine gl_allocA rfl ?_; intro g8
  refine gl_f (s_assign rfl) rfl rfl rfl ?_
  refine gl_f (s_assign rfl) rfl rfl rfl ?_
  refine gl_nil ?_
  repeat (first | refine g_seq ?_ | refine at_code ?_ | refine g_skip ?_ | refine g_block ?_ | refine g_exit rfl ?_ | refine g_cond_t rfl ?_ | refine g_cond_f rfl ?_)
  refine g_region ?_
  refine gl_f (s_move rfl) rfl rfl rfl ?_
  refine gl_f (by first | exact s_fieldAddr rfl (by rfl) (by infer_instance) (by decide) | exact s_fieldAddr_o rfl (by assumption) (by rfl) (by infer_instance) (by decide)) rfl rfl rfl ?_
  refine gl_r (s_load_blk rfl (by repeat first|exact .del|apply Upd.there) (by rfl)) rfl rfl rfl ?_
  refine gl_f (s_geq rfl rfl) rfl rfl rfl ?_
  refine gl_nil ?_
  repeat (first | refine g_seq ?_ | refine at_code ?_ | refine g_skip ?_ | refine g_block ?_ | refine g_exit rfl ?_ | refine g_cond_t rfl ?_ | refine g_cond_f rfl ?_)
  refine g_cond rfl (fun h => ?_) (fun h => ?_)
  · have hb : g.base ≤ prev := of_decide_eq_true h
    rw [mrgL, if_neg (by omega)]
    repeat (first | refine g_seq ?_ | refine at_code ?_ | refine g_skip ?_ | refine g_block ?_ | refine g_exit rfl ?_ | refine g_cond_t rfl ?_ | refine g_cond_f rfl ?_)
    refine g_region ?_
    refine gl_r (by first | exact s_load_blkW rfl (by repeat first|exact .del|apply Upd.there) (by rfl) | exact s_load_blkN rfl (by repeat first|exact .del|apply Upd.there) (by rfl)) rfl rfl rfl ?_
    refine gl_f (s_move rfl) rfl rfl rfl ?_
    refine gl_f (s_move rfl) rfl rfl rfl ?_
    refine gl_f (s_move rfl) rfl rfl rfl ?_
    refine gl_call _ rfl (behind_ct g prev term l lb ld hf hb hp.2 hl) (fun w hw => hw) (fun h hh _ => ⟨hrd.le hh, hrl.le hh⟩) rfl ?_; rintro v A (⟨e, rfl, rfl⟩ | ⟨la, lc, rfl, rfl⟩)
    all_goals (refine gl_f (s_extract rfl rfl) rfl rfl rfl ?_)
    all_goals (refine gl_f (s_extract rfl rfl) rfl rfl rfl ?_)
    all_goals (refine gl_f (s_extract rfl rfl) rfl rfl rfl ?_)
    all_goals ((first | refine gl_store_blkW rfl rfl (by repeat first|exact .here|apply Upd.there) (by rfl) (by rfl) (by (intro q hq; simp [Value.cells] at hq; first | (subst hq; rfl) | (rcases hq with rfl | rfl | rfl | rfl | rfl | rfl | rfl | rfl <;> rfl) | (rcases hq with rfl | rfl | rfl | rfl | rfl | rfl | rfl <;> rfl) | (rcases hq with rfl | rfl | rfl | rfl | rfl | rfl <;> rfl) | (rcases hq with rfl | rfl | rfl | rfl | rfl <;> rfl) | (rcases hq with rfl | rfl | rfl | rfl <;> rfl) | (rcases hq with rfl | rfl | rfl <;> rfl) | (rcases hq with rfl | rfl <;> rfl))) ?_ | refine gl_store_blk rfl rfl (by repeat first|exact .here|apply Upd.there) (by rfl) (by (intro q hq; simp [Value.cells] at hq; first | (subst hq; rfl) | (rcases hq with rfl | rfl | rfl | rfl | rfl | rfl | rfl | rfl <;> rfl) | (rcases hq with rfl | rfl | rfl | rfl | rfl | rfl | rfl <;> rfl) | (rcases hq with rfl | rfl | rfl | rfl | rfl | rfl <;> rfl) | (rcases hq with rfl | rfl | rfl | rfl | rfl <;> rfl) | (rcases hq with rfl | rfl | rfl | rfl <;> rfl) | (rcases hq with rfl | rfl | rfl <;> rfl) | (rcases hq with rfl | rfl <;> rfl))) (by rfl) ?_))
    all_goals (refine gl_f (s_assign rfl) rfl rfl rfl ?_)
    all_goals (refine gl_f (s_assign rfl) rfl rfl rfl ?_)
    all_goals (refine gl_nil ?_)
    all_goals (repeat (first | refine g_seq ?_ | refine at_code ?_ | refine g_skip ?_ | refine g_block ?_ | refine g_exit rfl ?_ | refine g_cond_t rfl ?_ | refine g_cond_f rfl ?_))
    · refine g_ret ?_
      exact at_endB2 rfl rfl rfl rfl (by repeat first|exact .del|apply Upd.there) rfl [] (.inl ⟨e, rfl, rfl⟩) (fun _ h => h.dropAll)
    · refine g_ret ?_
      exact at_endB2 rfl rfl rfl rfl (by repeat first|exact .del|apply Upd.there) rfl [OwnL la (mrgB g prev term l).l lc] (.inr ⟨la, lc, rfl, rfl⟩) (fun w hw => Hp.left (R := [_, _]) hw)
  · have hb : prev < g.base := by have := of_decide_eq_false h; omega
    rw [mrgL, if_pos hb]
    clear h
    repeat (first | refine g_seq ?_ | refine at_code ?_ | refine g_skip ?_ | refine g_block ?_ | refine g_exit rfl ?_ | refine g_cond_t rfl ?_ | refine g_cond_f rfl ?_)
    refine g_loop (ι := Nat × Int × Option Addr × Nat × List Ent) (fun i => i.2.1 = prev + (i.1 : Nat) ∧ i.2.1 ≤ g.base ∧ i.1 ≤ l.length ∧ i.2.2.2.2 = l.drop i.1 ∧ i.2.2.2.2.length ≤ i.2.2.2.1 ∧ RdS F.heap i.2.2.1 (enV i.2.2.2.2)) (fun i => [(1, .int .u64 i.2.1), (3, .slice i.2.2.1 i.2.2.2.2.length i.2.2.2.1), (4, Ptr g4), (8, Ptr g8)]) (fun i => [blkG g8 0 0 none 0 0 none 0 0, blkG g4 g.base g.bt g.ca g.conf.length g.cc g.la g.l.length g.lc]) (fun i => l.length - i.1) (0, prev, lb, ld, l) ⟨by simp, by simp only; omega, by simp, by simp, hld, hrl⟩ ?_ ?_ ?_
    · (repeat (first | exact Sub.nil _ | refine Sub.cons rfl ?_))
    · intro w hw; exact hw
    · rintro ⟨k, pz, a, c, m⟩ ⟨hpz, hpb, hk, hm, hmc, hrm⟩
      simp only at hpz hpb hk hm hmc hrm
      have hml : m.length = l.length - k := by rw [hm, List.length_drop]
      obtain ⟨q1, hq1⟩ : ∃ q, q = decide (pz < g.base) := ⟨_, rfl⟩
      obtain ⟨q2, hq2⟩ : ∃ q, q = decide ((0 : Int) < (m.length : Nat)) := ⟨_, rfl⟩
      repeat (first | refine g_seq ?_ | refine at_code ?_ | refine g_skip ?_ | refine g_block ?_ | refine g_exit rfl ?_ | refine g_cond_t rfl ?_ | refine g_cond_f rfl ?_)
      refine g_cutK [(1, .int .u64 pz), (3, .slice a m.length c), (4, Ptr g4), (8, Ptr g8), (31, .bool (q1 && q2))] [blkG g8 0 0 none 0 0 none 0 0, blkG g4 g.base g.bt g.ca g.conf.length g.cc g.la g.l.length g.lc] ?_ ?_
      · cases q1
        all_goals (
          repeat (first | refine g_seq ?_ | refine at_code ?_ | refine g_skip ?_ | refine g_block ?_ | refine g_exit rfl ?_ | refine g_cond_t rfl ?_ | refine g_cond_f rfl ?_)
          refine g_region ?_
          refine gl_f (s_move rfl) rfl rfl rfl ?_
          refine gl_f (by first | exact s_fieldAddr rfl (by rfl) (by infer_instance) (by decide) | exact s_fieldAddr_o rfl (by assumption) (by rfl) (by infer_instance) (by decide)) rfl rfl rfl ?_
          refine gl_r (s_load_blk rfl (by repeat first|exact .del|apply Upd.there) (by rfl)) rfl rfl rfl ?_
          refine gl_f ((s_lss rfl rfl).eq (congrArg Value.bool hq1.symm)) rfl rfl rfl ?_
          refine gl_f (s_move rfl) rfl rfl rfl ?_
          (first | refine gl_guard_no rfl rfl rfl rfl rfl rfl rfl ?_ | refine gl_guard_un rfl rfl rfl rfl rfl rfl ?_ | (refine gl_guard_yes rfl rfl rfl ?_; refine gl_f (s_move rfl) rfl rfl rfl ?_))
          (first | refine gl_guard_no rfl rfl rfl rfl rfl rfl rfl ?_ | refine gl_guard_un rfl rfl rfl rfl rfl rfl ?_ | (refine gl_guard_yes rfl rfl rfl ?_; refine gl_f (s_len_sl rfl) rfl rfl rfl ?_))
          (first | refine gl_guard_no rfl rfl rfl rfl rfl rfl rfl ?_ | refine gl_guard_un rfl rfl rfl rfl rfl rfl ?_ | (refine gl_guard_yes rfl rfl rfl ?_; refine gl_f ((s_gtr rfl rfl).eq (congrArg Value.bool hq2.symm)) rfl rfl rfl ?_))
          refine gl_f (by first | exact s_pick_t rfl rfl | exact s_pick_f rfl rfl) rfl rfl rfl ?_
          refine gl_nil ?_
          repeat (first | refine g_seq ?_ | refine at_code ?_ | refine g_skip ?_ | refine g_block ?_ | refine g_exit rfl ?_ | refine g_cond_t rfl ?_ | refine g_cond_f rfl ?_))
        all_goals exact at_cut (by (repeat (first | exact Sub.nil _ | refine Sub.cons rfl ?_))) (fun w hw => hw)
      · repeat (first | refine g_seq ?_ | refine at_code ?_ | refine g_skip ?_ | refine g_block ?_ | refine g_exit rfl ?_ | refine g_cond_t rfl ?_ | refine g_cond_f rfl ?_)
        refine g_cond rfl (fun h => ?_) (fun h => ?_)
        · have hh : pz < g.base ∧ 0 < m.length := by
            rw [hq1, hq2, Bool.and_eq_true, decide_eq_true_eq, decide_eq_true_eq] at h; omega
          have hlen1 : (m.drop 1).length = m.length - 1 := by rw [List.length_drop]
          repeat (first | refine g_seq ?_ | refine at_code ?_ | refine g_skip ?_ | refine g_block ?_ | refine g_exit rfl ?_ | refine g_cond_t rfl ?_ | refine g_cond_f rfl ?_)
          refine g_region ?_
          refine gl_f (s_move rfl) rfl rfl rfl ?_
          refine gl_f (s_add_u64 rfl rfl (by omega)) rfl rfl rfl ?_
          refine gl_f (s_assign rfl) rfl rfl rfl ?_
          refine gl_nil ?_
          repeat (first | refine g_seq ?_ | refine at_code ?_ | refine g_skip ?_ | refine g_block ?_ | refine g_exit rfl ?_ | refine g_cond_t rfl ?_ | refine g_cond_f rfl ?_)
          refine g_region ?_
          refine gl_f (s_move rfl) rfl rfl rfl ?_
          refine gl_f ((s_slice_sl rfl rfl rfl (by omega)).eq (v' := .slice (cutA a c 1 3) (m.drop 1).length (c - 1)) (by rw [hlen1]; rfl)) rfl rfl rfl ?_
          refine gl_f (s_assign rfl) rfl rfl rfl ?_
          refine gl_nil ?_
          repeat (first | refine g_seq ?_ | refine at_code ?_ | refine g_skip ?_ | refine g_block ?_ | refine g_exit rfl ?_ | refine g_cond_t rfl ?_ | refine g_cond_f rfl ?_)
          refine at_next (k + 1, pz + 1, cutA a c 1 3, c - 1, m.drop 1) ⟨by simp only; omega, by simp only; omega, by simp only; omega, by simp only [hm, List.drop_drop], by simp only [hlen1]; omega, cut_ents hrm hmc 1 (by omega)⟩ (by simp only; omega) ?_ ?_
          · (repeat (first | exact Sub.nil _ | refine Sub.cons rfl ?_))
          · intro w hw; exact hw
        · have hh : ¬ (pz < g.base ∧ 0 < m.length) := by
            rw [hq1, hq2, Bool.and_eq_false_iff, decide_eq_false_iff_not, decide_eq_false_iff_not] at h; omega
          have hmd : m = l.drop (g.base - prev).toNat := by
            by_cases h5 : pz < g.base
            · have h6 : m.length = 0 := by omega
              rw [List.eq_nil_of_length_eq_zero h6, List.drop_of_length_le (by omega)]
            · rw [hm]; congr 1; omega
          rw [← hmd]
          repeat (first | refine g_seq ?_ | refine at_code ?_ | refine g_skip ?_ | refine g_block ?_ | refine g_exit rfl ?_ | refine g_cond_t rfl ?_ | refine g_cond_f rfl ?_)
          repeat (first | refine g_seq ?_ | refine at_code ?_ | refine g_skip ?_ | refine g_block ?_ | refine g_exit rfl ?_ | refine g_cond_t rfl ?_ | refine g_cond_f rfl ?_)
          refine g_region ?_
          refine gl_r (by first | exact s_load_blkW rfl (by repeat first|exact .del|apply Upd.there) (by rfl) | exact s_load_blkN rfl (by repeat first|exact .del|apply Upd.there) (by rfl)) rfl rfl rfl ?_
          refine gl_f (by first | exact s_fieldAddr rfl (by rfl) (by infer_instance) (by decide) | exact s_fieldAddr_o rfl (by assumption) (by rfl) (by infer_instance) (by decide)) rfl rfl rfl ?_
          refine gl_r (s_load_blk rfl (by repeat first|exact .del|apply Upd.there) (by rfl)) rfl rfl rfl ?_
          refine gl_f (by first | exact s_fieldAddr rfl (by rfl) (by infer_instance) (by decide) | exact s_fieldAddr_o rfl (by assumption) (by rfl) (by infer_instance) (by decide)) rfl rfl rfl ?_
          refine gl_r (s_load_blk rfl (by repeat first|exact .del|apply Upd.there) (by rfl)) rfl rfl rfl ?_
          refine gl_f (s_move rfl) rfl rfl rfl ?_
          refine gl_call _ rfl (behind_ct g g.base g.bt m a c hf (Int.le_refl _) (by omega) (by omega)) (fun w hw => hw) (fun h hh _ => ⟨hrd.le hh, hrm.le hh⟩) rfl ?_; rintro v A (⟨e, rfl, rfl⟩ | ⟨la, lc, rfl, rfl⟩)
          all_goals (refine gl_f (s_extract rfl rfl) rfl rfl rfl ?_)
          all_goals (refine gl_f (s_extract rfl rfl) rfl rfl rfl ?_)
          all_goals (refine gl_f (s_extract rfl rfl) rfl rfl rfl ?_)
          all_goals ((first | refine gl_store_blkW rfl rfl (by repeat first|exact .here|apply Upd.there) (by rfl) (by rfl) (by (intro q hq; simp [Value.cells] at hq; first | (subst hq; rfl) | (rcases hq with rfl | rfl | rfl | rfl | rfl | rfl | rfl | rfl <;> rfl) | (rcases hq with rfl | rfl | rfl | rfl | rfl | rfl | rfl <;> rfl) | (rcases hq with rfl | rfl | rfl | rfl | rfl | rfl <;> rfl) | (rcases hq with rfl | rfl | rfl | rfl | rfl <;> rfl) | (rcases hq with rfl | rfl | rfl | rfl <;> rfl) | (rcases hq with rfl | rfl | rfl <;> rfl) | (rcases hq with rfl | rfl <;> rfl))) ?_ | refine gl_store_blk rfl rfl (by repeat first|exact .here|apply Upd.there) (by rfl) (by (intro q hq; simp [Value.cells] at hq; first | (subst hq; rfl) | (rcases hq with rfl | rfl | rfl | rfl | rfl | rfl | rfl | rfl <;> rfl) | (rcases hq with rfl | rfl | rfl | rfl | rfl | rfl | rfl <;> rfl) | (rcases hq with rfl | rfl | rfl | rfl | rfl | rfl <;> rfl) | (rcases hq with rfl | rfl | rfl | rfl | rfl <;> rfl) | (rcases hq with rfl | rfl | rfl | rfl <;> rfl) | (rcases hq with rfl | rfl | rfl <;> rfl) | (rcases hq with rfl | rfl <;> rfl))) (by rfl) ?_))
          all_goals (refine gl_f (s_assign rfl) rfl rfl rfl ?_)
          all_goals (refine gl_f (s_assign rfl) rfl rfl rfl ?_)
          all_goals (refine gl_nil ?_)
          all_goals (repeat (first | refine g_seq ?_ | refine at_code ?_ | refine g_skip ?_ | refine g_block ?_ | refine g_exit rfl ?_ | refine g_cond_t rfl ?_ | refine g_cond_f rfl ?_))
          · refine g_ret ?_
            exact at_endB2 rfl rfl rfl rfl (by repeat first|exact .del|apply Upd.there) rfl [] (.inl ⟨e, rfl, rfl⟩) (fun _ h => h.dropAll)
          · refine g_ret ?_
            exact at_endB2 rfl rfl rfl rfl (by repeat first|exact .del|apply Upd.there) rfl [OwnL la (mrgB g g.base g.bt m).l lc] (.inr ⟨la, lc, rfl, rfl⟩) (fun w hw => Hp.left (R := [_, _]) hw)

/-- what the program's merging gives: a log of the call's own -/
def MrgP (g : LM) (r : Mrg) (v : Value) (A : List As) : Prop := ∃ ca cc la lc, v = .tuple #[LM.v ⟨g.base, g.bt, g.conf, r.l, ca, cc, la, lc⟩, .int .u64 r.at_, .bool r.ok] ∧ A = OwnG ⟨g.base, g.bt, g.conf, r.l, ca, cc, la, lc⟩
set_option maxRecDepth 4000 in
set_option maxHeartbeats 4000000 in
theorem Merge_ct (g : LM) (prev term : Int) (l : List Ent) (lb : Option Addr) (ld : Nat) (hf : g.fit) (hp : 0 ≤ prev ∧ prev ≤ 18446744073709551615) (hl : l.length ≤ 1000000) (hld : l.length ≤ ld) : Ct Try.prog 36 [g.v, .int .u64 prev, .int .u64 term, .slice lb l.length ld] (fun h => g.ok h ∧ RdS h lb (enV l)) [] (MrgP g (mrgL g prev term l)) := by
  have h1 := hf.lo
  have h2 := hf.hi
  have h3 := hf.len
  have h3c := hf.cl
  refine ct_enter 94 Try.func36 rfl rfl rfl ?_
  intro F hr
  obtain ⟨hrg, hrl⟩ := hr
  repeat (first | refine g_seq ?_ | refine at_code ?_ | refine g_skip ?_ | refine g_block ?_ | refine g_exit rfl ?_ | refine g_cond_t rfl ?_ | refine g_cond_f rfl ?_)
  refine g_region ?_
  refine gl_boxA rfl rfl ?_; intro g4
  refine gl_allocA rfl ?_; intro g8
  refine gl_f (s_assign rfl) rfl rfl rfl ?_
  refine gl_f (s_assign rfl) rfl rfl rfl ?_
  refine gl_nil ?_
  repeat (first | refine g_seq ?_ | refine at_code ?_ | refine g_skip ?_ | refine g_block ?_ | refine g_exit rfl ?_ | refine g_cond_t rfl ?_ | refine g_cond_f rfl ?_)
  repeat (first | refine g_seq ?_ | refine at_code ?_ | refine g_skip ?_ | refine g_block ?_ | refine g_exit rfl ?_ | refine g_cond_t rfl ?_ | refine g_cond_f rfl ?_)
  refine g_region ?_
  refine gl_r (by first | exact s_load_blkW rfl (by repeat first|exact .del|apply Upd.there) (by rfl) | exact s_load_blkN rfl (by repeat first|exact .del|apply Upd.there) (by rfl)) rfl rfl rfl ?_
  refine gl_call _ rfl (clone_ct g (by omega) (by omega)) (fun w hw => hw) (fun h hh _ => hrg.le hh) rfl ?_; rintro v A ⟨ca, cc, la, lc, rfl, rfl⟩
  (first | refine gl_store_blkW rfl rfl (by repeat first|exact .here|apply Upd.there) (by rfl) (by rfl) (by (intro q hq; simp [Value.cells] at hq; first | (subst hq; rfl) | (rcases hq with rfl | rfl | rfl | rfl | rfl | rfl | rfl | rfl <;> rfl) | (rcases hq with rfl | rfl | rfl | rfl | rfl | rfl | rfl <;> rfl) | (rcases hq with rfl | rfl | rfl | rfl | rfl | rfl <;> rfl) | (rcases hq with rfl | rfl | rfl | rfl | rfl <;> rfl) | (rcases hq with rfl | rfl | rfl | rfl <;> rfl) | (rcases hq with rfl | rfl | rfl <;> rfl) | (rcases hq with rfl | rfl <;> rfl))) ?_ | refine gl_store_blk rfl rfl (by repeat first|exact .here|apply Upd.there) (by rfl) (by (intro q hq; simp [Value.cells] at hq; first | (subst hq; rfl) | (rcases hq with rfl | rfl | rfl | rfl | rfl | rfl | rfl | rfl <;> rfl) | (rcases hq with rfl | rfl | rfl | rfl | rfl | rfl | rfl <;> rfl) | (rcases hq with rfl | rfl | rfl | rfl | rfl | rfl <;> rfl) | (rcases hq with rfl | rfl | rfl | rfl | rfl <;> rfl) | (rcases hq with rfl | rfl | rfl | rfl <;> rfl) | (rcases hq with rfl | rfl | rfl <;> rfl) | (rcases hq with rfl | rfl <;> rfl))) (by rfl) ?_)
  refine gl_nil ?_
  repeat (first | refine g_seq ?_ | refine at_code ?_ | refine g_skip ?_ | refine g_block ?_ | refine g_exit rfl ?_ | refine g_cond_t rfl ?_ | refine g_cond_f rfl ?_)
  obtain ⟨pz, hpz⟩ : ∃ x, x = if prev < g.base then g.base else prev := ⟨_, rfl⟩
  obtain ⟨tz, htz⟩ : ∃ x, x = if prev < g.base then g.bt else term := ⟨_, rfl⟩
  obtain ⟨k0, hk0⟩ : ∃ x : Nat, x = if prev < g.base then min l.length (g.base - prev).toNat else 0 := ⟨_, rfl⟩
  obtain ⟨b, hbz⟩ : ∃ x, x = if prev < g.base then cutA lb ld k0 3 else lb := ⟨_, rfl⟩
  obtain ⟨m, hm⟩ : ∃ x, x = l.drop k0 := ⟨_, rfl⟩
  have hml : m.length = l.length - k0 := by rw [hm, List.length_drop]
  have hk0l : k0 ≤ l.length := by rw [hk0]; split <;> omega
  have hmrg : mrgL g prev term l = mrgB g pz tz m := by
    rw [mrgL, hpz, htz, hm, hk0]
    split
    · congr 1
      by_cases h5 : l.length ≤ (g.base - prev).toNat
      · rw [Nat.min_eq_left h5, List.drop_length, List.drop_of_length_le h5]
      · rw [Nat.min_eq_right (by omega)]
    · rfl
  have hrm : RdS F.heap b (enV m) := by
    rw [hbz, hm]
    split
    · exact cut_ents hrl hld k0 hk0l
    · rename_i h5; rw [hk0, if_neg h5]; exact hrl
  have hpz2 : g.base ≤ pz ∧ pz ≤ 18446744073709551615 := by rw [hpz]; split <;> omega
  rw [hmrg]
  refine g_pull (H' := [OwnL la g.l lc, OwnC ca g.conf cc, blkG g8 0 0 none 0 0 none 0 0, blkG g4 g.base g.bt ca g.conf.length cc la g.l.length lc]) (fun w hw => hw) ?_
  repeat (first | refine g_seq ?_ | refine at_code ?_ | refine g_skip ?_ | refine g_block ?_ | refine g_exit rfl ?_ | refine g_cond_t rfl ?_ | refine g_cond_f rfl ?_)
  refine g_region ?_
  refine gl_f (s_move rfl) rfl rfl rfl ?_
  refine gl_f (by first | exact s_fieldAddr rfl (by rfl) (by infer_instance) (by decide) | exact s_fieldAddr_o rfl (by assumption) (by rfl) (by infer_instance) (by decide)) rfl rfl rfl ?_
  refine gl_r (s_load_blk rfl (by repeat first|exact .del|apply Upd.there) (by rfl)) rfl rfl rfl ?_
  refine gl_f (s_lss rfl rfl) rfl rfl rfl ?_
  refine gl_nil ?_
  repeat (first | refine g_seq ?_ | refine at_code ?_ | refine g_skip ?_ | refine g_block ?_ | refine g_exit rfl ?_ | refine g_cond_t rfl ?_ | refine g_cond_f rfl ?_)
  refine g_cutK [(1, .int .u64 pz), (2, .int .u64 tz), (3, .slice b m.length (ld - k0)), (4, Ptr g4), (8, Ptr g8)] [OwnL la g.l lc, OwnC ca g.conf cc, blkG g8 0 0 none 0 0 none 0 0, blkG g4 g.base g.bt ca g.conf.length cc la g.l.length lc] ?_ ?_
  · refine g_cond rfl (fun h => ?_) (fun h => ?_)
    · have hlt : prev < g.base := of_decide_eq_true h
      have e1 : pz = g.base := by rw [hpz, if_pos hlt]
      have e2 : tz = g.bt := by rw [htz, if_pos hlt]
      have e3 : k0 = min l.length (g.base - prev).toNat := by rw [hk0, if_pos hlt]
      have e4 : b = cutA lb ld k0 3 := by rw [hbz, if_pos hlt]
      repeat (first | refine g_seq ?_ | refine at_code ?_ | refine g_skip ?_ | refine g_block ?_ | refine g_exit rfl ?_ | refine g_cond_t rfl ?_ | refine g_cond_f rfl ?_)
      refine g_region ?_
      refine gl_f (s_move rfl) rfl rfl rfl ?_
      refine gl_f (s_move rfl) rfl rfl rfl ?_
      refine gl_f (s_len_sl rfl) rfl rfl rfl ?_
      refine gl_f (s_conv_keep_u64 rfl (by omega)) rfl rfl rfl ?_
      refine gl_f (by first | exact s_fieldAddr rfl (by rfl) (by infer_instance) (by decide) | exact s_fieldAddr_o rfl (by assumption) (by rfl) (by infer_instance) (by decide)) rfl rfl rfl ?_
      refine gl_r (s_load_blk rfl (by repeat first|exact .del|apply Upd.there) (by rfl)) rfl rfl rfl ?_
      refine gl_f (s_move rfl) rfl rfl rfl ?_
      refine gl_f (s_sub_u64 rfl rfl (by omega)) rfl rfl rfl ?_
      refine gl_f ((s_min2 rfl rfl).eq (v' := .int .u64 (k0 : Nat)) (by congr 1; omega)) rfl rfl rfl ?_
      refine gl_f ((s_slice_sl rfl rfl rfl (by omega)).eq (v' := .slice b m.length (ld - k0)) (by rw [e4, hml]; rfl)) rfl rfl rfl ?_
      refine gl_f (s_assign rfl) rfl rfl rfl ?_
      refine gl_nil ?_
      repeat (first | refine g_seq ?_ | refine at_code ?_ | refine g_skip ?_ | refine g_block ?_ | refine g_exit rfl ?_ | refine g_cond_t rfl ?_ | refine g_cond_f rfl ?_)
      rw [e1, e2]
      repeat (first | refine g_seq ?_ | refine at_code ?_ | refine g_skip ?_ | refine g_block ?_ | refine g_exit rfl ?_ | refine g_cond_t rfl ?_ | refine g_cond_f rfl ?_)
      refine g_draw0 [1, 3] 6 rfl ?_
      refine ga_free 0 rfl (by first | exact s_fieldAddr rfl (by rfl) (by infer_instance) (by decide) | exact s_fieldAddr_o rfl (by assumption) (by rfl) (by infer_instance) (by decide)) rfl rfl rfl (by kernel_rfl) ?_
      refine ga_read 1 rfl (by repeat first|exact .del|apply Upd.there) (s_load_blk rfl .del (by rfl)) rfl rfl rfl (by kernel_rfl) ?_
      refine ga_free 2 rfl (by first | exact s_fieldAddr rfl (by rfl) (by infer_instance) (by decide) | exact s_fieldAddr_o rfl (by assumption) (by rfl) (by infer_instance) (by decide)) rfl rfl rfl (by kernel_rfl) ?_
      refine ga_read 3 rfl (by repeat first|exact .del|apply Upd.there) (s_load_blk rfl .del (by rfl)) rfl rfl rfl (by kernel_rfl) ?_
      refine ga_free 4 rfl (s_assign rfl) rfl rfl rfl (by kernel_rfl) ?_
      refine ga_free 5 rfl (s_assign rfl) rfl rfl rfl (by kernel_rfl) ?_
      refine ga_done (by kernel_rfl) ?_
      repeat (first | refine g_seq ?_ | refine at_code ?_ | refine g_skip ?_ | refine g_block ?_ | refine g_exit rfl ?_ | refine g_cond_t rfl ?_ | refine g_cond_f rfl ?_)
      exact at_cut (by (repeat (first | exact Sub.nil _ | refine Sub.cons rfl ?_))) (fun w hw => hw)
    · have hlt : ¬ prev < g.base := of_decide_eq_false h
      have e1 : pz = prev := by rw [hpz, if_neg hlt]
      have e2 : tz = term := by rw [htz, if_neg hlt]
      have e3 : k0 = 0 := by rw [hk0, if_neg hlt]
      have e4 : b = lb := by rw [hbz, if_neg hlt]
      have e5 : m.length = l.length := by omega
      have e6 : ld - k0 = ld := by omega
      rw [e1, e2, e4, e5, e6]
      repeat (first | refine g_seq ?_ | refine at_code ?_ | refine g_skip ?_ | refine g_block ?_ | refine g_exit rfl ?_ | refine g_cond_t rfl ?_ | refine g_cond_f rfl ?_)
      exact at_cut (by (repeat (first | exact Sub.nil _ | refine Sub.cons rfl ?_))) (fun w hw => hw)
  · repeat (first | refine g_seq ?_ | refine at_code ?_ | refine g_skip ?_ | refine g_block ?_ | refine g_exit rfl ?_ | refine g_cond_t rfl ?_ | refine g_cond_f rfl ?_)
    refine g_ownN .del (fun _ hcap _ => ?_)
    have hf1 : (⟨g.base, g.bt, g.conf, g.l, ca, cc, la, lc⟩ : LM).fit := ⟨h1, h2, h3, h3c, hcap⟩
    have ht1 : ∀ i, termV (⟨g.base, g.bt, g.conf, g.l, ca, cc, la, lc⟩ : LM) i = termV g i := fun i => rfl
    have hh1 : ∀ i, hasL (⟨g.base, g.bt, g.conf, g.l, ca, cc, la, lc⟩ : LM) i = hasL g i := fun i => rfl
    repeat (first | refine g_seq ?_ | refine at_code ?_ | refine g_skip ?_ | refine g_block ?_ | refine g_exit rfl ?_ | refine g_cond_t rfl ?_ | refine g_cond_f rfl ?_)
    repeat (first | refine g_seq ?_ | refine at_code ?_ | refine g_skip ?_ | refine g_block ?_ | refine g_exit rfl ?_ | refine g_cond_t rfl ?_ | refine g_cond_f rfl ?_)
    refine g_region ?_
    refine gl_r (by first | exact s_load_blkW rfl (by repeat first|exact .del|apply Upd.there) (by rfl) | exact s_load_blkN rfl (by repeat first|exact .del|apply Upd.there) (by rfl)) rfl rfl rfl ?_
    refine gl_f (s_move rfl) rfl rfl rfl ?_
    refine gl_callp rfl (Term_ct ⟨g.base, g.bt, g.conf, g.l, ca, cc, la, lc⟩ pz hf1 (by omega)) (fun h hh ⟨bs, hb⟩ => Sat.rd (a := la) hb (by repeat first|exact .del|apply Upd.there)) rfl ?_; rw [ht1, hh1]
    refine gl_f (s_move rfl) rfl rfl rfl ?_
    refine gl_f (s_extract rfl rfl) rfl rfl rfl ?_
    refine gl_f (s_extract rfl rfl) rfl rfl rfl ?_
    refine gl_f (s_assign rfl) rfl rfl rfl ?_
    refine gl_f (s_assign rfl) rfl rfl rfl ?_
    refine gl_nil ?_
    repeat (first | refine g_seq ?_ | refine at_code ?_ | refine g_skip ?_ | refine g_block ?_ | refine g_exit rfl ?_ | refine g_cond_t rfl ?_ | refine g_cond_f rfl ?_)
    obtain ⟨q1, hq1⟩ : ∃ q, q = hasL g pz := ⟨_, rfl⟩
    obtain ⟨q2, hq2⟩ : ∃ q, q = decide (termV g pz = tz) := ⟨_, rfl⟩
    rw [← hq1]
    refine g_cutK [(1, .int .u64 pz), (3, .slice b m.length (ld - k0)), (4, Ptr g4), (8, Ptr g8), (50, .bool (!(q1 && q2)))] [OwnL la g.l lc, OwnC ca g.conf cc, blkG g8 0 0 none 0 0 none 0 0, blkG g4 g.base g.bt ca g.conf.length cc la g.l.length lc] ?_ ?_
    · cases q1
      all_goals (
        repeat (first | refine g_seq ?_ | refine at_code ?_ | refine g_skip ?_ | refine g_block ?_ | refine g_exit rfl ?_ | refine g_cond_t rfl ?_ | refine g_cond_f rfl ?_)
        refine g_region ?_
        refine gl_f (s_move rfl) rfl rfl rfl ?_
        refine gl_f (s_not rfl) rfl rfl rfl ?_
        refine gl_f (s_move rfl) rfl rfl rfl ?_
        (first | refine gl_guard_no rfl rfl rfl rfl rfl rfl rfl ?_ | refine gl_guard_un rfl rfl rfl rfl rfl rfl ?_ | (refine gl_guard_yes rfl rfl rfl ?_; refine gl_f (s_move rfl) rfl rfl rfl ?_))
        (first | refine gl_guard_no rfl rfl rfl rfl rfl rfl rfl ?_ | refine gl_guard_un rfl rfl rfl rfl rfl rfl ?_ | (refine gl_guard_yes rfl rfl rfl ?_; refine gl_f (s_move rfl) rfl rfl rfl ?_))
        (first | refine gl_guard_no rfl rfl rfl rfl rfl rfl rfl ?_ | refine gl_guard_un rfl rfl rfl rfl rfl rfl ?_ | (refine gl_guard_yes rfl rfl rfl ?_; refine gl_f ((s_neq rfl rfl).eq (congrArg (fun q => Value.bool (!q)) hq2.symm)) rfl rfl rfl ?_))
        refine gl_f (by first | exact s_pick_t rfl rfl | exact s_pick_f rfl rfl) rfl rfl rfl ?_
        refine gl_nil ?_
        repeat (first | refine g_seq ?_ | refine at_code ?_ | refine g_skip ?_ | refine g_block ?_ | refine g_exit rfl ?_ | refine g_cond_t rfl ?_ | refine g_cond_f rfl ?_))
      all_goals exact at_cut (by (repeat (first | exact Sub.nil _ | refine Sub.cons rfl ?_))) (fun w hw => hw)
    · repeat (first | refine g_seq ?_ | refine at_code ?_ | refine g_skip ?_ | refine g_block ?_ | refine g_exit rfl ?_ | refine g_cond_t rfl ?_ | refine g_cond_f rfl ?_)
      refine g_cond rfl (fun h => ?_) (fun h => ?_)
      · have e : mrgB g pz tz m = ⟨g.l, 0, false⟩ := by rw [mrgB, if_pos (by rw [← hq1, ← hq2]; cases q1 <;> cases q2 <;> first | rfl | cases h)]
        rw [e]
        repeat (first | refine g_seq ?_ | refine at_code ?_ | refine g_skip ?_ | refine g_block ?_ | refine g_exit rfl ?_ | refine g_cond_t rfl ?_ | refine g_cond_f rfl ?_)
        refine g_region ?_
        refine gl_r (by first | exact s_load_blkW rfl (by repeat first|exact .del|apply Upd.there) (by rfl) | exact s_load_blkN rfl (by repeat first|exact .del|apply Upd.there) (by rfl)) rfl rfl rfl ?_
        (first | refine gl_store_blkW rfl rfl (by repeat first|exact .here|apply Upd.there) (by rfl) (by rfl) (by (intro q hq; simp [Value.cells] at hq; first | (subst hq; rfl) | (rcases hq with rfl | rfl | rfl | rfl | rfl | rfl | rfl | rfl <;> rfl) | (rcases hq with rfl | rfl | rfl | rfl | rfl | rfl | rfl <;> rfl) | (rcases hq with rfl | rfl | rfl | rfl | rfl | rfl <;> rfl) | (rcases hq with rfl | rfl | rfl | rfl | rfl <;> rfl) | (rcases hq with rfl | rfl | rfl | rfl <;> rfl) | (rcases hq with rfl | rfl | rfl <;> rfl) | (rcases hq with rfl | rfl <;> rfl))) ?_ | refine gl_store_blk rfl rfl (by repeat first|exact .here|apply Upd.there) (by rfl) (by (intro q hq; simp [Value.cells] at hq; first | (subst hq; rfl) | (rcases hq with rfl | rfl | rfl | rfl | rfl | rfl | rfl | rfl <;> rfl) | (rcases hq with rfl | rfl | rfl | rfl | rfl | rfl | rfl <;> rfl) | (rcases hq with rfl | rfl | rfl | rfl | rfl | rfl <;> rfl) | (rcases hq with rfl | rfl | rfl | rfl | rfl <;> rfl) | (rcases hq with rfl | rfl | rfl | rfl <;> rfl) | (rcases hq with rfl | rfl | rfl <;> rfl) | (rcases hq with rfl | rfl <;> rfl))) (by rfl) ?_)
        refine gl_f (s_assign rfl) rfl rfl rfl ?_
        refine gl_f (s_assign rfl) rfl rfl rfl ?_
        refine gl_nil ?_
        repeat (first | refine g_seq ?_ | refine at_code ?_ | refine g_skip ?_ | refine g_block ?_ | refine g_exit rfl ?_ | refine g_cond_t rfl ?_ | refine g_cond_f rfl ?_)
        refine g_ret ?_
        exact at_endB2 rfl rfl rfl rfl (by repeat first|exact .del|apply Upd.there) rfl _ ⟨ca, cc, la, lc, rfl, rfl⟩ (fun w hw => Hp.left (A := OwnG ⟨g.base, g.bt, g.conf, g.l, ca, cc, la, lc⟩) (R := [_, _]) hw)
      · have hok : (hasL g pz && decide (termV g pz = tz)) = true := by rw [← hq1, ← hq2]; cases q1 <;> cases q2 <;> first | rfl | cases h
        have hhp : hasL g pz = true := by rw [Bool.and_eq_true] at hok; exact hok.1
        simp only [hasL, Bool.and_eq_true, decide_eq_true_eq] at hhp
        clear hq1 hq2 h
        repeat (first | refine g_seq ?_ | refine at_code ?_ | refine g_skip ?_ | refine g_block ?_ | refine g_exit rfl ?_ | refine g_cond_t rfl ?_ | refine g_cond_f rfl ?_)
        repeat (first | refine g_seq ?_ | refine at_code ?_ | refine g_skip ?_ | refine g_block ?_ | refine g_exit rfl ?_ | refine g_cond_t rfl ?_ | refine g_cond_f rfl ?_)
        refine g_region ?_
        refine gl_f (s_move rfl) rfl rfl rfl ?_
        refine gl_f (s_len_sl rfl) rfl rfl rfl ?_
        refine gl_f (s_move rfl) rfl rfl rfl ?_
        refine gl_nil ?_
        repeat (first | refine g_seq ?_ | refine at_code ?_ | refine g_skip ?_ | refine g_block ?_ | refine g_exit rfl ?_ | refine g_cond_t rfl ?_ | refine g_cond_f rfl ?_)
        refine g_loop (ι := Nat) (fun k => k ≤ m.length ∧ ∀ j, j < k → same g pz m j = true) (fun k => [(1, .int .u64 pz), (3, .slice b m.length (ld - k0)), (4, Ptr g4), (8, Ptr g8), (52, .slice b m.length (ld - k0)), (53, .int .i64 (m.length : Nat)), (54, .int .i64 (k : Nat))]) (fun k => [OwnL la g.l lc, OwnC ca g.conf cc, blkG g8 0 0 none 0 0 none 0 0, blkG g4 g.base g.bt ca g.conf.length cc la g.l.length lc]) (fun k => m.length - k) 0 ⟨by omega, fun j hj => absurd hj (by omega)⟩ ?_ ?_ ?_
        · (repeat (first | exact Sub.nil _ | refine Sub.cons rfl ?_))
        · intro w hw; exact hw
        · rintro k ⟨hk, hall⟩
          repeat (first | refine g_seq ?_ | refine at_code ?_ | refine g_skip ?_ | refine g_block ?_ | refine g_exit rfl ?_ | refine g_cond_t rfl ?_ | refine g_cond_f rfl ?_)
          refine g_region ?_
          refine gl_f (s_lss rfl rfl) rfl rfl rfl ?_
          refine gl_nil ?_
          repeat (first | refine g_seq ?_ | refine at_code ?_ | refine g_skip ?_ | refine g_block ?_ | refine g_exit rfl ?_ | refine g_cond_t rfl ?_ | refine g_cond_f rfl ?_)
          refine g_cond rfl (fun h => ?_) (fun h => ?_)
          · have hk' : k < m.length := by simp at h; omega
            have hsome := rdE_some hrm hk'
            have hj : (pz - g.base).toNat + k ≤ g.l.length := by
              by_cases hk1 : k = 0
              · omega
              · have h5 := hall (k - 1) (by omega)
                simp only [same, hasL, Bool.and_eq_true, decide_eq_true_eq] at h5
                omega
            obtain ⟨q, hq⟩ : ∃ q, q = hasL g (pz + 1 + (k : Int)) := ⟨_, rfl⟩
            obtain ⟨q3, hq3⟩ : ∃ q, q = decide (termV g (pz + 1 + (k : Int)) = (m.getD k E0).1) := ⟨_, rfl⟩
            have hsm : same g pz m k = (q && q3) := by rw [same, hq, hq3]
            repeat (first | refine g_seq ?_ | refine at_code ?_ | refine g_skip ?_ | refine g_block ?_ | refine g_exit rfl ?_ | refine g_cond_t rfl ?_ | refine g_cond_f rfl ?_)
            refine g_region ?_
            refine gl_f (s_move rfl) rfl rfl rfl ?_
            refine gl_f (s_indexAddr rfl (by assumption) rfl (by omega)) rfl rfl rfl ?_
            refine gl_r (s_loadN rfl (fun w hw => rdE hw hrm (i := k) (by omega) hk') rfl) rfl rfl rfl ?_
            refine gl_allocA rfl ?_; intro g14
            refine gl_f (s_assign rfl) rfl rfl rfl ?_
            (first | refine gl_store_blkW rfl rfl (by repeat first|exact .here|apply Upd.there) (by rfl) (by rfl) (by (intro q hq; simp [Value.cells] at hq; first | (subst hq; rfl) | (rcases hq with rfl | rfl | rfl | rfl | rfl | rfl | rfl | rfl <;> rfl) | (rcases hq with rfl | rfl | rfl | rfl | rfl | rfl | rfl <;> rfl) | (rcases hq with rfl | rfl | rfl | rfl | rfl | rfl <;> rfl) | (rcases hq with rfl | rfl | rfl | rfl | rfl <;> rfl) | (rcases hq with rfl | rfl | rfl | rfl <;> rfl) | (rcases hq with rfl | rfl | rfl <;> rfl) | (rcases hq with rfl | rfl <;> rfl))) ?_ | refine gl_store_blk rfl rfl (by repeat first|exact .here|apply Upd.there) (by rfl) (by (intro q hq; simp [Value.cells] at hq; first | (subst hq; rfl) | (rcases hq with rfl | rfl | rfl | rfl | rfl | rfl | rfl | rfl <;> rfl) | (rcases hq with rfl | rfl | rfl | rfl | rfl | rfl | rfl <;> rfl) | (rcases hq with rfl | rfl | rfl | rfl | rfl | rfl <;> rfl) | (rcases hq with rfl | rfl | rfl | rfl | rfl <;> rfl) | (rcases hq with rfl | rfl | rfl | rfl <;> rfl) | (rcases hq with rfl | rfl | rfl <;> rfl) | (rcases hq with rfl | rfl <;> rfl))) (by rfl) ?_)
            refine gl_nil ?_
            repeat (first | refine g_seq ?_ | refine at_code ?_ | refine g_skip ?_ | refine g_block ?_ | refine g_exit rfl ?_ | refine g_cond_t rfl ?_ | refine g_cond_f rfl ?_)
            repeat (first | refine g_seq ?_ | refine at_code ?_ | refine g_skip ?_ | refine g_block ?_ | refine g_exit rfl ?_ | refine g_cond_t rfl ?_ | refine g_cond_f rfl ?_)
            refine g_region ?_
            refine gl_f (s_move rfl) rfl rfl rfl ?_
            refine gl_f (s_add_u64 rfl rfl (by omega)) rfl rfl rfl ?_
            refine gl_f (s_move rfl) rfl rfl rfl ?_
            refine gl_f (s_conv_keep_u64 rfl (by omega)) rfl rfl rfl ?_
            refine gl_f (s_add_u64 rfl rfl (by omega)) rfl rfl rfl ?_
            refine gl_f (s_assign rfl) rfl rfl rfl ?_
            refine gl_nil ?_
            repeat (first | refine g_seq ?_ | refine at_code ?_ | refine g_skip ?_ | refine g_block ?_ | refine g_exit rfl ?_ | refine g_cond_t rfl ?_ | refine g_cond_f rfl ?_)
            refine g_region ?_
            refine gl_r (by first | exact s_load_blkW rfl (by repeat first|exact .del|apply Upd.there) (by rfl) | exact s_load_blkN rfl (by repeat first|exact .del|apply Upd.there) (by rfl)) rfl rfl rfl ?_
            refine gl_f (s_move rfl) rfl rfl rfl ?_
            refine gl_callp rfl (Term_ct ⟨g.base, g.bt, g.conf, g.l, ca, cc, la, lc⟩ (pz + 1 + (k : Int)) hf1 (by omega)) (fun h hh ⟨bs, hb⟩ => Sat.rd (a := la) hb (by repeat first|exact .del|apply Upd.there)) rfl ?_; rw [ht1, hh1, ← hq]
            refine gl_f (s_move rfl) rfl rfl rfl ?_
            refine gl_f (s_extract rfl rfl) rfl rfl rfl ?_
            refine gl_f (s_extract rfl rfl) rfl rfl rfl ?_
            refine gl_f (s_assign rfl) rfl rfl rfl ?_
            refine gl_f (s_assign rfl) rfl rfl rfl ?_
            refine gl_nil ?_
            repeat (first | refine g_seq ?_ | refine at_code ?_ | refine g_skip ?_ | refine g_block ?_ | refine g_exit rfl ?_ | refine g_cond_t rfl ?_ | refine g_cond_f rfl ?_)
            refine g_cutK [(1, .int .u64 pz), (3, .slice b m.length (ld - k0)), (4, Ptr g4), (8, Ptr g8), (13, .int .i64 (k : Nat)), (15, .int .u64 (pz + 1 + (k : Int))), (52, .slice b m.length (ld - k0)), (53, .int .i64 (m.length : Nat)), (54, .int .i64 (k : Nat)), (76, .bool (q && q3))] [OwnL la g.l lc, OwnC ca g.conf cc, blkG g8 0 0 none 0 0 none 0 0, blkG g4 g.base g.bt ca g.conf.length cc la g.l.length lc] ?_ ?_
            · cases q
              all_goals (
                repeat (first | refine g_seq ?_ | refine at_code ?_ | refine g_skip ?_ | refine g_block ?_ | refine g_exit rfl ?_ | refine g_cond_t rfl ?_ | refine g_cond_f rfl ?_)
                refine g_region ?_
                refine gl_f (s_move rfl) rfl rfl rfl ?_
                refine gl_f (s_move rfl) rfl rfl rfl ?_
                (first | refine gl_guard_no rfl rfl rfl rfl rfl rfl rfl ?_ | refine gl_guard_un rfl rfl rfl rfl rfl rfl ?_ | (refine gl_guard_yes rfl rfl rfl ?_; refine gl_f (s_move rfl) rfl rfl rfl ?_))
                (first | refine gl_guard_no rfl rfl rfl rfl rfl rfl rfl ?_ | refine gl_guard_un rfl rfl rfl rfl rfl rfl ?_ | (refine gl_guard_yes rfl rfl rfl ?_; refine gl_f (by first | exact s_fieldAddr rfl (by rfl) (by infer_instance) (by decide) | exact s_fieldAddr_o rfl (by assumption) (by rfl) (by infer_instance) (by decide)) rfl rfl rfl ?_))
                (first | refine gl_guard_no rfl rfl rfl rfl rfl rfl rfl ?_ | refine gl_guard_un rfl rfl rfl rfl rfl rfl ?_ | (refine gl_guard_yes rfl rfl rfl ?_; refine gl_r (s_load_blk rfl (by repeat first|exact .del|apply Upd.there) (by rfl)) rfl rfl rfl ?_))
                (first | refine gl_guard_no rfl rfl rfl rfl rfl rfl rfl ?_ | refine gl_guard_un rfl rfl rfl rfl rfl rfl ?_ | (refine gl_guard_yes rfl rfl rfl ?_; refine gl_f ((s_eql rfl rfl).eq (congrArg Value.bool hq3.symm)) rfl rfl rfl ?_))
                refine gl_f (by first | exact s_pick_t rfl rfl | exact s_pick_f rfl rfl) rfl rfl rfl ?_
                refine gl_nil ?_
                repeat (first | refine g_seq ?_ | refine at_code ?_ | refine g_skip ?_ | refine g_block ?_ | refine g_exit rfl ?_ | refine g_cond_t rfl ?_ | refine g_cond_f rfl ?_))
              all_goals exact at_cut (by (repeat (first | exact Sub.nil _ | refine Sub.cons rfl ?_))) (fun w hw => hw.drop)
            · repeat (first | refine g_seq ?_ | refine at_code ?_ | refine g_skip ?_ | refine g_block ?_ | refine g_exit rfl ?_ | refine g_cond_t rfl ?_ | refine g_cond_f rfl ?_)
              refine g_cond rfl (fun h2 => ?_) (fun h2 => ?_)
              · repeat (first | refine g_seq ?_ | refine at_code ?_ | refine g_skip ?_ | refine g_block ?_ | refine g_exit rfl ?_ | refine g_cond_t rfl ?_ | refine g_cond_f rfl ?_)
                repeat (first | refine g_seq ?_ | refine at_code ?_ | refine g_skip ?_ | refine g_block ?_ | refine g_exit rfl ?_ | refine g_cond_t rfl ?_ | refine g_cond_f rfl ?_)
                refine g_region ?_
                refine gl_f (s_add_i64 rfl rfl (by omega)) rfl rfl rfl ?_
                refine gl_f (s_move rfl) rfl rfl rfl ?_
                refine gl_nil ?_
                repeat (first | refine g_seq ?_ | refine at_code ?_ | refine g_skip ?_ | refine g_block ?_ | refine g_exit rfl ?_ | refine g_cond_t rfl ?_ | refine g_cond_f rfl ?_)
                refine at_next (k + 1) ⟨by omega, fun j hj => ?_⟩ (by omega) ?_ ?_
                · rcases Nat.lt_succ_iff_lt_or_eq.1 hj with h4 | rfl
                  · exact hall j h4
                  · rw [hsm, h2]
                · (repeat (first | exact Sub.nil _ | refine Sub.cons rfl ?_))
                · intro w hw; exact hw
              · have hss : same g pz m k = false := by rw [hsm, h2]
                have hfd := firstD_at hk' hall hss
                have e : mrgB g pz tz m = ⟨g.l.take ((pz - g.base).toNat + k) ++ m.drop k, pz + 1 + (k : Nat), true⟩ := by
                  rw [mrgB, if_neg (by rw [hok]; simp), hfd, if_neg (by omega)]
                rw [e]
                obtain ⟨j, hjj⟩ : ∃ j, j = (pz - g.base).toNat + k := ⟨_, rfl⟩
                rw [← hjj] at hj ⊢
                have hmd : (m.drop k).length = m.length - k := by rw [List.length_drop]
                have htl : (g.l.take j).length = j := by rw [List.length_take]; omega
                have hcutm := cut_ents hrm (c := ld - k0) (by omega) k (by omega)
                have el : (g.l.take j ++ m.drop k).length = j + (m.drop k).length := by rw [List.length_append, htl]
                repeat (first | refine g_seq ?_ | refine at_code ?_ | refine g_skip ?_ | refine g_block ?_ | refine g_exit rfl ?_ | refine g_cond_t rfl ?_ | refine g_cond_f rfl ?_)
                repeat (first | refine g_seq ?_ | refine at_code ?_ | refine g_skip ?_ | refine g_block ?_ | refine g_exit rfl ?_ | refine g_cond_t rfl ?_ | refine g_cond_f rfl ?_)
                refine g_draw [1, 4] [blkG g4 g.base g.bt ca g.conf.length cc la g.l.length lc] 14 rfl ?_
                refine ga_free 0 rfl (by first | exact s_fieldAddr rfl (by rfl) (by infer_instance) (by decide) | exact s_fieldAddr_o rfl (by assumption) (by rfl) (by infer_instance) (by decide)) rfl rfl rfl (by kernel_rfl) ?_
                refine ga_read_k 1 rfl (by first | exact .head _ | exact .tail _ (.head _) | exact .tail _ (.tail _ (.head _)) | exact .tail _ (.tail _ (.tail _ (.head _)))) (s_load_blk rfl .del (by rfl)) (by (first | exact fun _ h => h | (repeat first | exact sub_nil | refine sub_cons (by repeat first | exact List.Mem.head _ | apply List.Mem.tail) ?_))) rfl rfl rfl (by kernel_rfl) ?_
                refine ga_free 2 rfl (s_move rfl) rfl rfl rfl (by kernel_rfl) ?_
                refine ga_free 3 rfl (by first | exact s_fieldAddr rfl (by rfl) (by infer_instance) (by decide) | exact s_fieldAddr_o rfl (by assumption) (by rfl) (by infer_instance) (by decide)) rfl rfl rfl (by kernel_rfl) ?_
                refine ga_read_k 4 rfl (by first | exact .head _ | exact .tail _ (.head _) | exact .tail _ (.tail _ (.head _)) | exact .tail _ (.tail _ (.tail _ (.head _)))) (s_load_blk rfl .del (by rfl)) (by (first | exact fun _ h => h | (repeat first | exact sub_nil | refine sub_cons (by repeat first | exact List.Mem.head _ | apply List.Mem.tail) ?_))) rfl rfl rfl (by kernel_rfl) ?_
                refine ga_free 5 rfl (s_sub_u64 rfl rfl (by omega)) rfl rfl rfl (by kernel_rfl) ?_
                refine ga_free 6 rfl (s_sub_u64 rfl rfl (by omega)) rfl rfl rfl (by kernel_rfl) ?_
                refine ga_free 7 rfl ((s_slice_sl rfl rfl rfl (by omega)).eq (v' := .slice la j lc) (by rw [show (0 : Int).toNat = 0 from rfl, cutA_zero]; congr 1; omega)) rfl rfl rfl (by kernel_rfl) ?_
                refine ga_free 8 rfl (s_move rfl) rfl rfl rfl (by kernel_rfl) ?_
                refine ga_free 9 rfl (s_move rfl) rfl rfl rfl (by kernel_rfl) ?_
                refine ga_free 10 rfl ((s_slice_sl rfl rfl rfl (by omega)).eq (v' := .slice (cutA b (ld - k0) k 3) (m.drop k).length (ld - k0 - k)) (by rw [hmd]; rfl)) rfl rfl rfl (by kernel_rfl) ?_
                refine ga_one 11 rfl (by kernel_rfl) ?_
                refine gl_pull (H' := [.own (.slice la j lc) 65 3 ((enV g.l).take (j * 3)), OwnC ca g.conf cc, blkG g8 0 0 none 0 0 none 0 0, blkG g4 g.base g.bt ca g.conf.length cc la g.l.length lc]) (fun w hw => hw.cutOwn .here hj) ?_; rw [← enV_take]; refine gl_append rfl rfl (fun a' c' => .here) (fun w hw => hcutm.le hw.keep) (enV_length _) rfl rfl (enV_one _) (by show (_ + _) * 32 ≤ _; omega) (by omega) rfl ?_; intro a88 c88 hc88
                refine gl_nil ?_
                refine at_ga (.inr (by exact keeps_of (by (first | exact fun _ h => h | (repeat first | exact sub_nil | refine sub_cons (by repeat first | exact List.Mem.head _ | apply List.Mem.tail) ?_))))) ?_
                refine ga_free 12 rfl (by first | exact s_fieldAddr rfl (by rfl) (by infer_instance) (by decide) | exact s_fieldAddr_o rfl (by assumption) (by rfl) (by infer_instance) (by decide)) rfl rfl rfl (by kernel_rfl) ?_
                refine ga_one 13 rfl (by kernel_rfl) ?_
                (first | refine gl_store_blkC (pre := [_, _, _]) (post := []) rfl rfl (by repeat first|exact .here|apply Upd.there) (by rfl) (by rfl) (by rfl) ?_ | refine gl_store_blk rfl rfl (by repeat first|exact .here|apply Upd.there) (by rfl) (by (intro q hq; simp [Value.cells] at hq; first | (subst hq; rfl) | (rcases hq with rfl | rfl | rfl | rfl | rfl | rfl | rfl | rfl <;> rfl) | (rcases hq with rfl | rfl | rfl | rfl | rfl | rfl | rfl <;> rfl) | (rcases hq with rfl | rfl | rfl | rfl | rfl | rfl <;> rfl) | (rcases hq with rfl | rfl | rfl | rfl | rfl <;> rfl) | (rcases hq with rfl | rfl | rfl | rfl <;> rfl) | (rcases hq with rfl | rfl | rfl <;> rfl) | (rcases hq with rfl | rfl <;> rfl))) (by rfl) ?_)
                refine gl_nil ?_
                refine at_ga (.inl (by kernel_rfl)) ?_
                refine ga_done (by kernel_rfl) ?_
                repeat (first | refine g_seq ?_ | refine at_code ?_ | refine g_skip ?_ | refine g_block ?_ | refine g_exit rfl ?_ | refine g_cond_t rfl ?_ | refine g_cond_f rfl ?_)
                repeat (first | refine g_seq ?_ | refine at_code ?_ | refine g_skip ?_ | refine g_block ?_ | refine g_exit rfl ?_ | refine g_cond_t rfl ?_ | refine g_cond_f rfl ?_)
                refine g_region ?_
                refine gl_r (by first | exact s_load_blkW rfl (by repeat first|exact .del|apply Upd.there) (by rfl) | exact s_load_blkN rfl (by repeat first|exact .del|apply Upd.there) (by rfl)) rfl rfl rfl ?_
                refine gl_f (s_move rfl) rfl rfl rfl ?_
                (first | refine gl_store_blkW rfl rfl (by repeat first|exact .here|apply Upd.there) (by rfl) (by rfl) (by (intro q hq; simp [Value.cells] at hq; first | (subst hq; rfl) | (rcases hq with rfl | rfl | rfl | rfl | rfl | rfl | rfl | rfl <;> rfl) | (rcases hq with rfl | rfl | rfl | rfl | rfl | rfl | rfl <;> rfl) | (rcases hq with rfl | rfl | rfl | rfl | rfl | rfl <;> rfl) | (rcases hq with rfl | rfl | rfl | rfl | rfl <;> rfl) | (rcases hq with rfl | rfl | rfl | rfl <;> rfl) | (rcases hq with rfl | rfl | rfl <;> rfl) | (rcases hq with rfl | rfl <;> rfl))) ?_ | refine gl_store_blk rfl rfl (by repeat first|exact .here|apply Upd.there) (by rfl) (by (intro q hq; simp [Value.cells] at hq; first | (subst hq; rfl) | (rcases hq with rfl | rfl | rfl | rfl | rfl | rfl | rfl | rfl <;> rfl) | (rcases hq with rfl | rfl | rfl | rfl | rfl | rfl | rfl <;> rfl) | (rcases hq with rfl | rfl | rfl | rfl | rfl | rfl <;> rfl) | (rcases hq with rfl | rfl | rfl | rfl | rfl <;> rfl) | (rcases hq with rfl | rfl | rfl | rfl <;> rfl) | (rcases hq with rfl | rfl | rfl <;> rfl) | (rcases hq with rfl | rfl <;> rfl))) (by rfl) ?_)
                refine gl_f (s_assign rfl) rfl rfl rfl ?_
                refine gl_f (s_assign rfl) rfl rfl rfl ?_
                refine gl_nil ?_
                repeat (first | refine g_seq ?_ | refine at_code ?_ | refine g_skip ?_ | refine g_block ?_ | refine g_exit rfl ?_ | refine g_cond_t rfl ?_ | refine g_cond_f rfl ?_)
                refine g_ret ?_
                rw [← enV_append]
                exact at_endB2 rfl rfl rfl rfl (by repeat first|exact .del|apply Upd.there) rfl _ ⟨ca, cc, a88, c88, by rw [← el]; rfl, rfl⟩ (fun w hw => by rw [← el] at hw; exact Hp.left (A := OwnG ⟨g.base, g.bt, g.conf, g.l.take j ++ m.drop k, ca, cc, a88, c88⟩) (R := [_, _]) hw)
          · have hkl : k = m.length := by simp at h; omega
            subst hkl
            have e : mrgB g pz tz m = ⟨g.l, 0, true⟩ := by
              rw [mrgB, if_neg (by rw [hok]; simp), if_pos (firstD_end hall)]
            rw [e]
            repeat (first | refine g_seq ?_ | refine at_code ?_ | refine g_skip ?_ | refine g_block ?_ | refine g_exit rfl ?_ | refine g_cond_t rfl ?_ | refine g_cond_f rfl ?_)
            repeat (first | refine g_seq ?_ | refine at_code ?_ | refine g_skip ?_ | refine g_block ?_ | refine g_exit rfl ?_ | refine g_cond_t rfl ?_ | refine g_cond_f rfl ?_)
            refine g_region ?_
            refine gl_r (by first | exact s_load_blkW rfl (by repeat first|exact .del|apply Upd.there) (by rfl) | exact s_load_blkN rfl (by repeat first|exact .del|apply Upd.there) (by rfl)) rfl rfl rfl ?_
            (first | refine gl_store_blkW rfl rfl (by repeat first|exact .here|apply Upd.there) (by rfl) (by rfl) (by (intro q hq; simp [Value.cells] at hq; first | (subst hq; rfl) | (rcases hq with rfl | rfl | rfl | rfl | rfl | rfl | rfl | rfl <;> rfl) | (rcases hq with rfl | rfl | rfl | rfl | rfl | rfl | rfl <;> rfl) | (rcases hq with rfl | rfl | rfl | rfl | rfl | rfl <;> rfl) | (rcases hq with rfl | rfl | rfl | rfl | rfl <;> rfl) | (rcases hq with rfl | rfl | rfl | rfl <;> rfl) | (rcases hq with rfl | rfl | rfl <;> rfl) | (rcases hq with rfl | rfl <;> rfl))) ?_ | refine gl_store_blk rfl rfl (by repeat first|exact .here|apply Upd.there) (by rfl) (by (intro q hq; simp [Value.cells] at hq; first | (subst hq; rfl) | (rcases hq with rfl | rfl | rfl | rfl | rfl | rfl | rfl | rfl <;> rfl) | (rcases hq with rfl | rfl | rfl | rfl | rfl | rfl | rfl <;> rfl) | (rcases hq with rfl | rfl | rfl | rfl | rfl | rfl <;> rfl) | (rcases hq with rfl | rfl | rfl | rfl | rfl <;> rfl) | (rcases hq with rfl | rfl | rfl | rfl <;> rfl) | (rcases hq with rfl | rfl | rfl <;> rfl) | (rcases hq with rfl | rfl <;> rfl))) (by rfl) ?_)
            refine gl_f (s_assign rfl) rfl rfl rfl ?_
            refine gl_f (s_assign rfl) rfl rfl rfl ?_
            refine gl_nil ?_
            repeat (first | refine g_seq ?_ | refine at_code ?_ | refine g_skip ?_ | refine g_block ?_ | refine g_exit rfl ?_ | refine g_cond_t rfl ?_ | refine g_cond_f rfl ?_)
            refine g_ret ?_
            exact at_endB2 rfl rfl rfl rfl (by repeat first|exact .del|apply Upd.there) rfl _ ⟨ca, cc, la, lc, rfl, rfl⟩ (fun w hw => Hp.left (A := OwnG ⟨g.base, g.bt, g.conf, g.l, ca, cc, la, lc⟩) (R := [_, _]) hw)
end Go.Proofs.Ytodcghipfolejaa
