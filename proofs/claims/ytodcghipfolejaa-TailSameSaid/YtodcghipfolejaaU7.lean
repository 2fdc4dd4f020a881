/- The walks over logs: the reference's Conf and Compact; sorted. -/
import Derived.Test.YtodcghipfolejaaU6
namespace Go.Proofs.Ytodcghipfolejaa
open Go Go.Sl
set_option linter.unusedVariables false
set_option linter.unusedSimpArgs false

theorem readE_ok (s : List UInt8) : decide (readE s = 0) = okR s := by
  unfold readE; cases okR s <;> rfl
theorem conf_no {g : LM} {to : Int} {k : Nat} (h : ¬ g.base + 1 + (k : Int) ≤ to) : min (k + 1) (to - g.base).toNat = min k (to - g.base).toNat := by omega
theorem conf_yes {g : LM} {to : Int} {k : Nat} (h : g.base + 1 + (k : Int) ≤ to) : min (k + 1) (to - g.base).toNat = k + 1 ∧ min k (to - g.base).toNat = k := by omega
/-- members, and where that is said: the list that was handed in, or one of the call's own -/
def ConfP (g : LM) (r : List Int × Int) (v : Value) (A : List As) : Prop := ∃ a c, v = .tuple #[.slice a r.1.length c, .int .u64 r.2] ∧ ((r.1 = g.conf ∧ a = g.ca ∧ c = g.cc ∧ A = []) ∨ A = [OwnC a r.1 c])
def ownIf (own : Bool) (a : Option Addr) (l : List Int) (c : Nat) : List As := bif own then [OwnC a l c] else []
set_option maxRecDepth 4000 in
set_option maxHeartbeats 4000000 in
theorem rConf_ct (g : LM) (to : Int) (hf : g.fit) (hdat : ∀ i, i < g.l.length → (g.l.getD i E0).2.2.length ≤ 1000000000000) (hto : 0 ≤ to ∧ to ≤ 18446744073709551615) : Ct Try.prog 55 [g.v, .int .u64 to] (fun h => RdS h g.la (enV g.l)) [] (ConfP g (confAt g to)) := by
  have h1 := hf.lo
  have h2 := hf.hi
  have h3 := hf.len
  refine ct_enter 59 Try.func55 rfl rfl rfl ?_
  intro F hrd
  repeat (first | refine g_seq ?_ | refine at_code ?_ | refine g_skip ?_ | refine g_block ?_ | refine g_exit rfl ?_ | refine g_cond_t rfl ?_ | refine g_cond_f rfl ?_)
  refine g_region ?_
  refine gl_boxA rfl rfl ?_; intro g2
  refine gl_f (s_assign rfl) rfl rfl rfl ?_
  refine gl_f (s_assign rfl) rfl rfl rfl ?_
  refine gl_nil ?_
  repeat (first | refine g_seq ?_ | refine at_code ?_ | refine g_skip ?_ | refine g_block ?_ | refine g_exit rfl ?_ | refine g_cond_t rfl ?_ | refine g_cond_f rfl ?_)
  refine g_draw0 [1, 3] 6 rfl ?_
  refine ga_free 0 rfl (by first | exact s_fieldAddr rfl (by rfl) (by infer_instance) (by decide) | exact s_fieldAddr_o rfl (by assumption) (by rfl) (by infer_instance) (by decide)) rfl rfl rfl (by kernel_rfl) ?_
  refine ga_read 1 rfl (by repeat first|exact .del|apply Upd.there) (s_load_blk rfl .del (by rfl)) rfl rfl rfl (by kernel_rfl) ?_
  refine ga_free 2 rfl (by first | exact s_fieldAddr rfl (by rfl) (by infer_instance) (by decide) | exact s_fieldAddr_o rfl (by assumption) (by rfl) (by infer_instance) (by decide)) rfl rfl rfl (by kernel_rfl) ?_
  refine ga_read 3 rfl (by repeat first|exact .del|apply Upd.there) (s_load_blk rfl .del (by rfl)) rfl rfl rfl (by kernel_rfl) ?_
  refine ga_free 4 rfl (s_assign rfl) rfl rfl rfl (by kernel_rfl) ?_
  refine ga_free 5 rfl (s_assign rfl) rfl rfl rfl (by kernel_rfl) ?_
  refine ga_done (by kernel_rfl) ?_
  repeat (first | refine g_seq ?_ | refine at_code ?_ | refine g_skip ?_ | refine g_block ?_ | refine g_exit rfl ?_ | refine g_cond_t rfl ?_ | refine g_cond_f rfl ?_)
  refine g_region ?_
  refine gl_f (s_assign rfl) rfl rfl rfl ?_
  refine gl_nil ?_
  repeat (first | refine g_seq ?_ | refine at_code ?_ | refine g_skip ?_ | refine g_block ?_ | refine g_exit rfl ?_ | refine g_cond_t rfl ?_ | refine g_cond_f rfl ?_)
  refine g_loop (ι := Nat × (List Int × Int) × Option Addr × Nat × Bool) (fun i => i.1 ≤ g.l.length ∧ i.2.1 = confN g (min i.1 (to - g.base).toNat) ∧ (i.2.2.2.2 = false → i.2.1.1 = g.conf ∧ i.2.2.1 = g.ca ∧ i.2.2.2.1 = g.cc)) (fun i => [(1, .int .u64 to), (2, Ptr g2), (6, .slice i.2.2.1 i.2.1.1.length i.2.2.2.1), (7, .int .u64 i.2.1.2), (8, .int .i64 (i.1 : Nat))]) (fun i => blkG g2 g.base g.bt g.ca g.conf.length g.cc g.la g.l.length g.lc :: ownIf i.2.2.2.2 i.2.2.1 i.2.1.1 i.2.2.2.1) (fun i => g.l.length - i.1) (0, (g.conf, g.base), g.ca, g.cc, false) ⟨by simp, by simp [confN], fun _ => ⟨rfl, rfl, rfl⟩⟩ ?_ ?_ ?_
  · (repeat (first | exact Sub.nil _ | refine Sub.cons rfl ?_))
  · intro w hw; exact hw
  · rintro ⟨k, r, a, c, own⟩ ⟨hk, hr, hown⟩
    simp only at hk hr hown
    repeat (first | refine g_seq ?_ | refine at_code ?_ | refine g_skip ?_ | refine g_block ?_ | refine g_exit rfl ?_ | refine g_cond_t rfl ?_ | refine g_cond_f rfl ?_)
    refine g_region ?_
    refine gl_f (s_move rfl) rfl rfl rfl ?_
    refine gl_f (by first | exact s_fieldAddr rfl (by rfl) (by infer_instance) (by decide) | exact s_fieldAddr_o rfl (by assumption) (by rfl) (by infer_instance) (by decide)) rfl rfl rfl ?_
    refine gl_r (s_load_blk rfl (by repeat first|exact .del|apply Upd.there) (by rfl)) rfl rfl rfl ?_
    refine gl_f (s_len_sl rfl) rfl rfl rfl ?_
    refine gl_f (s_lss rfl rfl) rfl rfl rfl ?_
    refine gl_nil ?_
    repeat (first | refine g_seq ?_ | refine at_code ?_ | refine g_skip ?_ | refine g_block ?_ | refine g_exit rfl ?_ | refine g_cond_t rfl ?_ | refine g_cond_f rfl ?_)
    refine g_cond rfl (fun h => ?_) (fun h => ?_)
    · have hk' : k < g.l.length := by simp at h; omega
      have hsome := rdE_some hrd hk'
      obtain ⟨e, he⟩ : ∃ e, e = g.l.getD k E0 := ⟨_, rfl⟩
      have hed := hdat k hk'
      rw [← he] at hed
      repeat (first | refine g_seq ?_ | refine at_code ?_ | refine g_skip ?_ | refine g_block ?_ | refine g_exit rfl ?_ | refine g_cond_t rfl ?_ | refine g_cond_f rfl ?_)
      refine g_region ?_
      refine gl_f (by first | exact s_fieldAddr rfl (by rfl) (by infer_instance) (by decide) | exact s_fieldAddr_o rfl (by assumption) (by rfl) (by infer_instance) (by decide)) rfl rfl rfl ?_
      refine gl_r (s_load_blk rfl (by repeat first|exact .del|apply Upd.there) (by rfl)) rfl rfl rfl ?_
      refine gl_f (s_add_u64 rfl rfl (by omega)) rfl rfl rfl ?_
      refine gl_f (s_move rfl) rfl rfl rfl ?_
      refine gl_f (s_conv_keep_u64 rfl (by omega)) rfl rfl rfl ?_
      refine gl_f (s_add_u64 rfl rfl (by omega)) rfl rfl rfl ?_
      refine gl_f (s_assign rfl) rfl rfl rfl ?_
      refine gl_nil ?_
      repeat (first | refine g_seq ?_ | refine at_code ?_ | refine g_skip ?_ | refine g_block ?_ | refine g_exit rfl ?_ | refine g_cond_t rfl ?_ | refine g_cond_f rfl ?_)
      refine g_region ?_
      refine gl_f (by first | exact s_fieldAddr rfl (by rfl) (by infer_instance) (by decide) | exact s_fieldAddr_o rfl (by assumption) (by rfl) (by infer_instance) (by decide)) rfl rfl rfl ?_
      refine gl_r (s_load_blk rfl (by repeat first|exact .del|apply Upd.there) (by rfl)) rfl rfl rfl ?_
      refine gl_f (s_move rfl) rfl rfl rfl ?_
      refine gl_f (s_indexAddr rfl (by assumption) rfl (by omega)) rfl rfl rfl ?_
      refine gl_f (by first | exact s_fieldAddr rfl (by rfl) (by infer_instance) (by decide) | exact s_fieldAddr_o rfl (by assumption) (by rfl) (by infer_instance) (by decide)) rfl rfl rfl ?_
      refine gl_r ((s_load1 rfl (fun w hw => rdE2 hw hrd (i := k) (by omega) hk')).eq (congrArg (fun e : Ent => B e.2.2) he.symm)) rfl rfl rfl ?_
      refine gl_call _ rfl (rRead_ct e.2.2 hed) (fun w hw => hw) (fun _ _ _ => trivial) rfl ?_; rintro v A ⟨ra, rc, rfl, rfl⟩
      refine gl_f (s_move rfl) rfl rfl rfl ?_
      refine gl_f (s_extract rfl rfl) rfl rfl rfl ?_
      refine gl_f (s_extract rfl rfl) rfl rfl rfl ?_
      refine gl_f (s_assign rfl) rfl rfl rfl ?_
      refine gl_f (s_assign rfl) rfl rfl rfl ?_
      refine gl_nil ?_
      repeat (first | refine g_seq ?_ | refine at_code ?_ | refine g_skip ?_ | refine g_block ?_ | refine g_exit rfl ?_ | refine g_cond_t rfl ?_ | refine g_cond_f rfl ?_)
      obtain ⟨q1, hq1⟩ : ∃ q, q = decide (g.base + 1 + (k : Int) ≤ to) := ⟨_, rfl⟩
      obtain ⟨q2, hq2⟩ : ∃ q, q = decide (e.2.1 = 2) := ⟨_, rfl⟩
      obtain ⟨q3, hq3⟩ : ∃ q, q = okR e.2.2 := ⟨_, rfl⟩
      have hq3' : decide (readE e.2.2 = 0) = q3 := by rw [readE_ok, hq3]
      have hC : isC (g.l.getD k E0) = (q2 && q3) := by rw [← he, isC, hq2, hq3]
      refine g_cutK [(1, .int .u64 to), (2, Ptr g2), (6, .slice a r.1.length c), (7, .int .u64 r.2), (8, .int .i64 (k : Nat)), (9, .int .u64 (g.base + 1 + (k : Int))), (10, .slice ra (readL e.2.2).length rc), (54, .bool ((q1 && q2) && q3))] (OwnC ra (readL e.2.2) rc :: blkG g2 g.base g.bt g.ca g.conf.length g.cc g.la g.l.length g.lc :: ownIf own a r.1 c) ?_ ?_
      · cases q1 <;> cases q2
        all_goals (
          repeat (first | refine g_seq ?_ | refine at_code ?_ | refine g_skip ?_ | refine g_block ?_ | refine g_exit rfl ?_ | refine g_cond_t rfl ?_ | refine g_cond_f rfl ?_)
          refine g_region ?_
          refine gl_f (s_move rfl) rfl rfl rfl ?_
          refine gl_f (s_move rfl) rfl rfl rfl ?_
          refine gl_f ((s_leq rfl rfl).eq (congrArg Value.bool hq1.symm)) rfl rfl rfl ?_
          refine gl_f (s_move rfl) rfl rfl rfl ?_
          (first | refine gl_guard_no rfl rfl rfl rfl rfl rfl rfl ?_ | refine gl_guard_un rfl rfl rfl rfl rfl rfl ?_ | (refine gl_guard_yes rfl rfl rfl ?_; refine gl_f (by first | exact s_fieldAddr rfl (by rfl) (by infer_instance) (by decide) | exact s_fieldAddr_o rfl (by assumption) (by rfl) (by infer_instance) (by decide)) rfl rfl rfl ?_))
          (first | refine gl_guard_no rfl rfl rfl rfl rfl rfl rfl ?_ | refine gl_guard_un rfl rfl rfl rfl rfl rfl ?_ | (refine gl_guard_yes rfl rfl rfl ?_; refine gl_r (s_load_blk rfl (by repeat first|exact .del|apply Upd.there) (by rfl)) rfl rfl rfl ?_))
          (first | refine gl_guard_no rfl rfl rfl rfl rfl rfl rfl ?_ | refine gl_guard_un rfl rfl rfl rfl rfl rfl ?_ | (refine gl_guard_yes rfl rfl rfl ?_; refine gl_f (s_move rfl) rfl rfl rfl ?_))
          (first | refine gl_guard_no rfl rfl rfl rfl rfl rfl rfl ?_ | refine gl_guard_un rfl rfl rfl rfl rfl rfl ?_ | (refine gl_guard_yes rfl rfl rfl ?_; refine gl_f (s_indexAddr rfl (by assumption) rfl (by omega)) rfl rfl rfl ?_))
          (first | refine gl_guard_no rfl rfl rfl rfl rfl rfl rfl ?_ | refine gl_guard_un rfl rfl rfl rfl rfl rfl ?_ | (refine gl_guard_yes rfl rfl rfl ?_; refine gl_f (by first | exact s_fieldAddr rfl (by rfl) (by infer_instance) (by decide) | exact s_fieldAddr_o rfl (by assumption) (by rfl) (by infer_instance) (by decide)) rfl rfl rfl ?_))
          (first | refine gl_guard_no rfl rfl rfl rfl rfl rfl rfl ?_ | refine gl_guard_un rfl rfl rfl rfl rfl rfl ?_ | (refine gl_guard_yes rfl rfl rfl ?_; refine gl_r (s_load1 rfl (fun w hw => rdE1 hw hrd (i := k) (by omega) hk')) rfl rfl rfl ?_))
          (first | refine gl_guard_no rfl rfl rfl rfl rfl rfl rfl ?_ | refine gl_guard_un rfl rfl rfl rfl rfl rfl ?_ | (refine gl_guard_yes rfl rfl rfl ?_; refine gl_f ((s_eql rfl rfl).eq (v' := .bool _) (by rw [← he, ← hq2])) rfl rfl rfl ?_))
          refine gl_f (by first | exact s_pick_t rfl rfl | exact s_pick_f rfl rfl) rfl rfl rfl ?_
          refine gl_f (s_move rfl) rfl rfl rfl ?_
          (first | refine gl_guard_no rfl rfl rfl rfl rfl rfl rfl ?_ | refine gl_guard_un rfl rfl rfl rfl rfl rfl ?_ | (refine gl_guard_yes rfl rfl rfl ?_; refine gl_f (s_move rfl) rfl rfl rfl ?_))
          (first | refine gl_guard_no rfl rfl rfl rfl rfl rfl rfl ?_ | refine gl_guard_un rfl rfl rfl rfl rfl rfl ?_ | (refine gl_guard_yes rfl rfl rfl ?_; refine gl_f ((s_eql rfl rfl).eq (congrArg Value.bool hq3')) rfl rfl rfl ?_))
          refine gl_f (by first | exact s_pick_t rfl rfl | exact s_pick_f rfl rfl) rfl rfl rfl ?_
          refine gl_nil ?_
          repeat (first | refine g_seq ?_ | refine at_code ?_ | refine g_skip ?_ | refine g_block ?_ | refine g_exit rfl ?_ | refine g_cond_t rfl ?_ | refine g_cond_f rfl ?_))
        all_goals exact at_cut (by (repeat (first | exact Sub.nil _ | refine Sub.cons rfl ?_))) (fun w hw => hw)
      · repeat (first | refine g_seq ?_ | refine at_code ?_ | refine g_skip ?_ | refine g_block ?_ | refine g_exit rfl ?_ | refine g_cond_t rfl ?_ | refine g_cond_f rfl ?_)
        refine g_cond rfl (fun h2 => ?_) (fun h2 => ?_)
        · have hh : q1 = true ∧ (q2 && q3) = true := by cases q1 <;> cases q2 <;> cases q3 <;> first | exact ⟨rfl, rfl⟩ | cases h2
          have hle : g.base + 1 + (k : Int) ≤ to := of_decide_eq_true (by rw [← hq1]; exact hh.1)
          have hy := conf_yes hle
          repeat (first | refine g_seq ?_ | refine at_code ?_ | refine g_skip ?_ | refine g_block ?_ | refine g_exit rfl ?_ | refine g_cond_t rfl ?_ | refine g_cond_f rfl ?_)
          refine g_region ?_
          refine gl_f (s_move rfl) rfl rfl rfl ?_
          refine gl_f (s_move rfl) rfl rfl rfl ?_
          refine gl_f (s_assign rfl) rfl rfl rfl ?_
          refine gl_f (s_assign rfl) rfl rfl rfl ?_
          refine gl_nil ?_
          repeat (first | refine g_seq ?_ | refine at_code ?_ | refine g_skip ?_ | refine g_block ?_ | refine g_exit rfl ?_ | refine g_cond_t rfl ?_ | refine g_cond_f rfl ?_)
          refine g_region ?_
          refine gl_f (s_move rfl) rfl rfl rfl ?_
          refine gl_f (s_add_i64 rfl rfl (by omega)) rfl rfl rfl ?_
          refine gl_f (s_assign rfl) rfl rfl rfl ?_
          refine gl_nil ?_
          repeat (first | refine g_seq ?_ | refine at_code ?_ | refine g_skip ?_ | refine g_block ?_ | refine g_exit rfl ?_ | refine g_cond_t rfl ?_ | refine g_cond_f rfl ?_)
          refine at_next (k + 1, (readL e.2.2, g.base + 1 + (k : Int)), ra, rc, true) ⟨by simp only; omega, ?_, fun h => by cases h⟩ (by simp only; omega) ?_ ?_
          · simp only
            rw [hy.1, confN, hC, if_pos hh.2, ← he]
            congr 1
            omega
          · (repeat (first | exact Sub.nil _ | refine Sub.cons rfl ?_))
          · intro w hw
            exact (Hp.left (A := [OwnC ra (readL e.2.2) rc, blkG g2 g.base g.bt g.ca g.conf.length g.cc g.la g.l.length g.lc]) hw).perm (.swap _ _ _)
        · have hh : q1 = false ∨ (q2 && q3) = false := by cases q1 <;> cases q2 <;> cases q3 <;> first | exact .inl rfl | exact .inr rfl | cases h2
          repeat (first | refine g_seq ?_ | refine at_code ?_ | refine g_skip ?_ | refine g_block ?_ | refine g_exit rfl ?_ | refine g_cond_t rfl ?_ | refine g_cond_f rfl ?_)
          repeat (first | refine g_seq ?_ | refine at_code ?_ | refine g_skip ?_ | refine g_block ?_ | refine g_exit rfl ?_ | refine g_cond_t rfl ?_ | refine g_cond_f rfl ?_)
          refine g_region ?_
          refine gl_f (s_move rfl) rfl rfl rfl ?_
          refine gl_f (s_add_i64 rfl rfl (by omega)) rfl rfl rfl ?_
          refine gl_f (s_assign rfl) rfl rfl rfl ?_
          refine gl_nil ?_
          repeat (first | refine g_seq ?_ | refine at_code ?_ | refine g_skip ?_ | refine g_block ?_ | refine g_exit rfl ?_ | refine g_cond_t rfl ?_ | refine g_cond_f rfl ?_)
          refine at_next (k + 1, r, a, c, own) ⟨by simp only; omega, ?_, hown⟩ (by simp only; omega) ?_ ?_
          · simp only
            by_cases hle : g.base + 1 + (k : Int) ≤ to
            · have hy := conf_yes hle
              have hC2 : (q2 && q3) = false := by
                rcases hh with h5 | h5
                · rw [hq1, decide_eq_false_iff_not] at h5; exact absurd hle h5
                · exact h5
              rw [hy.1, confN, hC, hC2, if_neg (by simp), hr, hy.2]
            · rw [conf_no hle]; exact hr
          · (repeat (first | exact Sub.nil _ | refine Sub.cons rfl ?_))
          · intro w hw; exact hw.drop
    · have hkl : k = g.l.length := by simp at h; omega
      subst hkl
      have hr2 : confAt g to = r := by rw [hr, confAt]
      rw [hr2]
      repeat (first | refine g_seq ?_ | refine at_code ?_ | refine g_skip ?_ | refine g_block ?_ | refine g_exit rfl ?_ | refine g_cond_t rfl ?_ | refine g_cond_f rfl ?_)
      repeat (first | refine g_seq ?_ | refine at_code ?_ | refine g_skip ?_ | refine g_block ?_ | refine g_exit rfl ?_ | refine g_cond_t rfl ?_ | refine g_cond_f rfl ?_)
      refine g_region ?_
      refine gl_f (s_move rfl) rfl rfl rfl ?_
      refine gl_f (s_move rfl) rfl rfl rfl ?_
      refine gl_f (s_assign rfl) rfl rfl rfl ?_
      refine gl_f (s_assign rfl) rfl rfl rfl ?_
      refine gl_nil ?_
      repeat (first | refine g_seq ?_ | refine at_code ?_ | refine g_skip ?_ | refine g_block ?_ | refine g_exit rfl ?_ | refine g_cond_t rfl ?_ | refine g_cond_f rfl ?_)
      refine g_ret ?_
      cases own
      · exact at_end2 rfl rfl rfl [] ⟨a, c, rfl, .inl ⟨(hown rfl).1, (hown rfl).2.1, (hown rfl).2.2, rfl⟩⟩ (fun _ h => h.dropAll)
      · exact at_end2 rfl rfl rfl [OwnC a r.1 c] ⟨a, c, rfl, .inr rfl⟩ (fun w hw => hw.drop)

theorem inst_term (g : LM) (i : Int) (h : hasL g i = true) : instL g i (termV g i) = g.l.drop (i - g.base).toNat := by
  rw [instL, h, decide_eq_true rfl]; rfl
/-- what the reference's compacting gives -/
def CmpR (g : LM) (i : Int) (v : Value) (A : List As) : Prop := (hasL g i = false ∧ v = .tuple #[g.v, .bool false] ∧ A = []) ∨
  (hasL g i = true ∧ ∃ ca cc la lc, v = .tuple #[LM.v ⟨i, termV g i, (confAt g i).1, g.l.drop (i - g.base).toNat, ca, cc, la, lc⟩, .bool true] ∧ (((confAt g i).1 = g.conf ∧ ca = g.ca ∧ cc = g.cc ∧ A = [OwnL la (g.l.drop (i - g.base).toNat) lc]) ∨ A = [OwnL la (g.l.drop (i - g.base).toNat) lc, OwnC ca (confAt g i).1 cc]))
set_option maxRecDepth 4000 in
set_option maxHeartbeats 4000000 in
theorem rCompact_ct (g : LM) (i : Int) (hf : g.fit) (hdat : ∀ i, i < g.l.length → (g.l.getD i E0).2.2.length ≤ 1000000000000) (hi : 0 ≤ i ∧ i ≤ 18446744073709551615) : Ct Try.prog 42 [g.v, .int .u64 i] (fun h => RdS h g.la (enV g.l)) [] (CmpR g i) := by
  have hcl := confN_le g hf.cl (min g.l.length (i - g.base).toNat)
  refine ct_enter 30 Try.func42 rfl rfl rfl ?_
  intro F hrd
  repeat (first | refine g_seq ?_ | refine at_code ?_ | refine g_skip ?_ | refine g_block ?_ | refine g_exit rfl ?_ | refine g_cond_t rfl ?_ | refine g_cond_f rfl ?_)
  refine g_region ?_
  refine gl_boxA rfl rfl ?_; intro g2
  refine gl_allocA rfl ?_; intro g4
  refine gl_f (s_assign rfl) rfl rfl rfl ?_
  refine gl_nil ?_
  repeat (first | refine g_seq ?_ | refine at_code ?_ | refine g_skip ?_ | refine g_block ?_ | refine g_exit rfl ?_ | refine g_cond_t rfl ?_ | refine g_cond_f rfl ?_)
  repeat (first | refine g_seq ?_ | refine at_code ?_ | refine g_skip ?_ | refine g_block ?_ | refine g_exit rfl ?_ | refine g_cond_t rfl ?_ | refine g_cond_f rfl ?_)
  refine g_region ?_
  refine gl_r (by first | exact s_load_blkW rfl (by repeat first|exact .del|apply Upd.there) (by rfl) | exact s_load_blkN rfl (by repeat first|exact .del|apply Upd.there) (by rfl)) rfl rfl rfl ?_
  refine gl_f (s_move rfl) rfl rfl rfl ?_
  refine gl_callp rfl (rTerm_ct g i hf hi) (fun h hh _ => hrd.le hh) rfl ?_
  refine gl_f (s_move rfl) rfl rfl rfl ?_
  refine gl_f (s_extract rfl rfl) rfl rfl rfl ?_
  refine gl_f (s_extract rfl rfl) rfl rfl rfl ?_
  refine gl_f (s_assign rfl) rfl rfl rfl ?_
  refine gl_f (s_assign rfl) rfl rfl rfl ?_
  refine gl_nil ?_
  repeat (first | refine g_seq ?_ | refine at_code ?_ | refine g_skip ?_ | refine g_block ?_ | refine g_exit rfl ?_ | refine g_cond_t rfl ?_ | refine g_cond_f rfl ?_)
  obtain ⟨q, hq⟩ : ∃ q, q = hasL g i := ⟨_, rfl⟩
  rw [← hq]
  cases q
  · repeat (first | refine g_seq ?_ | refine at_code ?_ | refine g_skip ?_ | refine g_block ?_ | refine g_exit rfl ?_ | refine g_cond_t rfl ?_ | refine g_cond_f rfl ?_)
    refine g_region ?_
    refine gl_f (s_move rfl) rfl rfl rfl ?_
    refine gl_f (s_not rfl) rfl rfl rfl ?_
    refine gl_nil ?_
    repeat (first | refine g_seq ?_ | refine at_code ?_ | refine g_skip ?_ | refine g_block ?_ | refine g_exit rfl ?_ | refine g_cond_t rfl ?_ | refine g_cond_f rfl ?_)
    refine g_region ?_
    refine gl_r (by first | exact s_load_blkW rfl (by repeat first|exact .del|apply Upd.there) (by rfl) | exact s_load_blkN rfl (by repeat first|exact .del|apply Upd.there) (by rfl)) rfl rfl rfl ?_
    (first | refine gl_store_blkW rfl rfl (by repeat first|exact .here|apply Upd.there) (by rfl) (by rfl) (by (intro q hq; simp [Value.cells] at hq; first | (subst hq; rfl) | (rcases hq with rfl | rfl | rfl | rfl | rfl | rfl | rfl | rfl <;> rfl) | (rcases hq with rfl | rfl | rfl | rfl | rfl | rfl | rfl <;> rfl) | (rcases hq with rfl | rfl | rfl | rfl | rfl | rfl <;> rfl) | (rcases hq with rfl | rfl | rfl | rfl | rfl <;> rfl) | (rcases hq with rfl | rfl | rfl | rfl <;> rfl) | (rcases hq with rfl | rfl | rfl <;> rfl) | (rcases hq with rfl | rfl <;> rfl))) ?_ | refine gl_store_blk rfl rfl (by repeat first|exact .here|apply Upd.there) (by rfl) (by (intro q hq; simp [Value.cells] at hq; first | (subst hq; rfl) | (rcases hq with rfl | rfl | rfl | rfl | rfl | rfl | rfl | rfl <;> rfl) | (rcases hq with rfl | rfl | rfl | rfl | rfl | rfl | rfl <;> rfl) | (rcases hq with rfl | rfl | rfl | rfl | rfl | rfl <;> rfl) | (rcases hq with rfl | rfl | rfl | rfl | rfl <;> rfl) | (rcases hq with rfl | rfl | rfl | rfl <;> rfl) | (rcases hq with rfl | rfl | rfl <;> rfl) | (rcases hq with rfl | rfl <;> rfl))) (by rfl) ?_)
    refine gl_f (s_assign rfl) rfl rfl rfl ?_
    refine gl_nil ?_
    repeat (first | refine g_seq ?_ | refine at_code ?_ | refine g_skip ?_ | refine g_block ?_ | refine g_exit rfl ?_ | refine g_cond_t rfl ?_ | refine g_cond_f rfl ?_)
    refine g_ret ?_
    exact at_endB1 rfl rfl rfl (by repeat first|exact .del|apply Upd.there) rfl [] (.inl ⟨hq.symm, rfl, rfl⟩) (fun _ h => h.dropAll)
  · repeat (first | refine g_seq ?_ | refine at_code ?_ | refine g_skip ?_ | refine g_block ?_ | refine g_exit rfl ?_ | refine g_cond_t rfl ?_ | refine g_cond_f rfl ?_)
    refine g_region ?_
    refine gl_f (s_move rfl) rfl rfl rfl ?_
    refine gl_f (s_not rfl) rfl rfl rfl ?_
    refine gl_nil ?_
    repeat (first | refine g_seq ?_ | refine at_code ?_ | refine g_skip ?_ | refine g_block ?_ | refine g_exit rfl ?_ | refine g_cond_t rfl ?_ | refine g_cond_f rfl ?_)
    repeat (first | refine g_seq ?_ | refine at_code ?_ | refine g_skip ?_ | refine g_block ?_ | refine g_exit rfl ?_ | refine g_cond_t rfl ?_ | refine g_cond_f rfl ?_)
    refine g_region ?_
    refine gl_r (by first | exact s_load_blkW rfl (by repeat first|exact .del|apply Upd.there) (by rfl) | exact s_load_blkN rfl (by repeat first|exact .del|apply Upd.there) (by rfl)) rfl rfl rfl ?_
    refine gl_f (s_move rfl) rfl rfl rfl ?_
    refine gl_call _ rfl (rConf_ct g i hf hdat hi) (fun w hw => hw) (fun h hh _ => hrd.le hh) rfl ?_; rintro v A ⟨a, c, rfl, (⟨e1, e2, e3, rfl⟩ | rfl)⟩
    all_goals (refine gl_f (s_move rfl) rfl rfl rfl ?_)
    all_goals (refine gl_f (s_extract rfl rfl) rfl rfl rfl ?_)
    all_goals (refine gl_f (s_extract rfl rfl) rfl rfl rfl ?_)
    all_goals (refine gl_f (s_assign rfl) rfl rfl rfl ?_)
    all_goals (refine gl_f (s_assign rfl) rfl rfl rfl ?_)
    all_goals (refine gl_nil ?_)
    all_goals (repeat (first | refine g_seq ?_ | refine at_code ?_ | refine g_skip ?_ | refine g_block ?_ | refine g_exit rfl ?_ | refine g_cond_t rfl ?_ | refine g_cond_f rfl ?_))
    all_goals (
      repeat (first | refine g_seq ?_ | refine at_code ?_ | refine g_skip ?_ | refine g_block ?_ | refine g_exit rfl ?_ | refine g_cond_t rfl ?_ | refine g_cond_f rfl ?_)
      refine g_region ?_
      refine gl_r (by first | exact s_load_blkW rfl (by repeat first|exact .del|apply Upd.there) (by rfl) | exact s_load_blkN rfl (by repeat first|exact .del|apply Upd.there) (by rfl)) rfl rfl rfl ?_
      refine gl_f (s_move rfl) rfl rfl rfl ?_
      refine gl_f (s_move rfl) rfl rfl rfl ?_
      refine gl_f (s_move rfl) rfl rfl rfl ?_
      refine gl_call _ rfl (rInstall_ct g i (termV g i) (confAt g i).1 a c hf hi) (fun w hw => hw) (fun h hh _ => hrd.le hh) rfl ?_; rintro v A ⟨la, lc, rfl, rfl⟩
      (first | refine gl_store_blkW rfl rfl (by repeat first|exact .here|apply Upd.there) (by rfl) (by rfl) (by (intro q hq; simp [Value.cells] at hq; first | (subst hq; rfl) | (rcases hq with rfl | rfl | rfl | rfl | rfl | rfl | rfl | rfl <;> rfl) | (rcases hq with rfl | rfl | rfl | rfl | rfl | rfl | rfl <;> rfl) | (rcases hq with rfl | rfl | rfl | rfl | rfl | rfl <;> rfl) | (rcases hq with rfl | rfl | rfl | rfl | rfl <;> rfl) | (rcases hq with rfl | rfl | rfl | rfl <;> rfl) | (rcases hq with rfl | rfl | rfl <;> rfl) | (rcases hq with rfl | rfl <;> rfl))) ?_ | refine gl_store_blk rfl rfl (by repeat first|exact .here|apply Upd.there) (by rfl) (by (intro q hq; simp [Value.cells] at hq; first | (subst hq; rfl) | (rcases hq with rfl | rfl | rfl | rfl | rfl | rfl | rfl | rfl <;> rfl) | (rcases hq with rfl | rfl | rfl | rfl | rfl | rfl | rfl <;> rfl) | (rcases hq with rfl | rfl | rfl | rfl | rfl | rfl <;> rfl) | (rcases hq with rfl | rfl | rfl | rfl | rfl <;> rfl) | (rcases hq with rfl | rfl | rfl | rfl <;> rfl) | (rcases hq with rfl | rfl | rfl <;> rfl) | (rcases hq with rfl | rfl <;> rfl))) (by rfl) ?_)
      refine gl_f (s_assign rfl) rfl rfl rfl ?_
      refine gl_nil ?_
      repeat (first | refine g_seq ?_ | refine at_code ?_ | refine g_skip ?_ | refine g_block ?_ | refine g_exit rfl ?_ | refine g_cond_t rfl ?_ | refine g_cond_f rfl ?_))
    all_goals (
      refine g_ret ?_
      rw [inst_term g i hq.symm])
    · exact at_endB1 rfl rfl rfl (by repeat first|exact .del|apply Upd.there) rfl [OwnL la (g.l.drop (i - g.base).toNat) lc] (.inr ⟨hq.symm, a, c, la, lc, rfl, .inl ⟨e1, e2, e3, rfl⟩⟩) (fun w hw => Hp.left (R := [_, _]) hw)
    · exact at_endB1 rfl rfl rfl (by repeat first|exact .del|apply Upd.there) rfl [OwnL la (g.l.drop (i - g.base).toNat) lc, OwnC a (confAt g i).1 c] (.inr ⟨hq.symm, a, c, la, lc, rfl, .inr rfl⟩) (fun w hw => Hp.left (R := [_, _]) hw)

def riseB (l : List Ent) (k : Nat) : Bool := decide ((l.getD k E0).1 ≤ (l.getD (k + 1) E0).1)
def sortedL (g : LM) : Bool := (List.range (g.l.length - 1)).all (riseB g.l) && (decide (g.l.length ≤ 1024) && (decide (g.l.length = 0) || decide (g.bt ≤ (g.l.getD 0 E0).1)))
set_option maxHeartbeats 4000000 in
theorem sorted_ct (g : LM) (at_ : Int) (hl : g.l.length ≤ 1000000000000) : Pu Try.prog 49 [g.v, .int .u64 at_] (fun h => RdS h g.la (enV g.l)) (.bool (sortedL g)) := by
  refine ct_enter 47 Try.func49 rfl rfl rfl ?_
  intro F hrd
  repeat (first | refine g_seq ?_ | refine at_code ?_ | refine g_skip ?_ | refine g_block ?_ | refine g_exit rfl ?_ | refine g_cond_t rfl ?_ | refine g_cond_f rfl ?_)
  refine g_region ?_
  refine gl_boxA rfl rfl ?_; intro g2
  refine gl_f (s_assign rfl) rfl rfl rfl ?_
  refine gl_nil ?_
  repeat (first | refine g_seq ?_ | refine at_code ?_ | refine g_skip ?_ | refine g_block ?_ | refine g_exit rfl ?_ | refine g_cond_t rfl ?_ | refine g_cond_f rfl ?_)
  refine g_region ?_
  refine gl_f (s_assign rfl) rfl rfl rfl ?_
  refine gl_nil ?_
  repeat (first | refine g_seq ?_ | refine at_code ?_ | refine g_skip ?_ | refine g_block ?_ | refine g_exit rfl ?_ | refine g_cond_t rfl ?_ | refine g_cond_f rfl ?_)
  refine g_loop (ι := Nat) (fun k => (k ≤ g.l.length - 1) ∧ ∀ j, j < k → riseB g.l j = true) (fun k => [(2, Ptr g2), (5, .int .i64 ((k : Nat) + 1))]) (fun k => [blkG g2 g.base g.bt g.ca g.conf.length g.cc g.la g.l.length g.lc]) (fun k => g.l.length - k) 0 ⟨by omega, fun j hj => absurd hj (by omega)⟩ ?_ ?_ ?_
  · (repeat (first | exact Sub.nil _ | refine Sub.cons rfl ?_))
  · intro w hw; exact hw
  · rintro k ⟨hk, hall⟩
    repeat (first | refine g_seq ?_ | refine at_code ?_ | refine g_skip ?_ | refine g_block ?_ | refine g_exit rfl ?_ | refine g_cond_t rfl ?_ | refine g_cond_f rfl ?_)
    refine g_region ?_
    refine gl_f (s_move rfl) rfl rfl rfl ?_
    refine gl_f (by first | exact s_fieldAddr rfl (by rfl) (by infer_instance) (by decide) | exact s_fieldAddr_o rfl (by assumption) (by rfl) (by infer_instance) (by decide)) rfl rfl rfl ?_
    refine gl_r (s_load_blk rfl (by repeat first|exact .del|apply Upd.there) (by rfl)) rfl rfl rfl ?_
    refine gl_f (s_len_sl rfl) rfl rfl rfl ?_
    refine gl_f (s_lss rfl rfl) rfl rfl rfl ?_
    refine gl_nil ?_
    repeat (first | refine g_seq ?_ | refine at_code ?_ | refine g_skip ?_ | refine g_block ?_ | refine g_exit rfl ?_ | refine g_cond_t rfl ?_ | refine g_cond_f rfl ?_)
    refine g_cond rfl (fun h => ?_) (fun h => ?_)
    · have hk' : k + 1 < g.l.length := by simp at h; omega
      have hsome := rdE_some hrd hk'
      obtain ⟨q, hq⟩ : ∃ q, q = riseB g.l k := ⟨_, rfl⟩
      repeat (first | refine g_seq ?_ | refine at_code ?_ | refine g_skip ?_ | refine g_block ?_ | refine g_exit rfl ?_ | refine g_cond_t rfl ?_ | refine g_cond_f rfl ?_)
      refine g_draw0 [1, 5, 7, 12] 14 rfl ?_
      refine ga_free 0 rfl (by first | exact s_fieldAddr rfl (by rfl) (by infer_instance) (by decide) | exact s_fieldAddr_o rfl (by assumption) (by rfl) (by infer_instance) (by decide)) rfl rfl rfl (by kernel_rfl) ?_
      refine ga_read 1 rfl (by repeat first|exact .del|apply Upd.there) (s_load_blk rfl .del (by rfl)) rfl rfl rfl (by kernel_rfl) ?_
      refine ga_free 2 rfl (s_move rfl) rfl rfl rfl (by kernel_rfl) ?_
      refine ga_free 3 rfl (s_indexAddr rfl (by assumption) rfl (by omega)) rfl rfl rfl (by kernel_rfl) ?_
      refine ga_free 4 rfl (by first | exact s_fieldAddr rfl (by rfl) (by infer_instance) (by decide) | exact s_fieldAddr_o rfl (by assumption) (by rfl) (by infer_instance) (by decide)) rfl rfl rfl (by kernel_rfl) ?_
      refine ga_readF 5 rfl (s_load1 rfl (fun w hw => rdE0 hw hrd (i := k + 1) (by omega) hk')) (by (first | exact fun _ h => h | (repeat first | exact sub_nil | refine sub_cons (by repeat first | exact List.Mem.head _ | apply List.Mem.tail) ?_))) rfl rfl rfl (by kernel_rfl) ?_
      refine ga_free 6 rfl (by first | exact s_fieldAddr rfl (by rfl) (by infer_instance) (by decide) | exact s_fieldAddr_o rfl (by assumption) (by rfl) (by infer_instance) (by decide)) rfl rfl rfl (by kernel_rfl) ?_
      refine ga_read 7 rfl (by repeat first|exact .del|apply Upd.there) (s_load_blk rfl .del (by rfl)) rfl rfl rfl (by kernel_rfl) ?_
      refine ga_free 8 rfl (s_move rfl) rfl rfl rfl (by kernel_rfl) ?_
      refine ga_free 9 rfl (s_sub_i64 rfl rfl (by omega)) rfl rfl rfl (by kernel_rfl) ?_
      refine ga_free 10 rfl (s_indexAddr rfl (by assumption) rfl (by omega)) rfl rfl rfl (by kernel_rfl) ?_
      refine ga_free 11 rfl (by first | exact s_fieldAddr rfl (by rfl) (by infer_instance) (by decide) | exact s_fieldAddr_o rfl (by assumption) (by rfl) (by infer_instance) (by decide)) rfl rfl rfl (by kernel_rfl) ?_
      refine ga_readF 12 rfl (s_load1 rfl (fun w hw => rdE0 hw hrd (i := k) (by omega) (by omega))) (by (first | exact fun _ h => h | (repeat first | exact sub_nil | refine sub_cons (by repeat first | exact List.Mem.head _ | apply List.Mem.tail) ?_))) rfl rfl rfl (by kernel_rfl) ?_
      refine ga_free 13 rfl ((s_lss rfl rfl).eq (v' := .bool (!q)) (by rw [hq, riseB, ← decide_not]; exact congrArg Value.bool (decide_eq_decide.2 (by omega)))) rfl rfl rfl (by kernel_rfl) ?_
      refine ga_done (by kernel_rfl) ?_
      repeat (first | refine g_seq ?_ | refine at_code ?_ | refine g_skip ?_ | refine g_block ?_ | refine g_exit rfl ?_ | refine g_cond_t rfl ?_ | refine g_cond_f rfl ?_)
      refine g_cond rfl (fun h2 => ?_) (fun h2 => ?_)
      · have hqf : riseB g.l k = false := by rw [← hq]; simpa using h2
        have e : sortedL g = false := by
          rw [sortedL, Bool.and_eq_false_iff]; left
          rw [List.all_eq_false]
          exact ⟨k, by simp; omega, by simp [hqf]⟩
        rw [e]
        repeat (first | refine g_seq ?_ | refine at_code ?_ | refine g_skip ?_ | refine g_block ?_ | refine g_exit rfl ?_ | refine g_cond_t rfl ?_ | refine g_cond_f rfl ?_)
        refine g_region ?_
        refine gl_f (s_assign rfl) rfl rfl rfl ?_
        refine gl_nil ?_
        repeat (first | refine g_seq ?_ | refine at_code ?_ | refine g_skip ?_ | refine g_block ?_ | refine g_exit rfl ?_ | refine g_cond_t rfl ?_ | refine g_cond_f rfl ?_)
        refine g_ret ?_
        exact at_end1 rfl rfl [] ⟨rfl, rfl⟩ (fun _ h => h.dropAll)
      · have hqt : riseB g.l k = true := by rw [← hq]; simpa using h2
        repeat (first | refine g_seq ?_ | refine at_code ?_ | refine g_skip ?_ | refine g_block ?_ | refine g_exit rfl ?_ | refine g_cond_t rfl ?_ | refine g_cond_f rfl ?_)
        repeat (first | refine g_seq ?_ | refine at_code ?_ | refine g_skip ?_ | refine g_block ?_ | refine g_exit rfl ?_ | refine g_cond_t rfl ?_ | refine g_cond_f rfl ?_)
        refine g_region ?_
        refine gl_f (s_move rfl) rfl rfl rfl ?_
        refine gl_f (s_add_i64 rfl rfl (by omega)) rfl rfl rfl ?_
        refine gl_f (s_assign rfl) rfl rfl rfl ?_
        refine gl_nil ?_
        repeat (first | refine g_seq ?_ | refine at_code ?_ | refine g_skip ?_ | refine g_block ?_ | refine g_exit rfl ?_ | refine g_cond_t rfl ?_ | refine g_cond_f rfl ?_)
        refine at_next (k + 1) ⟨by omega, fun j hj => ?_⟩ (by omega) ?_ ?_
        · rcases Nat.lt_succ_iff_lt_or_eq.1 hj with h4 | rfl
          · exact hall j h4
          · exact hqt
        · (repeat (first | exact Sub.nil _ | refine Sub.cons rfl ?_))
        · intro w hw; exact hw
    · have hkl : k = g.l.length - 1 := by simp at h; omega
      have hall2 : (List.range (g.l.length - 1)).all (riseB g.l) = true := by
        rw [List.all_eq_true]; intro j hj; exact hall j (by rw [hkl]; simpa using hj)
      obtain ⟨q1, hq1⟩ : ∃ q, q = decide ((g.l.length : Int) ≤ 1024) := ⟨_, rfl⟩
      obtain ⟨q2, hq2⟩ : ∃ q, q = decide ((g.l.length : Int) = 0) := ⟨_, rfl⟩
      obtain ⟨q3, hq3⟩ : ∃ q, q = decide (g.bt ≤ (g.l.getD 0 E0).1) := ⟨_, rfl⟩
      have e : sortedL g = (q1 && (q2 || q3)) := by
        rw [sortedL, hall2, hq1, hq2, hq3, Bool.true_and]
        congr 1
        · exact decide_eq_decide.2 (by omega)
        · congr 1; exact decide_eq_decide.2 (by omega)
      rw [e]
      clear e
      repeat (first | refine g_seq ?_ | refine at_code ?_ | refine g_skip ?_ | refine g_block ?_ | refine g_exit rfl ?_ | refine g_cond_t rfl ?_ | refine g_cond_f rfl ?_)
      cases q1
      · repeat (first | refine g_seq ?_ | refine at_code ?_ | refine g_skip ?_ | refine g_block ?_ | refine g_exit rfl ?_ | refine g_cond_t rfl ?_ | refine g_cond_f rfl ?_)
        refine g_draw0 [1, 6, 11, 14, 16] 21 rfl ?_
        refine ga_free 0 rfl (by first | exact s_fieldAddr rfl (by rfl) (by infer_instance) (by decide) | exact s_fieldAddr_o rfl (by assumption) (by rfl) (by infer_instance) (by decide)) rfl rfl rfl (by kernel_rfl) ?_
        refine ga_read 1 rfl (by repeat first|exact .del|apply Upd.there) (s_load_blk rfl .del (by rfl)) rfl rfl rfl (by kernel_rfl) ?_
        refine ga_free 2 rfl (s_len_sl rfl) rfl rfl rfl (by kernel_rfl) ?_
        refine ga_free 3 rfl ((s_leq rfl rfl).eq (congrArg Value.bool hq1.symm)) rfl rfl rfl (by kernel_rfl) ?_
        refine ga_free 4 rfl (s_move rfl) rfl rfl rfl (by kernel_rfl) ?_
        (first | refine ga_skip 5 rfl rfl rfl rfl rfl rfl rfl rfl (by kernel_rfl) ?_ | refine ga_skip_un 5 rfl rfl rfl rfl rfl rfl rfl (by kernel_rfl) ?_ | refine ga_free_g 5 rfl (by first | exact s_fieldAddr rfl (by rfl) (by infer_instance) (by decide) | exact s_fieldAddr_o rfl (by assumption) (by rfl) (by infer_instance) (by decide)) rfl rfl rfl rfl rfl rfl (by kernel_rfl) ?_)
        (first | refine ga_skip 6 rfl rfl rfl rfl rfl rfl rfl rfl (by kernel_rfl) ?_ | refine ga_skip_un 6 rfl rfl rfl rfl rfl rfl rfl (by kernel_rfl) ?_ | refine ga_read_g 6 rfl (by repeat first|exact .del|apply Upd.there) (s_load_blk rfl .del (by rfl)) rfl rfl rfl rfl rfl rfl (by kernel_rfl) ?_)
        (first | refine ga_skip 7 rfl rfl rfl rfl rfl rfl rfl rfl (by kernel_rfl) ?_ | refine ga_skip_un 7 rfl rfl rfl rfl rfl rfl rfl (by kernel_rfl) ?_ | refine ga_free_g 7 rfl (s_len_sl rfl) rfl rfl rfl rfl rfl rfl (by kernel_rfl) ?_)
        (first | refine ga_skip 8 rfl rfl rfl rfl rfl rfl rfl rfl (by kernel_rfl) ?_ | refine ga_skip_un 8 rfl rfl rfl rfl rfl rfl rfl (by kernel_rfl) ?_ | refine ga_free_g 8 rfl (s_eql rfl rfl) rfl rfl rfl rfl rfl rfl (by kernel_rfl) ?_)
        (first | refine ga_skip 9 rfl rfl rfl rfl rfl rfl rfl rfl (by kernel_rfl) ?_ | refine ga_skip_un 9 rfl rfl rfl rfl rfl rfl rfl (by kernel_rfl) ?_ | refine ga_free_g 9 rfl (s_move rfl) rfl rfl rfl rfl rfl rfl (by kernel_rfl) ?_)
        (first | refine ga_skip 10 rfl rfl rfl rfl rfl rfl rfl rfl (by kernel_rfl) ?_ | refine ga_skip_un 10 rfl rfl rfl rfl rfl rfl rfl (by kernel_rfl) ?_ | refine ga_free_g 10 rfl (by first | exact s_fieldAddr rfl (by rfl) (by infer_instance) (by decide) | exact s_fieldAddr_o rfl (by assumption) (by rfl) (by infer_instance) (by decide)) rfl rfl rfl rfl rfl rfl (by kernel_rfl) ?_)
        (first | refine ga_skip 11 rfl rfl rfl rfl rfl rfl rfl rfl (by kernel_rfl) ?_ | refine ga_skip_un 11 rfl rfl rfl rfl rfl rfl rfl (by kernel_rfl) ?_ | refine ga_read_g 11 rfl (by repeat first|exact .del|apply Upd.there) (s_load_blk rfl .del (by rfl)) rfl rfl rfl rfl rfl rfl (by kernel_rfl) ?_)
        (first | refine ga_skip 12 rfl rfl rfl rfl rfl rfl rfl rfl (by kernel_rfl) ?_ | refine ga_skip_un 12 rfl rfl rfl rfl rfl rfl rfl (by kernel_rfl) ?_ | refine ga_free_g 12 rfl (s_indexAddr (a0 := g.la) rfl (by assumption) rfl (by omega)) rfl rfl rfl rfl rfl rfl (by kernel_rfl) ?_)
        (first | refine ga_skip 13 rfl rfl rfl rfl rfl rfl rfl rfl (by kernel_rfl) ?_ | refine ga_skip_un 13 rfl rfl rfl rfl rfl rfl rfl (by kernel_rfl) ?_ | refine ga_free_g 13 rfl (by first | exact s_fieldAddr rfl (by rfl) (by infer_instance) (by decide) | exact s_fieldAddr_o rfl (by assumption) (by rfl) (by infer_instance) (by decide)) rfl rfl rfl rfl rfl rfl (by kernel_rfl) ?_)
        (first | refine ga_skip 14 rfl rfl rfl rfl rfl rfl rfl rfl (by kernel_rfl) ?_ | refine ga_skip_un 14 rfl rfl rfl rfl rfl rfl rfl (by kernel_rfl) ?_ | refine ga_readF_g 14 rfl (s_load1 rfl (fun w hw => rdE0 hw hrd (i := 0) (by rfl) (by omega))) (by (first | exact fun _ h => h | (repeat first | exact sub_nil | refine sub_cons (by repeat first | exact List.Mem.head _ | apply List.Mem.tail) ?_))) rfl rfl rfl rfl rfl rfl (by kernel_rfl) ?_)
        (first | refine ga_skip 15 rfl rfl rfl rfl rfl rfl rfl rfl (by kernel_rfl) ?_ | refine ga_skip_un 15 rfl rfl rfl rfl rfl rfl rfl (by kernel_rfl) ?_ | refine ga_free_g 15 rfl (by first | exact s_fieldAddr rfl (by rfl) (by infer_instance) (by decide) | exact s_fieldAddr_o rfl (by assumption) (by rfl) (by infer_instance) (by decide)) rfl rfl rfl rfl rfl rfl (by kernel_rfl) ?_)
        (first | refine ga_skip 16 rfl rfl rfl rfl rfl rfl rfl rfl (by kernel_rfl) ?_ | refine ga_skip_un 16 rfl rfl rfl rfl rfl rfl rfl (by kernel_rfl) ?_ | refine ga_read_g 16 rfl (by repeat first|exact .del|apply Upd.there) (s_load_blk rfl .del (by rfl)) rfl rfl rfl rfl rfl rfl (by kernel_rfl) ?_)
        (first | refine ga_skip 17 rfl rfl rfl rfl rfl rfl rfl rfl (by kernel_rfl) ?_ | refine ga_skip_un 17 rfl rfl rfl rfl rfl rfl rfl (by kernel_rfl) ?_ | refine ga_free_g 17 rfl (s_geq rfl rfl) rfl rfl rfl rfl rfl rfl (by kernel_rfl) ?_)
        (first | refine ga_skip 18 rfl rfl rfl rfl rfl rfl rfl rfl (by kernel_rfl) ?_ | refine ga_skip_un 18 rfl rfl rfl rfl rfl rfl rfl (by kernel_rfl) ?_ | refine ga_free_g 18 rfl (by first | exact s_pick_t rfl rfl | exact s_pick_f rfl rfl) rfl rfl rfl rfl rfl rfl (by kernel_rfl) ?_)
        refine ga_free 19 rfl (by first | exact s_pick_t rfl rfl | exact s_pick_f rfl rfl) rfl rfl rfl (by kernel_rfl) ?_
        refine ga_free 20 rfl (s_assign rfl) rfl rfl rfl (by kernel_rfl) ?_
        refine ga_done (by kernel_rfl) ?_
        repeat (first | refine g_seq ?_ | refine at_code ?_ | refine g_skip ?_ | refine g_block ?_ | refine g_exit rfl ?_ | refine g_cond_t rfl ?_ | refine g_cond_f rfl ?_)
        refine g_ret ?_
        exact at_end1 rfl rfl [] ⟨rfl, rfl⟩ (fun _ h => h.dropAll)
      · cases q2
        · have h0 : 0 < g.l.length := by have := of_decide_eq_false hq2.symm; omega
          have hsome := rdE_some hrd h0
          repeat (first | refine g_seq ?_ | refine at_code ?_ | refine g_skip ?_ | refine g_block ?_ | refine g_exit rfl ?_ | refine g_cond_t rfl ?_ | refine g_cond_f rfl ?_)
          refine g_draw0 [1, 6, 11, 14, 16] 21 rfl ?_
          refine ga_free 0 rfl (by first | exact s_fieldAddr rfl (by rfl) (by infer_instance) (by decide) | exact s_fieldAddr_o rfl (by assumption) (by rfl) (by infer_instance) (by decide)) rfl rfl rfl (by kernel_rfl) ?_
          refine ga_read 1 rfl (by repeat first|exact .del|apply Upd.there) (s_load_blk rfl .del (by rfl)) rfl rfl rfl (by kernel_rfl) ?_
          refine ga_free 2 rfl (s_len_sl rfl) rfl rfl rfl (by kernel_rfl) ?_
          refine ga_free 3 rfl ((s_leq rfl rfl).eq (congrArg Value.bool hq1.symm)) rfl rfl rfl (by kernel_rfl) ?_
          refine ga_free 4 rfl (s_move rfl) rfl rfl rfl (by kernel_rfl) ?_
          (first | refine ga_skip 5 rfl rfl rfl rfl rfl rfl rfl rfl (by kernel_rfl) ?_ | refine ga_skip_un 5 rfl rfl rfl rfl rfl rfl rfl (by kernel_rfl) ?_ | refine ga_free_g 5 rfl (by first | exact s_fieldAddr rfl (by rfl) (by infer_instance) (by decide) | exact s_fieldAddr_o rfl (by assumption) (by rfl) (by infer_instance) (by decide)) rfl rfl rfl rfl rfl rfl (by kernel_rfl) ?_)
          (first | refine ga_skip 6 rfl rfl rfl rfl rfl rfl rfl rfl (by kernel_rfl) ?_ | refine ga_skip_un 6 rfl rfl rfl rfl rfl rfl rfl (by kernel_rfl) ?_ | refine ga_read_g 6 rfl (by repeat first|exact .del|apply Upd.there) (s_load_blk rfl .del (by rfl)) rfl rfl rfl rfl rfl rfl (by kernel_rfl) ?_)
          (first | refine ga_skip 7 rfl rfl rfl rfl rfl rfl rfl rfl (by kernel_rfl) ?_ | refine ga_skip_un 7 rfl rfl rfl rfl rfl rfl rfl (by kernel_rfl) ?_ | refine ga_free_g 7 rfl (s_len_sl rfl) rfl rfl rfl rfl rfl rfl (by kernel_rfl) ?_)
          (first | refine ga_skip 8 rfl rfl rfl rfl rfl rfl rfl rfl (by kernel_rfl) ?_ | refine ga_skip_un 8 rfl rfl rfl rfl rfl rfl rfl (by kernel_rfl) ?_ | refine ga_free_g 8 rfl ((s_eql rfl rfl).eq (congrArg Value.bool hq2.symm)) rfl rfl rfl rfl rfl rfl (by kernel_rfl) ?_)
          (first | refine ga_skip 9 rfl rfl rfl rfl rfl rfl rfl rfl (by kernel_rfl) ?_ | refine ga_skip_un 9 rfl rfl rfl rfl rfl rfl rfl (by kernel_rfl) ?_ | refine ga_free_g 9 rfl (s_move rfl) rfl rfl rfl rfl rfl rfl (by kernel_rfl) ?_)
          (first | refine ga_skip 10 rfl rfl rfl rfl rfl rfl rfl rfl (by kernel_rfl) ?_ | refine ga_skip_un 10 rfl rfl rfl rfl rfl rfl rfl (by kernel_rfl) ?_ | refine ga_free_g 10 rfl (by first | exact s_fieldAddr rfl (by rfl) (by infer_instance) (by decide) | exact s_fieldAddr_o rfl (by assumption) (by rfl) (by infer_instance) (by decide)) rfl rfl rfl rfl rfl rfl (by kernel_rfl) ?_)
          (first | refine ga_skip 11 rfl rfl rfl rfl rfl rfl rfl rfl (by kernel_rfl) ?_ | refine ga_skip_un 11 rfl rfl rfl rfl rfl rfl rfl (by kernel_rfl) ?_ | refine ga_read_g 11 rfl (by repeat first|exact .del|apply Upd.there) (s_load_blk rfl .del (by rfl)) rfl rfl rfl rfl rfl rfl (by kernel_rfl) ?_)
          (first | refine ga_skip 12 rfl rfl rfl rfl rfl rfl rfl rfl (by kernel_rfl) ?_ | refine ga_skip_un 12 rfl rfl rfl rfl rfl rfl rfl (by kernel_rfl) ?_ | refine ga_free_g 12 rfl (s_indexAddr rfl (by assumption) rfl (by omega)) rfl rfl rfl rfl rfl rfl (by kernel_rfl) ?_)
          (first | refine ga_skip 13 rfl rfl rfl rfl rfl rfl rfl rfl (by kernel_rfl) ?_ | refine ga_skip_un 13 rfl rfl rfl rfl rfl rfl rfl (by kernel_rfl) ?_ | refine ga_free_g 13 rfl (by first | exact s_fieldAddr rfl (by rfl) (by infer_instance) (by decide) | exact s_fieldAddr_o rfl (by assumption) (by rfl) (by infer_instance) (by decide)) rfl rfl rfl rfl rfl rfl (by kernel_rfl) ?_)
          (first | refine ga_skip 14 rfl rfl rfl rfl rfl rfl rfl rfl (by kernel_rfl) ?_ | refine ga_skip_un 14 rfl rfl rfl rfl rfl rfl rfl (by kernel_rfl) ?_ | refine ga_readF_g 14 rfl (s_load1 rfl (fun w hw => rdE0 hw hrd (i := 0) (by rfl) h0)) (by (first | exact fun _ h => h | (repeat first | exact sub_nil | refine sub_cons (by repeat first | exact List.Mem.head _ | apply List.Mem.tail) ?_))) rfl rfl rfl rfl rfl rfl (by kernel_rfl) ?_)
          (first | refine ga_skip 15 rfl rfl rfl rfl rfl rfl rfl rfl (by kernel_rfl) ?_ | refine ga_skip_un 15 rfl rfl rfl rfl rfl rfl rfl (by kernel_rfl) ?_ | refine ga_free_g 15 rfl (by first | exact s_fieldAddr rfl (by rfl) (by infer_instance) (by decide) | exact s_fieldAddr_o rfl (by assumption) (by rfl) (by infer_instance) (by decide)) rfl rfl rfl rfl rfl rfl (by kernel_rfl) ?_)
          (first | refine ga_skip 16 rfl rfl rfl rfl rfl rfl rfl rfl (by kernel_rfl) ?_ | refine ga_skip_un 16 rfl rfl rfl rfl rfl rfl rfl (by kernel_rfl) ?_ | refine ga_read_g 16 rfl (by repeat first|exact .del|apply Upd.there) (s_load_blk rfl .del (by rfl)) rfl rfl rfl rfl rfl rfl (by kernel_rfl) ?_)
          (first | refine ga_skip 17 rfl rfl rfl rfl rfl rfl rfl rfl (by kernel_rfl) ?_ | refine ga_skip_un 17 rfl rfl rfl rfl rfl rfl rfl (by kernel_rfl) ?_ | refine ga_free_g 17 rfl ((s_geq rfl rfl).eq (congrArg Value.bool hq3.symm)) rfl rfl rfl rfl rfl rfl (by kernel_rfl) ?_)
          (first | refine ga_skip 18 rfl rfl rfl rfl rfl rfl rfl rfl (by kernel_rfl) ?_ | refine ga_skip_un 18 rfl rfl rfl rfl rfl rfl rfl (by kernel_rfl) ?_ | refine ga_free_g 18 rfl (by first | exact s_pick_t rfl rfl | exact s_pick_f rfl rfl) rfl rfl rfl rfl rfl rfl (by kernel_rfl) ?_)
          refine ga_free 19 rfl (by first | exact s_pick_t rfl rfl | exact s_pick_f rfl rfl) rfl rfl rfl (by kernel_rfl) ?_
          refine ga_free 20 rfl (s_assign rfl) rfl rfl rfl (by kernel_rfl) ?_
          refine ga_done (by kernel_rfl) ?_
          repeat (first | refine g_seq ?_ | refine at_code ?_ | refine g_skip ?_ | refine g_block ?_ | refine g_exit rfl ?_ | refine g_cond_t rfl ?_ | refine g_cond_f rfl ?_)
          refine g_ret ?_
          exact at_end1 rfl rfl [] ⟨rfl, rfl⟩ (fun _ h => h.dropAll)
        · repeat (first | refine g_seq ?_ | refine at_code ?_ | refine g_skip ?_ | refine g_block ?_ | refine g_exit rfl ?_ | refine g_cond_t rfl ?_ | refine g_cond_f rfl ?_)
          refine g_draw0 [1, 6, 11, 14, 16] 21 rfl ?_
          refine ga_free 0 rfl (by first | exact s_fieldAddr rfl (by rfl) (by infer_instance) (by decide) | exact s_fieldAddr_o rfl (by assumption) (by rfl) (by infer_instance) (by decide)) rfl rfl rfl (by kernel_rfl) ?_
          refine ga_read 1 rfl (by repeat first|exact .del|apply Upd.there) (s_load_blk rfl .del (by rfl)) rfl rfl rfl (by kernel_rfl) ?_
          refine ga_free 2 rfl (s_len_sl rfl) rfl rfl rfl (by kernel_rfl) ?_
          refine ga_free 3 rfl ((s_leq rfl rfl).eq (congrArg Value.bool hq1.symm)) rfl rfl rfl (by kernel_rfl) ?_
          refine ga_free 4 rfl (s_move rfl) rfl rfl rfl (by kernel_rfl) ?_
          (first | refine ga_skip 5 rfl rfl rfl rfl rfl rfl rfl rfl (by kernel_rfl) ?_ | refine ga_skip_un 5 rfl rfl rfl rfl rfl rfl rfl (by kernel_rfl) ?_ | refine ga_free_g 5 rfl (by first | exact s_fieldAddr rfl (by rfl) (by infer_instance) (by decide) | exact s_fieldAddr_o rfl (by assumption) (by rfl) (by infer_instance) (by decide)) rfl rfl rfl rfl rfl rfl (by kernel_rfl) ?_)
          (first | refine ga_skip 6 rfl rfl rfl rfl rfl rfl rfl rfl (by kernel_rfl) ?_ | refine ga_skip_un 6 rfl rfl rfl rfl rfl rfl rfl (by kernel_rfl) ?_ | refine ga_read_g 6 rfl (by repeat first|exact .del|apply Upd.there) (s_load_blk rfl .del (by rfl)) rfl rfl rfl rfl rfl rfl (by kernel_rfl) ?_)
          (first | refine ga_skip 7 rfl rfl rfl rfl rfl rfl rfl rfl (by kernel_rfl) ?_ | refine ga_skip_un 7 rfl rfl rfl rfl rfl rfl rfl (by kernel_rfl) ?_ | refine ga_free_g 7 rfl (s_len_sl rfl) rfl rfl rfl rfl rfl rfl (by kernel_rfl) ?_)
          (first | refine ga_skip 8 rfl rfl rfl rfl rfl rfl rfl rfl (by kernel_rfl) ?_ | refine ga_skip_un 8 rfl rfl rfl rfl rfl rfl rfl (by kernel_rfl) ?_ | refine ga_free_g 8 rfl ((s_eql rfl rfl).eq (congrArg Value.bool hq2.symm)) rfl rfl rfl rfl rfl rfl (by kernel_rfl) ?_)
          (first | refine ga_skip 9 rfl rfl rfl rfl rfl rfl rfl rfl (by kernel_rfl) ?_ | refine ga_skip_un 9 rfl rfl rfl rfl rfl rfl rfl (by kernel_rfl) ?_ | refine ga_free_g 9 rfl (s_move rfl) rfl rfl rfl rfl rfl rfl (by kernel_rfl) ?_)
          (first | refine ga_skip 10 rfl rfl rfl rfl rfl rfl rfl rfl (by kernel_rfl) ?_ | refine ga_skip_un 10 rfl rfl rfl rfl rfl rfl rfl (by kernel_rfl) ?_ | refine ga_free_g 10 rfl (by first | exact s_fieldAddr rfl (by rfl) (by infer_instance) (by decide) | exact s_fieldAddr_o rfl (by assumption) (by rfl) (by infer_instance) (by decide)) rfl rfl rfl rfl rfl rfl (by kernel_rfl) ?_)
          (first | refine ga_skip 11 rfl rfl rfl rfl rfl rfl rfl rfl (by kernel_rfl) ?_ | refine ga_skip_un 11 rfl rfl rfl rfl rfl rfl rfl (by kernel_rfl) ?_ | refine ga_read_g 11 rfl (by repeat first|exact .del|apply Upd.there) (s_load_blk rfl .del (by rfl)) rfl rfl rfl rfl rfl rfl (by kernel_rfl) ?_)
          (first | refine ga_skip 12 rfl rfl rfl rfl rfl rfl rfl rfl (by kernel_rfl) ?_ | refine ga_skip_un 12 rfl rfl rfl rfl rfl rfl rfl (by kernel_rfl) ?_ | refine ga_free_g 12 rfl (s_indexAddr rfl (by assumption) rfl (by omega)) rfl rfl rfl rfl rfl rfl (by kernel_rfl) ?_)
          (first | refine ga_skip 13 rfl rfl rfl rfl rfl rfl rfl rfl (by kernel_rfl) ?_ | refine ga_skip_un 13 rfl rfl rfl rfl rfl rfl rfl (by kernel_rfl) ?_ | refine ga_free_g 13 rfl (by first | exact s_fieldAddr rfl (by rfl) (by infer_instance) (by decide) | exact s_fieldAddr_o rfl (by assumption) (by rfl) (by infer_instance) (by decide)) rfl rfl rfl rfl rfl rfl (by kernel_rfl) ?_)
          (first | refine ga_skip 14 rfl rfl rfl rfl rfl rfl rfl rfl (by kernel_rfl) ?_ | refine ga_skip_un 14 rfl rfl rfl rfl rfl rfl rfl (by kernel_rfl) ?_ | refine ga_read_g 14 rfl (by repeat first|exact .del|apply Upd.there) (s_load_blk rfl .del (by rfl)) rfl rfl rfl rfl rfl rfl (by kernel_rfl) ?_)
          (first | refine ga_skip 15 rfl rfl rfl rfl rfl rfl rfl rfl (by kernel_rfl) ?_ | refine ga_skip_un 15 rfl rfl rfl rfl rfl rfl rfl (by kernel_rfl) ?_ | refine ga_free_g 15 rfl (by first | exact s_fieldAddr rfl (by rfl) (by infer_instance) (by decide) | exact s_fieldAddr_o rfl (by assumption) (by rfl) (by infer_instance) (by decide)) rfl rfl rfl rfl rfl rfl (by kernel_rfl) ?_)
          (first | refine ga_skip 16 rfl rfl rfl rfl rfl rfl rfl rfl (by kernel_rfl) ?_ | refine ga_skip_un 16 rfl rfl rfl rfl rfl rfl rfl (by kernel_rfl) ?_ | refine ga_read_g 16 rfl (by repeat first|exact .del|apply Upd.there) (s_load_blk rfl .del (by rfl)) rfl rfl rfl rfl rfl rfl (by kernel_rfl) ?_)
          (first | refine ga_skip 17 rfl rfl rfl rfl rfl rfl rfl rfl (by kernel_rfl) ?_ | refine ga_skip_un 17 rfl rfl rfl rfl rfl rfl rfl (by kernel_rfl) ?_ | refine ga_free_g 17 rfl (s_geq rfl rfl) rfl rfl rfl rfl rfl rfl (by kernel_rfl) ?_)
          (first | refine ga_skip 18 rfl rfl rfl rfl rfl rfl rfl rfl (by kernel_rfl) ?_ | refine ga_skip_un 18 rfl rfl rfl rfl rfl rfl rfl (by kernel_rfl) ?_ | refine ga_free_g 18 rfl (by first | exact s_pick_t rfl rfl | exact s_pick_f rfl rfl) rfl rfl rfl rfl rfl rfl (by kernel_rfl) ?_)
          refine ga_free 19 rfl (by first | exact s_pick_t rfl rfl | exact s_pick_f rfl rfl) rfl rfl rfl (by kernel_rfl) ?_
          refine ga_free 20 rfl (s_assign rfl) rfl rfl rfl (by kernel_rfl) ?_
          refine ga_done (by kernel_rfl) ?_
          repeat (first | refine g_seq ?_ | refine at_code ?_ | refine g_skip ?_ | refine g_block ?_ | refine g_exit rfl ?_ | refine g_cond_t rfl ?_ | refine g_cond_f rfl ?_)
          refine g_ret ?_
          exact at_end1 rfl rfl [] ⟨rfl, rfl⟩ (fun _ h => h.dropAll)
end Go.Proofs.Ytodcghipfolejaa
