import Derived.Test.YtodcghipfolejaaGreatHx10
/- A mind's calls: piece. -/
namespace Go.Proofs.YtodcghipfolejaaGreat.Rf
open Go Go.Sl
set_option linter.unusedVariables false
set_option linter.unusedSimpArgs false
-- ARR

abbrev gotMM (i off : Int) : MM := ⟨⟨6, 0, 0, 0, i, 0, 0, false, [], [], off, 0, []⟩, none, 0, none, 0⟩
theorem inst_any (p : RP) (a : RA) (i t : Int) : instL (p.lm a) i t = instL p.g i t := rfl
theorem haveB_le (p : RP) (m : MP) : (haveB p m).length ≤ p.piece.length := by
  unfold haveB; split
  · exact Nat.le_refl _
  · exact Nat.zero_le _
set_option maxRecDepth 8000 in
set_option maxHeartbeats 8000000 in
theorem piece_ct (X : Nat) (d : MD) (m : MM) (hf : PFit d.p) (hm : MFit m.p) (hpc : d.p.piece.length ≤ 1000000000) (ho : d.outs.length ≤ 1000000) : Ct Tryz.prog 98 [Ptr X, mmA m] (fun h => MOk h m) (mdH X d) (MdP X d (pcP d.p m.p) (pcM d.p m.p) (.tuple #[])) := by
  obtain ⟨p, a, outs, oa0, oc0⟩ := d
  simp only at hf ho hpc
  have hix := hm.index
  have hcf := hm.conf
  have hoffr := hm.off
  have hhl := haveB_le p m.p
  refine ct_enter 192 Tryz.func98 rfl rfl rfl ?_
  intro F hmo
  refine g_ownN (a := a.la) z_3 (fun _ hcap _ => ?_)
  obtain ⟨q1, hq1⟩ : ∃ q, q = decide (m.p.size < 0) := ⟨_, rfl⟩
  obtain ⟨q2, hq2⟩ : ∃ q, q = decide (262144 < m.p.size) := ⟨_, rfl⟩
  obtain ⟨q3, hq3⟩ : ∃ q, q = decide (m.p.off < 0) := ⟨_, rfl⟩
  obtain ⟨q4, hq4⟩ : ∃ q, q = decide (m.p.size < m.p.off) := ⟨_, rfl⟩
  obtain ⟨q5, hq5⟩ : ∃ q, q = decide (min 4096 (m.p.size - m.p.off) < (m.p.data.length : Int)) := ⟨_, rfl⟩
  obtain ⟨q6, hq6⟩ : ∃ q, q = rightB m.p.conf := ⟨_, rfl⟩
  have hb : pieceBad p m.p = (q1 || (q2 || (q3 || (q4 || (q5 || !q6))))) := by rw [pieceBad, hq1, hq2, hq3, hq4, hq5, hq6]
  have hrg : q1 = false → q2 = false → q3 = false → q4 = false → -9223372036854775808 ≤ m.p.size - m.p.off ∧ m.p.size - m.p.off ≤ 9223372036854775807 := fun h1 h2 h3 h4 => by
    rw [hq1] at h1; rw [hq2] at h2; rw [hq3] at h3; rw [hq4] at h4
    have := of_decide_eq_false h1
    have := of_decide_eq_false h2
    have := of_decide_eq_false h3
    have := of_decide_eq_false h4
    omega
  obtain ⟨bad, hbad⟩ : ∃ b, b = pieceBad p m.p := ⟨_, rfl⟩
  repeat refine y_ ?_
  refine g_region ?_
  refine gl_boxA rfl rfl ?_; intro g3
  refine gl_nil ?_
  repeat refine y_ ?_
  refine g_cutK [(0, Ptr X), (3, Ptr g3), (42, .bool bad)] (blkMsg g3 m :: mdH X ⟨p, a, outs, oa0, oc0⟩) ?_ ?_
  · rw [hbad, hb]
    rcases (show q1 = true ∨ (q1 = false ∧ q2 = true) ∨ (q1 = false ∧ q2 = false ∧ q3 = true) ∨ (q1 = false ∧ q2 = false ∧ q3 = false ∧ q4 = true) ∨ (q1 = false ∧ q2 = false ∧ q3 = false ∧ q4 = false ∧ q5 = true) ∨ (q1 = false ∧ q2 = false ∧ q3 = false ∧ q4 = false ∧ q5 = false) by cases q1 <;> cases q2 <;> cases q3 <;> cases q4 <;> cases q5 <;> simp) with rfl | ⟨rfl, rfl⟩ | ⟨rfl, rfl, rfl⟩ | ⟨rfl, rfl, rfl, rfl⟩ | ⟨rfl, rfl, rfl, rfl, rfl⟩ | ⟨rfl, rfl, rfl, rfl, rfl⟩
    all_goals
      repeat refine y_ ?_
      refine g_region ?_
      refine f_ z_1 ?_
      refine r_ (by first | exact s_load_blk rfl z_3 a13_11 | exact s_load1 rfl (fun w hw => peekB hw (by assumption) a13_11)) ?_
      refine f_ ((s_lss rfl rfl).eq (congrArg Value.bool hq1.symm)) ?_
      refine m_ ?_
      (first|refine u_ ?_|(refine v_ ?_; refine f_ z_1 ?_))
      (first|refine u_ ?_|(refine v_ ?_; refine r_ (by first | exact s_load_blk rfl z_3 a13_11 | exact s_load1 rfl (fun w hw => peekB hw (by assumption) a13_11)) ?_))
      (first|refine u_ ?_|(refine v_ ?_; refine f_ ((s_gtr rfl rfl).eq (congrArg Value.bool hq2.symm)) ?_))
      refine f_ z_8 ?_
      refine m_ ?_
      (first|refine u_ ?_|(refine v_ ?_; refine f_ z_1 ?_))
      (first|refine u_ ?_|(refine v_ ?_; refine r_ (by first | exact s_load_blk rfl z_3 a13_10 | exact s_load1 rfl (fun w hw => peekB hw (by assumption) a13_10)) ?_))
      (first|refine u_ ?_|(refine v_ ?_; refine f_ ((s_lss rfl rfl).eq (congrArg Value.bool hq3.symm)) ?_))
      refine f_ z_8 ?_
      refine m_ ?_
      (first|refine u_ ?_|(refine v_ ?_; refine f_ z_1 ?_))
      (first|refine u_ ?_|(refine v_ ?_; refine r_ (by first | exact s_load_blk rfl z_3 a13_10 | exact s_load1 rfl (fun w hw => peekB hw (by assumption) a13_10)) ?_))
      (first|refine u_ ?_|(refine v_ ?_; refine f_ z_1 ?_))
      (first|refine u_ ?_|(refine v_ ?_; refine r_ (by first | exact s_load_blk rfl z_3 a13_11 | exact s_load1 rfl (fun w hw => peekB hw (by assumption) a13_11)) ?_))
      (first|refine u_ ?_|(refine v_ ?_; refine f_ ((s_gtr rfl rfl).eq (congrArg Value.bool hq4.symm)) ?_))
      refine f_ z_8 ?_
      refine m_ ?_
      (first|refine u_ ?_|(refine v_ ?_; refine f_ z_1 ?_))
      (first|refine u_ ?_|(refine v_ ?_; refine r_ (by first | exact s_load_blk rfl z_3 a13_12 | exact s_load1 rfl (fun w hw => peekB hw (by assumption) a13_12)) ?_))
      (first|refine u_ ?_|(refine v_ ?_; refine f_ (s_len_str rfl) ?_))
      (first|refine u_ ?_|(refine v_ ?_; refine f_ z_1 ?_))
      (first|refine u_ ?_|(refine v_ ?_; refine r_ (by first | exact s_load_blk rfl z_3 a13_11 | exact s_load1 rfl (fun w hw => peekB hw (by assumption) a13_11)) ?_))
      (first|refine u_ ?_|(refine v_ ?_; refine f_ z_1 ?_))
      (first|refine u_ ?_|(refine v_ ?_; refine r_ (by first | exact s_load_blk rfl z_3 a13_10 | exact s_load1 rfl (fun w hw => peekB hw (by assumption) a13_10)) ?_))
      (first|refine u_ ?_|(refine v_ ?_; refine f_ (s_sub_i64 rfl rfl (hrg rfl rfl rfl rfl)) ?_))
      (first|refine u_ ?_|(refine v_ ?_; refine f_ (s_min2 rfl rfl) ?_))
      (first|refine u_ ?_|(refine v_ ?_; refine f_ ((s_gtr rfl rfl).eq (congrArg Value.bool hq5.symm)) ?_))
      refine f_ z_8 ?_
      refine m_ ?_
      (first|refine u_ ?_|(refine v_ ?_; refine f_ z_1 ?_))
      (first|refine u_ ?_|(refine v_ ?_; refine r_ (by first | exact s_load_blk rfl z_3 a13_9 | exact s_load1 rfl (fun w hw => peekB hw (by assumption) a13_9)) ?_))
      (first|refine u_ ?_|(refine v_ ?_; refine gl_callp rfl (Right_ct m.p.conf m.ka m.kc (by omega)) (fun h hh _ => hmo.k.le hh) rfl ?_; rw [← hq6]))
      (first|refine u_ ?_|(refine v_ ?_; refine f_ (s_not rfl) ?_))
      refine f_ z_8 ?_
      refine gl_nil ?_
      repeat refine y_ ?_
      exact at_cut (by (repeat (first | exact Sub.nil _ | refine Sub.cons rfl ?_))) (fun w hw => hw)
  repeat refine y_ ?_
  cases bad
  rotate_left
  · have e1 : pcP p m.p = p := by rw [pcP, if_pos (.inl hbad.symm)]
    have e2 : pcM p m.p = [] := by rw [pcM, if_pos hbad.symm]
    simp only [e1, e2]
    repeat refine y_ ?_
    refine g_ret ?_
    exact at_end0 rfl (mdH X ⟨p, a, outs, oa0, oc0⟩ ++ []) (MdP.same X ⟨p, a, outs, oa0, oc0⟩ ⟨p, a, outs, oa0, oc0⟩ _ rfl) (fun w hw => hw.drop)
  have hb0 : pieceBad p m.p = false := hbad.symm
  have hsz : 0 ≤ m.p.size ∧ m.p.size ≤ 262144 ∧ 0 ≤ m.p.off ∧ m.p.off ≤ m.p.size ∧ (m.p.data.length : Int) ≤ 4096 := by
    rw [pieceBad] at hb0
    simp only [Bool.or_eq_false_iff, decide_eq_false_iff_not] at hb0
    omega
  obtain ⟨q7, hq7⟩ : ∃ q, q = decide (m.p.index ≤ p.commit) := ⟨_, rfl⟩
  repeat refine y_ ?_
  refine g_draw ([1, 6], [0, 1, 0, 4, 12, 28, 60, 127], []) [.blk X (mdO ⟨p, a, outs, oa0, oc0⟩), blkMsg g3 m] 8 rfl ?_
  refine w_ 0 rfl z_1 ?_
  (first | refine ga_read_k 1 rfl z_5 (s_load_blk rfl .del a13_4) (by (first | exact fun _ h => h | (repeat first | exact sub_nil | refine sub_cons z_4 ?_))) rfl rfl rfl z_7 ?_ | refine ga_readF 1 rfl (s_load1 rfl (fun w hw => peekB hw (by assumption) a13_4)) (by (first | exact fun _ h => h | (repeat first | exact sub_nil | refine sub_cons z_4 ?_))) rfl rfl rfl z_7 ?_)
  refine w_ 2 rfl (s_move rfl) ?_
  refine w_ 3 rfl (s_nilCheck rfl) ?_
  refine w_ 4 rfl z_1 ?_
  refine w_ 5 rfl z_1 ?_
  (first | refine ga_read_k 6 rfl z_5 (s_load_blk rfl .del a19_10) (by (first | exact fun _ h => h | (repeat first | exact sub_nil | refine sub_cons z_4 ?_))) rfl rfl rfl z_7 ?_ | refine ga_readF 6 rfl (s_load1 rfl (fun w hw => peekB hw (by assumption) a19_10)) (by (first | exact fun _ h => h | (repeat first | exact sub_nil | refine sub_cons z_4 ?_))) rfl rfl rfl z_7 ?_)
  refine w_ 7 rfl ((s_leq rfl rfl).eq (congrArg Value.bool hq7.symm)) ?_
  refine ga_done z_7 ?_
  repeat refine y_ ?_
  cases q7
  rotate_left
  · have h7 := of_decide_eq_true hq7.symm
    have e1 : pcP p m.p = p := by rw [pcP, if_pos (.inr (.inl h7))]
    have e2 : pcM p m.p = [ackM p m.p.frm true m.p.index] := by rw [pcM, hb0, if_neg (by decide), if_pos h7]
    simp only [e1, e2]
    repeat refine y_ ?_
    refine g_region ?_
    refine m_ ?_
    refine f_ z_1 ?_
    refine r_ (by first | exact s_load_blk rfl z_3 a13_1 | exact s_load1 rfl (fun w hw => peekB hw (by assumption) a13_1)) ?_
    refine f_ z_1 ?_
    refine r_ (by first | exact s_load_blk rfl z_3 a13_4 | exact s_load1 rfl (fun w hw => peekB hw (by assumption) a13_4)) ?_
    refine f_ ((s_bld (cells := (mmC (ackMM true m.p.index)).toArray) rfl z_7).eq (v' := mmA (ackMM true m.p.index)) rfl) ?_
    refine gl_call [blkMsg g3 m] rfl (say_ct X ⟨p, a, outs, oa0, oc0⟩ m.p.frm (ackMM true m.p.index) (by simp only; omega)) (fun w hw => hw.perm (perm_up z_3 (perm_up z_3 (perm_up z_3 (perm_up z_3 (perm_up z_3 (perm_up z_3 (.refl _)))))))) (fun _ _ _ => trivial) rfl ?_; rintro v A ⟨rfl, oa, oc, rfl⟩
    refine gl_nil ?_
    repeat refine y_ ?_
    refine g_ret ?_
    exact at_end0 rfl _ (MdP.said X ⟨p, a, outs, oa0, oc0⟩ p a outs ⟨ackM p m.p.frm true m.p.index, none, 0, none, 0⟩ oa oc _ rfl (fun h => mok_nil h _ rfl rfl)) (fun w hw => by rw [List.append_nil]; exact Hp.left hw)
  have h7 := of_decide_eq_false hq7.symm
  obtain ⟨q8, hq8⟩ : ∃ q, q = decide (p.pix = m.p.index) := ⟨_, rfl⟩
  obtain ⟨q9, hq9⟩ : ∃ q, q = decide (p.pt = m.p.lt) := ⟨_, rfl⟩
  have hhv : haveB p m.p = if (q8 && q9) = true then p.piece else [] := by
    rw [haveB, hq8, hq9]
    simp only [Bool.and_eq_true, decide_eq_true_eq]
  repeat refine y_ ?_
  refine g_region ?_
  refine f_ (s_assign rfl) ?_
  refine gl_nil ?_
  repeat refine y_ ?_
  refine g_cutK [(0, Ptr X), (3, Ptr g3), (4, .int .i64 0), (75, .bool (q8 && q9))] (blkMsg g3 m :: mdH X ⟨p, a, outs, oa0, oc0⟩) ?_ ?_
  · cases q8
    all_goals
      repeat refine y_ ?_
      refine g_draw ([4, 6, 13, 15], [0, 1, 3, 7, 15, 0, 32, 127, 255, 511, 1023, 2047, 4095, 8191, 511, 16895, 65535, 131071], []) [.blk X (mdO ⟨p, a, outs, oa0, oc0⟩), blkMsg g3 m] 18 rfl ?_
      refine w_ 0 rfl (s_move rfl) ?_
      refine w_ 1 rfl (s_nilCheck rfl) ?_
      refine w_ 2 rfl z_1 ?_
      refine w_ 3 rfl z_1 ?_
      (first | refine ga_read_k 4 rfl z_5 (s_load_blk rfl .del a19_16) (by (first | exact fun _ h => h | (repeat first | exact sub_nil | refine sub_cons z_4 ?_))) rfl rfl rfl z_7 ?_ | refine ga_readF 4 rfl (s_load1 rfl (fun w hw => peekB hw (by assumption) a19_16)) (by (first | exact fun _ h => h | (repeat first | exact sub_nil | refine sub_cons z_4 ?_))) rfl rfl rfl z_7 ?_)
      refine w_ 5 rfl z_1 ?_
      (first | refine ga_read_k 6 rfl z_5 (s_load_blk rfl .del a13_4) (by (first | exact fun _ h => h | (repeat first | exact sub_nil | refine sub_cons z_4 ?_))) rfl rfl rfl z_7 ?_ | refine ga_readF 6 rfl (s_load1 rfl (fun w hw => peekB hw (by assumption) a13_4)) (by (first | exact fun _ h => h | (repeat first | exact sub_nil | refine sub_cons z_4 ?_))) rfl rfl rfl z_7 ?_)
      refine w_ 7 rfl ((s_eql rfl rfl).eq (congrArg Value.bool hq8.symm)) ?_
      refine w_ 8 rfl (s_move rfl) ?_
      (first | refine s_ 9 ?_ | refine t_ 9 ?_ | refine ga_free_g 9 rfl (s_move rfl) rfl rfl rfl rfl rfl rfl z_7 ?_)
      (first | refine s_ 10 ?_ | refine t_ 10 ?_ | refine ga_free_g 10 rfl (s_nilCheck rfl) rfl rfl rfl rfl rfl rfl z_7 ?_)
      (first | refine s_ 11 ?_ | refine t_ 11 ?_ | refine ga_free_g 11 rfl z_1 rfl rfl rfl rfl rfl rfl z_7 ?_)
      (first | refine s_ 12 ?_ | refine t_ 12 ?_ | refine ga_free_g 12 rfl z_1 rfl rfl rfl rfl rfl rfl z_7 ?_)
      (first | refine s_ 13 ?_ | refine t_ 13 ?_ | refine ga_read_kg 13 rfl z_5 (s_load_blk rfl .del a19_17) (by (first | exact fun _ h => h | (repeat first | exact sub_nil | refine sub_cons z_4 ?_))) rfl rfl rfl rfl rfl rfl z_7 ?_ | refine ga_readF_g 13 rfl (s_load1 rfl (fun w hw => peekB hw (by assumption) a19_17)) (by (first | exact fun _ h => h | (repeat first | exact sub_nil | refine sub_cons z_4 ?_))) rfl rfl rfl rfl rfl rfl z_7 ?_)
      (first | refine s_ 14 ?_ | refine t_ 14 ?_ | refine ga_free_g 14 rfl z_1 rfl rfl rfl rfl rfl rfl z_7 ?_)
      (first | refine s_ 15 ?_ | refine t_ 15 ?_ | refine ga_read_kg 15 rfl z_5 (s_load_blk rfl .del a13_5) (by (first | exact fun _ h => h | (repeat first | exact sub_nil | refine sub_cons z_4 ?_))) rfl rfl rfl rfl rfl rfl z_7 ?_ | refine ga_readF_g 15 rfl (s_load1 rfl (fun w hw => peekB hw (by assumption) a13_5)) (by (first | exact fun _ h => h | (repeat first | exact sub_nil | refine sub_cons z_4 ?_))) rfl rfl rfl rfl rfl rfl z_7 ?_)
      (first | refine s_ 16 ?_ | refine t_ 16 ?_ | refine ga_free_g 16 rfl ((s_eql rfl rfl).eq (congrArg Value.bool hq9.symm)) rfl rfl rfl rfl rfl rfl z_7 ?_)
      refine w_ 17 rfl z_8 ?_
      refine ga_done z_7 ?_
      repeat refine y_ ?_
      exact at_cut (by (repeat (first | exact Sub.nil _ | refine Sub.cons rfl ?_))) (fun w hw => hw)
  obtain ⟨q, hq⟩ : ∃ q, q = (q8 && q9) := ⟨_, rfl⟩
  rw [← hq] at hhv
  rw [← hq]
  repeat refine y_ ?_
  refine g_cutK [(0, Ptr X), (3, Ptr g3), (4, .int .i64 ((haveB p m.p).length : Nat))] (blkMsg g3 m :: mdH X ⟨p, a, outs, oa0, oc0⟩) ?_ ?_
  · rw [hhv]
    cases q
    · repeat refine y_ ?_
      exact at_cut (by (repeat (first | exact Sub.nil _ | refine Sub.cons rfl ?_))) (fun w hw => hw)
    · repeat refine y_ ?_
      repeat refine y_ ?_
      refine g_region ?_
      refine m_ ?_
      refine f_ (s_nilCheck rfl) ?_
      refine f_ z_1 ?_
      refine f_ z_1 ?_
      refine r_ (by first | exact s_load_blk rfl z_3 a19_15 | exact s_load1 rfl (fun w hw => peekB hw (by assumption) a19_15)) ?_
      refine f_ (s_len_str rfl) ?_
      refine f_ (s_assign rfl) ?_
      refine gl_nil ?_
      repeat refine y_ ?_
      exact at_cut (by (repeat (first | exact Sub.nil _ | refine Sub.cons rfl ?_))) (fun w hw => hw)
  obtain ⟨hv, hhve⟩ : ∃ hv, hv = haveB p m.p := ⟨_, rfl⟩
  rw [← hhve]
  rw [← hhve] at hhl
  obtain ⟨q10, hq10⟩ : ∃ q, q = decide (m.p.off = (hv.length : Nat)) := ⟨_, rfl⟩
  repeat refine y_ ?_
  refine g_region ?_
  refine f_ z_1 ?_
  refine r_ (by first | exact s_load_blk rfl z_3 a13_10 | exact s_load1 rfl (fun w hw => peekB hw (by assumption) a13_10)) ?_
  refine m_ ?_
  refine f_ ((s_neq rfl rfl).eq (v' := .bool (!q10)) (by rw [hq10])) ?_
  refine gl_nil ?_
  repeat refine y_ ?_
  cases q10
  · have h10 := of_decide_eq_false hq10.symm
    have e1 : pcP p m.p = p := by rw [pcP, if_pos (.inr (.inr (by rw [← hhve]; exact h10)))]
    have e2 : pcM p m.p = [gotM p m.p.frm m.p.index (hv.length : Nat)] := by rw [pcM, hb0, if_neg (by decide), if_neg h7, ← hhve, if_pos h10]
    simp only [e1, e2]
    repeat refine y_ ?_
    refine g_region ?_
    refine m_ ?_
    refine f_ z_1 ?_
    refine r_ (by first | exact s_load_blk rfl z_3 a13_1 | exact s_load1 rfl (fun w hw => peekB hw (by assumption) a13_1)) ?_
    refine f_ z_1 ?_
    refine r_ (by first | exact s_load_blk rfl z_3 a13_4 | exact s_load1 rfl (fun w hw => peekB hw (by assumption) a13_4)) ?_
    refine m_ ?_
    refine f_ ((s_bld (cells := (mmC (gotMM m.p.index (hv.length : Nat))).toArray) rfl z_7).eq (v' := mmA (gotMM m.p.index (hv.length : Nat))) rfl) ?_
    refine gl_call [blkMsg g3 m] rfl (say_ct X ⟨p, a, outs, oa0, oc0⟩ m.p.frm (gotMM m.p.index (hv.length : Nat)) (by simp only; omega)) (fun w hw => hw.perm (perm_up z_3 (perm_up z_3 (perm_up z_3 (perm_up z_3 (perm_up z_3 (perm_up z_3 (.refl _)))))))) (fun _ _ _ => trivial) rfl ?_; rintro v A ⟨rfl, oa, oc, rfl⟩
    refine gl_nil ?_
    repeat refine y_ ?_
    refine g_ret ?_
    exact at_end0 rfl _ (MdP.said X ⟨p, a, outs, oa0, oc0⟩ p a outs ⟨gotM p m.p.frm m.p.index (hv.length : Nat), none, 0, none, 0⟩ oa oc _ rfl (fun h => mok_nil h _ rfl rfl)) (fun w hw => by rw [List.append_nil]; exact Hp.left hw)
  have h10 := of_decide_eq_true hq10.symm
  obtain ⟨pb, hpb⟩ : ∃ pb, pb = pieceB p m.p := ⟨_, rfl⟩
  have hpbe : pb = hv ++ m.p.data := by rw [hpb, pieceB, hhve]
  have hpbl : pb.length = hv.length + m.p.data.length := by rw [hpbe, List.length_append]
  have hno : ¬ (pieceBad p m.p = true ∨ m.p.index ≤ p.commit ∨ m.p.off ≠ ((haveB p m.p).length : Int)) := by
    rw [hb0, ← hhve]
    rintro (h | h | h)
    · cases h
    · exact h7 h
    · exact h h10
  have hp1 : piece1 p m.p = { p with piece := pb, pix := m.p.index, pt := m.p.lt } := by rw [piece1, hpb]
  repeat refine y_ ?_
  refine g_cutK [(0, Ptr X), (3, Ptr g3)] (blkMsg g3 m :: mdH X ⟨piece1 p m.p, a, outs, oa0, oc0⟩) ?_ ?_
  · have htk : p.piece.take hv.length = hv := by
      rw [hhve, hhv]
      split
      · exact List.take_length
      · rfl
    repeat refine y_ ?_
    refine g_draw ([7, 11], [0, 0, 0, 0, 8, 24, 56, 120, 0, 504, 0, 1024, 4088, 0, 8192, 0, 32768, 8185, 139257, 401401, 925689, 1998843, 4095995, 8290299, 16678907, 33554431, 67108863, 134217727, 268435455], [14, 16, 20, 24, 28]) [.blk X (mdO ⟨p, a, outs, oa0, oc0⟩), blkMsg g3 m] 29 rfl ?_
    refine w_ 0 rfl (s_move rfl) ?_
    refine w_ 1 rfl (s_move rfl) ?_
    refine w_ 2 rfl (s_move rfl) ?_
    refine w_ 3 rfl (s_move rfl) ?_
    refine w_ 4 rfl (s_nilCheck rfl) ?_
    refine w_ 5 rfl z_1 ?_
    refine w_ 6 rfl z_1 ?_
    (first | refine ga_read_k 7 rfl z_5 (s_load_blk rfl .del a19_15) (by (first | exact fun _ h => h | (repeat first | exact sub_nil | refine sub_cons z_4 ?_))) rfl rfl rfl z_7 ?_ | refine ga_readF 7 rfl (s_load1 rfl (fun w hw => peekB hw (by assumption) a19_15)) (by (first | exact fun _ h => h | (repeat first | exact sub_nil | refine sub_cons z_4 ?_))) rfl rfl rfl z_7 ?_)
    refine w_ 8 rfl (s_move rfl) ?_
    refine w_ 9 rfl ((s_slice_str rfl rfl rfl ⟨by omega, by omega, by show (hv.length : Int) ≤ (p.piece.length : Nat); omega⟩).eq (v' := B hv) (congrArg B (by show (p.piece.drop 0).take ((hv.length : Int).toNat - 0) = hv; rw [List.drop_zero, Nat.sub_zero, Int.toNat_natCast, htk]))) ?_
    refine w_ 10 rfl z_1 ?_
    (first | refine ga_read_k 11 rfl z_5 (s_load_blk rfl .del a13_12) (by (first | exact fun _ h => h | (repeat first | exact sub_nil | refine sub_cons z_4 ?_))) rfl rfl rfl z_7 ?_ | refine ga_readF 11 rfl (s_load1 rfl (fun w hw => peekB hw (by assumption) a13_12)) (by (first | exact fun _ h => h | (repeat first | exact sub_nil | refine sub_cons z_4 ?_))) rfl rfl rfl z_7 ?_)
    refine w_ 12 rfl ((s_add_str rfl rfl (by omega)).eq (v' := B pb) (by rw [hpbe])) ?_
    refine w_ 13 rfl z_1 ?_
    refine w_ 15 rfl z_1 ?_
    refine w_ 17 rfl (s_nilCheck rfl) ?_
    refine w_ 18 rfl z_1 ?_
    refine w_ 19 rfl z_1 ?_
    refine ga_three 14 16 20 rfl rfl rfl z_7 ?_ ?_ ?_
    refine r_ (s_load_blk rfl z_3 a13_4) ?_
    refine gl_nil ?_
    refine at_ga (.inr (by exact keeps_of (by (first | exact fun _ h => h | (repeat first | exact sub_nil | refine sub_cons z_4 ?_))))) ?_
    refine ga_two 16 20 rfl rfl z_7 ?_ ?_
    refine r_ (s_load_blk rfl z_3 a13_5) ?_
    refine gl_nil ?_
    refine at_ga (.inr (by exact keeps_of (by (first | exact fun _ h => h | (repeat first | exact sub_nil | refine sub_cons z_4 ?_))))) ?_
    refine ga_one 20 rfl z_7 ?_
    (first | refine gl_store_blkC (pre := [_, _, _, _, _, _, _, _, _, _, _, _, _, _, _]) (post := [_, _, _]) rfl rfl z_6 z_10 z_10 z_10 ?_ | refine gl_store_blk rfl rfl z_6 z_10 z_2 z_10 ?_)
    refine gl_nil ?_
    refine at_ga (.inl z_7) ?_
    refine w_ 21 rfl (s_nilCheck rfl) ?_
    refine w_ 22 rfl z_1 ?_
    refine w_ 23 rfl z_1 ?_
    refine ga_one 24 rfl z_7 ?_
    (first | refine gl_store_blkC (pre := [_, _, _, _, _, _, _, _, _, _, _, _, _, _, _, _]) (post := [_, _]) rfl rfl z_6 z_10 z_10 z_10 ?_ | refine gl_store_blk rfl rfl z_6 z_10 z_2 z_10 ?_)
    refine gl_nil ?_
    refine at_ga (.inl z_7) ?_
    refine w_ 25 rfl (s_nilCheck rfl) ?_
    refine w_ 26 rfl z_1 ?_
    refine w_ 27 rfl z_1 ?_
    refine ga_one 28 rfl z_7 ?_
    (first | refine gl_store_blkC (pre := [_, _, _, _, _, _, _, _, _, _, _, _, _, _, _, _, _]) (post := [_]) rfl rfl z_6 z_10 z_10 z_10 ?_ | refine gl_store_blk rfl rfl z_6 z_10 z_2 z_10 ?_)
    refine gl_nil ?_
    refine at_ga (.inl z_7) ?_
    refine ga_done z_7 ?_
    rotate_left 1
    (first | refine gl_store_blkC (pre := [_, _, _, _, _, _, _, _, _, _, _, _, _, _, _]) (post := [_, _, _]) rfl rfl z_6 z_10 z_10 z_10 ?_ | refine gl_store_blk rfl rfl z_6 z_10 z_2 z_10 ?_)
    refine gl_nil ?_
    refine at_ga (.inl z_7) ?_
    refine w_ 21 rfl (s_nilCheck rfl) ?_
    refine w_ 22 rfl z_1 ?_
    refine w_ 23 rfl z_1 ?_
    refine ga_two 16 24 rfl rfl z_7 ?_ ?_
    refine r_ (s_load_blk rfl z_3 a13_5) ?_
    refine gl_nil ?_
    refine at_ga (.inl z_7) ?_
    refine ga_one 24 rfl z_7 ?_
    (first | refine gl_store_blkC (pre := [_, _, _, _, _, _, _, _, _, _, _, _, _, _, _, _]) (post := [_, _]) rfl rfl z_6 z_10 z_10 z_10 ?_ | refine gl_store_blk rfl rfl z_6 z_10 z_2 z_10 ?_)
    refine gl_nil ?_
    refine at_ga (.inl z_7) ?_
    refine w_ 25 rfl (s_nilCheck rfl) ?_
    refine w_ 26 rfl z_1 ?_
    refine w_ 27 rfl z_1 ?_
    refine ga_one 28 rfl z_7 ?_
    (first | refine gl_store_blkC (pre := [_, _, _, _, _, _, _, _, _, _, _, _, _, _, _, _, _]) (post := [_]) rfl rfl z_6 z_10 z_10 z_10 ?_ | refine gl_store_blk rfl rfl z_6 z_10 z_2 z_10 ?_)
    refine gl_nil ?_
    refine at_ga (.inl z_7) ?_
    refine ga_done z_7 ?_
    rotate_left 1
    (first | refine gl_store_blkC (pre := [_, _, _, _, _, _, _, _, _, _, _, _, _, _, _, _]) (post := [_, _]) rfl rfl z_6 z_10 z_10 z_10 ?_ | refine gl_store_blk rfl rfl z_6 z_10 z_2 z_10 ?_)
    refine gl_nil ?_
    refine at_ga (.inl z_7) ?_
    refine ga_one 16 rfl z_7 ?_
    refine r_ (s_load_blk rfl z_3 a13_5) ?_
    refine gl_nil ?_
    refine at_ga (.inl z_7) ?_
    refine w_ 25 rfl (s_nilCheck rfl) ?_
    refine w_ 26 rfl z_1 ?_
    refine w_ 27 rfl z_1 ?_
    refine ga_one 28 rfl z_7 ?_
    (first | refine gl_store_blkC (pre := [_, _, _, _, _, _, _, _, _, _, _, _, _, _, _, _, _]) (post := [_]) rfl rfl z_6 z_10 z_10 z_10 ?_ | refine gl_store_blk rfl rfl z_6 z_10 z_2 z_10 ?_)
    refine gl_nil ?_
    refine at_ga (.inl z_7) ?_
    refine ga_done z_7 ?_
    rotate_left 1
    refine r_ (s_load_blk rfl z_3 a13_5) ?_
    refine gl_nil ?_
    refine at_ga (.inr (by exact keeps_of (by (first | exact fun _ h => h | (repeat first | exact sub_nil | refine sub_cons z_4 ?_))))) ?_
    refine ga_two 14 20 rfl rfl z_7 ?_ ?_
    refine r_ (s_load_blk rfl z_3 a13_4) ?_
    refine gl_nil ?_
    refine at_ga (.inr (by exact keeps_of (by (first | exact fun _ h => h | (repeat first | exact sub_nil | refine sub_cons z_4 ?_))))) ?_
    refine ga_one 20 rfl z_7 ?_
    (first | refine gl_store_blkC (pre := [_, _, _, _, _, _, _, _, _, _, _, _, _, _, _]) (post := [_, _, _]) rfl rfl z_6 z_10 z_10 z_10 ?_ | refine gl_store_blk rfl rfl z_6 z_10 z_2 z_10 ?_)
    refine gl_nil ?_
    refine at_ga (.inl z_7) ?_
    refine w_ 21 rfl (s_nilCheck rfl) ?_
    refine w_ 22 rfl z_1 ?_
    refine w_ 23 rfl z_1 ?_
    refine ga_one 24 rfl z_7 ?_
    (first | refine gl_store_blkC (pre := [_, _, _, _, _, _, _, _, _, _, _, _, _, _, _, _]) (post := [_, _]) rfl rfl z_6 z_10 z_10 z_10 ?_ | refine gl_store_blk rfl rfl z_6 z_10 z_2 z_10 ?_)
    refine gl_nil ?_
    refine at_ga (.inl z_7) ?_
    refine w_ 25 rfl (s_nilCheck rfl) ?_
    refine w_ 26 rfl z_1 ?_
    refine w_ 27 rfl z_1 ?_
    refine ga_one 28 rfl z_7 ?_
    (first | refine gl_store_blkC (pre := [_, _, _, _, _, _, _, _, _, _, _, _, _, _, _, _, _]) (post := [_]) rfl rfl z_6 z_10 z_10 z_10 ?_ | refine gl_store_blk rfl rfl z_6 z_10 z_2 z_10 ?_)
    refine gl_nil ?_
    refine at_ga (.inl z_7) ?_
    refine ga_done z_7 ?_
    rotate_left 1
    (first | refine gl_store_blkC (pre := [_, _, _, _, _, _, _, _, _, _, _, _, _, _, _]) (post := [_, _, _]) rfl rfl z_6 z_10 z_10 z_10 ?_ | refine gl_store_blk rfl rfl z_6 z_10 z_2 z_10 ?_)
    refine gl_nil ?_
    refine at_ga (.inl z_7) ?_
    refine ga_one 14 rfl z_7 ?_
    refine r_ (s_load_blk rfl z_3 a13_4) ?_
    refine gl_nil ?_
    refine at_ga (.inl z_7) ?_
    refine w_ 21 rfl (s_nilCheck rfl) ?_
    refine w_ 22 rfl z_1 ?_
    refine w_ 23 rfl z_1 ?_
    refine ga_one 24 rfl z_7 ?_
    (first | refine gl_store_blkC (pre := [_, _, _, _, _, _, _, _, _, _, _, _, _, _, _, _]) (post := [_, _]) rfl rfl z_6 z_10 z_10 z_10 ?_ | refine gl_store_blk rfl rfl z_6 z_10 z_2 z_10 ?_)
    refine gl_nil ?_
    refine at_ga (.inl z_7) ?_
    refine w_ 25 rfl (s_nilCheck rfl) ?_
    refine w_ 26 rfl z_1 ?_
    refine w_ 27 rfl z_1 ?_
    refine ga_one 28 rfl z_7 ?_
    (first | refine gl_store_blkC (pre := [_, _, _, _, _, _, _, _, _, _, _, _, _, _, _, _, _]) (post := [_]) rfl rfl z_6 z_10 z_10 z_10 ?_ | refine gl_store_blk rfl rfl z_6 z_10 z_2 z_10 ?_)
    refine gl_nil ?_
    refine at_ga (.inl z_7) ?_
    refine ga_done z_7 ?_
    rotate_left 1
    (first | refine gl_store_blkC (pre := [_, _, _, _, _, _, _, _, _, _, _, _, _, _, _]) (post := [_, _, _]) rfl rfl z_6 z_10 z_10 z_10 ?_ | refine gl_store_blk rfl rfl z_6 z_10 z_2 z_10 ?_)
    refine gl_nil ?_
    refine at_ga (.inl z_7) ?_
    refine ga_two 14 16 rfl rfl z_7 ?_ ?_
    refine r_ (s_load_blk rfl z_3 a13_4) ?_
    refine gl_nil ?_
    refine at_ga (.inl z_7) ?_
    refine w_ 21 rfl (s_nilCheck rfl) ?_
    refine w_ 22 rfl z_1 ?_
    refine w_ 23 rfl z_1 ?_
    refine ga_two 16 24 rfl rfl z_7 ?_ ?_
    refine r_ (s_load_blk rfl z_3 a13_5) ?_
    refine gl_nil ?_
    refine at_ga (.inl z_7) ?_
    refine ga_one 24 rfl z_7 ?_
    (first | refine gl_store_blkC (pre := [_, _, _, _, _, _, _, _, _, _, _, _, _, _, _, _]) (post := [_, _]) rfl rfl z_6 z_10 z_10 z_10 ?_ | refine gl_store_blk rfl rfl z_6 z_10 z_2 z_10 ?_)
    refine gl_nil ?_
    refine at_ga (.inl z_7) ?_
    refine w_ 25 rfl (s_nilCheck rfl) ?_
    refine w_ 26 rfl z_1 ?_
    refine w_ 27 rfl z_1 ?_
    refine ga_one 28 rfl z_7 ?_
    (first | refine gl_store_blkC (pre := [_, _, _, _, _, _, _, _, _, _, _, _, _, _, _, _, _]) (post := [_]) rfl rfl z_6 z_10 z_10 z_10 ?_ | refine gl_store_blk rfl rfl z_6 z_10 z_2 z_10 ?_)
    refine gl_nil ?_
    refine at_ga (.inl z_7) ?_
    refine ga_done z_7 ?_
    rotate_left 1
    (first | refine gl_store_blkC (pre := [_, _, _, _, _, _, _, _, _, _, _, _, _, _, _, _]) (post := [_, _]) rfl rfl z_6 z_10 z_10 z_10 ?_ | refine gl_store_blk rfl rfl z_6 z_10 z_2 z_10 ?_)
    refine gl_nil ?_
    refine at_ga (.inl z_7) ?_
    refine ga_one 16 rfl z_7 ?_
    refine r_ (s_load_blk rfl z_3 a13_5) ?_
    refine gl_nil ?_
    refine at_ga (.inl z_7) ?_
    refine w_ 25 rfl (s_nilCheck rfl) ?_
    refine w_ 26 rfl z_1 ?_
    refine w_ 27 rfl z_1 ?_
    refine ga_one 28 rfl z_7 ?_
    (first | refine gl_store_blkC (pre := [_, _, _, _, _, _, _, _, _, _, _, _, _, _, _, _, _]) (post := [_]) rfl rfl z_6 z_10 z_10 z_10 ?_ | refine gl_store_blk rfl rfl z_6 z_10 z_2 z_10 ?_)
    refine gl_nil ?_
    refine at_ga (.inl z_7) ?_
    refine ga_done z_7 ?_
    rotate_left 1
    refine r_ (s_load_blk rfl z_3 a13_5) ?_
    refine gl_nil ?_
    refine at_ga (.inl z_7) ?_
    refine ga_one 14 rfl z_7 ?_
    refine r_ (s_load_blk rfl z_3 a13_4) ?_
    refine gl_nil ?_
    refine at_ga (.inl z_7) ?_
    refine w_ 21 rfl (s_nilCheck rfl) ?_
    refine w_ 22 rfl z_1 ?_
    refine w_ 23 rfl z_1 ?_
    refine ga_one 24 rfl z_7 ?_
    (first | refine gl_store_blkC (pre := [_, _, _, _, _, _, _, _, _, _, _, _, _, _, _, _]) (post := [_, _]) rfl rfl z_6 z_10 z_10 z_10 ?_ | refine gl_store_blk rfl rfl z_6 z_10 z_2 z_10 ?_)
    refine gl_nil ?_
    refine at_ga (.inl z_7) ?_
    refine w_ 25 rfl (s_nilCheck rfl) ?_
    refine w_ 26 rfl z_1 ?_
    refine w_ 27 rfl z_1 ?_
    refine ga_one 28 rfl z_7 ?_
    (first | refine gl_store_blkC (pre := [_, _, _, _, _, _, _, _, _, _, _, _, _, _, _, _, _]) (post := [_]) rfl rfl z_6 z_10 z_10 z_10 ?_ | refine gl_store_blk rfl rfl z_6 z_10 z_2 z_10 ?_)
    refine gl_nil ?_
    refine at_ga (.inl z_7) ?_
    refine ga_done z_7 ?_
    rotate_left 1
    all_goals (repeat refine y_ ?_)
    all_goals
      exact at_cut (by (repeat (first | exact Sub.nil _ | refine Sub.cons rfl ?_))) (fun w hw => by rw [hp1]; exact hw.perm (perm_up z_3 (perm_up z_3 (.refl _))))
  obtain ⟨q11, hq11⟩ : ∃ q, q = decide ((pb.length : Int) < m.p.size) := ⟨_, rfl⟩
  rw [hp1]
  repeat refine y_ ?_
  refine g_draw ([4, 7], [0, 1, 3, 7, 15, 31, 0, 64, 255], []) [.blk X (mdO ⟨{ p with piece := pb, pix := m.p.index, pt := m.p.lt }, a, outs, oa0, oc0⟩), blkMsg g3 m] 9 rfl ?_
  refine w_ 0 rfl (s_move rfl) ?_
  refine w_ 1 rfl (s_nilCheck rfl) ?_
  refine w_ 2 rfl z_1 ?_
  refine w_ 3 rfl z_1 ?_
  (first | refine ga_read_k 4 rfl z_5 (s_load_blk rfl .del a19_15) (by (first | exact fun _ h => h | (repeat first | exact sub_nil | refine sub_cons z_4 ?_))) rfl rfl rfl z_7 ?_ | refine ga_readF 4 rfl (s_load1 rfl (fun w hw => peekB hw (by assumption) a19_15)) (by (first | exact fun _ h => h | (repeat first | exact sub_nil | refine sub_cons z_4 ?_))) rfl rfl rfl z_7 ?_)
  refine w_ 5 rfl (s_len_str rfl) ?_
  refine w_ 6 rfl z_1 ?_
  (first | refine ga_read_k 7 rfl z_5 (s_load_blk rfl .del a13_11) (by (first | exact fun _ h => h | (repeat first | exact sub_nil | refine sub_cons z_4 ?_))) rfl rfl rfl z_7 ?_ | refine ga_readF 7 rfl (s_load1 rfl (fun w hw => peekB hw (by assumption) a13_11)) (by (first | exact fun _ h => h | (repeat first | exact sub_nil | refine sub_cons z_4 ?_))) rfl rfl rfl z_7 ?_)
  refine w_ 8 rfl ((s_lss rfl rfl).eq (congrArg Value.bool hq11.symm)) ?_
  refine ga_done z_7 ?_
  repeat refine y_ ?_
  cases q11
  rotate_left
  · have h11 := of_decide_eq_true hq11.symm
    have e1 : pcP p m.p = { p with piece := pb, pix := m.p.index, pt := m.p.lt } := by rw [pcP, if_neg hno, ← hpb, if_pos h11, hp1]
    have e2 : pcM p m.p = [gotM p m.p.frm m.p.index (pb.length : Nat)] := by rw [pcM, hb0, if_neg (by decide), if_neg h7, ← hhve, if_neg (by omega), ← hpb, if_pos h11]
    simp only [e1, e2]
    repeat refine y_ ?_
    refine g_draw ([2, 4, 9], [0, 0, 2, 0, 8, 0, 32, 96, 224, 480, 992, 2040, 4095], [12]) [.blk X (mdO ⟨{ p with piece := pb, pix := m.p.index, pt := m.p.lt }, a, outs, oa0, oc0⟩), blkMsg g3 m] 13 rfl ?_
    refine w_ 0 rfl (s_move rfl) ?_
    refine w_ 1 rfl z_1 ?_
    (first | refine ga_read_k 2 rfl z_5 (s_load_blk rfl .del a13_1) (by (first | exact fun _ h => h | (repeat first | exact sub_nil | refine sub_cons z_4 ?_))) rfl rfl rfl z_7 ?_ | refine ga_readF 2 rfl (s_load1 rfl (fun w hw => peekB hw (by assumption) a13_1)) (by (first | exact fun _ h => h | (repeat first | exact sub_nil | refine sub_cons z_4 ?_))) rfl rfl rfl z_7 ?_)
    refine w_ 3 rfl z_1 ?_
    (first | refine ga_read_k 4 rfl z_5 (s_load_blk rfl .del a13_4) (by (first | exact fun _ h => h | (repeat first | exact sub_nil | refine sub_cons z_4 ?_))) rfl rfl rfl z_7 ?_ | refine ga_readF 4 rfl (s_load1 rfl (fun w hw => peekB hw (by assumption) a13_4)) (by (first | exact fun _ h => h | (repeat first | exact sub_nil | refine sub_cons z_4 ?_))) rfl rfl rfl z_7 ?_)
    refine w_ 5 rfl (s_move rfl) ?_
    refine w_ 6 rfl (s_nilCheck rfl) ?_
    refine w_ 7 rfl z_1 ?_
    refine w_ 8 rfl z_1 ?_
    (first | refine ga_read_k 9 rfl z_5 (s_load_blk rfl .del a19_15) (by (first | exact fun _ h => h | (repeat first | exact sub_nil | refine sub_cons z_4 ?_))) rfl rfl rfl z_7 ?_ | refine ga_readF 9 rfl (s_load1 rfl (fun w hw => peekB hw (by assumption) a19_15)) (by (first | exact fun _ h => h | (repeat first | exact sub_nil | refine sub_cons z_4 ?_))) rfl rfl rfl z_7 ?_)
    refine w_ 10 rfl (s_len_str rfl) ?_
    refine w_ 11 rfl ((s_bld (cells := (mmC (gotMM m.p.index (pb.length : Nat))).toArray) rfl z_7).eq (v' := mmA (gotMM m.p.index (pb.length : Nat))) rfl) ?_
    refine ga_one 12 rfl z_7 ?_
    refine gl_call [blkMsg g3 m] rfl (say_ct X ⟨{ p with piece := pb, pix := m.p.index, pt := m.p.lt }, a, outs, oa0, oc0⟩ m.p.frm (gotMM m.p.index (pb.length : Nat)) (by simp only; omega)) (fun w hw => hw.perm (perm_up z_3 (perm_up z_3 (perm_up z_3 (perm_up z_3 (perm_up z_3 (perm_up z_3 (.refl _)))))))) (fun _ _ _ => trivial) rfl ?_; rintro v A ⟨rfl, oa, oc, rfl⟩
    refine gl_nil ?_
    refine at_ga (.inl z_7) ?_
    refine ga_done z_7 ?_
    repeat refine y_ ?_
    refine g_ret ?_
    exact at_end0 rfl _ (MdP.said X ⟨p, a, outs, oa0, oc0⟩ { p with piece := pb, pix := m.p.index, pt := m.p.lt } a outs ⟨gotM p m.p.frm m.p.index (pb.length : Nat), none, 0, none, 0⟩ oa oc _ rfl (fun h => mok_nil h _ rfl rfl)) (fun w hw => by rw [List.append_nil]; exact Hp.left hw)
  have h11 := of_decide_eq_false hq11.symm
  obtain ⟨nl, hnl⟩ : ∃ nl, nl = instL p.g m.p.index m.p.lt := ⟨_, rfl⟩
  have e1 : pcP p m.p = { p with base := m.p.index, bt := m.p.lt, conf := m.p.conf, l := nl, img := pb, commit := m.p.index, piece := [], pix := 0, pt := 0 } := by rw [pcP, if_neg hno, ← hpb, if_neg h11, piece2, ← hpb, ← hnl]
  have e2 : pcM p m.p = [ackM p m.p.frm true m.p.index] := by rw [pcM, hb0, if_neg (by decide), if_neg h7, ← hhve, if_neg (by omega), ← hpb, if_neg h11]
  simp only [e1, e2]
  repeat refine y_ ?_
  refine g_draw ([5, 7, 9, 11], [0, 0, 2, 6, 14, 30, 0, 64, 0, 256, 0, 1024, 4094, 8191, 16383, 32767, 65535], [12, 16]) [.blk X (mdO ⟨{ p with piece := pb, pix := m.p.index, pt := m.p.lt }, a, outs, oa0, oc0⟩), blkMsg g3 m] 17 rfl ?_
  refine w_ 0 rfl (s_move rfl) ?_
  refine w_ 1 rfl (s_move rfl) ?_
  refine w_ 2 rfl (s_nilCheck rfl) ?_
  refine w_ 3 rfl z_1 ?_
  refine w_ 4 rfl z_1 ?_
  refine ga_read_k 5 rfl z_5 ((s_load_blkN rfl .del z_10).eq (v' := (p.lm a).v) rfl) (by (first | exact fun _ h => h | (repeat first | exact sub_nil | refine sub_cons z_4 ?_))) rfl rfl rfl z_7 ?_
  refine w_ 6 rfl z_1 ?_
  (first | refine ga_read_k 7 rfl z_5 (s_load_blk rfl .del a13_4) (by (first | exact fun _ h => h | (repeat first | exact sub_nil | refine sub_cons z_4 ?_))) rfl rfl rfl z_7 ?_ | refine ga_readF 7 rfl (s_load1 rfl (fun w hw => peekB hw (by assumption) a13_4)) (by (first | exact fun _ h => h | (repeat first | exact sub_nil | refine sub_cons z_4 ?_))) rfl rfl rfl z_7 ?_)
  refine w_ 8 rfl z_1 ?_
  (first | refine ga_read_k 9 rfl z_5 (s_load_blk rfl .del a13_5) (by (first | exact fun _ h => h | (repeat first | exact sub_nil | refine sub_cons z_4 ?_))) rfl rfl rfl z_7 ?_ | refine ga_readF 9 rfl (s_load1 rfl (fun w hw => peekB hw (by assumption) a13_5)) (by (first | exact fun _ h => h | (repeat first | exact sub_nil | refine sub_cons z_4 ?_))) rfl rfl rfl z_7 ?_)
  refine w_ 10 rfl z_1 ?_
  (first | refine ga_read_k 11 rfl z_5 (s_load_blk rfl .del a13_9) (by (first | exact fun _ h => h | (repeat first | exact sub_nil | refine sub_cons z_4 ?_))) rfl rfl rfl z_7 ?_ | refine ga_readF 11 rfl (s_load1 rfl (fun w hw => peekB hw (by assumption) a13_9)) (by (first | exact fun _ h => h | (repeat first | exact sub_nil | refine sub_cons z_4 ?_))) rfl rfl rfl z_7 ?_)
  refine ga_one 12 rfl z_7 ?_
  refine gl_call _ rfl (Install_ct (p.lm a) m.p.index m.p.lt m.p.conf m.ka m.kc (hf.fit a hcap) hix (by omega)) (fun w hw => hw) (fun h hh ⟨bs, hb⟩ => ⟨Sat.rd (a := a.la) hb z_3, hmo.k.le hh⟩) rfl ?_; rw [inst_any, ← hnl]; rintro v A ⟨ca, cc, la, lc, rfl, rfl⟩
  refine gl_nil ?_
  refine at_ga (.inl z_7) ?_
  refine w_ 13 rfl (s_nilCheck rfl) ?_
  refine w_ 14 rfl z_1 ?_
  refine w_ 15 rfl z_1 ?_
  refine ga_one 16 rfl z_7 ?_
  (first | refine gl_store_blkW rfl rfl z_6 z_10 z_10 z_2 ?_ | refine gl_store_blk rfl rfl z_6 z_10 z_2 z_10 ?_)
  refine gl_nil ?_
  refine at_ga (.inl z_7) ?_
  refine ga_done z_7 ?_
  repeat refine y_ ?_
  obtain ⟨a1, ha1⟩ : ∃ a1 : RA, a1 = { a with ca := ca, cc := cc, la := la, lc := lc } := ⟨_, rfl⟩
  refine g_pull (H' := blkMsg g3 m :: mdH X ⟨{ p with base := m.p.index, bt := m.p.lt, conf := m.p.conf, l := nl, piece := pb, pix := m.p.index, pt := m.p.lt }, a1, outs, oa0, oc0⟩) (fun w hw => by subst ha1; exact Hp.left (R := [OwnL a.la p.l a.lc, OwnC a.ca p.conf a.cc]) (hw.perm (perm_up z_3 (perm_up z_3 (perm_up z_3 (perm_up z_3 (perm_up z_3 (perm_up z_3 (perm_up z_3 (perm_up z_3 (.refl _))))))))))) ?_
  repeat refine y_ ?_
  refine g_cutK [(0, Ptr X), (3, Ptr g3)] (blkMsg g3 m :: mdH X ⟨{ p with base := m.p.index, bt := m.p.lt, conf := m.p.conf, l := nl, img := pb, commit := m.p.index, piece := pb, pix := m.p.index, pt := m.p.lt }, a1, outs, oa0, oc0⟩) ?_ ?_
  · repeat refine y_ ?_
    refine g_draw ([6], [0, 0, 0, 4, 12, 28, 60, 0, 128, 125, 637, 1661, 3709, 8191, 16383, 32767, 65535], [8, 12, 16]) [.blk X (mdO ⟨{ p with base := m.p.index, bt := m.p.lt, conf := m.p.conf, l := nl, piece := pb, pix := m.p.index, pt := m.p.lt }, a1, outs, oa0, oc0⟩), blkMsg g3 m] 17 rfl ?_
    refine w_ 0 rfl (s_move rfl) ?_
    refine w_ 1 rfl (s_move rfl) ?_
    refine w_ 2 rfl (s_move rfl) ?_
    refine w_ 3 rfl (s_nilCheck rfl) ?_
    refine w_ 4 rfl z_1 ?_
    refine w_ 5 rfl z_1 ?_
    (first | refine ga_read_k 6 rfl z_5 (s_load_blk rfl .del a19_15) (by (first | exact fun _ h => h | (repeat first | exact sub_nil | refine sub_cons z_4 ?_))) rfl rfl rfl z_7 ?_ | refine ga_readF 6 rfl (s_load1 rfl (fun w hw => peekB hw (by assumption) a19_15)) (by (first | exact fun _ h => h | (repeat first | exact sub_nil | refine sub_cons z_4 ?_))) rfl rfl rfl z_7 ?_)
    refine w_ 7 rfl z_1 ?_
    refine w_ 9 rfl (s_nilCheck rfl) ?_
    refine w_ 10 rfl z_1 ?_
    refine w_ 11 rfl z_1 ?_
    refine ga_two 8 12 rfl rfl z_7 ?_ ?_
    refine r_ (s_load_blk rfl z_3 a13_4) ?_
    refine gl_nil ?_
    refine at_ga (.inr (by exact keeps_of (by (first | exact fun _ h => h | (repeat first | exact sub_nil | refine sub_cons z_4 ?_))))) ?_
    refine ga_one 12 rfl z_7 ?_
    (first | refine gl_store_blkC (pre := [_, _, _, _, _, _, _, _, _]) (post := [_, _, _, _, _, _, _, _, _]) rfl rfl z_6 z_10 z_10 z_10 ?_ | refine gl_store_blk rfl rfl z_6 z_10 z_2 z_10 ?_)
    refine gl_nil ?_
    refine at_ga (.inl z_7) ?_
    refine w_ 13 rfl (s_nilCheck rfl) ?_
    refine w_ 14 rfl z_1 ?_
    refine w_ 15 rfl z_1 ?_
    refine ga_one 16 rfl z_7 ?_
    (first | refine gl_store_blkC (pre := [_, _, _, _, _, _, _, _, _, _]) (post := [_, _, _, _, _, _, _, _]) rfl rfl z_6 z_10 z_10 z_10 ?_ | refine gl_store_blk rfl rfl z_6 z_10 z_2 z_10 ?_)
    refine gl_nil ?_
    refine at_ga (.inl z_7) ?_
    refine ga_done z_7 ?_
    rotate_left 1
    (first | refine gl_store_blkC (pre := [_, _, _, _, _, _, _, _, _]) (post := [_, _, _, _, _, _, _, _, _]) rfl rfl z_6 z_10 z_10 z_10 ?_ | refine gl_store_blk rfl rfl z_6 z_10 z_2 z_10 ?_)
    refine gl_nil ?_
    refine at_ga (.inl z_7) ?_
    refine ga_one 8 rfl z_7 ?_
    refine r_ (s_load_blk rfl z_3 a13_4) ?_
    refine gl_nil ?_
    refine at_ga (.inl z_7) ?_
    refine w_ 13 rfl (s_nilCheck rfl) ?_
    refine w_ 14 rfl z_1 ?_
    refine w_ 15 rfl z_1 ?_
    refine ga_one 16 rfl z_7 ?_
    (first | refine gl_store_blkC (pre := [_, _, _, _, _, _, _, _, _, _]) (post := [_, _, _, _, _, _, _, _]) rfl rfl z_6 z_10 z_10 z_10 ?_ | refine gl_store_blk rfl rfl z_6 z_10 z_2 z_10 ?_)
    refine gl_nil ?_
    refine at_ga (.inl z_7) ?_
    refine ga_done z_7 ?_
    rotate_left 1
    all_goals (repeat refine y_ ?_)
    all_goals
      exact at_cut (by (repeat (first | exact Sub.nil _ | refine Sub.cons rfl ?_))) (fun w hw => hw.perm (perm_up z_3 (perm_up z_3 (.refl _))))
  repeat refine y_ ?_
  refine g_region ?_
  refine m_ ?_
  refine m_ ?_
  refine m_ ?_
  refine f_ (s_nilCheck rfl) ?_
  refine f_ z_1 ?_
  refine f_ z_1 ?_
  (first | refine gl_store_blkC (pre := [_, _, _, _, _, _, _, _, _, _, _, _, _, _, _]) (post := [_, _, _]) rfl rfl z_6 z_10 z_10 z_10 ?_ | refine gl_store_blk rfl rfl z_6 z_10 z_2 z_10 ?_)
  refine f_ (s_nilCheck rfl) ?_
  refine f_ z_1 ?_
  refine f_ z_1 ?_
  (first | refine gl_store_blkC (pre := [_, _, _, _, _, _, _, _, _, _, _, _, _, _, _, _]) (post := [_, _]) rfl rfl z_6 z_10 z_10 z_10 ?_ | refine gl_store_blk rfl rfl z_6 z_10 z_2 z_10 ?_)
  refine f_ (s_nilCheck rfl) ?_
  refine f_ z_1 ?_
  refine f_ z_1 ?_
  (first | refine gl_store_blkC (pre := [_, _, _, _, _, _, _, _, _, _, _, _, _, _, _, _, _]) (post := [_]) rfl rfl z_6 z_10 z_10 z_10 ?_ | refine gl_store_blk rfl rfl z_6 z_10 z_2 z_10 ?_)
  refine gl_nil ?_
  repeat refine y_ ?_
  refine g_pull (H' := blkMsg g3 m :: mdH X ⟨{ p with base := m.p.index, bt := m.p.lt, conf := m.p.conf, l := nl, img := pb, commit := m.p.index, piece := [], pix := 0, pt := 0 }, a1, outs, oa0, oc0⟩) (fun w hw => hw.perm (perm_up z_3 (perm_up z_3 (.refl _)))) ?_
  repeat refine y_ ?_
  refine g_region ?_
  refine m_ ?_
  refine f_ z_1 ?_
  refine r_ (by first | exact s_load_blk rfl z_3 a13_1 | exact s_load1 rfl (fun w hw => peekB hw (by assumption) a13_1)) ?_
  refine f_ z_1 ?_
  refine r_ (by first | exact s_load_blk rfl z_3 a13_4 | exact s_load1 rfl (fun w hw => peekB hw (by assumption) a13_4)) ?_
  refine f_ ((s_bld (cells := (mmC (ackMM true m.p.index)).toArray) rfl z_7).eq (v' := mmA (ackMM true m.p.index)) rfl) ?_
  refine gl_call [blkMsg g3 m] rfl (say_ct X ⟨{ p with base := m.p.index, bt := m.p.lt, conf := m.p.conf, l := nl, img := pb, commit := m.p.index, piece := [], pix := 0, pt := 0 }, a1, outs, oa0, oc0⟩ m.p.frm (ackMM true m.p.index) (by simp only; omega)) (fun w hw => hw.perm (perm_up z_3 (perm_up z_3 (perm_up z_3 (perm_up z_3 (perm_up z_3 (perm_up z_3 (.refl _)))))))) (fun _ _ _ => trivial) rfl ?_; rintro v A ⟨rfl, oa, oc, rfl⟩
  refine gl_nil ?_
  repeat refine y_ ?_
  exact at_end0 rfl _ (MdP.said X ⟨p, a, outs, oa0, oc0⟩ { p with base := m.p.index, bt := m.p.lt, conf := m.p.conf, l := nl, img := pb, commit := m.p.index, piece := [], pix := 0, pt := 0 } a1 outs ⟨ackM p m.p.frm true m.p.index, none, 0, none, 0⟩ oa oc _ rfl (fun h => mok_nil h _ rfl rfl)) (fun w hw => by rw [List.append_nil]; exact Hp.left hw)
end Go.Proofs.YtodcghipfolejaaGreat.Rf
/- A mind's calls: leads. -/
namespace Go.Proofs.YtodcghipfolejaaGreat.Rf
open Go Go.Sl
set_option linter.unusedVariables false
set_option linter.unusedSimpArgs false
-- ARR

theorem hp_rot {F : Snap} {w : World} {x : As} {A Z : List As} (h : Hp F w (x :: (A ++ Z))) : Hp F w (A ++ (Z ++ [x])) := by
  rw [← List.append_assoc]
  exact h.perm (List.perm_append_comm (l₁ := [x]) (l₂ := A ++ Z))
theorem pf_leads1 {p : RP} (h : PFit p) (m : MP) : PFit (leads1 p m) := by
  have h1 := pf_follow h p.term m.frm h.term
  exact ⟨h1.base, h1.len, h1.cl, h1.dat, h1.img, h1.votes, h1.peers, h1.prs, ⟨Int.le_refl _, by show (0 : Int) ≤ _; omega⟩, h1.term, h1.commit⟩
set_option maxRecDepth 8000 in
set_option maxHeartbeats 4000000 in
theorem leads_ct (X : Nat) (d : MD) (m : MM) (hf : PFit d.p) (hm : MFit m.p) (hpc : d.p.piece.length ≤ 1000000000) (hl : d.p.l.length ≤ 99000) (ho : d.outs.length ≤ 100000) : Ct Tryz.prog 59 [Ptr X, mmA m] (fun h => MOk h m) (mdH X d) (MdP X d (leadsP d.p m.p) (leadsM d.p m.p) (.tuple #[])) := by
  obtain ⟨p, a, outs, oa0, oc0⟩ := d
  simp only at hf ho hpc hl
  refine ct_enter 45 Tryz.func59 rfl rfl rfl ?_
  intro F hmo
  obtain ⟨q1, hq1⟩ : ∃ q, q = decide (m.p.term < p.term) := ⟨_, rfl⟩
  obtain ⟨q2, hq2⟩ : ∃ q, q = decide (p.role = 2) := ⟨_, rfl⟩
  obtain ⟨q3, hq3⟩ : ∃ q, q = decide (m.p.kind = 3) := ⟨_, rfl⟩
  repeat refine y_ ?_
  refine g_region ?_
  refine gl_boxA rfl rfl ?_; intro g3
  refine gl_nil ?_
  repeat refine y_ ?_
  refine g_draw ([1, 6], [0, 1, 0, 4, 12, 28, 60, 127], []) [.blk X (mdO ⟨p, a, outs, oa0, oc0⟩), blkMsg g3 m] 8 rfl ?_
  refine w_ 0 rfl z_1 ?_
  (first | refine ga_read_k 1 rfl z_5 (s_load_blk rfl .del a13_3) (by (first | exact fun _ h => h | (repeat first | exact sub_nil | refine sub_cons z_4 ?_))) rfl rfl rfl z_7 ?_ | refine ga_readF 1 rfl (s_load1 rfl (fun w hw => peekB hw (by assumption) a13_3)) (by (first | exact fun _ h => h | (repeat first | exact sub_nil | refine sub_cons z_4 ?_))) rfl rfl rfl z_7 ?_)
  refine w_ 2 rfl (s_move rfl) ?_
  refine w_ 3 rfl (s_nilCheck rfl) ?_
  refine w_ 4 rfl z_1 ?_
  refine w_ 5 rfl z_1 ?_
  (first | refine ga_read_k 6 rfl z_5 (s_load_blk rfl .del a19_1) (by (first | exact fun _ h => h | (repeat first | exact sub_nil | refine sub_cons z_4 ?_))) rfl rfl rfl z_7 ?_ | refine ga_readF 6 rfl (s_load1 rfl (fun w hw => peekB hw (by assumption) a19_1)) (by (first | exact fun _ h => h | (repeat first | exact sub_nil | refine sub_cons z_4 ?_))) rfl rfl rfl z_7 ?_)
  refine w_ 7 rfl ((s_lss rfl rfl).eq (congrArg Value.bool hq1.symm)) ?_
  refine ga_done z_7 ?_
  repeat refine y_ ?_
  cases q1
  rotate_left
  · have h1 := of_decide_eq_true hq1.symm
    have e1 : leadsP p m.p = p := by rw [leadsP, if_pos (.inl h1)]
    have e2 : leadsM p m.p = [ackM p m.p.frm false 0] := by rw [leadsM, if_pos h1]
    simp only [e1, e2]
    repeat refine y_ ?_
    refine g_region ?_
    refine m_ ?_
    refine f_ z_1 ?_
    refine r_ (by first | exact s_load_blk rfl z_3 a13_1 | exact s_load1 rfl (fun w hw => peekB hw (by assumption) a13_1)) ?_
    refine f_ ((s_bld (cells := (mmC (ackMM false 0)).toArray) rfl z_7).eq (v' := mmA (ackMM false 0)) rfl) ?_
    refine gl_call [blkMsg g3 m] rfl (say_ct X ⟨p, a, outs, oa0, oc0⟩ m.p.frm (ackMM false 0) (by simp only; omega)) (fun w hw => hw.perm (perm_up z_3 (perm_up z_3 (perm_up z_3 (perm_up z_3 (perm_up z_3 (perm_up z_3 (.refl _)))))))) (fun _ _ _ => trivial) rfl ?_; rintro v A ⟨rfl, oa, oc, rfl⟩
    refine gl_nil ?_
    repeat refine y_ ?_
    refine g_ret ?_
    exact at_end0 rfl _ (MdP.said X ⟨p, a, outs, oa0, oc0⟩ p a outs ⟨ackM p m.p.frm false 0, none, 0, none, 0⟩ oa oc _ rfl (fun h => mok_nil h _ rfl rfl)) (fun w hw => by rw [List.append_nil]; exact Hp.left hw)
  have h1 := of_decide_eq_false hq1.symm
  repeat refine y_ ?_
  refine g_region ?_
  refine m_ ?_
  refine f_ (s_nilCheck rfl) ?_
  refine f_ z_1 ?_
  refine f_ z_1 ?_
  refine r_ (by first | exact s_load_blk rfl z_3 a19_3 | exact s_load1 rfl (fun w hw => peekB hw (by assumption) a19_3)) ?_
  refine f_ ((s_eql rfl rfl).eq (congrArg Value.bool hq2.symm)) ?_
  refine gl_nil ?_
  repeat refine y_ ?_
  cases q2
  rotate_left
  · have h2 := of_decide_eq_true hq2.symm
    have e1 : leadsP p m.p = p := by rw [leadsP, if_pos (.inr h2)]
    have e2 : leadsM p m.p = [] := by rw [leadsM, if_neg h1, if_pos h2]
    simp only [e1, e2]
    repeat refine y_ ?_
    refine g_ret ?_
    exact at_end0 rfl (mdH X ⟨p, a, outs, oa0, oc0⟩ ++ []) (MdP.same X ⟨p, a, outs, oa0, oc0⟩ ⟨p, a, outs, oa0, oc0⟩ _ rfl) (fun w hw => hw.drop)
  have h2 := of_decide_eq_false hq2.symm
  have e1 : leadsP p m.p = if m.p.kind = 3 then tkP (leads1 p m.p) m.p else pcP (leads1 p m.p) m.p := by rw [leadsP, if_neg (by rintro (h | h); exact h1 h; exact h2 h)]
  have e2 : leadsM p m.p = if m.p.kind = 3 then tkM (leads1 p m.p) m.p else pcM (leads1 p m.p) m.p := by rw [leadsM, if_neg h1, if_neg h2]
  rw [e1, e2]
  have hf1 := pf_leads1 hf m.p
  repeat refine y_ ?_
  refine g_draw ([5, 7], [0, 0, 2, 6, 14, 30, 0, 64, 255], [8]) [.blk X (mdO ⟨p, a, outs, oa0, oc0⟩), blkMsg g3 m] 9 rfl ?_
  refine w_ 0 rfl (s_move rfl) ?_
  refine w_ 1 rfl (s_move rfl) ?_
  refine w_ 2 rfl (s_nilCheck rfl) ?_
  refine w_ 3 rfl z_1 ?_
  refine w_ 4 rfl z_1 ?_
  (first | refine ga_read_k 5 rfl z_5 (s_load_blk rfl .del a19_1) (by (first | exact fun _ h => h | (repeat first | exact sub_nil | refine sub_cons z_4 ?_))) rfl rfl rfl z_7 ?_ | refine ga_readF 5 rfl (s_load1 rfl (fun w hw => peekB hw (by assumption) a19_1)) (by (first | exact fun _ h => h | (repeat first | exact sub_nil | refine sub_cons z_4 ?_))) rfl rfl rfl z_7 ?_)
  refine w_ 6 rfl z_1 ?_
  (first | refine ga_read_k 7 rfl z_5 (s_load_blk rfl .del a13_1) (by (first | exact fun _ h => h | (repeat first | exact sub_nil | refine sub_cons z_4 ?_))) rfl rfl rfl z_7 ?_ | refine ga_readF 7 rfl (s_load1 rfl (fun w hw => peekB hw (by assumption) a13_1)) (by (first | exact fun _ h => h | (repeat first | exact sub_nil | refine sub_cons z_4 ?_))) rfl rfl rfl z_7 ?_)
  refine ga_one 8 rfl z_7 ?_
  refine gl_call [blkMsg g3 m] rfl (follow_ct X ⟨p, a, outs, oa0, oc0⟩ p.term m.p.frm) (fun w hw => hw.perm (perm_up z_3 (perm_up z_3 (perm_up z_3 (perm_up z_3 (perm_up z_3 (perm_up z_3 (.refl _)))))))) (fun _ _ _ => trivial) rfl ?_; rintro v A ⟨rfl, d2, Z2, e3, o2, rfl, f2⟩
  refine gl_nil ?_
  refine at_ga (.inl z_7) ?_
  refine ga_done z_7 ?_
  repeat refine y_ ?_
  obtain ⟨p2, a2, outs2, oa2, oc2⟩ := d2
  simp only at e3
  subst e3
  have l2 := outs_len o2
  simp only [List.length_nil] at l2
  simp only [List.append_nil] at o2
  refine g_pull (H' := blkMsg g3 m :: (mdH X ⟨followP p p.term m.p.frm, a2, outs2, oa2, oc2⟩ ++ Z2)) (fun w hw => hw.perm List.perm_append_comm) ?_
  repeat refine y_ ?_
  refine g_region ?_
  refine m_ ?_
  refine f_ (s_nilCheck rfl) ?_
  refine f_ z_1 ?_
  refine f_ z_1 ?_
  (first | refine gl_store_blkC (pre := [_, _, _, _, _, _, _, _, _, _, _]) (post := [_, _, _, _, _, _, _]) rfl rfl z_6 z_10 z_10 z_10 ?_ | refine gl_store_blk rfl rfl z_6 z_10 z_2 z_10 ?_)
  refine gl_nil ?_
  repeat refine y_ ?_
  refine g_pull (H' := blkMsg g3 m :: (mdH X ⟨leads1 p m.p, a2, outs2, oa2, oc2⟩ ++ Z2)) (fun w hw => hw) ?_
  repeat refine y_ ?_
  refine g_region ?_
  refine f_ z_1 ?_
  refine r_ (by first | exact s_load_blk rfl z_3 a13_0 | exact s_load1 rfl (fun w hw => peekB hw (by assumption) a13_0)) ?_
  refine f_ ((s_eql rfl rfl).eq (congrArg Value.bool hq3.symm)) ?_
  refine gl_nil ?_
  repeat refine y_ ?_
  cases q3
  · have h3 := of_decide_eq_false hq3.symm
    rw [if_neg h3, if_neg h3]
    repeat refine y_ ?_
    refine g_region ?_
    refine m_ ?_
    refine r_ ((s_load_blkW rfl z_3 z_10).eq (v' := mmA m) rfl) ?_
    refine gl_call (Z2 ++ [blkMsg g3 m]) rfl (piece_ct X ⟨leads1 p m.p, a2, outs2, oa2, oc2⟩ m hf1 hm hpc (by simp only; omega)) (fun w hw => hp_rot hw) (fun h hh _ => hmo.le hh) rfl ?_; rintro v A ⟨rfl, d3, Z3, e3, o3, rfl, f3⟩
    refine gl_nil ?_
    repeat refine y_ ?_
    exact at_end0 rfl (mdH X d3 ++ (Z3 ++ (Z2 ++ [blkMsg g3 m]))) ⟨rfl, d3, _, e3, by rw [o3, o2], rfl, fun h f hs => by
      obtain ⟨s3, s2⟩ := Sat.two2 hs
      exact f3 h (f2 h f (Sat.two2 s2).1) s3⟩ (fun w hw => by rwa [List.append_assoc] at hw)
  · have h3 := of_decide_eq_true hq3.symm
    rw [if_pos h3, if_pos h3]
    repeat refine y_ ?_
    refine g_region ?_
    refine m_ ?_
    refine r_ ((s_load_blkW rfl z_3 z_10).eq (v' := mmA m) rfl) ?_
    refine gl_call (Z2 ++ [blkMsg g3 m]) rfl (take_ct X ⟨leads1 p m.p, a2, outs2, oa2, oc2⟩ m hf1 hm hl (by simp only; omega)) (fun w hw => hp_rot hw) (fun h hh _ => hmo.le hh) rfl ?_; rintro v A ⟨rfl, d3, Z3, e3, o3, rfl, f3⟩
    refine gl_nil ?_
    repeat refine y_ ?_
    exact at_end0 rfl (mdH X d3 ++ (Z3 ++ (Z2 ++ [blkMsg g3 m]))) ⟨rfl, d3, _, e3, by rw [o3, o2], rfl, fun h f hs => by
      obtain ⟨s3, s2⟩ := Sat.two2 hs
      exact f3 h (f2 h f (Sat.two2 s2).1) s3⟩ (fun w hw => by rwa [List.append_assoc] at hw)
end Go.Proofs.YtodcghipfolejaaGreat.Rf
