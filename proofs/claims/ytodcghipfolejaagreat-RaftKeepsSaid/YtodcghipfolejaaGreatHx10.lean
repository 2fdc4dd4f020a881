import Derived.Test.YtodcghipfolejaaGreatHx9
/- A mind's calls: vote, grant. -/
namespace Go.Proofs.YtodcghipfolejaaGreat.Rf
open Go Go.Sl
set_option linter.unusedVariables false
set_option linter.unusedSimpArgs false
-- ARR

abbrev blkMsg (b : Nat) (m : MM) : As := .blk b (.cells (mmC m).toArray 38)
theorem MdP.said (X : Nat) (d : MD) (p1 : RP) (a1 : RA) (outs : List MM) (mm : MM) (oa : Option Addr) (oc : Nat) (r : Value) (ho : outs = d.outs) (hm : ∀ h, MOk h mm) : MdP X d p1 [mm.p] r r (mdH X ⟨p1, a1, outs ++ [mm], oa, oc⟩ ++ []) :=
  ⟨rfl, ⟨p1, a1, outs ++ [mm], oa, oc⟩, [], rfl, by rw [List.map_append, ho]; rfl, rfl, fun h f _ m hm2 => by
    rcases List.mem_append.1 hm2 with h1 | h1
    · exact f m (ho ▸ h1)
    · rw [List.mem_singleton.1 h1]; exact hm h⟩
theorem mok_nil (h : Heap) (m : MP) (he : m.ents = []) (hk : m.conf = []) : MOk h ⟨m, none, 0, none, 0⟩ := ⟨by rw [he]; exact RdS.nil _ _, by rw [hk]; exact RdS.nil _ _, by rw [he]; exact Nat.le_refl _⟩
set_option maxRecDepth 8000 in
set_option maxHeartbeats 4000000 in
theorem vote_ct (X : Nat) (d : MD) (m : MM) (hf : PFit d.p) (ho : d.outs.length ≤ 1000000) : Ct Tryz.prog 57 [Ptr X, mmA m] (fun _ => True) (mdH X d) (MdP X d (voteP d.p m.p) [grantM (voteP d.p m.p) m.p.frm (voteOk d.p m.p)] (.tuple #[])) := by
  obtain ⟨p, a, outs, oa0, oc0⟩ := d
  simp only at hf ho
  refine ct_enter 68 Tryz.func57 rfl rfl rfl ?_
  intro F _
  refine g_ownN (a := a.la) z_3 (fun _ hcap _ => ?_)
  obtain ⟨q1, hq1⟩ : ∃ q, q = decide (m.p.term = p.term) := ⟨_, rfl⟩
  obtain ⟨q2, hq2⟩ : ∃ q, q = decide (p.role = 0) := ⟨_, rfl⟩
  obtain ⟨q3, hq3⟩ : ∃ q, q = decide (p.vote = 0) := ⟨_, rfl⟩
  obtain ⟨q4, hq4⟩ : ∃ q, q = decide (p.vote = m.p.frm) := ⟨_, rfl⟩
  obtain ⟨q5, hq5⟩ : ∃ q, q = newerL p.g m.p.index m.p.lt := ⟨_, rfl⟩
  have hv : voteOk p m.p = (q1 && (q2 && ((q3 || q4) && q5))) := by rw [voteOk, hq1, hq2, hq3, hq4, hq5]
  obtain ⟨ok, hok⟩ : ∃ ok, ok = voteOk p m.p := ⟨_, rfl⟩
  repeat refine y_ ?_
  refine g_region ?_
  refine gl_boxA rfl rfl ?_; intro g3
  refine gl_nil ?_
  repeat refine y_ ?_
  refine g_cutK [(0, Ptr X), (3, Ptr g3), (4, .bool ok)] (blkMsg g3 m :: mdH X ⟨p, a, outs, oa0, oc0⟩) ?_ ?_
  · rw [hok, hv]
    rcases (show q1 = false ∨ (q1 = true ∧ q2 = false) ∨ (q1 = true ∧ q2 = true ∧ q3 = true) ∨ (q1 = true ∧ q2 = true ∧ q3 = false ∧ q4 = true) ∨ (q1 = true ∧ q2 = true ∧ q3 = false ∧ q4 = false) by cases q1 <;> cases q2 <;> cases q3 <;> cases q4 <;> simp) with rfl | ⟨rfl, rfl⟩ | ⟨rfl, rfl, rfl⟩ | ⟨rfl, rfl, rfl, rfl⟩ | ⟨rfl, rfl, rfl, rfl⟩
    all_goals
      repeat refine y_ ?_
      refine g_draw ([1, 6, 13, 21, 28, 30, 39, 41, 43], [0, 1, 0, 4, 12, 28, 60, 127, 255, 511, 1023, 2047, 4095, 8191, 16383, 32767, 65535, 131071, 262143, 524287, 1048575, 2097151, 4194303, 8388607, 16777215, 33554431, 67108863, 134217727, 268435455, 16777215, 553648127, 2147483647, 4294967295, 8589934591, 17179869183, 34359738367, 68719476735, 137438953471, 274877906943, 549755813887, 34359738367, 1133871366143, 34359738367, 4432406249471, 17592186044415, 35184372088831, 70368744177663], []) [.blk X (mdO ⟨p, a, outs, oa0, oc0⟩), blkMsg g3 m] 47 rfl ?_
      refine w_ 0 rfl z_1 ?_
      (first | refine ga_read_k 1 rfl z_5 (s_load_blk rfl .del a13_3) (by (first | exact fun _ h => h | (repeat first | exact sub_nil | refine sub_cons z_4 ?_))) rfl rfl rfl z_7 ?_ | refine ga_readF 1 rfl (s_load1 rfl (fun w hw => peekB hw (by assumption) a13_3)) (by (first | exact fun _ h => h | (repeat first | exact sub_nil | refine sub_cons z_4 ?_))) rfl rfl rfl z_7 ?_)
      refine w_ 2 rfl (s_move rfl) ?_
      refine w_ 3 rfl (s_nilCheck rfl) ?_
      refine w_ 4 rfl z_1 ?_
      refine w_ 5 rfl z_1 ?_
      (first | refine ga_read_k 6 rfl z_5 (s_load_blk rfl .del a19_1) (by (first | exact fun _ h => h | (repeat first | exact sub_nil | refine sub_cons z_4 ?_))) rfl rfl rfl z_7 ?_ | refine ga_readF 6 rfl (s_load1 rfl (fun w hw => peekB hw (by assumption) a19_1)) (by (first | exact fun _ h => h | (repeat first | exact sub_nil | refine sub_cons z_4 ?_))) rfl rfl rfl z_7 ?_)
      refine w_ 7 rfl ((s_eql rfl rfl).eq (congrArg Value.bool hq1.symm)) ?_
      refine w_ 8 rfl (s_move rfl) ?_
      (first | refine s_ 9 ?_ | refine t_ 9 ?_ | refine ga_free_g 9 rfl (s_move rfl) rfl rfl rfl rfl rfl rfl z_7 ?_)
      (first | refine s_ 10 ?_ | refine t_ 10 ?_ | refine ga_free_g 10 rfl (s_nilCheck rfl) rfl rfl rfl rfl rfl rfl z_7 ?_)
      (first | refine s_ 11 ?_ | refine t_ 11 ?_ | refine ga_free_g 11 rfl z_1 rfl rfl rfl rfl rfl rfl z_7 ?_)
      (first | refine s_ 12 ?_ | refine t_ 12 ?_ | refine ga_free_g 12 rfl z_1 rfl rfl rfl rfl rfl rfl z_7 ?_)
      (first | refine s_ 13 ?_ | refine t_ 13 ?_ | refine ga_read_kg 13 rfl z_5 (s_load_blk rfl .del a19_3) (by (first | exact fun _ h => h | (repeat first | exact sub_nil | refine sub_cons z_4 ?_))) rfl rfl rfl rfl rfl rfl z_7 ?_ | refine ga_readF_g 13 rfl (s_load1 rfl (fun w hw => peekB hw (by assumption) a19_3)) (by (first | exact fun _ h => h | (repeat first | exact sub_nil | refine sub_cons z_4 ?_))) rfl rfl rfl rfl rfl rfl z_7 ?_)
      (first | refine s_ 14 ?_ | refine t_ 14 ?_ | refine ga_free_g 14 rfl ((s_eql rfl rfl).eq (congrArg Value.bool hq2.symm)) rfl rfl rfl rfl rfl rfl z_7 ?_)
      refine w_ 15 rfl z_8 ?_
      refine w_ 16 rfl (s_move rfl) ?_
      (first | refine s_ 17 ?_ | refine t_ 17 ?_ | refine ga_free_g 17 rfl (s_move rfl) rfl rfl rfl rfl rfl rfl z_7 ?_)
      (first | refine s_ 18 ?_ | refine t_ 18 ?_ | refine ga_free_g 18 rfl (s_nilCheck rfl) rfl rfl rfl rfl rfl rfl z_7 ?_)
      (first | refine s_ 19 ?_ | refine t_ 19 ?_ | refine ga_free_g 19 rfl z_1 rfl rfl rfl rfl rfl rfl z_7 ?_)
      (first | refine s_ 20 ?_ | refine t_ 20 ?_ | refine ga_free_g 20 rfl z_1 rfl rfl rfl rfl rfl rfl z_7 ?_)
      (first | refine s_ 21 ?_ | refine t_ 21 ?_ | refine ga_read_kg 21 rfl z_5 (s_load_blk rfl .del a19_2) (by (first | exact fun _ h => h | (repeat first | exact sub_nil | refine sub_cons z_4 ?_))) rfl rfl rfl rfl rfl rfl z_7 ?_ | refine ga_readF_g 21 rfl (s_load1 rfl (fun w hw => peekB hw (by assumption) a19_2)) (by (first | exact fun _ h => h | (repeat first | exact sub_nil | refine sub_cons z_4 ?_))) rfl rfl rfl rfl rfl rfl z_7 ?_)
      (first | refine s_ 22 ?_ | refine t_ 22 ?_ | refine ga_free_g 22 rfl ((s_eql rfl rfl).eq (congrArg Value.bool hq3.symm)) rfl rfl rfl rfl rfl rfl z_7 ?_)
      (first | refine s_ 23 ?_ | refine t_ 23 ?_ | refine ga_free_g 23 rfl (s_move rfl) rfl rfl rfl rfl rfl rfl z_7 ?_)
      (first | refine s_ 24 ?_ | refine t_ 24 ?_ | refine ga_free_g 24 rfl (s_move rfl) rfl rfl rfl rfl rfl rfl z_7 ?_)
      (first | refine s_ 25 ?_ | refine t_ 25 ?_ | refine ga_free_g 25 rfl (s_nilCheck rfl) rfl rfl rfl rfl rfl rfl z_7 ?_)
      (first | refine s_ 26 ?_ | refine t_ 26 ?_ | refine ga_free_g 26 rfl z_1 rfl rfl rfl rfl rfl rfl z_7 ?_)
      (first | refine s_ 27 ?_ | refine t_ 27 ?_ | refine ga_free_g 27 rfl z_1 rfl rfl rfl rfl rfl rfl z_7 ?_)
      (first | refine s_ 28 ?_ | refine t_ 28 ?_ | refine ga_read_kg 28 rfl z_5 (s_load_blk rfl .del a19_2) (by (first | exact fun _ h => h | (repeat first | exact sub_nil | refine sub_cons z_4 ?_))) rfl rfl rfl rfl rfl rfl z_7 ?_ | refine ga_readF_g 28 rfl (s_load1 rfl (fun w hw => peekB hw (by assumption) a19_2)) (by (first | exact fun _ h => h | (repeat first | exact sub_nil | refine sub_cons z_4 ?_))) rfl rfl rfl rfl rfl rfl z_7 ?_)
      (first | refine s_ 29 ?_ | refine t_ 29 ?_ | refine ga_free_g 29 rfl z_1 rfl rfl rfl rfl rfl rfl z_7 ?_)
      (first | refine s_ 30 ?_ | refine t_ 30 ?_ | refine ga_read_kg 30 rfl z_5 (s_load_blk rfl .del a13_1) (by (first | exact fun _ h => h | (repeat first | exact sub_nil | refine sub_cons z_4 ?_))) rfl rfl rfl rfl rfl rfl z_7 ?_ | refine ga_readF_g 30 rfl (s_load1 rfl (fun w hw => peekB hw (by assumption) a13_1)) (by (first | exact fun _ h => h | (repeat first | exact sub_nil | refine sub_cons z_4 ?_))) rfl rfl rfl rfl rfl rfl z_7 ?_)
      (first | refine s_ 31 ?_ | refine t_ 31 ?_ | refine ga_free_g 31 rfl ((s_eql rfl rfl).eq (congrArg Value.bool hq4.symm)) rfl rfl rfl rfl rfl rfl z_7 ?_)
      (first | refine s_ 32 ?_ | refine t_ 32 ?_ | refine ga_free_g 32 rfl z_8 rfl rfl rfl rfl rfl rfl z_7 ?_)
      refine w_ 33 rfl z_8 ?_
      refine w_ 34 rfl (s_move rfl) ?_
      (first | refine s_ 35 ?_ | refine t_ 35 ?_ | refine ga_free_g 35 rfl (s_move rfl) rfl rfl rfl rfl rfl rfl z_7 ?_)
      (first | refine s_ 36 ?_ | refine t_ 36 ?_ | refine ga_free_g 36 rfl (s_nilCheck rfl) rfl rfl rfl rfl rfl rfl z_7 ?_)
      (first | refine s_ 37 ?_ | refine t_ 37 ?_ | refine ga_free_g 37 rfl z_1 rfl rfl rfl rfl rfl rfl z_7 ?_)
      (first | refine s_ 38 ?_ | refine t_ 38 ?_ | refine ga_free_g 38 rfl z_1 rfl rfl rfl rfl rfl rfl z_7 ?_)
      (first | refine s_ 39 ?_ | refine t_ 39 ?_ | refine ga_read_kg 39 rfl z_5 ((s_load_blkN rfl .del z_10).eq (v' := (p.lm a).v) rfl) (by (first | exact fun _ h => h | (repeat first | exact sub_nil | refine sub_cons z_4 ?_))) rfl rfl rfl rfl rfl rfl z_7 ?_)
      (first | refine s_ 40 ?_ | refine t_ 40 ?_ | refine ga_free_g 40 rfl z_1 rfl rfl rfl rfl rfl rfl z_7 ?_)
      (first | refine s_ 41 ?_ | refine t_ 41 ?_ | refine ga_read_kg 41 rfl z_5 (s_load_blk rfl .del a13_4) (by (first | exact fun _ h => h | (repeat first | exact sub_nil | refine sub_cons z_4 ?_))) rfl rfl rfl rfl rfl rfl z_7 ?_ | refine ga_readF_g 41 rfl (s_load1 rfl (fun w hw => peekB hw (by assumption) a13_4)) (by (first | exact fun _ h => h | (repeat first | exact sub_nil | refine sub_cons z_4 ?_))) rfl rfl rfl rfl rfl rfl z_7 ?_)
      (first | refine s_ 42 ?_ | refine t_ 42 ?_ | refine ga_free_g 42 rfl z_1 rfl rfl rfl rfl rfl rfl z_7 ?_)
      (first | refine s_ 43 ?_ | refine t_ 43 ?_ | refine ga_read_kg 43 rfl z_5 (s_load_blk rfl .del a13_5) (by (first | exact fun _ h => h | (repeat first | exact sub_nil | refine sub_cons z_4 ?_))) rfl rfl rfl rfl rfl rfl z_7 ?_ | refine ga_readF_g 43 rfl (s_load1 rfl (fun w hw => peekB hw (by assumption) a13_5)) (by (first | exact fun _ h => h | (repeat first | exact sub_nil | refine sub_cons z_4 ?_))) rfl rfl rfl rfl rfl rfl z_7 ?_)
      refine ga_one 44 rfl z_7 ?_
      (first|refine u_ ?_|(refine v_ ?_; refine gl_callp rfl (Newer_ct (p.lm a) m.p.index m.p.lt (hf.fit a hcap)) (fun h hh ⟨bs, hb⟩ => Sat.rd (a := a.la) hb z_3) rfl ?_; rw [show newerL (p.lm a) m.p.index m.p.lt = q5 from hq5.symm]))
      refine gl_nil ?_
      refine at_ga (.inl z_7) ?_
      refine w_ 45 rfl z_8 ?_
      refine w_ 46 rfl (s_assign rfl) ?_
      refine ga_done z_7 ?_
      repeat refine y_ ?_
      exact at_cut (by (repeat (first | exact Sub.nil _ | refine Sub.cons rfl ?_))) (fun w hw => hw)
  rw [← hok]
  repeat refine y_ ?_
  refine g_region ?_
  refine m_ ?_
  refine gl_nil ?_
  repeat refine y_ ?_
  cases ok
  · have e : voteP p m.p = p := by rw [voteP, ← hok, if_neg (by decide)]
    simp only [e]
    repeat refine y_ ?_
    refine g_region ?_
    refine m_ ?_
    refine f_ z_1 ?_
    refine r_ (by first | exact s_load_blk rfl z_3 a13_1 | exact s_load1 rfl (fun w hw => peekB hw (by assumption) a13_1)) ?_
    refine m_ ?_
    refine f_ ((s_bld (cells := (mmC ⟨⟨2, 0, 0, 0, 0, 0, 0, false, [], [], 0, 0, []⟩, none, 0, none, 0⟩).toArray) rfl z_7).eq (v' := mmA ⟨⟨2, 0, 0, 0, 0, 0, 0, false, [], [], 0, 0, []⟩, none, 0, none, 0⟩) rfl) ?_
    refine gl_call [blkMsg g3 m] rfl (say_ct X ⟨p, a, outs, oa0, oc0⟩ m.p.frm ⟨⟨2, 0, 0, 0, 0, 0, 0, false, [], [], 0, 0, []⟩, none, 0, none, 0⟩ (by simp only; omega)) (fun w hw => hw.perm (perm_up z_3 (perm_up z_3 (perm_up z_3 (perm_up z_3 (perm_up z_3 (perm_up z_3 (.refl _)))))))) (fun _ _ _ => trivial) rfl ?_; rintro v A ⟨rfl, oa, oc, rfl⟩
    refine gl_nil ?_
    repeat refine y_ ?_
    exact at_end0 rfl _ (MdP.said X ⟨p, a, outs, oa0, oc0⟩ p a outs ⟨grantM p m.p.frm false, none, 0, none, 0⟩ oa oc _ rfl (fun h => mok_nil h _ rfl rfl)) (fun w hw => by rw [List.append_nil]; exact Hp.left hw)
  · have e : voteP p m.p = { p with vote := m.p.frm, ticks := 0 } := by rw [voteP, ← hok, if_pos rfl]
    simp only [e]
    repeat refine y_ ?_
    refine g_region ?_
    refine m_ ?_
    refine m_ ?_
    refine f_ z_1 ?_
    refine r_ (by first | exact s_load_blk rfl z_3 a13_1 | exact s_load1 rfl (fun w hw => peekB hw (by assumption) a13_1)) ?_
    refine f_ (s_nilCheck rfl) ?_
    refine f_ z_1 ?_
    refine f_ z_1 ?_
    (first | refine gl_store_blkC (pre := [_, _]) (post := [_, _, _, _, _, _, _, _, _, _, _, _, _, _, _, _]) rfl rfl z_6 z_10 z_10 z_10 ?_ | refine gl_store_blk rfl rfl z_6 z_10 z_2 z_10 ?_)
    refine f_ (s_nilCheck rfl) ?_
    refine f_ z_1 ?_
    refine f_ z_1 ?_
    (first | refine gl_store_blkC (pre := [_, _, _, _, _, _, _, _, _, _, _]) (post := [_, _, _, _, _, _, _]) rfl rfl z_6 z_10 z_10 z_10 ?_ | refine gl_store_blk rfl rfl z_6 z_10 z_2 z_10 ?_)
    refine gl_nil ?_
    repeat refine y_ ?_
    refine g_pull (H' := blkMsg g3 m :: mdH X ⟨{ p with vote := m.p.frm, ticks := 0 }, a, outs, oa0, oc0⟩) (fun w hw => hw) ?_
    repeat refine y_ ?_
    refine g_region ?_
    refine m_ ?_
    refine f_ z_1 ?_
    refine r_ (by first | exact s_load_blk rfl z_3 a13_1 | exact s_load1 rfl (fun w hw => peekB hw (by assumption) a13_1)) ?_
    refine m_ ?_
    refine f_ ((s_bld (cells := (mmC ⟨⟨2, 0, 0, 0, 0, 0, 0, true, [], [], 0, 0, []⟩, none, 0, none, 0⟩).toArray) rfl z_7).eq (v' := mmA ⟨⟨2, 0, 0, 0, 0, 0, 0, true, [], [], 0, 0, []⟩, none, 0, none, 0⟩) rfl) ?_
    refine gl_call [blkMsg g3 m] rfl (say_ct X ⟨{ p with vote := m.p.frm, ticks := 0 }, a, outs, oa0, oc0⟩ m.p.frm ⟨⟨2, 0, 0, 0, 0, 0, 0, true, [], [], 0, 0, []⟩, none, 0, none, 0⟩ (by simp only; omega)) (fun w hw => hw.perm (perm_up z_3 (perm_up z_3 (perm_up z_3 (perm_up z_3 (perm_up z_3 (perm_up z_3 (.refl _)))))))) (fun _ _ _ => trivial) rfl ?_; rintro v A ⟨rfl, oa, oc, rfl⟩
    refine gl_nil ?_
    repeat refine y_ ?_
    exact at_end0 rfl _ (MdP.said X ⟨p, a, outs, oa0, oc0⟩ { p with vote := m.p.frm, ticks := 0 } a outs ⟨grantM { p with vote := m.p.frm, ticks := 0 } m.p.frm true, none, 0, none, 0⟩ oa oc _ rfl (fun h => mok_nil h _ rfl rfl)) (fun w hw => by rw [List.append_nil]; exact Hp.left hw)
/-! ## grant -/
def VotesOk (p : RP) : Prop := pick (inB p.votes) 5 = p.votes
theorem pf_grant1 {p : RP} (h : PFit p) (m : MP) : PFit (grant1 p m) := ⟨h.base, h.len, h.cl, h.dat, h.img, (by have := pick_le (fun x => inB p.votes x || decide (x = m.frm)) 5; show (votesL p m.frm).length ≤ _; rw [votesL]; omega), h.peers, h.prs, h.ticks, h.term, h.commit⟩
set_option maxRecDepth 8000 in
set_option maxHeartbeats 4000000 in
theorem grant_ct (X : Nat) (d : MD) (m : MM) (hf : PFit d.p) (hv : VotesOk d.p) (hm : 1 ≤ m.p.frm ∧ m.p.frm ≤ 5) (hl : d.p.l.length ≤ 99999) (ho : d.outs.length ≤ 1000000) : Ct Tryz.prog 58 [Ptr X, mmA m] (fun _ => True) (mdH X d) (MdP X d (grantP d.p m.p) (grantMs d.p m.p) (.tuple #[])) := by
  obtain ⟨p, a, outs, oa0, oc0⟩ := d
  simp only at hf ho hv hl
  have hvl : p.votes.length ≤ 5 := by rw [← hv]; exact pick_le _ _
  refine ct_enter 66 Tryz.func58 rfl rfl rfl ?_
  intro F _
  refine g_ownN (a := a.la) z_3 (fun _ hcap _ => ?_)
  obtain ⟨q1, hq1⟩ : ∃ q, q = decide (p.role = 1) := ⟨_, rfl⟩
  obtain ⟨q2, hq2⟩ : ∃ q, q = decide (m.p.term = p.term) := ⟨_, rfl⟩
  obtain ⟨q3, hq3⟩ : ∃ q, q = m.p.ok := ⟨_, rfl⟩
  have hg : grantOk p m.p = (q1 && (q2 && q3)) := by rw [grantOk, hq1, hq2, hq3]
  repeat refine y_ ?_
  refine g_region ?_
  refine gl_boxA rfl rfl ?_; intro g3
  refine gl_nil ?_
  repeat refine y_ ?_
  rcases (show (q1 = true ∧ q2 = true ∧ q3 = true) ∨ q1 = false ∨ (q1 = true ∧ q2 = false) ∨ (q1 = true ∧ q2 = true ∧ q3 = false) by cases q1 <;> cases q2 <;> cases q3 <;> simp) with ⟨rfl, rfl, rfl⟩ | rfl | ⟨rfl, rfl⟩ | ⟨rfl, rfl, rfl⟩
  rotate_left
  iterate 3
    · have h0 : grantOk p m.p = false := by rw [hg]; rfl
      have e1 : grantP p m.p = p := by rw [grantP, h0, if_neg (by decide)]
      have e2 : grantMs p m.p = [] := by rw [grantMs, h0, if_neg (by decide)]
      simp only [e1, e2]
      repeat refine y_ ?_
      refine g_draw ([4, 8, 13, 18], [0, 1, 3, 7, 15, 31, 63, 127, 255, 127, 639, 1663, 3711, 7807, 16383, 32767, 65535, 131071, 262143, 524287, 1048575], []) [.blk X (mdO ⟨p, a, outs, oa0, oc0⟩), blkMsg g3 m] 21 rfl ?_
      refine w_ 0 rfl (s_move rfl) ?_
      refine w_ 1 rfl (s_nilCheck rfl) ?_
      refine w_ 2 rfl z_1 ?_
      refine w_ 3 rfl z_1 ?_
      (first | refine ga_read_k 4 rfl z_5 (s_load_blk rfl .del a19_3) (by (first | exact fun _ h => h | (repeat first | exact sub_nil | refine sub_cons z_4 ?_))) rfl rfl rfl z_7 ?_ | refine ga_readF 4 rfl (s_load1 rfl (fun w hw => peekB hw (by assumption) a19_3)) (by (first | exact fun _ h => h | (repeat first | exact sub_nil | refine sub_cons z_4 ?_))) rfl rfl rfl z_7 ?_)
      refine w_ 5 rfl ((s_neq rfl rfl).eq (congrArg (fun b => Value.bool (!b)) hq1.symm)) ?_
      refine w_ 6 rfl (s_move rfl) ?_
      (first | refine s_ 7 ?_ | refine t_ 7 ?_ | refine ga_free_g 7 rfl z_1 rfl rfl rfl rfl rfl rfl z_7 ?_)
      (first | refine s_ 8 ?_ | refine t_ 8 ?_ | refine ga_read_kg 8 rfl z_5 (s_load_blk rfl .del a13_3) (by (first | exact fun _ h => h | (repeat first | exact sub_nil | refine sub_cons z_4 ?_))) rfl rfl rfl rfl rfl rfl z_7 ?_ | refine ga_readF_g 8 rfl (s_load1 rfl (fun w hw => peekB hw (by assumption) a13_3)) (by (first | exact fun _ h => h | (repeat first | exact sub_nil | refine sub_cons z_4 ?_))) rfl rfl rfl rfl rfl rfl z_7 ?_)
      (first | refine s_ 9 ?_ | refine t_ 9 ?_ | refine ga_free_g 9 rfl (s_move rfl) rfl rfl rfl rfl rfl rfl z_7 ?_)
      (first | refine s_ 10 ?_ | refine t_ 10 ?_ | refine ga_free_g 10 rfl (s_nilCheck rfl) rfl rfl rfl rfl rfl rfl z_7 ?_)
      (first | refine s_ 11 ?_ | refine t_ 11 ?_ | refine ga_free_g 11 rfl z_1 rfl rfl rfl rfl rfl rfl z_7 ?_)
      (first | refine s_ 12 ?_ | refine t_ 12 ?_ | refine ga_free_g 12 rfl z_1 rfl rfl rfl rfl rfl rfl z_7 ?_)
      (first | refine s_ 13 ?_ | refine t_ 13 ?_ | refine ga_read_kg 13 rfl z_5 (s_load_blk rfl .del a19_1) (by (first | exact fun _ h => h | (repeat first | exact sub_nil | refine sub_cons z_4 ?_))) rfl rfl rfl rfl rfl rfl z_7 ?_ | refine ga_readF_g 13 rfl (s_load1 rfl (fun w hw => peekB hw (by assumption) a19_1)) (by (first | exact fun _ h => h | (repeat first | exact sub_nil | refine sub_cons z_4 ?_))) rfl rfl rfl rfl rfl rfl z_7 ?_)
      (first | refine s_ 14 ?_ | refine t_ 14 ?_ | refine ga_free_g 14 rfl ((s_neq rfl rfl).eq (congrArg (fun b => Value.bool (!b)) hq2.symm)) rfl rfl rfl rfl rfl rfl z_7 ?_)
      refine w_ 15 rfl z_8 ?_
      refine w_ 16 rfl (s_move rfl) ?_
      (first | refine s_ 17 ?_ | refine t_ 17 ?_ | refine ga_free_g 17 rfl z_1 rfl rfl rfl rfl rfl rfl z_7 ?_)
      (first | refine s_ 18 ?_ | refine t_ 18 ?_ | refine ga_read_kg 18 rfl z_5 (s_load_blk rfl .del a13_7) (by (first | exact fun _ h => h | (repeat first | exact sub_nil | refine sub_cons z_4 ?_))) rfl rfl rfl rfl rfl rfl z_7 ?_ | refine ga_readF_g 18 rfl (s_load1 rfl (fun w hw => peekB hw (by assumption) a13_7)) (by (first | exact fun _ h => h | (repeat first | exact sub_nil | refine sub_cons z_4 ?_))) rfl rfl rfl rfl rfl rfl z_7 ?_)
      (first | refine s_ 19 ?_ | refine t_ 19 ?_ | refine ga_free_g 19 rfl ((s_not rfl).eq (congrArg (fun b => Value.bool (!b)) hq3.symm)) rfl rfl rfl rfl rfl rfl z_7 ?_)
      refine w_ 20 rfl z_8 ?_
      refine ga_done z_7 ?_
      repeat refine y_ ?_
      refine g_ret ?_
      exact at_end0 rfl (mdH X ⟨p, a, outs, oa0, oc0⟩ ++ []) (MdP.same X ⟨p, a, outs, oa0, oc0⟩ ⟨p, a, outs, oa0, oc0⟩ _ rfl) (fun w hw => hw.drop)
  have h0 : grantOk p m.p = true := by rw [hg]; rfl
  have e1 : grantP p m.p = if wins (grant1 p m.p) = true then leadP (grant1 p m.p) else grant1 p m.p := by rw [grantP, h0, if_pos rfl]
  have e2 : grantMs p m.p = if wins (grant1 p m.p) = true then leadM (grant1 p m.p) else [] := by rw [grantMs, h0, if_pos rfl]
  rw [e1, e2]
  obtain ⟨q, hq⟩ : ∃ q, q = inB p.votes m.p.frm := ⟨_, rfl⟩
  repeat refine y_ ?_
  refine g_draw ([4, 8, 13, 18], [0, 1, 3, 7, 15, 31, 63, 127, 255, 127, 639, 1663, 3711, 7807, 16383, 32767, 65535, 131071, 262143, 524287, 1048575], []) [.blk X (mdO ⟨p, a, outs, oa0, oc0⟩), blkMsg g3 m] 21 rfl ?_
  refine w_ 0 rfl (s_move rfl) ?_
  refine w_ 1 rfl (s_nilCheck rfl) ?_
  refine w_ 2 rfl z_1 ?_
  refine w_ 3 rfl z_1 ?_
  (first | refine ga_read_k 4 rfl z_5 (s_load_blk rfl .del a19_3) (by (first | exact fun _ h => h | (repeat first | exact sub_nil | refine sub_cons z_4 ?_))) rfl rfl rfl z_7 ?_ | refine ga_readF 4 rfl (s_load1 rfl (fun w hw => peekB hw (by assumption) a19_3)) (by (first | exact fun _ h => h | (repeat first | exact sub_nil | refine sub_cons z_4 ?_))) rfl rfl rfl z_7 ?_)
  refine w_ 5 rfl ((s_neq rfl rfl).eq (congrArg (fun b => Value.bool (!b)) hq1.symm)) ?_
  refine w_ 6 rfl (s_move rfl) ?_
  (first | refine s_ 7 ?_ | refine t_ 7 ?_ | refine ga_free_g 7 rfl z_1 rfl rfl rfl rfl rfl rfl z_7 ?_)
  (first | refine s_ 8 ?_ | refine t_ 8 ?_ | refine ga_read_kg 8 rfl z_5 (s_load_blk rfl .del a13_3) (by (first | exact fun _ h => h | (repeat first | exact sub_nil | refine sub_cons z_4 ?_))) rfl rfl rfl rfl rfl rfl z_7 ?_ | refine ga_readF_g 8 rfl (s_load1 rfl (fun w hw => peekB hw (by assumption) a13_3)) (by (first | exact fun _ h => h | (repeat first | exact sub_nil | refine sub_cons z_4 ?_))) rfl rfl rfl rfl rfl rfl z_7 ?_)
  (first | refine s_ 9 ?_ | refine t_ 9 ?_ | refine ga_free_g 9 rfl (s_move rfl) rfl rfl rfl rfl rfl rfl z_7 ?_)
  (first | refine s_ 10 ?_ | refine t_ 10 ?_ | refine ga_free_g 10 rfl (s_nilCheck rfl) rfl rfl rfl rfl rfl rfl z_7 ?_)
  (first | refine s_ 11 ?_ | refine t_ 11 ?_ | refine ga_free_g 11 rfl z_1 rfl rfl rfl rfl rfl rfl z_7 ?_)
  (first | refine s_ 12 ?_ | refine t_ 12 ?_ | refine ga_free_g 12 rfl z_1 rfl rfl rfl rfl rfl rfl z_7 ?_)
  (first | refine s_ 13 ?_ | refine t_ 13 ?_ | refine ga_read_kg 13 rfl z_5 (s_load_blk rfl .del a19_1) (by (first | exact fun _ h => h | (repeat first | exact sub_nil | refine sub_cons z_4 ?_))) rfl rfl rfl rfl rfl rfl z_7 ?_ | refine ga_readF_g 13 rfl (s_load1 rfl (fun w hw => peekB hw (by assumption) a19_1)) (by (first | exact fun _ h => h | (repeat first | exact sub_nil | refine sub_cons z_4 ?_))) rfl rfl rfl rfl rfl rfl z_7 ?_)
  (first | refine s_ 14 ?_ | refine t_ 14 ?_ | refine ga_free_g 14 rfl ((s_neq rfl rfl).eq (congrArg (fun b => Value.bool (!b)) hq2.symm)) rfl rfl rfl rfl rfl rfl z_7 ?_)
  refine w_ 15 rfl z_8 ?_
  refine w_ 16 rfl (s_move rfl) ?_
  (first | refine s_ 17 ?_ | refine t_ 17 ?_ | refine ga_free_g 17 rfl z_1 rfl rfl rfl rfl rfl rfl z_7 ?_)
  (first | refine s_ 18 ?_ | refine t_ 18 ?_ | refine ga_read_kg 18 rfl z_5 (s_load_blk rfl .del a13_7) (by (first | exact fun _ h => h | (repeat first | exact sub_nil | refine sub_cons z_4 ?_))) rfl rfl rfl rfl rfl rfl z_7 ?_ | refine ga_readF_g 18 rfl (s_load1 rfl (fun w hw => peekB hw (by assumption) a13_7)) (by (first | exact fun _ h => h | (repeat first | exact sub_nil | refine sub_cons z_4 ?_))) rfl rfl rfl rfl rfl rfl z_7 ?_)
  (first | refine s_ 19 ?_ | refine t_ 19 ?_ | refine ga_free_g 19 rfl ((s_not rfl).eq (congrArg (fun b => Value.bool (!b)) hq3.symm)) rfl rfl rfl rfl rfl rfl z_7 ?_)
  refine w_ 20 rfl z_8 ?_
  refine ga_done z_7 ?_
  repeat refine y_ ?_
  refine g_draw ([4, 6], [0, 1, 3, 7, 15, 0, 32, 127, 255], [7]) [.blk X (mdO ⟨p, a, outs, oa0, oc0⟩), blkMsg g3 m] 9 rfl ?_
  refine w_ 0 rfl (s_move rfl) ?_
  refine w_ 1 rfl (s_nilCheck rfl) ?_
  refine w_ 2 rfl z_1 ?_
  refine w_ 3 rfl z_1 ?_
  (first | refine ga_read_k 4 rfl z_5 (s_load_blk rfl .del a19_13) (by (first | exact fun _ h => h | (repeat first | exact sub_nil | refine sub_cons z_4 ?_))) rfl rfl rfl z_7 ?_ | refine ga_readF 4 rfl (s_load1 rfl (fun w hw => peekB hw (by assumption) a19_13)) (by (first | exact fun _ h => h | (repeat first | exact sub_nil | refine sub_cons z_4 ?_))) rfl rfl rfl z_7 ?_)
  refine w_ 5 rfl z_1 ?_
  (first | refine ga_read_k 6 rfl z_5 (s_load_blk rfl .del a13_1) (by (first | exact fun _ h => h | (repeat first | exact sub_nil | refine sub_cons z_4 ?_))) rfl rfl rfl z_7 ?_ | refine ga_readF 6 rfl (s_load1 rfl (fun w hw => peekB hw (by assumption) a13_1)) (by (first | exact fun _ h => h | (repeat first | exact sub_nil | refine sub_cons z_4 ?_))) rfl rfl rfl z_7 ?_)
  refine ga_one 7 rfl z_7 ?_
  refine gl_callp rfl (Contains_ct p.votes m.p.frm a.va a.vc (by omega)) (fun h hh ⟨bs, hb⟩ => Sat.rd (a := a.va) hb z_3) rfl ?_; rw [← hq]
  refine gl_nil ?_
  refine at_ga (.inl z_7) ?_
  refine w_ 8 rfl (s_not rfl) ?_
  refine ga_done z_7 ?_
  repeat refine y_ ?_
  refine g_cutE (ι := Option Addr × Nat) (fun _ => [(0, Ptr X), (3, Ptr g3)]) (fun x => blkMsg g3 m :: mdH X ⟨grant1 p m.p, { a with va := x.1, vc := x.2 }, outs, oa0, oc0⟩) ?_ (fun x => ?_)
  · cases q
    · repeat refine y_ ?_
      repeat refine y_ ?_
      refine g_draw ([5, 7], [0, 0, 2, 6, 14, 30, 0, 64, 192, 510, 1023, 2047, 4095, 8191], [8, 9, 13]) [.blk X (mdO ⟨p, a, outs, oa0, oc0⟩), blkMsg g3 m] 14 rfl ?_
      refine w_ 0 rfl (s_move rfl) ?_
      refine w_ 1 rfl (s_move rfl) ?_
      refine w_ 2 rfl (s_nilCheck rfl) ?_
      refine w_ 3 rfl z_1 ?_
      refine w_ 4 rfl z_1 ?_
      (first | refine ga_read_k 5 rfl z_5 (s_load_blk rfl .del a19_13) (by (first | exact fun _ h => h | (repeat first | exact sub_nil | refine sub_cons z_4 ?_))) rfl rfl rfl z_7 ?_ | refine ga_readF 5 rfl (s_load1 rfl (fun w hw => peekB hw (by assumption) a19_13)) (by (first | exact fun _ h => h | (repeat first | exact sub_nil | refine sub_cons z_4 ?_))) rfl rfl rfl z_7 ?_)
      refine w_ 6 rfl z_1 ?_
      (first | refine ga_read_k 7 rfl z_5 (s_load_blk rfl .del a13_1) (by (first | exact fun _ h => h | (repeat first | exact sub_nil | refine sub_cons z_4 ?_))) rfl rfl rfl z_7 ?_ | refine ga_readF 7 rfl (s_load1 rfl (fun w hw => peekB hw (by assumption) a13_1)) (by (first | exact fun _ h => h | (repeat first | exact sub_nil | refine sub_cons z_4 ?_))) rfl rfl rfl z_7 ?_)
      refine ga_one 8 rfl z_7 ?_
      refine gl_buildSliceU rfl rfl rfl rfl rfl rfl (xs := intsV [m.p.frm]) rfl rfl ?_; intro a42 ha42
      refine gl_nil ?_
      refine at_ga (.inr (by exact keeps_of (by (first | exact fun _ h => h | (repeat first | exact sub_nil | refine sub_cons z_4 ?_))))) ?_
      refine ga_one 9 rfl z_7 ?_
      refine gl_append (sz := 1) rfl rfl (fun a' c' => z_6) (fun w hw => (hw.ownN z_3).2.2.1) rfl rfl rfl (by intro q hq; simp [intsV] at hq; subst hq; rfl) (by show (p.votes.length + 1) * 8 ≤ 140737488355328; omega) (by show p.votes.length + 1 ≤ 9223372036854775807; omega) rfl ?_; intro a43 c43 hc43
      refine gl_nil ?_
      refine at_ga (.inl z_7) ?_
      refine w_ 10 rfl (s_nilCheck rfl) ?_
      refine w_ 11 rfl z_1 ?_
      refine w_ 12 rfl z_1 ?_
      refine ga_one 13 rfl z_7 ?_
      (first | refine gl_store_blkC (pre := [_, _, _, _, _, _, _, _, _, _, _, _, _]) (post := [_, _, _, _, _]) rfl rfl z_6 z_10 z_10 z_10 ?_ | refine gl_store_blk rfl rfl z_6 z_10 z_2 z_10 ?_)
      refine gl_nil ?_
      refine at_ga (.inl z_7) ?_
      refine ga_done z_7 ?_
      repeat refine y_ ?_
      have hlen : (p.votes ++ [m.p.frm]).length = p.votes.length + 1 := by simp
      have happ : intsV p.votes ++ intsV [m.p.frm] = intsV (p.votes ++ [m.p.frm]) := by simp [intsV]
      refine g_pull (H' := OwnX a43 (p.votes ++ [m.p.frm]).length c43 (p.votes ++ [m.p.frm]) :: [.blk X (mdO ⟨{ p with votes := p.votes ++ [m.p.frm] }, { a with va := a43, vc := c43 }, outs, oa0, oc0⟩), blkMsg g3 m, OwnL a.la p.l a.lc, OwnC a.ca p.conf a.cc, OwnP a.pa p.peers a.pc, OwnM oa0 outs oc0]) (fun w hw => by
        rw [OwnX, ← happ, mdO]
        simp only [hlen]
        exact Hp.left (R := [.own (.slice a42 1 1) 3 1 (intsV [m.p.frm])]) (hw.perm (perm_up z_3 (perm_up z_3 (perm_up z_3 (perm_up z_3 (perm_up z_3 (perm_up z_3 (perm_up z_3 (.refl _)))))))))) ?_
      repeat refine y_ ?_
      refine g_region ?_
      refine m_ ?_
      refine f_ (s_nilCheck rfl) ?_
      refine f_ z_1 ?_
      refine f_ z_1 ?_
      refine r_ ((s_load_blk rfl z_3 a19_13).eq (v' := .slice a43 (p.votes ++ [m.p.frm]).length c43) rfl) ?_
      refine gl_call [.blk X (mdO ⟨{ p with votes := p.votes ++ [m.p.frm] }, { a with va := a43, vc := c43 }, outs, oa0, oc0⟩), blkMsg g3 m, OwnL a.la p.l a.lc, OwnC a.ca p.conf a.cc, OwnP a.pa p.peers a.pc, OwnM oa0 outs oc0] rfl (Sort_ct (p.votes ++ [m.p.frm]) a43 c43 (by rw [hlen]; omega)) (fun w hw => hw) (fun _ _ _ => trivial) rfl ?_; rw [sort_votes p.votes m.p.frm hv hm hq.symm]; rintro v A ⟨rfl, rfl⟩
      refine gl_nil ?_
      repeat refine y_ ?_
      have hvl2 : (votesL p m.p.frm).length = (p.votes ++ [m.p.frm]).length := by
        have := insK_length (p.votes ++ [m.p.frm]) (p.votes ++ [m.p.frm]).length
        rw [votesL, ← sort_votes p.votes m.p.frm hv hm hq.symm]
        exact this
      exact at_cutE (a43, c43) (by (repeat (first | exact Sub.nil _ | refine Sub.cons rfl ?_))) (fun w hw => by
        simp only [grant1, mdH, mdO, OwnC, hvl2]
        exact hw.perm (perm_up z_3 (perm_up z_3 (perm_up z_3 (perm_up z_3 (perm_up z_3 (perm_up z_3 (.refl _))))))))
    · have ev : grant1 p m.p = p := by
        have : votesL p m.p.frm = p.votes := by
          have e3 : (fun x => inB p.votes x || decide (x = m.p.frm)) = inB p.votes := by
            funext x
            by_cases hx : x = m.p.frm
            · subst hx; rw [← hq]; simp
            · simp [hx]
          rw [votesL, e3]; exact hv
        rw [grant1, this]
      repeat refine y_ ?_
      exact at_cutE (a.va, a.vc) (by (repeat (first | exact Sub.nil _ | refine Sub.cons rfl ?_))) (fun w hw => by rw [ev]; exact hw)
  obtain ⟨va, vc⟩ := x
  have hf1 := pf_grant1 hf m.p
  have hl1 : (grant1 p m.p).l.length ≤ 99999 := hl
  obtain ⟨p1, hp1⟩ : ∃ p1, p1 = grant1 p m.p := ⟨_, rfl⟩
  obtain ⟨a1, ha1⟩ : ∃ a1, a1 = ({ a with va := va, vc := vc } : RA) := ⟨_, rfl⟩
  have hcap1 : p1.l.length ≤ a1.lc := by rw [hp1, ha1]; exact hcap
  have hcn : (confL p1).length ≤ 1000000 := by rw [hp1]; exact hf1.cn _
  have hvl1 : p1.votes.length ≤ 5 := by rw [hp1]; exact pick_le _ _
  rw [← hp1] at hf1 hl1
  simp only [← hp1, ← ha1]
  repeat refine y_ ?_
  refine g_draw ([3, 9], [0, 1, 3, 7, 15, 0, 32, 96, 224, 480, 1023], [4, 10]) [.blk X (mdO ⟨p1, a1, outs, oa0, oc0⟩)] 11 rfl ?_
  refine w_ 0 rfl (s_move rfl) ?_
  refine w_ 1 rfl (s_nilCheck rfl) ?_
  refine w_ 2 rfl z_1 ?_
  refine ga_read_k 3 rfl z_5 ((s_load_blkN rfl .del z_10).eq (v' := rsV p1 a1) rfl) (by (first | exact fun _ h => h | (repeat first | exact sub_nil | refine sub_cons z_4 ?_))) rfl rfl rfl z_7 ?_
  refine w_ 5 rfl (s_move rfl) ?_
  refine w_ 6 rfl (s_nilCheck rfl) ?_
  refine w_ 7 rfl z_1 ?_
  refine w_ 8 rfl z_1 ?_
  (first | refine ga_read_k 9 rfl z_5 (s_load_blk rfl .del a19_13) (by (first | exact fun _ h => h | (repeat first | exact sub_nil | refine sub_cons z_4 ?_))) rfl rfl rfl z_7 ?_ | refine ga_readF 9 rfl (s_load1 rfl (fun w hw => peekB hw (by assumption) a19_13)) (by (first | exact fun _ h => h | (repeat first | exact sub_nil | refine sub_cons z_4 ?_))) rfl rfl rfl z_7 ?_)
  refine ga_one 4 rfl z_7 ?_
  refine gl_call _ rfl (Members_ct p1 a1 hf1 hcap1) (fun w hw => hw) (fun h hh ⟨bs, hb⟩ => ⟨Sat.rd (a := a1.ca) hb z_3, Sat.rd (a := a1.la) hb z_3⟩) rfl ?_; rintro v A ⟨ca, cc, rfl, rfl⟩
  refine gl_nil ?_
  refine at_ga (.inr (by exact keeps_of (by (first | exact fun _ h => h | (repeat first | exact sub_nil | refine sub_cons z_4 ?_))))) ?_
  refine ga_one 10 rfl z_7 ?_
  refine gl_callp rfl (Most_ct (confL p1) p1.votes ca a1.va cc a1.vc (by omega) (by omega)) (fun h hh ⟨bs, hb⟩ => ⟨Sat.rd (a := ca) hb z_3, Sat.rd (a := a1.va) hb z_3⟩) rfl ?_; rw [show mostB (confL p1) p1.votes = wins p1 from rfl]
  refine gl_nil ?_
  refine at_ga (.inl z_7) ?_
  refine ga_done z_7 ?_
  repeat refine y_ ?_
  cases hw1 : wins p1
  · rw [if_neg (by decide), if_neg (by decide)]
    repeat refine y_ ?_
    exact at_end0 rfl (mdH X ⟨p1, a1, outs, oa0, oc0⟩ ++ []) (MdP.same X ⟨p, a, outs, oa0, oc0⟩ ⟨p1, a1, outs, oa0, oc0⟩ _ rfl) (fun w hw => hw.drop.drop)
  · rw [if_pos rfl, if_pos rfl]
    repeat refine y_ ?_
    refine g_region ?_
    refine m_ ?_
    refine gl_call [OwnC ca (confL p1) cc, blkMsg g3 m] rfl (lead_ct X ⟨p1, a1, outs, oa0, oc0⟩ hf1 hl1 ho) (fun w hw => hw.perm (perm_up z_3 (perm_up z_3 (perm_up z_3 (perm_up z_3 (perm_up z_3 (perm_up z_3 (.refl _)))))))) (fun _ _ _ => trivial) rfl ?_; rintro v A ⟨rfl, d2, Z2, e3, o2, rfl, f2⟩
    refine gl_nil ?_
    repeat refine y_ ?_
    exact at_end0 rfl (mdH X d2 ++ Z2) ⟨rfl, d2, Z2, e3, o2, rfl, f2⟩ (fun w hw => Hp.left hw)
end Go.Proofs.YtodcghipfolejaaGreat.Rf
/- A mind's calls: take. -/
namespace Go.Proofs.YtodcghipfolejaaGreat.Rf
open Go Go.Sl
set_option linter.unusedVariables false
set_option linter.unusedSimpArgs false
-- ARR

section
variable {P : Program} {L : Lcs} {dst : Option Tmp} {ty : TypeId} {pos : String} {af : Array Edge} {gd : Option (Nat × Bool)} {x y z : Operand} {k : IntKind} {m n r : Int}
theorem s_min3 (hx : ev L x = some (.int k m)) (hy : ev L y = some (.int k n)) (hz : ev L z = some (.int k r)) {tys : Array TypeId} : OpF P ⟨dst, .call ⟨.builtin .min, #[x, y, z], tys⟩, ty, pos, af, gd⟩ L (.int k (min (min m n) r)) := by
  unfold OpF
  intro ρ w hf
  have e : (if n < m then n else m) = min m n := by split <;> omega
  have e2 : (if r < min m n then r else min m n) = min (min m n) r := by split <;> omega
  simp [execOp, resolve, invoke, builtin, Builtin.min_, Builtin.min2, hf _ _ hx, hf _ _ hy, hf _ _ hz, e, e2]
end
/-- a message of a bearable size -/
structure MFit (m : MP) : Prop where
  index : 0 ≤ m.index ∧ m.index ≤ 18446744073709551615
  lt : 0 ≤ m.lt ∧ m.lt ≤ 18446744073709551615
  commit : 0 ≤ m.commit ∧ m.commit ≤ 18446744073709551615
  term : 0 ≤ m.term ∧ m.term ≤ 18446744073709551615
  el : m.ents.length ≤ 1000
  ed : ∀ e ∈ m.ents, e.2.2.length ≤ 1000000000000
  conf : m.conf.length ≤ 1000
  off : -9223372036854775808 ≤ m.off ∧ m.off ≤ 9223372036854775807
theorem mrgB_cases (g : LM) (prev term : Int) (l : List Ent) : (mrgB g prev term l).l = g.l ∨ ∃ a b, (mrgB g prev term l).l = g.l.take a ++ l.drop b := by
  unfold mrgB
  split
  · exact .inl rfl
  · split
    · exact .inl rfl
    · exact .inr ⟨_, _, rfl⟩
theorem mrgB_mem {g : LM} {prev term : Int} {l : List Ent} {e : Ent} (h : e ∈ (mrgB g prev term l).l) : e ∈ g.l ∨ e ∈ l := by
  rcases mrgB_cases g prev term l with h1 | ⟨a, b, h1⟩
  · rw [h1] at h; exact .inl h
  · rw [h1] at h
    rcases List.mem_append.1 h with h | h
    · exact .inl (List.mem_of_mem_take h)
    · exact .inr (List.mem_of_mem_drop h)
theorem mrgB_len (g : LM) (prev term : Int) (l : List Ent) : (mrgB g prev term l).l.length ≤ g.l.length + l.length := by
  rcases mrgB_cases g prev term l with h1 | ⟨a, b, h1⟩
  · rw [h1]; omega
  · rw [h1, List.length_append, List.length_take, List.length_drop]; omega
theorem tk_mem {p : RP} {m : MP} {e : Ent} (h : e ∈ (tkR p m).l) : e ∈ p.l ∨ e ∈ m.ents := by
  unfold tkR mrgL at h
  split at h
  · rcases mrgB_mem h with h | h
    · exact .inl h
    · exact .inr (List.mem_of_mem_drop h)
  · exact mrgB_mem h
theorem tk_len (p : RP) (m : MP) : (tkR p m).l.length ≤ p.l.length + m.ents.length := by
  unfold tkR mrgL
  split
  · have := mrgB_len p.g p.g.base p.g.bt (m.ents.drop (p.g.base - m.index).toNat)
    rw [List.length_drop] at this
    have e : p.g.l.length = p.l.length := rfl
    omega
  · exact mrgB_len p.g m.index m.lt m.ents
theorem tk_any (p : RP) (a : RA) (m : MP) : mrgL (p.lm a) m.index m.lt m.ents = tkR p m := rfl
theorem tk_index {p : RP} {m : MP} (hf : PFit p) (h : (tkR p m).ok = true) : m.index ≤ 2305843009213793952 := by
  have hl := hf.last
  by_cases hb : m.index < p.base
  · have := hf.base; omega
  · have e : (tkR p m).ok = (mrgB p.g m.index m.lt m.ents).ok := by rw [tkR, mrgL, if_neg hb]
    rw [e] at h
    unfold mrgB at h
    split at h
    · cases h
    · rename_i h1
      have h2 : hasL p.g m.index = true := by
        cases h3 : hasL p.g m.index
        · rw [h3] at h1; simp at h1
        · rfl
      simp only [hasL, Bool.and_eq_true, decide_eq_true_eq] at h2
      unfold lastI at hl
      have e1 : p.g.base = p.base := rfl
      have e2 : p.g.l.length = p.l.length := rfl
      omega
theorem dat_mem {l : List Ent} : (∀ i, i < l.length → (l.getD i E0).2.2.length ≤ 1000000000000) ↔ ∀ e ∈ l, e.2.2.length ≤ 1000000000000 := by
  constructor
  · intro h e he
    obtain ⟨i, hi, rfl⟩ := List.mem_iff_getElem.1 he
    have := h i hi
    rwa [List.getD_eq_getElem?_getD, List.getElem?_eq_getElem hi] at this
  · intro h i hi
    rw [List.getD_eq_getElem?_getD, List.getElem?_eq_getElem hi]
    exact h _ (List.getElem_mem hi)
def take1 (p : RP) (m : MP) : RP := { p with l := (tkR p m).l }
theorem pf_take1 {p : RP} {m : MP} (h : PFit p) (hm : MFit m) (hl : p.l.length ≤ 99000) : PFit (take1 p m) := by
  refine ⟨h.base, ?_, h.cl, ?_, h.img, h.votes, h.peers, h.prs, h.ticks, h.term, h.commit⟩
  · have := tk_len p m
    have := hm.el
    show (tkR p m).l.length ≤ _
    omega
  · refine dat_mem.2 fun e he => ?_
    rcases tk_mem he with h1 | h1
    · exact dat_mem.1 h.dat e h1
    · exact hm.ed e h1
abbrev ackMM (ok : Bool) (i : Int) : MM := ⟨⟨4, 0, 0, 0, i, 0, 0, ok, [], [], 0, 0, []⟩, none, 0, none, 0⟩
set_option maxRecDepth 8000 in
set_option maxHeartbeats 4000000 in
theorem take_ct (X : Nat) (d : MD) (m : MM) (hf : PFit d.p) (hm : MFit m.p) (hl : d.p.l.length ≤ 99000) (ho : d.outs.length ≤ 1000000) : Ct Tryz.prog 97 [Ptr X, mmA m] (fun h => MOk h m) (mdH X d) (MdP X d (tkP d.p m.p) (tkM d.p m.p) (.tuple #[])) := by
  obtain ⟨p, a, outs, oa0, oc0⟩ := d
  simp only at hf ho hl
  have hix := hm.index
  have hel := hm.el
  have hf1 := pf_take1 hf hm hl
  have hlast := hf.last
  refine ct_enter 85 Tryz.func97 rfl rfl rfl ?_
  intro F hmo
  refine g_ownN (a := a.la) z_3 (fun _ hcap _ => ?_)
  obtain ⟨r, hr⟩ : ∃ r, r = tkR p m.p := ⟨_, rfl⟩
  repeat refine y_ ?_
  refine g_region ?_
  refine gl_boxA rfl rfl ?_; intro g3
  refine gl_nil ?_
  repeat refine y_ ?_
  refine g_cutE (ι := Nat × LM) (fun x => [(0, Ptr X), (3, Ptr g3), (4, Ptr x.1), (5, .int .u64 r.at_), (6, .bool r.ok)]) (fun x => .blk x.1 (.cells #[.int .u64 p.base, .int .u64 p.bt, .slice x.2.ca p.conf.length x.2.cc, .slice x.2.la r.l.length x.2.lc] 46) :: OwnL x.2.la r.l x.2.lc :: OwnC x.2.ca p.conf x.2.cc :: blkMsg g3 m :: mdH X ⟨p, a, outs, oa0, oc0⟩) ?_ (fun x => ?_)
  · repeat refine y_ ?_
    refine g_draw ([4, 6, 8, 10], [0, 1, 3, 7, 15, 0, 32, 0, 128, 0, 512, 2047, 4095, 8191, 8191, 8191, 0, 81919, 229375, 524287], [11, 16, 17]) [.blk X (mdO ⟨p, a, outs, oa0, oc0⟩), blkMsg g3 m] 20 rfl ?_
    refine w_ 0 rfl (s_move rfl) ?_
    refine w_ 1 rfl (s_nilCheck rfl) ?_
    refine w_ 2 rfl z_1 ?_
    refine w_ 3 rfl z_1 ?_
    refine ga_read_k 4 rfl z_5 ((s_load_blkN rfl .del z_10).eq (v' := (p.lm a).v) rfl) (by (first | exact fun _ h => h | (repeat first | exact sub_nil | refine sub_cons z_4 ?_))) rfl rfl rfl z_7 ?_
    refine w_ 5 rfl z_1 ?_
    (first | refine ga_read_k 6 rfl z_5 (s_load_blk rfl .del a13_4) (by (first | exact fun _ h => h | (repeat first | exact sub_nil | refine sub_cons z_4 ?_))) rfl rfl rfl z_7 ?_ | refine ga_readF 6 rfl (s_load1 rfl (fun w hw => peekB hw (by assumption) a13_4)) (by (first | exact fun _ h => h | (repeat first | exact sub_nil | refine sub_cons z_4 ?_))) rfl rfl rfl z_7 ?_)
    refine w_ 7 rfl z_1 ?_
    (first | refine ga_read_k 8 rfl z_5 (s_load_blk rfl .del a13_5) (by (first | exact fun _ h => h | (repeat first | exact sub_nil | refine sub_cons z_4 ?_))) rfl rfl rfl z_7 ?_ | refine ga_readF 8 rfl (s_load1 rfl (fun w hw => peekB hw (by assumption) a13_5)) (by (first | exact fun _ h => h | (repeat first | exact sub_nil | refine sub_cons z_4 ?_))) rfl rfl rfl z_7 ?_)
    refine w_ 9 rfl z_1 ?_
    (first | refine ga_read_k 10 rfl z_5 (s_load_blk rfl .del a13_8) (by (first | exact fun _ h => h | (repeat first | exact sub_nil | refine sub_cons z_4 ?_))) rfl rfl rfl z_7 ?_ | refine ga_readF 10 rfl (s_load1 rfl (fun w hw => peekB hw (by assumption) a13_8)) (by (first | exact fun _ h => h | (repeat first | exact sub_nil | refine sub_cons z_4 ?_))) rfl rfl rfl z_7 ?_)
    refine ga_two 11 16 rfl rfl z_7 ?_ ?_
    refine gl_call _ rfl (Merge_ct (p.lm a) m.p.index m.p.lt m.p.ents m.ea m.ec (hf.fit a hcap) hix (by omega) hmo.ec) (fun w hw => hw) (fun h hh ⟨bs, hb⟩ => ⟨⟨Sat.rd (a := a.ca) hb z_3, Sat.rd (a := a.la) hb z_3⟩, hmo.e.le hh⟩) rfl ?_; rw [tk_any, ← hr]; rintro v A ⟨ca, cc, la, lc, rfl, rfl⟩
    refine gl_nil ?_
    refine at_ga (.inl z_7) ?_
    refine w_ 12 rfl (s_move rfl) ?_
    refine w_ 13 rfl (s_extract rfl rfl) ?_
    refine w_ 14 rfl (s_extract rfl rfl) ?_
    refine w_ 15 rfl (s_extract rfl rfl) ?_
    refine ga_one 16 rfl z_7 ?_
    refine gl_allocA rfl ?_; intro g4
    refine gl_nil ?_
    refine at_ga (.inl z_7) ?_
    refine ga_one 17 rfl z_7 ?_
    (first | refine gl_store_blkW rfl rfl z_6 z_10 z_10 z_2 ?_ | refine gl_store_blk rfl rfl z_6 z_10 z_2 z_10 ?_)
    refine gl_nil ?_
    refine at_ga (.inl z_7) ?_
    refine w_ 18 rfl (s_assign rfl) ?_
    refine w_ 19 rfl (s_assign rfl) ?_
    refine ga_done z_7 ?_
    rotate_left 1
    refine gl_allocA rfl ?_; intro g4
    refine gl_nil ?_
    refine at_ga (.inr (by exact keeps_of (by (first | exact fun _ h => h | (repeat first | exact sub_nil | refine sub_cons z_4 ?_))))) ?_
    refine ga_one 11 rfl z_7 ?_
    refine gl_call _ rfl (Merge_ct (p.lm a) m.p.index m.p.lt m.p.ents m.ea m.ec (hf.fit a hcap) hix (by omega) hmo.ec) (fun w hw => hw) (fun h hh ⟨bs, hb⟩ => ⟨⟨Sat.rd (a := a.ca) hb z_3, Sat.rd (a := a.la) hb z_3⟩, hmo.e.le hh⟩) rfl ?_; rw [tk_any, ← hr]; rintro v A ⟨ca, cc, la, lc, rfl, rfl⟩
    refine gl_nil ?_
    refine at_ga (.inl z_7) ?_
    refine w_ 12 rfl (s_move rfl) ?_
    refine w_ 13 rfl (s_extract rfl rfl) ?_
    refine w_ 14 rfl (s_extract rfl rfl) ?_
    refine w_ 15 rfl (s_extract rfl rfl) ?_
    refine ga_one 17 rfl z_7 ?_
    (first | refine gl_store_blkW rfl rfl z_6 z_10 z_10 z_2 ?_ | refine gl_store_blk rfl rfl z_6 z_10 z_2 z_10 ?_)
    refine gl_nil ?_
    refine at_ga (.inl z_7) ?_
    refine w_ 18 rfl (s_assign rfl) ?_
    refine w_ 19 rfl (s_assign rfl) ?_
    refine ga_done z_7 ?_
    rotate_left 1
    all_goals (repeat refine y_ ?_)
    all_goals
      exact at_cutE (⟨g4, ⟨0, 0, [], [], ca, cc, la, lc⟩⟩ : Nat × LM) (by (repeat (first | exact Sub.nil _ | refine Sub.cons rfl ?_))) (fun w hw => hw.perm (perm_up z_3 (perm_up z_3 (perm_up z_3 (perm_up z_3 (perm_up z_3 (perm_up z_3 (perm_up z_3 (perm_up z_3 (perm_up z_3 (.refl _)))))))))))
  obtain ⟨g4, gg⟩ := x
  obtain ⟨_, _, _, _, ca, cc, la, lc⟩ := gg
  simp only
  repeat refine y_ ?_
  refine g_region ?_
  refine m_ ?_
  refine f_ (s_not rfl) ?_
  refine gl_nil ?_
  repeat refine y_ ?_
  cases hok : r.ok
  · have e1 : tkP p m.p = p := by rw [tkP, ← hr, if_pos (.inl hok)]
    have e2 : tkM p m.p = [ackM p m.p.frm false (min (lastI p.g) (max m.p.index 1 - 1))] := by rw [tkM, ← hr, if_pos hok]
    simp only [e1, e2]
    repeat refine y_ ?_
    refine g_draw ([3], [0, 1, 0, 4, 12, 28, 63, 127], [1]) [blkMsg g3 m] 8 rfl ?_
    refine w_ 0 rfl (s_move rfl) ?_
    refine w_ 2 rfl z_1 ?_
    (first | refine ga_read_k 3 rfl z_5 (s_load_blk rfl .del a13_4) (by (first | exact fun _ h => h | (repeat first | exact sub_nil | refine sub_cons z_4 ?_))) rfl rfl rfl z_7 ?_ | refine ga_readF 3 rfl (s_load1 rfl (fun w hw => peekB hw (by assumption) a13_4)) (by (first | exact fun _ h => h | (repeat first | exact sub_nil | refine sub_cons z_4 ?_))) rfl rfl rfl z_7 ?_)
    refine w_ 4 rfl (s_max2 rfl rfl) ?_
    refine w_ 5 rfl ((s_sub_u64 rfl rfl (by omega)).eq (v' := .int .u64 (max m.p.index 1 - 1)) rfl) ?_
    refine ga_one 1 rfl z_7 ?_
    refine gl_callp rfl (rend_ct X ⟨p, a, outs, oa0, oc0⟩ hf hcap) (fun h hh ⟨bs, hb⟩ => ⟨Sat.blk hb z_3, Sat.rd (a := a.la) hb z_3⟩) rfl ?_; rw [show lastI (⟨p, a, outs, oa0, oc0⟩ : MD).p.g = lastI p.g from rfl]
    refine gl_nil ?_
    refine at_ga (.inr (by exact keeps_of (by (first | exact fun _ h => h | (repeat first | exact sub_nil | refine sub_cons z_4 ?_))))) ?_
    refine w_ 6 rfl (s_min2 rfl rfl) ?_
    refine w_ 7 rfl (s_assign rfl) ?_
    refine ga_done z_7 ?_
    repeat refine y_ ?_
    refine g_region ?_
    refine m_ ?_
    refine f_ z_1 ?_
    refine r_ (by first | exact s_load_blk rfl z_3 a13_1 | exact s_load1 rfl (fun w hw => peekB hw (by assumption) a13_1)) ?_
    refine m_ ?_
    refine f_ ((s_bld (cells := (mmC (ackMM false (min (lastI p.g) (max m.p.index 1 - 1)))).toArray) rfl z_7).eq (v' := mmA (ackMM false (min (lastI p.g) (max m.p.index 1 - 1)))) rfl) ?_
    refine gl_call [.blk g4 (.cells #[.int .u64 p.base, .int .u64 p.bt, .slice ca p.conf.length cc, .slice la r.l.length lc] 46), OwnL la r.l lc, OwnC ca p.conf cc, blkMsg g3 m] rfl (say_ct X ⟨p, a, outs, oa0, oc0⟩ m.p.frm (ackMM false (min (lastI p.g) (max m.p.index 1 - 1))) (by simp only; omega)) (fun w hw => hw.perm (perm_up z_3 (perm_up z_3 (perm_up z_3 (perm_up z_3 (perm_up z_3 (perm_up z_3 (perm_up z_3 (perm_up z_3 (perm_up z_3 (.refl _))))))))))) (fun _ _ _ => trivial) rfl ?_; rintro v A ⟨rfl, oa, oc, rfl⟩
    refine gl_nil ?_
    repeat refine y_ ?_
    refine g_ret ?_
    exact at_end0 rfl _ (MdP.said X ⟨p, a, outs, oa0, oc0⟩ p a outs ⟨ackM p m.p.frm false (min (lastI p.g) (max m.p.index 1 - 1)), none, 0, none, 0⟩ oa oc _ rfl (fun h => mok_nil h _ rfl rfl)) (fun w hw => by rw [List.append_nil]; exact Hp.left hw)
  have hin := tk_index hf (hr ▸ hok)
  obtain ⟨q1, hq1⟩ : ∃ q, q = decide (0 < r.at_) := ⟨_, rfl⟩
  obtain ⟨q2, hq2⟩ : ∃ q, q = decide (r.at_ ≤ p.commit) := ⟨_, rfl⟩
  repeat refine y_ ?_
  refine g_cutK [(0, Ptr X), (3, Ptr g3), (4, Ptr g4), (50, .bool (q1 && q2))] (.blk g4 (.cells #[.int .u64 p.base, .int .u64 p.bt, .slice ca p.conf.length cc, .slice la r.l.length lc] 46) :: OwnL la r.l lc :: OwnC ca p.conf cc :: blkMsg g3 m :: mdH X ⟨p, a, outs, oa0, oc0⟩) ?_ ?_
  · cases q1
    · repeat refine y_ ?_
      refine g_region ?_
      refine m_ ?_
      refine f_ ((s_gtr rfl rfl).eq (congrArg Value.bool hq1.symm)) ?_
      refine m_ ?_
      (first|refine u_ ?_|(refine v_ ?_; refine m_ ?_))
      (first|refine u_ ?_|(refine v_ ?_; refine m_ ?_))
      (first|refine u_ ?_|(refine v_ ?_; refine f_ (s_nilCheck rfl) ?_))
      (first|refine u_ ?_|(refine v_ ?_; refine f_ z_1 ?_))
      (first|refine u_ ?_|(refine v_ ?_; refine f_ z_1 ?_))
      (first|refine u_ ?_|(refine v_ ?_; refine r_ (by first | exact s_load_blk rfl z_3 a19_10 | exact s_load1 rfl (fun w hw => peekB hw (by assumption) a19_10)) ?_))
      (first|refine u_ ?_|(refine v_ ?_; refine f_ (s_leq rfl rfl) ?_))
      refine f_ z_8 ?_
      refine gl_nil ?_
      repeat refine y_ ?_
      exact at_cut (by (repeat (first | exact Sub.nil _ | refine Sub.cons rfl ?_))) (fun w hw => hw)
    · repeat refine y_ ?_
      refine g_region ?_
      refine m_ ?_
      refine f_ ((s_gtr rfl rfl).eq (congrArg Value.bool hq1.symm)) ?_
      refine m_ ?_
      (first|refine u_ ?_|(refine v_ ?_; refine m_ ?_))
      (first|refine u_ ?_|(refine v_ ?_; refine m_ ?_))
      (first|refine u_ ?_|(refine v_ ?_; refine f_ (s_nilCheck rfl) ?_))
      (first|refine u_ ?_|(refine v_ ?_; refine f_ z_1 ?_))
      (first|refine u_ ?_|(refine v_ ?_; refine f_ z_1 ?_))
      (first|refine u_ ?_|(refine v_ ?_; refine r_ (by first | exact s_load_blk rfl z_3 a19_10 | exact s_load1 rfl (fun w hw => peekB hw (by assumption) a19_10)) ?_))
      (first|refine u_ ?_|(refine v_ ?_; refine f_ ((s_leq rfl rfl).eq (congrArg Value.bool hq2.symm)) ?_))
      refine f_ z_8 ?_
      refine gl_nil ?_
      repeat refine y_ ?_
      exact at_cut (by (repeat (first | exact Sub.nil _ | refine Sub.cons rfl ?_))) (fun w hw => hw)
  have hq12 : (q1 && q2) = true ↔ (0 < r.at_ ∧ r.at_ ≤ p.commit) := by rw [Bool.and_eq_true, hq1, hq2, decide_eq_true_eq, decide_eq_true_eq]
  obtain ⟨q, hq⟩ : ∃ q, q = (q1 && q2) := ⟨_, rfl⟩
  rw [← hq] at hq12
  rw [← hq]
  cases q
  rotate_left
  · have e1 : tkP p m.p = p := by rw [tkP, ← hr, if_pos (.inr (hq12.1 rfl))]
    have e2 : tkM p m.p = [] := by rw [tkM, ← hr, if_neg (by rw [hok]; decide), if_pos (hq12.1 rfl)]
    simp only [e1, e2]
    repeat refine y_ ?_
    refine g_ret ?_
    exact at_end0 rfl (mdH X ⟨p, a, outs, oa0, oc0⟩ ++ []) (MdP.same X ⟨p, a, outs, oa0, oc0⟩ ⟨p, a, outs, oa0, oc0⟩ _ rfl) (fun w hw => hw.drop.drop.drop.drop)
  have hno : ¬ (0 < r.at_ ∧ r.at_ ≤ p.commit) := fun h => by have := hq12.2 h; cases this
  have e1 : tkP p m.p = { take1 p m.p with commit := max p.commit (min (min m.p.commit (matchI m.p)) (lastI (take1 p m.p).g)) } := by
    rw [tkP, ← hr, if_neg (by rw [hok]; intro h; rcases h with h | h; cases h; exact hno h), take1, hr]; rfl
  have e2 : tkM p m.p = [ackM p m.p.frm true (matchI m.p)] := by rw [tkM, ← hr, if_neg (by rw [hok]; decide), if_neg hno]
  simp only [e1, e2]
  repeat refine y_ ?_
  refine g_ownN (a := la) z_3 (fun _ hlc _ => ?_)
  repeat refine y_ ?_
  refine g_region ?_
  refine m_ ?_
  refine r_ ((s_load_blkW rfl z_3 z_10).eq (v' := .agg #[.int .u64 p.base, .int .u64 p.bt, .slice ca p.conf.length cc, .slice la r.l.length lc]) rfl) ?_
  refine f_ (s_nilCheck rfl) ?_
  refine f_ z_1 ?_
  refine f_ z_1 ?_
  (first | refine gl_store_blkW rfl rfl z_6 z_10 z_10 z_2 ?_ | refine gl_store_blk rfl rfl z_6 z_10 z_2 z_10 ?_)
  refine gl_nil ?_
  repeat refine y_ ?_
  obtain ⟨a1, ha1⟩ : ∃ a1 : RA, a1 = { a with ca := ca, cc := cc, la := la, lc := lc } := ⟨_, rfl⟩
  have hcap1 : (take1 p m.p).l.length ≤ a1.lc := by rw [ha1]; show (tkR p m.p).l.length ≤ lc; rw [← hr]; exact hlc
  refine g_pull (H' := blkMsg g3 m :: mdH X ⟨take1 p m.p, a1, outs, oa0, oc0⟩) (fun w hw => by subst ha1 hr; exact Hp.left (hw.perm (perm_up z_3 (perm_up z_3 (perm_up z_3 (perm_up z_3 (perm_up z_3 (perm_up z_3 (perm_up z_3 (.refl _)))))))))) ?_
  repeat refine y_ ?_
  refine g_region ?_
  refine f_ z_1 ?_
  refine r_ (by first | exact s_load_blk rfl z_3 a13_4 | exact s_load1 rfl (fun w hw => peekB hw (by assumption) a13_4)) ?_
  refine f_ z_1 ?_
  refine r_ (by first | exact s_load_blk rfl z_3 a13_8 | exact s_load1 rfl (fun w hw => peekB hw (by assumption) a13_8)) ?_
  refine f_ (s_len_sl rfl) ?_
  refine f_ (s_conv_keep_u64 rfl (by omega)) ?_
  refine f_ ((s_add_u64 rfl rfl (by omega)).eq (v' := .int .u64 (matchI m.p)) rfl) ?_
  refine f_ (s_assign rfl) ?_
  refine gl_nil ?_
  repeat refine y_ ?_
  refine g_draw ([5, 7], [0, 0, 2, 6, 14, 30, 0, 64, 0, 0, 512, 1984, 4094, 8191, 16383, 32767, 65535], [10, 16]) [.blk X (mdO ⟨take1 p m.p, a1, outs, oa0, oc0⟩), blkMsg g3 m] 17 rfl ?_
  refine w_ 0 rfl (s_move rfl) ?_
  refine w_ 1 rfl (s_move rfl) ?_
  refine w_ 2 rfl (s_nilCheck rfl) ?_
  refine w_ 3 rfl z_1 ?_
  refine w_ 4 rfl z_1 ?_
  (first | refine ga_read_k 5 rfl z_5 (s_load_blk rfl .del a19_10) (by (first | exact fun _ h => h | (repeat first | exact sub_nil | refine sub_cons z_4 ?_))) rfl rfl rfl z_7 ?_ | refine ga_readF 5 rfl (s_load1 rfl (fun w hw => peekB hw (by assumption) a19_10)) (by (first | exact fun _ h => h | (repeat first | exact sub_nil | refine sub_cons z_4 ?_))) rfl rfl rfl z_7 ?_)
  refine w_ 6 rfl z_1 ?_
  (first | refine ga_read_k 7 rfl z_5 (s_load_blk rfl .del a13_6) (by (first | exact fun _ h => h | (repeat first | exact sub_nil | refine sub_cons z_4 ?_))) rfl rfl rfl z_7 ?_ | refine ga_readF 7 rfl (s_load1 rfl (fun w hw => peekB hw (by assumption) a13_6)) (by (first | exact fun _ h => h | (repeat first | exact sub_nil | refine sub_cons z_4 ?_))) rfl rfl rfl z_7 ?_)
  refine w_ 8 rfl (s_move rfl) ?_
  refine w_ 9 rfl (s_move rfl) ?_
  refine ga_one 10 rfl z_7 ?_
  refine gl_callp rfl (rend_ct X ⟨take1 p m.p, a1, outs, oa0, oc0⟩ hf1 hcap1) (fun h hh ⟨bs, hb⟩ => ⟨Sat.blk hb z_3, Sat.rd (a := a1.la) hb z_3⟩) rfl ?_; rw [show lastI (⟨take1 p m.p, a1, outs, oa0, oc0⟩ : MD).p.g = lastI (take1 p m.p).g from rfl]
  refine gl_nil ?_
  refine at_ga (.inr (by exact keeps_of (by (first | exact fun _ h => h | (repeat first | exact sub_nil | refine sub_cons z_4 ?_))))) ?_
  refine w_ 11 rfl (s_min3 rfl rfl rfl) ?_
  refine w_ 12 rfl (s_max2 rfl rfl) ?_
  refine w_ 13 rfl (s_nilCheck rfl) ?_
  refine w_ 14 rfl z_1 ?_
  refine w_ 15 rfl z_1 ?_
  refine ga_one 16 rfl z_7 ?_
  (first | refine gl_store_blkC (pre := [_, _, _, _, _, _, _, _, _, _]) (post := [_, _, _, _, _, _, _, _]) rfl rfl z_6 z_10 z_10 z_10 ?_ | refine gl_store_blk rfl rfl z_6 z_10 z_2 z_10 ?_)
  refine gl_nil ?_
  refine at_ga (.inl z_7) ?_
  refine ga_done z_7 ?_
  repeat refine y_ ?_
  refine g_pull (H' := blkMsg g3 m :: mdH X ⟨{ take1 p m.p with commit := max p.commit (min (min m.p.commit (matchI m.p)) (lastI (take1 p m.p).g)) }, a1, outs, oa0, oc0⟩) (fun w hw => hw) ?_
  repeat refine y_ ?_
  refine g_region ?_
  refine m_ ?_
  refine f_ z_1 ?_
  refine r_ (by first | exact s_load_blk rfl z_3 a13_1 | exact s_load1 rfl (fun w hw => peekB hw (by assumption) a13_1)) ?_
  refine m_ ?_
  refine f_ ((s_bld (cells := (mmC (ackMM true (matchI m.p))).toArray) rfl z_7).eq (v' := mmA (ackMM true (matchI m.p))) rfl) ?_
  refine gl_call [blkMsg g3 m] rfl (say_ct X ⟨{ take1 p m.p with commit := max p.commit (min (min m.p.commit (matchI m.p)) (lastI (take1 p m.p).g)) }, a1, outs, oa0, oc0⟩ m.p.frm (ackMM true (matchI m.p)) (by simp only; omega)) (fun w hw => hw.perm (perm_up z_3 (perm_up z_3 (perm_up z_3 (perm_up z_3 (perm_up z_3 (perm_up z_3 (.refl _)))))))) (fun _ _ _ => trivial) rfl ?_; rintro v A ⟨rfl, oa, oc, rfl⟩
  refine gl_nil ?_
  repeat refine y_ ?_
  exact at_end0 rfl _ (MdP.said X ⟨p, a, outs, oa0, oc0⟩ { take1 p m.p with commit := max p.commit (min (min m.p.commit (matchI m.p)) (lastI (take1 p m.p).g)) } a1 outs ⟨ackM p m.p.frm true (matchI m.p), none, 0, none, 0⟩ oa oc _ rfl (fun h => mok_nil h _ rfl rfl)) (fun w hw => by rw [List.append_nil]; exact Hp.left hw)
end Go.Proofs.YtodcghipfolejaaGreat.Rf
