import Derived.Test.YtodcghipfolejaaGreatHx12
/- A mind's calls: hear; Step, at any event. -/
namespace Go.Proofs.YtodcghipfolejaaGreat.Rf
open Go Go.Sl
set_option linter.unusedVariables false
set_option linter.unusedSimpArgs false
-- ARR

/-- a state that a play may come to -/
structure PSt (p : RP) : Prop where
  fit : PFit p
  votes : VotesOk p
  l : p.l.length ≤ 99000
  piece : p.piece.length ≤ 1000000000
  prs : ∀ q ∈ p.peers, q.mtc ≤ 1000000000000 ∧ q.next ≤ 1000000000000
  ticks : p.ticks < 4611686018427387904
theorem Ct.pre {f : FuncId} {args : List Value} {Pre Pre' : Heap → Prop} {C : List As} {Post : Value → List As → Prop} (h : Ct Tryz.prog f args Pre C Post) (k : ∀ h, Pre' h → Pre h) : Ct Tryz.prog f args Pre' C Post := by
  intro w bs hs hn hp
  exact h w bs hs hn (k _ hp)
theorem pst_hear1 {p : RP} (h : PSt p) (m : MP) (hm : 0 ≤ m.term ∧ m.term ≤ 4611686018427387904) : PSt (hear1 p m) := by
  unfold hear1
  split
  · exact ⟨pf_follow h.fit _ _ hm, by unfold VotesOk; show pick (inB []) 5 = []; decide, h.l, h.piece, fun q hq => (by cases hq), h.ticks⟩
  · exact h
abbrev fns7 : Array Value := #[.nilFunc, fnF 57, fnF 58, fnF 59, fnF 60, fnF 59, fnF 61]
theorem hp_rot2 {F : Snap} {w : World} {x y : As} {A Z : List As} (h : Hp F w (y :: x :: (A ++ Z))) : Hp F w (A ++ (Z ++ [x, y])) := by
  rw [← List.append_assoc]
  exact (h.perm (List.Perm.swap x y _)).perm (List.perm_append_comm (l₁ := [x, y]) (l₂ := A ++ Z))
/-- what is done with a message of each kind -/
theorem does_ct (X : Nat) (d : MD) (m : MM) (k : Nat) (hk : m.p.kind = (k : Nat)) (hk6 : 1 ≤ k ∧ k ≤ 6) (hs : PSt d.p) (hm : MFit m.p) (hfr : 1 ≤ m.p.frm ∧ m.p.frm ≤ 5) (ho : d.outs.length ≤ 100000) :
    ∃ f, HF Tryz.prog f ∧ fns7[k]? = some (fnF f) ∧ Ct Tryz.prog f [Ptr X, mmA m] (fun h => MOk h m) (mdH X d) (MdP X d (doesP d.p m.p) (doesM d.p m.p) (.tuple #[])) := by
  have hl := hs.l
  rcases (show k = 1 ∨ k = 2 ∨ k = 3 ∨ k = 4 ∨ k = 5 ∨ k = 6 by omega) with rfl | rfl | rfl | rfl | rfl | rfl
  · refine ⟨57, inferInstance, rfl, ?_⟩
    have hk : m.p.kind = 1 := hk
    have e1 : doesP d.p m.p = voteP d.p m.p := by unfold doesP; rw [if_pos hk]
    have e2 : doesM d.p m.p = [grantM (voteP d.p m.p) m.p.frm (voteOk d.p m.p)] := by unfold doesM; rw [if_pos hk]
    rw [e1, e2]
    exact Ct.pre (vote_ct X d m hs.fit (by omega)) (fun _ _ => trivial)
  · refine ⟨58, inferInstance, rfl, ?_⟩
    have hk : m.p.kind = 2 := hk
    have e1 : doesP d.p m.p = grantP d.p m.p := by unfold doesP; rw [if_neg (by omega), if_pos hk]
    have e2 : doesM d.p m.p = grantMs d.p m.p := by unfold doesM; rw [if_neg (by omega), if_pos hk]
    rw [e1, e2]
    exact Ct.pre (grant_ct X d m hs.fit hs.votes hfr (by omega) (by omega)) (fun _ _ => trivial)
  · refine ⟨59, inferInstance, rfl, ?_⟩
    have hk : m.p.kind = 3 := hk
    have e1 : doesP d.p m.p = leadsP d.p m.p := by unfold doesP; rw [if_neg (by omega), if_neg (by omega), if_pos (.inl hk)]
    have e2 : doesM d.p m.p = leadsM d.p m.p := by unfold doesM; rw [if_neg (by omega), if_neg (by omega), if_pos (.inl hk)]
    rw [e1, e2]
    exact leads_ct X d m hs.fit hm hs.piece hl ho
  · refine ⟨60, inferInstance, rfl, ?_⟩
    have hk : m.p.kind = 4 := hk
    have e1 : doesP d.p m.p = ackP d.p m.p := by unfold doesP; rw [if_neg (by omega), if_neg (by omega), if_neg (by omega), if_pos hk]
    have e2 : doesM d.p m.p = ackMs d.p m.p := by unfold doesM; rw [if_neg (by omega), if_neg (by omega), if_neg (by omega), if_pos hk]
    rw [e1, e2]
    exact Ct.pre (ack_ct X d m hs.fit hm hs.prs ho) (fun _ _ => trivial)
  · refine ⟨59, inferInstance, rfl, ?_⟩
    have hk : m.p.kind = 5 := hk
    have e1 : doesP d.p m.p = leadsP d.p m.p := by unfold doesP; rw [if_neg (by omega), if_neg (by omega), if_pos (.inr hk)]
    have e2 : doesM d.p m.p = leadsM d.p m.p := by unfold doesM; rw [if_neg (by omega), if_neg (by omega), if_pos (.inr hk)]
    rw [e1, e2]
    exact leads_ct X d m hs.fit hm hs.piece hl ho
  · refine ⟨61, inferInstance, rfl, ?_⟩
    have hk : m.p.kind = 6 := hk
    have e1 : doesP d.p m.p = gotP d.p m.p := by unfold doesP; rw [if_neg (by omega), if_neg (by omega), if_neg (by omega), if_neg (by omega), if_pos hk]
    have e2 : doesM d.p m.p = gotMs d.p m.p := by unfold doesM; rw [if_neg (by omega), if_neg (by omega), if_neg (by omega), if_neg (by omega), if_pos hk]
    rw [e1, e2]
    exact Ct.pre (got_ct X d m hs.fit hm (by omega)) (fun _ _ => trivial)
set_option maxRecDepth 8000 in
set_option maxHeartbeats 8000000 in
theorem hear_ct (X : Nat) (d : MD) (e : EV) (hs : PSt d.p) (hm : MFit e.m.p) (ho : d.outs.length ≤ 10000) : Ct Tryz.prog 36 [Ptr X, evA e] (fun h => MOk h e.m) (mdH X d) (MdP X d (hearP d.p e.m.p) (hearM d.p e.m.p) (.int .i64 (hearE d.p e.m.p))) := by
  obtain ⟨p, a, outs, oa0, oc0⟩ := d
  obtain ⟨kind, m, et, ek, ed, ix, img⟩ := e
  simp only at hs ho hm
  have htm := hm.term
  refine ct_enter 97 Tryz.func36 rfl rfl rfl ?_
  intro F hmo
  obtain ⟨q1, hq1⟩ : ∃ q, q = decide (m.p.to = p.id) := ⟨_, rfl⟩
  obtain ⟨q2, hq2⟩ : ∃ q, q = decide (m.p.frm = p.id) := ⟨_, rfl⟩
  obtain ⟨q3, hq3⟩ : ∃ q, q = decide (m.p.frm < 1) := ⟨_, rfl⟩
  obtain ⟨q4, hq4⟩ : ∃ q, q = decide (5 < m.p.frm) := ⟨_, rfl⟩
  obtain ⟨q5, hq5⟩ : ∃ q, q = decide (4611686018427387904 < m.p.term) := ⟨_, rfl⟩
  have hb : hearBad p m.p = (!q1 || (q2 || (q3 || (q4 || q5)))) := by rw [hearBad, hq1, hq2, hq3, hq4, hq5]
  repeat refine y_ ?_
  refine g_region ?_
  refine gl_boxA rfl rfl ?_; intro g3
  refine f_ (s_assign rfl) ?_
  refine gl_nil ?_
  repeat refine y_ ?_
  refine g_region ?_
  refine f_ z_1 ?_
  refine r_ ((s_load_blkN rfl z_3 z_10).eq (v' := mmA m) rfl) ?_
  refine gl_allocA rfl ?_; intro g5
  (first | refine gl_store_blkW rfl rfl z_6 z_10 z_10 z_2 ?_ | refine gl_store_blk rfl rfl z_6 z_10 z_2 z_10 ?_)
  refine gl_nil ?_
  repeat refine y_ ?_
  obtain ⟨bad, hbad⟩ : ∃ b, b = hearBad p m.p := ⟨_, rfl⟩
  refine g_pull (H' := blkMsg g5 m :: mdH X ⟨p, a, outs, oa0, oc0⟩) (fun w hw => Hp.left (R := [.blk g3 (.cells (evC ⟨kind, m, et, ek, ed, ix, img⟩).toArray 53)]) (hw.perm (perm_up z_3 (perm_up z_3 (perm_up z_3 (perm_up z_3 (perm_up z_3 (perm_up z_3 (perm_up z_3 (.refl _)))))))))) ?_
  refine g_cutK [(0, Ptr X), (5, Ptr g5), (41, .bool bad)] (blkMsg g5 m :: mdH X ⟨p, a, outs, oa0, oc0⟩) ?_ ?_
  · rw [hbad, hb]
    rcases (show q1 = false ∨ (q1 = true ∧ q2 = true) ∨ (q1 = true ∧ q2 = false ∧ q3 = true) ∨ (q1 = true ∧ q2 = false ∧ q3 = false ∧ q4 = true) ∨ (q1 = true ∧ q2 = false ∧ q3 = false ∧ q4 = false) by cases q1 <;> cases q2 <;> cases q3 <;> cases q4 <;> simp) with rfl | ⟨rfl, rfl⟩ | ⟨rfl, rfl, rfl⟩ | ⟨rfl, rfl, rfl, rfl⟩ | ⟨rfl, rfl, rfl, rfl⟩
    all_goals
      repeat refine y_ ?_
      refine g_draw ([1, 6, 10, 15, 20, 25, 30], [0, 1, 0, 4, 12, 28, 60, 127, 255, 511, 1023, 511, 2559, 6655, 14847, 31231, 65535, 131071, 262143, 524287, 1048575, 2097151, 4194303, 8388607, 16777215, 33554431, 67108863, 134217727, 268435455, 536870911, 1073741823, 2147483647, 4294967295], []) [.blk X (mdO ⟨p, a, outs, oa0, oc0⟩), blkMsg g5 m] 33 rfl ?_
      refine w_ 0 rfl z_1 ?_
      (first | refine ga_read_k 1 rfl z_5 (s_load_blk rfl .del a13_2) (by (first | exact fun _ h => h | (repeat first | exact sub_nil | refine sub_cons z_4 ?_))) rfl rfl rfl z_7 ?_ | refine ga_readF 1 rfl (s_load1 rfl (fun w hw => peekB hw (by assumption) a13_2)) (by (first | exact fun _ h => h | (repeat first | exact sub_nil | refine sub_cons z_4 ?_))) rfl rfl rfl z_7 ?_)
      refine w_ 2 rfl (s_move rfl) ?_
      refine w_ 3 rfl (s_nilCheck rfl) ?_
      refine w_ 4 rfl z_1 ?_
      refine w_ 5 rfl z_1 ?_
      (first | refine ga_read_k 6 rfl z_5 (s_load_blk rfl .del a19_0) (by (first | exact fun _ h => h | (repeat first | exact sub_nil | refine sub_cons z_4 ?_))) rfl rfl rfl z_7 ?_ | refine ga_readF 6 rfl (s_load1 rfl (fun w hw => peekB hw (by assumption) a19_0)) (by (first | exact fun _ h => h | (repeat first | exact sub_nil | refine sub_cons z_4 ?_))) rfl rfl rfl z_7 ?_)
      refine w_ 7 rfl ((s_neq rfl rfl).eq (congrArg (fun b => Value.bool (!b)) hq1.symm)) ?_
      refine w_ 8 rfl (s_move rfl) ?_
      (first | refine s_ 9 ?_ | refine t_ 9 ?_ | refine ga_free_g 9 rfl z_1 rfl rfl rfl rfl rfl rfl z_7 ?_)
      (first | refine s_ 10 ?_ | refine t_ 10 ?_ | refine ga_read_kg 10 rfl z_5 (s_load_blk rfl .del a13_1) (by (first | exact fun _ h => h | (repeat first | exact sub_nil | refine sub_cons z_4 ?_))) rfl rfl rfl rfl rfl rfl z_7 ?_ | refine ga_readF_g 10 rfl (s_load1 rfl (fun w hw => peekB hw (by assumption) a13_1)) (by (first | exact fun _ h => h | (repeat first | exact sub_nil | refine sub_cons z_4 ?_))) rfl rfl rfl rfl rfl rfl z_7 ?_)
      (first | refine s_ 11 ?_ | refine t_ 11 ?_ | refine ga_free_g 11 rfl (s_move rfl) rfl rfl rfl rfl rfl rfl z_7 ?_)
      (first | refine s_ 12 ?_ | refine t_ 12 ?_ | refine ga_free_g 12 rfl (s_nilCheck rfl) rfl rfl rfl rfl rfl rfl z_7 ?_)
      (first | refine s_ 13 ?_ | refine t_ 13 ?_ | refine ga_free_g 13 rfl z_1 rfl rfl rfl rfl rfl rfl z_7 ?_)
      (first | refine s_ 14 ?_ | refine t_ 14 ?_ | refine ga_free_g 14 rfl z_1 rfl rfl rfl rfl rfl rfl z_7 ?_)
      (first | refine s_ 15 ?_ | refine t_ 15 ?_ | refine ga_read_kg 15 rfl z_5 (s_load_blk rfl .del a19_0) (by (first | exact fun _ h => h | (repeat first | exact sub_nil | refine sub_cons z_4 ?_))) rfl rfl rfl rfl rfl rfl z_7 ?_ | refine ga_readF_g 15 rfl (s_load1 rfl (fun w hw => peekB hw (by assumption) a19_0)) (by (first | exact fun _ h => h | (repeat first | exact sub_nil | refine sub_cons z_4 ?_))) rfl rfl rfl rfl rfl rfl z_7 ?_)
      (first | refine s_ 16 ?_ | refine t_ 16 ?_ | refine ga_free_g 16 rfl ((s_eql rfl rfl).eq (congrArg Value.bool hq2.symm)) rfl rfl rfl rfl rfl rfl z_7 ?_)
      refine w_ 17 rfl z_8 ?_
      refine w_ 18 rfl (s_move rfl) ?_
      (first | refine s_ 19 ?_ | refine t_ 19 ?_ | refine ga_free_g 19 rfl z_1 rfl rfl rfl rfl rfl rfl z_7 ?_)
      (first | refine s_ 20 ?_ | refine t_ 20 ?_ | refine ga_read_kg 20 rfl z_5 (s_load_blk rfl .del a13_1) (by (first | exact fun _ h => h | (repeat first | exact sub_nil | refine sub_cons z_4 ?_))) rfl rfl rfl rfl rfl rfl z_7 ?_ | refine ga_readF_g 20 rfl (s_load1 rfl (fun w hw => peekB hw (by assumption) a13_1)) (by (first | exact fun _ h => h | (repeat first | exact sub_nil | refine sub_cons z_4 ?_))) rfl rfl rfl rfl rfl rfl z_7 ?_)
      (first | refine s_ 21 ?_ | refine t_ 21 ?_ | refine ga_free_g 21 rfl ((s_lss rfl rfl).eq (congrArg Value.bool hq3.symm)) rfl rfl rfl rfl rfl rfl z_7 ?_)
      refine w_ 22 rfl z_8 ?_
      refine w_ 23 rfl (s_move rfl) ?_
      (first | refine s_ 24 ?_ | refine t_ 24 ?_ | refine ga_free_g 24 rfl z_1 rfl rfl rfl rfl rfl rfl z_7 ?_)
      (first | refine s_ 25 ?_ | refine t_ 25 ?_ | refine ga_read_kg 25 rfl z_5 (s_load_blk rfl .del a13_1) (by (first | exact fun _ h => h | (repeat first | exact sub_nil | refine sub_cons z_4 ?_))) rfl rfl rfl rfl rfl rfl z_7 ?_ | refine ga_readF_g 25 rfl (s_load1 rfl (fun w hw => peekB hw (by assumption) a13_1)) (by (first | exact fun _ h => h | (repeat first | exact sub_nil | refine sub_cons z_4 ?_))) rfl rfl rfl rfl rfl rfl z_7 ?_)
      (first | refine s_ 26 ?_ | refine t_ 26 ?_ | refine ga_free_g 26 rfl ((s_gtr rfl rfl).eq (congrArg Value.bool hq4.symm)) rfl rfl rfl rfl rfl rfl z_7 ?_)
      refine w_ 27 rfl z_8 ?_
      refine w_ 28 rfl (s_move rfl) ?_
      (first | refine s_ 29 ?_ | refine t_ 29 ?_ | refine ga_free_g 29 rfl z_1 rfl rfl rfl rfl rfl rfl z_7 ?_)
      (first | refine s_ 30 ?_ | refine t_ 30 ?_ | refine ga_read_kg 30 rfl z_5 (s_load_blk rfl .del a13_3) (by (first | exact fun _ h => h | (repeat first | exact sub_nil | refine sub_cons z_4 ?_))) rfl rfl rfl rfl rfl rfl z_7 ?_ | refine ga_readF_g 30 rfl (s_load1 rfl (fun w hw => peekB hw (by assumption) a13_3)) (by (first | exact fun _ h => h | (repeat first | exact sub_nil | refine sub_cons z_4 ?_))) rfl rfl rfl rfl rfl rfl z_7 ?_)
      (first | refine s_ 31 ?_ | refine t_ 31 ?_ | refine ga_free_g 31 rfl ((s_gtr rfl rfl).eq (congrArg Value.bool hq5.symm)) rfl rfl rfl rfl rfl rfl z_7 ?_)
      refine w_ 32 rfl z_8 ?_
      refine ga_done z_7 ?_
      repeat refine y_ ?_
      exact at_cut (by (repeat (first | exact Sub.nil _ | refine Sub.cons rfl ?_))) (fun w hw => hw)
  repeat refine y_ ?_
  cases bad
  rotate_left
  · have e1 : hearP p m.p = p := by rw [hearP, if_pos (.inl hbad.symm)]
    have e2 : hearM p m.p = [] := by rw [hearM, if_pos (.inl hbad.symm)]
    have e3 : hearE p m.p = 1 := by rw [hearE, if_pos hbad.symm]
    simp only [e1, e2, e3]
    repeat refine y_ ?_
    refine g_region ?_
    refine f_ (s_assign rfl) ?_
    refine gl_nil ?_
    repeat refine y_ ?_
    refine g_ret ?_
    exact at_end1 rfl rfl (mdH X ⟨p, a, outs, oa0, oc0⟩ ++ []) (MdP.same X ⟨p, a, outs, oa0, oc0⟩ ⟨p, a, outs, oa0, oc0⟩ _ rfl) (fun w hw => hw.drop)
  have hb0 : hearBad p m.p = false := hbad.symm
  have hfr : 1 ≤ m.p.frm ∧ m.p.frm ≤ 5 ∧ m.p.term ≤ 4611686018427387904 := by
    have h := hb0
    rw [hearBad] at h
    simp only [Bool.or_eq_false_iff, decide_eq_false_iff_not] at h
    omega
  have e3 : hearE p m.p = 0 := by rw [hearE, if_neg (by rw [hb0]; decide)]
  rw [e3]
  obtain ⟨q6, hq6⟩ : ∃ q, q = decide (p.term < m.p.term) := ⟨_, rfl⟩
  obtain ⟨q7, hq7⟩ : ∃ q, q = decide (m.p.kind = 1) := ⟨_, rfl⟩
  obtain ⟨q8, hq8⟩ : ∃ q, q = decide (p.role = 2) := ⟨_, rfl⟩
  obtain ⟨q9, hq9⟩ : ∃ q, q = decide (p.leader = 0) := ⟨_, rfl⟩
  obtain ⟨q10, hq10⟩ : ∃ q, q = decide (p.ticks < 3) := ⟨_, rfl⟩
  have hoff : hearOff p m.p = (q6 && (q7 && (q8 || (!q9 && q10)))) := by rw [hearOff, hq6, hq7, hq8, hq9, hq10]
  repeat refine y_ ?_
  refine g_draw ([1, 6], [0, 1, 0, 4, 12, 28, 60, 127], []) [.blk X (mdO ⟨p, a, outs, oa0, oc0⟩), blkMsg g5 m] 8 rfl ?_
  refine w_ 0 rfl z_1 ?_
  (first | refine ga_read_k 1 rfl z_5 (s_load_blk rfl .del a13_3) (by (first | exact fun _ h => h | (repeat first | exact sub_nil | refine sub_cons z_4 ?_))) rfl rfl rfl z_7 ?_ | refine ga_readF 1 rfl (s_load1 rfl (fun w hw => peekB hw (by assumption) a13_3)) (by (first | exact fun _ h => h | (repeat first | exact sub_nil | refine sub_cons z_4 ?_))) rfl rfl rfl z_7 ?_)
  refine w_ 2 rfl (s_move rfl) ?_
  refine w_ 3 rfl (s_nilCheck rfl) ?_
  refine w_ 4 rfl z_1 ?_
  refine w_ 5 rfl z_1 ?_
  (first | refine ga_read_k 6 rfl z_5 (s_load_blk rfl .del a19_1) (by (first | exact fun _ h => h | (repeat first | exact sub_nil | refine sub_cons z_4 ?_))) rfl rfl rfl z_7 ?_ | refine ga_readF 6 rfl (s_load1 rfl (fun w hw => peekB hw (by assumption) a19_1)) (by (first | exact fun _ h => h | (repeat first | exact sub_nil | refine sub_cons z_4 ?_))) rfl rfl rfl z_7 ?_)
  refine w_ 7 rfl ((s_gtr rfl rfl).eq (congrArg Value.bool hq6.symm)) ?_
  refine ga_done z_7 ?_
  repeat refine y_ ?_
  have hs1 := pst_hear1 hs m.p ⟨htm.1, hfr.2.2⟩
  refine g_cutE (ι := { x : MD × List As // x.1.p = hear1 p m.p ∧ x.1.outs.map MM.p = outs.map MM.p ∧ (hearOff p m.p = false) ∧ ∀ h, OutsOk h ⟨p, a, outs, oa0, oc0⟩ → (∃ bs, Sat h x.2 bs) → OutsOk h x.1 }) (fun _ => [(0, Ptr X), (5, Ptr g5)]) (fun x => blkMsg g5 m :: (mdH X x.1.1 ++ x.1.2)) ?_ (fun x => ?_)
  · cases q6
    · have e6 : hear1 p m.p = p := by rw [hear1, if_neg (of_decide_eq_false hq6.symm)]
      repeat refine y_ ?_
      exact at_cutE ⟨(⟨p, a, outs, oa0, oc0⟩, []), e6.symm, rfl, by rw [hoff]; rfl, fun h f _ => f⟩ (by (repeat (first | exact Sub.nil _ | refine Sub.cons rfl ?_))) (fun w hw => by rw [List.append_nil]; exact hw)
    · have e6 : hear1 p m.p = followP p m.p.term 0 := by rw [hear1, if_pos (of_decide_eq_true hq6.symm)]
      repeat refine y_ ?_
      obtain ⟨ob, hob⟩ : ∃ ob, ob = (q7 && (q8 || (!q9 && q10))) := ⟨_, rfl⟩
      refine g_cutK [(0, Ptr X), (5, Ptr g5), (76, .bool ob)] (blkMsg g5 m :: mdH X ⟨p, a, outs, oa0, oc0⟩) ?_ ?_
      · rw [hob]
        rcases (show q7 = false ∨ (q7 = true ∧ q8 = true) ∨ (q7 = true ∧ q8 = false ∧ q9 = true) ∨ (q7 = true ∧ q8 = false ∧ q9 = false) by cases q7 <;> cases q8 <;> cases q9 <;> simp) with rfl | ⟨rfl, rfl⟩ | ⟨rfl, rfl, rfl⟩ | ⟨rfl, rfl, rfl⟩
        all_goals
          repeat refine y_ ?_
          refine g_region ?_
          refine f_ z_1 ?_
          refine r_ (by first | exact s_load_blk rfl z_3 a13_0 | exact s_load1 rfl (fun w hw => peekB hw (by assumption) a13_0)) ?_
          refine f_ ((s_eql rfl rfl).eq (congrArg Value.bool hq7.symm)) ?_
          refine m_ ?_
          (first|refine u_ ?_|(refine v_ ?_; refine m_ ?_))
          (first|refine u_ ?_|(refine v_ ?_; refine f_ (s_nilCheck rfl) ?_))
          (first|refine u_ ?_|(refine v_ ?_; refine f_ z_1 ?_))
          (first|refine u_ ?_|(refine v_ ?_; refine f_ z_1 ?_))
          (first|refine u_ ?_|(refine v_ ?_; refine r_ (by first | exact s_load_blk rfl z_3 a19_3 | exact s_load1 rfl (fun w hw => peekB hw (by assumption) a19_3)) ?_))
          (first|refine u_ ?_|(refine v_ ?_; refine f_ ((s_eql rfl rfl).eq (congrArg Value.bool hq8.symm)) ?_))
          (first|refine u_ ?_|(refine v_ ?_; refine m_ ?_))
          (first|refine u_ ?_|(refine v_ ?_; refine m_ ?_))
          (first|refine u_ ?_|(refine v_ ?_; refine f_ (s_nilCheck rfl) ?_))
          (first|refine u_ ?_|(refine v_ ?_; refine f_ z_1 ?_))
          (first|refine u_ ?_|(refine v_ ?_; refine f_ z_1 ?_))
          (first|refine u_ ?_|(refine v_ ?_; refine r_ (by first | exact s_load_blk rfl z_3 a19_4 | exact s_load1 rfl (fun w hw => peekB hw (by assumption) a19_4)) ?_))
          (first|refine u_ ?_|(refine v_ ?_; refine f_ ((s_neq rfl rfl).eq (congrArg (fun b => Value.bool (!b)) hq9.symm)) ?_))
          (first|refine u_ ?_|(refine v_ ?_; refine m_ ?_))
          (first|refine u_ ?_|(refine v_ ?_; refine m_ ?_))
          (first|refine u_ ?_|(refine v_ ?_; refine f_ (s_nilCheck rfl) ?_))
          (first|refine u_ ?_|(refine v_ ?_; refine f_ z_1 ?_))
          (first|refine u_ ?_|(refine v_ ?_; refine f_ z_1 ?_))
          (first|refine u_ ?_|(refine v_ ?_; refine r_ (by first | exact s_load_blk rfl z_3 a19_11 | exact s_load1 rfl (fun w hw => peekB hw (by assumption) a19_11)) ?_))
          (first|refine u_ ?_|(refine v_ ?_; refine f_ ((s_lss rfl rfl).eq (congrArg Value.bool hq10.symm)) ?_))
          (first|refine u_ ?_|(refine v_ ?_; refine f_ z_8 ?_))
          (first|refine u_ ?_|(refine v_ ?_; refine f_ z_8 ?_))
          refine f_ z_8 ?_
          refine gl_nil ?_
          repeat refine y_ ?_
          exact at_cut (by (repeat (first | exact Sub.nil _ | refine Sub.cons rfl ?_))) (fun w hw => hw)
      rw [← hob] at hoff
      repeat refine y_ ?_
      cases ob
      rotate_left
      · have ho1 : hearOff p m.p = true := by rw [hoff]; rfl
        have e1 : hearP p m.p = p := by rw [hearP, if_pos (.inr ho1)]
        have e2 : hearM p m.p = [] := by rw [hearM, if_pos (.inr ho1)]
        simp only [e1, e2]
        repeat refine y_ ?_
        refine g_region ?_
        refine f_ (s_assign rfl) ?_
        refine gl_nil ?_
        repeat refine y_ ?_
        refine g_ret ?_
        exact at_end1 rfl rfl (mdH X ⟨p, a, outs, oa0, oc0⟩ ++ []) (MdP.same X ⟨p, a, outs, oa0, oc0⟩ ⟨p, a, outs, oa0, oc0⟩ _ rfl) (fun w hw => hw.drop)
      · repeat refine y_ ?_
        repeat refine y_ ?_
        refine g_region ?_
        refine m_ ?_
        refine f_ z_1 ?_
        refine r_ (by first | exact s_load_blk rfl z_3 a13_3 | exact s_load1 rfl (fun w hw => peekB hw (by assumption) a13_3)) ?_
        refine gl_call [blkMsg g5 m] rfl (follow_ct X ⟨p, a, outs, oa0, oc0⟩ m.p.term 0) (fun w hw => hw.perm (perm_up z_3 (perm_up z_3 (perm_up z_3 (perm_up z_3 (perm_up z_3 (perm_up z_3 (.refl _)))))))) (fun _ _ _ => trivial) rfl ?_; rintro v A ⟨rfl, d2, Z2, e4, o2, rfl, f2⟩
        refine gl_nil ?_
        repeat refine y_ ?_
        exact at_cutE ⟨(d2, Z2), by rw [e4, e6], by rw [o2, List.append_nil], by rw [hoff]; rfl, f2⟩ (by (repeat (first | exact Sub.nil _ | refine Sub.cons rfl ?_))) (fun w hw => hw.perm List.perm_append_comm)
  obtain ⟨⟨⟨p2, a2, outs2, oa2, oc2⟩, Z2⟩, e4, o2, hno, f2⟩ := x
  simp only at e4 o2 f2
  subst e4
  have l2 : outs2.length = outs.length := by
    have := congrArg List.length o2
    simpa using this
  have e1 : hearP p m.p = doesP (hear1 p m.p) m.p := by rw [hearP, if_neg (by rintro (h | h); (rw [hb0] at h; cases h); (rw [hno] at h; cases h))]
  have e2 : hearM p m.p = doesM (hear1 p m.p) m.p := by rw [hearM, if_neg (by rintro (h | h); (rw [hb0] at h; cases h); (rw [hno] at h; cases h))]
  rw [e1, e2]
  repeat refine y_ ?_
  refine g_region ?_
  refine f_ (s_build rfl (v := .agg fns7) (fun w => by kernel_rfl)) ?_
  refine gl_allocA rfl ?_; intro g6
  (first | refine gl_store_blkW rfl rfl z_6 z_10 z_10 z_2 ?_ | refine gl_store_blk rfl rfl z_6 z_10 z_2 z_10 ?_)
  refine gl_nil ?_
  repeat refine y_ ?_
  by_cases hk : 1 ≤ m.p.kind ∧ m.p.kind ≤ 6
  · obtain ⟨k, hkk⟩ : ∃ k : Nat, m.p.kind = (k : Nat) := ⟨m.p.kind.toNat, by omega⟩
    obtain ⟨f, hF, hfn, hct⟩ := does_ct X ⟨hear1 p m.p, a2, outs2, oa2, oc2⟩ m k hkk (by omega) hs1 hm ⟨hfr.1, hfr.2.1⟩ (by simp only; omega)
    haveI := hF
    repeat refine y_ ?_
    refine g_region ?_
    refine f_ z_1 ?_
    refine r_ (by first | exact s_load_blk rfl z_3 a13_0 | exact s_load1 rfl (fun w hw => peekB hw (by assumption) a13_0)) ?_
    refine f_ ((s_gtr rfl rfl).eq (v' := .bool true) (congrArg Value.bool (decide_eq_true (by omega)))) ?_
    refine m_ ?_
    (first|refine u_ ?_|(refine v_ ?_; refine f_ z_1 ?_))
    (first|refine u_ ?_|(refine v_ ?_; refine r_ (by first | exact s_load_blk rfl z_3 a13_0 | exact s_load1 rfl (fun w hw => peekB hw (by assumption) a13_0)) ?_))
    (first|refine u_ ?_|(refine v_ ?_; refine f_ ((s_lss rfl rfl).eq (v' := .bool true) (congrArg Value.bool (decide_eq_true (by omega)))) ?_))
    refine f_ z_8 ?_
    refine gl_nil ?_
    repeat refine y_ ?_
    refine g_draw ([1, 3, 5], [0, 1, 3, 7, 0, 0, 63], [6]) [blkMsg g5 m, .blk g6 (.cells fns7 113)] 7 rfl ?_
    refine w_ 0 rfl z_1 ?_
    (first | refine ga_read_k 1 rfl z_5 (s_load_blk rfl .del a13_0) (by (first | exact fun _ h => h | (repeat first | exact sub_nil | refine sub_cons z_4 ?_))) rfl rfl rfl z_7 ?_ | refine ga_readF 1 rfl (s_load1 rfl (fun w hw => peekB hw (by assumption) a13_0)) (by (first | exact fun _ h => h | (repeat first | exact sub_nil | refine sub_cons z_4 ?_))) rfl rfl rfl z_7 ?_)
    refine w_ 2 rfl (s_indexAddr_arr rfl rfl (by omega)) ?_
    refine ga_read_k 3 rfl z_5 (s_load_blk rfl .del (by rw [show 0 + m.p.kind.toNat * 1 = k by omega]; exact hfn)) (by (first | exact fun _ h => h | (repeat first | exact sub_nil | refine sub_cons z_4 ?_))) rfl rfl rfl z_7 ?_
    refine w_ 4 rfl (s_move rfl) ?_
    refine ga_read_k 5 rfl z_5 ((s_load_blkW rfl .del z_10).eq (v' := mmA m) rfl) (by (first | exact fun _ h => h | (repeat first | exact sub_nil | refine sub_cons z_4 ?_))) rfl rfl rfl z_7 ?_
    refine ga_one 6 rfl z_7 ?_
    refine gl_callv (Z2 ++ [blkMsg g5 m, .blk g6 (.cells fns7 113)]) rfl rfl (ps := []) (qs := []) rfl hct (fun w hw => hp_rot2 hw) (fun h hh _ => hmo.le hh) rfl ?_; rintro v A ⟨rfl, d3, Z3, e5, o3, rfl, f3⟩
    refine gl_nil ?_
    refine at_ga (.inl z_7) ?_
    refine ga_done z_7 ?_
    repeat refine y_ ?_
    refine g_region ?_
    refine f_ (s_assign rfl) ?_
    refine gl_nil ?_
    repeat refine y_ ?_
    refine g_ret ?_
    exact at_end1 rfl rfl (mdH X d3 ++ (Z3 ++ (Z2 ++ [blkMsg g5 m, .blk g6 (.cells fns7 113)]))) ⟨rfl, d3, _, e5, by rw [o3, o2], rfl, fun h f hs => by
      obtain ⟨s3, s2⟩ := Sat.two2 hs
      exact f3 h (f2 h f (Sat.two2 s2).1) s3⟩ (fun w hw => by rwa [List.append_assoc] at hw)
  · have e5 : doesP (hear1 p m.p) m.p = hear1 p m.p := by
      rw [doesP, if_neg (by omega), if_neg (by omega), if_neg (by omega), if_neg (by omega), if_neg (by omega)]
    have e6 : doesM (hear1 p m.p) m.p = [] := by
      rw [doesM, if_neg (by omega), if_neg (by omega), if_neg (by omega), if_neg (by omega), if_neg (by omega)]
    simp only [e5, e6]
    obtain ⟨b1, hb1⟩ : ∃ b, b = decide (0 < m.p.kind) := ⟨_, rfl⟩
    obtain ⟨b2, hb2⟩ : ∃ b, b = decide (m.p.kind < 7) := ⟨_, rfl⟩
    have hbb : b1 = false ∨ (b1 = true ∧ b2 = false) := by
      rw [hb1, hb2]
      by_cases h1 : 0 < m.p.kind
      · right; exact ⟨decide_eq_true h1, decide_eq_false (by omega)⟩
      · left; exact decide_eq_false h1
    rcases hbb with rfl | ⟨rfl, rfl⟩
    all_goals
      repeat refine y_ ?_
      refine g_region ?_
      refine f_ z_1 ?_
      refine r_ (by first | exact s_load_blk rfl z_3 a13_0 | exact s_load1 rfl (fun w hw => peekB hw (by assumption) a13_0)) ?_
      refine f_ ((s_gtr rfl rfl).eq (congrArg Value.bool hb1.symm)) ?_
      refine m_ ?_
      (first|refine u_ ?_|(refine v_ ?_; refine f_ z_1 ?_))
      (first|refine u_ ?_|(refine v_ ?_; refine r_ (by first | exact s_load_blk rfl z_3 a13_0 | exact s_load1 rfl (fun w hw => peekB hw (by assumption) a13_0)) ?_))
      (first|refine u_ ?_|(refine v_ ?_; refine f_ ((s_lss rfl rfl).eq (congrArg Value.bool hb2.symm)) ?_))
      refine f_ z_8 ?_
      refine gl_nil ?_
      repeat refine y_ ?_
      refine g_region ?_
      refine f_ (s_assign rfl) ?_
      refine gl_nil ?_
      repeat refine y_ ?_
      refine g_ret ?_
      exact at_end1 rfl rfl (mdH X ⟨hear1 p m.p, a2, outs2, oa2, oc2⟩ ++ Z2) ⟨rfl, ⟨hear1 p m.p, a2, outs2, oa2, oc2⟩, Z2, rfl, by rw [o2, List.append_nil], rfl, f2⟩ (fun w hw => hw.drop.drop)
end Go.Proofs.YtodcghipfolejaaGreat.Rf
/- A mind's calls: Step, at any event. -/
namespace Go.Proofs.YtodcghipfolejaaGreat.Rf
open Go Go.Sl
set_option linter.unusedVariables false
set_option linter.unusedSimpArgs false
-- ARR

abbrev evp (e : EV) : EP := ⟨e.kind, e.m.p, e.ek, e.ed, e.index, e.img⟩
theorem stepP_err {p : RP} {e : EP} (h : stepE p e ≠ 0) : stepP p e = p ∧ stepM p e = [] := by
  unfold stepE at h
  unfold stepP stepM
  by_cases h1 : e.kind = 1
  · rw [if_pos h1] at h; exact absurd rfl h
  rw [if_neg h1] at h
  rw [if_neg h1, if_neg h1]
  by_cases h2 : e.kind = 2
  · rw [if_pos h2] at h
    rw [if_pos h2, if_pos h2]
    have hb : hearBad p e.m = true := by
      cases hb : hearBad p e.m
      · rw [hearE, hb] at h; exact absurd rfl h
      · rfl
    exact ⟨by rw [hearP, if_pos (.inl hb)], by rw [hearM, if_pos (.inl hb)]⟩
  rw [if_neg h2] at h
  rw [if_neg h2, if_neg h2]
  by_cases h3 : e.kind = 3
  · rw [if_pos h3] at h
    rw [if_pos h3, if_pos h3]
    exact ⟨if_neg h, if_neg h⟩
  rw [if_neg h3] at h
  rw [if_neg h3, if_neg h3]
  by_cases h4 : e.kind = 4
  · rw [if_pos h4] at h
    rw [if_pos h4]
    have hb : compBad p e.index e.img = true := by
      cases hb : compBad p e.index e.img
      · rw [compE, hb] at h; exact absurd rfl h
      · rfl
    exact ⟨if_pos hb, rfl⟩
  · rw [if_neg h4]; exact ⟨rfl, rfl⟩
theorem Step_ct' (p : RP) (a : RA) (e : EV) (hs : PSt p) (hm : MFit e.m.p) (hk : 1 ≤ e.kind ∧ e.kind ≤ 4) (hi : 0 ≤ e.index ∧ e.index ≤ 18446744073709551615) :
    Ct Tryz.prog 16 [rsV p a, evA e] (fun h => RRd h p a ∧ MOk h e.m) [] (StP (stepP p (evp e)) (stepM p (evp e)) (stepE p (evp e))) := by
  have hl := hs.l
  have key : ∀ (k f : Nat) (p' : RP) (new : List MP) (er : Int), e.kind = (k : Nat) → 1 ≤ k ∧ k ≤ 4 → HF Tryz.prog f → fns[k]? = some (fnF f) → stepE p (evp e) = er → (er = 0 → stepP p (evp e) = p' ∧ stepM p (evp e) = new) →
      (∀ X d, d.p = p → d.outs = [] → Ct Tryz.prog f [Ptr X, evA e] (fun h => MOk h e.m) (mdH X d) (MdP X d p' new (.int .i64 er))) → Ct Tryz.prog 16 [rsV p a, evA e] (fun h => RRd h p a ∧ MOk h e.m) [] (StP (stepP p (evp e)) (stepM p (evp e)) (stepE p (evp e))) := by
    intro k f p' new er hke hk4 hF hfn hE hP hc
    haveI := hF
    have h1 := Step_of p a e k f p' new er hs.fit hke hk4 hfn (fun h => MOk h e.m) (fun h h' hl hm => hm.le hl) hc
    by_cases h0 : er = 0
    · obtain ⟨e1, e2⟩ := hP h0
      rw [if_pos h0, if_pos h0] at h1
      rw [e1, e2, hE]; exact h1
    · obtain ⟨e1, e2⟩ := stepP_err (p := p) (e := evp e) (by rw [hE]; exact h0)
      rw [if_neg h0, if_neg h0] at h1
      rw [e1, e2, hE]; exact h1
  rcases (show e.kind = 1 ∨ e.kind = 2 ∨ e.kind = 3 ∨ e.kind = 4 by omega) with h | h | h | h
  · refine key 1 35 (tickP p) (tickM p) 0 h (by decide) inferInstance rfl ?_ (fun _ => ⟨?_, ?_⟩) (fun X d e1 e2 => ?_)
    · unfold stepE; rw [if_pos h]
    · unfold stepP; rw [if_pos h]
    · unfold stepM; rw [if_pos h]
    · have := tick_ct X d (evC e).toArray (by rw [e1]; exact hs.fit) (by rw [e1]; exact hs.ticks) (by rw [e1]; omega) (by rw [e2]; decide)
      rw [e1] at this
      exact Ct.pre this (fun _ _ => trivial)
  · have n1 : ¬ e.kind = 1 := by omega
    refine key 2 36 (hearP p e.m.p) (hearM p e.m.p) (hearE p e.m.p) h (by decide) inferInstance rfl ?_ (fun _ => ⟨?_, ?_⟩) (fun X d e1 e2 => ?_)
    · unfold stepE; rw [if_neg n1, if_pos h]
    · unfold stepP; rw [if_neg n1, if_pos h]
    · unfold stepM; rw [if_neg n1, if_pos h]
    · have := hear_ct X d e (by rw [e1]; exact hs) hm (by rw [e2]; decide)
      rw [e1] at this
      exact this
  · have n1 : ¬ e.kind = 1 := by omega
    have n2 : ¬ e.kind = 2 := by omega
    refine key 3 37 (propP p e.ek e.ed) (propM p e.ek e.ed) (propE p e.ek e.ed) h (by decide) inferInstance rfl ?_ (fun _ => ⟨?_, ?_⟩) (fun X d e1 e2 => ?_)
    · unfold stepE; rw [if_neg n1, if_neg n2, if_pos h]
    · unfold stepP; rw [if_neg n1, if_neg n2, if_pos h]
    · unfold stepM; rw [if_neg n1, if_neg n2, if_pos h]
    · have := propose_ct X d e (by rw [e1]; exact hs.fit) (by rw [e1]; omega) (by rw [e2]; decide)
      rw [e1] at this
      exact Ct.pre this (fun _ _ => trivial)
  · have n1 : ¬ e.kind = 1 := by omega
    have n2 : ¬ e.kind = 2 := by omega
    have n3 : ¬ e.kind = 3 := by omega
    refine key 4 38 (compP p e.index e.img) [] (compE p e.index e.img) h (by decide) inferInstance rfl ?_ (fun _ => ⟨?_, ?_⟩) (fun X d e1 e2 => ?_)
    · unfold stepE; rw [if_neg n1, if_neg n2, if_neg n3, if_pos h]
    · unfold stepP; rw [if_neg n1, if_neg n2, if_neg n3, if_pos h]
    · unfold stepM; rw [if_neg n1, if_neg n2, if_neg n3]
    · have := compact_ct X d e (by rw [e1]; exact hs.fit) hi
      rw [e1] at this
      exact Ct.pre this (fun _ _ => trivial)
end Go.Proofs.YtodcghipfolejaaGreat.Rf
/- How far a play's states and messages may go. -/
namespace Go.Proofs.YtodcghipfolejaaGreat.Rf
open Go Go.Sl
set_option linter.unusedVariables false
set_option linter.unusedSimpArgs false

def EB (K : Int) (e : Ent) : Prop := e.2.2.length ≤ 100000 ∧ 0 ≤ e.1 ∧ e.1 ≤ K
def NB (n : Int) : Prop := 1 ≤ n ∧ n ≤ 5
def QB (K : Int) (n : Nat) (q : Pr) : Prop := 1 ≤ q.next ∧ q.next ≤ K + 1 ∧ 0 ≤ q.mtc ∧ q.mtc ≤ K ∧ 0 ≤ q.off ∧ q.off ≤ (n : Int) ∧ 1 ≤ q.node ∧ q.node ≤ 5
structure BI (K : Int) (p : RP) : Prop where
  base : 0 ≤ p.base ∧ p.base + (p.l.length : Int) ≤ K
  conf : p.conf.length ≤ 5 ∧ ∀ n ∈ p.conf, NB n
  ent : ∀ e ∈ p.l, EB K e
  bt : 0 ≤ p.bt ∧ p.bt ≤ K
  img : p.img.length ≤ 300000
  piece : p.piece.length ≤ 300000
  votes : VotesOk p
  peers : p.peers.length ≤ 5
  prs : ∀ q ∈ p.peers, QB K p.img.length q
  ticks : 0 ≤ p.ticks ∧ p.ticks ≤ K
  term : 0 ≤ p.term ∧ p.term ≤ K
  commit : 0 ≤ p.commit ∧ p.commit ≤ K
structure BM (K : Int) (m : MP) : Prop where
  index : 0 ≤ m.index ∧ m.index + (m.ents.length : Int) ≤ K
  lt : 0 ≤ m.lt ∧ m.lt ≤ K
  commit : 0 ≤ m.commit ∧ m.commit ≤ K
  term : 0 ≤ m.term ∧ m.term ≤ K
  el : m.ents.length ≤ 100
  ent : ∀ e ∈ m.ents, EB K e
  conf : m.conf.length ≤ 5 ∧ ∀ n ∈ m.conf, NB n
  off : 0 ≤ m.off ∧ m.off ≤ 300000
  to : NB m.to
theorem eb_mono {K K' : Int} (h : K ≤ K') {e : Ent} (he : EB K e) : EB K' e := ⟨he.1, he.2.1, by have := he.2.2; omega⟩
theorem qb_mono {K K' : Int} (h : K ≤ K') {n : Nat} {q : Pr} (hq : QB K n q) : QB K' n q := by
  unfold QB at *; omega
theorem bi_mono {K K' : Int} {p : RP} (hp : BI K p) (h : K ≤ K') : BI K' p :=
  ⟨⟨hp.base.1, by have := hp.base.2; omega⟩, hp.conf, fun e he => eb_mono h (hp.ent e he), ⟨hp.bt.1, by have := hp.bt.2; omega⟩, hp.img, hp.piece, hp.votes, hp.peers, fun q hq => qb_mono h (hp.prs q hq),
    ⟨hp.ticks.1, by have := hp.ticks.2; omega⟩, ⟨hp.term.1, by have := hp.term.2; omega⟩, ⟨hp.commit.1, by have := hp.commit.2; omega⟩⟩
theorem bm_mono {K K' : Int} {m : MP} (hp : BM K m) (h : K ≤ K') : BM K' m :=
  ⟨⟨hp.index.1, by have := hp.index.2; omega⟩, ⟨hp.lt.1, by have := hp.lt.2; omega⟩, ⟨hp.commit.1, by have := hp.commit.2; omega⟩, ⟨hp.term.1, by have := hp.term.2; omega⟩, hp.el, fun e he => eb_mono h (hp.ent e he), hp.conf, hp.off, hp.to⟩
theorem bm_fit {K : Int} {m : MP} (h : BM K m) (hK : K ≤ 90000) : MFit m :=
  ⟨⟨h.index.1, by have := h.index.2; omega⟩, ⟨h.lt.1, by have := h.lt.2; omega⟩, ⟨h.commit.1, by have := h.commit.2; omega⟩, ⟨h.term.1, by have := h.term.2; omega⟩, by have := h.el; omega, fun e he => by have := (h.ent e he).1; omega, by have := h.conf.1; omega, by have := h.off; omega⟩
theorem bi_st {K : Int} {p : RP} (h : BI K p) (hK : K ≤ 90000) : PSt p := by
  have hb := h.base
  have hv : p.votes.length ≤ 5 := by
    have := h.votes
    unfold VotesOk at this
    rw [← this]; exact pick_le _ _
  refine ⟨⟨⟨hb.1, by omega⟩, by omega, by have := h.conf.1; omega, dat_mem.2 fun e he => by have := (h.ent e he).1; omega, by have := h.img; omega, by omega, by have := h.peers; omega, fun q hq => ?_, ?_, ?_, ?_⟩, h.votes, by omega, by have := h.piece; omega, fun q hq => ?_, ?_⟩
  · have := h.prs q hq; unfold QB at this; omega
  · have := h.ticks; omega
  · have := h.term; omega
  · have := h.commit; omega
  · have := h.prs q hq; unfold QB at this; omega
  · have := h.ticks; omega
theorem bi_last {K : Int} {p : RP} (h : BI K p) : 0 ≤ lastI p.g ∧ lastI p.g ≤ K := by
  have := h.base
  show 0 ≤ p.base + (p.l.length : Int) ∧ p.base + (p.l.length : Int) ≤ K
  omega
theorem getD_mem {l : List Ent} {i : Nat} (h : i < l.length) : l.getD i E0 ∈ l := by
  rw [List.getD_eq_getElem?_getD, List.getElem?_eq_getElem h]; exact List.getElem_mem h
theorem bi_term {K : Int} {p : RP} (h : BI K p) (hK : 0 ≤ K) (i : Int) : 0 ≤ termV p.g i ∧ termV p.g i ≤ K := by
  unfold termV
  split
  · split
    · exact h.bt
    · by_cases hi : (i - p.g.base - 1).toNat < p.g.l.length
      · have := h.ent _ (getD_mem (l := p.l) hi)
        exact this.2
      · rw [List.getD_eq_getElem?_getD, List.getElem?_eq_none (by omega)]
        exact ⟨Int.le_refl _, hK⟩
  · exact ⟨Int.le_refl _, hK⟩
theorem read_nb (s : Bs) : ∀ n ∈ readL s, NB n := by
  intro n hn
  unfold readL at hn
  split at hn
  · rename_i h
    unfold okR at h
    simp only [Bool.and_eq_true, decide_eq_true_eq] at h
    have hr : rightB (decL s) = true := by
      cases hr : rightB (decL s)
      · have := h.2
        rw [textL, if_neg (by rw [hr]; decide)] at this
        rw [← this] at h
        simp at h
      · rfl
    exact right_small hr n hn
  · cases hn
theorem confN_5 (g : LM) (hc : g.conf.length ≤ 5 ∧ ∀ n ∈ g.conf, NB n) : ∀ k, (confN g k).1.length ≤ 5 ∧ ∀ n ∈ (confN g k).1, NB n
  | 0 => hc
  | n + 1 => by
    rw [confN]
    split
    · exact ⟨read_le _, read_nb _⟩
    · exact confN_5 g hc n
theorem bi_conf {K : Int} {p : RP} (h : BI K p) (i : Int) : (confAt p.g i).1.length ≤ 5 ∧ ∀ n ∈ (confAt p.g i).1, NB n := confN_5 p.g h.conf _
/-! ## what is said -/
theorem slice_in {g : LM} {a b : Int} {e : Ent} (h : e ∈ sliceL g a b) : e ∈ g.l := by
  unfold sliceL at h
  split at h
  · exact List.mem_of_mem_drop (List.mem_of_mem_take h)
  · cases h
theorem bm_update {K : Int} {p : RP} (h : BI K p) (hK : 0 ≤ K) {q : Pr} (hq : QB K p.img.length q) : BM K (updateP p q) := by
  have hb := h.base
  have hc := h.commit
  have ht := h.term
  unfold QB at hq
  unfold updateP
  split
  · refine ⟨⟨hb.1, ?_⟩, h.bt, ⟨Int.le_refl _, hK⟩, ht, by show 0 ≤ 100; decide, (fun e he => by cases he), h.conf, by have := h.img; show 0 ≤ q.off ∧ q.off ≤ 300000; omega, hq.2.2.2.2.2.2⟩
    show p.base + ((0 : Nat) : Int) ≤ K
    omega
  · rename_i hn
    have hl8 : (sliceL p.g q.next 8).length ≤ 8 := by
      unfold sliceL; split
      · rw [List.length_take]; omega
      · simp
    have hsl : q.next - 1 + ((sliceL p.g q.next 8).length : Int) ≤ K := by
      unfold sliceL
      split
      · rename_i h1
        have e1 : p.g.base = p.base := rfl
        have e2 : p.g.l.length = p.l.length := rfl
        rw [List.length_take, List.length_drop]
        omega
      · simp only [List.length_nil]; omega
    refine ⟨⟨by show 0 ≤ q.next - 1; omega, hsl⟩, bi_term h hK _, hc, ht, by show (sliceL p.g q.next 8).length ≤ 100; omega, fun e he => h.ent e (slice_in (g := p.g) he), ⟨by show 0 ≤ 5; decide, (fun n hn => by cases hn)⟩, by show (0 : Int) ≤ 0 ∧ (0 : Int) ≤ 300000; omega, hq.2.2.2.2.2.2⟩
theorem bm_all {K : Int} {p : RP} (h : BI K p) (hK : 0 ≤ K) : ∀ m ∈ allP p, BM K m := by
  intro m hm
  unfold allP at hm
  split at hm
  · obtain ⟨q, hq, rfl⟩ := List.mem_map.1 hm
    exact bm_update h hK (h.prs q hq)
  · cases hm
theorem bm_ack {K : Int} {p : RP} (h : BI K p) (hK : 0 ≤ K) {to : Int} (hto : NB to) (ok : Bool) {i : Int} (hi : 0 ≤ i ∧ i ≤ K) : BM K (ackM p to ok i) :=
  ⟨⟨hi.1, by show i + ((0 : Nat) : Int) ≤ K; omega⟩, ⟨Int.le_refl _, hK⟩, ⟨Int.le_refl _, hK⟩, h.term, by show 0 ≤ 100; decide, (fun e he => by cases he), ⟨by show 0 ≤ 5; decide, (fun n hn => by cases hn)⟩, by show (0 : Int) ≤ 0 ∧ (0 : Int) ≤ 300000; omega, hto⟩
theorem bm_got {K : Int} {p : RP} (h : BI K p) (hK : 0 ≤ K) {to : Int} (hto : NB to) {i off : Int} (hi : 0 ≤ i ∧ i ≤ K) (ho : 0 ≤ off ∧ off ≤ 300000) : BM K (gotM p to i off) :=
  ⟨⟨hi.1, by show i + ((0 : Nat) : Int) ≤ K; omega⟩, ⟨Int.le_refl _, hK⟩, ⟨Int.le_refl _, hK⟩, h.term, by show 0 ≤ 100; decide, (fun e he => by cases he), ⟨by show 0 ≤ 5; decide, (fun n hn => by cases hn)⟩, ho, hto⟩
theorem bm_grant {K : Int} {p : RP} (h : BI K p) (hK : 0 ≤ K) {to : Int} (hto : NB to) (ok : Bool) : BM K (grantM p to ok) :=
  ⟨⟨Int.le_refl _, by show (0 : Int) + ((0 : Nat) : Int) ≤ K; omega⟩, ⟨Int.le_refl _, hK⟩, ⟨Int.le_refl _, hK⟩, h.term, by show 0 ≤ 100; decide, (fun e he => by cases he), ⟨by show 0 ≤ 5; decide, (fun n hn => by cases hn)⟩, by show (0 : Int) ≤ 0 ∧ (0 : Int) ≤ 300000; omega, hto⟩
/-! ## what a mind does -/
theorem votes_nil : pick (inB []) 5 = ([] : List Int) := by decide
theorem bi_follow {K : Int} {p : RP} (h : BI K p) (t n : Int) (ht : 0 ≤ t ∧ t ≤ K) : BI K (followP p t n) :=
  ⟨h.base, h.conf, h.ent, h.bt, h.img, h.piece, votes_nil, Nat.zero_le _, (fun q hq => by cases hq), h.ticks, by
    have := h.term
    show 0 ≤ (if p.term < t then t else p.term) ∧ (if p.term < t then t else p.term) ≤ K
    split <;> omega, h.commit⟩
theorem bi_com {K : Int} {p : RP} (h : BI K p) (hK : 0 ≤ K) : 0 ≤ comP p ∧ comP p ≤ K := by
  refine com_bd hK (fun q hq => ?_)
  have := bi_last h
  rcases List.mem_cons.1 hq with rfl | hq
  · show lastI p.g ≤ _; omega
  · obtain ⟨r, hr, rfl⟩ := List.mem_map.1 hq
    exact (h.prs r hr).2.2.2.1
theorem bi_commit {K : Int} {p : RP} (h : BI K p) (hK : 0 ≤ K) : BI K (commitP p) := by
  have h1 : BI K (commit1 p) := by
    unfold commit1
    split
    · exact ⟨h.base, h.conf, h.ent, h.bt, h.img, h.piece, h.votes, h.peers, h.prs, h.ticks, h.term, bi_com h hK⟩
    · exact h
  unfold commitP
  split
  · exact bi_follow h1 _ _ h1.term
  · exact h1
theorem peersL_5 {K : Int} {p : RP} (h : BI K p) : (peersL p).length ≤ 5 := by
  unfold peersL
  rw [List.length_map]
  exact Nat.le_trans (List.length_filter_le _ _) (bi_conf h _).1
theorem peersL_qb {K : Int} {p : RP} (h : BI K p) : ∀ q ∈ peersL p, QB K p.img.length q := by
  intro q hq
  obtain ⟨n, hn, rfl⟩ := List.mem_map.1 hq
  rcases peerOf_cases p n with e | e
  · rw [e]
    have := bi_last h
    have h2 := (bi_conf h _).2 n (List.mem_filter.1 hn).1
    unfold NB at h2
    unfold QB
    simp only
    omega
  · exact h.prs _ e
theorem bi_app {K : Int} {p : RP} (h : BI K p) {e : Ent} (he : EB K e) : BI (K + 1) { p with l := p.l ++ [e] } := by
  have h' := bi_mono h (show K ≤ K + 1 by omega)
  have hb := h.base
  refine ⟨⟨hb.1, ?_⟩, h'.conf, fun f hf => ?_, h'.bt, h'.img, h'.piece, h'.votes, h'.peers, h'.prs, h'.ticks, h'.term, h'.commit⟩
  · show p.base + ((p.l ++ [e]).length : Int) ≤ K + 1
    rw [List.length_append, List.length_singleton]; omega
  · rcases List.mem_append.1 hf with h1 | h1
    · exact h'.ent f h1
    · rw [List.mem_singleton.1 h1]; exact eb_mono (by omega) he
theorem bi_lead {K : Int} {p : RP} (h : BI K p) (hK : 0 ≤ K) : BI (K + 1) (leadP p) := by
  have h1 : BI K (lead1 p) := ⟨h.base, h.conf, h.ent, h.bt, h.img, h.piece, votes_nil, Nat.zero_le _, (fun q hq => by cases hq), h.ticks, h.term, h.commit⟩
  have h2 : BI K { lead1 p with peers := peersL (lead1 p) } := ⟨h1.base, h1.conf, h1.ent, h1.bt, h1.img, h1.piece, h1.votes, peersL_5 h1, peersL_qb h1, h1.ticks, h1.term, h1.commit⟩
  have h3 := bi_app h2 (e := (p.term, 1, [])) ⟨by show 0 ≤ 100000; decide, h.term⟩
  exact bi_commit (p := lead2 p) h3 (by omega)
theorem bm_lead {K : Int} {p : RP} (h : BI K p) (hK : 0 ≤ K) : ∀ m ∈ leadM p, BM (K + 1) m := bm_all (bi_lead h hK) (by omega)
theorem bi_tick {K : Int} {p : RP} (h : BI K p) (hK : 0 ≤ K) (hid : 1 ≤ p.id ∧ p.id ≤ 5) : BI (K + 2) (tickP p) ∧ ∀ m ∈ tickM p, BM (K + 2) m := by
  unfold tickP tickM
  by_cases hr : p.role = 2
  · rw [if_pos hr, if_pos hr]
    exact ⟨bi_mono h (by omega), fun m hm => bm_mono (bm_all h hK m hm) (by omega)⟩
  rw [if_neg hr, if_neg hr]
  have h1 : BI (K + 1) (tick1 p) := by
    have h' := bi_mono h (show K ≤ K + 1 by omega)
    exact ⟨h'.base, h'.conf, h'.ent, h'.bt, h'.img, h'.piece, h'.votes, h'.peers, h'.prs, by have := h.ticks; show 0 ≤ p.ticks + 1 ∧ p.ticks + 1 ≤ K + 1; omega, h'.term, h'.commit⟩
  by_cases hs : stands (tick1 p) = true
  · rw [if_pos hs, if_pos hs]
    have hv : VotesOk (stand1 (tick1 p)) := by
      unfold VotesOk
      show pick (inB [p.id]) 5 = [p.id]
      have : p.id = 1 ∨ p.id = 2 ∨ p.id = 3 ∨ p.id = 4 ∨ p.id = 5 := by omega
      rcases this with e | e | e | e | e <;> rw [e] <;> decide
    have h2 : BI (K + 1) (stand1 (tick1 p)) := ⟨h1.base, h1.conf, h1.ent, h1.bt, h1.img, h1.piece, hv, Nat.zero_le _, fun q hq => (by cases hq), ⟨Int.le_refl _, by show (0 : Int) ≤ K + 1; omega⟩, by have := h.term; show 0 ≤ p.term + 1 ∧ p.term + 1 ≤ K + 1; omega, h1.commit⟩
    unfold standP standM
    by_cases hw : wins (stand1 (tick1 p)) = true
    · rw [if_pos hw, if_pos hw]
      have := bi_lead h2 (by omega)
      have e : K + 1 + 1 = K + 2 := by omega
      rw [e] at this
      exact ⟨this, fun m hm => bm_mono (bm_lead h2 (by omega) m hm) (by omega)⟩
    · rw [if_neg hw, if_neg hw]
      refine ⟨bi_mono h2 (by omega), fun m hm => ?_⟩
      obtain ⟨n, hn, rfl⟩ := List.mem_map.1 hm
      have hnb := (bi_conf h1 _).2 n (List.mem_filter.1 hn).1
      have hl := bi_last h2
      have hlt : lastT (stand1 (tick1 p)).g = termV (stand1 (tick1 p)).g (lastI (stand1 (tick1 p)).g) := ((last_term (stand1 (tick1 p)).g h2.base.1).1).symm
      have ht := bi_term h2 (by omega) (lastI (stand1 (tick1 p)).g)
      rw [← hlt] at ht
      have htm := h2.term
      refine ⟨⟨hl.1, ?_⟩, ⟨ht.1, by have := ht.2; show lastT (stand1 (tick1 p)).g ≤ K + 2; omega⟩, ⟨Int.le_refl _, by show (0 : Int) ≤ K + 2; omega⟩, ⟨htm.1, by have := htm.2; show (stand1 (tick1 p)).term ≤ K + 2; omega⟩, by show 0 ≤ 100; decide, (fun e he => by cases he), ⟨by show 0 ≤ 5; decide, (fun n hn => by cases hn)⟩, by show (0 : Int) ≤ 0 ∧ (0 : Int) ≤ 300000; omega, hnb⟩
      show lastI (stand1 (tick1 p)).g + ((0 : Nat) : Int) ≤ K + 2
      omega
  · rw [if_neg hs, if_neg hs]
    exact ⟨bi_mono h1 (by omega), fun m hm => by cases hm⟩
theorem bi_prop {K : Int} {p : RP} (h : BI K p) (hK : 0 ≤ K) (ek : Int) {ed : Bs} (hd : ed.length ≤ 100000) : BI (K + 2) (propP p ek ed) ∧ ∀ m ∈ propM p ek ed, BM (K + 2) m := by
  unfold propP propM
  by_cases hE : propE p ek ed = 0
  · rw [if_pos hE, if_pos hE]
    have h1 : BI (K + 1) (prop1 p ek ed) := bi_app h (e := (p.term, ek, ed)) ⟨hd, h.term⟩
    have h2 : BI (K + 1) (prop2 p ek ed) := by
      unfold prop2
      split
      · exact ⟨h1.base, h1.conf, h1.ent, h1.bt, h1.img, h1.piece, h1.votes, peersL_5 h1, peersL_qb h1, h1.ticks, h1.term, h1.commit⟩
      · exact h1
    have h3 := bi_commit h2 (by omega)
    exact ⟨bi_mono h3 (by omega), fun m hm => bm_mono (bm_all h3 (by omega) m hm) (by omega)⟩
  · rw [if_neg hE, if_neg hE]
    exact ⟨bi_mono h (by omega), fun m hm => by cases hm⟩
theorem bi_comp {K : Int} {p : RP} (h : BI K p) (hK : 0 ≤ K) (i : Int) (img : Bs) : BI K (compP p i img) := by
  unfold compP
  cases hb : compBad p i img
  · rw [if_neg (by decide)]
    rw [compBad] at hb
    simp only [Bool.or_eq_false_iff, decide_eq_false_iff_not, Bool.not_eq_false'] at hb
    obtain ⟨h1, h2, h3, h4⟩ := hb
    simp only [hasL, Bool.and_eq_true, decide_eq_true_eq] at h4
    have hbs := h.base
    have e1 : p.g.base = p.base := rfl
    have e2 : p.g.l.length = p.l.length := rfl
    refine ⟨⟨by show 0 ≤ i; omega, ?_⟩, bi_conf h i, fun e he => h.ent e (List.mem_of_mem_drop he), bi_term h hK i, by show img.length ≤ 300000; omega, h.piece, h.votes, by show (p.peers.map zeroOff).length ≤ 5; rw [List.length_map]; exact h.peers, fun q hq => ?_, h.ticks, h.term, h.commit⟩
    · show i + ((p.l.drop (i - p.base).toNat).length : Int) ≤ K
      rw [List.length_drop]; omega
    · obtain ⟨q0, hq0, rfl⟩ := List.mem_map.1 hq
      have := h.prs q0 hq0
      unfold QB at *
      show 1 ≤ q0.next ∧ q0.next ≤ K + 1 ∧ 0 ≤ q0.mtc ∧ q0.mtc ≤ K ∧ (0 : Int) ≤ 0 ∧ (0 : Int) ≤ (img.length : Int) ∧ 1 ≤ q0.node ∧ q0.node ≤ 5
      omega
  · rw [if_pos rfl]; exact h
theorem bi_vote {K : Int} {p : RP} (h : BI K p) (hK : 0 ≤ K) (m : MP) : BI K (voteP p m) := by
  unfold voteP
  split
  · exact ⟨h.base, h.conf, h.ent, h.bt, h.img, h.piece, h.votes, h.peers, h.prs, ⟨Int.le_refl _, hK⟩, h.term, h.commit⟩
  · exact h
theorem votesL_ok (p : RP) (n : Int) : pick (inB (votesL p n)) 5 = votesL p n := by
  unfold votesL
  generalize hf : (fun x => inB p.votes x || decide (x = n)) = f
  have key : ∀ b1 b2 b3 b4 b5 : Bool, f 1 = b1 → f 2 = b2 → f 3 = b3 → f 4 = b4 → f 5 = b5 → pick (inB (pick f 5)) 5 = pick f 5 := by
    intro b1 b2 b3 b4 b5 h1 h2 h3 h4 h5
    have e : pick f 5 = (if b1 then [1] else []) ++ (if b2 then [2] else []) ++ (if b3 then [3] else []) ++ (if b4 then [4] else []) ++ (if b5 then [5] else []) := by
      simp only [pick_succ]
      simp [pick, h1, h2, h3, h4, h5]
    rw [e]
    cases b1 <;> cases b2 <;> cases b3 <;> cases b4 <;> cases b5 <;> decide
  exact key _ _ _ _ _ rfl rfl rfl rfl rfl
theorem bi_grant {K : Int} {p : RP} (h : BI K p) (hK : 0 ≤ K) (m : MP) : BI (K + 1) (grantP p m) ∧ ∀ x ∈ grantMs p m, BM (K + 1) x := by
  unfold grantP grantMs
  by_cases hg : grantOk p m = true
  · rw [if_pos hg, if_pos hg]
    have h1 : BI K (grant1 p m) := ⟨h.base, h.conf, h.ent, h.bt, h.img, h.piece, votesL_ok p m.frm, h.peers, h.prs, h.ticks, h.term, h.commit⟩
    by_cases hw : wins (grant1 p m) = true
    · rw [if_pos hw, if_pos hw]
      exact ⟨bi_lead h1 hK, bm_lead h1 hK⟩
    · rw [if_neg hw, if_neg hw]
      exact ⟨bi_mono h1 (by omega), fun x hx => by cases hx⟩
  · rw [if_neg hg, if_neg hg]
    exact ⟨bi_mono h (by omega), fun x hx => by cases hx⟩
theorem mrgB_far {g : LM} {prev term : Int} {l : List Ent} (hb : g.base ≤ prev) : g.base + ((mrgB g prev term l).l.length : Int) ≤ max (g.base + (g.l.length : Int)) (prev + (l.length : Int)) := by
  unfold mrgB
  split
  · show g.base + (g.l.length : Int) ≤ _; omega
  · split
    · show g.base + (g.l.length : Int) ≤ _; omega
    · have := firstD_le g prev l
      show g.base + ((g.l.take ((prev - g.base).toNat + firstD g prev l) ++ l.drop (firstD g prev l)).length : Int) ≤ _
      rw [List.length_append, List.length_take, List.length_drop]
      omega
theorem tk_far {K : Int} {p : RP} {m : MP} (h : BI K p) (hm : BM K m) : p.base + ((tkR p m).l.length : Int) ≤ K := by
  have hb := h.base
  have hi := hm.index
  have e1 : p.g.base = p.base := rfl
  have e2 : p.g.l.length = p.l.length := rfl
  unfold tkR mrgL
  split
  · rename_i hlt
    have := mrgB_far (g := p.g) (prev := p.g.base) (term := p.g.bt) (l := m.ents.drop (p.g.base - m.index).toNat) (Int.le_refl _)
    rw [List.length_drop] at this
    omega
  · rename_i hlt
    have := mrgB_far (g := p.g) (prev := m.index) (term := m.lt) (l := m.ents) (by omega)
    omega
theorem bi_take {K : Int} {p : RP} {m : MP} (hfr : NB m.frm) (h : BI K p) (hK : 0 ≤ K) (hm : BM K m) : BI K (tkP p m) ∧ ∀ x ∈ tkM p m, BM K x := by
  have hi := hm.index
  have hl := bi_last h
  have hfar := tk_far h hm
  constructor
  · unfold tkP
    split
    · exact h
    · refine ⟨⟨h.base.1, hfar⟩, h.conf, fun e he => ?_, h.bt, h.img, h.piece, h.votes, h.peers, h.prs, h.ticks, h.term, ?_⟩
      · rcases tk_mem he with h1 | h1
        · exact h.ent e h1
        · exact hm.ent e h1
      · have := h.commit
        have := hm.commit
        show 0 ≤ max p.commit (min (min m.commit (matchI m)) (p.base + ((tkR p m).l.length : Int))) ∧ max p.commit (min (min m.commit (matchI m)) (p.base + ((tkR p m).l.length : Int))) ≤ K
        omega
  · intro x hx
    unfold tkM at hx
    split at hx
    · rw [List.mem_singleton.1 hx]; exact bm_ack h hK hfr _ (by omega)
    · split at hx
      · cases hx
      · rw [List.mem_singleton.1 hx]; exact bm_ack h hK hfr _ (by unfold matchI; omega)
theorem bi_piece {K : Int} {p : RP} {m : MP} (hfr : NB m.frm) (h : BI K p) (hp : p.peers = []) (hK : 0 ≤ K) (hm : BM K m) : BI K (pcP p m) ∧ ∀ x ∈ pcM p m, BM K x := by
  have hi := hm.index
  have hin : 0 ≤ m.index ∧ m.index ≤ K := by omega
  have hhv := haveB_le p m
  have hpc := h.piece
  have hpl : pieceBad p m = false → m.off = ((haveB p m).length : Int) → (pieceB p m).length ≤ 300000 := by
    intro hb ho
    rw [pieceBad] at hb
    simp only [Bool.or_eq_false_iff, decide_eq_false_iff_not] at hb
    unfold pieceB
    rw [List.length_append]
    omega
  constructor
  · unfold pcP
    split
    · exact h
    · rename_i hno
      have hb : pieceBad p m = false := by
        cases hb : pieceBad p m
        · rfl
        · exact absurd (.inl hb) hno
      have ho : m.off = ((haveB p m).length : Int) := by
        apply Classical.byContradiction
        intro ho
        exact hno (.inr (.inr ho))
      have hpl := hpl hb ho
      split
      · exact ⟨h.base, h.conf, h.ent, h.bt, h.img, hpl, h.votes, h.peers, h.prs, h.ticks, h.term, h.commit⟩
      · have hbs := h.base
        refine ⟨⟨hin.1, ?_⟩, hm.conf, fun e he => ?_, hm.lt, hpl, by show 0 ≤ 300000; decide, h.votes, h.peers, fun q hq => ?_, h.ticks, h.term, hin⟩
        · show m.index + ((instL p.g m.index m.lt).length : Int) ≤ K
          unfold instL
          split
          · rename_i hh
            rw [Bool.and_eq_true] at hh
            have h4 := hh.1
            simp only [hasL, Bool.and_eq_true, decide_eq_true_eq] at h4
            have e1 : p.g.base = p.base := rfl
            have e2 : p.g.l.length = p.l.length := rfl
            rw [List.length_drop]
            omega
          · simp only [List.length_nil]; omega
        · have he' : e ∈ instL p.g m.index m.lt := he
          unfold instL at he'
          split at he'
          · exact h.ent e (List.mem_of_mem_drop he')
          · cases he'
        · have hq' : q ∈ p.peers := hq
          rw [hp] at hq'; cases hq'
  · intro x hx
    unfold pcM at hx
    by_cases hb : pieceBad p m = true
    · rw [if_pos hb] at hx; cases hx
    rw [if_neg hb] at hx
    have hb' : pieceBad p m = false := by simpa using hb
    by_cases h1 : m.index ≤ p.commit
    · rw [if_pos h1] at hx; rw [List.mem_singleton.1 hx]; exact bm_ack h hK hfr _ hin
    rw [if_neg h1] at hx
    by_cases h2 : m.off ≠ ((haveB p m).length : Int)
    · rw [if_pos h2] at hx; rw [List.mem_singleton.1 hx]; exact bm_got h hK hfr hin (by omega)
    rw [if_neg h2] at hx
    have hpl := hpl hb' (Classical.not_not.1 h2)
    split at hx
    · rw [List.mem_singleton.1 hx]; exact bm_got h hK hfr hin (by omega)
    · rw [List.mem_singleton.1 hx]; exact bm_ack h hK hfr _ hin
theorem bi_leads {K : Int} {p : RP} {m : MP} (hfr : NB m.frm) (h : BI K p) (hK : 0 ≤ K) (hm : BM K m) : BI K (leadsP p m) ∧ ∀ x ∈ leadsM p m, BM K x := by
  have h0 := bi_follow h p.term m.frm h.term
  have h1 : BI K (leads1 p m) := ⟨h0.base, h0.conf, h0.ent, h0.bt, h0.img, h0.piece, h0.votes, h0.peers, h0.prs, ⟨Int.le_refl _, hK⟩, h0.term, h0.commit⟩
  unfold leadsP leadsM
  by_cases ht : m.term < p.term
  · rw [if_pos (.inl ht), if_pos ht]
    exact ⟨h, fun x hx => by rw [List.mem_singleton.1 hx]; exact bm_ack h hK hfr _ ⟨Int.le_refl _, hK⟩⟩
  by_cases hr : p.role = 2
  · rw [if_pos (.inr hr), if_neg ht, if_pos hr]
    exact ⟨h, fun x hx => by cases hx⟩
  rw [if_neg (by rintro (h | h); exact ht h; exact hr h), if_neg ht, if_neg hr]
  by_cases hk : m.kind = 3
  · rw [if_pos hk, if_pos hk]; exact bi_take hfr h1 hK hm
  · rw [if_neg hk, if_neg hk]; exact bi_piece hfr h1 rfl hK hm
theorem bi_setPr {K : Int} {p : RP} (h : BI K p) (i : Nat) {q : Pr} (hq : QB K p.img.length q) : BI K (setPr p i q) := by
  refine ⟨h.base, h.conf, h.ent, h.bt, h.img, h.piece, h.votes, by show (p.peers.set i q).length ≤ 5; rw [List.length_set]; exact h.peers, fun r hr => ?_, h.ticks, h.term, h.commit⟩
  rcases List.mem_or_eq_of_mem_set hr with h1 | h1
  · exact h.prs r h1
  · rw [h1]; exact hq
theorem bi_peer {K : Int} {p : RP} {m : MP} (h : BI K p) (hp : isPeer p m = true) : QB K p.img.length (peerG p m) := h.prs _ (getD_memP (isPeer_lt hp))
theorem bi_ack {K : Int} {p : RP} {m : MP} (h : BI K p) (hK : 0 ≤ K) (hm : BM K m) : BI K (ackP p m) ∧ ∀ x ∈ ackMs p m, BM K x := by
  have hi := hm.index
  have hl := bi_last h
  unfold ackMs
  cases hp : isPeer p m
  · rw [ackP, if_pos hp, if_pos rfl]
    exact ⟨h, fun x hx => by cases hx⟩
  have hq := bi_peer h hp
  unfold QB at hq
  rw [if_neg (by decide)]
  cases hok : m.ok
  · rw [ackP, if_neg (by rw [hp]; decide), if_pos hok, if_pos rfl]
    have hqb : QB K p.img.length (backPr (peerG p m) m.index) := by
      unfold QB
      show 1 ≤ max (peerG p m).mtc (min ((peerG p m).next - 1) m.index) + 1 ∧ max (peerG p m).mtc (min ((peerG p m).next - 1) m.index) + 1 ≤ K + 1 ∧ 0 ≤ (peerG p m).mtc ∧ (peerG p m).mtc ≤ K ∧ 0 ≤ (peerG p m).off ∧ (peerG p m).off ≤ (p.img.length : Int) ∧ 1 ≤ (peerG p m).node ∧ (peerG p m).node ≤ 5
      omega
    have h1 := bi_setPr h (peerAt p m) hqb
    exact ⟨h1, fun x hx => by rw [List.mem_singleton.1 hx]; exact bm_update h1 hK hqb⟩
  rw [if_neg (by decide)]
  by_cases hb : m.index ≤ (peerG p m).mtc ∨ lastI p.g < m.index
  · rw [ackP, if_neg (by rw [hp]; decide), if_neg (by rw [hok]; decide), if_pos hb, if_pos hb]
    exact ⟨h, fun x hx => by cases hx⟩
  rw [if_neg hb]
  have hqf : QB K p.img.length (fwdPr (peerG p m) m.index) := by
    unfold QB
    show 1 ≤ max (peerG p m).next (m.index + 1) ∧ max (peerG p m).next (m.index + 1) ≤ K + 1 ∧ 0 ≤ m.index ∧ m.index ≤ K ∧ (0 : Int) ≤ 0 ∧ (0 : Int) ≤ (p.img.length : Int) ∧ 1 ≤ (peerG p m).node ∧ (peerG p m).node ≤ 5
    have : ¬ lastI p.g < m.index := fun h => hb (.inr h)
    omega
  have h1 := bi_setPr h (peerAt p m) hqf
  have h2 := bi_commit h1 hK
  have e : ackP p m = commitP (setPr p (peerAt p m) (fwdPr (peerG p m) m.index)) := by rw [ackP, if_neg (by rw [hp]; decide), if_neg (by rw [hok]; decide), if_neg hb]
  rw [e]
  refine ⟨h2, fun x hx => ?_⟩
  split at hx
  · rw [List.mem_singleton.1 hx]
    exact bm_update h2 hK (by rw [(commitP_log _).2.2.1]; exact hqf)
  · cases hx
theorem bi_got {K : Int} {p : RP} {m : MP} (h : BI K p) (hK : 0 ≤ K) : BI K (gotP p m) ∧ ∀ x ∈ gotMs p m, BM K x := by
  unfold gotMs
  cases hb : gotBad p m
  · have hbb := hb
    rw [gotBad] at hbb
    simp only [Bool.or_eq_false_iff, decide_eq_false_iff_not, Bool.not_eq_false'] at hbb
    have hq := bi_peer h hbb.1
    unfold QB at hq
    have hqg : QB K p.img.length (gotPr p m) := by
      unfold QB
      show 1 ≤ (peerG p m).next ∧ (peerG p m).next ≤ K + 1 ∧ 0 ≤ (peerG p m).mtc ∧ (peerG p m).mtc ≤ K ∧ 0 ≤ m.off ∧ m.off ≤ (p.img.length : Int) ∧ 1 ≤ (peerG p m).node ∧ (peerG p m).node ≤ 5
      omega
    have h1 := bi_setPr h (peerAt p m) hqg
    have e : gotP p m = setPr p (peerAt p m) (gotPr p m) := by rw [gotP, if_neg (by rw [hb]; decide)]
    rw [e, if_neg (by decide)]
    exact ⟨h1, fun x hx => by rw [List.mem_singleton.1 hx]; exact bm_update h1 hK hqg⟩
  · have e : gotP p m = p := by rw [gotP, if_pos hb]
    rw [e, if_pos rfl]
    exact ⟨h, fun x hx => by cases hx⟩
theorem bi_hear {K : Int} {p : RP} {m : MP} (h : BI K p) (hK : 0 ≤ K) (hm : BM K m) : BI (K + 1) (hearP p m) ∧ ∀ x ∈ hearM p m, BM (K + 1) x := by
  have up : ∀ {p' : RP} {l : List MP}, (BI K p' ∧ ∀ x ∈ l, BM K x) → BI (K + 1) p' ∧ ∀ x ∈ l, BM (K + 1) x := fun h => ⟨bi_mono h.1 (by omega), fun x hx => bm_mono (h.2 x hx) (by omega)⟩
  unfold hearP hearM
  by_cases hb : hearBad p m = true ∨ hearOff p m = true
  · rw [if_pos hb, if_pos hb]
    exact up ⟨h, fun x hx => by cases hx⟩
  rw [if_neg hb, if_neg hb]
  have hfr : NB m.frm := by
    have h0 : hearBad p m = false := by
      cases h0 : hearBad p m
      · rfl
      · exact absurd (.inl h0) hb
    rw [hearBad] at h0
    simp only [Bool.or_eq_false_iff, decide_eq_false_iff_not] at h0
    unfold NB
    omega
  have h1 : BI K (hear1 p m) := by
    unfold hear1; split
    · exact bi_follow h _ _ hm.term
    · exact h
  unfold doesP doesM
  by_cases k1 : m.kind = 1
  · rw [if_pos k1, if_pos k1]
    have hv := bi_vote h1 hK m
    exact up ⟨hv, fun x hx => by rw [List.mem_singleton.1 hx]; exact bm_grant hv hK hfr _⟩
  rw [if_neg k1, if_neg k1]
  by_cases k2 : m.kind = 2
  · rw [if_pos k2, if_pos k2]; exact bi_grant h1 hK m
  rw [if_neg k2, if_neg k2]
  by_cases k3 : m.kind = 3 ∨ m.kind = 5
  · rw [if_pos k3, if_pos k3]; exact up (bi_leads hfr h1 hK hm)
  rw [if_neg k3, if_neg k3]
  by_cases k4 : m.kind = 4
  · rw [if_pos k4, if_pos k4]; exact up (bi_ack h1 hK hm)
  rw [if_neg k4, if_neg k4]
  by_cases k6 : m.kind = 6
  · rw [if_pos k6, if_pos k6]; exact up (bi_got h1 hK)
  rw [if_neg k6, if_neg k6]
  exact up ⟨h1, fun x hx => by cases hx⟩
/-- an event of a play -/
structure BE (K : Int) (e : EP) : Prop where
  m : e.kind = 2 → BM K e.m
  ed : e.ed.length ≤ 100000
theorem bi_step {K : Int} {p : RP} {e : EP} (h : BI K p) (hK : 0 ≤ K) (hid : 1 ≤ p.id ∧ p.id ≤ 5) (he : BE K e) : BI (K + 2) (stepP p e) ∧ ∀ x ∈ stepM p e, BM (K + 2) x := by
  unfold stepP stepM
  by_cases k1 : e.kind = 1
  · rw [if_pos k1, if_pos k1]; exact bi_tick h hK hid
  rw [if_neg k1, if_neg k1]
  by_cases k2 : e.kind = 2
  · rw [if_pos k2, if_pos k2]
    have := bi_hear h hK (he.m k2)
    exact ⟨bi_mono this.1 (by omega), fun x hx => bm_mono (this.2 x hx) (by omega)⟩
  rw [if_neg k2, if_neg k2]
  by_cases k3 : e.kind = 3
  · rw [if_pos k3, if_pos k3]; exact bi_prop h hK e.ek he.ed
  rw [if_neg k3, if_neg k3]
  refine ⟨?_, fun x hx => by cases hx⟩
  by_cases k4 : e.kind = 4
  · rw [if_pos k4]; exact bi_mono (bi_comp h hK e.index e.img) (by omega)
  · rw [if_neg k4]; exact bi_mono h (by omega)
/-! ## what stays of a node -/
theorem commitP_id (p : RP) : (commitP p).id = p.id ∧ (commitP p).tout = p.tout := by
  have h1 : (commit1 p).id = p.id ∧ (commit1 p).tout = p.tout := by unfold commit1; split <;> exact ⟨rfl, rfl⟩
  unfold commitP; split
  · exact h1
  · exact h1
theorem leadP_id (p : RP) : (leadP p).id = p.id ∧ (leadP p).tout = p.tout := commitP_id (lead2 p)
theorem step_id (p : RP) (e : EP) : (stepP p e).id = p.id ∧ (stepP p e).tout = p.tout := by
  have hst : ∀ p : RP, (standP p).id = p.id ∧ (standP p).tout = p.tout := fun p => by unfold standP; split; exact leadP_id _; exact ⟨rfl, rfl⟩
  have ht : (tickP p).id = p.id ∧ (tickP p).tout = p.tout := by
    unfold tickP; split; exact ⟨rfl, rfl⟩; split; exact hst _; exact ⟨rfl, rfl⟩
  have hp : ∀ ek ed, (propP p ek ed).id = p.id ∧ (propP p ek ed).tout = p.tout := fun ek ed => by
    unfold propP; split
    · have := commitP_id (prop2 p ek ed)
      have h2 : (prop2 p ek ed).id = p.id ∧ (prop2 p ek ed).tout = p.tout := by unfold prop2; split <;> exact ⟨rfl, rfl⟩
      exact ⟨this.1.trans h2.1, this.2.trans h2.2⟩
    · exact ⟨rfl, rfl⟩
  have hc : ∀ i img, (compP p i img).id = p.id ∧ (compP p i img).tout = p.tout := fun i img => by unfold compP; split <;> exact ⟨rfl, rfl⟩
  have hd : ∀ (p : RP) (m : MP), (doesP p m).id = p.id ∧ (doesP p m).tout = p.tout := fun p m => by
    unfold doesP
    split
    · unfold voteP; split <;> exact ⟨rfl, rfl⟩
    split
    · unfold grantP; split
      · split
        · exact leadP_id _
        · exact ⟨rfl, rfl⟩
      · exact ⟨rfl, rfl⟩
    split
    · unfold leadsP; split
      · exact ⟨rfl, rfl⟩
      · split
        · unfold tkP; split <;> exact ⟨rfl, rfl⟩
        · unfold pcP; split
          · exact ⟨rfl, rfl⟩
          · split <;> exact ⟨rfl, rfl⟩
    split
    · unfold ackP; split
      · exact ⟨rfl, rfl⟩
      · split
        · exact ⟨rfl, rfl⟩
        · split
          · exact ⟨rfl, rfl⟩
          · exact commitP_id _
    split
    · unfold gotP; split <;> exact ⟨rfl, rfl⟩
    · exact ⟨rfl, rfl⟩
  have hh : ∀ m, (hearP p m).id = p.id ∧ (hearP p m).tout = p.tout := fun m => by
    unfold hearP; split
    · exact ⟨rfl, rfl⟩
    · have h1 : (hear1 p m).id = p.id ∧ (hear1 p m).tout = p.tout := by unfold hear1; split <;> exact ⟨rfl, rfl⟩
      have := hd (hear1 p m) m
      exact ⟨this.1.trans h1.1, this.2.trans h1.2⟩
  unfold stepP
  split
  · exact ht
  split
  · exact hh _
  split
  · exact hp _ _
  split
  · exact hc _ _
  · exact ⟨rfl, rfl⟩
end Go.Proofs.YtodcghipfolejaaGreat.Rf
/- A play among nodes, in plain words; and how a world lies in memory. -/
namespace Go.Proofs.YtodcghipfolejaaGreat.Rf
open Go Go.Sl
set_option linter.unusedVariables false
set_option linter.unusedSimpArgs false

/-- an act -/
structure AcP where
  kind : Int
  n : Int
  i : Int
  add : Bool
  data : Bs
  m : MP
structure WP where
  ms : List RP
  fl : List MP
def uM (x k : Int) : Int := IntKind.u64.wrap x % k
theorem uM_range (x : Int) {k : Int} (hk : 0 < k) : 0 ≤ uM x k ∧ uM x k < k := ⟨Int.emod_nonneg _ (by omega), Int.emod_lt_of_pos _ hk⟩
def memP (n : Int) : List Int := (List.range (1 + (uM n 5).toNat)).map fun i => ((i : Nat) : Int) + 1
def toP (n : Int) : Int := 1 + uM n 1000
def noEv : EP := ⟨0, MP0, 0, [], 0, []⟩
def mindAt (w : WP) (n : Int) : RP := w.ms.getD n.toNat rp0
def flIx (w : WP) (a : AcP) : Nat := (uM a.i (w.fl.length : Int)).toNat
def flM (w : WP) (a : AcP) : MP := w.fl.getD (flIx w a) MP0
/-- what an act tells a node: the node, the event, whether it is one, what stays under way -/
structure EvR where
  n : Int
  e : EP
  ok : Bool
  fl : List MP
def nOf (a : AcP) : Int := uM a.n 5
def lessP (w : WP) (a : AcP) : Int := if (mindAt w (nOf a)).commit < uM a.i 3 then 0 else uM a.i 3
def evOf (w : WP) (a : AcP) : EvR :=
  if 1 ≤ a.kind ∧ a.kind ≤ 3 then
    if w.fl.length = 0 then ⟨0, noEv, false, w.fl⟩
    else ⟨(flM w a).to - 1, ⟨2, flM w a, 0, [], 0, []⟩, !decide (a.kind = 2) && (decide (1 ≤ (flM w a).to) && decide ((flM w a).to ≤ 5)), if a.kind < 3 then w.fl.take (flIx w a) ++ w.fl.drop (flIx w a + 1) else w.fl⟩
  else if a.kind = 0 then ⟨nOf a, ⟨1, MP0, 0, [], 0, []⟩, true, w.fl⟩
  else if a.kind = 4 then ⟨nOf a, ⟨3, MP0, 3, a.data, 0, []⟩, true, w.fl⟩
  else if a.kind = 5 then ⟨nOf a, ⟨3, MP0, 2, textL (if a.add = true then withL (confL (mindAt w (nOf a))) (1 + uM a.i 5) else withoutL (confL (mindAt w (nOf a))) (1 + uM a.i 5)), 0, []⟩, true, w.fl⟩
  else if a.kind = 6 then ⟨nOf a, ⟨4, MP0, 0, [], (mindAt w (nOf a)).commit - lessP w a, a.data⟩, true, w.fl⟩
  else ⟨nOf a, noEv, false, w.fl⟩
def againP (p : RP) : RP := if badNew p.id p.tout = true then rp0 else newP p.id ⟨p.term, p.vote, 0⟩ p.g p.img p.tout
def cut40 (l : List MP) : List MP := l.drop (l.length - 40)
structure AcR where
  w : WP
  n : Int
  ok : Bool
noncomputable def actP (w : WP) (a : AcP) : AcR :=
  if a.kind = 7 then ⟨⟨w.ms.set (nOf a).toNat (againP (mindAt w (nOf a))), w.fl⟩, nOf a, !badNew (mindAt w (nOf a)).id (mindAt w (nOf a)).tout⟩
  else if (evOf w a).ok = false then ⟨⟨w.ms, (evOf w a).fl⟩, (evOf w a).n, true⟩
  else ⟨⟨w.ms.set (evOf w a).n.toNat (stepP (mindAt w (evOf w a).n) (evOf w a).e), cut40 ((evOf w a).fl ++ stepM (mindAt w (evOf w a).n) (evOf w a).e)⟩, (evOf w a).n, true⟩
/-- a play -/
structure PlP where
  mem : Int
  tos : List Int
  acts : List AcP
def newN (p : PlP) (n : Nat) : RP := newP ((n : Int) + 1) ⟨0, 0, 0⟩ ⟨0, 0, memP p.mem, [], none, 0, none, 0⟩ [] (toP (p.tos.getD n 0))
def beginP (p : PlP) : WP := ⟨(List.range 5).map (newN p), []⟩
noncomputable def wAt (p : PlP) : Nat → WP
  | 0 => beginP p
  | k + 1 => (actP (wAt p k) (p.acts.getD k ⟨0, 0, 0, false, [], MP0⟩)).w
/-! ## bounds -/
structure WB (K : Int) (w : WP) : Prop where
  len : w.ms.length = 5
  mind : ∀ n, n < 5 → BI K (w.ms.getD n rp0) ∧ (w.ms.getD n rp0).id = (n : Int) + 1 ∧ 1 ≤ (w.ms.getD n rp0).tout ∧ (w.ms.getD n rp0).tout ≤ 1000
  fl : ∀ m ∈ w.fl, BM K m
  few : w.fl.length ≤ 40
theorem badNew_no {id tout : Int} (h1 : 1 ≤ id ∧ id ≤ 5) (h2 : 1 ≤ tout ∧ tout ≤ 1000) : badNew id tout = false := by
  unfold badNew
  rw [decide_eq_false (by omega), decide_eq_false (by omega), decide_eq_false (by omega), decide_eq_false (by omega)]; rfl
theorem nOf_range (a : AcP) : 0 ≤ nOf a ∧ nOf a < 5 := uM_range a.n (by decide)
theorem wb_mind {K : Int} {w : WP} (h : WB K w) {n : Int} (hn : 0 ≤ n ∧ n < 5) : BI K (mindAt w n) ∧ (mindAt w n).id = n + 1 ∧ 1 ≤ (mindAt w n).tout ∧ (mindAt w n).tout ≤ 1000 := by
  have := h.mind n.toNat (by omega)
  unfold mindAt
  rw [show ((n.toNat : Nat) : Int) = n by omega] at this
  exact this
theorem flIx_lt {w : WP} {a : AcP} (h : 0 < w.fl.length) : flIx w a < w.fl.length := by
  have := uM_range a.i (k := (w.fl.length : Int)) (by omega)
  unfold flIx; omega
theorem flM_mem {w : WP} {a : AcP} (h : 0 < w.fl.length) : flM w a ∈ w.fl := by
  unfold flM
  rw [List.getD_eq_getElem?_getD, List.getElem?_eq_getElem (flIx_lt h)]
  exact List.getElem_mem _
theorem mfit_zero : MFit MP0 := ⟨⟨Int.le_refl _, by show (0 : Int) ≤ _; decide⟩, ⟨Int.le_refl _, by show (0 : Int) ≤ _; decide⟩, ⟨Int.le_refl _, by show (0 : Int) ≤ _; decide⟩, ⟨Int.le_refl _, by show (0 : Int) ≤ _; decide⟩, Nat.zero_le _, (fun e he => by cases he), Nat.zero_le _, by show (-9223372036854775808 : Int) ≤ 0 ∧ (0 : Int) ≤ 9223372036854775807; decide⟩
theorem textL_6 (l : List Int) : (textL l).length ≤ 6 := textL_le l 6 (Nat.le_refl _)
theorem ev_fl {w : WP} {a : AcP} {m : MP} (h : m ∈ (evOf w a).fl) : m ∈ w.fl := by
  unfold evOf at h
  split at h
  · split at h
    · exact h
    · simp only at h
      split at h
      · rcases List.mem_append.1 h with h | h
        · exact List.mem_of_mem_take h
        · exact List.mem_of_mem_drop h
      · exact h
  · split at h
    · exact h
    · split at h
      · exact h
      · split at h
        · exact h
        · split at h
          · exact h
          · exact h
theorem ev_fllen (w : WP) (a : AcP) : (evOf w a).fl.length ≤ w.fl.length := by
  unfold evOf
  split
  · split
    · exact Nat.le_refl _
    · simp only
      split
      · rw [List.length_append, List.length_take, List.length_drop]; omega
      · exact Nat.le_refl _
  · split
    · exact Nat.le_refl _
    · split
      · exact Nat.le_refl _
      · split
        · exact Nat.le_refl _
        · split
          · exact Nat.le_refl _
          · exact Nat.le_refl _
/-- an event that is one -/
structure EvOk (K : Int) (r : EvR) : Prop where
  n : 0 ≤ r.n ∧ r.n < 5
  be : BE K r.e
  kind : 1 ≤ r.e.kind ∧ r.e.kind ≤ 4
  mfit : K ≤ 90000 → MFit r.e.m
  index : 0 ≤ r.e.index ∧ r.e.index ≤ K
theorem ev_ok {K : Int} {w : WP} {a : AcP} (h : WB K w) (hK : 0 ≤ K) (hd : a.data.length ≤ 100000) (ho : (evOf w a).ok = true) : EvOk K (evOf w a) := by
  have hn := nOf_range a
  have hi0 : (0 : Int) ≤ 0 ∧ (0 : Int) ≤ K := ⟨Int.le_refl _, hK⟩
  unfold evOf at ho ⊢
  split
  · rename_i h1
    rw [if_pos h1] at ho
    split
    · rename_i h2
      rw [if_pos h2] at ho; cases ho
    · rename_i h2
      rw [if_neg h2] at ho
      simp only [Bool.and_eq_true, decide_eq_true_eq] at ho
      exact ⟨by show 0 ≤ (flM w a).to - 1 ∧ (flM w a).to - 1 < 5; omega, ⟨fun _ => h.fl _ (flM_mem (by omega)), Nat.zero_le _⟩, by show (1 : Int) ≤ 2 ∧ (2 : Int) ≤ 4; decide, fun hk => bm_fit (h.fl _ (flM_mem (by omega))) hk, hi0⟩
  · rename_i h1
    rw [if_neg h1] at ho
    split
    · exact ⟨hn, ⟨(fun h => absurd (show (1 : Int) = 2 from h) (by decide)), Nat.zero_le _⟩, by show (1 : Int) ≤ 1 ∧ (1 : Int) ≤ 4; decide, fun _ => mfit_zero, hi0⟩
    · rename_i h2
      rw [if_neg h2] at ho
      split
      · exact ⟨hn, ⟨(fun h => absurd (show (3 : Int) = 2 from h) (by decide)), hd⟩, by show (1 : Int) ≤ 3 ∧ (3 : Int) ≤ 4; decide, fun _ => mfit_zero, hi0⟩
      · rename_i h3
        rw [if_neg h3] at ho
        split
        · exact ⟨hn, ⟨(fun h => absurd (show (3 : Int) = 2 from h) (by decide)), Nat.le_trans (textL_6 _) (by decide)⟩, by show (1 : Int) ≤ 3 ∧ (3 : Int) ≤ 4; decide, fun _ => mfit_zero, hi0⟩
        · rename_i h4
          rw [if_neg h4] at ho
          split
          · refine ⟨hn, ⟨(fun h => absurd (show (4 : Int) = 2 from h) (by decide)), Nat.zero_le _⟩, by show (1 : Int) ≤ 4 ∧ (4 : Int) ≤ 4; decide, fun _ => mfit_zero, ?_⟩
            have hc := (wb_mind h hn).1.commit
            have hu := uM_range a.i (k := 3) (by decide)
            show 0 ≤ (mindAt w (nOf a)).commit - lessP w a ∧ (mindAt w (nOf a)).commit - lessP w a ≤ K
            unfold lessP
            split <;> omega
          · rename_i h5
            rw [if_neg h5] at ho; cases ho
theorem bi_again {K : Int} {p : RP} (h : BI K p) (hb : badNew p.id p.tout = false) (hK : 0 ≤ K) : BI K (againP p) ∧ (againP p).id = p.id ∧ (againP p).tout = p.tout := by
  have e : againP p = newP p.id ⟨p.term, p.vote, 0⟩ p.g p.img p.tout := by rw [againP, hb, if_neg (by decide)]
  rw [e]
  have hbs := h.base
  exact ⟨⟨h.base, h.conf, h.ent, h.bt, h.img, Nat.zero_le _, votes_nil, Nat.zero_le _, (fun q hq => by cases hq), ⟨Int.le_refl _, hK⟩, h.term, by show 0 ≤ p.base ∧ p.base ≤ K; omega⟩, rfl, rfl⟩
theorem wb_set {K : Int} {w : WP} (h : WB K w) {n : Int} (hn : 0 ≤ n ∧ n < 5) {p : RP} (hp : BI K p ∧ p.id = n + 1 ∧ 1 ≤ p.tout ∧ p.tout ≤ 1000) {fl : List MP} (hf : ∀ m ∈ fl, BM K m) (hfw : fl.length ≤ 40) : WB K ⟨w.ms.set n.toNat p, fl⟩ := by
  refine ⟨by show (w.ms.set n.toNat p).length = 5; rw [List.length_set]; exact h.len, fun k hk => ?_, hf, hfw⟩
  show BI K ((w.ms.set n.toNat p).getD k rp0) ∧ _
  rw [List.getD_eq_getElem?_getD, List.getElem?_set]
  by_cases e : n.toNat = k
  · rw [if_pos e, if_pos (by rw [h.len]; omega)]
    simp only [Option.getD_some]
    exact ⟨hp.1, by omega, hp.2.2⟩
  · rw [if_neg e, ← List.getD_eq_getElem?_getD]
    exact h.mind k hk
theorem wb_mono {K K' : Int} {w : WP} (h : WB K w) (hK : K ≤ K') : WB K' w := ⟨h.len, fun n hn => ⟨bi_mono (h.mind n hn).1 hK, (h.mind n hn).2⟩, fun m hm => bm_mono (h.fl m hm) hK, h.few⟩
theorem wb_act {K : Int} {w : WP} {a : AcP} (h : WB K w) (hK : 0 ≤ K) (hd : a.data.length ≤ 100000) : WB (K + 2) (actP w a).w ∧ (actP w a).ok = true := by
  have h' := wb_mono h (show K ≤ K + 2 by omega)
  unfold actP
  split
  · have hn := nOf_range a
    have hm := wb_mind h' hn
    have hb := badNew_no (id := (mindAt w (nOf a)).id) (tout := (mindAt w (nOf a)).tout) (by omega) hm.2.2
    have hag := bi_again hm.1 hb (by omega)
    exact ⟨wb_set h' hn ⟨hag.1, by rw [hag.2.1]; exact hm.2.1, by rw [hag.2.2]; exact hm.2.2⟩ h'.fl h'.few, by show (!badNew _ _) = true; rw [hb]; rfl⟩
  · split
    · exact ⟨⟨h'.len, h'.mind, fun m hm => h'.fl m (ev_fl hm), Nat.le_trans (ev_fllen w a) h'.few⟩, rfl⟩
    · rename_i ho
      have ho1 : (evOf w a).ok = true := by simpa using ho
      have he := ev_ok h hK hd ho1
      have hm := wb_mind h he.n
      have hs := bi_step hm.1 hK (by have := he.n; omega) he.be
      have hid := step_id (mindAt w (evOf w a).n) (evOf w a).e
      refine ⟨wb_set h' he.n ⟨hs.1, by rw [hid.1]; exact hm.2.1, by rw [hid.2]; exact hm.2.2⟩ (fun m hm2 => ?_) ?_, rfl⟩
      · rcases List.mem_append.1 (List.mem_of_mem_drop hm2) with h1 | h1
        · exact h'.fl m (ev_fl h1)
        · exact hs.2 m h1
      · show (cut40 _).length ≤ 40
        unfold cut40
        rw [List.length_drop]; omega
theorem memP_nb (n : Int) : ∀ k ∈ memP n, NB k := by
  have := uM_range n (k := 5) (by decide)
  intro k hk
  unfold memP at hk
  obtain ⟨i, hi, rfl⟩ := List.mem_map.1 hk
  rw [List.mem_range] at hi
  unfold NB
  omega
theorem memP_le (n : Int) : (memP n).length ≤ 5 := by
  have := uM_range n (k := 5) (by decide)
  unfold memP
  rw [List.length_map, List.length_range]; omega
theorem wb_begin (p : PlP) : WB 0 (beginP p) := by
  refine ⟨by show ((List.range 5).map (newN p)).length = 5; simp, fun n hn => ?_, (fun m hm => by cases hm), Nat.zero_le _⟩
  have e : (beginP p).ms.getD n rp0 = newN p n := by
    show ((List.range 5).map (newN p)).getD n rp0 = _
    rw [List.getD_eq_getElem?_getD, List.getElem?_map, List.getElem?_range hn]; rfl
  rw [e]
  have := uM_range (p.tos.getD n 0) (k := 1000) (by decide)
  refine ⟨⟨⟨Int.le_refl _, Int.le_refl _⟩, ⟨memP_le _, memP_nb _⟩, (fun e he => by cases he), ⟨Int.le_refl _, Int.le_refl _⟩, Nat.zero_le _, Nat.zero_le _, votes_nil, Nat.zero_le _, (fun q hq => by cases hq), ⟨Int.le_refl _, Int.le_refl _⟩, ⟨Int.le_refl _, Int.le_refl _⟩, ⟨Int.le_refl _, Int.le_refl _⟩⟩, rfl, ?_⟩
  show 1 ≤ toP (p.tos.getD n 0) ∧ toP (p.tos.getD n 0) ≤ 1000
  unfold toP; omega
/-- the acts of a play that is not too great -/
def SmallA (p : PlP) : Prop := p.acts.length ≤ 400 ∧ ∀ a ∈ p.acts, a.data.length ≤ 100000
theorem wb_at {p : PlP} (hp : SmallA p) : ∀ k, k ≤ p.acts.length → WB (2 * (k : Int)) (wAt p k)
  | 0, _ => wb_begin p
  | k + 1, hk => by
    have h := wb_at hp k (by omega)
    have hm : p.acts.getD k ⟨0, 0, 0, false, [], MP0⟩ ∈ p.acts := by
      rw [List.getD_eq_getElem?_getD, List.getElem?_eq_getElem (by omega)]; exact List.getElem_mem _
    have := (wb_act h (by omega) (hp.2 _ hm)).1
    rw [wAt, show 2 * ((k + 1 : Nat) : Int) = 2 * (k : Int) + 2 by omega]
    exact this
/-! ## in memory -/
structure AcM where
  kind : Int
  n : Int
  i : Int
  add : Bool
  data : Bs
  m : MM
abbrev AcM.p (a : AcM) : AcP := ⟨a.kind, a.n, a.i, a.add, a.data, a.m.p⟩
abbrev acC (a : AcM) : List Value := [.int .i64 a.kind, .int .i64 a.n, .int .i64 a.i, .bool a.add, B a.data, .int .i64 a.m.p.kind, .int .i64 a.m.p.frm, .int .i64 a.m.p.to, .int .u64 a.m.p.term, .int .u64 a.m.p.index, .int .u64 a.m.p.lt, .int .u64 a.m.p.commit, .bool a.m.p.ok, .slice a.m.ea a.m.p.ents.length a.m.ec, .slice a.m.ka a.m.p.conf.length a.m.kc, .int .i64 a.m.p.off, .int .i64 a.m.p.size, B a.m.p.data]
abbrev acA (a : AcM) : Value := .agg #[.int .i64 a.kind, .int .i64 a.n, .int .i64 a.i, .bool a.add, B a.data, .int .i64 a.m.p.kind, .int .i64 a.m.p.frm, .int .i64 a.m.p.to, .int .u64 a.m.p.term, .int .u64 a.m.p.index, .int .u64 a.m.p.lt, .int .u64 a.m.p.commit, .bool a.m.p.ok, .slice a.m.ea a.m.p.ents.length a.m.ec, .slice a.m.ka a.m.p.conf.length a.m.kc, .int .i64 a.m.p.off, .int .i64 a.m.p.size, B a.m.p.data]
abbrev acV (l : List AcM) : List Value := l.flatMap acC
theorem acC_len : ∀ x, (acC x).length = 18 := fun _ => rfl
abbrev AcM0 : AcM := ⟨0, 0, 0, false, [], MM0⟩
abbrev Mi := RP × RA
abbrev miC (x : Mi) : List Value := rsC x.1 x.2
abbrev miV (l : List Mi) : List Value := l.flatMap miC
theorem miC_len : ∀ x, (miC x).length = 18 := fun _ => rfl
theorem miC_one : ∀ x, ∀ q ∈ miC x, q.oneCell' = true := fun x q hq => by
  simp at hq
  rcases hq with rfl | rfl | rfl | rfl | rfl | rfl | rfl | rfl | rfl | rfl | rfl | rfl | rfl | rfl | rfl | rfl | rfl | rfl <;> rfl
theorem miV_len (l : List Mi) : (miV l).length = l.length * 18 := rec_length (C := miC) miC_len l
abbrev Mi0 : Mi := (rp0, RA0)
/-- a world in memory -/
structure WS where
  ms : List Mi
  fm : List MM
  ma : Option Addr
  mc : Nat
  fa : Option Addr
  fc : Nat
abbrev WS.w (s : WS) : WP := ⟨s.ms.map (·.1), s.fm.map MM.p⟩
abbrev wB (W : Nat) (s : WS) : As := .blk W (.cells #[.slice s.ma s.ms.length s.mc, .slice s.fa s.fm.length s.fc] 31)
abbrev OwnMi (a : Option Addr) (l : List Mi) (c : Nat) : As := .own (.slice a l.length c) 49 18 (miV l)
structure WS.ok (h : Heap) (s : WS) : Prop where
  ms : ∀ x ∈ s.ms, RRd h x.1 x.2
  cap : ∀ x ∈ s.ms, x.1.l.length ≤ x.2.lc
  fa : RdS h s.fa (mmV s.fm)
  fm : ∀ m ∈ s.fm, MOk h m
  fc : s.fm.length ≤ s.fc
theorem WS.ok.le {h h' : Heap} {s : WS} (f : WS.ok h s) (l : Heap.le h h') : WS.ok h' s := ⟨fun x hx => (f.ms x hx).le l, f.cap, f.fa.le l, fun m hm => (f.fm m hm).le l, f.fc⟩
def mi (s : WS) (n : Int) : Mi := s.ms.getD n.toNat Mi0
theorem mi_mind (s : WS) (n : Int) : (mi s n).1 = mindAt s.w n := by
  unfold mi mindAt
  rw [List.getD_eq_getElem?_getD, List.getD_eq_getElem?_getD, List.getElem?_map]
  cases s.ms[n.toNat]? <;> rfl
theorem mi_mem {s : WS} {n : Int} (h : n.toNat < s.ms.length) : mi s n ∈ s.ms := by
  unfold mi
  rw [List.getD_eq_getElem?_getD, List.getElem?_eq_getElem h]; exact List.getElem_mem _
end Go.Proofs.YtodcghipfolejaaGreat.Rf
/- The laws' own functions: members, timeout, few; what an act tells a node. -/
namespace Go.Proofs.YtodcghipfolejaaGreat.Rf
open Go Go.Sl
set_option linter.unusedVariables false
set_option linter.unusedSimpArgs false
-- ARR

section
variable {P : Program} {N : Nat} {L : Lcs} {F : Snap} {H : List As}
theorem at_endT {fn : Func} {Post : Value → List As → Prop} {t n b t1 t2 : Nat} {tt te : TypeId} {cs : Array Value} {fr : Nat × Nat} {H' : List As} {v1 v2 : Value} [ha : HA P tt true] [hs : HS P tt n] (hr : fn.results = #[.tmp t1, .cell t tt, .tmp t2]) (hv : find L t = some (.pointer (some ⟨b, 0, none⟩))) (hv1 : find L t1 = some v1) (hv2 : find L t2 = some v2)
    (u : Upd H (.blk b (.cells cs te fr)) [] H') (hn : Nat.beq n cs.size = true) (A : List As) (hpost : Post (.tuple #[v1, .agg cs, v2]) A) (hA : ∀ w, Hp F w H → Hp F w A) : At N (RetQ P fn F Post) L F H := by
  unfold At
  intro a w hf hw
  have e1 := Nat.eq_of_beq_eq_true hn
  have e : sl cs 0 cs.size = cs.toList := by
    simp only [sl, List.drop_zero]
    exact List.take_of_length_le (by simp)
  obtain ⟨ad, e2, hc⟩ := peek_blkN (n := cs.size) hw u
  injection e2 with e2; subst e2
  rw [e] at hc
  have h1 := run_loadCells_peek (P := P) hc
  have h2 : a.tmps.getD t undef = .pointer (some ⟨b, 0, none⟩) := hf.eval (x := .tmp t) hv
  have h4 : a.tmps.getD t1 undef = v1 := hf.eval (x := .tmp t1) hv1
  have h6 : a.tmps.getD t2 undef = v2 := hf.eval (x := .tmp t2) hv2
  subst e1
  refine ⟨.tuple #[v1, .agg cs, v2], A, ?_, hpost, hA w hw, hf.defers⟩
  have h3 : a.tmps[t]?.getD undef = .pointer (some ⟨b, 0, none⟩) := by simpa using h2
  have h5 : a.tmps[t1]?.getD undef = v1 := by simpa using h4
  have h7 : a.tmps[t2]?.getD undef = v2 := by simpa using h6
  simp at h1
  simp [results, hr, h3, h5, h7, asAddr, loadVar, ha.h, hs.h, h1]
end
section
variable {α : Type} {C : α → List Value} {n : Nat}
theorem rec_take (hn : ∀ x, (C x).length = n) : ∀ (l : List α) (k : Nat), (l.flatMap C).take (k * n) = (l.take k).flatMap C
  | [], k => by simp
  | x :: r, 0 => by simp
  | x :: r, k + 1 => by
    have e : (k + 1) * n = (C x).length + k * n := by rw [hn x, Nat.succ_mul]; omega
    rw [List.take_succ_cons, List.flatMap_cons, List.flatMap_cons, e, List.take_length_add_append, rec_take hn r k]
theorem rec_drop (hn : ∀ x, (C x).length = n) : ∀ (l : List α) (k : Nat), (l.flatMap C).drop (k * n) = (l.drop k).flatMap C
  | [], k => by simp
  | x :: r, 0 => by simp
  | x :: r, k + 1 => by
    have e : (k + 1) * n = (C x).length + k * n := by rw [hn x, Nat.succ_mul]; omega
    rw [List.drop_succ_cons, List.flatMap_cons, e, List.drop_length_add_append, rec_drop hn r k]
end
theorem rd_takeM {h : Heap} {a : Option Addr} {l : List MM} {c i : Nat} (r : RdS h a (mmV l)) (hc : l.length ≤ c) (hi : i ≤ l.length) : RdS h a (mmV (l.take i)) := by
  have := r.cut (sz := 13) (mmV_len l) hc 0 i (Nat.zero_le _) hi
  rw [cutA_zero, Nat.zero_mul, List.drop_zero, Nat.sub_zero, rec_take mmC_len] at this
  exact this
theorem rd_dropM {h : Heap} {a : Option Addr} {l : List MM} {c i : Nat} (r : RdS h a (mmV l)) (hc : l.length ≤ c) (hi : i ≤ l.length) : RdS h (cutA a c i 13) (mmV (l.drop i)) := by
  have := r.cut (sz := 13) (mmV_len l) hc i l.length hi (Nat.le_refl _)
  rw [rec_drop mmC_len, List.take_of_length_le (by rw [rec_length (C := mmC) mmC_len, List.length_drop]; omega)] at this
  exact this
def memK (k : Nat) : List Int := (List.range k).map fun i => ((i : Nat) : Int) + 1
theorem memK_succ (k : Nat) : memK (k + 1) = memK k ++ [(k : Int) + 1] := by unfold memK; rw [List.range_succ, List.map_append]; rfl
theorem memK_len (k : Nat) : (memK k).length = k := by unfold memK; simp
theorem few_ct (n : Int) : Pu Tryz.prog 25 [.int .i64 n] (fun _ => True) (.int .i64 (min n 1048576)) := by
  refine ct_enter 5 Tryz.func25 rfl rfl rfl ?_
  intro F _
  repeat refine y_ ?_
  refine g_region ?_
  refine f_ (s_assign rfl) ?_
  refine gl_nil ?_
  repeat refine y_ ?_
  refine g_region ?_
  refine m_ ?_
  refine f_ (s_min2 rfl rfl) ?_
  refine f_ (s_assign rfl) ?_
  refine gl_nil ?_
  repeat refine y_ ?_
  refine g_ret ?_
  exact at_end1 rfl rfl [] ⟨rfl, rfl⟩ (fun _ h => h)
theorem timeout_ct (n : Int) : Pu Tryz.prog 27 [.int .i64 n] (fun _ => True) (.int .i64 (toP n)) := by
  have hu := uM_range n (k := 1000) (by decide)
  obtain ⟨u, hue⟩ : ∃ u, u = IntKind.u64.wrap n := ⟨_, rfl⟩
  have hu0 : 0 ≤ u ∧ u ≤ 18446744073709551615 := by rw [hue, IntKind.wrap_u64]; omega
  have e : uM n 1000 = u % 1000 := by rw [uM, hue]
  rw [e] at hu
  refine ct_enter 8 Tryz.func27 rfl rfl rfl ?_
  intro F _
  repeat refine y_ ?_
  refine g_region ?_
  refine f_ (s_assign rfl) ?_
  refine gl_nil ?_
  repeat refine y_ ?_
  refine g_region ?_
  refine m_ ?_
  refine f_ ((s_conv_int rfl).eq (v' := .int .u64 u) (by rw [hue])) ?_
  refine f_ (s_rem_pos rfl rfl (by omega)) ?_
  refine f_ (s_conv_keep_i64 rfl (by omega)) ?_
  refine f_ ((s_add_i64 rfl rfl (by omega)).eq (v' := .int .i64 (toP n)) (by rw [toP, e])) ?_
  refine f_ (s_assign rfl) ?_
  refine gl_nil ?_
  repeat refine y_ ?_
  refine g_ret ?_
  exact at_end1 rfl rfl [] ⟨rfl, rfl⟩ (fun _ h => h)
theorem rmem_ct (n : Int) : Ct Tryz.prog 26 [.int .i64 n] (fun _ => True) [] (LsP (memP n)) := by
  have hu := uM_range n (k := 5) (by decide)
  obtain ⟨u, hue⟩ : ∃ u, u = IntKind.u64.wrap n := ⟨_, rfl⟩
  have hu0 : 0 ≤ u ∧ u ≤ 18446744073709551615 := by rw [hue, IntKind.wrap_u64]; omega
  have e : uM n 5 = u % 5 := by rw [uM, hue]
  have eM : memP n = memK (1 + (uM n 5).toNat) := rfl
  obtain ⟨k0, hk0⟩ : ∃ k0, k0 = 1 + (uM n 5).toNat := ⟨_, rfl⟩
  rw [eM, ← hk0]
  rw [e] at hu hk0
  have hk5 : k0 ≤ 5 := by omega
  refine ct_enter 20 Tryz.func26 rfl rfl rfl ?_
  intro F _
  repeat refine y_ ?_
  refine g_region ?_
  refine f_ (s_assign rfl) ?_
  refine gl_nil ?_
  repeat refine y_ ?_
  refine g_region ?_
  refine m_ ?_
  refine f_ ((s_conv_int rfl).eq (v' := .int .u64 u) (by rw [hue])) ?_
  refine f_ (s_rem_pos rfl rfl (by omega)) ?_
  refine f_ (s_conv_keep_i64 rfl (by omega)) ?_
  refine f_ ((s_add_i64 rfl rfl (by omega)).eq (v' := .int .i64 (k0 : Nat)) (by congr 1; omega)) ?_
  refine f_ (s_assign rfl) ?_
  refine gl_nil ?_
  repeat refine y_ ?_
  refine g_region ?_
  refine f_ (s_assign rfl) ?_
  refine gl_nil ?_
  repeat refine y_ ?_
  refine g_region ?_
  refine f_ (s_assign rfl) ?_
  refine gl_nil ?_
  repeat refine y_ ?_
  refine g_own_nil 3 1 ?_
  refine g_loop (ι := Nat × Option Addr × Nat) (fun i => i.1 ≤ k0) (fun i => [(0, .int .i64 (k0 : Nat)), (3, .slice i.2.1 (memK i.1).length i.2.2), (4, .int .i64 ((i.1 : Nat) + 1))]) (fun i => [OwnC i.2.1 (memK i.1) i.2.2]) (fun i => k0 - i.1) (0, none, 0) (Nat.zero_le _) ?_ ?_ ?_
  · (repeat (first | exact Sub.nil _ | refine Sub.cons rfl ?_))
  · intro w hw; exact hw
  rintro ⟨k, b, d⟩ hk
  simp only at hk
  have hml := memK_len k
  have hml2 : (memK ((k, b, d) : Nat × Option Addr × Nat).1).length = k := hml
  repeat refine y_ ?_
  refine g_region ?_
  refine m_ ?_
  refine m_ ?_
  refine f_ (s_leq rfl rfl) ?_
  refine gl_nil ?_
  repeat refine y_ ?_
  refine g_cond rfl (fun h => ?_) (fun h => ?_)
  · have hk' : k < k0 := by simp at h; omega
    repeat refine y_ ?_
    refine g_region ?_
    refine m_ ?_
    refine m_ ?_
    refine gl_buildSliceU rfl rfl rfl rfl rfl rfl (xs := intsV [(k : Int) + 1]) rfl rfl ?_; intro a17 ha17
    refine gl_append rfl rfl (fun a' c' => z_6) (fun w hw => (hw.ownN z_3).2.2.1) rfl rfl rfl (intsV_one _) (by show (_ + 1) * 8 ≤ _; omega) (by omega) rfl ?_; intro a18 c18 hc18
    refine f_ (s_assign rfl) ?_
    refine gl_nil ?_
    repeat refine y_ ?_
    refine g_region ?_
    refine m_ ?_
    refine f_ (s_add_i64 rfl rfl (by omega)) ?_
    refine f_ (s_assign rfl) ?_
    refine gl_nil ?_
    repeat refine y_ ?_
    refine at_next (k + 1, a18, c18) (by simp only; omega) (by simp only; omega) ?_ ?_
    · simp only [memK_len] at hc18 ⊢
      (repeat (first | exact Sub.nil _ | refine Sub.cons rfl ?_))
    · intro w hw
      simp only [OwnC, memK_succ, List.length_append, List.length_singleton, intsV_append]
      exact hw.drop
  · have hkl : k = k0 := by simp at h; omega
    subst hkl
    repeat refine y_ ?_
    refine g_region ?_
    refine m_ ?_
    refine f_ (s_assign rfl) ?_
    refine gl_nil ?_
    repeat refine y_ ?_
    refine g_ret ?_
    exact at_end1 rfl rfl [OwnC b (memK k) d] ⟨b, d, rfl, rfl⟩ (fun _ h => h)
end Go.Proofs.YtodcghipfolejaaGreat.Rf
