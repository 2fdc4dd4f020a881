import Derived.Test.YtodcghipfolejaaGreatHx11
/- A mind's calls: peer, got. -/
namespace Go.Proofs.YtodcghipfolejaaGreat.Rf
open Go Go.Sl
set_option linter.unusedVariables false
set_option linter.unusedSimpArgs false
-- ARR

theorem peer1_ct (q : Pr) (G : Nat) (m : MM) : Pu Tryz.prog 125 [prA q, Ptr G] (fun h => h G = some (.cells (mmC m).toArray 38)) (.bool (decide (q.node = m.p.frm))) := by
  refine ct_enter 9 Tryz.func125 rfl rfl rfl ?_
  intro F hG
  repeat refine y_ ?_
  refine g_region ?_
  refine gl_boxA rfl rfl ?_; intro g2
  refine f_ (s_assign rfl) ?_
  refine gl_nil ?_
  repeat refine y_ ?_
  refine g_region ?_
  refine f_ z_1 ?_
  refine r_ (by first | exact s_load_blk rfl z_3 a4_0 | exact s_load1 rfl (fun w hw => peekB hw (by assumption) a4_0)) ?_
  refine f_ z_1 ?_
  refine r_ (by first | exact s_load_blk rfl z_3 a13_1 | exact s_load1 rfl (fun w hw => peekB hw (by assumption) a13_1)) ?_
  refine f_ (s_eql rfl rfl) ?_
  refine f_ (s_assign rfl) ?_
  refine gl_nil ?_
  repeat refine y_ ?_
  refine g_ret ?_
  exact at_end1 rfl rfl [] ⟨rfl, rfl⟩ (fun _ h => h.dropAll)
def ixP (l : List Pr) (n : Int) : Int := if l.findIdx (fun q => decide (q.node = n)) < l.length then (l.findIdx (fun q => decide (q.node = n)) : Nat) else -1
set_option maxHeartbeats 1000000 in
theorem IndexFunc_ct (l : List Pr) (a : Option Addr) (c : Nat) (G : Nat) (m : MM) (hl : l.length ≤ 1000000000) : Pu Tryz.prog 124 [.slice a l.length c, .func (.func 125) #[] #[Ptr G]] (fun h => RdS h a (prV l) ∧ h G = some (.cells (mmC m).toArray 38)) (.int .i64 (ixP l m.p.frm)) := by
  refine ct_enter 19 Tryz.func124 rfl rfl rfl ?_
  intro F hF
  have hr := hF.1
  have hG := hF.2
  repeat refine y_ ?_
  refine g_region ?_
  refine f_ (s_assign rfl) ?_
  refine gl_nil ?_
  repeat refine y_ ?_
  refine g_region ?_
  refine m_ ?_
  refine f_ (s_len_sl rfl) ?_
  refine m_ ?_
  refine gl_nil ?_
  repeat refine y_ ?_
  refine g_loop (ι := Nat) (fun i => i ≤ l.length ∧ ∀ j, j < i → decide ((l.getD j P0).node = m.p.frm) = false) (fun i => [(0, .slice a l.length c), (1, .func (.func 125) #[] #[Ptr G]), (7, .int .i64 (l.length : Nat)), (8, .int .i64 (i : Nat))]) (fun _ => []) (fun i => l.length - i) 0 ⟨Nat.zero_le _, fun j hj => absurd hj (Nat.not_lt_zero _)⟩ ?_ ?_ ?_
  · (repeat (first | exact Sub.nil _ | refine Sub.cons rfl ?_))
  · intro w hw; exact hw
  rintro i ⟨hi, hb⟩
  repeat refine y_ ?_
  refine g_region ?_
  refine f_ (s_lss rfl rfl) ?_
  refine gl_nil ?_
  repeat refine y_ ?_
  refine g_cond rfl (fun h => ?_) (fun h => ?_)
  rotate_left
  · have hil : i = l.length := by simp at h; omega
    subst hil
    have e : ixP l m.p.frm = -1 := by
      rw [ixP, if_neg]
      have := (List.findIdx_eq_length (p := fun q : Pr => decide (q.node = m.p.frm)) (xs := l)).2 (fun q hq => by
        obtain ⟨j, hj, rfl⟩ := List.mem_iff_getElem.1 hq
        have := hb j hj
        rwa [List.getD_eq_getElem?_getD, List.getElem?_eq_getElem hj] at this)
      omega
    rw [e]
    repeat refine y_ ?_
    refine g_region ?_
    refine f_ (s_assign rfl) ?_
    refine gl_nil ?_
    repeat refine y_ ?_
    refine g_ret ?_
    exact at_end1 rfl rfl [] ⟨rfl, rfl⟩ (fun _ h => h)
  have hil : i < l.length := by simp at h; omega
  have hsome := rdR_some hr hil
  obtain ⟨q, hq⟩ : ∃ q, q = l.getD i P0 := ⟨_, rfl⟩
  obtain ⟨b, hbe⟩ : ∃ b, b = decide (q.node = m.p.frm) := ⟨_, rfl⟩
  repeat refine y_ ?_
  refine g_region ?_
  refine m_ ?_
  refine f_ (s_assign rfl) ?_
  refine gl_nil ?_
  repeat refine y_ ?_
  refine g_region ?_
  refine m_ ?_
  refine m_ ?_
  refine m_ ?_
  refine f_ (s_indexAddr rfl (by assumption) rfl (by omega)) ?_
  refine r_ (s_loadN (cs := prC q) rfl (fun w hw => by rw [hq]; exact rdQ hw hr (i := i) (by omega) hil) rfl) ?_
  refine gl_callv [] rfl rfl (ps := []) (qs := [Ptr G]) rfl (peer1_ct q G m) (fun w hw => hw) (fun h hh _ => hh _ _ hG) rfl ?_; rw [← hbe]; rintro v A ⟨rfl, rfl⟩
  refine gl_nil ?_
  repeat refine y_ ?_
  cases b
  · repeat refine y_ ?_
    repeat refine y_ ?_
    refine g_region ?_
    refine f_ (s_add_i64 rfl rfl (by omega)) ?_
    refine m_ ?_
    refine gl_nil ?_
    repeat refine y_ ?_
    refine at_next (i + 1) ⟨by omega, fun j hj => ?_⟩ (by omega) ?_ ?_
    · rcases Nat.lt_succ_iff_lt_or_eq.1 hj with h4 | rfl
      · exact hb j h4
      · rw [← hq]; exact hbe.symm
    · (repeat (first | exact Sub.nil _ | refine Sub.cons rfl ?_))
    · intro w hw; exact hw
  · have e : ixP l m.p.frm = (i : Nat) := by
      have h1 : l.findIdx (fun q => decide (q.node = m.p.frm)) = i := by
        rw [List.findIdx_eq hil]
        refine ⟨?_, fun j hj => ?_⟩
        · rw [hq, List.getD_eq_getElem?_getD, List.getElem?_eq_getElem hil] at hbe
          exact hbe.symm
        · have := hb j hj
          rwa [List.getD_eq_getElem?_getD, List.getElem?_eq_getElem (by omega)] at this
      rw [ixP, h1, if_pos hil]
    rw [e]
    repeat refine y_ ?_
    refine g_region ?_
    refine m_ ?_
    refine f_ (s_assign rfl) ?_
    refine gl_nil ?_
    repeat refine y_ ?_
    refine g_ret ?_
    exact at_end1 rfl rfl [] ⟨rfl, rfl⟩ (fun _ h => h)
def peerI (p : RP) (m : MP) : Int := if isPeer p m = true then (peerAt p m : Nat) else -1
set_option maxRecDepth 8000 in
set_option maxHeartbeats 1000000 in
theorem peer_ct (X : Nat) (d : MD) (m : MM) (hf : PFit d.p) : Pu Tryz.prog 99 [Ptr X, mmA m] (fun h => h X = some (mdO d) ∧ RdS h d.a.pa (prV d.p.peers)) (.int .i64 (peerI d.p m.p)) := by
  obtain ⟨p, a, outs, oa0, oc0⟩ := d
  simp only at hf
  have hpl := hf.peers
  refine ct_enter 28 Tryz.func99 rfl rfl rfl ?_
  intro F hF
  have hX := hF.1
  have hr := hF.2
  obtain ⟨q1, hq1⟩ : ∃ q, q = decide (p.role = 2) := ⟨_, rfl⟩
  obtain ⟨q2, hq2⟩ : ∃ q, q = decide (m.p.term = p.term) := ⟨_, rfl⟩
  have hno : (q1 && q2) = false → peerI p m.p = -1 := fun h => by
    have : ¬ (p.role = 2 ∧ m.p.term = p.term) := fun h2 => by
      rw [hq1, hq2, decide_eq_true h2.1, decide_eq_true h2.2] at h; cases h
    rw [peerI, isPeer, peerAt, if_neg this, if_neg (by simp)]
  repeat refine y_ ?_
  refine g_region ?_
  refine gl_boxA rfl rfl ?_; intro g3
  refine f_ (s_assign rfl) ?_
  refine gl_nil ?_
  repeat refine y_ ?_
  rcases (show (q1 = true ∧ q2 = true) ∨ q1 = false ∨ (q1 = true ∧ q2 = false) by cases q1 <;> cases q2 <;> simp) with ⟨rfl, rfl⟩ | rfl | ⟨rfl, rfl⟩
  rotate_left
  iterate 2
    · rw [hno z_10]
      repeat refine y_ ?_
      refine g_draw ([4, 8, 13], [0, 1, 3, 7, 15, 31, 63, 127, 255, 127, 639, 1663, 3711, 7807, 16383, 32767], []) [blkMsg g3 m] 16 rfl ?_
      refine w_ 0 rfl (s_move rfl) ?_
      refine w_ 1 rfl (s_nilCheck rfl) ?_
      refine w_ 2 rfl z_1 ?_
      refine w_ 3 rfl z_1 ?_
      refine ga_readF 4 rfl (s_load1 rfl (fun w hw => peekB hw hX a19_3)) (by (first | exact fun _ h => h | (repeat first | exact sub_nil | refine sub_cons z_4 ?_))) rfl rfl rfl z_7 ?_
      refine w_ 5 rfl ((s_neq rfl rfl).eq (congrArg (fun b => Value.bool (!b)) hq1.symm)) ?_
      refine w_ 6 rfl (s_move rfl) ?_
      (first | refine s_ 7 ?_ | refine t_ 7 ?_ | refine ga_free_g 7 rfl z_1 rfl rfl rfl rfl rfl rfl z_7 ?_)
      (first | refine s_ 8 ?_ | refine t_ 8 ?_ | refine ga_read_kg 8 rfl z_5 (s_load_blk rfl .del a13_3) (by (first | exact fun _ h => h | (repeat first | exact sub_nil | refine sub_cons z_4 ?_))) rfl rfl rfl rfl rfl rfl z_7 ?_ | refine ga_readF_g 8 rfl (s_load1 rfl (fun w hw => peekB hw (by assumption) a13_3)) (by (first | exact fun _ h => h | (repeat first | exact sub_nil | refine sub_cons z_4 ?_))) rfl rfl rfl rfl rfl rfl z_7 ?_)
      (first | refine s_ 9 ?_ | refine t_ 9 ?_ | refine ga_free_g 9 rfl (s_move rfl) rfl rfl rfl rfl rfl rfl z_7 ?_)
      (first | refine s_ 10 ?_ | refine t_ 10 ?_ | refine ga_free_g 10 rfl (s_nilCheck rfl) rfl rfl rfl rfl rfl rfl z_7 ?_)
      (first | refine s_ 11 ?_ | refine t_ 11 ?_ | refine ga_free_g 11 rfl z_1 rfl rfl rfl rfl rfl rfl z_7 ?_)
      (first | refine s_ 12 ?_ | refine t_ 12 ?_ | refine ga_free_g 12 rfl z_1 rfl rfl rfl rfl rfl rfl z_7 ?_)
      (first | refine s_ 13 ?_ | refine t_ 13 ?_ | refine ga_readF_g 13 rfl (s_load1 rfl (fun w hw => peekB hw hX a19_1)) (by (first | exact fun _ h => h | (repeat first | exact sub_nil | refine sub_cons z_4 ?_))) rfl rfl rfl rfl rfl rfl z_7 ?_)
      (first | refine s_ 14 ?_ | refine t_ 14 ?_ | refine ga_free_g 14 rfl ((s_neq rfl rfl).eq (congrArg (fun b => Value.bool (!b)) hq2.symm)) rfl rfl rfl rfl rfl rfl z_7 ?_)
      refine w_ 15 rfl z_8 ?_
      refine ga_done z_7 ?_
      repeat refine y_ ?_
      refine g_region ?_
      refine f_ (s_assign rfl) ?_
      refine gl_nil ?_
      repeat refine y_ ?_
      refine g_ret ?_
      exact at_end1 rfl rfl [] ⟨rfl, rfl⟩ (fun _ h => h.dropAll)
  have hy : p.role = 2 ∧ m.p.term = p.term := ⟨of_decide_eq_true hq1.symm, of_decide_eq_true hq2.symm⟩
  have e : peerI p m.p = ixP p.peers m.p.frm := by
    rw [peerI, isPeer, peerAt, if_pos hy, ixP]
    by_cases h : p.peers.findIdx (fun q => decide (q.node = m.p.frm)) < p.peers.length
    · rw [if_pos h, if_pos (decide_eq_true h)]
    · rw [if_neg h, if_neg (by simpa using h)]
  rw [e]
  repeat refine y_ ?_
  refine g_draw ([4, 8, 13], [0, 1, 3, 7, 15, 31, 63, 127, 255, 127, 639, 1663, 3711, 7807, 16383, 32767], []) [blkMsg g3 m] 16 rfl ?_
  refine w_ 0 rfl (s_move rfl) ?_
  refine w_ 1 rfl (s_nilCheck rfl) ?_
  refine w_ 2 rfl z_1 ?_
  refine w_ 3 rfl z_1 ?_
  refine ga_readF 4 rfl (s_load1 rfl (fun w hw => peekB hw hX a19_3)) (by (first | exact fun _ h => h | (repeat first | exact sub_nil | refine sub_cons z_4 ?_))) rfl rfl rfl z_7 ?_
  refine w_ 5 rfl ((s_neq rfl rfl).eq (congrArg (fun b => Value.bool (!b)) hq1.symm)) ?_
  refine w_ 6 rfl (s_move rfl) ?_
  (first | refine s_ 7 ?_ | refine t_ 7 ?_ | refine ga_free_g 7 rfl z_1 rfl rfl rfl rfl rfl rfl z_7 ?_)
  (first | refine s_ 8 ?_ | refine t_ 8 ?_ | refine ga_read_kg 8 rfl z_5 (s_load_blk rfl .del a13_3) (by (first | exact fun _ h => h | (repeat first | exact sub_nil | refine sub_cons z_4 ?_))) rfl rfl rfl rfl rfl rfl z_7 ?_ | refine ga_readF_g 8 rfl (s_load1 rfl (fun w hw => peekB hw (by assumption) a13_3)) (by (first | exact fun _ h => h | (repeat first | exact sub_nil | refine sub_cons z_4 ?_))) rfl rfl rfl rfl rfl rfl z_7 ?_)
  (first | refine s_ 9 ?_ | refine t_ 9 ?_ | refine ga_free_g 9 rfl (s_move rfl) rfl rfl rfl rfl rfl rfl z_7 ?_)
  (first | refine s_ 10 ?_ | refine t_ 10 ?_ | refine ga_free_g 10 rfl (s_nilCheck rfl) rfl rfl rfl rfl rfl rfl z_7 ?_)
  (first | refine s_ 11 ?_ | refine t_ 11 ?_ | refine ga_free_g 11 rfl z_1 rfl rfl rfl rfl rfl rfl z_7 ?_)
  (first | refine s_ 12 ?_ | refine t_ 12 ?_ | refine ga_free_g 12 rfl z_1 rfl rfl rfl rfl rfl rfl z_7 ?_)
  (first | refine s_ 13 ?_ | refine t_ 13 ?_ | refine ga_readF_g 13 rfl (s_load1 rfl (fun w hw => peekB hw hX a19_1)) (by (first | exact fun _ h => h | (repeat first | exact sub_nil | refine sub_cons z_4 ?_))) rfl rfl rfl rfl rfl rfl z_7 ?_)
  (first | refine s_ 14 ?_ | refine t_ 14 ?_ | refine ga_free_g 14 rfl ((s_neq rfl rfl).eq (congrArg (fun b => Value.bool (!b)) hq2.symm)) rfl rfl rfl rfl rfl rfl z_7 ?_)
  refine w_ 15 rfl z_8 ?_
  refine ga_done z_7 ?_
  repeat refine y_ ?_
  refine g_region ?_
  refine m_ ?_
  refine f_ (s_nilCheck rfl) ?_
  refine f_ z_1 ?_
  refine f_ z_1 ?_
  refine r_ (s_load1 rfl (fun w hw => peekB hw hX a19_14)) ?_
  refine f_ (s_makeFunc rfl rfl) ?_
  refine gl_callp rfl (IndexFunc_ct p.peers a.pa a.pc g3 m (by omega)) (fun h hh ⟨bs, hb⟩ => ⟨hr.le hh, Sat.blk hb z_3⟩) rfl ?_
  refine f_ (s_assign rfl) ?_
  refine gl_nil ?_
  repeat refine y_ ?_
  refine g_ret ?_
  exact at_end1 rfl rfl [] ⟨rfl, rfl⟩ (fun _ h => h.dropAll)
theorem putx_length {xs vs : List Value} {q : Nat} (h : q + vs.length ≤ xs.length) : (putx xs q vs).length = xs.length := by
  simp only [putx, List.length_append, List.length_take, List.length_drop]; omega
theorem rdQ1_own {F : Snap} {w : World} {H H' : List As} {a : Option Addr} {l : List Pr} {n c q i j : Nat} {te : TypeId} {v : Value} (hw : Hp F w H) (u : Upd H (.own (.slice a n c) te 4 (prV l)) [] H') (h : q = 4 * i + j) (hi : i < l.length) (hv : (prC (l.getD i P0))[j]? = some v) : PeekC (hp w) (addO a q) [v] := rec_rd1 (C := prC) (hw.ownN u).2.2.1 prC_len P0 h hi hv
theorem pf_setPr {p : RP} (h : PFit p) (i : Nat) (q : Pr) (hq : 1 ≤ q.next ∧ q.next ≤ 4611686018427387904 ∧ 0 ≤ q.mtc ∧ q.mtc ≤ 4611686018427387904 ∧ 0 ≤ q.off ∧ q.off ≤ p.img.length) : PFit (setPr p i q) := by
  refine ⟨h.base, h.len, h.cl, h.dat, h.img, h.votes, ?_, fun r hr => ?_, h.ticks, h.term, h.commit⟩
  · show (p.peers.set i q).length ≤ _
    rw [List.length_set]; exact h.peers
  · rcases List.mem_or_eq_of_mem_set hr with h1 | h1
    · exact h.prs r h1
    · rw [h1]; exact hq
theorem isPeer_lt {p : RP} {m : MP} (h : isPeer p m = true) : peerAt p m < p.peers.length := of_decide_eq_true h
theorem peerI_yes {p : RP} {m : MP} (h : isPeer p m = true) : peerI p m = (peerAt p m : Nat) := by rw [peerI, if_pos h]
theorem peerI_no {p : RP} {m : MP} (h : isPeer p m = false) : peerI p m = -1 := by rw [peerI, if_neg (by rw [h]; decide)]
set_option maxRecDepth 8000 in
set_option maxHeartbeats 4000000 in
theorem got_ct (X : Nat) (d : MD) (m : MM) (hf : PFit d.p) (hm : MFit m.p) (ho : d.outs.length ≤ 1000000) : Ct Tryz.prog 61 [Ptr X, mmA m] (fun _ => True) (mdH X d) (MdP X d (gotP d.p m.p) (gotMs d.p m.p) (.tuple #[])) := by
  obtain ⟨p, a, outs, oa0, oc0⟩ := d
  simp only at hf ho
  have hpl := hf.peers
  have hoff := hm.off
  have himg := hf.img
  refine ct_enter 75 Tryz.func61 rfl rfl rfl ?_
  intro F _
  refine g_ownN (a := a.pa) z_3 (fun _ _ hpa => ?_)
  repeat refine y_ ?_
  refine g_region ?_
  refine gl_boxA rfl rfl ?_; intro g3
  refine gl_nil ?_
  repeat refine y_ ?_
  refine g_region ?_
  refine m_ ?_
  refine r_ ((s_load_blkW rfl z_3 z_10).eq (v' := mmA m) rfl) ?_
  refine gl_callp rfl (peer_ct X ⟨p, a, outs, oa0, oc0⟩ m hf) (fun h hh ⟨bs, hb⟩ => ⟨Sat.blk hb z_3, Sat.rd (a := a.pa) hb z_3⟩) rfl ?_
  refine f_ (s_assign rfl) ?_
  refine gl_nil ?_
  repeat refine y_ ?_
  cases hip : isPeer p m.p
  · have hbad : gotBad p m.p = true := by rw [gotBad, hip]; rfl
    have e1 : gotP p m.p = p := by rw [gotP, if_pos hbad]
    have e2 : gotMs p m.p = [] := by rw [gotMs, if_pos hbad]
    rw [peerI_no hip]
    simp only [e1, e2]
    repeat refine y_ ?_
    refine g_draw ([7, 11, 17, 22, 28, 33, 38, 43], [0, 1, 3, 7, 15, 31, 63, 127, 7, 511, 1023, 2047, 7, 4103, 12295, 28679, 61447, 126983, 262143, 524287, 1048575, 2097151, 4194303, 2097151, 10485759, 27262975, 60817407, 127926271, 262143999, 536870911, 1073741823, 2147483647, 4294967295, 8589934591, 17179869183, 34359738367, 68719476735, 137438953471, 274877906943, 137438953471, 687194767359, 1786706395135, 3985729650687, 8383776161791, 17179869183999, 35184372088831, 70368744177663], []) [.blk X (mdO ⟨p, a, outs, oa0, oc0⟩), blkMsg g3 m] 47 rfl ?_
    refine w_ 0 rfl (s_move rfl) ?_
    refine w_ 1 rfl ((s_lss rfl rfl).eq (v' := .bool true) rfl) ?_
    refine w_ 2 rfl (s_move rfl) ?_
    (first | refine s_ 3 ?_ | refine t_ 3 ?_ | refine ga_free_g 3 rfl (s_move rfl) rfl rfl rfl rfl rfl rfl z_7 ?_)
    (first | refine s_ 4 ?_ | refine t_ 4 ?_ | refine ga_free_g 4 rfl (s_nilCheck rfl) rfl rfl rfl rfl rfl rfl z_7 ?_)
    (first | refine s_ 5 ?_ | refine t_ 5 ?_ | refine ga_free_g 5 rfl z_1 rfl rfl rfl rfl rfl rfl z_7 ?_)
    (first | refine s_ 6 ?_ | refine t_ 6 ?_ | refine ga_free_g 6 rfl z_1 rfl rfl rfl rfl rfl rfl z_7 ?_)
    (first | refine s_ 7 ?_ | refine t_ 7 ?_ | refine ga_read_kg 7 rfl z_5 (s_load_blk rfl .del a19_14) (by (first | exact fun _ h => h | (repeat first | exact sub_nil | refine sub_cons z_4 ?_))) rfl rfl rfl rfl rfl rfl z_7 ?_ | refine ga_readF_g 7 rfl (s_load1 rfl (fun w hw => peekB hw (by assumption) a19_14)) (by (first | exact fun _ h => h | (repeat first | exact sub_nil | refine sub_cons z_4 ?_))) rfl rfl rfl rfl rfl rfl z_7 ?_)
    (first | refine s_ 8 ?_ | refine t_ 8 ?_ | refine ga_free_g 8 rfl (s_move rfl) rfl rfl rfl rfl rfl rfl z_7 ?_)
    (first | refine s_ 9 ?_ | refine t_ 9 ?_ | refine ga_free_g 9 rfl (s_indexAddr rfl (by assumption) rfl (by omega)) rfl rfl rfl rfl rfl rfl z_7 ?_)
    (first | refine s_ 10 ?_ | refine t_ 10 ?_ | refine ga_free_g 10 rfl z_1 rfl rfl rfl rfl rfl rfl z_7 ?_)
    (first | refine s_ 11 ?_ | refine t_ 11 ?_ | refine ga_read_kg 11 rfl z_5 (s_load_blk rfl .del z_10) (by (first | exact fun _ h => h | (repeat first | exact sub_nil | refine sub_cons z_4 ?_))) rfl rfl rfl rfl rfl rfl z_7 ?_ | refine ga_readF_g 11 rfl (s_load1 rfl (fun w hw => peekB hw (by assumption) z_10)) (by (first | exact fun _ h => h | (repeat first | exact sub_nil | refine sub_cons z_4 ?_))) rfl rfl rfl rfl rfl rfl z_7 ?_)
    (first | refine s_ 12 ?_ | refine t_ 12 ?_ | refine ga_free_g 12 rfl (s_move rfl) rfl rfl rfl rfl rfl rfl z_7 ?_)
    (first | refine s_ 13 ?_ | refine t_ 13 ?_ | refine ga_free_g 13 rfl (s_nilCheck rfl) rfl rfl rfl rfl rfl rfl z_7 ?_)
    (first | refine s_ 14 ?_ | refine t_ 14 ?_ | refine ga_free_g 14 rfl z_1 rfl rfl rfl rfl rfl rfl z_7 ?_)
    (first | refine s_ 15 ?_ | refine t_ 15 ?_ | refine ga_free_g 15 rfl z_1 rfl rfl rfl rfl rfl rfl z_7 ?_)
    (first | refine s_ 16 ?_ | refine t_ 16 ?_ | refine ga_free_g 16 rfl z_1 rfl rfl rfl rfl rfl rfl z_7 ?_)
    (first | refine s_ 17 ?_ | refine t_ 17 ?_ | refine ga_read_kg 17 rfl z_5 (s_load_blk rfl .del a19_5) (by (first | exact fun _ h => h | (repeat first | exact sub_nil | refine sub_cons z_4 ?_))) rfl rfl rfl rfl rfl rfl z_7 ?_ | refine ga_readF_g 17 rfl (s_load1 rfl (fun w hw => peekB hw (by assumption) a19_5)) (by (first | exact fun _ h => h | (repeat first | exact sub_nil | refine sub_cons z_4 ?_))) rfl rfl rfl rfl rfl rfl z_7 ?_)
    (first | refine s_ 18 ?_ | refine t_ 18 ?_ | refine ga_free_g 18 rfl (s_gtr rfl rfl) rfl rfl rfl rfl rfl rfl z_7 ?_)
    refine w_ 19 rfl z_8 ?_
    refine w_ 20 rfl (s_move rfl) ?_
    (first | refine s_ 21 ?_ | refine t_ 21 ?_ | refine ga_free_g 21 rfl z_1 rfl rfl rfl rfl rfl rfl z_7 ?_)
    (first | refine s_ 22 ?_ | refine t_ 22 ?_ | refine ga_read_kg 22 rfl z_5 (s_load_blk rfl .del a13_4) (by (first | exact fun _ h => h | (repeat first | exact sub_nil | refine sub_cons z_4 ?_))) rfl rfl rfl rfl rfl rfl z_7 ?_ | refine ga_readF_g 22 rfl (s_load1 rfl (fun w hw => peekB hw (by assumption) a13_4)) (by (first | exact fun _ h => h | (repeat first | exact sub_nil | refine sub_cons z_4 ?_))) rfl rfl rfl rfl rfl rfl z_7 ?_)
    (first | refine s_ 23 ?_ | refine t_ 23 ?_ | refine ga_free_g 23 rfl (s_move rfl) rfl rfl rfl rfl rfl rfl z_7 ?_)
    (first | refine s_ 24 ?_ | refine t_ 24 ?_ | refine ga_free_g 24 rfl (s_nilCheck rfl) rfl rfl rfl rfl rfl rfl z_7 ?_)
    (first | refine s_ 25 ?_ | refine t_ 25 ?_ | refine ga_free_g 25 rfl z_1 rfl rfl rfl rfl rfl rfl z_7 ?_)
    (first | refine s_ 26 ?_ | refine t_ 26 ?_ | refine ga_free_g 26 rfl z_1 rfl rfl rfl rfl rfl rfl z_7 ?_)
    (first | refine s_ 27 ?_ | refine t_ 27 ?_ | refine ga_free_g 27 rfl z_1 rfl rfl rfl rfl rfl rfl z_7 ?_)
    (first | refine s_ 28 ?_ | refine t_ 28 ?_ | refine ga_read_kg 28 rfl z_5 (s_load_blk rfl .del a19_5) (by (first | exact fun _ h => h | (repeat first | exact sub_nil | refine sub_cons z_4 ?_))) rfl rfl rfl rfl rfl rfl z_7 ?_ | refine ga_readF_g 28 rfl (s_load1 rfl (fun w hw => peekB hw (by assumption) a19_5)) (by (first | exact fun _ h => h | (repeat first | exact sub_nil | refine sub_cons z_4 ?_))) rfl rfl rfl rfl rfl rfl z_7 ?_)
    (first | refine s_ 29 ?_ | refine t_ 29 ?_ | refine ga_free_g 29 rfl (s_neq rfl rfl) rfl rfl rfl rfl rfl rfl z_7 ?_)
    refine w_ 30 rfl z_8 ?_
    refine w_ 31 rfl (s_move rfl) ?_
    (first | refine s_ 32 ?_ | refine t_ 32 ?_ | refine ga_free_g 32 rfl z_1 rfl rfl rfl rfl rfl rfl z_7 ?_)
    (first | refine s_ 33 ?_ | refine t_ 33 ?_ | refine ga_read_kg 33 rfl z_5 (s_load_blk rfl .del a13_10) (by (first | exact fun _ h => h | (repeat first | exact sub_nil | refine sub_cons z_4 ?_))) rfl rfl rfl rfl rfl rfl z_7 ?_ | refine ga_readF_g 33 rfl (s_load1 rfl (fun w hw => peekB hw (by assumption) a13_10)) (by (first | exact fun _ h => h | (repeat first | exact sub_nil | refine sub_cons z_4 ?_))) rfl rfl rfl rfl rfl rfl z_7 ?_)
    (first | refine s_ 34 ?_ | refine t_ 34 ?_ | refine ga_free_g 34 rfl (s_lss rfl rfl) rfl rfl rfl rfl rfl rfl z_7 ?_)
    refine w_ 35 rfl z_8 ?_
    refine w_ 36 rfl (s_move rfl) ?_
    (first | refine s_ 37 ?_ | refine t_ 37 ?_ | refine ga_free_g 37 rfl z_1 rfl rfl rfl rfl rfl rfl z_7 ?_)
    (first | refine s_ 38 ?_ | refine t_ 38 ?_ | refine ga_read_kg 38 rfl z_5 (s_load_blk rfl .del a13_10) (by (first | exact fun _ h => h | (repeat first | exact sub_nil | refine sub_cons z_4 ?_))) rfl rfl rfl rfl rfl rfl z_7 ?_ | refine ga_readF_g 38 rfl (s_load1 rfl (fun w hw => peekB hw (by assumption) a13_10)) (by (first | exact fun _ h => h | (repeat first | exact sub_nil | refine sub_cons z_4 ?_))) rfl rfl rfl rfl rfl rfl z_7 ?_)
    (first | refine s_ 39 ?_ | refine t_ 39 ?_ | refine ga_free_g 39 rfl (s_move rfl) rfl rfl rfl rfl rfl rfl z_7 ?_)
    (first | refine s_ 40 ?_ | refine t_ 40 ?_ | refine ga_free_g 40 rfl (s_nilCheck rfl) rfl rfl rfl rfl rfl rfl z_7 ?_)
    (first | refine s_ 41 ?_ | refine t_ 41 ?_ | refine ga_free_g 41 rfl z_1 rfl rfl rfl rfl rfl rfl z_7 ?_)
    (first | refine s_ 42 ?_ | refine t_ 42 ?_ | refine ga_free_g 42 rfl z_1 rfl rfl rfl rfl rfl rfl z_7 ?_)
    (first | refine s_ 43 ?_ | refine t_ 43 ?_ | refine ga_read_kg 43 rfl z_5 (s_load_blk rfl .del a19_9) (by (first | exact fun _ h => h | (repeat first | exact sub_nil | refine sub_cons z_4 ?_))) rfl rfl rfl rfl rfl rfl z_7 ?_ | refine ga_readF_g 43 rfl (s_load1 rfl (fun w hw => peekB hw (by assumption) a19_9)) (by (first | exact fun _ h => h | (repeat first | exact sub_nil | refine sub_cons z_4 ?_))) rfl rfl rfl rfl rfl rfl z_7 ?_)
    (first | refine s_ 44 ?_ | refine t_ 44 ?_ | refine ga_free_g 44 rfl (s_len_str rfl) rfl rfl rfl rfl rfl rfl z_7 ?_)
    (first | refine s_ 45 ?_ | refine t_ 45 ?_ | refine ga_free_g 45 rfl (s_gtr rfl rfl) rfl rfl rfl rfl rfl rfl z_7 ?_)
    refine w_ 46 rfl z_8 ?_
    refine ga_done z_7 ?_
    repeat refine y_ ?_
    refine g_ret ?_
    exact at_end0 rfl (mdH X ⟨p, a, outs, oa0, oc0⟩ ++ []) (MdP.same X ⟨p, a, outs, oa0, oc0⟩ ⟨p, a, outs, oa0, oc0⟩ _ rfl) (fun w hw => hw.drop)
  rw [peerI_yes hip]
  have hil := isPeer_lt hip
  obtain ⟨i, hi⟩ : ∃ i, i = peerAt p m.p := ⟨_, rfl⟩
  rw [← hi] at hil
  rw [← hi]
  have hsome : ∃ ad, a.pa = some ad := hpa (by show 0 < p.peers.length; omega)
  obtain ⟨q, hq⟩ : ∃ q, q = peerG p m.p := ⟨_, rfl⟩
  have hqg : q = p.peers.getD i P0 := by rw [hq, peerG, hi]
  obtain ⟨q1, hq1⟩ : ∃ b, b = decide (p.base < q.next) := ⟨_, rfl⟩
  obtain ⟨q2, hq2⟩ : ∃ b, b = decide (m.p.index = p.base) := ⟨_, rfl⟩
  obtain ⟨q3, hq3⟩ : ∃ b, b = decide (m.p.off < 0) := ⟨_, rfl⟩
  obtain ⟨q4, hq4⟩ : ∃ b, b = decide ((p.img.length : Int) < m.p.off) := ⟨_, rfl⟩
  have hb : gotBad p m.p = (q1 || (!q2 || (q3 || q4))) := by rw [gotBad, hip, ← hq, hq1, hq2, hq3, hq4]; rfl
  rcases (show (q1 = false ∧ q2 = true ∧ q3 = false ∧ q4 = false) ∨ q1 = true ∨ (q1 = false ∧ q2 = false) ∨ (q1 = false ∧ q2 = true ∧ q3 = true) ∨ (q1 = false ∧ q2 = true ∧ q3 = false ∧ q4 = true) by cases q1 <;> cases q2 <;> cases q3 <;> cases q4 <;> simp) with ⟨rfl, rfl, rfl, rfl⟩ | rfl | ⟨rfl, rfl⟩ | ⟨rfl, rfl, rfl⟩ | ⟨rfl, rfl, rfl, rfl⟩
  rotate_left
  iterate 4
    · have hbad : gotBad p m.p = true := by rw [hb]; rfl
      have e1 : gotP p m.p = p := by rw [gotP, if_pos hbad]
      have e2 : gotMs p m.p = [] := by rw [gotMs, if_pos hbad]
      simp only [e1, e2]
      repeat refine y_ ?_
      refine g_draw ([7, 11, 17, 22, 28, 33, 38, 43], [0, 1, 3, 7, 15, 31, 63, 127, 7, 511, 1023, 2047, 7, 4103, 12295, 28679, 61447, 126983, 262143, 524287, 1048575, 2097151, 4194303, 2097151, 10485759, 27262975, 60817407, 127926271, 262143999, 536870911, 1073741823, 2147483647, 4294967295, 8589934591, 17179869183, 34359738367, 68719476735, 137438953471, 274877906943, 137438953471, 687194767359, 1786706395135, 3985729650687, 8383776161791, 17179869183999, 35184372088831, 70368744177663], []) [.blk X (mdO ⟨p, a, outs, oa0, oc0⟩), blkMsg g3 m, OwnP a.pa p.peers a.pc] 47 rfl ?_
      refine w_ 0 rfl (s_move rfl) ?_
      refine w_ 1 rfl ((s_lss rfl rfl).eq (v' := .bool false) (congrArg Value.bool (decide_eq_false (by omega)))) ?_
      refine w_ 2 rfl (s_move rfl) ?_
      (first | refine s_ 3 ?_ | refine t_ 3 ?_ | refine ga_free_g 3 rfl (s_move rfl) rfl rfl rfl rfl rfl rfl z_7 ?_)
      (first | refine s_ 4 ?_ | refine t_ 4 ?_ | refine ga_free_g 4 rfl (s_nilCheck rfl) rfl rfl rfl rfl rfl rfl z_7 ?_)
      (first | refine s_ 5 ?_ | refine t_ 5 ?_ | refine ga_free_g 5 rfl z_1 rfl rfl rfl rfl rfl rfl z_7 ?_)
      (first | refine s_ 6 ?_ | refine t_ 6 ?_ | refine ga_free_g 6 rfl z_1 rfl rfl rfl rfl rfl rfl z_7 ?_)
      (first | refine s_ 7 ?_ | refine t_ 7 ?_ | refine ga_read_kg 7 rfl z_5 (s_load_blk rfl .del a19_14) (by (first | exact fun _ h => h | (repeat first | exact sub_nil | refine sub_cons z_4 ?_))) rfl rfl rfl rfl rfl rfl z_7 ?_ | refine ga_readF_g 7 rfl (s_load1 rfl (fun w hw => peekB hw (by assumption) a19_14)) (by (first | exact fun _ h => h | (repeat first | exact sub_nil | refine sub_cons z_4 ?_))) rfl rfl rfl rfl rfl rfl z_7 ?_)
      (first | refine s_ 8 ?_ | refine t_ 8 ?_ | refine ga_free_g 8 rfl (s_move rfl) rfl rfl rfl rfl rfl rfl z_7 ?_)
      (first | refine s_ 9 ?_ | refine t_ 9 ?_ | refine ga_free_g 9 rfl ((s_indexAddr rfl hsome rfl (by show 0 ≤ (i : Int) ∧ (i : Int) < (p.peers.length : Nat); omega)).eq (v' := .pointer (addO a.pa (4 * i))) (by congr 2; omega)) rfl rfl rfl rfl rfl rfl z_7 ?_)
      (first | refine s_ 10 ?_ | refine t_ 10 ?_ | refine ga_free_g 10 rfl z_1 rfl rfl rfl rfl rfl rfl z_7 ?_)
      (first | refine s_ 11 ?_ | refine t_ 11 ?_ | refine ga_read_kg 11 rfl z_5 (s_load1 (v := .int .u64 q.next) rfl (fun w hw => rdQ1_own (l := p.peers) hw .del (i := i) (j := 1) (by omega) hil (by rw [← hqg]; rfl))) (by (first | exact fun _ h => h | (repeat first | exact sub_nil | refine sub_cons z_4 ?_))) rfl rfl rfl rfl rfl rfl z_7 ?_)
      (first | refine s_ 12 ?_ | refine t_ 12 ?_ | refine ga_free_g 12 rfl (s_move rfl) rfl rfl rfl rfl rfl rfl z_7 ?_)
      (first | refine s_ 13 ?_ | refine t_ 13 ?_ | refine ga_free_g 13 rfl (s_nilCheck rfl) rfl rfl rfl rfl rfl rfl z_7 ?_)
      (first | refine s_ 14 ?_ | refine t_ 14 ?_ | refine ga_free_g 14 rfl z_1 rfl rfl rfl rfl rfl rfl z_7 ?_)
      (first | refine s_ 15 ?_ | refine t_ 15 ?_ | refine ga_free_g 15 rfl z_1 rfl rfl rfl rfl rfl rfl z_7 ?_)
      (first | refine s_ 16 ?_ | refine t_ 16 ?_ | refine ga_free_g 16 rfl z_1 rfl rfl rfl rfl rfl rfl z_7 ?_)
      (first | refine s_ 17 ?_ | refine t_ 17 ?_ | refine ga_read_kg 17 rfl z_5 (s_load_blk rfl .del a19_5) (by (first | exact fun _ h => h | (repeat first | exact sub_nil | refine sub_cons z_4 ?_))) rfl rfl rfl rfl rfl rfl z_7 ?_ | refine ga_readF_g 17 rfl (s_load1 rfl (fun w hw => peekB hw (by assumption) a19_5)) (by (first | exact fun _ h => h | (repeat first | exact sub_nil | refine sub_cons z_4 ?_))) rfl rfl rfl rfl rfl rfl z_7 ?_)
      (first | refine s_ 18 ?_ | refine t_ 18 ?_ | refine ga_free_g 18 rfl ((s_gtr rfl rfl).eq (congrArg Value.bool hq1.symm)) rfl rfl rfl rfl rfl rfl z_7 ?_)
      refine w_ 19 rfl z_8 ?_
      refine w_ 20 rfl (s_move rfl) ?_
      (first | refine s_ 21 ?_ | refine t_ 21 ?_ | refine ga_free_g 21 rfl z_1 rfl rfl rfl rfl rfl rfl z_7 ?_)
      (first | refine s_ 22 ?_ | refine t_ 22 ?_ | refine ga_read_kg 22 rfl z_5 (s_load_blk rfl .del a13_4) (by (first | exact fun _ h => h | (repeat first | exact sub_nil | refine sub_cons z_4 ?_))) rfl rfl rfl rfl rfl rfl z_7 ?_ | refine ga_readF_g 22 rfl (s_load1 rfl (fun w hw => peekB hw (by assumption) a13_4)) (by (first | exact fun _ h => h | (repeat first | exact sub_nil | refine sub_cons z_4 ?_))) rfl rfl rfl rfl rfl rfl z_7 ?_)
      (first | refine s_ 23 ?_ | refine t_ 23 ?_ | refine ga_free_g 23 rfl (s_move rfl) rfl rfl rfl rfl rfl rfl z_7 ?_)
      (first | refine s_ 24 ?_ | refine t_ 24 ?_ | refine ga_free_g 24 rfl (s_nilCheck rfl) rfl rfl rfl rfl rfl rfl z_7 ?_)
      (first | refine s_ 25 ?_ | refine t_ 25 ?_ | refine ga_free_g 25 rfl z_1 rfl rfl rfl rfl rfl rfl z_7 ?_)
      (first | refine s_ 26 ?_ | refine t_ 26 ?_ | refine ga_free_g 26 rfl z_1 rfl rfl rfl rfl rfl rfl z_7 ?_)
      (first | refine s_ 27 ?_ | refine t_ 27 ?_ | refine ga_free_g 27 rfl z_1 rfl rfl rfl rfl rfl rfl z_7 ?_)
      (first | refine s_ 28 ?_ | refine t_ 28 ?_ | refine ga_read_kg 28 rfl z_5 (s_load_blk rfl .del a19_5) (by (first | exact fun _ h => h | (repeat first | exact sub_nil | refine sub_cons z_4 ?_))) rfl rfl rfl rfl rfl rfl z_7 ?_ | refine ga_readF_g 28 rfl (s_load1 rfl (fun w hw => peekB hw (by assumption) a19_5)) (by (first | exact fun _ h => h | (repeat first | exact sub_nil | refine sub_cons z_4 ?_))) rfl rfl rfl rfl rfl rfl z_7 ?_)
      (first | refine s_ 29 ?_ | refine t_ 29 ?_ | refine ga_free_g 29 rfl ((s_neq rfl rfl).eq (congrArg (fun b => Value.bool (!b)) hq2.symm)) rfl rfl rfl rfl rfl rfl z_7 ?_)
      refine w_ 30 rfl z_8 ?_
      refine w_ 31 rfl (s_move rfl) ?_
      (first | refine s_ 32 ?_ | refine t_ 32 ?_ | refine ga_free_g 32 rfl z_1 rfl rfl rfl rfl rfl rfl z_7 ?_)
      (first | refine s_ 33 ?_ | refine t_ 33 ?_ | refine ga_read_kg 33 rfl z_5 (s_load_blk rfl .del a13_10) (by (first | exact fun _ h => h | (repeat first | exact sub_nil | refine sub_cons z_4 ?_))) rfl rfl rfl rfl rfl rfl z_7 ?_ | refine ga_readF_g 33 rfl (s_load1 rfl (fun w hw => peekB hw (by assumption) a13_10)) (by (first | exact fun _ h => h | (repeat first | exact sub_nil | refine sub_cons z_4 ?_))) rfl rfl rfl rfl rfl rfl z_7 ?_)
      (first | refine s_ 34 ?_ | refine t_ 34 ?_ | refine ga_free_g 34 rfl ((s_lss rfl rfl).eq (congrArg Value.bool hq3.symm)) rfl rfl rfl rfl rfl rfl z_7 ?_)
      refine w_ 35 rfl z_8 ?_
      refine w_ 36 rfl (s_move rfl) ?_
      (first | refine s_ 37 ?_ | refine t_ 37 ?_ | refine ga_free_g 37 rfl z_1 rfl rfl rfl rfl rfl rfl z_7 ?_)
      (first | refine s_ 38 ?_ | refine t_ 38 ?_ | refine ga_read_kg 38 rfl z_5 (s_load_blk rfl .del a13_10) (by (first | exact fun _ h => h | (repeat first | exact sub_nil | refine sub_cons z_4 ?_))) rfl rfl rfl rfl rfl rfl z_7 ?_ | refine ga_readF_g 38 rfl (s_load1 rfl (fun w hw => peekB hw (by assumption) a13_10)) (by (first | exact fun _ h => h | (repeat first | exact sub_nil | refine sub_cons z_4 ?_))) rfl rfl rfl rfl rfl rfl z_7 ?_)
      (first | refine s_ 39 ?_ | refine t_ 39 ?_ | refine ga_free_g 39 rfl (s_move rfl) rfl rfl rfl rfl rfl rfl z_7 ?_)
      (first | refine s_ 40 ?_ | refine t_ 40 ?_ | refine ga_free_g 40 rfl (s_nilCheck rfl) rfl rfl rfl rfl rfl rfl z_7 ?_)
      (first | refine s_ 41 ?_ | refine t_ 41 ?_ | refine ga_free_g 41 rfl z_1 rfl rfl rfl rfl rfl rfl z_7 ?_)
      (first | refine s_ 42 ?_ | refine t_ 42 ?_ | refine ga_free_g 42 rfl z_1 rfl rfl rfl rfl rfl rfl z_7 ?_)
      (first | refine s_ 43 ?_ | refine t_ 43 ?_ | refine ga_read_kg 43 rfl z_5 (s_load_blk rfl .del a19_9) (by (first | exact fun _ h => h | (repeat first | exact sub_nil | refine sub_cons z_4 ?_))) rfl rfl rfl rfl rfl rfl z_7 ?_ | refine ga_readF_g 43 rfl (s_load1 rfl (fun w hw => peekB hw (by assumption) a19_9)) (by (first | exact fun _ h => h | (repeat first | exact sub_nil | refine sub_cons z_4 ?_))) rfl rfl rfl rfl rfl rfl z_7 ?_)
      (first | refine s_ 44 ?_ | refine t_ 44 ?_ | refine ga_free_g 44 rfl (s_len_str rfl) rfl rfl rfl rfl rfl rfl z_7 ?_)
      (first | refine s_ 45 ?_ | refine t_ 45 ?_ | refine ga_free_g 45 rfl ((s_gtr rfl rfl).eq (congrArg Value.bool hq4.symm)) rfl rfl rfl rfl rfl rfl z_7 ?_)
      refine w_ 46 rfl z_8 ?_
      refine ga_done z_7 ?_
      repeat refine y_ ?_
      refine g_ret ?_
      exact at_end0 rfl (mdH X ⟨p, a, outs, oa0, oc0⟩ ++ []) (MdP.same X ⟨p, a, outs, oa0, oc0⟩ ⟨p, a, outs, oa0, oc0⟩ _ rfl) (fun w hw => hw.drop)
  have hbad : gotBad p m.p = false := by rw [hb]; rfl
  have e1 : gotP p m.p = setPr p i { q with off := m.p.off } := by rw [gotP, if_neg (by rw [hbad]; decide), gotPr, ← hi, ← hq]
  have e2 : gotMs p m.p = [updateP (setPr p i { q with off := m.p.off }) { q with off := m.p.off }] := by rw [gotMs, if_neg (by rw [hbad]; decide), e1, gotPr, ← hq]
  have hqf := hf.prs q (by rw [hqg]; exact getD_memP hil)
  have h3 := of_decide_eq_false hq3.symm
  have h4 := of_decide_eq_false hq4.symm
  have hf1 := pf_setPr hf i { q with off := m.p.off } ⟨hqf.1, hqf.2.1, hqf.2.2.1, hqf.2.2.2.1, by show 0 ≤ m.p.off; omega, by show m.p.off ≤ p.img.length; omega⟩
  have hsl : (p.peers.set i { q with off := m.p.off }).length = p.peers.length := List.length_set
  simp only [e1, e2]
  repeat refine y_ ?_
  refine g_draw ([7, 11, 17, 22, 28, 33, 38, 43], [0, 1, 3, 7, 15, 31, 63, 127, 7, 511, 1023, 2047, 7, 4103, 12295, 28679, 61447, 126983, 262143, 524287, 1048575, 2097151, 4194303, 2097151, 10485759, 27262975, 60817407, 127926271, 262143999, 536870911, 1073741823, 2147483647, 4294967295, 8589934591, 17179869183, 34359738367, 68719476735, 137438953471, 274877906943, 137438953471, 687194767359, 1786706395135, 3985729650687, 8383776161791, 17179869183999, 35184372088831, 70368744177663], []) [.blk X (mdO ⟨p, a, outs, oa0, oc0⟩), blkMsg g3 m, OwnP a.pa p.peers a.pc] 47 rfl ?_
  refine w_ 0 rfl (s_move rfl) ?_
  refine w_ 1 rfl ((s_lss rfl rfl).eq (v' := .bool false) (congrArg Value.bool (decide_eq_false (by omega)))) ?_
  refine w_ 2 rfl (s_move rfl) ?_
  (first | refine s_ 3 ?_ | refine t_ 3 ?_ | refine ga_free_g 3 rfl (s_move rfl) rfl rfl rfl rfl rfl rfl z_7 ?_)
  (first | refine s_ 4 ?_ | refine t_ 4 ?_ | refine ga_free_g 4 rfl (s_nilCheck rfl) rfl rfl rfl rfl rfl rfl z_7 ?_)
  (first | refine s_ 5 ?_ | refine t_ 5 ?_ | refine ga_free_g 5 rfl z_1 rfl rfl rfl rfl rfl rfl z_7 ?_)
  (first | refine s_ 6 ?_ | refine t_ 6 ?_ | refine ga_free_g 6 rfl z_1 rfl rfl rfl rfl rfl rfl z_7 ?_)
  (first | refine s_ 7 ?_ | refine t_ 7 ?_ | refine ga_read_kg 7 rfl z_5 (s_load_blk rfl .del a19_14) (by (first | exact fun _ h => h | (repeat first | exact sub_nil | refine sub_cons z_4 ?_))) rfl rfl rfl rfl rfl rfl z_7 ?_ | refine ga_readF_g 7 rfl (s_load1 rfl (fun w hw => peekB hw (by assumption) a19_14)) (by (first | exact fun _ h => h | (repeat first | exact sub_nil | refine sub_cons z_4 ?_))) rfl rfl rfl rfl rfl rfl z_7 ?_)
  (first | refine s_ 8 ?_ | refine t_ 8 ?_ | refine ga_free_g 8 rfl (s_move rfl) rfl rfl rfl rfl rfl rfl z_7 ?_)
  (first | refine s_ 9 ?_ | refine t_ 9 ?_ | refine ga_free_g 9 rfl ((s_indexAddr rfl hsome rfl (by show 0 ≤ (i : Int) ∧ (i : Int) < (p.peers.length : Nat); omega)).eq (v' := .pointer (addO a.pa (4 * i))) (by congr 2; omega)) rfl rfl rfl rfl rfl rfl z_7 ?_)
  (first | refine s_ 10 ?_ | refine t_ 10 ?_ | refine ga_free_g 10 rfl z_1 rfl rfl rfl rfl rfl rfl z_7 ?_)
  (first | refine s_ 11 ?_ | refine t_ 11 ?_ | refine ga_read_kg 11 rfl z_5 (s_load1 (v := .int .u64 q.next) rfl (fun w hw => rdQ1_own (l := p.peers) hw .del (i := i) (j := 1) (by omega) hil (by rw [← hqg]; rfl))) (by (first | exact fun _ h => h | (repeat first | exact sub_nil | refine sub_cons z_4 ?_))) rfl rfl rfl rfl rfl rfl z_7 ?_)
  (first | refine s_ 12 ?_ | refine t_ 12 ?_ | refine ga_free_g 12 rfl (s_move rfl) rfl rfl rfl rfl rfl rfl z_7 ?_)
  (first | refine s_ 13 ?_ | refine t_ 13 ?_ | refine ga_free_g 13 rfl (s_nilCheck rfl) rfl rfl rfl rfl rfl rfl z_7 ?_)
  (first | refine s_ 14 ?_ | refine t_ 14 ?_ | refine ga_free_g 14 rfl z_1 rfl rfl rfl rfl rfl rfl z_7 ?_)
  (first | refine s_ 15 ?_ | refine t_ 15 ?_ | refine ga_free_g 15 rfl z_1 rfl rfl rfl rfl rfl rfl z_7 ?_)
  (first | refine s_ 16 ?_ | refine t_ 16 ?_ | refine ga_free_g 16 rfl z_1 rfl rfl rfl rfl rfl rfl z_7 ?_)
  (first | refine s_ 17 ?_ | refine t_ 17 ?_ | refine ga_read_kg 17 rfl z_5 (s_load_blk rfl .del a19_5) (by (first | exact fun _ h => h | (repeat first | exact sub_nil | refine sub_cons z_4 ?_))) rfl rfl rfl rfl rfl rfl z_7 ?_ | refine ga_readF_g 17 rfl (s_load1 rfl (fun w hw => peekB hw (by assumption) a19_5)) (by (first | exact fun _ h => h | (repeat first | exact sub_nil | refine sub_cons z_4 ?_))) rfl rfl rfl rfl rfl rfl z_7 ?_)
  (first | refine s_ 18 ?_ | refine t_ 18 ?_ | refine ga_free_g 18 rfl ((s_gtr rfl rfl).eq (congrArg Value.bool hq1.symm)) rfl rfl rfl rfl rfl rfl z_7 ?_)
  refine w_ 19 rfl z_8 ?_
  refine w_ 20 rfl (s_move rfl) ?_
  (first | refine s_ 21 ?_ | refine t_ 21 ?_ | refine ga_free_g 21 rfl z_1 rfl rfl rfl rfl rfl rfl z_7 ?_)
  (first | refine s_ 22 ?_ | refine t_ 22 ?_ | refine ga_read_kg 22 rfl z_5 (s_load_blk rfl .del a13_4) (by (first | exact fun _ h => h | (repeat first | exact sub_nil | refine sub_cons z_4 ?_))) rfl rfl rfl rfl rfl rfl z_7 ?_ | refine ga_readF_g 22 rfl (s_load1 rfl (fun w hw => peekB hw (by assumption) a13_4)) (by (first | exact fun _ h => h | (repeat first | exact sub_nil | refine sub_cons z_4 ?_))) rfl rfl rfl rfl rfl rfl z_7 ?_)
  (first | refine s_ 23 ?_ | refine t_ 23 ?_ | refine ga_free_g 23 rfl (s_move rfl) rfl rfl rfl rfl rfl rfl z_7 ?_)
  (first | refine s_ 24 ?_ | refine t_ 24 ?_ | refine ga_free_g 24 rfl (s_nilCheck rfl) rfl rfl rfl rfl rfl rfl z_7 ?_)
  (first | refine s_ 25 ?_ | refine t_ 25 ?_ | refine ga_free_g 25 rfl z_1 rfl rfl rfl rfl rfl rfl z_7 ?_)
  (first | refine s_ 26 ?_ | refine t_ 26 ?_ | refine ga_free_g 26 rfl z_1 rfl rfl rfl rfl rfl rfl z_7 ?_)
  (first | refine s_ 27 ?_ | refine t_ 27 ?_ | refine ga_free_g 27 rfl z_1 rfl rfl rfl rfl rfl rfl z_7 ?_)
  (first | refine s_ 28 ?_ | refine t_ 28 ?_ | refine ga_read_kg 28 rfl z_5 (s_load_blk rfl .del a19_5) (by (first | exact fun _ h => h | (repeat first | exact sub_nil | refine sub_cons z_4 ?_))) rfl rfl rfl rfl rfl rfl z_7 ?_ | refine ga_readF_g 28 rfl (s_load1 rfl (fun w hw => peekB hw (by assumption) a19_5)) (by (first | exact fun _ h => h | (repeat first | exact sub_nil | refine sub_cons z_4 ?_))) rfl rfl rfl rfl rfl rfl z_7 ?_)
  (first | refine s_ 29 ?_ | refine t_ 29 ?_ | refine ga_free_g 29 rfl ((s_neq rfl rfl).eq (congrArg (fun b => Value.bool (!b)) hq2.symm)) rfl rfl rfl rfl rfl rfl z_7 ?_)
  refine w_ 30 rfl z_8 ?_
  refine w_ 31 rfl (s_move rfl) ?_
  (first | refine s_ 32 ?_ | refine t_ 32 ?_ | refine ga_free_g 32 rfl z_1 rfl rfl rfl rfl rfl rfl z_7 ?_)
  (first | refine s_ 33 ?_ | refine t_ 33 ?_ | refine ga_read_kg 33 rfl z_5 (s_load_blk rfl .del a13_10) (by (first | exact fun _ h => h | (repeat first | exact sub_nil | refine sub_cons z_4 ?_))) rfl rfl rfl rfl rfl rfl z_7 ?_ | refine ga_readF_g 33 rfl (s_load1 rfl (fun w hw => peekB hw (by assumption) a13_10)) (by (first | exact fun _ h => h | (repeat first | exact sub_nil | refine sub_cons z_4 ?_))) rfl rfl rfl rfl rfl rfl z_7 ?_)
  (first | refine s_ 34 ?_ | refine t_ 34 ?_ | refine ga_free_g 34 rfl ((s_lss rfl rfl).eq (congrArg Value.bool hq3.symm)) rfl rfl rfl rfl rfl rfl z_7 ?_)
  refine w_ 35 rfl z_8 ?_
  refine w_ 36 rfl (s_move rfl) ?_
  (first | refine s_ 37 ?_ | refine t_ 37 ?_ | refine ga_free_g 37 rfl z_1 rfl rfl rfl rfl rfl rfl z_7 ?_)
  (first | refine s_ 38 ?_ | refine t_ 38 ?_ | refine ga_read_kg 38 rfl z_5 (s_load_blk rfl .del a13_10) (by (first | exact fun _ h => h | (repeat first | exact sub_nil | refine sub_cons z_4 ?_))) rfl rfl rfl rfl rfl rfl z_7 ?_ | refine ga_readF_g 38 rfl (s_load1 rfl (fun w hw => peekB hw (by assumption) a13_10)) (by (first | exact fun _ h => h | (repeat first | exact sub_nil | refine sub_cons z_4 ?_))) rfl rfl rfl rfl rfl rfl z_7 ?_)
  (first | refine s_ 39 ?_ | refine t_ 39 ?_ | refine ga_free_g 39 rfl (s_move rfl) rfl rfl rfl rfl rfl rfl z_7 ?_)
  (first | refine s_ 40 ?_ | refine t_ 40 ?_ | refine ga_free_g 40 rfl (s_nilCheck rfl) rfl rfl rfl rfl rfl rfl z_7 ?_)
  (first | refine s_ 41 ?_ | refine t_ 41 ?_ | refine ga_free_g 41 rfl z_1 rfl rfl rfl rfl rfl rfl z_7 ?_)
  (first | refine s_ 42 ?_ | refine t_ 42 ?_ | refine ga_free_g 42 rfl z_1 rfl rfl rfl rfl rfl rfl z_7 ?_)
  (first | refine s_ 43 ?_ | refine t_ 43 ?_ | refine ga_read_kg 43 rfl z_5 (s_load_blk rfl .del a19_9) (by (first | exact fun _ h => h | (repeat first | exact sub_nil | refine sub_cons z_4 ?_))) rfl rfl rfl rfl rfl rfl z_7 ?_ | refine ga_readF_g 43 rfl (s_load1 rfl (fun w hw => peekB hw (by assumption) a19_9)) (by (first | exact fun _ h => h | (repeat first | exact sub_nil | refine sub_cons z_4 ?_))) rfl rfl rfl rfl rfl rfl z_7 ?_)
  (first | refine s_ 44 ?_ | refine t_ 44 ?_ | refine ga_free_g 44 rfl (s_len_str rfl) rfl rfl rfl rfl rfl rfl z_7 ?_)
  (first | refine s_ 45 ?_ | refine t_ 45 ?_ | refine ga_free_g 45 rfl ((s_gtr rfl rfl).eq (congrArg Value.bool hq4.symm)) rfl rfl rfl rfl rfl rfl z_7 ?_)
  refine w_ 46 rfl z_8 ?_
  refine ga_done z_7 ?_
  repeat refine y_ ?_
  refine g_draw ([4, 7], [0, 1, 3, 7, 15, 0, 0, 64, 255, 511, 1023], [10]) [.blk X (mdO ⟨p, a, outs, oa0, oc0⟩), blkMsg g3 m] 11 rfl ?_
  refine w_ 0 rfl (s_move rfl) ?_
  refine w_ 1 rfl (s_nilCheck rfl) ?_
  refine w_ 2 rfl z_1 ?_
  refine w_ 3 rfl z_1 ?_
  (first | refine ga_read_k 4 rfl z_5 (s_load_blk rfl .del a19_14) (by (first | exact fun _ h => h | (repeat first | exact sub_nil | refine sub_cons z_4 ?_))) rfl rfl rfl z_7 ?_ | refine ga_readF 4 rfl (s_load1 rfl (fun w hw => peekB hw (by assumption) a19_14)) (by (first | exact fun _ h => h | (repeat first | exact sub_nil | refine sub_cons z_4 ?_))) rfl rfl rfl z_7 ?_)
  refine w_ 5 rfl (s_move rfl) ?_
  refine w_ 6 rfl z_1 ?_
  (first | refine ga_read_k 7 rfl z_5 (s_load_blk rfl .del a13_10) (by (first | exact fun _ h => h | (repeat first | exact sub_nil | refine sub_cons z_4 ?_))) rfl rfl rfl z_7 ?_ | refine ga_readF 7 rfl (s_load1 rfl (fun w hw => peekB hw (by assumption) a13_10)) (by (first | exact fun _ h => h | (repeat first | exact sub_nil | refine sub_cons z_4 ?_))) rfl rfl rfl z_7 ?_)
  refine w_ 8 rfl ((s_indexAddr rfl hsome rfl (by show 0 ≤ (i : Int) ∧ (i : Int) < (p.peers.length : Nat); omega)).eq (v' := .pointer (addO a.pa (4 * i))) (by congr 2; omega)) ?_
  refine w_ 9 rfl z_1 ?_
  refine ga_one 10 rfl z_7 ?_
  refine gl_store_own (q := 4 * i + 3) rfl rfl z_6 z_10 (by decide) z_2 (by show 4 * i + 3 + 1 ≤ (prV p.peers).length; rw [prV_len]; omega) ?_
  refine gl_nil ?_
  refine at_ga (.inl z_7) ?_
  refine ga_done z_7 ?_
  repeat refine y_ ?_
  have hpx := putx_pr (l := p.peers) (k := i) (y := { q with off := m.p.off }) (j := 3) (vs := [.int .i64 m.p.off]) hil (Nat.le_refl 4) (by rw [← hqg]; rfl)
  refine g_pull (H' := blkMsg g3 m :: mdH X ⟨setPr p i { q with off := m.p.off }, a, outs, oa0, oc0⟩) (fun w hw => by
    simp only [mdH, mdO, OwnP, setPr, hsl, ← hpx]
    exact hw.perm (perm_up z_3 (perm_up z_3 (perm_up z_3 (perm_up z_3 (perm_up z_3 (perm_up z_3 (.refl _)))))))) ?_
  repeat refine y_ ?_
  refine g_region ?_
  refine m_ ?_
  refine m_ ?_
  refine f_ (s_nilCheck rfl) ?_
  refine f_ z_1 ?_
  refine f_ z_1 ?_
  refine r_ (by first | exact s_load_blk rfl z_3 a19_14 | exact s_load1 rfl (fun w hw => peekB hw (by assumption) a19_14)) ?_
  refine m_ ?_
  refine f_ ((s_indexAddr (len := (p.peers.set i { q with off := m.p.off }).length) rfl hsome rfl (by rw [hsl]; omega)).eq (v' := .pointer (addO a.pa (4 * i))) (by congr 2; omega)) ?_
  refine r_ (s_loadN (cs := prC { q with off := m.p.off }) rfl (fun w hw => by have := rdQ_own (l := p.peers.set i { q with off := m.p.off }) (a := a.pa) (q := 4 * i) hw z_3 (i := i) rfl (by rw [hsl]; exact hil); rwa [show (p.peers.set i { q with off := m.p.off }).getD i P0 = { q with off := m.p.off } by rw [List.getD_eq_getElem?_getD, List.getElem?_set_self hil]; rfl] at this) rfl) ?_
  refine gl_call [blkMsg g3 m] rfl (update_ct X ⟨setPr p i { q with off := m.p.off }, a, outs, oa0, oc0⟩ { q with off := m.p.off } hf1 ⟨⟨hqf.1, hqf.2.1⟩, ⟨by show 0 ≤ m.p.off; omega, by show m.p.off ≤ p.img.length; omega⟩⟩ (by simp only; omega)) (fun w hw => hw.perm (perm_up z_3 (perm_up z_3 (perm_up z_3 (perm_up z_3 (perm_up z_3 (perm_up z_3 (.refl _)))))))) (fun _ _ _ => trivial) rfl ?_; rintro v A ⟨rfl, ms, oa, oc, Z, e4, rfl, f4⟩
  refine gl_nil ?_
  repeat refine y_ ?_
  exact at_end0 rfl (mdH X ⟨setPr p i { q with off := m.p.off }, a, outs ++ ms, oa, oc⟩ ++ Z) ⟨rfl, ⟨setPr p i { q with off := m.p.off }, a, outs ++ ms, oa, oc⟩, Z, rfl, by rw [List.map_append, e4], rfl, fun h f hs m2 hm2 => by
    rcases List.mem_append.1 hm2 with hm2 | hm2
    · exact f m2 hm2
    · exact f4 h hs m2 hm2⟩ (fun w hw => Hp.left hw)
end Go.Proofs.YtodcghipfolejaaGreat.Rf
/- A mind's calls: ack. -/
namespace Go.Proofs.YtodcghipfolejaaGreat.Rf
open Go Go.Sl
set_option linter.unusedVariables false
set_option linter.unusedSimpArgs false
-- ARR

theorem commit1_log (p : RP) : (commit1 p).base = p.base ∧ (commit1 p).l = p.l ∧ (commit1 p).peers = p.peers ∧ (commit1 p).img = p.img := by
  unfold commit1; split <;> exact ⟨rfl, rfl, rfl, rfl⟩
theorem commitP_log (p : RP) : (commitP p).base = p.base ∧ (commitP p).l = p.l ∧ (commitP p).img = p.img ∧ ((commitP p).role = 2 → (commitP p).peers = p.peers) := by
  obtain ⟨h1, h2, h3, h4⟩ := commit1_log p
  unfold commitP
  split
  · exact ⟨h1, h2, h4, fun h => by cases h⟩
  · exact ⟨h1, h2, h4, fun _ => h3⟩
theorem commitP_last (p : RP) : lastI (commitP p).g = lastI p.g := by
  obtain ⟨h1, h2, _⟩ := commitP_log p
  show (commitP p).base + ((commitP p).l.length : Int) = p.base + (p.l.length : Int)
  rw [h1, h2]
theorem set_getD {l : List Pr} {i : Nat} {q : Pr} (h : i < l.length) : (l.set i q).getD i P0 = q := by rw [List.getD_eq_getElem?_getD, List.getElem?_set_self h]; rfl
theorem rdQs_own {F : Snap} {w : World} {H H' : List As} {a : Option Addr} {l : List Pr} {n c q i : Nat} {te : TypeId} {y : Pr} (hw : Hp F w H) (u : Upd H (.own (.slice a n c) te 4 (prV (l.set i y))) [] H') (h : q = 4 * i) (hi : i < l.length) : PeekC (hp w) (addO a q) (prC y) := by
  have := rdQ_own (l := l.set i y) hw u h (by rw [List.length_set]; exact hi)
  rwa [set_getD hi] at this
theorem rdQs1_own {F : Snap} {w : World} {H H' : List As} {a : Option Addr} {l : List Pr} {n c q i j : Nat} {te : TypeId} {y : Pr} {v : Value} (hw : Hp F w H) (u : Upd H (.own (.slice a n c) te 4 (prV (l.set i y))) [] H') (h : q = 4 * i + j) (hi : i < l.length) (hv : (prC y)[j]? = some v) : PeekC (hp w) (addO a q) [v] :=
  rdQ1_own (l := l.set i y) hw u h (by rw [List.length_set]; exact hi) (by rw [set_getD hi]; exact hv)
theorem putx_fwd {l : List Pr} {i : Nat} {q : Pr} {n m o : Int} (hi : i < l.length) (hq : q = l.getD i P0) : putx (putx (putx (prV l) (4 * i + 2) [.int .u64 m]) (4 * i + 1) [.int .u64 n]) (4 * i + 3) [.int .i64 o] = prV (l.set i ⟨q.node, n, m, o⟩) := by
  rw [putx_pr (l := l) (k := i) (y := { q with mtc := m }) hi (Nat.le_succ 3) (by rw [← hq]; rfl)]
  rw [putx_pr (l := l.set i { q with mtc := m }) (k := i) (y := { q with mtc := m, next := n }) (by rw [List.length_set]; exact hi) (by show 2 ≤ 4; decide) (by rw [set_getD hi]; rfl)]
  rw [putx_pr (l := (l.set i { q with mtc := m }).set i { q with mtc := m, next := n }) (k := i) (y := ⟨q.node, n, m, o⟩) (by rw [List.length_set, List.length_set]; exact hi) (Nat.le_refl 4) (by rw [set_getD (by rw [List.length_set]; exact hi)]; rfl)]
  rw [List.set_set, List.set_set]
set_option maxRecDepth 8000 in
set_option maxHeartbeats 8000000 in
theorem ack_ct (X : Nat) (d : MD) (m : MM) (hf : PFit d.p) (hm : MFit m.p) (hsm : ∀ q ∈ d.p.peers, q.mtc ≤ 1000000000000 ∧ q.next ≤ 1000000000000) (ho : d.outs.length ≤ 100000) : Ct Tryz.prog 60 [Ptr X, mmA m] (fun _ => True) (mdH X d) (MdP X d (ackP d.p m.p) (ackMs d.p m.p) (.tuple #[])) := by
  obtain ⟨p, a, outs, oa0, oc0⟩ := d
  simp only at hf ho hsm
  have hpl := hf.peers
  have hix := hm.index
  have hlast := hf.last
  refine ct_enter 105 Tryz.func60 rfl rfl rfl ?_
  intro F _
  refine g_ownN (a := a.pa) z_3 (fun _ _ hpa => ?_)
  refine g_ownN (a := a.la) z_3 (fun _ hcap _ => ?_)
  repeat refine y_ ?_
  refine g_region ?_
  refine gl_boxA rfl rfl ?_; intro g3
  refine gl_nil ?_
  repeat refine y_ ?_
  refine g_region ?_
  refine m_ ?_
  refine r_ ((s_load_blkW rfl z_3 z_10).eq (v' := mmA m) rfl) ?_
  refine gl_callp rfl (peer_ct X ⟨p, a, outs, oa0, oc0⟩ m hf) (fun h hh ⟨bs, hb⟩ => ⟨Sat.blk hb z_3, Sat.rd (a := a.pa) hb z_3⟩) rfl ?_
  refine f_ (s_assign rfl) ?_
  refine gl_nil ?_
  repeat refine y_ ?_
  cases hip : isPeer p m.p
  · have e1 : ackP p m.p = p := by rw [ackP, if_pos hip]
    have e2 : ackMs p m.p = [] := by rw [ackMs, if_pos hip]
    rw [peerI_no hip]
    simp only [e1, e2]
    repeat refine y_ ?_
    refine g_region ?_
    refine m_ ?_
    refine f_ ((s_lss rfl rfl).eq (v' := .bool true) rfl) ?_
    refine gl_nil ?_
    repeat refine y_ ?_
    refine g_ret ?_
    exact at_end0 rfl (mdH X ⟨p, a, outs, oa0, oc0⟩ ++ []) (MdP.same X ⟨p, a, outs, oa0, oc0⟩ ⟨p, a, outs, oa0, oc0⟩ _ rfl) (fun w hw => hw.drop)
  rw [peerI_yes hip]
  have hil := isPeer_lt hip
  obtain ⟨i, hi⟩ : ∃ i, i = peerAt p m.p := ⟨_, rfl⟩
  rw [← hi] at hil
  rw [← hi]
  have hsome : ∃ ad, a.pa = some ad := hpa (by show 0 < p.peers.length; omega)
  obtain ⟨q, hq⟩ : ∃ q, q = peerG p m.p := ⟨_, rfl⟩
  have hqg : q = p.peers.getD i P0 := by rw [hq, peerG, hi]
  have hqm : q ∈ p.peers := by rw [hqg]; exact getD_memP hil
  have hqf := hf.prs q hqm
  have hqs := hsm q hqm
  repeat refine y_ ?_
  refine g_region ?_
  refine m_ ?_
  refine f_ ((s_lss rfl rfl).eq (v' := .bool false) (congrArg Value.bool (decide_eq_false (by omega)))) ?_
  refine gl_nil ?_
  repeat refine y_ ?_
  refine g_region ?_
  refine m_ ?_
  refine f_ (s_nilCheck rfl) ?_
  refine f_ z_1 ?_
  refine f_ z_1 ?_
  refine r_ (by first | exact s_load_blk rfl z_3 a19_14 | exact s_load1 rfl (fun w hw => peekB hw (by assumption) a19_14)) ?_
  refine m_ ?_
  refine f_ ((s_indexAddr rfl hsome rfl (by show 0 ≤ (i : Int) ∧ (i : Int) < (p.peers.length : Nat); omega)).eq (v' := .pointer (addO a.pa (4 * i))) (by congr 2; omega)) ?_
  refine f_ (s_assign rfl) ?_
  refine gl_nil ?_
  repeat refine y_ ?_
  obtain ⟨ok, hoke⟩ : ∃ ok, ok = m.p.ok := ⟨_, rfl⟩
  repeat refine y_ ?_
  refine g_region ?_
  refine f_ z_1 ?_
  refine r_ (by first | exact s_load_blk rfl z_3 a13_7 | exact s_load1 rfl (fun w hw => peekB hw (by assumption) a13_7)) ?_
  refine f_ ((s_not rfl).eq (v' := .bool (!ok)) (by rw [hoke])) ?_
  refine gl_nil ?_
  repeat refine y_ ?_
  have hsl : ∀ y, (p.peers.set i y).length = p.peers.length := fun y => List.length_set
  cases ok
  · have hok : m.p.ok = false := hoke.symm
    obtain ⟨qb, hqb⟩ : ∃ qb, qb = backPr q m.p.index := ⟨_, rfl⟩
    have e1 : ackP p m.p = setPr p i qb := by rw [ackP, if_neg (by rw [hip]; decide), if_pos hok, ← hi, ← hq, hqb]
    have e2 : ackMs p m.p = [updateP (setPr p i qb) qb] := by rw [ackMs, if_neg (by rw [hip]; decide), if_pos hok, ← hi, ← hq, hqb]
    have hqbf : 1 ≤ qb.next ∧ qb.next ≤ 4611686018427387904 ∧ 0 ≤ qb.mtc ∧ qb.mtc ≤ 4611686018427387904 ∧ 0 ≤ qb.off ∧ qb.off ≤ p.img.length := by
      rw [hqb]
      show 1 ≤ max q.mtc (min (q.next - 1) m.p.index) + 1 ∧ max q.mtc (min (q.next - 1) m.p.index) + 1 ≤ _ ∧ 0 ≤ q.mtc ∧ q.mtc ≤ _ ∧ 0 ≤ q.off ∧ q.off ≤ p.img.length
      omega
    have hf1 := pf_setPr hf i qb hqbf
    simp only [e1, e2]
    repeat refine y_ ?_
    refine g_draw ([4, 8, 11], [0, 0, 2, 6, 14, 0, 32, 96, 224, 480, 0, 1024, 4064, 8190, 16382, 32767, 65535, 131071], [17]) [blkMsg g3 m, OwnP a.pa p.peers a.pc] 18 rfl ?_
    refine w_ 0 rfl (s_move rfl) ?_
    refine w_ 1 rfl (s_move rfl) ?_
    refine w_ 2 rfl (s_nilCheck_o rfl hsome) ?_
    refine w_ 3 rfl z_1 ?_
    refine ga_read_k 4 rfl z_5 (s_load1 (v := .int .u64 q.mtc) rfl (fun w hw => rdQ1_own (l := p.peers) hw .del (i := i) (j := 2) rfl hil (by rw [← hqg]; rfl))) (by (first | exact fun _ h => h | (repeat first | exact sub_nil | refine sub_cons z_4 ?_))) rfl rfl rfl z_7 ?_
    refine w_ 5 rfl (s_move rfl) ?_
    refine w_ 6 rfl (s_nilCheck_o rfl hsome) ?_
    refine w_ 7 rfl z_1 ?_
    refine ga_read_k 8 rfl z_5 (s_load1 (v := .int .u64 q.next) rfl (fun w hw => rdQ1_own (l := p.peers) hw .del (i := i) (j := 1) rfl hil (by rw [← hqg]; rfl))) (by (first | exact fun _ h => h | (repeat first | exact sub_nil | refine sub_cons z_4 ?_))) rfl rfl rfl z_7 ?_
    refine w_ 9 rfl (s_sub_u64 rfl rfl (by omega)) ?_
    refine w_ 10 rfl z_1 ?_
    (first | refine ga_read_k 11 rfl z_5 (s_load_blk rfl .del a13_4) (by (first | exact fun _ h => h | (repeat first | exact sub_nil | refine sub_cons z_4 ?_))) rfl rfl rfl z_7 ?_ | refine ga_readF 11 rfl (s_load1 rfl (fun w hw => peekB hw (by assumption) a13_4)) (by (first | exact fun _ h => h | (repeat first | exact sub_nil | refine sub_cons z_4 ?_))) rfl rfl rfl z_7 ?_)
    refine w_ 12 rfl (s_min2 rfl rfl) ?_
    refine w_ 13 rfl (s_max2 rfl rfl) ?_
    refine w_ 14 rfl ((s_add_u64 rfl rfl (by omega)).eq (v' := .int .u64 qb.next) (by rw [hqb]; rfl)) ?_
    refine w_ 15 rfl (s_nilCheck_o rfl hsome) ?_
    refine w_ 16 rfl z_1 ?_
    refine ga_one 17 rfl z_7 ?_
    refine gl_store_own (q := 4 * i + 1) rfl rfl z_6 z_10 (by decide) z_2 (by show 4 * i + 1 + 1 ≤ (prV p.peers).length; rw [prV_len]; omega) ?_
    refine gl_nil ?_
    refine at_ga (.inl z_7) ?_
    refine ga_done z_7 ?_
    repeat refine y_ ?_
    have hpx := putx_pr (l := p.peers) (k := i) (y := qb) (j := 1) (vs := [.int .u64 qb.next]) hil (by show 2 ≤ 4; decide) (by rw [← hqg, hqb]; rfl)
    refine g_pull (H' := blkMsg g3 m :: mdH X ⟨setPr p i qb, a, outs, oa0, oc0⟩) (fun w hw => by
      simp only [mdH, mdO, OwnP, setPr, hsl, ← hpx]
      exact hw.perm (perm_up z_3 (perm_up z_3 (perm_up z_3 (perm_up z_3 (perm_up z_3 (perm_up z_3 (.refl _)))))))) ?_
    repeat refine y_ ?_
    refine g_region ?_
    refine m_ ?_
    refine m_ ?_
    refine f_ (s_nilCheck_o rfl hsome) ?_
    refine r_ (s_loadN (cs := prC qb) rfl (fun w hw => rdQs_own (l := p.peers) (a := a.pa) hw z_3 (i := i) rfl hil) rfl) ?_
    refine gl_call [blkMsg g3 m] rfl (update_ct X ⟨setPr p i qb, a, outs, oa0, oc0⟩ qb hf1 ⟨⟨hqbf.1, hqbf.2.1⟩, hqbf.2.2.2.2⟩ (by simp only; omega)) (fun w hw => hw.perm (perm_up z_3 (perm_up z_3 (perm_up z_3 (perm_up z_3 (perm_up z_3 (perm_up z_3 (.refl _)))))))) (fun _ _ _ => trivial) rfl ?_; rintro v A ⟨rfl, ms, oa, oc, Z, e4, rfl, f4⟩
    refine gl_nil ?_
    repeat refine y_ ?_
    refine g_ret ?_
    exact at_end0 rfl (mdH X ⟨setPr p i qb, a, outs ++ ms, oa, oc⟩ ++ Z) ⟨rfl, ⟨setPr p i qb, a, outs ++ ms, oa, oc⟩, Z, rfl, by rw [List.map_append, e4], rfl, fun h f hs m2 hm2 => by
      rcases List.mem_append.1 hm2 with hm2 | hm2
      · exact f m2 hm2
      · exact f4 h hs m2 hm2⟩ (fun w hw => Hp.left hw)
  have hok : m.p.ok = true := hoke.symm
  obtain ⟨q1, hq1⟩ : ∃ b, b = decide (m.p.index ≤ q.mtc) := ⟨_, rfl⟩
  obtain ⟨q2, hq2⟩ : ∃ b, b = decide (lastI p.g < m.p.index) := ⟨_, rfl⟩
  repeat refine y_ ?_
  rcases (show (q1 = false ∧ q2 = false) ∨ q1 = true ∨ (q1 = false ∧ q2 = true) by cases q1 <;> cases q2 <;> simp) with ⟨rfl, rfl⟩ | rfl | ⟨rfl, rfl⟩
  rotate_left
  iterate 2
    · have hbad : m.p.index ≤ (peerG p m.p).mtc ∨ lastI p.g < m.p.index := by
        rw [← hq]
        first | exact .inl (of_decide_eq_true hq1.symm) | exact .inr (of_decide_eq_true hq2.symm)
      have e1 : ackP p m.p = p := by rw [ackP, if_neg (by rw [hip]; decide), if_neg (by rw [hok]; decide), if_pos hbad]
      have e2 : ackMs p m.p = [] := by rw [ackMs, if_neg (by rw [hip]; decide), if_neg (by rw [hok]; decide), if_pos hbad]
      simp only [e1, e2]
      repeat refine y_ ?_
      refine g_draw ([1, 5, 9], [0, 1, 0, 4, 12, 28, 63, 127, 255, 511, 255, 1279, 4095, 8191], []) [blkMsg g3 m, OwnP a.pa p.peers a.pc] 14 rfl ?_
      refine w_ 0 rfl z_1 ?_
      (first | refine ga_read_k 1 rfl z_5 (s_load_blk rfl .del a13_4) (by (first | exact fun _ h => h | (repeat first | exact sub_nil | refine sub_cons z_4 ?_))) rfl rfl rfl z_7 ?_ | refine ga_readF 1 rfl (s_load1 rfl (fun w hw => peekB hw (by assumption) a13_4)) (by (first | exact fun _ h => h | (repeat first | exact sub_nil | refine sub_cons z_4 ?_))) rfl rfl rfl z_7 ?_)
      refine w_ 2 rfl (s_move rfl) ?_
      refine w_ 3 rfl (s_nilCheck_o rfl hsome) ?_
      refine w_ 4 rfl z_1 ?_
      refine ga_read_k 5 rfl z_5 (s_load1 (v := .int .u64 q.mtc) rfl (fun w hw => rdQ1_own (l := p.peers) hw .del (i := i) (j := 2) rfl hil (by rw [← hqg]; rfl))) (by (first | exact fun _ h => h | (repeat first | exact sub_nil | refine sub_cons z_4 ?_))) rfl rfl rfl z_7 ?_
      refine w_ 6 rfl ((s_leq rfl rfl).eq (congrArg Value.bool hq1.symm)) ?_
      refine w_ 7 rfl (s_move rfl) ?_
      (first | refine s_ 8 ?_ | refine t_ 8 ?_ | refine ga_free_g 8 rfl z_1 rfl rfl rfl rfl rfl rfl z_7 ?_)
      (first | refine s_ 9 ?_ | refine t_ 9 ?_ | refine ga_read_kg 9 rfl z_5 (s_load_blk rfl .del a13_4) (by (first | exact fun _ h => h | (repeat first | exact sub_nil | refine sub_cons z_4 ?_))) rfl rfl rfl rfl rfl rfl z_7 ?_ | refine ga_readF_g 9 rfl (s_load1 rfl (fun w hw => peekB hw (by assumption) a13_4)) (by (first | exact fun _ h => h | (repeat first | exact sub_nil | refine sub_cons z_4 ?_))) rfl rfl rfl rfl rfl rfl z_7 ?_)
      (first | refine s_ 10 ?_ | refine t_ 10 ?_ | refine ga_free_g 10 rfl (s_move rfl) rfl rfl rfl rfl rfl rfl z_7 ?_)
      refine ga_one 11 rfl z_7 ?_
      (first|refine u_ ?_|(refine v_ ?_; refine gl_callp rfl (rend_ct X ⟨p, a, outs, oa0, oc0⟩ hf hcap) (fun h hh ⟨bs, hb⟩ => ⟨Sat.blk hb z_3, Sat.rd (a := a.la) hb z_3⟩) rfl ?_; rw [show lastI (⟨p, a, outs, oa0, oc0⟩ : MD).p.g = lastI p.g from rfl]))
      refine gl_nil ?_
      refine at_ga (.inr (by exact keeps_of (by (first | exact fun _ h => h | (repeat first | exact sub_nil | refine sub_cons z_4 ?_))))) ?_
      (first | refine s_ 12 ?_ | refine t_ 12 ?_ | refine ga_free_g 12 rfl ((s_gtr rfl rfl).eq (congrArg Value.bool hq2.symm)) rfl rfl rfl rfl rfl rfl z_7 ?_)
      refine w_ 13 rfl z_8 ?_
      refine ga_done z_7 ?_
      repeat refine y_ ?_
      refine g_ret ?_
      exact at_end0 rfl (mdH X ⟨p, a, outs, oa0, oc0⟩ ++ []) (MdP.same X ⟨p, a, outs, oa0, oc0⟩ ⟨p, a, outs, oa0, oc0⟩ _ rfl) (fun w hw => hw.drop)
  have n1 := of_decide_eq_false hq1.symm
  have n2 := of_decide_eq_false hq2.symm
  have hgood : ¬ (m.p.index ≤ (peerG p m.p).mtc ∨ lastI p.g < m.p.index) := by
    rw [← hq]; rintro (h | h)
    · exact n1 h
    · exact n2 h
  obtain ⟨qf, hqfe⟩ : ∃ qf, qf = fwdPr q m.p.index := ⟨_, rfl⟩
  have e1 : ackP p m.p = commitP (setPr p i qf) := by rw [ackP, if_neg (by rw [hip]; decide), if_neg (by rw [hok]; decide), if_neg hgood, ← hi, ← hq, hqfe]
  have e2 : ackMs p m.p = if (commitP (setPr p i qf)).role = 2 ∧ qf.next ≤ lastI p.g then [updateP (commitP (setPr p i qf)) qf] else [] := by
    rw [ackMs, if_neg (by rw [hip]; decide), if_neg (by rw [hok]; decide), if_neg hgood, e1, ← hq, hqfe]
  have hqff : 1 ≤ qf.next ∧ qf.next ≤ 4611686018427387904 ∧ 0 ≤ qf.mtc ∧ qf.mtc ≤ 4611686018427387904 ∧ 0 ≤ qf.off ∧ qf.off ≤ p.img.length := by
    rw [hqfe]
    show 1 ≤ max q.next (m.p.index + 1) ∧ max q.next (m.p.index + 1) ≤ _ ∧ 0 ≤ m.p.index ∧ m.p.index ≤ _ ∧ (0 : Int) ≤ 0 ∧ (0 : Int) ≤ p.img.length
    omega
  have hf1 := pf_setPr hf i qf hqff
  rw [e1, e2]
  repeat refine y_ ?_
  refine g_draw ([1, 5, 9], [0, 1, 0, 4, 12, 28, 63, 127, 255, 511, 255, 1279, 4095, 8191], []) [blkMsg g3 m, OwnP a.pa p.peers a.pc] 14 rfl ?_
  refine w_ 0 rfl z_1 ?_
  (first | refine ga_read_k 1 rfl z_5 (s_load_blk rfl .del a13_4) (by (first | exact fun _ h => h | (repeat first | exact sub_nil | refine sub_cons z_4 ?_))) rfl rfl rfl z_7 ?_ | refine ga_readF 1 rfl (s_load1 rfl (fun w hw => peekB hw (by assumption) a13_4)) (by (first | exact fun _ h => h | (repeat first | exact sub_nil | refine sub_cons z_4 ?_))) rfl rfl rfl z_7 ?_)
  refine w_ 2 rfl (s_move rfl) ?_
  refine w_ 3 rfl (s_nilCheck_o rfl hsome) ?_
  refine w_ 4 rfl z_1 ?_
  refine ga_read_k 5 rfl z_5 (s_load1 (v := .int .u64 q.mtc) rfl (fun w hw => rdQ1_own (l := p.peers) hw .del (i := i) (j := 2) rfl hil (by rw [← hqg]; rfl))) (by (first | exact fun _ h => h | (repeat first | exact sub_nil | refine sub_cons z_4 ?_))) rfl rfl rfl z_7 ?_
  refine w_ 6 rfl ((s_leq rfl rfl).eq (congrArg Value.bool hq1.symm)) ?_
  refine w_ 7 rfl (s_move rfl) ?_
  (first | refine s_ 8 ?_ | refine t_ 8 ?_ | refine ga_free_g 8 rfl z_1 rfl rfl rfl rfl rfl rfl z_7 ?_)
  (first | refine s_ 9 ?_ | refine t_ 9 ?_ | refine ga_read_kg 9 rfl z_5 (s_load_blk rfl .del a13_4) (by (first | exact fun _ h => h | (repeat first | exact sub_nil | refine sub_cons z_4 ?_))) rfl rfl rfl rfl rfl rfl z_7 ?_ | refine ga_readF_g 9 rfl (s_load1 rfl (fun w hw => peekB hw (by assumption) a13_4)) (by (first | exact fun _ h => h | (repeat first | exact sub_nil | refine sub_cons z_4 ?_))) rfl rfl rfl rfl rfl rfl z_7 ?_)
  (first | refine s_ 10 ?_ | refine t_ 10 ?_ | refine ga_free_g 10 rfl (s_move rfl) rfl rfl rfl rfl rfl rfl z_7 ?_)
  refine ga_one 11 rfl z_7 ?_
  (first|refine u_ ?_|(refine v_ ?_; refine gl_callp rfl (rend_ct X ⟨p, a, outs, oa0, oc0⟩ hf hcap) (fun h hh ⟨bs, hb⟩ => ⟨Sat.blk hb z_3, Sat.rd (a := a.la) hb z_3⟩) rfl ?_; rw [show lastI (⟨p, a, outs, oa0, oc0⟩ : MD).p.g = lastI p.g from rfl]))
  refine gl_nil ?_
  refine at_ga (.inr (by exact keeps_of (by (first | exact fun _ h => h | (repeat first | exact sub_nil | refine sub_cons z_4 ?_))))) ?_
  (first | refine s_ 12 ?_ | refine t_ 12 ?_ | refine ga_free_g 12 rfl ((s_gtr rfl rfl).eq (congrArg Value.bool hq2.symm)) rfl rfl rfl rfl rfl rfl z_7 ?_)
  refine w_ 13 rfl z_8 ?_
  refine ga_done z_7 ?_
  repeat refine y_ ?_
  refine g_cutK [(0, Ptr X), (3, Ptr g3), (4, .int .i64 (i : Nat)), (5, .pointer (addO a.pa (4 * i)))] (blkMsg g3 m :: mdH X ⟨setPr p i qf, a, outs, oa0, oc0⟩) ?_ ?_
  · have hpx := putx_fwd (l := p.peers) (i := i) (q := q) (n := max q.next (m.p.index + 1)) (m := m.p.index) (o := 0) hil hqg
    have hqfe2 : qf = ⟨q.node, max q.next (m.p.index + 1), m.p.index, 0⟩ := hqfe
    repeat refine y_ ?_
    refine g_draw ([4, 8], [0, 0, 0, 0, 8, 0, 32, 96, 224, 0, 512, 1536, 4064, 505, 8697, 25081, 65531, 131067, 262139, 524287, 1048575, 2097151], [10, 15, 18, 21]) [blkMsg g3 m, OwnP a.pa p.peers a.pc] 22 rfl ?_
    refine w_ 0 rfl (s_move rfl) ?_
    refine w_ 1 rfl (s_move rfl) ?_
    refine w_ 2 rfl (s_move rfl) ?_
    refine w_ 3 rfl z_1 ?_
    (first | refine ga_read_k 4 rfl z_5 (s_load_blk rfl .del a13_4) (by (first | exact fun _ h => h | (repeat first | exact sub_nil | refine sub_cons z_4 ?_))) rfl rfl rfl z_7 ?_ | refine ga_readF 4 rfl (s_load1 rfl (fun w hw => peekB hw (by assumption) a13_4)) (by (first | exact fun _ h => h | (repeat first | exact sub_nil | refine sub_cons z_4 ?_))) rfl rfl rfl z_7 ?_)
    refine w_ 5 rfl (s_move rfl) ?_
    refine w_ 6 rfl (s_nilCheck_o rfl hsome) ?_
    refine w_ 7 rfl z_1 ?_
    refine ga_read_k 8 rfl z_5 (s_load1 (v := .int .u64 q.next) rfl (fun w hw => rdQ1_own (l := p.peers) hw .del (i := i) (j := 1) rfl hil (by rw [← hqg]; rfl))) (by (first | exact fun _ h => h | (repeat first | exact sub_nil | refine sub_cons z_4 ?_))) rfl rfl rfl z_7 ?_
    refine w_ 9 rfl z_1 ?_
    refine w_ 13 rfl (s_nilCheck_o rfl hsome) ?_
    refine w_ 14 rfl z_1 ?_
    refine ga_two 10 15 rfl rfl z_7 ?_ ?_
    refine r_ (s_load_blk rfl z_3 a13_4) ?_
    refine gl_nil ?_
    refine at_ga (.inr (by exact keeps_of (by (first | exact fun _ h => h | (repeat first | exact sub_nil | refine sub_cons z_4 ?_))))) ?_
    refine w_ 11 rfl (s_add_u64 rfl rfl (by omega)) ?_
    refine w_ 12 rfl (s_max2 rfl rfl) ?_
    refine ga_one 15 rfl z_7 ?_
    refine gl_store_own (q := 4 * i + 2) rfl rfl z_6 z_10 (by decide) z_2 (by show 4 * i + 2 + 1 ≤ (prV p.peers).length; rw [prV_len]; omega) ?_
    refine gl_nil ?_
    refine at_ga (.inl z_7) ?_
    refine w_ 16 rfl (s_nilCheck_o rfl hsome) ?_
    refine w_ 17 rfl z_1 ?_
    refine ga_one 18 rfl z_7 ?_
    refine gl_store_own (q := 4 * i + 1) rfl rfl z_6 z_10 (by decide) z_2 (by show 4 * i + 1 + 1 ≤ (putx (prV p.peers) (4 * i + 2) [.int .u64 m.p.index]).length; rw [putx_length (by show 4 * i + 2 + 1 ≤ _; rw [prV_len]; omega), prV_len]; omega) ?_
    refine gl_nil ?_
    refine at_ga (.inl z_7) ?_
    refine w_ 19 rfl (s_nilCheck_o rfl hsome) ?_
    refine w_ 20 rfl z_1 ?_
    refine ga_one 21 rfl z_7 ?_
    refine gl_store_own (q := 4 * i + 3) rfl rfl z_6 z_10 (by decide) z_2 (by show 4 * i + 3 + 1 ≤ (putx (putx (prV p.peers) (4 * i + 2) [.int .u64 m.p.index]) (4 * i + 1) [.int .u64 (max q.next (m.p.index + 1))]).length; rw [putx_length (by show 4 * i + 1 + 1 ≤ _; rw [putx_length (by show 4 * i + 2 + 1 ≤ _; rw [prV_len]; omega), prV_len]; omega), putx_length (by show 4 * i + 2 + 1 ≤ _; rw [prV_len]; omega), prV_len]; omega) ?_
    refine gl_nil ?_
    refine at_ga (.inl z_7) ?_
    refine ga_done z_7 ?_
    rotate_left 1
    refine gl_store_own (q := 4 * i + 2) rfl rfl z_6 z_10 (by decide) z_2 (by show 4 * i + 2 + 1 ≤ (prV p.peers).length; rw [prV_len]; omega) ?_
    refine gl_nil ?_
    refine at_ga (.inl z_7) ?_
    refine ga_one 10 rfl z_7 ?_
    refine r_ (s_load_blk rfl z_3 a13_4) ?_
    refine gl_nil ?_
    refine at_ga (.inl z_7) ?_
    refine w_ 11 rfl (s_add_u64 rfl rfl (by omega)) ?_
    refine w_ 12 rfl (s_max2 rfl rfl) ?_
    refine w_ 16 rfl (s_nilCheck_o rfl hsome) ?_
    refine w_ 17 rfl z_1 ?_
    refine ga_one 18 rfl z_7 ?_
    refine gl_store_own (q := 4 * i + 1) rfl rfl z_6 z_10 (by decide) z_2 (by show 4 * i + 1 + 1 ≤ (putx (prV p.peers) (4 * i + 2) [.int .u64 m.p.index]).length; rw [putx_length (by show 4 * i + 2 + 1 ≤ _; rw [prV_len]; omega), prV_len]; omega) ?_
    refine gl_nil ?_
    refine at_ga (.inl z_7) ?_
    refine w_ 19 rfl (s_nilCheck_o rfl hsome) ?_
    refine w_ 20 rfl z_1 ?_
    refine ga_one 21 rfl z_7 ?_
    refine gl_store_own (q := 4 * i + 3) rfl rfl z_6 z_10 (by decide) z_2 (by show 4 * i + 3 + 1 ≤ (putx (putx (prV p.peers) (4 * i + 2) [.int .u64 m.p.index]) (4 * i + 1) [.int .u64 (max q.next (m.p.index + 1))]).length; rw [putx_length (by show 4 * i + 1 + 1 ≤ _; rw [putx_length (by show 4 * i + 2 + 1 ≤ _; rw [prV_len]; omega), prV_len]; omega), putx_length (by show 4 * i + 2 + 1 ≤ _; rw [prV_len]; omega), prV_len]; omega) ?_
    refine gl_nil ?_
    refine at_ga (.inl z_7) ?_
    refine ga_done z_7 ?_
    rotate_left 1
    all_goals (repeat refine y_ ?_)
    all_goals
      exact at_cut (by (repeat (first | exact Sub.nil _ | refine Sub.cons rfl ?_))) (fun w hw => by
        simp only [mdH, mdO, OwnP, setPr, hsl, hqfe2, ← hpx]
        exact hw.perm (perm_up z_3 (perm_up z_3 (perm_up z_3 (perm_up z_3 (perm_up z_3 (perm_up z_3 (.refl _))))))))
  obtain ⟨ps, hps⟩ : ∃ ps, ps = setPr p i qf := ⟨_, rfl⟩
  have hpsp : ps.peers = p.peers.set i qf := by rw [hps]; rfl
  have hlp : lastI ps.g = lastI p.g := by rw [hps]; rfl
  rw [← hps] at hf1
  simp only [← hps]
  have hcl := commitP_log ps
  have hfc := pf_commit hf1
  have himg : ps.img = p.img := by rw [hps]; rfl
  repeat refine y_ ?_
  refine g_region ?_
  refine m_ ?_
  refine f_ (s_nilCheck_o rfl hsome) ?_
  refine f_ z_1 ?_
  refine r_ (s_load1 (v := .int .u64 qf.next) rfl (fun w hw => rdQs1_own (l := p.peers) (a := a.pa) (n := ps.peers.length) (c := a.pc) (te := 100) hw (by rw [← hpsp]; exact z_3) (i := i) (j := 1) rfl hil rfl)) ?_
  refine f_ (s_assign rfl) ?_
  refine gl_nil ?_
  repeat refine y_ ?_
  refine g_region ?_
  refine m_ ?_
  refine gl_call [blkMsg g3 m] rfl (commit_ct X ⟨ps, a, outs, oa0, oc0⟩ hf1) (fun w hw => hw.perm (perm_up z_3 (perm_up z_3 (perm_up z_3 (perm_up z_3 (perm_up z_3 (perm_up z_3 (.refl _)))))))) (fun _ _ _ => trivial) rfl ?_; rintro v A ⟨rfl, d3, Z3, e3, o3, rfl, f3⟩
  refine gl_nil ?_
  repeat refine y_ ?_
  have l3 := outs_len o3
  simp only [List.length_nil] at l3
  obtain ⟨p3, a3, outs3, oa3, oc3⟩ := d3
  simp only at e3 l3
  subst e3
  simp only [List.append_nil] at o3
  refine g_ownN (a := a3.la) z_3 (fun _ hcap3 _ => ?_)
  refine g_ownN (a := a3.pa) z_3 (fun _ _ hpa3 => ?_)
  have hlc := commitP_last ps
  obtain ⟨q3, hq3⟩ : ∃ b, b = decide ((commitP ps).role = 2) := ⟨_, rfl⟩
  obtain ⟨q4, hq4⟩ : ∃ b, b = decide (qf.next ≤ lastI (commitP ps).g) := ⟨_, rfl⟩
  rcases (show (q3 = true ∧ q4 = true) ∨ q3 = false ∨ (q3 = true ∧ q4 = false) by cases q3 <;> cases q4 <;> simp) with ⟨rfl, rfl⟩ | rfl | ⟨rfl, rfl⟩
  rotate_left
  iterate 2
    · have hno : ¬ ((commitP ps).role = 2 ∧ qf.next ≤ lastI p.g) := by
        rintro ⟨h1, h2⟩
        rw [← hlp, ← hlc] at h2
        first
          | exact absurd (hq3.trans (decide_eq_true h1)) (by decide)
          | exact absurd (hq4.trans (decide_eq_true h2)) (by decide)
      rw [if_neg hno]
      repeat refine y_ ?_
      refine g_region ?_
      refine m_ ?_
      refine f_ (s_nilCheck rfl) ?_
      refine f_ z_1 ?_
      refine f_ z_1 ?_
      refine r_ (by first | exact s_load_blk rfl z_3 a19_3 | exact s_load1 rfl (fun w hw => peekB hw (by assumption) a19_3)) ?_
      refine f_ ((s_eql rfl rfl).eq (congrArg Value.bool hq3.symm)) ?_
      refine m_ ?_
      (first|refine u_ ?_|(refine v_ ?_; refine m_ ?_))
      (first|refine u_ ?_|(refine v_ ?_; refine m_ ?_))
      (first|refine u_ ?_|(refine v_ ?_; refine gl_callp rfl (rend_ct X ⟨commitP ps, a3, outs3, oa3, oc3⟩ hfc hcap3) (fun h hh ⟨bs, hb⟩ => ⟨Sat.blk hb z_3, Sat.rd (a := a3.la) hb z_3⟩) rfl ?_; rw [show lastI (⟨commitP ps, a3, outs3, oa3, oc3⟩ : MD).p.g = lastI (commitP ps).g from rfl]))
      (first|refine u_ ?_|(refine v_ ?_; refine f_ ((s_leq rfl rfl).eq (congrArg Value.bool hq4.symm)) ?_))
      refine f_ z_8 ?_
      refine gl_nil ?_
      repeat refine y_ ?_
      exact at_end0 rfl (mdH X ⟨commitP ps, a3, outs3, oa3, oc3⟩ ++ (Z3 ++ [blkMsg g3 m])) ⟨rfl, ⟨commitP ps, a3, outs3, oa3, oc3⟩, _, rfl, by rw [o3, List.append_nil], rfl, fun h f hs => f3 h f (Sat.two2 hs).1⟩ (fun w hw => by rwa [List.append_assoc] at hw)
  have hr2 := of_decide_eq_true hq3.symm
  have hn2 := of_decide_eq_true hq4.symm
  have hpp : (commitP ps).peers = p.peers.set i qf := by rw [hcl.2.2.2 hr2, hpsp]
  have hppl : (commitP ps).peers.length = p.peers.length := by rw [hpp, hsl]
  have hsome3 : ∃ ad, a3.pa = some ad := hpa3 (by show 0 < (commitP ps).peers.length; omega)
  rw [if_pos ⟨hr2, by rw [← hlp, ← hlc]; exact hn2⟩]
  repeat refine y_ ?_
  refine g_region ?_
  refine m_ ?_
  refine f_ (s_nilCheck rfl) ?_
  refine f_ z_1 ?_
  refine f_ z_1 ?_
  refine r_ (by first | exact s_load_blk rfl z_3 a19_3 | exact s_load1 rfl (fun w hw => peekB hw (by assumption) a19_3)) ?_
  refine f_ ((s_eql rfl rfl).eq (congrArg Value.bool hq3.symm)) ?_
  refine m_ ?_
  (first|refine u_ ?_|(refine v_ ?_; refine m_ ?_))
  (first|refine u_ ?_|(refine v_ ?_; refine m_ ?_))
  (first|refine u_ ?_|(refine v_ ?_; refine gl_callp rfl (rend_ct X ⟨commitP ps, a3, outs3, oa3, oc3⟩ hfc hcap3) (fun h hh ⟨bs, hb⟩ => ⟨Sat.blk hb z_3, Sat.rd (a := a3.la) hb z_3⟩) rfl ?_; rw [show lastI (⟨commitP ps, a3, outs3, oa3, oc3⟩ : MD).p.g = lastI (commitP ps).g from rfl]))
  (first|refine u_ ?_|(refine v_ ?_; refine f_ ((s_leq rfl rfl).eq (congrArg Value.bool hq4.symm)) ?_))
  refine f_ z_8 ?_
  refine gl_nil ?_
  repeat refine y_ ?_
  refine g_region ?_
  refine m_ ?_
  refine m_ ?_
  refine f_ (s_nilCheck rfl) ?_
  refine f_ z_1 ?_
  refine f_ z_1 ?_
  refine r_ (by first | exact s_load_blk rfl z_3 a19_14 | exact s_load1 rfl (fun w hw => peekB hw (by assumption) a19_14)) ?_
  refine m_ ?_
  refine f_ ((s_indexAddr (len := (commitP ps).peers.length) rfl hsome3 rfl (by rw [hppl]; omega)).eq (v' := .pointer (addO a3.pa (4 * i))) (by congr 2; omega)) ?_
  refine r_ (s_loadN (cs := prC qf) rfl (fun w hw => rdQs_own (l := p.peers) (a := a3.pa) (n := (commitP ps).peers.length) (c := a3.pc) (te := 100) hw (by rw [← hpp]; exact z_3) (i := i) rfl hil) rfl) ?_
  refine gl_call (Z3 ++ [blkMsg g3 m]) rfl (update_ct X ⟨commitP ps, a3, outs3, oa3, oc3⟩ qf hfc ⟨⟨hqff.1, hqff.2.1⟩, by show 0 ≤ qf.off ∧ qf.off ≤ ((commitP ps).img.length : Int); rw [hcl.2.2.1, himg]; exact hqff.2.2.2.2⟩ (by simp only; omega)) (fun w hw => by rwa [List.append_assoc] at hw) (fun _ _ _ => trivial) rfl ?_; rintro v A ⟨rfl, ms, oa, oc, Z, e4, rfl, f4⟩
  refine gl_nil ?_
  repeat refine y_ ?_
  exact at_end0 rfl (mdH X ⟨commitP ps, a3, outs3 ++ ms, oa, oc⟩ ++ (Z ++ (Z3 ++ [blkMsg g3 m]))) ⟨rfl, ⟨commitP ps, a3, outs3 ++ ms, oa, oc⟩, _, rfl, by rw [List.map_append, e4, o3], rfl, fun h f hs m2 hm2 => by
    obtain ⟨s4, s3⟩ := Sat.two2 hs
    rcases List.mem_append.1 hm2 with hm2 | hm2
    · exact f3 h f (Sat.two2 s3).1 m2 hm2
    · exact f4 h s4 m2 hm2⟩ (fun w hw => by rwa [List.append_assoc] at hw)
end Go.Proofs.YtodcghipfolejaaGreat.Rf
