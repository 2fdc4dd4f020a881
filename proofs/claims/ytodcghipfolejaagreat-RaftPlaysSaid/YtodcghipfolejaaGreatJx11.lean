import Derived.Test.YtodcghipfolejaaGreatJx10
set_option linter.unusedVariables false
set_option linter.unusedSimpArgs false
namespace Go.Proofs.YtodcghipfolejaaGreat.Rf
open Go Go.Sl
theorem hp_rot {F : Snap} {w : World} {x : As} {A Z : List As} (h : Hp F w (x :: (A ++ Z))) : Hp F w (A ++ (Z ++ [x])) := by
 rw [← List.append_assoc]
 exact h.perm (List.perm_append_comm (l₁ := [x]) (l₂ := A ++ Z))
theorem pf_leads1 {p : RP} (h : PFit p) (m : MP) : PFit (leads1 p m) := by
 have h1 := pf_follow h p.term m.frm h.term
 exact ⟨h1.base, h1.len, h1.cl, h1.dat, h1.img, h1.votes, h1.peers, h1.prs, ⟨Int.le_refl _, by show (0 : Int) ≤ _; omega⟩, h1.term, h1.commit⟩
set_option maxRecDepth 8000 in
set_option maxHeartbeats 4000000 in
theorem leads_ct (X : Nat) (d : MD) (m : MM) (hf : PFit d.p) (hm : MFit m.p) (hpc : d.p.piece.length ≤ 1000000000) (hl : d.p.l.length ≤ 99000) (ho : d.outs.length ≤ 100000) : Ct Tryz.prog 59 [Ptr X, mmA m] (fun h => MOk h m) (mdH X d) (MdP X d (leadsP d.p m.p) (leadsM d.p m.p) (.tuple #[])) := by
 obtain ⟨p, a, outs, oa0, oc0⟩ := d
 simp only at hf ho hpc hl
 refine ct_enter 45 Tryz.func59 rfl rfl rfl ?_
 intro F hmo
 obtain ⟨q1, hq1⟩ : ∃ q, q = decide (m.p.term < p.term) := ⟨_, rfl⟩
 obtain ⟨q2, hq2⟩ : ∃ q, q = decide (p.role = 2) := ⟨_, rfl⟩
 obtain ⟨q3, hq3⟩ : ∃ q, q = decide (m.p.kind = 3) := ⟨_, rfl⟩
 repeat refine x_ ?_
 refine gl_boxA rfl rfl ?_; intro g3
 repeat refine n_ ?_
 refine g_draw ([1, 6], [0, 1, 0, 4, 12, 28, 60, 127], []) [.blk X (mdO ⟨p, a, outs, oa0, oc0⟩), blkMsg g3 m] 8 rfl ?_
 refine w_ 0 rfl z_1 ?_
 (refine ga_read_k 1 rfl z_9 (s_load_blk rfl .del a13_3) k_ rfl rfl rfl z_4 ?_)
 refine w_ 2 rfl (s_move rfl) ?_
 refine w_ 3 rfl (s_nilCheck rfl) ?_
 refine w_ 4 rfl z_1 ?_
 refine w_ 5 rfl z_1 ?_
 (refine ga_read_k 6 rfl z_11 (s_load_blk rfl .del a19_1) k_ rfl rfl rfl z_4 ?_)
 refine w_ 7 rfl ((s_lss rfl rfl).eb hq1) ?_
 refine ga_done z_4 ?_
 repeat refine y_ ?_
 cases q1
 rotate_left
 ·have h1 := of_decide_eq_true hq1.symm
  have e1 : leadsP p m.p = p := by rw [leadsP, if_pos (.inl h1)]
  have e2 : leadsM p m.p = [ackM p m.p.frm false 0] := by rw [leadsM, if_pos h1]
  simp only [e1, e2]
  repeat refine x_ ?_
  refine m_ ?_
  refine f_ z_1 ?_
  refine r_ (by exact s_load_blk rfl z_2 a13_1) ?_
  refine f_ ((s_bld (cells := (mmC (ackMM false 0)).toArray) rfl z_4).eq (v' := mmA (ackMM false 0)) rfl) ?_
  refine gl_call [blkMsg g3 m] rfl (say_ct X ⟨p, a, outs, oa0, oc0⟩ m.p.frm (ackMM false 0) (by simp only; omega)) (fun w hw => hw.perm (perm_up z_2 (perm_up z_2 (perm_up z_2 (perm_up z_2 (perm_up z_2 (perm_up z_2 (.refl _)))))))) (fun _ _ _ => trivial) rfl ?_; rintro v A ⟨rfl, oa, oc, rfl⟩
  repeat refine n_ ?_
  refine g_ret ?_
  exact at_end0 rfl _ (MdP.said X ⟨p, a, outs, oa0, oc0⟩ p a outs ⟨ackM p m.p.frm false 0, none, 0, none, 0⟩ oa oc _ rfl (fun h => mok_nil h _ rfl rfl)) (fun w hw => by rw [List.append_nil]; exact Hp.left hw)
 have h1 := of_decide_eq_false hq1.symm
 repeat refine x_ ?_
 refine m_ ?_
 refine f_ (s_nilCheck rfl) ?_
 refine f_ z_1 ?_
 refine f_ z_1 ?_
 refine r_ (by exact s_load_blk rfl z_2 a19_3) ?_
 refine f_ ((s_eql rfl rfl).eb hq2) ?_
 repeat refine n_ ?_
 cases q2
 rotate_left
 ·have h2 := of_decide_eq_true hq2.symm
  have e1 : leadsP p m.p = p := by rw [leadsP, if_pos (.inr h2)]
  have e2 : leadsM p m.p = [] := by rw [leadsM, if_neg h1, if_pos h2]
  simp only [e1, e2]
  repeat refine y_ ?_
  refine g_ret ?_
  exact at_end0 rfl (mdH X ⟨p, a, outs, oa0, oc0⟩ ++ []) (MdP.same X ⟨p, a, outs, oa0, oc0⟩ ⟨p, a, outs, oa0, oc0⟩ _ rfl) (fun w hw => hw.drop)
 have h2 := of_decide_eq_false hq2.symm
 have e1 : leadsP p m.p = if m.p.kind = 3 then tkP (leads1 p m.p) m.p else pcP (leads1 p m.p) m.p := by rw [leadsP, if_neg (by rintro (h | h); exact h1 h; exact h2 h)]
 have e2 : leadsM p m.p = if m.p.kind = 3 then tkM (leads1 p m.p) m.p else pcM (leads1 p m.p) m.p := by rw [leadsM, if_neg h1, if_neg h2]
 rw [e1, e2]
 have hf1 := pf_leads1 hf m.p
 repeat refine y_ ?_
 refine g_draw ([5, 7], [0, 0, 2, 6, 14, 30, 0, 64, 255], [8]) [.blk X (mdO ⟨p, a, outs, oa0, oc0⟩), blkMsg g3 m] 9 rfl ?_
 refine w_ 0 rfl (s_move rfl) ?_
 refine w_ 1 rfl (s_move rfl) ?_
 refine w_ 2 rfl (s_nilCheck rfl) ?_
 refine w_ 3 rfl z_1 ?_
 refine w_ 4 rfl z_1 ?_
 (refine ga_read_k 5 rfl z_11 (s_load_blk rfl .del a19_1) k_ rfl rfl rfl z_4 ?_)
 refine w_ 6 rfl z_1 ?_
 (refine ga_read_k 7 rfl z_9 (s_load_blk rfl .del a13_1) k_ rfl rfl rfl z_4 ?_)
 refine ga_one 8 rfl z_4 ?_
 refine gl_call [blkMsg g3 m] rfl (follow_ct X ⟨p, a, outs, oa0, oc0⟩ p.term m.p.frm) (fun w hw => hw.perm (perm_up z_2 (perm_up z_2 (perm_up z_2 (perm_up z_2 (perm_up z_2 (perm_up z_2 (.refl _)))))))) (fun _ _ _ => trivial) rfl ?_; rintro v A ⟨rfl, d2, Z2, e3, o2, rfl, f2⟩
 refine gl_nil ?_
 refine at_ga (.inl z_4) ?_
 refine ga_done z_4 ?_
 repeat refine y_ ?_
 obtain ⟨p2, a2, outs2, oa2, oc2⟩ := d2
 simp only at e3
 subst e3
 have l2 := outs_len o2
 simp only [List.length_nil] at l2
 simp only [List.append_nil] at o2
 refine g_pull (H' := blkMsg g3 m :: (mdH X ⟨followP p p.term m.p.frm, a2, outs2, oa2, oc2⟩ ++ Z2)) (fun w hw => hw.perm List.perm_append_comm) ?_
 repeat refine x_ ?_
 refine m_ ?_
 refine f_ (s_nilCheck rfl) ?_
 refine f_ z_1 ?_
 refine f_ z_1 ?_
 (refine gl_store_blkC (pre := [_, _, _, _, _, _, _, _, _, _, _]) (post := [_, _, _, _, _, _, _]) rfl rfl z_5 z_7 z_7 z_7 ?_)
 repeat refine n_ ?_
 refine g_pull (H' := blkMsg g3 m :: (mdH X ⟨leads1 p m.p, a2, outs2, oa2, oc2⟩ ++ Z2)) i_ ?_
 repeat refine x_ ?_
 refine f_ z_1 ?_
 refine r_ (by exact s_load_blk rfl z_2 a13_0) ?_
 refine f_ ((s_eql rfl rfl).eb hq3) ?_
 repeat refine n_ ?_
 cases q3
 ·have h3 := of_decide_eq_false hq3.symm
  rw [if_neg h3, if_neg h3]
  repeat refine x_ ?_
  refine m_ ?_
  refine r_ ((s_load_blkW rfl z_2 z_7).eq (v' := mmA m) rfl) ?_
  refine gl_call (Z2 ++ [blkMsg g3 m]) rfl (piece_ct X ⟨leads1 p m.p, a2, outs2, oa2, oc2⟩ m hf1 hm hpc (by simp only; omega)) (fun w hw => hp_rot hw) (fun h hh _ => hmo.le hh) rfl ?_; rintro v A ⟨rfl, d3, Z3, e3, o3, rfl, f3⟩
  repeat refine n_ ?_
  exact at_end0 rfl (mdH X d3 ++ (Z3 ++ (Z2 ++ [blkMsg g3 m]))) ⟨rfl, d3, _, e3, by rw [o3, o2], rfl, fun h f hs => by
   obtain ⟨s3, s2⟩ := Sat.two2 hs
   exact f3 h (f2 h f (Sat.two2 s2).1) s3⟩ (fun w hw => by rwa [List.append_assoc] at hw)
 ·have h3 := of_decide_eq_true hq3.symm
  rw [if_pos h3, if_pos h3]
  repeat refine x_ ?_
  refine m_ ?_
  refine r_ ((s_load_blkW rfl z_2 z_7).eq (v' := mmA m) rfl) ?_
  refine gl_call (Z2 ++ [blkMsg g3 m]) rfl (take_ct X ⟨leads1 p m.p, a2, outs2, oa2, oc2⟩ m hf1 hm hl (by simp only; omega)) (fun w hw => hp_rot hw) (fun h hh _ => hmo.le hh) rfl ?_; rintro v A ⟨rfl, d3, Z3, e3, o3, rfl, f3⟩
  repeat refine n_ ?_
  exact at_end0 rfl (mdH X d3 ++ (Z3 ++ (Z2 ++ [blkMsg g3 m]))) ⟨rfl, d3, _, e3, by rw [o3, o2], rfl, fun h f hs => by
   obtain ⟨s3, s2⟩ := Sat.two2 hs
   exact f3 h (f2 h f (Sat.two2 s2).1) s3⟩ (fun w hw => by rwa [List.append_assoc] at hw)
end Go.Proofs.YtodcghipfolejaaGreat.Rf
namespace Go.Proofs.YtodcghipfolejaaGreat.Rf
open Go Go.Sl
theorem peer1_ct (q : Pr) (G : Nat) (m : MM) : Pu Tryz.prog 125 [prA q, Ptr G] (fun h => h G = some (.cells (mmC m).toArray 38)) (.bool (decide (q.node = m.p.frm))) := by
 refine ct_enter 9 Tryz.func125 rfl rfl rfl ?_
 intro F hG
 repeat refine x_ ?_
 refine gl_boxA rfl rfl ?_; intro g2
 refine a_ ?_
 repeat refine x_ ?_
 refine f_ z_1 ?_
 refine r_ (by exact s_load_blk rfl z_2 a4_0) ?_
 refine f_ z_1 ?_
 refine r_ (by exact s_load1 rfl (fun w hw => peekB hw (by assumption) a13_1)) ?_
 refine f_ (s_eql rfl rfl) ?_
 refine a_ ?_
 repeat refine n_ ?_
 refine g_ret ?_
 exact at_end1 rfl rfl [] ⟨rfl, rfl⟩ (fun _ h => h.dropAll)
def ixP (l : List Pr) (n : Int) : Int := if l.findIdx (fun q => decide (q.node = n)) < l.length then (l.findIdx (fun q => decide (q.node = n)) : Nat) else -1
set_option maxHeartbeats 1000000 in
theorem IndexFunc_ct (l : List Pr) (a : Option Addr) (c : Nat) (G : Nat) (m : MM) (hl : l.length ≤ 1000000000) : Pu Tryz.prog 124 [.slice a l.length c, .func (.func 125) #[] #[Ptr G]] (fun h => RdS h a (prV l) ∧ h G = some (.cells (mmC m).toArray 38)) (.int .i64 (ixP l m.p.frm)) := by
 refine ct_enter 19 Tryz.func124 rfl rfl rfl ?_
 intro F hF
 have hr := hF.1
 have hG := hF.2
 repeat refine x_ ?_
 refine a_ ?_
 repeat refine x_ ?_
 refine m_ ?_
 refine f_ (s_len_sl rfl) ?_
 refine m_ ?_
 repeat refine n_ ?_
 refine g_loop (ι := Nat) (fun i => i ≤ l.length ∧ ∀ j, j < i → decide ((l.getD j P0).node = m.p.frm) = false) (fun i => [(0, .slice a l.length c), (1, .func (.func 125) #[] #[Ptr G]), (7, .int .i64 (l.length : Nat)), (8, .int .i64 (i : Nat))]) (fun _ => []) (fun i => l.length - i) 0 ⟨Nat.zero_le _, fun j hj => absurd hj (Nat.not_lt_zero _)⟩ ?_ ?_ ?_
 ·(repeat (first | exact Sub.nil _ | refine Sub.cons rfl ?_))
 ·intro w hw; exact hw
 rintro i ⟨hi, hb⟩
 repeat refine x_ ?_
 refine f_ (s_lss rfl rfl) ?_
 repeat refine n_ ?_
 refine g_cond rfl (fun h => ?_) (fun h => ?_)
 rotate_left
 ·have hil : i = l.length := by simp at h; omega
  subst hil
  have e : ixP l m.p.frm = -1 := by
   rw [ixP, if_neg]
   have := (List.findIdx_eq_length (p := fun q : Pr => decide (q.node = m.p.frm)) (xs := l)).2 (fun q hq => by
    obtain ⟨j, hj, rfl⟩ := List.mem_iff_getElem.1 hq
    have := hb j hj
    rwa [List.getD_eq_getElem?_getD, List.getElem?_eq_getElem hj] at this)
   omega
  rw [e]
  repeat refine x_ ?_
  refine a_ ?_
  repeat refine n_ ?_
  refine g_ret ?_
  exact at_end1 rfl rfl [] ⟨rfl, rfl⟩ (fun _ h => h)
 have hil : i < l.length := by simp at h; omega
 have hsome := rdR_some hr hil
 obtain ⟨q, hq⟩ : ∃ q, q = l.getD i P0 := ⟨_, rfl⟩
 obtain ⟨b, hbe⟩ : ∃ b, b = decide (q.node = m.p.frm) := ⟨_, rfl⟩
 repeat refine x_ ?_
 refine m_ ?_
 refine a_ ?_
 repeat refine x_ ?_
 refine m_ ?_
 refine m_ ?_
 refine m_ ?_
 refine f_ (s_indexAddr rfl (by assumption) rfl (by omega)) ?_
 refine r_ (s_loadN (cs := prC q) rfl (fun w hw => by rw [hq]; exact rdQ hw hr (i := i) (by omega) hil) rfl) ?_
 refine gl_callv [] rfl rfl (ps := []) (qs := [Ptr G]) rfl (peer1_ct q G m) i_ (fun h hh _ => hh _ _ hG) rfl ?_; rw [← hbe]; rintro v A ⟨rfl, rfl⟩
 repeat refine n_ ?_
 cases b
 ·repeat refine y_ ?_
  repeat refine x_ ?_
  refine f_ (s_add_i64 rfl rfl (by omega)) ?_
  refine m_ ?_
  repeat refine n_ ?_
  refine at_next (i + 1) ⟨by omega, fun j hj => ?_⟩ (by omega) ?_ ?_
  ·rcases Nat.lt_succ_iff_lt_or_eq.1 hj with h4 | rfl
   ·exact hb j h4
   ·rw [← hq]; exact hbe.symm
  ·(repeat (first | exact Sub.nil _ | refine Sub.cons rfl ?_))
  ·intro w hw; exact hw
 ·have e : ixP l m.p.frm = (i : Nat) := by
   have h1 : l.findIdx (fun q => decide (q.node = m.p.frm)) = i := by
    rw [List.findIdx_eq hil]
    refine ⟨?_, fun j hj => ?_⟩
    ·rw [hq, List.getD_eq_getElem?_getD, List.getElem?_eq_getElem hil] at hbe
     exact hbe.symm
    ·have := hb j hj
     rwa [List.getD_eq_getElem?_getD, List.getElem?_eq_getElem (by omega)] at this
   rw [ixP, h1, if_pos hil]
  rw [e]
  repeat refine x_ ?_
  refine m_ ?_
  refine a_ ?_
  repeat refine n_ ?_
  refine g_ret ?_
  exact at_end1 rfl rfl [] ⟨rfl, rfl⟩ (fun _ h => h)
def peerI (p : RP) (m : MP) : Int := if isPeer p m = true then (peerAt p m : Nat) else -1
set_option maxRecDepth 8000 in
set_option maxHeartbeats 1000000 in
theorem peer_ct (X : Nat) (d : MD) (m : MM) (hf : PFit d.p) : Pu Tryz.prog 99 [Ptr X, mmA m] (fun h => h X = some (mdO d) ∧ RdS h d.a.pa (prV d.p.peers)) (.int .i64 (peerI d.p m.p)) := by
 obtain ⟨p, a, outs, oa0, oc0⟩ := d
 simp only at hf
 have hpl := hf.peers
 refine ct_enter 28 Tryz.func99 rfl rfl rfl ?_
 intro F hF
 have hX := hF.1
 have hr := hF.2
 obtain ⟨q1, hq1⟩ : ∃ q, q = decide (p.role = 2) := ⟨_, rfl⟩
 obtain ⟨q2, hq2⟩ : ∃ q, q = decide (m.p.term = p.term) := ⟨_, rfl⟩
 have hno : (q1 && q2) = false → peerI p m.p = -1 := fun h => by
  have : ¬ (p.role = 2 ∧ m.p.term = p.term) := fun h2 => by
   rw [hq1, hq2, decide_eq_true h2.1, decide_eq_true h2.2] at h; cases h
  rw [peerI, isPeer, peerAt, if_neg this, if_neg (by simp)]
 repeat refine x_ ?_
 refine gl_boxA rfl rfl ?_; intro g3
 refine a_ ?_
 repeat refine n_ ?_
 rcases (show (q1 = true ∧ q2 = true) ∨ q1 = false ∨ (q1 = true ∧ q2 = false) by cases q1 <;> cases q2 <;> simp) with ⟨rfl, rfl⟩ | rfl | ⟨rfl, rfl⟩
 rotate_left
 iterate 2
  ·rw [hno z_7]
   repeat refine y_ ?_
   refine g_draw ([4, 8, 13], [0, 1, 3, 7, 15, 31, 63, 127, 255, 127, 639, 1663, 3711, 7807, 16383, 32767], []) [blkMsg g3 m] 16 rfl ?_
   refine w_ 0 rfl (s_move rfl) ?_
   refine w_ 1 rfl (s_nilCheck rfl) ?_
   refine w_ 2 rfl z_1 ?_
   refine w_ 3 rfl z_1 ?_
   refine ga_readF 4 rfl (s_load1 rfl (fun w hw => peekB hw hX a19_3)) z_15 rfl rfl rfl z_4 ?_
   refine w_ 5 rfl ((s_neq rfl rfl).eq (congrArg (fun b => Value.bool (!b)) hq1.symm)) ?_
   refine w_ 6 rfl (s_move rfl) ?_
   (first | refine s_ 7 ?_ | refine ga_free_g 7 rfl z_1 rfl rfl rfl rfl rfl rfl z_4 ?_)
   (first | refine s_ 8 ?_ | refine ga_read_kg 8 rfl z_11 (s_load_blk rfl .del a13_3) z_15 rfl rfl rfl rfl rfl rfl z_4 ?_)
   (first | refine s_ 9 ?_ | refine ga_free_g 9 rfl (s_move rfl) rfl rfl rfl rfl rfl rfl z_4 ?_)
   (first | refine s_ 10 ?_ | refine ga_free_g 10 rfl (s_nilCheck rfl) rfl rfl rfl rfl rfl rfl z_4 ?_)
   (first | refine s_ 11 ?_ | refine ga_free_g 11 rfl z_1 rfl rfl rfl rfl rfl rfl z_4 ?_)
   (first | refine s_ 12 ?_ | refine ga_free_g 12 rfl z_1 rfl rfl rfl rfl rfl rfl z_4 ?_)
   (first | refine s_ 13 ?_ | refine ga_readF_g 13 rfl (s_load1 rfl (fun w hw => peekB hw hX a19_1)) z_15 rfl rfl rfl rfl rfl rfl z_4 ?_)
   (first | refine s_ 14 ?_ | refine ga_free_g 14 rfl ((s_neq rfl rfl).eq (congrArg (fun b => Value.bool (!b)) hq2.symm)) rfl rfl rfl rfl rfl rfl z_4 ?_)
   refine w_ 15 rfl z_6 ?_
   refine ga_done z_4 ?_
   repeat refine x_ ?_
   refine a_ ?_
   repeat refine n_ ?_
   refine g_ret ?_
   exact at_end1 rfl rfl [] ⟨rfl, rfl⟩ (fun _ h => h.dropAll)
 have hy : p.role = 2 ∧ m.p.term = p.term := ⟨of_decide_eq_true hq1.symm, of_decide_eq_true hq2.symm⟩
 have e : peerI p m.p = ixP p.peers m.p.frm := by
  rw [peerI, isPeer, peerAt, if_pos hy, ixP]
  by_cases h : p.peers.findIdx (fun q => decide (q.node = m.p.frm)) < p.peers.length
  ·rw [if_pos h, if_pos (decide_eq_true h)]
  ·rw [if_neg h, if_neg (by simpa using h)]
 rw [e]
 repeat refine y_ ?_
 refine g_draw ([4, 8, 13], [0, 1, 3, 7, 15, 31, 63, 127, 255, 127, 639, 1663, 3711, 7807, 16383, 32767], []) [blkMsg g3 m] 16 rfl ?_
 refine w_ 0 rfl (s_move rfl) ?_
 refine w_ 1 rfl (s_nilCheck rfl) ?_
 refine w_ 2 rfl z_1 ?_
 refine w_ 3 rfl z_1 ?_
 refine ga_readF 4 rfl (s_load1 rfl (fun w hw => peekB hw hX a19_3)) z_15 rfl rfl rfl z_4 ?_
 refine w_ 5 rfl ((s_neq rfl rfl).eq (congrArg (fun b => Value.bool (!b)) hq1.symm)) ?_
 refine w_ 6 rfl (s_move rfl) ?_
 (refine ga_free_g 7 rfl z_1 rfl rfl rfl rfl rfl rfl z_4 ?_)
 (refine ga_read_kg 8 rfl z_11 (s_load_blk rfl .del a13_3) z_15 rfl rfl rfl rfl rfl rfl z_4 ?_)
 (refine ga_free_g 9 rfl (s_move rfl) rfl rfl rfl rfl rfl rfl z_4 ?_)
 (refine ga_free_g 10 rfl (s_nilCheck rfl) rfl rfl rfl rfl rfl rfl z_4 ?_)
 (refine ga_free_g 11 rfl z_1 rfl rfl rfl rfl rfl rfl z_4 ?_)
 (refine ga_free_g 12 rfl z_1 rfl rfl rfl rfl rfl rfl z_4 ?_)
 (refine ga_readF_g 13 rfl (s_load1 rfl (fun w hw => peekB hw hX a19_1)) z_15 rfl rfl rfl rfl rfl rfl z_4 ?_)
 (refine ga_free_g 14 rfl ((s_neq rfl rfl).eq (congrArg (fun b => Value.bool (!b)) hq2.symm)) rfl rfl rfl rfl rfl rfl z_4 ?_)
 refine w_ 15 rfl z_12 ?_
 refine ga_done z_4 ?_
 repeat refine x_ ?_
 refine m_ ?_
 refine f_ (s_nilCheck rfl) ?_
 refine f_ z_1 ?_
 refine f_ z_1 ?_
 refine r_ (s_load1 rfl (fun w hw => peekB hw hX a19_14)) ?_
 refine f_ (s_makeFunc rfl rfl) ?_
 refine gl_callp rfl (IndexFunc_ct p.peers a.pa a.pc g3 m (by omega)) (fun h hh ⟨bs, hb⟩ => ⟨hr.le hh, Sat.blk hb z_2⟩) rfl ?_
 refine a_ ?_
 repeat refine n_ ?_
 refine g_ret ?_
 exact at_end1 rfl rfl [] ⟨rfl, rfl⟩ (fun _ h => h.dropAll)
theorem putx_length {xs vs : List Value} {q : Nat} (h : q + vs.length ≤ xs.length) : (putx xs q vs).length = xs.length := by
 simp only [putx, List.length_append, List.length_take, List.length_drop]; omega
theorem rdQ1_own {F : Snap} {w : World} {H H' : List As} {a : Option Addr} {l : List Pr} {n c q i j : Nat} {te : TypeId} {v : Value} (hw : Hp F w H) (u : Upd H (.own (.slice a n c) te 4 (prV l)) [] H') (h : q = 4 * i + j) (hi : i < l.length) (hv : (prC (l.getD i P0))[j]? = some v) : PeekC (hp w) (addO a q) [v] := rec_rd1 (C := prC) (hw.ownN u).2.2.1 prC_len P0 h hi hv
theorem pf_setPr {p : RP} (h : PFit p) (i : Nat) (q : Pr) (hq : 1 ≤ q.next ∧ q.next ≤ 4611686018427387904 ∧ 0 ≤ q.mtc ∧ q.mtc ≤ 4611686018427387904 ∧ 0 ≤ q.off ∧ q.off ≤ p.img.length) : PFit (setPr p i q) := by
 refine ⟨h.base, h.len, h.cl, h.dat, h.img, h.votes, ?_, fun r hr => ?_, h.ticks, h.term, h.commit⟩
 ·show (p.peers.set i q).length ≤ _
  rw [List.length_set]; exact h.peers
 ·rcases List.mem_or_eq_of_mem_set hr with h1 | h1
  ·exact h.prs r h1
  ·rw [h1]; exact hq
theorem isPeer_lt {p : RP} {m : MP} (h : isPeer p m = true) : peerAt p m < p.peers.length := of_decide_eq_true h
theorem peerI_yes {p : RP} {m : MP} (h : isPeer p m = true) : peerI p m = (peerAt p m : Nat) := by rw [peerI, if_pos h]
theorem peerI_no {p : RP} {m : MP} (h : isPeer p m = false) : peerI p m = -1 := by rw [peerI, if_neg (by rw [h]; decide)]
set_option maxRecDepth 8000 in
set_option maxHeartbeats 4000000 in
theorem got_ct (X : Nat) (d : MD) (m : MM) (hf : PFit d.p) (hm : MFit m.p) (ho : d.outs.length ≤ 1000000) : Ct Tryz.prog 61 [Ptr X, mmA m] (fun _ => True) (mdH X d) (MdP X d (gotP d.p m.p) (gotMs d.p m.p) (.tuple #[])) := by
 obtain ⟨p, a, outs, oa0, oc0⟩ := d
 simp only at hf ho
 have hpl := hf.peers
 have hoff := hm.off
 have himg := hf.img
 refine ct_enter 75 Tryz.func61 rfl rfl rfl ?_
 intro F _
 refine g_ownN (a := a.pa) z_2 (fun _ _ hpa => ?_)
 repeat refine x_ ?_
 refine gl_boxA rfl rfl ?_; intro g3
 repeat refine x_ ?_
 refine m_ ?_
 refine r_ ((s_load_blkW rfl z_2 z_7).eq (v' := mmA m) rfl) ?_
 refine gl_callp rfl (peer_ct X ⟨p, a, outs, oa0, oc0⟩ m hf) (fun h hh ⟨bs, hb⟩ => ⟨Sat.blk hb z_2, Sat.rd (a := a.pa) hb z_2⟩) rfl ?_
 refine a_ ?_
 repeat refine n_ ?_
 cases hip : isPeer p m.p
 ·have hbad : gotBad p m.p = true := by rw [gotBad, hip]; rfl
  have e1 : gotP p m.p = p := by rw [gotP, if_pos hbad]
  have e2 : gotMs p m.p = [] := by rw [gotMs, if_pos hbad]
  rw [peerI_no hip]
  simp only [e1, e2]
  repeat refine y_ ?_
  refine g_draw ([7, 11, 17, 22, 28, 33, 38, 43], [0, 1, 3, 7, 15, 31, 63, 127, 7, 511, 1023, 2047, 7, 4103, 12295, 28679, 61447, 126983, 262143, 524287, 1048575, 2097151, 4194303, 2097151, 10485759, 27262975, 60817407, 127926271, 262143999, 536870911, 1073741823, 2147483647, 4294967295, 8589934591, 17179869183, 34359738367, 68719476735, 137438953471, 274877906943, 137438953471, 687194767359, 1786706395135, 3985729650687, 8383776161791, 17179869183999, 35184372088831, 70368744177663], []) [.blk X (mdO ⟨p, a, outs, oa0, oc0⟩), blkMsg g3 m] 47 rfl ?_
  refine w_ 0 rfl (s_move rfl) ?_
  refine w_ 1 rfl ((s_lss rfl rfl).eq (v' := .bool true) rfl) ?_
  refine w_ 2 rfl (s_move rfl) ?_
  (refine s_ 3 ?_)
  (refine s_ 4 ?_)
  (refine s_ 5 ?_)
  (refine s_ 6 ?_)
  (refine s_ 7 ?_)
  (refine s_ 8 ?_)
  (refine s_ 9 ?_)
  (refine s_ 10 ?_)
  (refine s_ 11 ?_)
  (refine s_ 12 ?_)
  (refine s_ 13 ?_)
  (refine s_ 14 ?_)
  (refine s_ 15 ?_)
  (refine s_ 16 ?_)
  (refine s_ 17 ?_)
  (refine s_ 18 ?_)
  refine w_ 19 rfl z_13 ?_
  refine w_ 20 rfl (s_move rfl) ?_
  (refine s_ 21 ?_)
  (refine s_ 22 ?_)
  (refine s_ 23 ?_)
  (refine s_ 24 ?_)
  (refine s_ 25 ?_)
  (refine s_ 26 ?_)
  (refine s_ 27 ?_)
  (refine s_ 28 ?_)
  (refine s_ 29 ?_)
  refine w_ 30 rfl z_13 ?_
  refine w_ 31 rfl (s_move rfl) ?_
  (refine s_ 32 ?_)
  (refine s_ 33 ?_)
  (refine s_ 34 ?_)
  refine w_ 35 rfl z_13 ?_
  refine w_ 36 rfl (s_move rfl) ?_
  (refine s_ 37 ?_)
  (refine s_ 38 ?_)
  (refine s_ 39 ?_)
  (refine s_ 40 ?_)
  (refine s_ 41 ?_)
  (refine s_ 42 ?_)
  (refine s_ 43 ?_)
  (refine s_ 44 ?_)
  (refine s_ 45 ?_)
  refine w_ 46 rfl z_13 ?_
  refine ga_done z_4 ?_
  repeat refine y_ ?_
  refine g_ret ?_
  exact at_end0 rfl (mdH X ⟨p, a, outs, oa0, oc0⟩ ++ []) (MdP.same X ⟨p, a, outs, oa0, oc0⟩ ⟨p, a, outs, oa0, oc0⟩ _ rfl) (fun w hw => hw.drop)
 rw [peerI_yes hip]
 have hil := isPeer_lt hip
 obtain ⟨i, hi⟩ : ∃ i, i = peerAt p m.p := ⟨_, rfl⟩
 rw [← hi] at hil
 rw [← hi]
 have hsome : ∃ ad, a.pa = some ad := hpa (by show 0 < p.peers.length; omega)
 obtain ⟨q, hq⟩ : ∃ q, q = peerG p m.p := ⟨_, rfl⟩
 have hqg : q = p.peers.getD i P0 := by rw [hq, peerG, hi]
 obtain ⟨q1, hq1⟩ : ∃ b, b = decide (p.base < q.next) := ⟨_, rfl⟩
 obtain ⟨q2, hq2⟩ : ∃ b, b = decide (m.p.index = p.base) := ⟨_, rfl⟩
 obtain ⟨q3, hq3⟩ : ∃ b, b = decide (m.p.off < 0) := ⟨_, rfl⟩
 obtain ⟨q4, hq4⟩ : ∃ b, b = decide ((p.img.length : Int) < m.p.off) := ⟨_, rfl⟩
 have hb : gotBad p m.p = (q1 || (!q2 || (q3 || q4))) := by rw [gotBad, hip, ← hq, hq1, hq2, hq3, hq4]; rfl
 rcases (show (q1 = false ∧ q2 = true ∧ q3 = false ∧ q4 = false) ∨ q1 = true ∨ (q1 = false ∧ q2 = false) ∨ (q1 = false ∧ q2 = true ∧ q3 = true) ∨ (q1 = false ∧ q2 = true ∧ q3 = false ∧ q4 = true) by cases q1 <;> cases q2 <;> cases q3 <;> cases q4 <;> simp) with ⟨rfl, rfl, rfl, rfl⟩ | rfl | ⟨rfl, rfl⟩ | ⟨rfl, rfl, rfl⟩ | ⟨rfl, rfl, rfl, rfl⟩
 rotate_left
 iterate 4
  ·have hbad : gotBad p m.p = true := by rw [hb]; rfl
   have e1 : gotP p m.p = p := by rw [gotP, if_pos hbad]
   have e2 : gotMs p m.p = [] := by rw [gotMs, if_pos hbad]
   simp only [e1, e2]
   repeat refine y_ ?_
   refine g_draw ([7, 11, 17, 22, 28, 33, 38, 43], [0, 1, 3, 7, 15, 31, 63, 127, 7, 511, 1023, 2047, 7, 4103, 12295, 28679, 61447, 126983, 262143, 524287, 1048575, 2097151, 4194303, 2097151, 10485759, 27262975, 60817407, 127926271, 262143999, 536870911, 1073741823, 2147483647, 4294967295, 8589934591, 17179869183, 34359738367, 68719476735, 137438953471, 274877906943, 137438953471, 687194767359, 1786706395135, 3985729650687, 8383776161791, 17179869183999, 35184372088831, 70368744177663], []) [.blk X (mdO ⟨p, a, outs, oa0, oc0⟩), blkMsg g3 m, OwnP a.pa p.peers a.pc] 47 rfl ?_
   refine w_ 0 rfl (s_move rfl) ?_
   refine w_ 1 rfl ((s_lss rfl rfl).eq (v' := .bool false) (congrArg Value.bool (decide_eq_false (by omega)))) ?_
   refine w_ 2 rfl (s_move rfl) ?_
   (refine ga_free_g 3 rfl (s_move rfl) rfl rfl rfl rfl rfl rfl z_4 ?_)
   (refine ga_free_g 4 rfl (s_nilCheck rfl) rfl rfl rfl rfl rfl rfl z_4 ?_)
   (refine ga_free_g 5 rfl z_1 rfl rfl rfl rfl rfl rfl z_4 ?_)
   (refine ga_free_g 6 rfl z_1 rfl rfl rfl rfl rfl rfl z_4 ?_)
   (refine ga_read_kg 7 rfl z_11 (s_load_blk rfl .del a19_14) k_ rfl rfl rfl rfl rfl rfl z_4 ?_)
   (refine ga_free_g 8 rfl (s_move rfl) rfl rfl rfl rfl rfl rfl z_4 ?_)
   (refine ga_free_g 9 rfl ((s_indexAddr rfl hsome rfl (by show 0 ≤ (i : Int) ∧ (i : Int) < (p.peers.length : Nat); omega)).eq (v' := .pointer (addO a.pa (4 * i))) (by congr 2; omega)) rfl rfl rfl rfl rfl rfl z_4 ?_)
   (refine ga_free_g 10 rfl z_8 rfl rfl rfl rfl rfl rfl z_4 ?_)
   (refine ga_read_kg 11 rfl z_17 (s_load1 (v := .int .u64 q.next) rfl (fun w hw => rdQ1_own (l := p.peers) hw .del (i := i) (j := 1) (by omega) hil (by rw [← hqg]; rfl))) k_ rfl rfl rfl rfl rfl rfl z_4 ?_)
   (refine ga_free_g 12 rfl (s_move rfl) rfl rfl rfl rfl rfl rfl z_4 ?_)
   (refine ga_free_g 13 rfl (s_nilCheck rfl) rfl rfl rfl rfl rfl rfl z_4 ?_)
   (refine ga_free_g 14 rfl z_1 rfl rfl rfl rfl rfl rfl z_4 ?_)
   (refine ga_free_g 15 rfl z_1 rfl rfl rfl rfl rfl rfl z_4 ?_)
   (refine ga_free_g 16 rfl z_1 rfl rfl rfl rfl rfl rfl z_4 ?_)
   (refine ga_read_kg 17 rfl z_11 (s_load_blk rfl .del a19_5) k_ rfl rfl rfl rfl rfl rfl z_4 ?_)
   (refine ga_free_g 18 rfl ((s_gtr rfl rfl).eb hq1) rfl rfl rfl rfl rfl rfl z_4 ?_)
   refine w_ 19 rfl z_12 ?_
   refine w_ 20 rfl (s_move rfl) ?_
   (first | refine s_ 21 ?_ | refine ga_free_g 21 rfl z_1 rfl rfl rfl rfl rfl rfl z_4 ?_)
   (first | refine s_ 22 ?_ | refine ga_read_kg 22 rfl z_9 (s_load_blk rfl .del a13_4) k_ rfl rfl rfl rfl rfl rfl z_4 ?_)
   (first | refine s_ 23 ?_ | refine ga_free_g 23 rfl (s_move rfl) rfl rfl rfl rfl rfl rfl z_4 ?_)
   (first | refine s_ 24 ?_ | refine ga_free_g 24 rfl (s_nilCheck rfl) rfl rfl rfl rfl rfl rfl z_4 ?_)
   (first | refine s_ 25 ?_ | refine ga_free_g 25 rfl z_1 rfl rfl rfl rfl rfl rfl z_4 ?_)
   (first | refine s_ 26 ?_ | refine ga_free_g 26 rfl z_1 rfl rfl rfl rfl rfl rfl z_4 ?_)
   (first | refine s_ 27 ?_ | refine ga_free_g 27 rfl z_1 rfl rfl rfl rfl rfl rfl z_4 ?_)
   (first | refine s_ 28 ?_ | refine ga_read_kg 28 rfl z_11 (s_load_blk rfl .del a19_5) k_ rfl rfl rfl rfl rfl rfl z_4 ?_)
   (first | refine s_ 29 ?_ | refine ga_free_g 29 rfl ((s_neq rfl rfl).eq (congrArg (fun b => Value.bool (!b)) hq2.symm)) rfl rfl rfl rfl rfl rfl z_4 ?_)
   refine w_ 30 rfl z_6 ?_
   refine w_ 31 rfl (s_move rfl) ?_
   (first | refine s_ 32 ?_ | refine ga_free_g 32 rfl z_1 rfl rfl rfl rfl rfl rfl z_4 ?_)
   (first | refine s_ 33 ?_ | refine ga_read_kg 33 rfl z_9 (s_load_blk rfl .del a13_10) k_ rfl rfl rfl rfl rfl rfl z_4 ?_)
   (first | refine s_ 34 ?_ | refine ga_free_g 34 rfl ((s_lss rfl rfl).eb hq3) rfl rfl rfl rfl rfl rfl z_4 ?_)
   refine w_ 35 rfl z_6 ?_
   refine w_ 36 rfl (s_move rfl) ?_
   (first | refine s_ 37 ?_ | refine ga_free_g 37 rfl z_1 rfl rfl rfl rfl rfl rfl z_4 ?_)
   (first | refine s_ 38 ?_ | refine ga_read_kg 38 rfl z_9 (s_load_blk rfl .del a13_10) k_ rfl rfl rfl rfl rfl rfl z_4 ?_)
   (first | refine s_ 39 ?_ | refine ga_free_g 39 rfl (s_move rfl) rfl rfl rfl rfl rfl rfl z_4 ?_)
   (first | refine s_ 40 ?_ | refine ga_free_g 40 rfl (s_nilCheck rfl) rfl rfl rfl rfl rfl rfl z_4 ?_)
   (first | refine s_ 41 ?_ | refine ga_free_g 41 rfl z_1 rfl rfl rfl rfl rfl rfl z_4 ?_)
   (first | refine s_ 42 ?_ | refine ga_free_g 42 rfl z_1 rfl rfl rfl rfl rfl rfl z_4 ?_)
   (first | refine s_ 43 ?_ | refine ga_read_kg 43 rfl z_11 (s_load_blk rfl .del a19_9) k_ rfl rfl rfl rfl rfl rfl z_4 ?_)
   (first | refine s_ 44 ?_ | refine ga_free_g 44 rfl (s_len_str rfl) rfl rfl rfl rfl rfl rfl z_4 ?_)
   (first | refine s_ 45 ?_ | refine ga_free_g 45 rfl ((s_gtr rfl rfl).eb hq4) rfl rfl rfl rfl rfl rfl z_4 ?_)
   refine w_ 46 rfl z_6 ?_
   refine ga_done z_4 ?_
   repeat refine y_ ?_
   refine g_ret ?_
   exact at_end0 rfl (mdH X ⟨p, a, outs, oa0, oc0⟩ ++ []) (MdP.same X ⟨p, a, outs, oa0, oc0⟩ ⟨p, a, outs, oa0, oc0⟩ _ rfl) (fun w hw => hw.drop)
 have hbad : gotBad p m.p = false := by rw [hb]; rfl
 have e1 : gotP p m.p = setPr p i { q with off := m.p.off } := by rw [gotP, if_neg (by rw [hbad]; decide), gotPr, ← hi, ← hq]
 have e2 : gotMs p m.p = [updateP (setPr p i { q with off := m.p.off }) { q with off := m.p.off }] := by rw [gotMs, if_neg (by rw [hbad]; decide), e1, gotPr, ← hq]
 have hqf := hf.prs q (by rw [hqg]; exact getD_memP hil)
 have h3 := of_decide_eq_false hq3.symm
 have h4 := of_decide_eq_false hq4.symm
 have hf1 := pf_setPr hf i { q with off := m.p.off } ⟨hqf.1, hqf.2.1, hqf.2.2.1, hqf.2.2.2.1, by show 0 ≤ m.p.off; omega, by show m.p.off ≤ p.img.length; omega⟩
 have hsl : (p.peers.set i { q with off := m.p.off }).length = p.peers.length := List.length_set
 simp only [e1, e2]
 repeat refine y_ ?_
 refine g_draw ([7, 11, 17, 22, 28, 33, 38, 43], [0, 1, 3, 7, 15, 31, 63, 127, 7, 511, 1023, 2047, 7, 4103, 12295, 28679, 61447, 126983, 262143, 524287, 1048575, 2097151, 4194303, 2097151, 10485759, 27262975, 60817407, 127926271, 262143999, 536870911, 1073741823, 2147483647, 4294967295, 8589934591, 17179869183, 34359738367, 68719476735, 137438953471, 274877906943, 137438953471, 687194767359, 1786706395135, 3985729650687, 8383776161791, 17179869183999, 35184372088831, 70368744177663], []) [.blk X (mdO ⟨p, a, outs, oa0, oc0⟩), blkMsg g3 m, OwnP a.pa p.peers a.pc] 47 rfl ?_
 refine w_ 0 rfl (s_move rfl) ?_
 refine w_ 1 rfl ((s_lss rfl rfl).eq (v' := .bool false) (congrArg Value.bool (decide_eq_false (by omega)))) ?_
 refine w_ 2 rfl (s_move rfl) ?_
 (refine ga_free_g 3 rfl (s_move rfl) rfl rfl rfl rfl rfl rfl z_4 ?_)
 (refine ga_free_g 4 rfl (s_nilCheck rfl) rfl rfl rfl rfl rfl rfl z_4 ?_)
 (refine ga_free_g 5 rfl z_1 rfl rfl rfl rfl rfl rfl z_4 ?_)
 (refine ga_free_g 6 rfl z_1 rfl rfl rfl rfl rfl rfl z_4 ?_)
 (refine ga_read_kg 7 rfl z_11 (s_load_blk rfl .del a19_14) k_ rfl rfl rfl rfl rfl rfl z_4 ?_)
 (refine ga_free_g 8 rfl (s_move rfl) rfl rfl rfl rfl rfl rfl z_4 ?_)
 (refine ga_free_g 9 rfl ((s_indexAddr rfl hsome rfl (by show 0 ≤ (i : Int) ∧ (i : Int) < (p.peers.length : Nat); omega)).eq (v' := .pointer (addO a.pa (4 * i))) (by congr 2; omega)) rfl rfl rfl rfl rfl rfl z_4 ?_)
 (refine ga_free_g 10 rfl z_8 rfl rfl rfl rfl rfl rfl z_4 ?_)
 (refine ga_read_kg 11 rfl z_17 (s_load1 (v := .int .u64 q.next) rfl (fun w hw => rdQ1_own (l := p.peers) hw .del (i := i) (j := 1) (by omega) hil (by rw [← hqg]; rfl))) k_ rfl rfl rfl rfl rfl rfl z_4 ?_)
 (refine ga_free_g 12 rfl (s_move rfl) rfl rfl rfl rfl rfl rfl z_4 ?_)
 (refine ga_free_g 13 rfl (s_nilCheck rfl) rfl rfl rfl rfl rfl rfl z_4 ?_)
 (refine ga_free_g 14 rfl z_1 rfl rfl rfl rfl rfl rfl z_4 ?_)
 (refine ga_free_g 15 rfl z_1 rfl rfl rfl rfl rfl rfl z_4 ?_)
 (refine ga_free_g 16 rfl z_1 rfl rfl rfl rfl rfl rfl z_4 ?_)
 (refine ga_read_kg 17 rfl z_11 (s_load_blk rfl .del a19_5) k_ rfl rfl rfl rfl rfl rfl z_4 ?_)
 (refine ga_free_g 18 rfl ((s_gtr rfl rfl).eb hq1) rfl rfl rfl rfl rfl rfl z_4 ?_)
 refine w_ 19 rfl z_12 ?_
 refine w_ 20 rfl (s_move rfl) ?_
 (refine ga_free_g 21 rfl z_1 rfl rfl rfl rfl rfl rfl z_4 ?_)
 (refine ga_read_kg 22 rfl z_9 (s_load_blk rfl .del a13_4) k_ rfl rfl rfl rfl rfl rfl z_4 ?_)
 (refine ga_free_g 23 rfl (s_move rfl) rfl rfl rfl rfl rfl rfl z_4 ?_)
 (refine ga_free_g 24 rfl (s_nilCheck rfl) rfl rfl rfl rfl rfl rfl z_4 ?_)
 (refine ga_free_g 25 rfl z_1 rfl rfl rfl rfl rfl rfl z_4 ?_)
 (refine ga_free_g 26 rfl z_1 rfl rfl rfl rfl rfl rfl z_4 ?_)
 (refine ga_free_g 27 rfl z_1 rfl rfl rfl rfl rfl rfl z_4 ?_)
 (refine ga_read_kg 28 rfl z_11 (s_load_blk rfl .del a19_5) k_ rfl rfl rfl rfl rfl rfl z_4 ?_)
 (refine ga_free_g 29 rfl ((s_neq rfl rfl).eq (congrArg (fun b => Value.bool (!b)) hq2.symm)) rfl rfl rfl rfl rfl rfl z_4 ?_)
 refine w_ 30 rfl z_12 ?_
 refine w_ 31 rfl (s_move rfl) ?_
 (refine ga_free_g 32 rfl z_1 rfl rfl rfl rfl rfl rfl z_4 ?_)
 (refine ga_read_kg 33 rfl z_9 (s_load_blk rfl .del a13_10) k_ rfl rfl rfl rfl rfl rfl z_4 ?_)
 (refine ga_free_g 34 rfl ((s_lss rfl rfl).eb hq3) rfl rfl rfl rfl rfl rfl z_4 ?_)
 refine w_ 35 rfl z_12 ?_
 refine w_ 36 rfl (s_move rfl) ?_
 (refine ga_free_g 37 rfl z_1 rfl rfl rfl rfl rfl rfl z_4 ?_)
 (refine ga_read_kg 38 rfl z_9 (s_load_blk rfl .del a13_10) k_ rfl rfl rfl rfl rfl rfl z_4 ?_)
 (refine ga_free_g 39 rfl (s_move rfl) rfl rfl rfl rfl rfl rfl z_4 ?_)
 (refine ga_free_g 40 rfl (s_nilCheck rfl) rfl rfl rfl rfl rfl rfl z_4 ?_)
 (refine ga_free_g 41 rfl z_1 rfl rfl rfl rfl rfl rfl z_4 ?_)
 (refine ga_free_g 42 rfl z_1 rfl rfl rfl rfl rfl rfl z_4 ?_)
 (refine ga_read_kg 43 rfl z_11 (s_load_blk rfl .del a19_9) k_ rfl rfl rfl rfl rfl rfl z_4 ?_)
 (refine ga_free_g 44 rfl (s_len_str rfl) rfl rfl rfl rfl rfl rfl z_4 ?_)
 (refine ga_free_g 45 rfl ((s_gtr rfl rfl).eb hq4) rfl rfl rfl rfl rfl rfl z_4 ?_)
 refine w_ 46 rfl z_12 ?_
 refine ga_done z_4 ?_
 repeat refine y_ ?_
 refine g_draw ([4, 7], [0, 1, 3, 7, 15, 0, 0, 64, 255, 511, 1023], [10]) [.blk X (mdO ⟨p, a, outs, oa0, oc0⟩), blkMsg g3 m] 11 rfl ?_
 refine w_ 0 rfl (s_move rfl) ?_
 refine w_ 1 rfl (s_nilCheck rfl) ?_
 refine w_ 2 rfl z_1 ?_
 refine w_ 3 rfl z_1 ?_
 (refine ga_read_k 4 rfl z_11 (s_load_blk rfl .del a19_14) k_ rfl rfl rfl z_4 ?_)
 refine w_ 5 rfl (s_move rfl) ?_
 refine w_ 6 rfl z_1 ?_
 (refine ga_read_k 7 rfl z_9 (s_load_blk rfl .del a13_10) k_ rfl rfl rfl z_4 ?_)
 refine w_ 8 rfl ((s_indexAddr rfl hsome rfl (by show 0 ≤ (i : Int) ∧ (i : Int) < (p.peers.length : Nat); omega)).eq (v' := .pointer (addO a.pa (4 * i))) (by congr 2; omega)) ?_
 refine w_ 9 rfl z_8 ?_
 refine ga_one 10 rfl z_4 ?_
 refine gl_store_own (q := 4 * i + 3) rfl rfl z_5 z_7 (by decide) z_3 (by show 4 * i + 3 + 1 ≤ (prV p.peers).length; rw [prV_len]; omega) ?_
 refine gl_nil ?_
 refine at_ga (.inl z_4) ?_
 refine ga_done z_4 ?_
 repeat refine y_ ?_
 have hpx := putx_pr (l := p.peers) (k := i) (y := { q with off := m.p.off }) (j := 3) (vs := [.int .i64 m.p.off]) hil (Nat.le_refl 4) (by rw [← hqg]; rfl)
 refine g_pull (H' := blkMsg g3 m :: mdH X ⟨setPr p i { q with off := m.p.off }, a, outs, oa0, oc0⟩) (fun w hw => by
  simp only [mdH, mdO, OwnP, setPr, hsl, ← hpx]
  exact hw.perm (perm_up z_2 (perm_up z_2 (perm_up z_2 (perm_up z_2 (perm_up z_2 (perm_up z_2 (.refl _)))))))) ?_
 repeat refine x_ ?_
 refine m_ ?_
 refine m_ ?_
 refine f_ (s_nilCheck rfl) ?_
 refine f_ z_1 ?_
 refine f_ z_1 ?_
 refine r_ (by exact s_load_blk rfl z_2 a19_14) ?_
 refine m_ ?_
 refine f_ ((s_indexAddr (len := (p.peers.set i { q with off := m.p.off }).length) rfl hsome rfl (by rw [hsl]; omega)).eq (v' := .pointer (addO a.pa (4 * i))) (by congr 2; omega)) ?_
 refine r_ (s_loadN (cs := prC { q with off := m.p.off }) rfl (fun w hw => by have := rdQ_own (l := p.peers.set i { q with off := m.p.off }) (a := a.pa) (q := 4 * i) hw z_2 (i := i) rfl (by rw [hsl]; exact hil); rwa [show (p.peers.set i { q with off := m.p.off }).getD i P0 = { q with off := m.p.off } by rw [List.getD_eq_getElem?_getD, List.getElem?_set_self hil]; rfl] at this) rfl) ?_
 refine gl_call [blkMsg g3 m] rfl (update_ct X ⟨setPr p i { q with off := m.p.off }, a, outs, oa0, oc0⟩ { q with off := m.p.off } hf1 ⟨⟨hqf.1, hqf.2.1⟩, ⟨by show 0 ≤ m.p.off; omega, by show m.p.off ≤ p.img.length; omega⟩⟩ (by simp only; omega)) (fun w hw => hw.perm (perm_up z_2 (perm_up z_2 (perm_up z_2 (perm_up z_2 (perm_up z_2 (perm_up z_2 (.refl _)))))))) (fun _ _ _ => trivial) rfl ?_; rintro v A ⟨rfl, ms, oa, oc, Z, e4, rfl, f4⟩
 repeat refine n_ ?_
 exact at_end0 rfl (mdH X ⟨setPr p i { q with off := m.p.off }, a, outs ++ ms, oa, oc⟩ ++ Z) ⟨rfl, ⟨setPr p i { q with off := m.p.off }, a, outs ++ ms, oa, oc⟩, Z, rfl, by rw [List.map_append, e4], rfl, fun h f hs m2 hm2 => by
  rcases List.mem_append.1 hm2 with hm2 | hm2
  ·exact f m2 hm2
  ·exact f4 h hs m2 hm2⟩ (fun w hw => Hp.left hw)
end Go.Proofs.YtodcghipfolejaaGreat.Rf
namespace Go.Proofs.YtodcghipfolejaaGreat.Rf
open Go Go.Sl
theorem commit1_log (p : RP) : (commit1 p).base = p.base ∧ (commit1 p).l = p.l ∧ (commit1 p).peers = p.peers ∧ (commit1 p).img = p.img := by
 unfold commit1; split <;> exact ⟨rfl, rfl, rfl, rfl⟩
theorem commitP_log (p : RP) : (commitP p).base = p.base ∧ (commitP p).l = p.l ∧ (commitP p).img = p.img ∧ ((commitP p).role = 2 → (commitP p).peers = p.peers) := by
 obtain ⟨h1, h2, h3, h4⟩ := commit1_log p
 unfold commitP
 split
 ·exact ⟨h1, h2, h4, fun h => by cases h⟩
 ·exact ⟨h1, h2, h4, fun _ => h3⟩
theorem commitP_last (p : RP) : lastI (commitP p).g = lastI p.g := by
 obtain ⟨h1, h2, _⟩ := commitP_log p
 show (commitP p).base + ((commitP p).l.length : Int) = p.base + (p.l.length : Int)
 rw [h1, h2]
theorem set_getD {l : List Pr} {i : Nat} {q : Pr} (h : i < l.length) : (l.set i q).getD i P0 = q := by rw [List.getD_eq_getElem?_getD, List.getElem?_set_self h]; rfl
theorem rdQs_own {F : Snap} {w : World} {H H' : List As} {a : Option Addr} {l : List Pr} {n c q i : Nat} {te : TypeId} {y : Pr} (hw : Hp F w H) (u : Upd H (.own (.slice a n c) te 4 (prV (l.set i y))) [] H') (h : q = 4 * i) (hi : i < l.length) : PeekC (hp w) (addO a q) (prC y) := by
 have := rdQ_own (l := l.set i y) hw u h (by rw [List.length_set]; exact hi)
 rwa [set_getD hi] at this
theorem rdQs1_own {F : Snap} {w : World} {H H' : List As} {a : Option Addr} {l : List Pr} {n c q i j : Nat} {te : TypeId} {y : Pr} {v : Value} (hw : Hp F w H) (u : Upd H (.own (.slice a n c) te 4 (prV (l.set i y))) [] H') (h : q = 4 * i + j) (hi : i < l.length) (hv : (prC y)[j]? = some v) : PeekC (hp w) (addO a q) [v] :=
 rdQ1_own (l := l.set i y) hw u h (by rw [List.length_set]; exact hi) (by rw [set_getD hi]; exact hv)
theorem putx_fwd {l : List Pr} {i : Nat} {q : Pr} {n m o : Int} (hi : i < l.length) (hq : q = l.getD i P0) : putx (putx (putx (prV l) (4 * i + 2) [.int .u64 m]) (4 * i + 1) [.int .u64 n]) (4 * i + 3) [.int .i64 o] = prV (l.set i ⟨q.node, n, m, o⟩) := by
 rw [putx_pr (l := l) (k := i) (y := { q with mtc := m }) hi (Nat.le_succ 3) (by rw [← hq]; rfl)]
 rw [putx_pr (l := l.set i { q with mtc := m }) (k := i) (y := { q with mtc := m, next := n }) (by rw [List.length_set]; exact hi) (by show 2 ≤ 4; decide) (by rw [set_getD hi]; rfl)]
 rw [putx_pr (l := (l.set i { q with mtc := m }).set i { q with mtc := m, next := n }) (k := i) (y := ⟨q.node, n, m, o⟩) (by rw [List.length_set, List.length_set]; exact hi) (Nat.le_refl 4) (by rw [set_getD (by rw [List.length_set]; exact hi)]; rfl)]
 rw [List.set_set, List.set_set]
set_option maxRecDepth 8000 in
set_option maxHeartbeats 8000000 in
theorem ack_ct (X : Nat) (d : MD) (m : MM) (hf : PFit d.p) (hm : MFit m.p) (hsm : ∀ q ∈ d.p.peers, q.mtc ≤ 1000000000000 ∧ q.next ≤ 1000000000000) (ho : d.outs.length ≤ 100000) : Ct Tryz.prog 60 [Ptr X, mmA m] (fun _ => True) (mdH X d) (MdP X d (ackP d.p m.p) (ackMs d.p m.p) (.tuple #[])) := by
 obtain ⟨p, a, outs, oa0, oc0⟩ := d
 simp only at hf ho hsm
 have hpl := hf.peers
 have hix := hm.index
 have hlast := hf.last
 refine ct_enter 105 Tryz.func60 rfl rfl rfl ?_
 intro F _
 refine g_ownN (a := a.pa) z_2 (fun _ _ hpa => ?_)
 refine g_ownN (a := a.la) z_2 (fun _ hcap _ => ?_)
 repeat refine x_ ?_
 refine gl_boxA rfl rfl ?_; intro g3
 repeat refine x_ ?_
 refine m_ ?_
 refine r_ ((s_load_blkW rfl z_2 z_7).eq (v' := mmA m) rfl) ?_
 refine gl_callp rfl (peer_ct X ⟨p, a, outs, oa0, oc0⟩ m hf) (fun h hh ⟨bs, hb⟩ => ⟨Sat.blk hb z_2, Sat.rd (a := a.pa) hb z_2⟩) rfl ?_
 refine a_ ?_
 repeat refine n_ ?_
 cases hip : isPeer p m.p
 ·have e1 : ackP p m.p = p := by rw [ackP, if_pos hip]
  have e2 : ackMs p m.p = [] := by rw [ackMs, if_pos hip]
  rw [peerI_no hip]
  simp only [e1, e2]
  repeat refine x_ ?_
  refine m_ ?_
  refine f_ ((s_lss rfl rfl).eq (v' := .bool true) rfl) ?_
  repeat refine n_ ?_
  refine g_ret ?_
  exact at_end0 rfl (mdH X ⟨p, a, outs, oa0, oc0⟩ ++ []) (MdP.same X ⟨p, a, outs, oa0, oc0⟩ ⟨p, a, outs, oa0, oc0⟩ _ rfl) (fun w hw => hw.drop)
 rw [peerI_yes hip]
 have hil := isPeer_lt hip
 obtain ⟨i, hi⟩ : ∃ i, i = peerAt p m.p := ⟨_, rfl⟩
 rw [← hi] at hil
 rw [← hi]
 have hsome : ∃ ad, a.pa = some ad := hpa (by show 0 < p.peers.length; omega)
 obtain ⟨q, hq⟩ : ∃ q, q = peerG p m.p := ⟨_, rfl⟩
 have hqg : q = p.peers.getD i P0 := by rw [hq, peerG, hi]
 have hqm : q ∈ p.peers := by rw [hqg]; exact getD_memP hil
 have hqf := hf.prs q hqm
 have hqs := hsm q hqm
 repeat refine x_ ?_
 refine m_ ?_
 refine f_ ((s_lss rfl rfl).eq (v' := .bool false) (congrArg Value.bool (decide_eq_false (by omega)))) ?_
 repeat refine x_ ?_
 refine m_ ?_
 refine f_ (s_nilCheck rfl) ?_
 refine f_ z_1 ?_
 refine f_ z_1 ?_
 refine r_ (by exact s_load_blk rfl z_2 a19_14) ?_
 refine m_ ?_
 refine f_ ((s_indexAddr rfl hsome rfl (by show 0 ≤ (i : Int) ∧ (i : Int) < (p.peers.length : Nat); omega)).eq (v' := .pointer (addO a.pa (4 * i))) (by congr 2; omega)) ?_
 refine a_ ?_
 repeat refine n_ ?_
 obtain ⟨ok, hoke⟩ : ∃ ok, ok = m.p.ok := ⟨_, rfl⟩
 repeat refine x_ ?_
 refine f_ z_1 ?_
 refine r_ (by exact s_load_blk rfl z_2 a13_7) ?_
 refine f_ ((s_not rfl).eq (v' := .bool (!ok)) (by rw [hoke])) ?_
 repeat refine n_ ?_
 have hsl : ∀ y, (p.peers.set i y).length = p.peers.length := fun y => List.length_set
 cases ok
 ·have hok : m.p.ok = false := hoke.symm
  obtain ⟨qb, hqb⟩ : ∃ qb, qb = backPr q m.p.index := ⟨_, rfl⟩
  have e1 : ackP p m.p = setPr p i qb := by rw [ackP, if_neg (by rw [hip]; decide), if_pos hok, ← hi, ← hq, hqb]
  have e2 : ackMs p m.p = [updateP (setPr p i qb) qb] := by rw [ackMs, if_neg (by rw [hip]; decide), if_pos hok, ← hi, ← hq, hqb]
  have hqbf : 1 ≤ qb.next ∧ qb.next ≤ 4611686018427387904 ∧ 0 ≤ qb.mtc ∧ qb.mtc ≤ 4611686018427387904 ∧ 0 ≤ qb.off ∧ qb.off ≤ p.img.length := by
   rw [hqb]
   show 1 ≤ max q.mtc (min (q.next - 1) m.p.index) + 1 ∧ max q.mtc (min (q.next - 1) m.p.index) + 1 ≤ _ ∧ 0 ≤ q.mtc ∧ q.mtc ≤ _ ∧ 0 ≤ q.off ∧ q.off ≤ p.img.length
   omega
  have hf1 := pf_setPr hf i qb hqbf
  simp only [e1, e2]
  repeat refine y_ ?_
  refine g_draw ([4, 8, 11], [0, 0, 2, 6, 14, 0, 32, 96, 224, 480, 0, 1024, 4064, 8190, 16382, 32767, 65535, 131071], [17]) [blkMsg g3 m, OwnP a.pa p.peers a.pc] 18 rfl ?_
  refine w_ 0 rfl (s_move rfl) ?_
  refine w_ 1 rfl (s_move rfl) ?_
  refine w_ 2 rfl (s_nilCheck_o rfl hsome) ?_
  refine w_ 3 rfl z_8 ?_
  refine ga_read_k 4 rfl z_9 (s_load1 (v := .int .u64 q.mtc) rfl (fun w hw => rdQ1_own (l := p.peers) hw .del (i := i) (j := 2) rfl hil (by rw [← hqg]; rfl))) k_ rfl rfl rfl z_4 ?_
  refine w_ 5 rfl (s_move rfl) ?_
  refine w_ 6 rfl (s_nilCheck_o rfl hsome) ?_
  refine w_ 7 rfl z_8 ?_
  refine ga_read_k 8 rfl z_9 (s_load1 (v := .int .u64 q.next) rfl (fun w hw => rdQ1_own (l := p.peers) hw .del (i := i) (j := 1) rfl hil (by rw [← hqg]; rfl))) k_ rfl rfl rfl z_4 ?_
  refine w_ 9 rfl (s_sub_u64 rfl rfl (by omega)) ?_
  refine w_ 10 rfl z_1 ?_
  (refine ga_read_k 11 rfl z_11 (s_load_blk rfl .del a13_4) k_ rfl rfl rfl z_4 ?_)
  refine w_ 12 rfl (s_min2 rfl rfl) ?_
  refine w_ 13 rfl (s_max2 rfl rfl) ?_
  refine w_ 14 rfl ((s_add_u64 rfl rfl (by omega)).eq (v' := .int .u64 qb.next) (by rw [hqb]; rfl)) ?_
  refine w_ 15 rfl (s_nilCheck_o rfl hsome) ?_
  refine w_ 16 rfl z_8 ?_
  refine ga_one 17 rfl z_4 ?_
  refine gl_store_own (q := 4 * i + 1) rfl rfl z_5 z_7 (by decide) z_3 (by show 4 * i + 1 + 1 ≤ (prV p.peers).length; rw [prV_len]; omega) ?_
  refine gl_nil ?_
  refine at_ga (.inl z_4) ?_
  refine ga_done z_4 ?_
  repeat refine y_ ?_
  have hpx := putx_pr (l := p.peers) (k := i) (y := qb) (j := 1) (vs := [.int .u64 qb.next]) hil (by show 2 ≤ 4; decide) (by rw [← hqg, hqb]; rfl)
  refine g_pull (H' := blkMsg g3 m :: mdH X ⟨setPr p i qb, a, outs, oa0, oc0⟩) (fun w hw => by
   simp only [mdH, mdO, OwnP, setPr, hsl, ← hpx]
   exact hw.perm (perm_up z_2 (perm_up z_2 (perm_up z_2 (perm_up z_2 (perm_up z_2 (perm_up z_2 (.refl _)))))))) ?_
  repeat refine x_ ?_
  refine m_ ?_
  refine m_ ?_
  refine f_ (s_nilCheck_o rfl hsome) ?_
  refine r_ (s_loadN (cs := prC qb) rfl (fun w hw => rdQs_own (l := p.peers) (a := a.pa) hw z_2 (i := i) rfl hil) rfl) ?_
  refine gl_call [blkMsg g3 m] rfl (update_ct X ⟨setPr p i qb, a, outs, oa0, oc0⟩ qb hf1 ⟨⟨hqbf.1, hqbf.2.1⟩, hqbf.2.2.2.2⟩ (by simp only; omega)) (fun w hw => hw.perm (perm_up z_2 (perm_up z_2 (perm_up z_2 (perm_up z_2 (perm_up z_2 (perm_up z_2 (.refl _)))))))) (fun _ _ _ => trivial) rfl ?_; rintro v A ⟨rfl, ms, oa, oc, Z, e4, rfl, f4⟩
  repeat refine n_ ?_
  refine g_ret ?_
  exact at_end0 rfl (mdH X ⟨setPr p i qb, a, outs ++ ms, oa, oc⟩ ++ Z) ⟨rfl, ⟨setPr p i qb, a, outs ++ ms, oa, oc⟩, Z, rfl, by rw [List.map_append, e4], rfl, fun h f hs m2 hm2 => by
   rcases List.mem_append.1 hm2 with hm2 | hm2
   ·exact f m2 hm2
   ·exact f4 h hs m2 hm2⟩ (fun w hw => Hp.left hw)
 have hok : m.p.ok = true := hoke.symm
 obtain ⟨q1, hq1⟩ : ∃ b, b = decide (m.p.index ≤ q.mtc) := ⟨_, rfl⟩
 obtain ⟨q2, hq2⟩ : ∃ b, b = decide (lastI p.g < m.p.index) := ⟨_, rfl⟩
 repeat refine y_ ?_
 rcases (show (q1 = false ∧ q2 = false) ∨ q1 = true ∨ (q1 = false ∧ q2 = true) by cases q1 <;> cases q2 <;> simp) with ⟨rfl, rfl⟩ | rfl | ⟨rfl, rfl⟩
 rotate_left
 iterate 2
  ·have hbad : m.p.index ≤ (peerG p m.p).mtc ∨ lastI p.g < m.p.index := by
    rw [← hq]
    first | exact .inl (of_decide_eq_true hq1.symm) | exact .inr (of_decide_eq_true hq2.symm)
   have e1 : ackP p m.p = p := by rw [ackP, if_neg (by rw [hip]; decide), if_neg (by rw [hok]; decide), if_pos hbad]
   have e2 : ackMs p m.p = [] := by rw [ackMs, if_neg (by rw [hip]; decide), if_neg (by rw [hok]; decide), if_pos hbad]
   simp only [e1, e2]
   repeat refine y_ ?_
   refine g_draw ([1, 5, 9], [0, 1, 0, 4, 12, 28, 63, 127, 255, 511, 255, 1279, 4095, 8191], []) [blkMsg g3 m, OwnP a.pa p.peers a.pc] 14 rfl ?_
   refine w_ 0 rfl z_1 ?_
   (refine ga_read_k 1 rfl z_11 (s_load_blk rfl .del a13_4) k_ rfl rfl rfl z_4 ?_)
   refine w_ 2 rfl (s_move rfl) ?_
   refine w_ 3 rfl (s_nilCheck_o rfl hsome) ?_
   refine w_ 4 rfl z_8 ?_
   refine ga_read_k 5 rfl z_9 (s_load1 (v := .int .u64 q.mtc) rfl (fun w hw => rdQ1_own (l := p.peers) hw .del (i := i) (j := 2) rfl hil (by rw [← hqg]; rfl))) k_ rfl rfl rfl z_4 ?_
   refine w_ 6 rfl ((s_leq rfl rfl).eb hq1) ?_
   refine w_ 7 rfl (s_move rfl) ?_
   (first | refine s_ 8 ?_ | refine ga_free_g 8 rfl z_1 rfl rfl rfl rfl rfl rfl z_4 ?_)
   (first | refine s_ 9 ?_ | refine ga_read_kg 9 rfl z_11 (s_load_blk rfl .del a13_4) k_ rfl rfl rfl rfl rfl rfl z_4 ?_)
   (first | refine s_ 10 ?_ | refine ga_free_g 10 rfl (s_move rfl) rfl rfl rfl rfl rfl rfl z_4 ?_)
   refine ga_one 11 rfl z_4 ?_
   (first | refine gl_guard_no rfl rfl rfl rfl rfl rfl rfl ?_ | (refine v_ ?_; refine gl_callp rfl (rend_ct X ⟨p, a, outs, oa0, oc0⟩ hf hcap) (fun h hh ⟨bs, hb⟩ => ⟨Sat.blk hb z_2, Sat.rd (a := a.la) hb z_2⟩) rfl ?_; rw [show lastI (⟨p, a, outs, oa0, oc0⟩ : MD).p.g = lastI p.g from rfl]))
   refine gl_nil ?_
   refine at_ga (.inr (by exact keeps_of k_)) ?_
   (first | refine s_ 12 ?_ | refine ga_free_g 12 rfl ((s_gtr rfl rfl).eb hq2) rfl rfl rfl rfl rfl rfl z_4 ?_)
   refine w_ 13 rfl z_6 ?_
   refine ga_done z_4 ?_
   repeat refine y_ ?_
   refine g_ret ?_
   exact at_end0 rfl (mdH X ⟨p, a, outs, oa0, oc0⟩ ++ []) (MdP.same X ⟨p, a, outs, oa0, oc0⟩ ⟨p, a, outs, oa0, oc0⟩ _ rfl) (fun w hw => hw.drop)
 have n1 := of_decide_eq_false hq1.symm
 have n2 := of_decide_eq_false hq2.symm
 have hgood : ¬ (m.p.index ≤ (peerG p m.p).mtc ∨ lastI p.g < m.p.index) := by
  rw [← hq]; rintro (h | h)
  ·exact n1 h
  ·exact n2 h
 obtain ⟨qf, hqfe⟩ : ∃ qf, qf = fwdPr q m.p.index := ⟨_, rfl⟩
 have e1 : ackP p m.p = commitP (setPr p i qf) := by rw [ackP, if_neg (by rw [hip]; decide), if_neg (by rw [hok]; decide), if_neg hgood, ← hi, ← hq, hqfe]
 have e2 : ackMs p m.p = if (commitP (setPr p i qf)).role = 2 ∧ qf.next ≤ lastI p.g then [updateP (commitP (setPr p i qf)) qf] else [] := by
  rw [ackMs, if_neg (by rw [hip]; decide), if_neg (by rw [hok]; decide), if_neg hgood, e1, ← hq, hqfe]
 have hqff : 1 ≤ qf.next ∧ qf.next ≤ 4611686018427387904 ∧ 0 ≤ qf.mtc ∧ qf.mtc ≤ 4611686018427387904 ∧ 0 ≤ qf.off ∧ qf.off ≤ p.img.length := by
  rw [hqfe]
  show 1 ≤ max q.next (m.p.index + 1) ∧ max q.next (m.p.index + 1) ≤ _ ∧ 0 ≤ m.p.index ∧ m.p.index ≤ _ ∧ (0 : Int) ≤ 0 ∧ (0 : Int) ≤ p.img.length
  omega
 have hf1 := pf_setPr hf i qf hqff
 rw [e1, e2]
 repeat refine y_ ?_
 refine g_draw ([1, 5, 9], [0, 1, 0, 4, 12, 28, 63, 127, 255, 511, 255, 1279, 4095, 8191], []) [blkMsg g3 m, OwnP a.pa p.peers a.pc] 14 rfl ?_
 refine w_ 0 rfl z_1 ?_
 (refine ga_read_k 1 rfl z_11 (s_load_blk rfl .del a13_4) k_ rfl rfl rfl z_4 ?_)
 refine w_ 2 rfl (s_move rfl) ?_
 refine w_ 3 rfl (s_nilCheck_o rfl hsome) ?_
 refine w_ 4 rfl z_8 ?_
 refine ga_read_k 5 rfl z_9 (s_load1 (v := .int .u64 q.mtc) rfl (fun w hw => rdQ1_own (l := p.peers) hw .del (i := i) (j := 2) rfl hil (by rw [← hqg]; rfl))) k_ rfl rfl rfl z_4 ?_
 refine w_ 6 rfl ((s_leq rfl rfl).eb hq1) ?_
 refine w_ 7 rfl (s_move rfl) ?_
 (refine ga_free_g 8 rfl z_1 rfl rfl rfl rfl rfl rfl z_4 ?_)
 (refine ga_read_kg 9 rfl z_11 (s_load_blk rfl .del a13_4) k_ rfl rfl rfl rfl rfl rfl z_4 ?_)
 (refine ga_free_g 10 rfl (s_move rfl) rfl rfl rfl rfl rfl rfl z_4 ?_)
 refine ga_one 11 rfl z_4 ?_
 (refine v_ ?_; refine gl_callp rfl (rend_ct X ⟨p, a, outs, oa0, oc0⟩ hf hcap) (fun h hh ⟨bs, hb⟩ => ⟨Sat.blk hb z_2, Sat.rd (a := a.la) hb z_2⟩) rfl ?_; rw [show lastI (⟨p, a, outs, oa0, oc0⟩ : MD).p.g = lastI p.g from rfl])
 refine gl_nil ?_
 refine at_ga (.inr (by exact keeps_of k_)) ?_
 (refine ga_free_g 12 rfl ((s_gtr rfl rfl).eb hq2) rfl rfl rfl rfl rfl rfl z_4 ?_)
 refine w_ 13 rfl z_12 ?_
 refine ga_done z_4 ?_
 repeat refine y_ ?_
 refine g_cutK [(0, Ptr X), (3, Ptr g3), (4, .int .i64 (i : Nat)), (5, .pointer (addO a.pa (4 * i)))] (blkMsg g3 m :: mdH X ⟨setPr p i qf, a, outs, oa0, oc0⟩) ?_ ?_
 ·have hpx := putx_fwd (l := p.peers) (i := i) (q := q) (n := max q.next (m.p.index + 1)) (m := m.p.index) (o := 0) hil hqg
  have hqfe2 : qf = ⟨q.node, max q.next (m.p.index + 1), m.p.index, 0⟩ := hqfe
  repeat refine y_ ?_
  refine g_draw ([4, 8], [0, 0, 0, 0, 8, 0, 32, 96, 224, 0, 512, 1536, 4064, 505, 8697, 25081, 65531, 131067, 262139, 524287, 1048575, 2097151], [10, 15, 18, 21]) [blkMsg g3 m, OwnP a.pa p.peers a.pc] 22 rfl ?_
  refine w_ 0 rfl (s_move rfl) ?_
  refine w_ 1 rfl (s_move rfl) ?_
  refine w_ 2 rfl (s_move rfl) ?_
  refine w_ 3 rfl z_1 ?_
  (refine ga_read_k 4 rfl z_11 (s_load_blk rfl .del a13_4) k_ rfl rfl rfl z_4 ?_)
  refine w_ 5 rfl (s_move rfl) ?_
  refine w_ 6 rfl (s_nilCheck_o rfl hsome) ?_
  refine w_ 7 rfl z_8 ?_
  refine ga_read_k 8 rfl z_9 (s_load1 (v := .int .u64 q.next) rfl (fun w hw => rdQ1_own (l := p.peers) hw .del (i := i) (j := 1) rfl hil (by rw [← hqg]; rfl))) k_ rfl rfl rfl z_4 ?_
  refine w_ 9 rfl z_1 ?_
  refine w_ 13 rfl (s_nilCheck_o rfl hsome) ?_
  refine w_ 14 rfl z_8 ?_
  refine ga_two 10 15 rfl rfl z_4 ?_ ?_
  refine r_ (s_load_blk rfl z_2 a13_4) ?_
  refine gl_nil ?_
  refine at_ga (.inr (by exact keeps_of k_)) ?_
  refine w_ 11 rfl (s_add_u64 rfl rfl (by omega)) ?_
  refine w_ 12 rfl (s_max2 rfl rfl) ?_
  refine ga_one 15 rfl z_4 ?_
  refine gl_store_own (q := 4 * i + 2) rfl rfl z_5 z_7 (by decide) z_3 (by show 4 * i + 2 + 1 ≤ (prV p.peers).length; rw [prV_len]; omega) ?_
  refine gl_nil ?_
  refine at_ga (.inl z_4) ?_
  refine w_ 16 rfl (s_nilCheck_o rfl hsome) ?_
  refine w_ 17 rfl z_8 ?_
  refine ga_one 18 rfl z_4 ?_
  refine gl_store_own (q := 4 * i + 1) rfl rfl z_5 z_7 (by decide) z_3 (by show 4 * i + 1 + 1 ≤ (putx (prV p.peers) (4 * i + 2) [.int .u64 m.p.index]).length; rw [putx_length (by show 4 * i + 2 + 1 ≤ _; rw [prV_len]; omega), prV_len]; omega) ?_
  refine gl_nil ?_
  refine at_ga (.inl z_4) ?_
  refine w_ 19 rfl (s_nilCheck_o rfl hsome) ?_
  refine w_ 20 rfl z_8 ?_
  refine ga_one 21 rfl z_4 ?_
  refine gl_store_own (q := 4 * i + 3) rfl rfl z_5 z_7 (by decide) z_3 (by show 4 * i + 3 + 1 ≤ (putx (putx (prV p.peers) (4 * i + 2) [.int .u64 m.p.index]) (4 * i + 1) [.int .u64 (max q.next (m.p.index + 1))]).length; rw [putx_length (by show 4 * i + 1 + 1 ≤ _; rw [putx_length (by show 4 * i + 2 + 1 ≤ _; rw [prV_len]; omega), prV_len]; omega), putx_length (by show 4 * i + 2 + 1 ≤ _; rw [prV_len]; omega), prV_len]; omega) ?_
  refine gl_nil ?_
  refine at_ga (.inl z_4) ?_
  refine ga_done z_4 ?_
  rotate_left 1
  refine gl_store_own (q := 4 * i + 2) rfl rfl z_5 z_7 (by decide) z_3 (by show 4 * i + 2 + 1 ≤ (prV p.peers).length; rw [prV_len]; omega) ?_
  refine gl_nil ?_
  refine at_ga (.inl z_4) ?_
  refine ga_one 10 rfl z_4 ?_
  refine r_ (s_load_blk rfl z_2 a13_4) ?_
  refine gl_nil ?_
  refine at_ga (.inl z_4) ?_
  refine w_ 11 rfl (s_add_u64 rfl rfl (by omega)) ?_
  refine w_ 12 rfl (s_max2 rfl rfl) ?_
  refine w_ 16 rfl (s_nilCheck_o rfl hsome) ?_
  refine w_ 17 rfl z_8 ?_
  refine ga_one 18 rfl z_4 ?_
  refine gl_store_own (q := 4 * i + 1) rfl rfl z_5 z_7 (by decide) z_3 (by show 4 * i + 1 + 1 ≤ (putx (prV p.peers) (4 * i + 2) [.int .u64 m.p.index]).length; rw [putx_length (by show 4 * i + 2 + 1 ≤ _; rw [prV_len]; omega), prV_len]; omega) ?_
  refine gl_nil ?_
  refine at_ga (.inl z_4) ?_
  refine w_ 19 rfl (s_nilCheck_o rfl hsome) ?_
  refine w_ 20 rfl z_8 ?_
  refine ga_one 21 rfl z_4 ?_
  refine gl_store_own (q := 4 * i + 3) rfl rfl z_5 z_7 (by decide) z_3 (by show 4 * i + 3 + 1 ≤ (putx (putx (prV p.peers) (4 * i + 2) [.int .u64 m.p.index]) (4 * i + 1) [.int .u64 (max q.next (m.p.index + 1))]).length; rw [putx_length (by show 4 * i + 1 + 1 ≤ _; rw [putx_length (by show 4 * i + 2 + 1 ≤ _; rw [prV_len]; omega), prV_len]; omega), putx_length (by show 4 * i + 2 + 1 ≤ _; rw [prV_len]; omega), prV_len]; omega) ?_
  refine gl_nil ?_
  refine at_ga (.inl z_4) ?_
  refine ga_done z_4 ?_
  rotate_left 1
  all_goals (repeat refine y_ ?_)
  all_goals
   exact at_cut j_ (fun w hw => by
    simp only [mdH, mdO, OwnP, setPr, hsl, hqfe2, ← hpx]
    exact hw.perm (perm_up z_2 (perm_up z_2 (perm_up z_2 (perm_up z_2 (perm_up z_2 (perm_up z_2 (.refl _))))))))
 obtain ⟨ps, hps⟩ : ∃ ps, ps = setPr p i qf := ⟨_, rfl⟩
 have hpsp : ps.peers = p.peers.set i qf := by rw [hps]; rfl
 have hlp : lastI ps.g = lastI p.g := by rw [hps]; rfl
 rw [← hps] at hf1
 simp only [← hps]
 have hcl := commitP_log ps
 have hfc := pf_commit hf1
 have himg : ps.img = p.img := by rw [hps]; rfl
 repeat refine x_ ?_
 refine m_ ?_
 refine f_ (s_nilCheck_o rfl hsome) ?_
 refine f_ z_8 ?_
 refine r_ (s_load1 (v := .int .u64 qf.next) rfl (fun w hw => rdQs1_own (l := p.peers) (a := a.pa) (n := ps.peers.length) (c := a.pc) (te := 100) hw (by rw [← hpsp]; exact z_2) (i := i) (j := 1) rfl hil rfl)) ?_
 refine a_ ?_
 repeat refine x_ ?_
 refine m_ ?_
 refine gl_call [blkMsg g3 m] rfl (commit_ct X ⟨ps, a, outs, oa0, oc0⟩ hf1) (fun w hw => hw.perm (perm_up z_2 (perm_up z_2 (perm_up z_2 (perm_up z_2 (perm_up z_2 (perm_up z_2 (.refl _)))))))) (fun _ _ _ => trivial) rfl ?_; rintro v A ⟨rfl, d3, Z3, e3, o3, rfl, f3⟩
 repeat refine n_ ?_
 have l3 := outs_len o3
 simp only [List.length_nil] at l3
 obtain ⟨p3, a3, outs3, oa3, oc3⟩ := d3
 simp only at e3 l3
 subst e3
 simp only [List.append_nil] at o3
 refine g_ownN (a := a3.la) z_2 (fun _ hcap3 _ => ?_)
 refine g_ownN (a := a3.pa) z_2 (fun _ _ hpa3 => ?_)
 have hlc := commitP_last ps
 obtain ⟨q3, hq3⟩ : ∃ b, b = decide ((commitP ps).role = 2) := ⟨_, rfl⟩
 obtain ⟨q4, hq4⟩ : ∃ b, b = decide (qf.next ≤ lastI (commitP ps).g) := ⟨_, rfl⟩
 rcases (show (q3 = true ∧ q4 = true) ∨ q3 = false ∨ (q3 = true ∧ q4 = false) by cases q3 <;> cases q4 <;> simp) with ⟨rfl, rfl⟩ | rfl | ⟨rfl, rfl⟩
 rotate_left
 iterate 2
  ·have hno : ¬ ((commitP ps).role = 2 ∧ qf.next ≤ lastI p.g) := by
    rintro ⟨h1, h2⟩
    rw [← hlp, ← hlc] at h2
    first
     | exact absurd (hq3.trans (decide_eq_true h1)) (by decide)
     | exact absurd (hq4.trans (decide_eq_true h2)) (by decide)
   rw [if_neg hno]
   repeat refine x_ ?_
   refine m_ ?_
   refine f_ (s_nilCheck rfl) ?_
   refine f_ z_1 ?_
   refine f_ z_1 ?_
   refine r_ (by exact s_load_blk rfl z_2 a19_3) ?_
   refine f_ ((s_eql rfl rfl).eb hq3) ?_
   refine m_ ?_
   (first | refine gl_guard_no rfl rfl rfl rfl rfl rfl rfl ?_ | (refine v_ ?_; refine m_ ?_))
   (first | refine gl_guard_no rfl rfl rfl rfl rfl rfl rfl ?_ | (refine v_ ?_; refine m_ ?_))
   (first | refine gl_guard_no rfl rfl rfl rfl rfl rfl rfl ?_ | (refine v_ ?_; refine gl_callp rfl (rend_ct X ⟨commitP ps, a3, outs3, oa3, oc3⟩ hfc hcap3) (fun h hh ⟨bs, hb⟩ => ⟨Sat.blk hb z_2, Sat.rd (a := a3.la) hb z_2⟩) rfl ?_; rw [show lastI (⟨commitP ps, a3, outs3, oa3, oc3⟩ : MD).p.g = lastI (commitP ps).g from rfl]))
   (first | refine gl_guard_no rfl rfl rfl rfl rfl rfl rfl ?_ | (refine v_ ?_; refine f_ ((s_leq rfl rfl).eb hq4) ?_))
   refine f_ z_6 ?_
   repeat refine n_ ?_
   exact at_end0 rfl (mdH X ⟨commitP ps, a3, outs3, oa3, oc3⟩ ++ (Z3 ++ [blkMsg g3 m])) ⟨rfl, ⟨commitP ps, a3, outs3, oa3, oc3⟩, _, rfl, by rw [o3, List.append_nil], rfl, fun h f hs => f3 h f (Sat.two2 hs).1⟩ (fun w hw => by rwa [List.append_assoc] at hw)
 have hr2 := of_decide_eq_true hq3.symm
 have hn2 := of_decide_eq_true hq4.symm
 have hpp : (commitP ps).peers = p.peers.set i qf := by rw [hcl.2.2.2 hr2, hpsp]
 have hppl : (commitP ps).peers.length = p.peers.length := by rw [hpp, hsl]
 have hsome3 : ∃ ad, a3.pa = some ad := hpa3 (by show 0 < (commitP ps).peers.length; omega)
 rw [if_pos ⟨hr2, by rw [← hlp, ← hlc]; exact hn2⟩]
 repeat refine x_ ?_
 refine m_ ?_
 refine f_ (s_nilCheck rfl) ?_
 refine f_ z_1 ?_
 refine f_ z_1 ?_
 refine r_ (by exact s_load_blk rfl z_2 a19_3) ?_
 refine f_ ((s_eql rfl rfl).eb hq3) ?_
 refine m_ ?_
 (refine v_ ?_; refine m_ ?_)
 (refine v_ ?_; refine m_ ?_)
 (refine v_ ?_; refine gl_callp rfl (rend_ct X ⟨commitP ps, a3, outs3, oa3, oc3⟩ hfc hcap3) (fun h hh ⟨bs, hb⟩ => ⟨Sat.blk hb z_2, Sat.rd (a := a3.la) hb z_2⟩) rfl ?_; rw [show lastI (⟨commitP ps, a3, outs3, oa3, oc3⟩ : MD).p.g = lastI (commitP ps).g from rfl])
 (refine v_ ?_; refine f_ ((s_leq rfl rfl).eb hq4) ?_)
 refine f_ z_13 ?_
 repeat refine x_ ?_
 refine m_ ?_
 refine m_ ?_
 refine f_ (s_nilCheck rfl) ?_
 refine f_ z_1 ?_
 refine f_ z_1 ?_
 refine r_ (by exact s_load_blk rfl z_2 a19_14) ?_
 refine m_ ?_
 refine f_ ((s_indexAddr (len := (commitP ps).peers.length) rfl hsome3 rfl (by rw [hppl]; omega)).eq (v' := .pointer (addO a3.pa (4 * i))) (by congr 2; omega)) ?_
 refine r_ (s_loadN (cs := prC qf) rfl (fun w hw => rdQs_own (l := p.peers) (a := a3.pa) (n := (commitP ps).peers.length) (c := a3.pc) (te := 100) hw (by rw [← hpp]; exact z_2) (i := i) rfl hil) rfl) ?_
 refine gl_call (Z3 ++ [blkMsg g3 m]) rfl (update_ct X ⟨commitP ps, a3, outs3, oa3, oc3⟩ qf hfc ⟨⟨hqff.1, hqff.2.1⟩, by show 0 ≤ qf.off ∧ qf.off ≤ ((commitP ps).img.length : Int); rw [hcl.2.2.1, himg]; exact hqff.2.2.2.2⟩ (by simp only; omega)) (fun w hw => by rwa [List.append_assoc] at hw) (fun _ _ _ => trivial) rfl ?_; rintro v A ⟨rfl, ms, oa, oc, Z, e4, rfl, f4⟩
 repeat refine n_ ?_
 exact at_end0 rfl (mdH X ⟨commitP ps, a3, outs3 ++ ms, oa, oc⟩ ++ (Z ++ (Z3 ++ [blkMsg g3 m]))) ⟨rfl, ⟨commitP ps, a3, outs3 ++ ms, oa, oc⟩, _, rfl, by rw [List.map_append, e4, o3], rfl, fun h f hs m2 hm2 => by
  obtain ⟨s4, s3⟩ := Sat.two2 hs
  rcases List.mem_append.1 hm2 with hm2 | hm2
  ·exact f3 h f (Sat.two2 s3).1 m2 hm2
  ·exact f4 h s4 m2 hm2⟩ (fun w hw => by rwa [List.append_assoc] at hw)
end Go.Proofs.YtodcghipfolejaaGreat.Rf
namespace Go.Proofs.YtodcghipfolejaaGreat.Rf
open Go Go.Sl
structure PSt (p : RP) : Prop where
 fit : PFit p
 votes : VotesOk p
 l : p.l.length ≤ 99000
 piece : p.piece.length ≤ 1000000000
 prs : ∀ q ∈ p.peers, q.mtc ≤ 1000000000000 ∧ q.next ≤ 1000000000000
 ticks : p.ticks < 4611686018427387904
theorem Ct.pre {f : FuncId} {args : List Value} {Pre Pre' : Heap → Prop} {C : List As} {Post : Value → List As → Prop} (h : Ct Tryz.prog f args Pre C Post) (k : ∀ h, Pre' h → Pre h) : Ct Tryz.prog f args Pre' C Post := by
 intro w bs hs hn hp
 exact h w bs hs hn (k _ hp)
theorem pst_hear1 {p : RP} (h : PSt p) (m : MP) (hm : 0 ≤ m.term ∧ m.term ≤ 4611686018427387904) : PSt (hear1 p m) := by
 unfold hear1
 split
 ·exact ⟨pf_follow h.fit _ _ hm, by unfold VotesOk; show pick (inB []) 5 = []; decide, h.l, h.piece, fun q hq => (by cases hq), h.ticks⟩
 ·exact h
abbrev fns7 : Array Value := #[.nilFunc, fnF 57, fnF 58, fnF 59, fnF 60, fnF 59, fnF 61]
theorem hp_rot2 {F : Snap} {w : World} {x y : As} {A Z : List As} (h : Hp F w (y :: x :: (A ++ Z))) : Hp F w (A ++ (Z ++ [x, y])) := by
 rw [← List.append_assoc]
 exact (h.perm (List.Perm.swap x y _)).perm (List.perm_append_comm (l₁ := [x, y]) (l₂ := A ++ Z))
theorem does_ct (X : Nat) (d : MD) (m : MM) (k : Nat) (hk : m.p.kind = (k : Nat)) (hk6 : 1 ≤ k ∧ k ≤ 6) (hs : PSt d.p) (hm : MFit m.p) (hfr : 1 ≤ m.p.frm ∧ m.p.frm ≤ 5) (ho : d.outs.length ≤ 100000) :
  ∃ f, HF Tryz.prog f ∧ fns7[k]? = some (fnF f) ∧ Ct Tryz.prog f [Ptr X, mmA m] (fun h => MOk h m) (mdH X d) (MdP X d (doesP d.p m.p) (doesM d.p m.p) (.tuple #[])) := by
 have hl := hs.l
 rcases (show k = 1 ∨ k = 2 ∨ k = 3 ∨ k = 4 ∨ k = 5 ∨ k = 6 by omega) with rfl | rfl | rfl | rfl | rfl | rfl
 ·refine ⟨57, inferInstance, rfl, ?_⟩
  have hk : m.p.kind = 1 := hk
  have e1 : doesP d.p m.p = voteP d.p m.p := by unfold doesP; rw [if_pos hk]
  have e2 : doesM d.p m.p = [grantM (voteP d.p m.p) m.p.frm (voteOk d.p m.p)] := by unfold doesM; rw [if_pos hk]
  rw [e1, e2]
  exact Ct.pre (vote_ct X d m hs.fit (by omega)) (fun _ _ => trivial)
 ·refine ⟨58, inferInstance, rfl, ?_⟩
  have hk : m.p.kind = 2 := hk
  have e1 : doesP d.p m.p = grantP d.p m.p := by unfold doesP; rw [if_neg (by omega), if_pos hk]
  have e2 : doesM d.p m.p = grantMs d.p m.p := by unfold doesM; rw [if_neg (by omega), if_pos hk]
  rw [e1, e2]
  exact Ct.pre (grant_ct X d m hs.fit hs.votes hfr (by omega) (by omega)) (fun _ _ => trivial)
 ·refine ⟨59, inferInstance, rfl, ?_⟩
  have hk : m.p.kind = 3 := hk
  have e1 : doesP d.p m.p = leadsP d.p m.p := by unfold doesP; rw [if_neg (by omega), if_neg (by omega), if_pos (.inl hk)]
  have e2 : doesM d.p m.p = leadsM d.p m.p := by unfold doesM; rw [if_neg (by omega), if_neg (by omega), if_pos (.inl hk)]
  rw [e1, e2]
  exact leads_ct X d m hs.fit hm hs.piece hl ho
 ·refine ⟨60, inferInstance, rfl, ?_⟩
  have hk : m.p.kind = 4 := hk
  have e1 : doesP d.p m.p = ackP d.p m.p := by unfold doesP; rw [if_neg (by omega), if_neg (by omega), if_neg (by omega), if_pos hk]
  have e2 : doesM d.p m.p = ackMs d.p m.p := by unfold doesM; rw [if_neg (by omega), if_neg (by omega), if_neg (by omega), if_pos hk]
  rw [e1, e2]
  exact Ct.pre (ack_ct X d m hs.fit hm hs.prs ho) (fun _ _ => trivial)
 ·refine ⟨59, inferInstance, rfl, ?_⟩
  have hk : m.p.kind = 5 := hk
  have e1 : doesP d.p m.p = leadsP d.p m.p := by unfold doesP; rw [if_neg (by omega), if_neg (by omega), if_pos (.inr hk)]
  have e2 : doesM d.p m.p = leadsM d.p m.p := by unfold doesM; rw [if_neg (by omega), if_neg (by omega), if_pos (.inr hk)]
  rw [e1, e2]
  exact leads_ct X d m hs.fit hm hs.piece hl ho
 ·refine ⟨61, inferInstance, rfl, ?_⟩
  have hk : m.p.kind = 6 := hk
  have e1 : doesP d.p m.p = gotP d.p m.p := by unfold doesP; rw [if_neg (by omega), if_neg (by omega), if_neg (by omega), if_neg (by omega), if_pos hk]
  have e2 : doesM d.p m.p = gotMs d.p m.p := by unfold doesM; rw [if_neg (by omega), if_neg (by omega), if_neg (by omega), if_neg (by omega), if_pos hk]
  rw [e1, e2]
  exact Ct.pre (got_ct X d m hs.fit hm (by omega)) (fun _ _ => trivial)
set_option maxRecDepth 8000 in
set_option maxHeartbeats 8000000 in
theorem hear_ct (X : Nat) (d : MD) (e : EV) (hs : PSt d.p) (hm : MFit e.m.p) (ho : d.outs.length ≤ 10000) : Ct Tryz.prog 36 [Ptr X, evA e] (fun h => MOk h e.m) (mdH X d) (MdP X d (hearP d.p e.m.p) (hearM d.p e.m.p) (.int .i64 (hearE d.p e.m.p))) := by
 obtain ⟨p, a, outs, oa0, oc0⟩ := d
 obtain ⟨kind, m, et, ek, ed, ix, img⟩ := e
 simp only at hs ho hm
 have htm := hm.term
 refine ct_enter 97 Tryz.func36 rfl rfl rfl ?_
 intro F hmo
 obtain ⟨q1, hq1⟩ : ∃ q, q = decide (m.p.to = p.id) := ⟨_, rfl⟩
 obtain ⟨q2, hq2⟩ : ∃ q, q = decide (m.p.frm = p.id) := ⟨_, rfl⟩
 obtain ⟨q3, hq3⟩ : ∃ q, q = decide (m.p.frm < 1) := ⟨_, rfl⟩
 obtain ⟨q4, hq4⟩ : ∃ q, q = decide (5 < m.p.frm) := ⟨_, rfl⟩
 obtain ⟨q5, hq5⟩ : ∃ q, q = decide (4611686018427387904 < m.p.term) := ⟨_, rfl⟩
 have hb : hearBad p m.p = (!q1 || (q2 || (q3 || (q4 || q5)))) := by rw [hearBad, hq1, hq2, hq3, hq4, hq5]
 repeat refine x_ ?_
 refine gl_boxA rfl rfl ?_; intro g3
 refine a_ ?_
 repeat refine x_ ?_
 refine f_ z_1 ?_
 refine r_ ((s_load_blkN rfl z_2 z_7).eq (v' := mmA m) rfl) ?_
 refine gl_allocA rfl ?_; intro g5
 (refine gl_store_blkW rfl rfl z_5 z_7 z_7 z_3 ?_)
 repeat refine n_ ?_
 obtain ⟨bad, hbad⟩ : ∃ b, b = hearBad p m.p := ⟨_, rfl⟩
 refine g_pull (H' := blkMsg g5 m :: mdH X ⟨p, a, outs, oa0, oc0⟩) (fun w hw => Hp.left (R := [.blk g3 (.cells (evC ⟨kind, m, et, ek, ed, ix, img⟩).toArray 53)]) (hw.perm (perm_up z_2 (perm_up z_2 (perm_up z_2 (perm_up z_2 (perm_up z_2 (perm_up z_2 (perm_up z_2 (.refl _)))))))))) ?_
 refine g_cutK [(0, Ptr X), (5, Ptr g5), (41, .bool bad)] (blkMsg g5 m :: mdH X ⟨p, a, outs, oa0, oc0⟩) ?_ ?_
 ·rw [hbad, hb]
  rcases (show q1 = false ∨ (q1 = true ∧ q2 = true) ∨ (q1 = true ∧ q2 = false ∧ q3 = true) ∨ (q1 = true ∧ q2 = false ∧ q3 = false ∧ q4 = true) ∨ (q1 = true ∧ q2 = false ∧ q3 = false ∧ q4 = false) by cases q1 <;> cases q2 <;> cases q3 <;> cases q4 <;> simp) with rfl | ⟨rfl, rfl⟩ | ⟨rfl, rfl, rfl⟩ | ⟨rfl, rfl, rfl, rfl⟩ | ⟨rfl, rfl, rfl, rfl⟩
  all_goals
   repeat refine y_ ?_
   refine g_draw ([1, 6, 10, 15, 20, 25, 30], [0, 1, 0, 4, 12, 28, 60, 127, 255, 511, 1023, 511, 2559, 6655, 14847, 31231, 65535, 131071, 262143, 524287, 1048575, 2097151, 4194303, 8388607, 16777215, 33554431, 67108863, 134217727, 268435455, 536870911, 1073741823, 2147483647, 4294967295], []) [.blk X (mdO ⟨p, a, outs, oa0, oc0⟩), blkMsg g5 m] 33 rfl ?_
   refine w_ 0 rfl z_1 ?_
   (refine ga_read_k 1 rfl z_9 (s_load_blk rfl .del a13_2) k_ rfl rfl rfl z_4 ?_)
   refine w_ 2 rfl (s_move rfl) ?_
   refine w_ 3 rfl (s_nilCheck rfl) ?_
   refine w_ 4 rfl z_1 ?_
   refine w_ 5 rfl z_1 ?_
   (refine ga_read_k 6 rfl z_11 (s_load_blk rfl .del a19_0) k_ rfl rfl rfl z_4 ?_)
   refine w_ 7 rfl ((s_neq rfl rfl).eq (congrArg (fun b => Value.bool (!b)) hq1.symm)) ?_
   refine w_ 8 rfl (s_move rfl) ?_
   (first | refine s_ 9 ?_ | refine ga_free_g 9 rfl z_1 rfl rfl rfl rfl rfl rfl z_4 ?_)
   (first | refine s_ 10 ?_ | refine ga_read_kg 10 rfl z_9 (s_load_blk rfl .del a13_1) k_ rfl rfl rfl rfl rfl rfl z_4 ?_)
   (first | refine s_ 11 ?_ | refine ga_free_g 11 rfl (s_move rfl) rfl rfl rfl rfl rfl rfl z_4 ?_)
   (first | refine s_ 12 ?_ | refine ga_free_g 12 rfl (s_nilCheck rfl) rfl rfl rfl rfl rfl rfl z_4 ?_)
   (first | refine s_ 13 ?_ | refine ga_free_g 13 rfl z_1 rfl rfl rfl rfl rfl rfl z_4 ?_)
   (first | refine s_ 14 ?_ | refine ga_free_g 14 rfl z_1 rfl rfl rfl rfl rfl rfl z_4 ?_)
   (first | refine s_ 15 ?_ | refine ga_read_kg 15 rfl z_11 (s_load_blk rfl .del a19_0) k_ rfl rfl rfl rfl rfl rfl z_4 ?_)
   (first | refine s_ 16 ?_ | refine ga_free_g 16 rfl ((s_eql rfl rfl).eb hq2) rfl rfl rfl rfl rfl rfl z_4 ?_)
   refine w_ 17 rfl z_6 ?_
   refine w_ 18 rfl (s_move rfl) ?_
   (first | refine s_ 19 ?_ | refine ga_free_g 19 rfl z_1 rfl rfl rfl rfl rfl rfl z_4 ?_)
   (first | refine s_ 20 ?_ | refine ga_read_kg 20 rfl z_9 (s_load_blk rfl .del a13_1) k_ rfl rfl rfl rfl rfl rfl z_4 ?_)
   (first | refine s_ 21 ?_ | refine ga_free_g 21 rfl ((s_lss rfl rfl).eb hq3) rfl rfl rfl rfl rfl rfl z_4 ?_)
   refine w_ 22 rfl z_6 ?_
   refine w_ 23 rfl (s_move rfl) ?_
   (first | refine s_ 24 ?_ | refine ga_free_g 24 rfl z_1 rfl rfl rfl rfl rfl rfl z_4 ?_)
   (first | refine s_ 25 ?_ | refine ga_read_kg 25 rfl z_9 (s_load_blk rfl .del a13_1) k_ rfl rfl rfl rfl rfl rfl z_4 ?_)
   (first | refine s_ 26 ?_ | refine ga_free_g 26 rfl ((s_gtr rfl rfl).eb hq4) rfl rfl rfl rfl rfl rfl z_4 ?_)
   refine w_ 27 rfl z_6 ?_
   refine w_ 28 rfl (s_move rfl) ?_
   (first | refine s_ 29 ?_ | refine ga_free_g 29 rfl z_1 rfl rfl rfl rfl rfl rfl z_4 ?_)
   (first | refine s_ 30 ?_ | refine ga_read_kg 30 rfl z_9 (s_load_blk rfl .del a13_3) k_ rfl rfl rfl rfl rfl rfl z_4 ?_)
   (first | refine s_ 31 ?_ | refine ga_free_g 31 rfl ((s_gtr rfl rfl).eb hq5) rfl rfl rfl rfl rfl rfl z_4 ?_)
   refine w_ 32 rfl z_6 ?_
   refine ga_done z_4 ?_
   repeat refine y_ ?_
   exact at_cut j_ i_
 repeat refine y_ ?_
 cases bad
 rotate_left
 ·have e1 : hearP p m.p = p := by rw [hearP, if_pos (.inl hbad.symm)]
  have e2 : hearM p m.p = [] := by rw [hearM, if_pos (.inl hbad.symm)]
  have e3 : hearE p m.p = 1 := by rw [hearE, if_pos hbad.symm]
  simp only [e1, e2, e3]
  repeat refine x_ ?_
  refine a_ ?_
  repeat refine n_ ?_
  refine g_ret ?_
  exact at_end1 rfl rfl (mdH X ⟨p, a, outs, oa0, oc0⟩ ++ []) (MdP.same X ⟨p, a, outs, oa0, oc0⟩ ⟨p, a, outs, oa0, oc0⟩ _ rfl) (fun w hw => hw.drop)
 have hb0 : hearBad p m.p = false := hbad.symm
 have hfr : 1 ≤ m.p.frm ∧ m.p.frm ≤ 5 ∧ m.p.term ≤ 4611686018427387904 := by
  have h := hb0
  rw [hearBad] at h
  simp only [Bool.or_eq_false_iff, decide_eq_false_iff_not] at h
  omega
 have e3 : hearE p m.p = 0 := by rw [hearE, if_neg (by rw [hb0]; decide)]
 rw [e3]
 obtain ⟨q6, hq6⟩ : ∃ q, q = decide (p.term < m.p.term) := ⟨_, rfl⟩
 obtain ⟨q7, hq7⟩ : ∃ q, q = decide (m.p.kind = 1) := ⟨_, rfl⟩
 obtain ⟨q8, hq8⟩ : ∃ q, q = decide (p.role = 2) := ⟨_, rfl⟩
 obtain ⟨q9, hq9⟩ : ∃ q, q = decide (p.leader = 0) := ⟨_, rfl⟩
 obtain ⟨q10, hq10⟩ : ∃ q, q = decide (p.ticks < 3) := ⟨_, rfl⟩
 have hoff : hearOff p m.p = (q6 && (q7 && (q8 || (!q9 && q10)))) := by rw [hearOff, hq6, hq7, hq8, hq9, hq10]
 repeat refine y_ ?_
 refine g_draw ([1, 6], [0, 1, 0, 4, 12, 28, 60, 127], []) [.blk X (mdO ⟨p, a, outs, oa0, oc0⟩), blkMsg g5 m] 8 rfl ?_
 refine w_ 0 rfl z_1 ?_
 (refine ga_read_k 1 rfl z_9 (s_load_blk rfl .del a13_3) k_ rfl rfl rfl z_4 ?_)
 refine w_ 2 rfl (s_move rfl) ?_
 refine w_ 3 rfl (s_nilCheck rfl) ?_
 refine w_ 4 rfl z_1 ?_
 refine w_ 5 rfl z_1 ?_
 (refine ga_read_k 6 rfl z_11 (s_load_blk rfl .del a19_1) k_ rfl rfl rfl z_4 ?_)
 refine w_ 7 rfl ((s_gtr rfl rfl).eb hq6) ?_
 refine ga_done z_4 ?_
 repeat refine y_ ?_
 have hs1 := pst_hear1 hs m.p ⟨htm.1, hfr.2.2⟩
 refine g_cutE (ι := { x : MD × List As // x.1.p = hear1 p m.p ∧ x.1.outs.map MM.p = outs.map MM.p ∧ (hearOff p m.p = false) ∧ ∀ h, OutsOk h ⟨p, a, outs, oa0, oc0⟩ → (∃ bs, Sat h x.2 bs) → OutsOk h x.1 }) (fun _ => [(0, Ptr X), (5, Ptr g5)]) (fun x => blkMsg g5 m :: (mdH X x.1.1 ++ x.1.2)) ?_ (fun x => ?_)
 ·cases q6
  ·have e6 : hear1 p m.p = p := by rw [hear1, if_neg (of_decide_eq_false hq6.symm)]
   repeat refine y_ ?_
   exact at_cutE ⟨(⟨p, a, outs, oa0, oc0⟩, []), e6.symm, rfl, by rw [hoff]; rfl, fun h f _ => f⟩ j_ (fun w hw => by rw [List.append_nil]; exact hw)
  ·have e6 : hear1 p m.p = followP p m.p.term 0 := by rw [hear1, if_pos (of_decide_eq_true hq6.symm)]
   repeat refine y_ ?_
   obtain ⟨ob, hob⟩ : ∃ ob, ob = (q7 && (q8 || (!q9 && q10))) := ⟨_, rfl⟩
   refine g_cutK [(0, Ptr X), (5, Ptr g5), (76, .bool ob)] (blkMsg g5 m :: mdH X ⟨p, a, outs, oa0, oc0⟩) ?_ ?_
   ·rw [hob]
    rcases (show q7 = false ∨ (q7 = true ∧ q8 = true) ∨ (q7 = true ∧ q8 = false ∧ q9 = true) ∨ (q7 = true ∧ q8 = false ∧ q9 = false) by cases q7 <;> cases q8 <;> cases q9 <;> simp) with rfl | ⟨rfl, rfl⟩ | ⟨rfl, rfl, rfl⟩ | ⟨rfl, rfl, rfl⟩
    all_goals
     repeat refine x_ ?_
     refine f_ z_1 ?_
     refine r_ (by exact s_load_blk rfl z_2 a13_0) ?_
     refine f_ ((s_eql rfl rfl).eb hq7) ?_
     refine m_ ?_
     (first | refine gl_guard_no rfl rfl rfl rfl rfl rfl rfl ?_ | (refine v_ ?_; refine m_ ?_))
     (first | refine gl_guard_no rfl rfl rfl rfl rfl rfl rfl ?_ | (refine v_ ?_; refine f_ (s_nilCheck rfl) ?_))
     (first | refine gl_guard_no rfl rfl rfl rfl rfl rfl rfl ?_ | (refine v_ ?_; refine f_ z_1 ?_))
     (first | refine gl_guard_no rfl rfl rfl rfl rfl rfl rfl ?_ | (refine v_ ?_; refine f_ z_1 ?_))
     (first | refine gl_guard_no rfl rfl rfl rfl rfl rfl rfl ?_ | (refine v_ ?_; refine r_ (by exact s_load_blk rfl z_2 a19_3) ?_))
     (first | refine gl_guard_no rfl rfl rfl rfl rfl rfl rfl ?_ | (refine v_ ?_; refine f_ ((s_eql rfl rfl).eb hq8) ?_))
     (first | refine gl_guard_no rfl rfl rfl rfl rfl rfl rfl ?_ | (refine v_ ?_; refine m_ ?_))
     (first|refine u_ ?_|(refine v_ ?_; refine m_ ?_))
     (first|refine u_ ?_|(refine v_ ?_; refine f_ (s_nilCheck rfl) ?_))
     (first|refine u_ ?_|(refine v_ ?_; refine f_ z_1 ?_))
     (first|refine u_ ?_|(refine v_ ?_; refine f_ z_1 ?_))
     (first|refine u_ ?_|(refine v_ ?_; refine r_ (by exact s_load_blk rfl z_2 a19_4) ?_))
     (first|refine u_ ?_|(refine v_ ?_; refine f_ ((s_neq rfl rfl).eq (congrArg (fun b => Value.bool (!b)) hq9.symm)) ?_))
     (first|refine u_ ?_|(refine v_ ?_; refine m_ ?_))
     (first|refine u_ ?_|(refine v_ ?_; refine m_ ?_))
     (first|refine u_ ?_|(refine v_ ?_; refine f_ (s_nilCheck rfl) ?_))
     (first|refine u_ ?_|(refine v_ ?_; refine f_ z_1 ?_))
     (first|refine u_ ?_|(refine v_ ?_; refine f_ z_1 ?_))
     (first|refine u_ ?_|(refine v_ ?_; refine r_ (by exact s_load_blk rfl z_2 a19_11) ?_))
     (first|refine u_ ?_|(refine v_ ?_; refine f_ ((s_lss rfl rfl).eb hq10) ?_))
     (first|refine u_ ?_|(refine v_ ?_; refine f_ z_6 ?_))
     (first | refine gl_guard_no rfl rfl rfl rfl rfl rfl rfl ?_ | (refine v_ ?_; refine f_ z_6 ?_))
     refine f_ z_6 ?_
     repeat refine n_ ?_
     exact at_cut j_ i_
   rw [← hob] at hoff
   repeat refine y_ ?_
   cases ob
   rotate_left
   ·have ho1 : hearOff p m.p = true := by rw [hoff]; rfl
    have e1 : hearP p m.p = p := by rw [hearP, if_pos (.inr ho1)]
    have e2 : hearM p m.p = [] := by rw [hearM, if_pos (.inr ho1)]
    simp only [e1, e2]
    repeat refine x_ ?_
    refine a_ ?_
    repeat refine n_ ?_
    refine g_ret ?_
    exact at_end1 rfl rfl (mdH X ⟨p, a, outs, oa0, oc0⟩ ++ []) (MdP.same X ⟨p, a, outs, oa0, oc0⟩ ⟨p, a, outs, oa0, oc0⟩ _ rfl) (fun w hw => hw.drop)
   ·repeat refine y_ ?_
    repeat refine x_ ?_
    refine m_ ?_
    refine f_ z_1 ?_
    refine r_ (by exact s_load_blk rfl z_2 a13_3) ?_
    refine gl_call [blkMsg g5 m] rfl (follow_ct X ⟨p, a, outs, oa0, oc0⟩ m.p.term 0) (fun w hw => hw.perm (perm_up z_2 (perm_up z_2 (perm_up z_2 (perm_up z_2 (perm_up z_2 (perm_up z_2 (.refl _)))))))) (fun _ _ _ => trivial) rfl ?_; rintro v A ⟨rfl, d2, Z2, e4, o2, rfl, f2⟩
    repeat refine n_ ?_
    exact at_cutE ⟨(d2, Z2), by rw [e4, e6], by rw [o2, List.append_nil], by rw [hoff]; rfl, f2⟩ j_ (fun w hw => hw.perm List.perm_append_comm)
 obtain ⟨⟨⟨p2, a2, outs2, oa2, oc2⟩, Z2⟩, e4, o2, hno, f2⟩ := x
 simp only at e4 o2 f2
 subst e4
 have l2 : outs2.length = outs.length := by
  have := congrArg List.length o2
  simpa using this
 have e1 : hearP p m.p = doesP (hear1 p m.p) m.p := by rw [hearP, if_neg (by rintro (h | h); (rw [hb0] at h; cases h); (rw [hno] at h; cases h))]
 have e2 : hearM p m.p = doesM (hear1 p m.p) m.p := by rw [hearM, if_neg (by rintro (h | h); (rw [hb0] at h; cases h); (rw [hno] at h; cases h))]
 rw [e1, e2]
 repeat refine x_ ?_
 refine f_ (s_build rfl (v := .agg fns7) (fun w => by kernel_rfl)) ?_
 refine gl_allocA rfl ?_; intro g6
 (refine gl_store_blkW rfl rfl z_5 z_7 z_7 z_3 ?_)
 repeat refine n_ ?_
 by_cases hk : 1 ≤ m.p.kind ∧ m.p.kind ≤ 6
 ·obtain ⟨k, hkk⟩ : ∃ k : Nat, m.p.kind = (k : Nat) := ⟨m.p.kind.toNat, by omega⟩
  obtain ⟨f, hF, hfn, hct⟩ := does_ct X ⟨hear1 p m.p, a2, outs2, oa2, oc2⟩ m k hkk (by omega) hs1 hm ⟨hfr.1, hfr.2.1⟩ (by simp only; omega)
  haveI := hF
  repeat refine x_ ?_
  refine f_ z_1 ?_
  refine r_ (by exact s_load_blk rfl z_2 a13_0) ?_
  refine f_ ((s_gtr rfl rfl).eq (v' := .bool true) (congrArg Value.bool (decide_eq_true (by omega)))) ?_
  refine m_ ?_
  (refine v_ ?_; refine f_ z_1 ?_)
  (refine v_ ?_; refine r_ (by exact s_load_blk rfl z_2 a13_0) ?_)
  (refine v_ ?_; refine f_ ((s_lss rfl rfl).eq (v' := .bool true) (congrArg Value.bool (decide_eq_true (by omega)))) ?_)
  refine f_ z_13 ?_
  repeat refine n_ ?_
  refine g_draw ([1, 3, 5], [0, 1, 3, 7, 0, 0, 63], [6]) [blkMsg g5 m, .blk g6 (.cells fns7 113)] 7 rfl ?_
  refine w_ 0 rfl z_1 ?_
  (refine ga_read_k 1 rfl z_11 (s_load_blk rfl .del a13_0) k_ rfl rfl rfl z_4 ?_)
  refine w_ 2 rfl (s_indexAddr_arr rfl rfl (by omega)) ?_
  refine ga_read_k 3 rfl z_9 (s_load_blk rfl .del (by rw [show 0 + m.p.kind.toNat * 1 = k by omega]; exact hfn)) k_ rfl rfl rfl z_4 ?_
  refine w_ 4 rfl (s_move rfl) ?_
  refine ga_read_k 5 rfl z_11 ((s_load_blkW rfl .del z_7).eq (v' := mmA m) rfl) k_ rfl rfl rfl z_4 ?_
  refine ga_one 6 rfl z_4 ?_
  refine gl_callv (Z2 ++ [blkMsg g5 m, .blk g6 (.cells fns7 113)]) rfl rfl (ps := []) (qs := []) rfl hct (fun w hw => hp_rot2 hw) (fun h hh _ => hmo.le hh) rfl ?_; rintro v A ⟨rfl, d3, Z3, e5, o3, rfl, f3⟩
  refine gl_nil ?_
  refine at_ga (.inl z_4) ?_
  refine ga_done z_4 ?_
  repeat refine x_ ?_
  refine a_ ?_
  repeat refine n_ ?_
  refine g_ret ?_
  exact at_end1 rfl rfl (mdH X d3 ++ (Z3 ++ (Z2 ++ [blkMsg g5 m, .blk g6 (.cells fns7 113)]))) ⟨rfl, d3, _, e5, by rw [o3, o2], rfl, fun h f hs => by
   obtain ⟨s3, s2⟩ := Sat.two2 hs
   exact f3 h (f2 h f (Sat.two2 s2).1) s3⟩ (fun w hw => by rwa [List.append_assoc] at hw)
 ·have e5 : doesP (hear1 p m.p) m.p = hear1 p m.p := by
   rw [doesP, if_neg (by omega), if_neg (by omega), if_neg (by omega), if_neg (by omega), if_neg (by omega)]
  have e6 : doesM (hear1 p m.p) m.p = [] := by
   rw [doesM, if_neg (by omega), if_neg (by omega), if_neg (by omega), if_neg (by omega), if_neg (by omega)]
  simp only [e5, e6]
  obtain ⟨b1, hb1⟩ : ∃ b, b = decide (0 < m.p.kind) := ⟨_, rfl⟩
  obtain ⟨b2, hb2⟩ : ∃ b, b = decide (m.p.kind < 7) := ⟨_, rfl⟩
  have hbb : b1 = false ∨ (b1 = true ∧ b2 = false) := by
   rw [hb1, hb2]
   by_cases h1 : 0 < m.p.kind
   ·right; exact ⟨decide_eq_true h1, decide_eq_false (by omega)⟩
   ·left; exact decide_eq_false h1
  rcases hbb with rfl | ⟨rfl, rfl⟩
  all_goals
   repeat refine x_ ?_
   refine f_ z_1 ?_
   refine r_ (by exact s_load_blk rfl z_2 a13_0) ?_
   refine f_ ((s_gtr rfl rfl).eb hb1) ?_
   refine m_ ?_
   (first | refine gl_guard_no rfl rfl rfl rfl rfl rfl rfl ?_ | (refine v_ ?_; refine f_ z_1 ?_))
   (first | refine gl_guard_no rfl rfl rfl rfl rfl rfl rfl ?_ | (refine v_ ?_; refine r_ (by exact s_load_blk rfl z_2 a13_0) ?_))
   (first | refine gl_guard_no rfl rfl rfl rfl rfl rfl rfl ?_ | (refine v_ ?_; refine f_ ((s_lss rfl rfl).eb hb2) ?_))
   refine f_ z_6 ?_
   repeat refine x_ ?_
   refine a_ ?_
   repeat refine n_ ?_
   refine g_ret ?_
   exact at_end1 rfl rfl (mdH X ⟨hear1 p m.p, a2, outs2, oa2, oc2⟩ ++ Z2) ⟨rfl, ⟨hear1 p m.p, a2, outs2, oa2, oc2⟩, Z2, rfl, by rw [o2, List.append_nil], rfl, f2⟩ (fun w hw => hw.drop.drop)
end Go.Proofs.YtodcghipfolejaaGreat.Rf
namespace Go.Proofs.YtodcghipfolejaaGreat.Rf
open Go Go.Sl
abbrev evp (e : EV) : EP := ⟨e.kind, e.m.p, e.ek, e.ed, e.index, e.img⟩
theorem stepP_err {p : RP} {e : EP} (h : stepE p e ≠ 0) : stepP p e = p ∧ stepM p e = [] := by
 unfold stepE at h
 unfold stepP stepM
 by_cases h1 : e.kind = 1
 ·rw [if_pos h1] at h; exact absurd rfl h
 rw [if_neg h1] at h
 rw [if_neg h1, if_neg h1]
 by_cases h2 : e.kind = 2
 ·rw [if_pos h2] at h
  rw [if_pos h2, if_pos h2]
  have hb : hearBad p e.m = true := by
   cases hb : hearBad p e.m
   ·rw [hearE, hb] at h; exact absurd rfl h
   ·rfl
  exact ⟨by rw [hearP, if_pos (.inl hb)], by rw [hearM, if_pos (.inl hb)]⟩
 rw [if_neg h2] at h
 rw [if_neg h2, if_neg h2]
 by_cases h3 : e.kind = 3
 ·rw [if_pos h3] at h
  rw [if_pos h3, if_pos h3]
  exact ⟨if_neg h, if_neg h⟩
 rw [if_neg h3] at h
 rw [if_neg h3, if_neg h3]
 by_cases h4 : e.kind = 4
 ·rw [if_pos h4] at h
  rw [if_pos h4]
  have hb : compBad p e.index e.img = true := by
   cases hb : compBad p e.index e.img
   ·rw [compE, hb] at h; exact absurd rfl h
   ·rfl
  exact ⟨if_pos hb, rfl⟩
 ·rw [if_neg h4]; exact ⟨rfl, rfl⟩
theorem Step_ct' (p : RP) (a : RA) (e : EV) (hs : PSt p) (hm : MFit e.m.p) (hk : 1 ≤ e.kind ∧ e.kind ≤ 4) (hi : 0 ≤ e.index ∧ e.index ≤ 18446744073709551615) :
  Ct Tryz.prog 16 [rsV p a, evA e] (fun h => RRd h p a ∧ MOk h e.m) [] (StP (stepP p (evp e)) (stepM p (evp e)) (stepE p (evp e))) := by
 have hl := hs.l
 have key : ∀ (k f : Nat) (p' : RP) (new : List MP) (er : Int), e.kind = (k : Nat) → 1 ≤ k ∧ k ≤ 4 → HF Tryz.prog f → fns[k]? = some (fnF f) → stepE p (evp e) = er → (er = 0 → stepP p (evp e) = p' ∧ stepM p (evp e) = new) →
   (∀ X d, d.p = p → d.outs = [] → Ct Tryz.prog f [Ptr X, evA e] (fun h => MOk h e.m) (mdH X d) (MdP X d p' new (.int .i64 er))) → Ct Tryz.prog 16 [rsV p a, evA e] (fun h => RRd h p a ∧ MOk h e.m) [] (StP (stepP p (evp e)) (stepM p (evp e)) (stepE p (evp e))) := by
  intro k f p' new er hke hk4 hF hfn hE hP hc
  haveI := hF
  have h1 := Step_of p a e k f p' new er hs.fit hke hk4 hfn (fun h => MOk h e.m) (fun h h' hl hm => hm.le hl) hc
  by_cases h0 : er = 0
  ·obtain ⟨e1, e2⟩ := hP h0
   rw [if_pos h0, if_pos h0] at h1
   rw [e1, e2, hE]; exact h1
  ·obtain ⟨e1, e2⟩ := stepP_err (p := p) (e := evp e) (by rw [hE]; exact h0)
   rw [if_neg h0, if_neg h0] at h1
   rw [e1, e2, hE]; exact h1
 rcases (show e.kind = 1 ∨ e.kind = 2 ∨ e.kind = 3 ∨ e.kind = 4 by omega) with h | h | h | h
 ·refine key 1 35 (tickP p) (tickM p) 0 h (by decide) inferInstance rfl ?_ (fun _ => ⟨?_, ?_⟩) (fun X d e1 e2 => ?_)
  ·unfold stepE; rw [if_pos h]
  ·unfold stepP; rw [if_pos h]
  ·unfold stepM; rw [if_pos h]
  ·have := tick_ct X d (evC e).toArray (by rw [e1]; exact hs.fit) (by rw [e1]; exact hs.ticks) (by rw [e1]; omega) (by rw [e2]; decide)
   rw [e1] at this
   exact Ct.pre this (fun _ _ => trivial)
 ·have n1 : ¬ e.kind = 1 := by omega
  refine key 2 36 (hearP p e.m.p) (hearM p e.m.p) (hearE p e.m.p) h (by decide) inferInstance rfl ?_ (fun _ => ⟨?_, ?_⟩) (fun X d e1 e2 => ?_)
  ·unfold stepE; rw [if_neg n1, if_pos h]
  ·unfold stepP; rw [if_neg n1, if_pos h]
  ·unfold stepM; rw [if_neg n1, if_pos h]
  ·have := hear_ct X d e (by rw [e1]; exact hs) hm (by rw [e2]; decide)
   rw [e1] at this
   exact this
 ·have n1 : ¬ e.kind = 1 := by omega
  have n2 : ¬ e.kind = 2 := by omega
  refine key 3 37 (propP p e.ek e.ed) (propM p e.ek e.ed) (propE p e.ek e.ed) h (by decide) inferInstance rfl ?_ (fun _ => ⟨?_, ?_⟩) (fun X d e1 e2 => ?_)
  ·unfold stepE; rw [if_neg n1, if_neg n2, if_pos h]
  ·unfold stepP; rw [if_neg n1, if_neg n2, if_pos h]
  ·unfold stepM; rw [if_neg n1, if_neg n2, if_pos h]
  ·have := propose_ct X d e (by rw [e1]; exact hs.fit) (by rw [e1]; omega) (by rw [e2]; decide)
   rw [e1] at this
   exact Ct.pre this (fun _ _ => trivial)
 ·have n1 : ¬ e.kind = 1 := by omega
  have n2 : ¬ e.kind = 2 := by omega
  have n3 : ¬ e.kind = 3 := by omega
  refine key 4 38 (compP p e.index e.img) [] (compE p e.index e.img) h (by decide) inferInstance rfl ?_ (fun _ => ⟨?_, ?_⟩) (fun X d e1 e2 => ?_)
  ·unfold stepE; rw [if_neg n1, if_neg n2, if_neg n3, if_pos h]
  ·unfold stepP; rw [if_neg n1, if_neg n2, if_neg n3, if_pos h]
  ·unfold stepM; rw [if_neg n1, if_neg n2, if_neg n3]
  ·have := compact_ct X d e (by rw [e1]; exact hs.fit) hi
   rw [e1] at this
   exact Ct.pre this (fun _ _ => trivial)
end Go.Proofs.YtodcghipfolejaaGreat.Rf
