import Derived.Test.YtodcghipfolejaaGreatJx15
import Derived.Test.YtodcghipfolejaaGreatJx13
set_option linter.unusedVariables false
set_option linter.unusedSimpArgs false
namespace Go.Proofs.YtodcghipfolejaaGreat.Rf
open Go Go.Sl
theorem set_rd {h : Heap} {p : RP} {a : RA} {i : Nat} {q : Pr} {pa : Option Addr} {pc : Nat} {Z : List As} (r : RRd h p a) (hb : ∃ bs, Sat h (OwnP pa (p.peers.set i q) pc :: Z) bs) : RRd h (setPr p i q) { a with pa := pa, pc := pc } := by
 obtain ⟨bs, hb⟩ := hb
 exact ⟨r.rc, r.rl, r.rv, Sat.rd (a := pa) hb .del⟩
set_option maxRecDepth 16000 in
set_option maxHeartbeats 16000000 in
theorem rGot_ct (s : SD) (m : MM) (hf : PFit s.p) (hm : MFit m.p) (hc : s.p.l.length ≤ s.a.lc) (ho : s.outs.length ≤ 1000000) : Ct Tryz.prog 78 [sdV s, mmA m] (fun h => SdOk h s) [] (SdP (fun h => SdOk h s) (gotP s.p m.p) (s.outs.map MM.p ++ gotMs s.p m.p) s.er) := by
 obtain ⟨p, a, outs, oa, oc, er⟩ := s
 simp only at hf hc ho
 have hpl := hf.peers
 have hoff := hm.off
 refine ct_enter 71 Tryz.func78 rfl rfl rfl ?_
 intro F hs
 repeat refine x_ ?_
 refine gl_boxA rfl rfl ?_; intro g2
 refine gl_boxA rfl rfl ?_; intro g3
 refine gl_allocA rfl ?_; intro g4
 repeat refine n_ ?_
 refine g_pull (H' := [sdO g2 ⟨p, a, outs, oa, oc, er⟩, mmO g3 m, sdZ g4]) (fun w hw => hw.perm (perm_up z_2 (perm_up z_2 (perm_up z_2 (.refl _))))) ?_
 repeat refine x_ ?_
 refine f_ z_1 ?_
 refine r_ ((s_load_blkN rfl z_2 z_7).eq (v' := rsV p a) rfl) ?_
 refine r_ ((s_load_blkW rfl z_2 z_7).eq (v' := mmA m) rfl) ?_
 refine gl_callp rfl (rPeer_ct p a m hf) (fun h hh _ => (hs.le hh).r) rfl ?_
 refine a_ ?_
 repeat refine n_ ?_
 obtain ⟨i, hi⟩ : ∃ i, i = peerAt p m.p := ⟨_, rfl⟩
 obtain ⟨q, hqe⟩ : ∃ q, q = peerG p m.p := ⟨_, rfl⟩
 refine g_cutE (ι := { u : Unit // gotBad p m.p = false → isPeer p m.p = true }) (fun _ => [(2, Ptr g2), (3, Ptr g3), (4, Ptr g4), (5, .int .i64 (peerI p m.p)), (49, .bool (gotBad p m.p))]) (fun _ => [sdO g2 ⟨p, a, outs, oa, oc, er⟩, mmO g3 m, sdZ g4]) ?_ (fun u => ?_)
 ·cases hip : isPeer p m.p
  ·have hbad : gotBad p m.p = true := by rw [gotBad, hip]; rfl
   rw [peerI_no hip]
   repeat refine y_ ?_
   refine g_draw ([5, 9, 13, 18, 22, 27, 32, 35], [0, 1, 3, 7, 15, 31, 7, 127, 255, 511, 7, 1031, 3079, 7175, 16383, 32767, 65535, 131071, 262143, 131071, 655359, 1703935, 3801087, 8388607, 16777215, 33554431, 67108863, 134217727, 268435455, 536870911, 1073741823, 2147483647, 4294967295, 2147483647, 10737418239, 27917287423, 62277025791, 137438953471, 274877906943], []) [sdO g2 ⟨p, a, outs, oa, oc, er⟩, mmO g3 m] 39 rfl ?_
   refine w_ 0 rfl (s_move rfl) ?_
   refine w_ 1 rfl ((s_lss rfl rfl).eq (v' := .bool true) rfl) ?_
   refine w_ 2 rfl (s_move rfl) ?_
   (refine s_ 3 ?_)
   (refine s_ 4 ?_)
   (refine s_ 5 ?_)
   (refine s_ 6 ?_)
   (refine s_ 7 ?_)
   (refine s_ 8 ?_)
   (refine s_ 9 ?_)
   (refine s_ 10 ?_)
   (refine s_ 11 ?_)
   (refine s_ 12 ?_)
   (refine s_ 13 ?_)
   (refine s_ 14 ?_)
   refine w_ 15 rfl z_13 ?_
   refine w_ 16 rfl (s_move rfl) ?_
   (refine s_ 17 ?_)
   (refine s_ 18 ?_)
   (refine s_ 19 ?_)
   (refine s_ 20 ?_)
   (refine s_ 21 ?_)
   (refine s_ 22 ?_)
   (refine s_ 23 ?_)
   refine w_ 24 rfl z_13 ?_
   refine w_ 25 rfl (s_move rfl) ?_
   (refine s_ 26 ?_)
   (refine s_ 27 ?_)
   (refine s_ 28 ?_)
   refine w_ 29 rfl z_13 ?_
   refine w_ 30 rfl (s_move rfl) ?_
   (refine s_ 31 ?_)
   (refine s_ 32 ?_)
   (refine s_ 33 ?_)
   (refine s_ 34 ?_)
   (refine s_ 35 ?_)
   (refine s_ 36 ?_)
   (refine s_ 37 ?_)
   refine w_ 38 rfl z_13 ?_
   refine ga_done z_4 ?_
   repeat refine y_ ?_
   rw [hbad]
   exact at_cutE ⟨(), fun h => by cases h⟩ j_ i_
  ·have hil := isPeer_lt hip
   rw [← hi] at hil
   have hqg : q = p.peers.getD i P0 := by rw [hqe, peerG, hi]
   have hsome := rdPr_some hs.r.rp hil
   rw [peerI_yes hip, ← hi]
   obtain ⟨q1, hq1⟩ : ∃ q', q' = decide (p.base < q.next) := ⟨_, rfl⟩
   obtain ⟨q2, hq2⟩ : ∃ q', q' = decide (m.p.index = p.base) := ⟨_, rfl⟩
   obtain ⟨q3, hq3⟩ : ∃ q', q' = decide (m.p.off < 0) := ⟨_, rfl⟩
   obtain ⟨q4, hq4⟩ : ∃ q', q' = decide ((p.img.length : Int) < m.p.off) := ⟨_, rfl⟩
   have hbad : gotBad p m.p = (q1 || (!q2 || (q3 || q4))) := by rw [gotBad, hip, ← hqe, hq1, hq2, hq3, hq4]; rfl
   rw [hbad]
   rcases (show q1 = true ∨ (q1 = false ∧ q2 = false) ∨ (q1 = false ∧ q2 = true ∧ q3 = true) ∨ (q1 = false ∧ q2 = true ∧ q3 = false) by cases q1 <;> cases q2 <;> cases q3 <;> simp) with rfl | ⟨rfl, rfl⟩ | ⟨rfl, rfl, rfl⟩ | ⟨rfl, rfl, rfl⟩
   all_goals
    repeat refine y_ ?_
    refine g_draw ([5, 9, 13, 18, 22, 27, 32, 35], [0, 1, 3, 7, 15, 31, 7, 127, 255, 511, 7, 1031, 3079, 7175, 16383, 32767, 65535, 131071, 262143, 131071, 655359, 1703935, 3801087, 8388607, 16777215, 33554431, 67108863, 134217727, 268435455, 536870911, 1073741823, 2147483647, 4294967295, 2147483647, 10737418239, 27917287423, 62277025791, 137438953471, 274877906943], []) [sdO g2 ⟨p, a, outs, oa, oc, er⟩, mmO g3 m] 39 rfl ?_
    refine w_ 0 rfl (s_move rfl) ?_
    refine w_ 1 rfl ((s_lss rfl rfl).eq (v' := .bool false) (congrArg Value.bool (decide_eq_false (by omega)))) ?_
    refine w_ 2 rfl (s_move rfl) ?_
    (refine ga_free_g 3 rfl z_1 rfl rfl rfl rfl rfl rfl z_4 ?_)
    (refine ga_free_g 4 rfl z_1 rfl rfl rfl rfl rfl rfl z_4 ?_)
    (refine ga_read_kg 5 rfl z_11 (s_load_blk rfl .del a20_14) k_ rfl rfl rfl rfl rfl rfl z_4 ?_)
    (refine ga_free_g 6 rfl (s_move rfl) rfl rfl rfl rfl rfl rfl z_4 ?_)
    (refine ga_free_g 7 rfl (s_indexAddr rfl hsome rfl (by show 0 ≤ (i : Int) ∧ (i : Int) < (p.peers.length : Nat); omega)) rfl rfl rfl rfl rfl rfl z_4 ?_)
    (refine ga_free_g 8 rfl z_8 rfl rfl rfl rfl rfl rfl z_4 ?_)
    (refine ga_readF_g 9 rfl ((s_load1 (v := .int .u64 q.next) rfl (fun w hw => by rw [hqg]; exact rdP1 (hs.r.rp.le hw.keep) (i := i) (by omega) hil))) k_ rfl rfl rfl rfl rfl rfl z_4 ?_)
    (refine ga_free_g 10 rfl z_1 rfl rfl rfl rfl rfl rfl z_4 ?_)
    (refine ga_free_g 11 rfl z_1 rfl rfl rfl rfl rfl rfl z_4 ?_)
    (refine ga_free_g 12 rfl z_1 rfl rfl rfl rfl rfl rfl z_4 ?_)
    (refine ga_read_kg 13 rfl z_11 (s_load_blk rfl .del a20_5) k_ rfl rfl rfl rfl rfl rfl z_4 ?_)
    (refine ga_free_g 14 rfl ((s_gtr rfl rfl).eb hq1) rfl rfl rfl rfl rfl rfl z_4 ?_)
    refine w_ 15 rfl z_12 ?_
    refine w_ 16 rfl (s_move rfl) ?_
    (first | refine s_ 17 ?_ | refine ga_free_g 17 rfl z_1 rfl rfl rfl rfl rfl rfl z_4 ?_)
    (first | refine s_ 18 ?_ | refine ga_read_kg 18 rfl z_9 (s_load_blk rfl .del a13_4) k_ rfl rfl rfl rfl rfl rfl z_4 ?_)
    (first | refine s_ 19 ?_ | refine ga_free_g 19 rfl z_1 rfl rfl rfl rfl rfl rfl z_4 ?_)
    (first | refine s_ 20 ?_ | refine ga_free_g 20 rfl z_1 rfl rfl rfl rfl rfl rfl z_4 ?_)
    (first | refine s_ 21 ?_ | refine ga_free_g 21 rfl z_1 rfl rfl rfl rfl rfl rfl z_4 ?_)
    (first | refine s_ 22 ?_ | refine ga_read_kg 22 rfl z_11 (s_load_blk rfl .del a20_5) k_ rfl rfl rfl rfl rfl rfl z_4 ?_)
    (first | refine s_ 23 ?_ | refine ga_free_g 23 rfl ((s_neq rfl rfl).eq (congrArg (fun b => Value.bool (!b)) hq2.symm)) rfl rfl rfl rfl rfl rfl z_4 ?_)
    refine w_ 24 rfl z_6 ?_
    refine w_ 25 rfl (s_move rfl) ?_
    (first | refine s_ 26 ?_ | refine ga_free_g 26 rfl z_1 rfl rfl rfl rfl rfl rfl z_4 ?_)
    (first | refine s_ 27 ?_ | refine ga_read_kg 27 rfl z_9 (s_load_blk rfl .del a13_10) k_ rfl rfl rfl rfl rfl rfl z_4 ?_)
    (first | refine s_ 28 ?_ | refine ga_free_g 28 rfl ((s_lss rfl rfl).eb hq3) rfl rfl rfl rfl rfl rfl z_4 ?_)
    refine w_ 29 rfl z_6 ?_
    refine w_ 30 rfl (s_move rfl) ?_
    (first | refine s_ 31 ?_ | refine ga_free_g 31 rfl z_1 rfl rfl rfl rfl rfl rfl z_4 ?_)
    (first | refine s_ 32 ?_ | refine ga_read_kg 32 rfl z_9 (s_load_blk rfl .del a13_10) k_ rfl rfl rfl rfl rfl rfl z_4 ?_)
    (first | refine s_ 33 ?_ | refine ga_free_g 33 rfl z_1 rfl rfl rfl rfl rfl rfl z_4 ?_)
    (first | refine s_ 34 ?_ | refine ga_free_g 34 rfl z_1 rfl rfl rfl rfl rfl rfl z_4 ?_)
    (first | refine s_ 35 ?_ | refine ga_read_kg 35 rfl z_11 (s_load_blk rfl .del a20_9) k_ rfl rfl rfl rfl rfl rfl z_4 ?_)
    (first | refine s_ 36 ?_ | refine ga_free_g 36 rfl (s_len_str rfl) rfl rfl rfl rfl rfl rfl z_4 ?_)
    (first | refine s_ 37 ?_ | refine ga_free_g 37 rfl ((s_gtr rfl rfl).eb hq4) rfl rfl rfl rfl rfl rfl z_4 ?_)
    refine w_ 38 rfl z_6 ?_
    refine ga_done z_4 ?_
    repeat refine y_ ?_
    exact at_cutE ⟨(), fun _ => rfl⟩ j_ i_
 have hu := u.2
 obtain ⟨b, hb⟩ : ∃ b, b = gotBad p m.p := ⟨_, rfl⟩
 rw [← hb] at hu
 rw [← hb]
 cases b
 rotate_left
 ·have e1 : gotP p m.p = p := by rw [gotP, if_pos hb.symm]
  have e2 : gotMs p m.p = [] := by rw [gotMs, if_pos hb.symm]
  simp only [e1, e2]
  repeat refine x_ ?_
  refine r_ ((s_load_blkW rfl z_2 z_7).eq (v' := sdV ⟨p, a, outs, oa, oc, er⟩) rfl) ?_
  (refine gl_store_blkW rfl rfl z_5 z_7 z_7 z_3 ?_)
  repeat refine n_ ?_
  refine g_ret ?_
  exact at_endB rfl rfl z_2 rfl [] ⟨⟨p, a, outs, oa, oc, er⟩, rfl, rfl, by rw [List.append_nil], rfl, hc, fun h hp _ => hp⟩ (fun w hw => hw.dropAll)
 have hip := hu rfl
 have hil := isPeer_lt hip
 rw [← hi] at hil
 have hqg : q = p.peers.getD i P0 := by rw [hqe, peerG, hi]
 have hqf := hf.prs q (by rw [hqg]; exact getD_memP hil)
 have hsome := rdPr_some hs.r.rp hil
 have hgg := hb.symm
 simp only [gotBad, hip, Bool.or_eq_false_iff, decide_eq_false_iff_not, Bool.not_true] at hgg
 obtain ⟨q', hq'⟩ : ∃ q', q' = gotPr p m.p := ⟨_, rfl⟩
 have hqq : q' = { q with off := m.p.off } := by rw [hq', gotPr, hqe]
 have e1 : gotP p m.p = setPr p i q' := by rw [gotP, ← hb, if_neg (by decide), ← hi, hq']
 have e2 : gotMs p m.p = [updateP (setPr p i q') q'] := by rw [gotMs, ← hb, if_neg (by decide), e1, hq']
 simp only [e1, e2]
 have hqf' : 1 ≤ q'.next ∧ q'.next ≤ 4611686018427387904 ∧ 0 ≤ q'.mtc ∧ q'.mtc ≤ 4611686018427387904 ∧ 0 ≤ q'.off ∧ q'.off ≤ p.img.length := by
  rw [hqq]; exact ⟨hqf.1, hqf.2.1, hqf.2.2.1, hqf.2.2.2.1, by show 0 ≤ m.p.off; omega, by show m.p.off ≤ _; omega⟩
 have hf1 := pf_setPr hf i q' hqf'
 rw [peerI_yes hip, ← hi]
 repeat refine x_ ?_
 refine f_ z_1 ?_
 refine f_ z_1 ?_
 refine r_ (by exact s_load_blk rfl z_2 a20_14) ?_
 refine m_ ?_
 refine f_ (s_indexAddr rfl hsome rfl (by show 0 ≤ (i : Int) ∧ (i : Int) < (p.peers.length : Nat); omega)) ?_
 refine r_ (s_loadN (cs := prC q) rfl (fun w hw => by rw [hqg]; exact rdPr (hs.r.rp.le hw.keep) (i := i) (by omega) hil) rfl) ?_
 refine gl_allocA rfl ?_; intro g6
 (refine gl_store_blkW rfl rfl z_5 z_7 z_7 z_3 ?_)
 repeat refine x_ ?_
 refine f_ z_1 ?_
 refine r_ (by exact s_load_blk rfl z_2 a13_10) ?_
 refine f_ z_1 ?_
 (refine gl_store_blkC (pre := [_, _, _]) (post := []) rfl rfl z_5 z_7 z_7 z_7 ?_)
 repeat refine n_ ?_
 refine g_pull (H' := [prO g6 q', sdO g2 ⟨p, a, outs, oa, oc, er⟩, sdZ g4]) (fun w hw => by rw [hqq]; exact hw.upd_same (.there (.there .del))) ?_
 repeat refine x_ ?_
 refine f_ z_1 ?_
 refine f_ z_1 ?_
 refine r_ (by exact s_load_blk rfl z_2 a20_14) ?_
 refine m_ ?_
 refine r_ ((s_load_blkW rfl z_2 z_7).eq (v' := prA q') rfl) ?_
 refine gl_call _ rfl (rPut_ct p.peers a.pa a.pc i q' hil hpl) i_ (fun h hh _ => (hs.le hh).r.rp) rfl ?_; rintro v A ⟨pa, pc, Z, rfl, rfl⟩; rw [show (p.peers.set i q').length = (setPr p i q').peers.length from rfl]; refine gl_rot3 ?_
 refine f_ z_1 ?_
 refine f_ z_1 ?_
 (refine gl_store_blkC (pre := [_, _, _, _, _, _, _, _, _, _, _, _, _, _]) (post := [_, _, _, _, _]) rfl rfl z_5 z_7 z_7 z_7 ?_)
 repeat refine n_ ?_
 obtain ⟨a1, ha1⟩ : ∃ a1 : RA, a1 = { a with pa := pa, pc := pc } := ⟨_, rfl⟩
 refine g_pull (H' := prO g6 q' :: sdO g2 ⟨setPr p i q', a1, outs, oa, oc, er⟩ :: sdZ g4 :: OwnP pa (p.peers.set i q') pc :: Z) (fun w hw => by rw [List.append_nil] at hw; rw [ha1]; exact hw) ?_
 have hok : ∀ h, SdOk h ⟨p, a, outs, oa, oc, er⟩ → (∃ bs, Sat h (OwnP pa (p.peers.set i q') pc :: Z) bs) → SdOk h ⟨setPr p i q', a1, outs, oa, oc, er⟩ := fun h hp hb => ⟨by rw [ha1]; exact set_rd hp.r hb, hp.o, hp.m⟩
 have hc1 : (setPr p i q').l.length ≤ a1.lc := by rw [ha1]; exact hc
 repeat refine x_ ?_
 refine r_ ((s_load_blkW rfl z_2 z_7).eq (v' := sdV ⟨setPr p i q', a1, outs, oa, oc, er⟩) rfl) ?_
 refine r_ ((s_load_blkW rfl z_2 z_7).eq (v' := prA q') rfl) ?_
 refine gl_call _ rfl (rUpdate_ct ⟨setPr p i q', a1, outs, oa, oc, er⟩ q' hf1 ⟨⟨hqf'.1, hqf'.2.1⟩, hqf'.2.2.2.2⟩ hc1 (by simp only; omega)) i_ (fun h hh hb => hok h (hs.le hh) (sat_tail (sat_tail (sat_tail hb)))) rfl ?_; rintro v A2 hA2; obtain ⟨s2, rfl, hB2⟩ := hA2; refine gl_rot3 ?_
 (refine gl_store_blkW rfl rfl z_5 z_7 z_7 z_3 ?_)
 repeat refine n_ ?_
 refine g_ret ?_
 exact at_endB rfl rfl z_2 rfl (A2 ++ (OwnP pa (p.peers.set i q') pc :: Z)) (SdP.le _ (A := A2) ⟨s2, rfl, hB2⟩ (fun h hp hb => hok h hp hb)) (fun w hw => hw.drop.drop.drop)
end Go.Proofs.YtodcghipfolejaaGreat.Rf
namespace Go.Proofs.YtodcghipfolejaaGreat.Rf
open Go Go.Sl
set_option maxRecDepth 16000 in
set_option maxHeartbeats 16000000 in
theorem rAck_ct (s : SD) (m : MM) (hf : PFit s.p) (hm : MFit m.p) (hsm : ∀ q ∈ s.p.peers, q.mtc ≤ 1000000000000 ∧ q.next ≤ 1000000000000) (hc : s.p.l.length ≤ s.a.lc) (ho : s.outs.length ≤ 1000000) : Ct Tryz.prog 77 [sdV s, mmA m] (fun h => SdOk h s) [] (SdP (fun h => SdOk h s) (ackP s.p m.p) (s.outs.map MM.p ++ ackMs s.p m.p) s.er) := by
 obtain ⟨p, a, outs, oa, oc, er⟩ := s
 simp only at hf hc ho hsm
 have hpl := hf.peers
 have hix := hm.index
 have hlast := hf.last
 have hg := hf.fit a hc
 refine ct_enter 119 Tryz.func77 rfl rfl rfl ?_
 intro F hs
 repeat refine x_ ?_
 refine gl_boxA rfl rfl ?_; intro g2
 refine gl_boxA rfl rfl ?_; intro g3
 refine gl_allocA rfl ?_; intro g4
 repeat refine n_ ?_
 refine g_pull (H' := [sdO g2 ⟨p, a, outs, oa, oc, er⟩, mmO g3 m, sdZ g4]) (fun w hw => hw.perm (perm_up z_2 (perm_up z_2 (perm_up z_2 (.refl _))))) ?_
 repeat refine x_ ?_
 refine f_ z_1 ?_
 refine r_ ((s_load_blkN rfl z_2 z_7).eq (v' := rsV p a) rfl) ?_
 refine r_ ((s_load_blkW rfl z_2 z_7).eq (v' := mmA m) rfl) ?_
 refine gl_callp rfl (rPeer_ct p a m hf) (fun h hh _ => (hs.le hh).r) rfl ?_
 refine a_ ?_
 repeat refine n_ ?_
 cases hip : isPeer p m.p
 ·have e1 : ackP p m.p = p := by rw [ackP, if_pos hip]
  have e2 : ackMs p m.p = [] := by rw [ackMs, if_pos hip]
  rw [peerI_no hip]
  simp only [e1, e2]
  repeat refine x_ ?_
  refine m_ ?_
  refine f_ ((s_lss rfl rfl).eq (v' := .bool true) rfl) ?_
  repeat refine x_ ?_
  refine r_ ((s_load_blkW rfl z_2 z_7).eq (v' := sdV ⟨p, a, outs, oa, oc, er⟩) rfl) ?_
  (refine gl_store_blkW rfl rfl z_5 z_7 z_7 z_3 ?_)
  repeat refine n_ ?_
  refine g_ret ?_
  exact at_endB rfl rfl z_2 rfl [] ⟨⟨p, a, outs, oa, oc, er⟩, rfl, rfl, by rw [List.append_nil], rfl, hc, fun h hp _ => hp⟩ (fun w hw => hw.dropAll)
 rw [peerI_yes hip]
 have hil := isPeer_lt hip
 obtain ⟨i, hi⟩ : ∃ i, i = peerAt p m.p := ⟨_, rfl⟩
 rw [← hi] at hil
 rw [← hi]
 have hsome := rdPr_some hs.r.rp hil
 obtain ⟨q, hq⟩ : ∃ q, q = peerG p m.p := ⟨_, rfl⟩
 have hqg : q = p.peers.getD i P0 := by rw [hq, peerG, hi]
 have hqm : q ∈ p.peers := by rw [hqg]; exact getD_memP hil
 have hqf := hf.prs q hqm
 have hqs := hsm q hqm
 repeat refine x_ ?_
 refine m_ ?_
 refine f_ ((s_lss rfl rfl).eq (v' := .bool false) (congrArg Value.bool (decide_eq_false (by omega)))) ?_
 repeat refine x_ ?_
 refine f_ z_1 ?_
 refine f_ z_1 ?_
 refine r_ (by exact s_load_blk rfl z_2 a20_14) ?_
 refine m_ ?_
 refine f_ (s_indexAddr rfl hsome rfl (by show 0 ≤ (i : Int) ∧ (i : Int) < (p.peers.length : Nat); omega)) ?_
 refine r_ (s_loadN (cs := prC q) rfl (fun w hw => by rw [hqg]; exact rdPr (hs.r.rp.le hw.keep) (i := i) (by omega) hil) rfl) ?_
 refine gl_allocA rfl ?_; intro g6
 (refine gl_store_blkW rfl rfl z_5 z_7 z_7 z_3 ?_)
 repeat refine n_ ?_
 obtain ⟨ok, hoke⟩ : ∃ ok, ok = m.p.ok := ⟨_, rfl⟩
 repeat refine x_ ?_
 refine f_ z_1 ?_
 refine r_ (by exact s_load_blk rfl z_2 a13_7) ?_
 refine f_ ((s_not rfl).eq (v' := .bool (!ok)) (by rw [hoke])) ?_
 repeat refine n_ ?_
 cases ok
 ·have hok : m.p.ok = false := hoke.symm
  obtain ⟨qb, hqb⟩ : ∃ qb, qb = backPr q m.p.index := ⟨_, rfl⟩
  have e1 : ackP p m.p = setPr p i qb := by rw [ackP, if_neg (by rw [hip]; decide), if_pos hok, ← hi, ← hq, hqb]
  have e2 : ackMs p m.p = [updateP (setPr p i qb) qb] := by rw [ackMs, if_neg (by rw [hip]; decide), if_pos hok, ← hi, ← hq, hqb]
  have hqbn : qb = { q with next := max q.mtc (min (q.next - 1) m.p.index) + 1 } := hqb
  have hqbf : 1 ≤ qb.next ∧ qb.next ≤ 4611686018427387904 ∧ 0 ≤ qb.mtc ∧ qb.mtc ≤ 4611686018427387904 ∧ 0 ≤ qb.off ∧ qb.off ≤ p.img.length := by
   rw [hqb]
   show 1 ≤ max q.mtc (min (q.next - 1) m.p.index) + 1 ∧ max q.mtc (min (q.next - 1) m.p.index) + 1 ≤ _ ∧ 0 ≤ q.mtc ∧ q.mtc ≤ _ ∧ 0 ≤ q.off ∧ q.off ≤ p.img.length
   omega
  have hf1 := pf_setPr hf i qb hqbf
  simp only [e1, e2]
  obtain ⟨r1, hr1⟩ : ∃ b, b = decide (m.p.index < q.next) := ⟨_, rfl⟩
  obtain ⟨r2, hr2⟩ : ∃ b, b = decide (m.p.index + 1 < q.next) := ⟨_, rfl⟩
  have hadd : r1 = true → 0 ≤ m.p.index + 1 ∧ m.p.index + 1 ≤ 18446744073709551615 := by
   rintro rfl
   have := of_decide_eq_true hr1.symm
   omega
  have hr12 : (r1 && r2) = r2 := by
   rw [hr1, hr2, Bool.and_eq_right_iff_imp]
   intro h
   have := of_decide_eq_true h
   exact decide_eq_true (by omega)
  repeat refine y_ ?_
  refine g_cutK [(2, Ptr g2), (3, Ptr g3), (4, Ptr g4), (5, .int .i64 (i : Nat)), (6, Ptr g6), (35, .bool r2)] [prO g6 q, sdO g2 ⟨p, a, outs, oa, oc, er⟩, mmO g3 m, sdZ g4] ?_ ?_
  ·rw [← hr12]
   rcases (show r1 = false ∨ r1 = true by cases r1 <;> simp) with rfl | rfl
   all_goals
    repeat refine x_ ?_
    refine f_ z_1 ?_
    refine r_ (by exact s_load_blk rfl z_2 a13_4) ?_
    refine f_ z_1 ?_
    refine r_ (by exact s_load_blk rfl z_2 a4_1) ?_
    refine f_ ((s_lss rfl rfl).eb hr1) ?_
    refine m_ ?_
    (first | refine gl_guard_no rfl rfl rfl rfl rfl rfl rfl ?_ | (refine v_ ?_; refine f_ z_1 ?_))
    (first | refine gl_guard_no rfl rfl rfl rfl rfl rfl rfl ?_ | (refine v_ ?_; refine r_ (by exact s_load_blk rfl z_2 a13_4) ?_))
    (first | refine gl_guard_no rfl rfl rfl rfl rfl rfl rfl ?_ | (refine v_ ?_; refine f_ (s_add_u64 rfl rfl (hadd rfl)) ?_))
    (first | refine gl_guard_no rfl rfl rfl rfl rfl rfl rfl ?_ | (refine v_ ?_; refine f_ z_1 ?_))
    (first | refine gl_guard_no rfl rfl rfl rfl rfl rfl rfl ?_ | (refine v_ ?_; refine r_ (by exact s_load_blk rfl z_2 a4_1) ?_))
    (first | refine gl_guard_no rfl rfl rfl rfl rfl rfl rfl ?_ | (refine v_ ?_; refine f_ ((s_lss rfl rfl).eb hr2) ?_))
    refine f_ z_6 ?_
    repeat refine n_ ?_
    exact at_cut j_ i_
  obtain ⟨n1, hn1⟩ : ∃ n, n = min q.next (m.p.index + 1) := ⟨_, rfl⟩
  repeat refine y_ ?_
  refine g_cutK [(2, Ptr g2), (3, Ptr g3), (4, Ptr g4), (5, .int .i64 (i : Nat)), (6, Ptr g6)] [prO g6 { q with next := n1 }, sdO g2 ⟨p, a, outs, oa, oc, er⟩, mmO g3 m, sdZ g4] ?_ ?_
  ·cases r2
   ·have h1 := of_decide_eq_false hr2.symm
    have e3 : n1 = q.next := by omega
    rw [e3]
    repeat refine y_ ?_
    exact at_cut j_ i_
   ·have h1 := of_decide_eq_true hr2.symm
    have e3 : n1 = m.p.index + 1 := by omega
    rw [e3]
    repeat refine x_ ?_
    refine f_ z_1 ?_
    refine r_ (by exact s_load_blk rfl z_2 a13_4) ?_
    refine f_ (s_add_u64 rfl rfl (by omega)) ?_
    refine f_ z_1 ?_
    (refine gl_store_blkC (pre := [_]) (post := [_, _]) rfl rfl z_5 z_7 z_7 z_7 ?_)
    repeat refine n_ ?_
    exact at_cut j_ i_
  obtain ⟨r3, hr3⟩ : ∃ b, b = decide (n1 < q.mtc + 1) := ⟨_, rfl⟩
  repeat refine x_ ?_
  refine f_ z_1 ?_
  refine r_ (by exact s_load_blk rfl z_2 a4_1) ?_
  refine f_ z_1 ?_
  refine r_ (by exact s_load_blk rfl z_2 a4_2) ?_
  refine f_ (s_add_u64 rfl rfl (by show 0 ≤ q.mtc + 1 ∧ q.mtc + 1 ≤ 18446744073709551615; omega)) ?_
  refine f_ ((s_lss rfl rfl).eb hr3) ?_
  repeat refine n_ ?_
  refine g_cutK [(2, Ptr g2), (3, Ptr g3), (4, Ptr g4), (5, .int .i64 (i : Nat)), (6, Ptr g6)] [prO g6 qb, sdO g2 ⟨p, a, outs, oa, oc, er⟩, mmO g3 m, sdZ g4] ?_ ?_
  ·cases r3
   ·have h1 := of_decide_eq_false hr3.symm
    have e3 : max q.mtc (min (q.next - 1) m.p.index) + 1 = n1 := by omega
    rw [hqbn, e3]
    repeat refine y_ ?_
    exact at_cut j_ i_
   ·have h1 := of_decide_eq_true hr3.symm
    have e3 : max q.mtc (min (q.next - 1) m.p.index) + 1 = q.mtc + 1 := by omega
    rw [hqbn, e3]
    repeat refine x_ ?_
    refine f_ z_1 ?_
    refine r_ (by exact s_load_blk rfl z_2 a4_2) ?_
    refine f_ (s_add_u64 rfl rfl (by show 0 ≤ q.mtc + 1 ∧ q.mtc + 1 ≤ 18446744073709551615; omega)) ?_
    refine f_ z_1 ?_
    (refine gl_store_blkC (pre := [_]) (post := [_, _]) rfl rfl z_5 z_7 z_7 z_7 ?_)
    repeat refine n_ ?_
    exact at_cut j_ i_
  repeat refine y_ ?_
  refine g_pull (H' := [prO g6 qb, sdO g2 ⟨p, a, outs, oa, oc, er⟩, sdZ g4]) (fun w hw => hw.upd_same (.there (.there .del))) ?_
  repeat refine x_ ?_
  refine f_ z_1 ?_
  refine f_ z_1 ?_
  refine r_ (by exact s_load_blk rfl z_2 a20_14) ?_
  refine m_ ?_
  refine r_ ((s_load_blkW rfl z_2 z_7).eq (v' := prA qb) rfl) ?_
  refine gl_call _ rfl (rPut_ct p.peers a.pa a.pc i qb hil hpl) i_ (fun h hh _ => (hs.le hh).r.rp) rfl ?_; rintro v A ⟨pa, pc, Z, rfl, rfl⟩; rw [show (p.peers.set i qb).length = (setPr p i qb).peers.length from rfl]; refine gl_rot3 ?_
  refine f_ z_1 ?_
  refine f_ z_1 ?_
  (refine gl_store_blkC (pre := [_, _, _, _, _, _, _, _, _, _, _, _, _, _]) (post := [_, _, _, _, _]) rfl rfl z_5 z_7 z_7 z_7 ?_)
  repeat refine n_ ?_
  obtain ⟨a1, ha1⟩ : ∃ a1 : RA, a1 = { a with pa := pa, pc := pc } := ⟨_, rfl⟩
  refine g_pull (H' := prO g6 qb :: sdO g2 ⟨setPr p i qb, a1, outs, oa, oc, er⟩ :: sdZ g4 :: OwnP pa (p.peers.set i qb) pc :: Z) (fun w hw => by rw [List.append_nil] at hw; rw [ha1]; exact hw) ?_
  have hokk : ∀ h, SdOk h ⟨p, a, outs, oa, oc, er⟩ → (∃ bs, Sat h (OwnP pa (p.peers.set i qb) pc :: Z) bs) → SdOk h ⟨setPr p i qb, a1, outs, oa, oc, er⟩ := fun h hp hb => ⟨by rw [ha1]; exact set_rd hp.r hb, hp.o, hp.m⟩
  have hc1 : (setPr p i qb).l.length ≤ a1.lc := by rw [ha1]; exact hc
  repeat refine x_ ?_
  refine r_ ((s_load_blkW rfl z_2 z_7).eq (v' := sdV ⟨setPr p i qb, a1, outs, oa, oc, er⟩) rfl) ?_
  refine r_ ((s_load_blkW rfl z_2 z_7).eq (v' := prA qb) rfl) ?_
  refine gl_call _ rfl (rUpdate_ct ⟨setPr p i qb, a1, outs, oa, oc, er⟩ qb hf1 ⟨⟨hqbf.1, hqbf.2.1⟩, hqbf.2.2.2.2⟩ hc1 (by simp only; omega)) i_ (fun h hh hb => hokk h (hs.le hh) (sat_tail (sat_tail (sat_tail hb)))) rfl ?_; rintro v A2 hA2; obtain ⟨s2, rfl, hB2⟩ := hA2; refine gl_rot3 ?_
  (refine gl_store_blkW rfl rfl z_5 z_7 z_7 z_3 ?_)
  repeat refine n_ ?_
  refine g_ret ?_
  exact at_endB rfl rfl z_2 rfl (A2 ++ (OwnP pa (p.peers.set i qb) pc :: Z)) (SdP.le _ (A := A2) ⟨s2, rfl, hB2⟩ (fun h hp hb => hokk h hp hb)) (fun w hw => hw.drop.drop.drop)
 have hok : m.p.ok = true := hoke.symm
 obtain ⟨q1, hq1⟩ : ∃ b, b = decide (m.p.index ≤ q.mtc) := ⟨_, rfl⟩
 obtain ⟨q2, hq2⟩ : ∃ b, b = decide (lastI p.g < m.p.index) := ⟨_, rfl⟩
 repeat refine y_ ?_
 refine g_cutK [(2, Ptr g2), (3, Ptr g3), (4, Ptr g4), (5, .int .i64 (i : Nat)), (6, Ptr g6), (74, .bool (q1 || q2))] [prO g6 q, sdO g2 ⟨p, a, outs, oa, oc, er⟩, mmO g3 m, sdZ g4] ?_ ?_
 ·rcases (show q1 = true ∨ q1 = false by cases q1 <;> simp) with rfl | rfl
  all_goals
   repeat refine y_ ?_
   refine g_draw ([1, 3, 7, 10], [0, 1, 0, 4, 15, 31, 63, 127, 63, 319, 831, 1855, 4095, 8191], []) [prO g6 q, sdO g2 ⟨p, a, outs, oa, oc, er⟩, mmO g3 m] 14 rfl ?_
   refine w_ 0 rfl z_1 ?_
   (refine ga_read_k 1 rfl z_17 (s_load_blk rfl .del a13_4) k_ rfl rfl rfl z_4 ?_)
   refine w_ 2 rfl z_1 ?_
   (refine ga_read_k 3 rfl z_11 (s_load_blk rfl .del a4_2) k_ rfl rfl rfl z_4 ?_)
   refine w_ 4 rfl ((s_leq rfl rfl).eb hq1) ?_
   refine w_ 5 rfl (s_move rfl) ?_
   (first | refine s_ 6 ?_ | refine ga_free_g 6 rfl z_1 rfl rfl rfl rfl rfl rfl z_4 ?_)
   (first | refine s_ 7 ?_ | refine ga_read_kg 7 rfl z_17 (s_load_blk rfl .del a13_4) k_ rfl rfl rfl rfl rfl rfl z_4 ?_)
   (first | refine s_ 8 ?_ | refine ga_free_g 8 rfl z_1 rfl rfl rfl rfl rfl rfl z_4 ?_)
   (first | refine s_ 9 ?_ | refine ga_free_g 9 rfl z_1 rfl rfl rfl rfl rfl rfl z_4 ?_)
   (first | refine s_ 10 ?_ | refine ga_read_kg 10 rfl z_9 ((s_load_blkN rfl .del z_7).eq (v' := (p.lm a).v) rfl) k_ rfl rfl rfl rfl rfl rfl z_4 ?_)
   refine ga_one 11 rfl z_4 ?_
   (first | refine gl_guard_no rfl rfl rfl rfl rfl rfl rfl ?_ | (refine v_ ?_; refine gl_callp rfl (rLast_ct (p.lm a) hg) (fun _ _ _ => trivial) rfl ?_; rw [show lastI (p.lm a) = lastI p.g from rfl]))
   refine gl_nil ?_
   refine at_ga (.inr (by exact keeps_of k_)) ?_
   (first | refine s_ 12 ?_ | refine ga_free_g 12 rfl ((s_gtr rfl rfl).eb hq2) rfl rfl rfl rfl rfl rfl z_4 ?_)
   refine w_ 13 rfl z_6 ?_
   refine ga_done z_4 ?_
   repeat refine y_ ?_
   exact at_cut j_ i_
 have hqq : (q1 || q2) = true ↔ (m.p.index ≤ (peerG p m.p).mtc ∨ lastI p.g < m.p.index) := by rw [Bool.or_eq_true, hq1, hq2, decide_eq_true_eq, decide_eq_true_eq, ← hq]
 obtain ⟨q3, hq3⟩ : ∃ b, b = (q1 || q2) := ⟨_, rfl⟩
 rw [← hq3] at hqq
 rw [← hq3]
 cases q3
 rotate_left
 ·have hbad := hqq.1 rfl
  have e1 : ackP p m.p = p := by rw [ackP, if_neg (by rw [hip]; decide), if_neg (by rw [hok]; decide), if_pos hbad]
  have e2 : ackMs p m.p = [] := by rw [ackMs, if_neg (by rw [hip]; decide), if_neg (by rw [hok]; decide), if_pos hbad]
  simp only [e1, e2]
  repeat refine x_ ?_
  refine r_ ((s_load_blkW rfl z_2 z_7).eq (v' := sdV ⟨p, a, outs, oa, oc, er⟩) rfl) ?_
  (refine gl_store_blkW rfl rfl z_5 z_7 z_7 z_3 ?_)
  repeat refine n_ ?_
  refine g_ret ?_
  exact at_endB rfl rfl z_2 rfl [] ⟨⟨p, a, outs, oa, oc, er⟩, rfl, rfl, by rw [List.append_nil], rfl, hc, fun h hp _ => hp⟩ (fun w hw => hw.dropAll)
 have hgood : ¬ (m.p.index ≤ (peerG p m.p).mtc ∨ lastI p.g < m.p.index) := fun h => by have := hqq.2 h; cases this
 have hgd := hgood
 rw [← hq] at hgd
 obtain ⟨qf, hqfe⟩ : ∃ qf, qf = fwdPr q m.p.index := ⟨_, rfl⟩
 have e1 : ackP p m.p = commitP (setPr p i qf) := by rw [ackP, if_neg (by rw [hip]; decide), if_neg (by rw [hok]; decide), if_neg hgood, ← hi, ← hq, hqfe]
 have e2 : ackMs p m.p = if (commitP (setPr p i qf)).role = 2 ∧ qf.next ≤ lastI p.g then [updateP (commitP (setPr p i qf)) qf] else [] := by
  rw [ackMs, if_neg (by rw [hip]; decide), if_neg (by rw [hok]; decide), if_neg hgood, e1, ← hq, hqfe]
 have hqfn : qf = ⟨q.node, max q.next (m.p.index + 1), m.p.index, 0⟩ := hqfe
 have hqff : 1 ≤ qf.next ∧ qf.next ≤ 4611686018427387904 ∧ 0 ≤ qf.mtc ∧ qf.mtc ≤ 4611686018427387904 ∧ 0 ≤ qf.off ∧ qf.off ≤ p.img.length := by
  rw [hqfe]
  show 1 ≤ max q.next (m.p.index + 1) ∧ max q.next (m.p.index + 1) ≤ _ ∧ 0 ≤ m.p.index ∧ m.p.index ≤ _ ∧ (0 : Int) ≤ 0 ∧ (0 : Int) ≤ p.img.length
  omega
 have hf1 := pf_setPr hf i qf hqff
 rw [e1, e2]
 obtain ⟨r1, hr1⟩ : ∃ b, b = decide (q.next < m.p.index + 1) := ⟨_, rfl⟩
 repeat refine x_ ?_
 refine f_ z_1 ?_
 refine r_ (by exact s_load_blk rfl z_2 a13_4) ?_
 refine f_ z_1 ?_
 (refine gl_store_blkC (pre := [_, _]) (post := [_]) rfl rfl z_5 z_7 z_7 z_7 ?_)
 repeat refine x_ ?_
 refine f_ z_1 ?_
 (refine gl_store_blkC (pre := [_, _, _]) (post := []) rfl rfl z_5 z_7 z_7 z_7 ?_)
 repeat refine x_ ?_
 refine f_ z_1 ?_
 refine r_ (by exact s_load_blk rfl z_2 a4_1) ?_
 refine f_ z_1 ?_
 refine r_ (by exact s_load_blk rfl z_2 a13_4) ?_
 refine f_ (s_add_u64 rfl rfl (by omega)) ?_
 refine f_ ((s_lss rfl rfl).eb hr1) ?_
 repeat refine n_ ?_
 refine g_cutK [(2, Ptr g2), (3, Ptr g3), (4, Ptr g4), (5, .int .i64 (i : Nat)), (6, Ptr g6)] [prO g6 qf, sdO g2 ⟨p, a, outs, oa, oc, er⟩, sdZ g4] ?_ ?_
 ·cases r1
  ·have h1 := of_decide_eq_false hr1.symm
   have e3 : max q.next (m.p.index + 1) = q.next := by omega
   rw [hqfn, e3]
   repeat refine y_ ?_
   exact at_cut j_ (fun w hw => hw.upd_same (.there (.there .del)))
  ·have h1 := of_decide_eq_true hr1.symm
   have e3 : max q.next (m.p.index + 1) = m.p.index + 1 := by omega
   rw [hqfn, e3]
   repeat refine x_ ?_
   refine f_ z_1 ?_
   refine r_ (by exact s_load_blk rfl z_2 a13_4) ?_
   refine f_ (s_add_u64 rfl rfl (by omega)) ?_
   refine f_ z_1 ?_
   (refine gl_store_blkC (pre := [_]) (post := [_, _]) rfl rfl z_5 z_7 z_7 z_7 ?_)
   repeat refine n_ ?_
   exact at_cut j_ (fun w hw => hw.upd_same (.there (.there .del)))
 repeat refine x_ ?_
 refine f_ z_1 ?_
 refine f_ z_1 ?_
 refine r_ (by exact s_load_blk rfl z_2 a20_14) ?_
 refine m_ ?_
 refine r_ ((s_load_blkW rfl z_2 z_7).eq (v' := prA qf) rfl) ?_
 refine gl_call _ rfl (rPut_ct p.peers a.pa a.pc i qf hil hpl) i_ (fun h hh _ => (hs.le hh).r.rp) rfl ?_; rintro v A ⟨pa, pc, Z, rfl, rfl⟩; rw [show (p.peers.set i qf).length = (setPr p i qf).peers.length from rfl]; refine gl_rot3 ?_
 refine f_ z_1 ?_
 refine f_ z_1 ?_
 (refine gl_store_blkC (pre := [_, _, _, _, _, _, _, _, _, _, _, _, _, _]) (post := [_, _, _, _, _]) rfl rfl z_5 z_7 z_7 z_7 ?_)
 repeat refine n_ ?_
 obtain ⟨a1, ha1⟩ : ∃ a1 : RA, a1 = { a with pa := pa, pc := pc } := ⟨_, rfl⟩
 obtain ⟨ps, hps⟩ : ∃ ps, ps = setPr p i qf := ⟨_, rfl⟩
 have hlp : lastI ps.g = lastI p.g := by rw [hps]; rfl
 refine g_pull (H' := sdO g2 ⟨ps, a1, outs, oa, oc, er⟩ :: prO g6 qf :: sdZ g4 :: OwnP pa (p.peers.set i qf) pc :: Z) (fun w hw => by rw [List.append_nil] at hw; rw [ha1, hps]; exact hw.perm (.swap _ _ _)) ?_
 have hokk : ∀ h, SdOk h ⟨p, a, outs, oa, oc, er⟩ → (∃ bs, Sat h (OwnP pa (p.peers.set i qf) pc :: Z) bs) → SdOk h ⟨ps, a1, outs, oa, oc, er⟩ := fun h hp hb => ⟨by rw [ha1, hps]; exact set_rd hp.r hb, hp.o, hp.m⟩
 have hc1 : ps.l.length ≤ a1.lc := by rw [ha1, hps]; exact hc
 rw [← hps] at hf1
 rw [← hps]
 have hcl := commitP_log ps
 have hfc := pf_commit hf1
 have himg : ps.img = p.img := by rw [hps]; rfl
 have hlc := commitP_last ps
 repeat refine x_ ?_
 refine f_ z_1 ?_
 refine r_ ((s_load_blkN rfl z_2 z_7).eq (v' := rsV ps a1) rfl) ?_
 refine gl_call _ rfl (rCommit17_ct ps a1 hf1 hc1) i_ (fun h hh hb => (hokk h (hs.le hh) (sat_tail (sat_tail (sat_tail hb)))).r) rfl ?_; rintro v A3 ⟨a3, rfl, hc3, hA3⟩; refine gl_rot3 ?_
 refine f_ z_1 ?_
 (refine gl_store_blk rfl rfl z_5 z_7 z_3 z_7 ?_)
 repeat refine n_ ?_
 obtain ⟨pc3, hpc3⟩ : ∃ x, x = commitP ps := ⟨_, rfl⟩
 rw [← hpc3] at hfc hc3 hA3 hlc ⊢
 obtain ⟨Z3, hZ3⟩ : ∃ Z3, Z3 = A3 ++ (OwnP pa (p.peers.set i qf) pc :: Z) := ⟨_, rfl⟩
 have hok3 : ∀ h, SdOk h ⟨p, a, outs, oa, oc, er⟩ → (∃ bs, Sat h Z3 bs) → SdOk h ⟨pc3, a3, outs, oa, oc, er⟩ := fun h hp hb => by
  rw [hZ3] at hb
  obtain ⟨s1, s2⟩ := Sat.two2 hb
  exact ⟨hA3 h (hokk h hp s2).r s1, hp.o, hp.m⟩
 refine g_pull (H' := sdO g2 ⟨pc3, a3, outs, oa, oc, er⟩ :: prO g6 qf :: sdZ g4 :: Z3) (fun w hw => by rw [hZ3]; exact hw) ?_
 have hg3 := hfc.fit a3 hc3
 obtain ⟨q5, hq5⟩ : ∃ b, b = decide (pc3.role = 2) := ⟨_, rfl⟩
 obtain ⟨q4, hq4⟩ : ∃ b, b = decide (qf.next ≤ lastI pc3.g) := ⟨_, rfl⟩
 refine g_cutK [(2, Ptr g2), (3, Ptr g3), (4, Ptr g4), (6, Ptr g6), (114, .bool (q5 && q4))] (sdO g2 ⟨pc3, a3, outs, oa, oc, er⟩ :: prO g6 qf :: sdZ g4 :: Z3) ?_ ?_
 ·rcases (show q5 = false ∨ q5 = true by cases q5 <;> simp) with rfl | rfl
  all_goals
   repeat refine y_ ?_
   refine g_draw ([2, 6, 9], [0, 1, 3, 7, 15, 31, 63, 31, 159, 415, 927, 2047, 4095], []) [sdO g2 ⟨pc3, a3, outs, oa, oc, er⟩, prO g6 qf] 13 rfl ?_
   refine w_ 0 rfl z_1 ?_
   refine w_ 1 rfl z_1 ?_
   (refine ga_read_k 2 rfl z_11 (s_load_blk rfl .del a20_3) k_ rfl rfl rfl z_4 ?_)
   refine w_ 3 rfl ((s_eql rfl rfl).eb hq5) ?_
   refine w_ 4 rfl (s_move rfl) ?_
   (first | refine s_ 5 ?_ | refine ga_free_g 5 rfl z_1 rfl rfl rfl rfl rfl rfl z_4 ?_)
   (first | refine s_ 6 ?_ | refine ga_read_kg 6 rfl z_9 (s_load_blk rfl .del a4_1) k_ rfl rfl rfl rfl rfl rfl z_4 ?_)
   (first | refine s_ 7 ?_ | refine ga_free_g 7 rfl z_1 rfl rfl rfl rfl rfl rfl z_4 ?_)
   (first | refine s_ 8 ?_ | refine ga_free_g 8 rfl z_1 rfl rfl rfl rfl rfl rfl z_4 ?_)
   (first | refine s_ 9 ?_ | refine ga_read_kg 9 rfl z_11 ((s_load_blkN rfl .del z_7).eq (v' := (pc3.lm a3).v) rfl) k_ rfl rfl rfl rfl rfl rfl z_4 ?_)
   refine ga_one 10 rfl z_4 ?_
   (first | refine gl_guard_no rfl rfl rfl rfl rfl rfl rfl ?_ | (refine v_ ?_; refine gl_callp rfl (rLast_ct (pc3.lm a3) hg3) (fun _ _ _ => trivial) rfl ?_; rw [show lastI (pc3.lm a3) = lastI pc3.g from rfl]))
   refine gl_nil ?_
   refine at_ga (.inr (by exact keeps_of k_)) ?_
   (first | refine s_ 11 ?_ | refine ga_free_g 11 rfl ((s_leq rfl rfl).eb hq4) rfl rfl rfl rfl rfl rfl z_4 ?_)
   refine w_ 12 rfl z_6 ?_
   refine ga_done z_4 ?_
   repeat refine y_ ?_
   exact at_cut j_ i_
 have hq45 : (q5 && q4) = true ↔ (pc3.role = 2 ∧ qf.next ≤ lastI p.g) := by rw [Bool.and_eq_true, hq5, hq4, decide_eq_true_eq, decide_eq_true_eq, hlc, hlp]
 obtain ⟨q6, hq6⟩ : ∃ b, b = (q5 && q4) := ⟨_, rfl⟩
 rw [← hq6] at hq45
 rw [← hq6]
 cases q6
 ·have hno : ¬ (pc3.role = 2 ∧ qf.next ≤ lastI p.g) := fun h => by have := hq45.2 h; cases this
  rw [if_neg hno, List.append_nil]
  repeat refine x_ ?_
  refine r_ ((s_load_blkW rfl z_2 z_7).eq (v' := sdV ⟨pc3, a3, outs, oa, oc, er⟩) rfl) ?_
  (refine gl_store_blkW rfl rfl z_5 z_7 z_7 z_3 ?_)
  repeat refine n_ ?_
  refine g_ret ?_
  exact at_endB rfl rfl z_2 rfl Z3 ⟨⟨pc3, a3, outs, oa, oc, er⟩, rfl, rfl, rfl, rfl, hc3, fun h hp hb => hok3 h hp hb⟩ (fun w hw => hw.drop.drop.drop)
 ·rw [if_pos (hq45.1 rfl)]
  repeat refine x_ ?_
  refine r_ ((s_load_blkW rfl z_2 z_7).eq (v' := sdV ⟨pc3, a3, outs, oa, oc, er⟩) rfl) ?_
  refine r_ ((s_load_blkW rfl z_2 z_7).eq (v' := prA qf) rfl) ?_
  refine gl_call _ rfl (rUpdate_ct ⟨pc3, a3, outs, oa, oc, er⟩ qf hfc ⟨⟨hqff.1, hqff.2.1⟩, by show 0 ≤ qf.off ∧ qf.off ≤ (pc3.img.length : Int); rw [hpc3, hcl.2.2.1, himg]; exact hqff.2.2.2.2⟩ hc3 (by simp only; omega)) i_ (fun h hh hb => hok3 h (hs.le hh) (sat_tail (sat_tail (sat_tail hb)))) rfl ?_; rintro v A2 hA2; obtain ⟨s2, rfl, hB2⟩ := hA2; refine gl_rot3 ?_
  (refine gl_store_blkW rfl rfl z_5 z_7 z_7 z_3 ?_)
  repeat refine n_ ?_
  refine g_ret ?_
  exact at_endB rfl rfl z_2 rfl (A2 ++ Z3) (SdP.le _ (A := A2) ⟨s2, rfl, hB2⟩ (fun h hp hb => hok3 h hp hb)) (fun w hw => hw.drop.drop.drop)
end Go.Proofs.YtodcghipfolejaaGreat.Rf
namespace Go.Proofs.YtodcghipfolejaaGreat.Rf
open Go Go.Sl
abbrev gnMM (ok : Bool) : MM := ⟨⟨2, 0, 0, 0, 0, 0, 0, ok, [], [], 0, 0, []⟩, none, 0, none, 0⟩
set_option maxRecDepth 16000 in
set_option maxHeartbeats 16000000 in
theorem rHear_ct (p : RP) (a : RA) (m : MM) (hs : PSt p) (hm : MFit m.p) (hc : p.l.length ≤ a.lc) : Ct Tryz.prog 40 [rsV p a, mmA m] (fun h => RRd h p a ∧ MOk h m) [] (SdP (fun h => RRd h p a ∧ MOk h m) (hearP p m.p) (hearM p m.p) (hearE p m.p)) := by
 have htm := hm.term
 refine ct_enter 176 Tryz.func40 rfl rfl rfl ?_
 intro F hrm
 have hr := hrm.1
 have hmo := hrm.2
 obtain ⟨q1, hq1⟩ : ∃ q, q = decide (m.p.to = p.id) := ⟨_, rfl⟩
 obtain ⟨q2, hq2⟩ : ∃ q, q = decide (m.p.frm = p.id) := ⟨_, rfl⟩
 obtain ⟨q3, hq3⟩ : ∃ q, q = decide (m.p.frm < 1) := ⟨_, rfl⟩
 obtain ⟨q4, hq4⟩ : ∃ q, q = decide (5 < m.p.frm) := ⟨_, rfl⟩
 obtain ⟨q5, hq5⟩ : ∃ q, q = decide (4611686018427387904 < m.p.term) := ⟨_, rfl⟩
 have hb : hearBad p m.p = (!q1 || (q2 || (q3 || (q4 || q5)))) := by rw [hearBad, hq1, hq2, hq3, hq4, hq5]
 obtain ⟨bad, hbad⟩ : ∃ b, b = hearBad p m.p := ⟨_, rfl⟩
 repeat refine x_ ?_
 refine gl_boxA rfl rfl ?_; intro g2
 refine gl_boxA rfl rfl ?_; intro g3
 refine gl_allocA rfl ?_; intro g4
 repeat refine n_ ?_
 refine g_pull (H' := [rsO g2 p a, mmO g3 m, sdZ g4]) (fun w hw => hw.perm (perm_up z_2 (perm_up z_2 (perm_up z_2 (.refl _))))) ?_
 refine g_cutK [(2, Ptr g2), (3, Ptr g3), (4, Ptr g4), (32, .bool bad)] [rsO g2 p a, mmO g3 m, sdZ g4] ?_ ?_
 ·rw [hbad, hb]
  rcases (show q1 = false ∨ (q1 = true ∧ q2 = true) ∨ (q1 = true ∧ q2 = false ∧ q3 = true) ∨ (q1 = true ∧ q2 = false ∧ q3 = false ∧ q4 = true) ∨ (q1 = true ∧ q2 = false ∧ q3 = false ∧ q4 = false) by cases q1 <;> cases q2 <;> cases q3 <;> cases q4 <;> simp) with rfl | ⟨rfl, rfl⟩ | ⟨rfl, rfl, rfl⟩ | ⟨rfl, rfl, rfl, rfl⟩ | ⟨rfl, rfl, rfl, rfl⟩
  all_goals
   repeat refine x_ ?_
   refine f_ z_1 ?_
   refine r_ (by exact s_load_blk rfl z_2 a13_2) ?_
   refine f_ z_1 ?_
   refine r_ (by exact s_load_blk rfl z_2 a18_0) ?_
   refine f_ ((s_neq rfl rfl).eq (congrArg (fun b => Value.bool (!b)) hq1.symm)) ?_
   refine m_ ?_
   (first | refine gl_guard_no rfl rfl rfl rfl rfl rfl rfl ?_ | (refine v_ ?_; refine f_ z_1 ?_))
   (first | refine gl_guard_no rfl rfl rfl rfl rfl rfl rfl ?_ | (refine v_ ?_; refine r_ (by exact s_load_blk rfl z_2 a13_1) ?_))
   (first | refine gl_guard_no rfl rfl rfl rfl rfl rfl rfl ?_ | (refine v_ ?_; refine f_ z_1 ?_))
   (first | refine gl_guard_no rfl rfl rfl rfl rfl rfl rfl ?_ | (refine v_ ?_; refine r_ (by exact s_load_blk rfl z_2 a18_0) ?_))
   (first | refine gl_guard_no rfl rfl rfl rfl rfl rfl rfl ?_ | (refine v_ ?_; refine f_ ((s_eql rfl rfl).eb hq2) ?_))
   refine f_ z_6 ?_
   refine m_ ?_
   (first | refine gl_guard_no rfl rfl rfl rfl rfl rfl rfl ?_ | (refine v_ ?_; refine f_ z_1 ?_))
   (first | refine gl_guard_no rfl rfl rfl rfl rfl rfl rfl ?_ | (refine v_ ?_; refine r_ (by exact s_load_blk rfl z_2 a13_1) ?_))
   (first | refine gl_guard_no rfl rfl rfl rfl rfl rfl rfl ?_ | (refine v_ ?_; refine f_ ((s_lss rfl rfl).eb hq3) ?_))
   refine f_ z_6 ?_
   refine m_ ?_
   (first | refine gl_guard_no rfl rfl rfl rfl rfl rfl rfl ?_ | (refine v_ ?_; refine f_ z_1 ?_))
   (first | refine gl_guard_no rfl rfl rfl rfl rfl rfl rfl ?_ | (refine v_ ?_; refine r_ (by exact s_load_blk rfl z_2 a13_1) ?_))
   (first | refine gl_guard_no rfl rfl rfl rfl rfl rfl rfl ?_ | (refine v_ ?_; refine f_ ((s_gtr rfl rfl).eb hq4) ?_))
   refine f_ z_6 ?_
   refine m_ ?_
   (first | refine gl_guard_no rfl rfl rfl rfl rfl rfl rfl ?_ | (refine v_ ?_; refine f_ z_1 ?_))
   (first | refine gl_guard_no rfl rfl rfl rfl rfl rfl rfl ?_ | (refine v_ ?_; refine r_ (by exact s_load_blk rfl z_2 a13_3) ?_))
   (first | refine gl_guard_no rfl rfl rfl rfl rfl rfl rfl ?_ | (refine v_ ?_; refine f_ ((s_gtr rfl rfl).eb hq5) ?_))
   refine f_ z_6 ?_
   repeat refine n_ ?_
   exact at_cut j_ i_
 cases bad
 rotate_left
 ·have e1 : hearP p m.p = p := by rw [hearP, if_pos (.inl hbad.symm)]
  have e2 : hearM p m.p = [] := by rw [hearM, if_pos (.inl hbad.symm)]
  have e3 : hearE p m.p = 1 := by rw [hearE, if_pos hbad.symm]
  rw [e1, e2, e3]
  repeat refine x_ ?_
  refine r_ ((s_load_blkW rfl z_2 z_7).eq (v' := rsV p a) rfl) ?_
  refine f_ ((s_bld (cells := (sdC (sd1 p a 1)).toArray) rfl z_4).eq (v' := sdV (sd1 p a 1)) rfl) ?_
  (refine gl_store_blkW rfl rfl z_5 z_7 z_7 z_3 ?_)
  repeat refine n_ ?_
  refine g_ret ?_
  exact at_endB rfl rfl z_2 rfl [] ⟨sd1 p a 1, rfl, rfl, rfl, rfl, hc, fun h hp _ => sd1_ok hp.1 1⟩ (fun w hw => hw.dropAll)
 have e3 : hearE p m.p = 0 := by rw [hearE, if_neg (by rw [← hbad]; decide)]
 rw [e3]
 have hbb : (1 ≤ m.p.frm ∧ m.p.frm ≤ 5) ∧ m.p.term ≤ 4611686018427387904 := by
  rw [hb] at hbad
  have h := hbad.symm
  simp only [Bool.or_eq_false_iff] at h
  have h3 := of_decide_eq_false (hq3.symm.trans h.2.2.1)
  have h4 := of_decide_eq_false (hq4.symm.trans h.2.2.2.1)
  have h5 := of_decide_eq_false (hq5.symm.trans h.2.2.2.2)
  omega
 obtain ⟨hfr, htm2⟩ := hbb
 obtain ⟨r1, hr1⟩ : ∃ q, q = decide (m.p.kind = 1) := ⟨_, rfl⟩
 obtain ⟨r2, hr2⟩ : ∃ q, q = decide (p.term < m.p.term) := ⟨_, rfl⟩
 obtain ⟨r3, hr3⟩ : ∃ q, q = decide (p.role = 2) := ⟨_, rfl⟩
 obtain ⟨r4, hr4⟩ : ∃ q, q = decide (p.leader = 0) := ⟨_, rfl⟩
 obtain ⟨r5, hr5⟩ : ∃ q, q = decide (p.ticks < 3) := ⟨_, rfl⟩
 have ho : hearOff p m.p = (r1 && (r2 && (r3 || (!r4 && r5)))) := by
  rw [hearOff, ← hr1, ← hr2, ← hr3, ← hr4, ← hr5]; cases r1 <;> cases r2 <;> rfl
 obtain ⟨off, hoff⟩ : ∃ b, b = hearOff p m.p := ⟨_, rfl⟩
 repeat refine y_ ?_
 refine g_cutK [(2, Ptr g2), (3, Ptr g3), (4, Ptr g4), (59, .bool off)] [rsO g2 p a, mmO g3 m, sdZ g4] ?_ ?_
 ·rw [hoff, ho]
  rcases (show r1 = false ∨ (r1 = true ∧ r2 = false) ∨ (r1 = true ∧ r2 = true ∧ r3 = true) ∨ (r1 = true ∧ r2 = true ∧ r3 = false ∧ r4 = true) ∨ (r1 = true ∧ r2 = true ∧ r3 = false ∧ r4 = false) by cases r1 <;> cases r2 <;> cases r3 <;> cases r4 <;> simp) with rfl | ⟨rfl, rfl⟩ | ⟨rfl, rfl, rfl⟩ | ⟨rfl, rfl, rfl, rfl⟩ | ⟨rfl, rfl, rfl, rfl⟩
  all_goals
   repeat refine x_ ?_
   refine f_ z_1 ?_
   refine r_ (by exact s_load_blk rfl z_2 a13_0) ?_
   refine f_ ((s_eql rfl rfl).eb hr1) ?_
   refine m_ ?_
   (first | refine gl_guard_no rfl rfl rfl rfl rfl rfl rfl ?_ | (refine v_ ?_; refine f_ z_1 ?_))
   (first | refine gl_guard_no rfl rfl rfl rfl rfl rfl rfl ?_ | (refine v_ ?_; refine r_ (by exact s_load_blk rfl z_2 a13_3) ?_))
   (first | refine gl_guard_no rfl rfl rfl rfl rfl rfl rfl ?_ | (refine v_ ?_; refine f_ z_1 ?_))
   (first | refine gl_guard_no rfl rfl rfl rfl rfl rfl rfl ?_ | (refine v_ ?_; refine r_ (by exact s_load_blk rfl z_2 a18_1) ?_))
   (first | refine gl_guard_no rfl rfl rfl rfl rfl rfl rfl ?_ | (refine v_ ?_; refine f_ ((s_gtr rfl rfl).eb hr2) ?_))
   refine f_ z_6 ?_
   refine m_ ?_
   (first | refine gl_guard_no rfl rfl rfl rfl rfl rfl rfl ?_ | (refine v_ ?_; refine f_ z_1 ?_))
   (first | refine gl_guard_no rfl rfl rfl rfl rfl rfl rfl ?_ | (refine v_ ?_; refine r_ (by exact s_load_blk rfl z_2 a18_3) ?_))
   (first | refine gl_guard_no rfl rfl rfl rfl rfl rfl rfl ?_ | (refine v_ ?_; refine f_ ((s_eql rfl rfl).eb hr3) ?_))
   (first | refine gl_guard_no rfl rfl rfl rfl rfl rfl rfl ?_ | (refine v_ ?_; refine m_ ?_))
   (first|refine u_ ?_|(refine v_ ?_; refine f_ z_1 ?_))
   (first|refine u_ ?_|(refine v_ ?_; refine r_ (by exact s_load_blk rfl z_2 a18_4) ?_))
   (first|refine u_ ?_|(refine v_ ?_; refine f_ ((s_neq rfl rfl).eq (congrArg (fun b => Value.bool (!b)) hr4.symm)) ?_))
   (first|refine u_ ?_|(refine v_ ?_; refine m_ ?_))
   (first|refine u_ ?_|(refine v_ ?_; refine f_ z_1 ?_))
   (first|refine u_ ?_|(refine v_ ?_; refine r_ (by exact s_load_blk rfl z_2 a18_11) ?_))
   (first|refine u_ ?_|(refine v_ ?_; refine f_ ((s_lss rfl rfl).eb hr5) ?_))
   (first|refine u_ ?_|(refine v_ ?_; refine f_ z_6 ?_))
   (first | refine gl_guard_no rfl rfl rfl rfl rfl rfl rfl ?_ | (refine v_ ?_; refine f_ z_6 ?_))
   refine f_ z_6 ?_
   repeat refine n_ ?_
   exact at_cut j_ i_
 cases off
 rotate_left
 ·have e1 : hearP p m.p = p := by rw [hearP, if_pos (.inr hoff.symm)]
  have e2 : hearM p m.p = [] := by rw [hearM, if_pos (.inr hoff.symm)]
  rw [e1, e2]
  repeat refine x_ ?_
  refine r_ ((s_load_blkW rfl z_2 z_7).eq (v' := rsV p a) rfl) ?_
  refine f_ ((s_bld (cells := (sdC (sd1 p a 0)).toArray) rfl z_4).eq (v' := sdV (sd1 p a 0)) rfl) ?_
  (refine gl_store_blkW rfl rfl z_5 z_7 z_7 z_3 ?_)
  repeat refine n_ ?_
  refine g_ret ?_
  exact at_endB rfl rfl z_2 rfl [] ⟨sd1 p a 0, rfl, rfl, rfl, rfl, hc, fun h hp _ => sd1_ok hp.1 0⟩ (fun w hw => hw.dropAll)
 have hno : ¬ (hearBad p m.p = true ∨ hearOff p m.p = true) := by
  rw [← hbad, ← hoff]; rintro (h | h) <;> cases h
 have e1 : hearP p m.p = doesP (hear1 p m.p) m.p := if_neg hno
 have e2 : hearM p m.p = doesM (hear1 p m.p) m.p := if_neg hno
 rw [e1, e2]
 have hs1 := pst_hear1 hs m.p ⟨htm.1, htm2⟩
 obtain ⟨p1, hp1⟩ : ∃ p1, p1 = hear1 p m.p := ⟨_, rfl⟩
 rw [← hp1] at hs1 ⊢
 repeat refine x_ ?_
 refine f_ z_1 ?_
 refine r_ (by exact s_load_blk rfl z_2 a13_3) ?_
 refine f_ z_1 ?_
 refine r_ (by exact s_load_blk rfl z_2 a18_1) ?_
 refine f_ ((s_gtr rfl rfl).eb hr2) ?_
 repeat refine n_ ?_
 refine g_cutE (ι := { x : RA // p1.l.length ≤ x.lc ∧ ∀ h, RRd h p a → RRd h p1 x }) (fun _ => [(2, Ptr g2), (3, Ptr g3), (4, Ptr g4)]) (fun x => [rsO g2 p1 x.1, mmO g3 m, sdZ g4]) ?_ (fun x => ?_)
 ·cases r2
  ·have e : p1 = p := by rw [hp1, hear1, if_neg (of_decide_eq_false hr2.symm)]
   rw [e]
   repeat refine y_ ?_
   exact at_cutE ⟨a, hc, fun h hp => hp⟩ j_ i_
  ·have e : p1 = followP p m.p.term 0 := by rw [hp1, hear1, if_pos (of_decide_eq_true hr2.symm)]
   rw [e]
   repeat refine x_ ?_
   refine r_ ((s_load_blkW rfl z_2 z_7).eq (v' := rsV p a) rfl) ?_
   refine f_ z_1 ?_
   refine r_ (by exact s_load_blk rfl z_2 a13_3) ?_
   refine gl_callp rfl (rFollow_ct p a m.p.term 0) (fun _ _ _ => trivial) rfl ?_
   (refine gl_store_blkW rfl rfl z_5 z_7 z_7 z_3 ?_)
   repeat refine n_ ?_
   exact at_cutE ⟨folA a, hc, fun h hp => fol_rd hp _ _⟩ j_ i_
 obtain ⟨a1, hc1, hrd1⟩ := x
 simp only
 have hl1 := hs1.l
 have hf1 := hs1.fit
 repeat refine x_ ?_
 refine r_ ((s_load_blkW rfl z_2 z_7).eq (v' := rsV p1 a1) rfl) ?_
 refine f_ ((s_bld (cells := (sdC (sd1 p1 a1 0)).toArray) rfl z_4).eq (v' := sdV (sd1 p1 a1 0)) rfl) ?_
 refine gl_allocA rfl ?_; intro g5
 (refine gl_store_blkW rfl rfl z_5 z_7 z_7 z_3 ?_)
 repeat refine n_ ?_
 refine g_pull (H' := [sdO g5 (sd1 p1 a1 0), rsO g2 p1 a1, mmO g3 m, sdZ g4]) i_ ?_
 obtain ⟨kd, hkd⟩ : ∃ k, k = m.p.kind := ⟨_, rfl⟩
 repeat refine x_ ?_
 refine f_ z_1 ?_
 refine r_ ((s_load_blk rfl z_2 a13_0).eq (v' := .int .i64 kd) (by rw [hkd])) ?_
 repeat refine n_ ?_
 have hok1 : ∀ h, RRd h p a ∧ MOk h m → SdOk h (sd1 p1 a1 0) := fun h hp => sd1_ok (hrd1 h hp.1) 0
 have hokF : ∀ h, Heap.le F.heap h → SdOk h (sd1 p1 a1 0) := fun h hh => sd1_ok (hrd1 h (hr.le hh)) 0
 by_cases k1 : kd = 1
 ·have e1 : doesP p1 m.p = voteP p1 m.p := by unfold doesP; rw [← hkd, if_pos k1]
  have e2 : doesM p1 m.p = [grantM (voteP p1 m.p) m.p.frm (voteOk p1 m.p)] := by unfold doesM; rw [← hkd, if_pos k1]
  rw [e1, e2]
  obtain ⟨v1, hv1⟩ : ∃ q, q = decide (m.p.term = p1.term) := ⟨_, rfl⟩
  obtain ⟨v2, hv2⟩ : ∃ q, q = decide (p1.role = 0) := ⟨_, rfl⟩
  obtain ⟨v3, hv3⟩ : ∃ q, q = decide (p1.vote = 0) := ⟨_, rfl⟩
  obtain ⟨v4, hv4⟩ : ∃ q, q = decide (p1.vote = m.p.frm) := ⟨_, rfl⟩
  obtain ⟨v5, hv5⟩ : ∃ q, q = newerL p1.g m.p.index m.p.lt := ⟨_, rfl⟩
  have hvo : voteOk p1 m.p = (v1 && (v2 && ((v3 || v4) && v5))) := by rw [voteOk, hv1, hv2, hv3, hv4, hv5]
  obtain ⟨vo, hvoe⟩ : ∃ q, q = voteOk p1 m.p := ⟨_, rfl⟩
  subst k1
  repeat refine x_ ?_
  refine f_ ((s_eql rfl rfl).eq (v' := .bool true) rfl) ?_
  refine a_ ?_
  repeat refine n_ ?_
  refine g_cutK [(2, Ptr g2), (3, Ptr g3), (4, Ptr g4), (5, Ptr g5), (108, .bool (!vo))] [sdO g5 (sd1 p1 a1 0), rsO g2 p1 a1, mmO g3 m, sdZ g4] ?_ ?_
  ·rw [hvoe, hvo]
   rcases (show v1 = false ∨ (v1 = true ∧ v2 = false) ∨ (v1 = true ∧ v2 = true ∧ v3 = true) ∨ (v1 = true ∧ v2 = true ∧ v3 = false ∧ v4 = true) ∨ (v1 = true ∧ v2 = true ∧ v3 = false ∧ v4 = false) by cases v1 <;> cases v2 <;> cases v3 <;> cases v4 <;> simp) with rfl | ⟨rfl, rfl⟩ | ⟨rfl, rfl, rfl⟩ | ⟨rfl, rfl, rfl, rfl⟩ | ⟨rfl, rfl, rfl, rfl⟩
   all_goals
    repeat refine x_ ?_
    refine f_ z_1 ?_
    refine r_ (by exact s_load_blk rfl z_2 a13_3) ?_
    refine f_ z_1 ?_
    refine r_ (by exact s_load_blk rfl z_2 a18_1) ?_
    refine f_ ((s_neq rfl rfl).eq (congrArg (fun b => Value.bool (!b)) hv1.symm)) ?_
    refine m_ ?_
    (first | refine gl_guard_no rfl rfl rfl rfl rfl rfl rfl ?_ | (refine v_ ?_; refine f_ z_1 ?_))
    (first | refine gl_guard_no rfl rfl rfl rfl rfl rfl rfl ?_ | (refine v_ ?_; refine r_ (by exact s_load_blk rfl z_2 a18_3) ?_))
    (first | refine gl_guard_no rfl rfl rfl rfl rfl rfl rfl ?_ | (refine v_ ?_; refine f_ ((s_neq rfl rfl).eq (congrArg (fun b => Value.bool (!b)) hv2.symm)) ?_))
    refine f_ z_6 ?_
    refine m_ ?_
    (first | refine gl_guard_no rfl rfl rfl rfl rfl rfl rfl ?_ | (refine v_ ?_; refine f_ z_1 ?_))
    (first | refine gl_guard_no rfl rfl rfl rfl rfl rfl rfl ?_ | (refine v_ ?_; refine r_ (by exact s_load_blk rfl z_2 a18_2) ?_))
    (first | refine gl_guard_no rfl rfl rfl rfl rfl rfl rfl ?_ | (refine v_ ?_; refine f_ ((s_neq rfl rfl).eq (congrArg (fun b => Value.bool (!b)) hv3.symm)) ?_))
    (first | refine gl_guard_no rfl rfl rfl rfl rfl rfl rfl ?_ | (refine v_ ?_; refine m_ ?_))
    (first|refine u_ ?_|(refine v_ ?_; refine f_ z_1 ?_))
    (first|refine u_ ?_|(refine v_ ?_; refine r_ (by exact s_load_blk rfl z_2 a18_2) ?_))
    (first|refine u_ ?_|(refine v_ ?_; refine f_ z_1 ?_))
    (first|refine u_ ?_|(refine v_ ?_; refine r_ (by exact s_load_blk rfl z_2 a13_1) ?_))
    (first|refine u_ ?_|(refine v_ ?_; refine f_ ((s_neq rfl rfl).eq (congrArg (fun b => Value.bool (!b)) hv4.symm)) ?_))
    (first | refine gl_guard_no rfl rfl rfl rfl rfl rfl rfl ?_ | (refine v_ ?_; refine f_ z_6 ?_))
    refine f_ z_6 ?_
    refine m_ ?_
    (first | refine gl_guard_no rfl rfl rfl rfl rfl rfl rfl ?_ | (refine v_ ?_; refine f_ z_1 ?_))
    (first | refine gl_guard_no rfl rfl rfl rfl rfl rfl rfl ?_ | (refine v_ ?_; refine r_ ((s_load_blkN rfl z_2 z_7).eq (v' := (p1.lm a1).v) rfl) ?_))
    (first | refine gl_guard_no rfl rfl rfl rfl rfl rfl rfl ?_ | (refine v_ ?_; refine f_ z_1 ?_))
    (first | refine gl_guard_no rfl rfl rfl rfl rfl rfl rfl ?_ | (refine v_ ?_; refine r_ (by exact s_load_blk rfl z_2 a13_4) ?_))
    (first | refine gl_guard_no rfl rfl rfl rfl rfl rfl rfl ?_ | (refine v_ ?_; refine f_ z_1 ?_))
    (first | refine gl_guard_no rfl rfl rfl rfl rfl rfl rfl ?_ | (refine v_ ?_; refine r_ (by exact s_load_blk rfl z_2 a13_5) ?_))
    (first | refine gl_guard_no rfl rfl rfl rfl rfl rfl rfl ?_ | (refine v_ ?_; refine gl_callp rfl (rNewer_ct (p1.lm a1) m.p.index m.p.lt (hf1.fit a1 hc1)) (fun h hh _ => (hokF h hh).r.rl) rfl ?_; rw [show newerL (p1.lm a1) m.p.index m.p.lt = v5 from hv5.symm]))
    (first | refine gl_guard_no rfl rfl rfl rfl rfl rfl rfl ?_ | (refine v_ ?_; refine f_ (s_not rfl) ?_))
    refine f_ z_6 ?_
    repeat refine n_ ?_
    exact at_cut j_ i_
  cases vo
  ·have e3 : voteP p1 m.p = p1 := by rw [voteP, ← hvoe, if_neg (by decide)]
   rw [← hvoe, e3]
   repeat refine x_ ?_
   refine r_ ((s_load_blkW rfl z_2 z_7).eq (v' := sdV (sd1 p1 a1 0)) rfl) ?_
   refine f_ z_1 ?_
   refine r_ (by exact s_load_blk rfl z_2 a13_1) ?_
   refine f_ ((s_bld (cells := (mmC (gnMM false)).toArray) rfl z_4).eq (v' := mmA (gnMM false)) rfl) ?_
   refine gl_call _ rfl (rTell_ct (sd1 p1 a1 0) m.p.frm (gnMM false) hc1 (Nat.zero_le _)) i_ (fun h hh _ => ⟨hokF h hh, RdS.nil _ _, RdS.nil _ _, Nat.le_refl _⟩) rfl ?_; rintro v A3 hA3; obtain ⟨s', rfl, hB⟩ := hA3; refine gl_rot4 ?_
   (refine gl_store_blkW rfl rfl z_5 z_7 z_7 z_3 ?_)
   repeat refine n_ ?_
   refine g_ret ?_
   exact at_endB rfl rfl z_2 rfl (A3 ++ []) (sdTell (A := A3) ⟨s', rfl, hB⟩ rfl rfl rfl (fun h hp _ => ⟨hok1 h hp, RdS.nil _ _, RdS.nil _ _, Nat.le_refl _⟩)) (fun w hw => hw.drop.drop.drop.drop)
  ·have e3 : voteP p1 m.p = { p1 with vote := m.p.frm, ticks := 0 } := by rw [voteP, ← hvoe, if_pos rfl]
   obtain ⟨p2, hp2⟩ : ∃ p2 : RP, p2 = { p1 with vote := m.p.frm, ticks := 0 } := ⟨_, rfl⟩
   have hc2 : p2.l.length ≤ a1.lc := by rw [hp2]; exact hc1
   have hokv : ∀ h, SdOk h (sd1 p1 a1 0) → SdOk h (sd1 p2 a1 0) := fun h hp => by rw [hp2]; exact ⟨⟨hp.r.rc, hp.r.rl, hp.r.rv, hp.r.rp⟩, hp.o, hp.m⟩
   rw [← hvoe, e3, ← hp2]
   repeat refine x_ ?_
   refine f_ z_1 ?_
   refine r_ (by exact s_load_blk rfl z_2 a13_1) ?_
   refine f_ z_1 ?_
   refine f_ z_1 ?_
   (refine gl_store_blkC (pre := [_, _]) (post := [_, _, _, _, _, _, _, _, _, _, _, _, _, _, _, _, _]) rfl rfl z_5 z_7 z_7 z_7 ?_)
   repeat refine x_ ?_
   refine f_ z_1 ?_
   refine f_ z_1 ?_
   (refine gl_store_blkC (pre := [_, _, _, _, _, _, _, _, _, _, _]) (post := [_, _, _, _, _, _, _, _]) rfl rfl z_5 z_7 z_7 z_7 ?_)
   repeat refine n_ ?_
   refine g_pull (H' := [sdO g5 (sd1 p2 a1 0), rsO g2 p1 a1, mmO g3 m, sdZ g4]) (fun w hw => by rw [hp2]; exact hw) ?_
   repeat refine x_ ?_
   refine r_ ((s_load_blkW rfl z_2 z_7).eq (v' := sdV (sd1 p2 a1 0)) rfl) ?_
   refine f_ z_1 ?_
   refine r_ (by exact s_load_blk rfl z_2 a13_1) ?_
   refine f_ ((s_bld (cells := (mmC (gnMM true)).toArray) rfl z_4).eq (v' := mmA (gnMM true)) rfl) ?_
   refine gl_call _ rfl (rTell_ct (sd1 p2 a1 0) m.p.frm (gnMM true) hc2 (Nat.zero_le _)) i_ (fun h hh _ => ⟨hokv h (hokF h hh), RdS.nil _ _, RdS.nil _ _, Nat.le_refl _⟩) rfl ?_; rintro v A3 hA3; obtain ⟨s', rfl, hB⟩ := hA3; refine gl_rot4 ?_
   (refine gl_store_blkW rfl rfl z_5 z_7 z_7 z_3 ?_)
   repeat refine n_ ?_
   refine g_ret ?_
   exact at_endB rfl rfl z_2 rfl (A3 ++ []) (sdTell (A := A3) ⟨s', rfl, hB⟩ rfl rfl rfl (fun h hp _ => ⟨hokv h (hok1 h hp), RdS.nil _ _, RdS.nil _ _, Nat.le_refl _⟩)) (fun w hw => hw.drop.drop.drop.drop)
 by_cases k2 : kd = 2
 ·have e1 : doesP p1 m.p = grantP p1 m.p := by unfold doesP; rw [← hkd, if_neg k1, if_pos k2]
  have e2 : doesM p1 m.p = grantMs p1 m.p := by unfold doesM; rw [← hkd, if_neg k1, if_pos k2]
  rw [e1, e2]
  subst k2
  repeat refine x_ ?_
  refine f_ ((s_eql rfl rfl).eq (v' := .bool false) rfl) ?_
  refine a_ ?_
  repeat refine x_ ?_
  refine f_ ((s_eql rfl rfl).eq (v' := .bool true) rfl) ?_
  refine a_ ?_
  repeat refine x_ ?_
  refine r_ ((s_load_blkW rfl z_2 z_7).eq (v' := sdV (sd1 p1 a1 0)) rfl) ?_
  refine r_ ((s_load_blkW rfl z_2 z_7).eq (v' := mmA m) rfl) ?_
  refine gl_call _ rfl (rGrant_ct (sd1 p1 a1 0) m hf1 hc1 (by show p1.l.length ≤ _; omega) (Nat.zero_le _)) i_ (fun h hh _ => hokF h hh) rfl ?_; rintro v A2 hA2; obtain ⟨s2, rfl, hB2⟩ := hA2; refine gl_rot4 ?_
  (refine gl_store_blkW rfl rfl z_5 z_7 z_7 z_3 ?_)
  repeat refine n_ ?_
  refine g_ret ?_
  exact at_endB rfl rfl z_2 rfl (A2 ++ []) (SdP.le [] (A := A2) ⟨s2, rfl, hB2⟩ (fun h hp _ => hok1 h hp)) (fun w hw => hw.drop.drop.drop.drop)
 by_cases k4 : kd = 4
 ·have e1 : doesP p1 m.p = ackP p1 m.p := by unfold doesP; rw [← hkd, if_neg k1, if_neg k2, if_neg (by omega), if_pos k4]
  have e2 : doesM p1 m.p = ackMs p1 m.p := by unfold doesM; rw [← hkd, if_neg k1, if_neg k2, if_neg (by omega), if_pos k4]
  rw [e1, e2]
  subst k4
  repeat refine x_ ?_
  refine f_ ((s_eql rfl rfl).eq (v' := .bool false) rfl) ?_
  refine a_ ?_
  repeat refine x_ ?_
  refine f_ ((s_eql rfl rfl).eq (v' := .bool false) rfl) ?_
  refine a_ ?_
  repeat refine x_ ?_
  refine f_ ((s_eql rfl rfl).eq (v' := .bool false) rfl) ?_
  refine a_ ?_
  repeat refine x_ ?_
  refine f_ ((s_eql rfl rfl).eq (v' := .bool false) rfl) ?_
  refine a_ ?_
  repeat refine x_ ?_
  refine f_ ((s_eql rfl rfl).eq (v' := .bool true) rfl) ?_
  refine a_ ?_
  repeat refine x_ ?_
  refine r_ ((s_load_blkW rfl z_2 z_7).eq (v' := sdV (sd1 p1 a1 0)) rfl) ?_
  refine r_ ((s_load_blkW rfl z_2 z_7).eq (v' := mmA m) rfl) ?_
  refine gl_call _ rfl (rAck_ct (sd1 p1 a1 0) m hf1 hm hs1.prs hc1 (Nat.zero_le _)) i_ (fun h hh _ => hokF h hh) rfl ?_; rintro v A2 hA2; obtain ⟨s2, rfl, hB2⟩ := hA2; refine gl_rot4 ?_
  (refine gl_store_blkW rfl rfl z_5 z_7 z_7 z_3 ?_)
  repeat refine n_ ?_
  refine g_ret ?_
  exact at_endB rfl rfl z_2 rfl (A2 ++ []) (SdP.le [] (A := A2) ⟨s2, rfl, hB2⟩ (fun h hp _ => hok1 h hp)) (fun w hw => hw.drop.drop.drop.drop)
 by_cases k6 : kd = 6
 ·have e1 : doesP p1 m.p = gotP p1 m.p := by unfold doesP; rw [← hkd, if_neg k1, if_neg k2, if_neg (by omega), if_neg k4, if_pos k6]
  have e2 : doesM p1 m.p = gotMs p1 m.p := by unfold doesM; rw [← hkd, if_neg k1, if_neg k2, if_neg (by omega), if_neg k4, if_pos k6]
  rw [e1, e2]
  subst k6
  repeat refine x_ ?_
  refine f_ ((s_eql rfl rfl).eq (v' := .bool false) rfl) ?_
  refine a_ ?_
  repeat refine x_ ?_
  refine f_ ((s_eql rfl rfl).eq (v' := .bool false) rfl) ?_
  refine a_ ?_
  repeat refine x_ ?_
  refine f_ ((s_eql rfl rfl).eq (v' := .bool false) rfl) ?_
  refine a_ ?_
  repeat refine x_ ?_
  refine f_ ((s_eql rfl rfl).eq (v' := .bool false) rfl) ?_
  refine a_ ?_
  repeat refine x_ ?_
  refine f_ ((s_eql rfl rfl).eq (v' := .bool false) rfl) ?_
  refine a_ ?_
  repeat refine x_ ?_
  refine f_ ((s_eql rfl rfl).eq (v' := .bool true) rfl) ?_
  refine a_ ?_
  repeat refine x_ ?_
  refine r_ ((s_load_blkW rfl z_2 z_7).eq (v' := sdV (sd1 p1 a1 0)) rfl) ?_
  refine r_ ((s_load_blkW rfl z_2 z_7).eq (v' := mmA m) rfl) ?_
  refine gl_call _ rfl (rGot_ct (sd1 p1 a1 0) m hf1 hm hc1 (Nat.zero_le _)) i_ (fun h hh _ => hokF h hh) rfl ?_; rintro v A2 hA2; obtain ⟨s2, rfl, hB2⟩ := hA2; refine gl_rot4 ?_
  (refine gl_store_blkW rfl rfl z_5 z_7 z_7 z_3 ?_)
  repeat refine n_ ?_
  refine g_ret ?_
  exact at_endB rfl rfl z_2 rfl (A2 ++ []) (SdP.le [] (A := A2) ⟨s2, rfl, hB2⟩ (fun h hp _ => hok1 h hp)) (fun w hw => hw.drop.drop.drop.drop)
 obtain ⟨t35, ht35⟩ : ∃ t, t = (decide (kd = 3) || decide (kd = 5)) := ⟨_, rfl⟩
 repeat refine x_ ?_
 refine f_ ((s_eql rfl rfl).eq (v' := .bool false) (congrArg Value.bool (decide_eq_false k1))) ?_
 refine a_ ?_
 repeat refine x_ ?_
 refine f_ ((s_eql rfl rfl).eq (v' := .bool false) (congrArg Value.bool (decide_eq_false k2))) ?_
 refine a_ ?_
 repeat refine n_ ?_
 cases t35
 ·have k3 : kd ≠ 3 := fun h => by rw [decide_eq_true h] at ht35; cases ht35
  have k5 : kd ≠ 5 := fun h => by rw [decide_eq_true h, Bool.or_true] at ht35; cases ht35
  have e1 : doesP p1 m.p = p1 := by unfold doesP; rw [← hkd, if_neg k1, if_neg k2, if_neg (by omega), if_neg k4, if_neg k6]
  have e2 : doesM p1 m.p = [] := by unfold doesM; rw [← hkd, if_neg k1, if_neg k2, if_neg (by omega), if_neg k4, if_neg k6]
  rw [e1, e2]
  repeat refine x_ ?_
  refine f_ ((s_eql rfl rfl).eq (v' := .bool false) (congrArg Value.bool (decide_eq_false k3))) ?_
  refine a_ ?_
  repeat refine x_ ?_
  refine f_ ((s_eql rfl rfl).eq (v' := .bool false) (congrArg Value.bool (decide_eq_false k5))) ?_
  refine a_ ?_
  repeat refine x_ ?_
  refine f_ ((s_eql rfl rfl).eq (v' := .bool false) (congrArg Value.bool (decide_eq_false k4))) ?_
  refine a_ ?_
  repeat refine x_ ?_
  refine f_ ((s_eql rfl rfl).eq (v' := .bool false) (congrArg Value.bool (decide_eq_false k6))) ?_
  refine a_ ?_
  repeat refine x_ ?_
  refine r_ ((s_load_blkW rfl z_2 z_7).eq (v' := sdV (sd1 p1 a1 0)) rfl) ?_
  (refine gl_store_blkW rfl rfl z_5 z_7 z_7 z_3 ?_)
  repeat refine n_ ?_
  refine g_ret ?_
  exact at_endB rfl rfl z_2 rfl [] ⟨sd1 p1 a1 0, rfl, rfl, rfl, rfl, hc1, fun h hp _ => hok1 h hp⟩ (fun w hw => hw.dropAll)
 have k35 : kd = 3 ∨ kd = 5 := by
  have h := ht35.symm
  rw [Bool.or_eq_true, decide_eq_true_eq, decide_eq_true_eq] at h
  exact h
 have e1 : doesP p1 m.p = leadsP p1 m.p := by unfold doesP; rw [← hkd, if_neg k1, if_neg k2, if_pos k35]
 have e2 : doesM p1 m.p = leadsM p1 m.p := by unfold doesM; rw [← hkd, if_neg k1, if_neg k2, if_pos k35]
 rw [e1, e2]
 obtain ⟨c3, hc3⟩ : ∃ q, q = decide (kd = 3) := ⟨_, rfl⟩
 obtain ⟨t1, ht1⟩ : ∃ q, q = decide (m.p.term < p1.term) := ⟨_, rfl⟩
 obtain ⟨t2, ht2⟩ : ∃ q, q = decide (p1.role = 2) := ⟨_, rfl⟩
 rcases k35 with k3 | k3
 case' inl =>
  repeat refine x_ ?_
  refine f_ ((s_eql rfl rfl).eq (v' := .bool true) (congrArg Value.bool (decide_eq_true k3))) ?_
  refine a_ ?_
  repeat refine n_ ?_
 case' inr =>
  repeat refine x_ ?_
  refine f_ ((s_eql rfl rfl).eq (v' := .bool false) (congrArg Value.bool (decide_eq_false (by omega)))) ?_
  refine a_ ?_
  repeat refine x_ ?_
  refine f_ ((s_eql rfl rfl).eq (v' := .bool true) (congrArg Value.bool (decide_eq_true k3))) ?_
  refine a_ ?_
  repeat refine n_ ?_
 all_goals
  repeat refine x_ ?_
  refine f_ z_1 ?_
  refine r_ (by exact s_load_blk rfl z_2 a13_3) ?_
  refine f_ z_1 ?_
  refine r_ (by exact s_load_blk rfl z_2 a18_1) ?_
  refine f_ ((s_lss rfl rfl).eb ht1) ?_
  repeat refine n_ ?_
  cases t1
  rotate_left
  ·have h1 := of_decide_eq_true ht1.symm
   have e3 : leadsP p1 m.p = p1 := by rw [leadsP, if_pos (.inl h1)]
   have e4 : leadsM p1 m.p = [ackM p1 m.p.frm false 0] := by rw [leadsM, if_pos h1]
   rw [e3, e4]
   repeat refine x_ ?_
   refine r_ ((s_load_blkW rfl z_2 z_7).eq (v' := sdV (sd1 p1 a1 0)) rfl) ?_
   refine f_ z_1 ?_
   refine r_ (by exact s_load_blk rfl z_2 a13_1) ?_
   refine f_ ((s_bld (cells := (mmC (ackMM false 0)).toArray) rfl z_4).eq (v' := mmA (ackMM false 0)) rfl) ?_
   refine gl_call _ rfl (rTell_ct (sd1 p1 a1 0) m.p.frm (ackMM false 0) hc1 (Nat.zero_le _)) i_ (fun h hh _ => ⟨hokF h hh, RdS.nil _ _, RdS.nil _ _, Nat.le_refl _⟩) rfl ?_; rintro v A3 hA3; obtain ⟨s', rfl, hB⟩ := hA3; refine gl_rot4 ?_
   (refine gl_store_blkW rfl rfl z_5 z_7 z_7 z_3 ?_)
   repeat refine n_ ?_
   refine g_ret ?_
   exact at_endB rfl rfl z_2 rfl (A3 ++ []) (sdTell (A := A3) ⟨s', rfl, hB⟩ rfl rfl rfl (fun h hp _ => ⟨hok1 h hp, RdS.nil _ _, RdS.nil _ _, Nat.le_refl _⟩)) (fun w hw => hw.drop.drop.drop.drop)
  have h1 := of_decide_eq_false ht1.symm
  repeat refine x_ ?_
  refine f_ z_1 ?_
  refine r_ (by exact s_load_blk rfl z_2 a18_3) ?_
  refine f_ ((s_eql rfl rfl).eb ht2) ?_
  repeat refine n_ ?_
  cases t2
  rotate_left
  ·have h2 := of_decide_eq_true ht2.symm
   have e3 : leadsP p1 m.p = p1 := by rw [leadsP, if_pos (.inr h2)]
   have e4 : leadsM p1 m.p = [] := by rw [leadsM, if_neg h1, if_pos h2]
   rw [e3, e4]
   repeat refine x_ ?_
   refine r_ ((s_load_blkW rfl z_2 z_7).eq (v' := sdV (sd1 p1 a1 0)) rfl) ?_
   (refine gl_store_blkW rfl rfl z_5 z_7 z_7 z_3 ?_)
   repeat refine n_ ?_
   refine g_ret ?_
   exact at_endB rfl rfl z_2 rfl [] ⟨sd1 p1 a1 0, rfl, rfl, rfl, rfl, hc1, fun h hp _ => hok1 h hp⟩ (fun w hw => hw.dropAll)
  have h2 := of_decide_eq_false ht2.symm
  have e3 : leadsP p1 m.p = if m.p.kind = 3 then tkP (leads1 p1 m.p) m.p else pcP (leads1 p1 m.p) m.p := by rw [leadsP, if_neg (by rintro (h | h); exact h1 h; exact h2 h)]
  have e4 : leadsM p1 m.p = if m.p.kind = 3 then tkM (leads1 p1 m.p) m.p else pcM (leads1 p1 m.p) m.p := by rw [leadsM, if_neg h1, if_neg h2]
  rw [e3, e4, ← hkd]
  obtain ⟨p2, hp2⟩ : ∃ p2 : RP, p2 = leads1 p1 m.p := ⟨_, rfl⟩
  have hp2' : p2 = { followP p1 p1.term m.p.frm with ticks := 0 } := hp2
  have hpw := pf_follow hf1 p1.term m.p.frm hf1.term
  have hf2 : PFit p2 := by rw [hp2']; exact ⟨hpw.base, hpw.len, hpw.cl, hpw.dat, hpw.img, hpw.votes, hpw.peers, hpw.prs, ⟨Int.le_refl _, by show (0 : Int) ≤ _; decide⟩, hpw.term, hpw.commit⟩
  have hc2 : p2.l.length ≤ (folA a1).lc := by rw [hp2']; exact hc1
  have hl2 : p2.l.length ≤ 99000 := by rw [hp2']; exact hl1
  have hpc2 : p2.piece.length ≤ 1000000000 := by rw [hp2']; exact hs1.piece
  have hok2 : ∀ h, SdOk h (sd1 p1 a1 0) → SdOk h (sd1 p2 (folA a1) 0) := fun h hp => by
   have x := fol_rd hp.r p1.term m.p.frm
   rw [hp2']; exact ⟨⟨x.rc, x.rl, x.rv, x.rp⟩, hp.o, hp.m⟩
  rw [← hp2]
  repeat refine x_ ?_
  refine r_ ((s_load_blkW rfl z_2 z_7).eq (v' := rsV p1 a1) rfl) ?_
  refine f_ z_1 ?_
  refine r_ (by exact s_load_blk rfl z_2 a18_1) ?_
  refine f_ z_1 ?_
  refine r_ (by exact s_load_blk rfl z_2 a13_1) ?_
  refine gl_callp rfl (rFollow_ct p1 a1 p1.term m.p.frm) (fun _ _ _ => trivial) rfl ?_
  refine f_ z_1 ?_
  (refine gl_store_blk rfl rfl z_5 z_7 z_3 z_7 ?_)
  repeat refine x_ ?_
  refine f_ z_1 ?_
  refine f_ z_1 ?_
  (refine gl_store_blkC (pre := [_, _, _, _, _, _, _, _, _, _, _]) (post := [_, _, _, _, _, _, _, _]) rfl rfl z_5 z_7 z_7 z_7 ?_)
  repeat refine n_ ?_
  refine g_pull (H' := [sdO g5 (sd1 p2 (folA a1) 0), rsO g2 p1 a1, mmO g3 m, sdZ g4]) (fun w hw => by rw [hp2']; exact hw) ?_
  repeat refine x_ ?_
  refine f_ z_1 ?_
  refine r_ ((s_load_blk rfl z_2 a13_0).eq (v' := .int .i64 kd) (by rw [hkd])) ?_
  refine f_ ((s_eql rfl rfl).eb hc3) ?_
  repeat refine n_ ?_
  cases c3
  ·have h3 := of_decide_eq_false hc3.symm
   rw [if_neg h3, if_neg h3]
   repeat refine x_ ?_
   refine r_ ((s_load_blkW rfl z_2 z_7).eq (v' := sdV (sd1 p2 (folA a1) 0)) rfl) ?_
   refine r_ ((s_load_blkW rfl z_2 z_7).eq (v' := mmA m) rfl) ?_
   refine gl_call _ rfl (rPiece_ct (sd1 p2 (folA a1) 0) m hf2 hm hc2 hpc2 (Nat.zero_le _)) i_ (fun h hh _ => ⟨hok2 h (hokF h hh), hmo.le hh⟩) rfl ?_; rintro v A2 hA2; obtain ⟨s2, rfl, hB2⟩ := hA2; refine gl_rot4 ?_
   (refine gl_store_blkW rfl rfl z_5 z_7 z_7 z_3 ?_)
   repeat refine n_ ?_
   refine g_ret ?_
   exact at_endB rfl rfl z_2 rfl (A2 ++ []) (SdP.le [] (A := A2) ⟨s2, rfl, hB2⟩ (fun h hp _ => ⟨hok2 h (hok1 h hp), hp.2⟩)) (fun w hw => hw.drop.drop.drop.drop)
  ·have h3 := of_decide_eq_true hc3.symm
   rw [if_pos h3, if_pos h3]
   repeat refine x_ ?_
   refine r_ ((s_load_blkW rfl z_2 z_7).eq (v' := sdV (sd1 p2 (folA a1) 0)) rfl) ?_
   refine r_ ((s_load_blkW rfl z_2 z_7).eq (v' := mmA m) rfl) ?_
   refine gl_call _ rfl (rTake_ct (sd1 p2 (folA a1) 0) m hf2 hm hc2 hl2 (Nat.zero_le _)) i_ (fun h hh _ => ⟨hok2 h (hokF h hh), hmo.le hh⟩) rfl ?_; rintro v A2 hA2; obtain ⟨s2, rfl, hB2⟩ := hA2; refine gl_rot4 ?_
   (refine gl_store_blkW rfl rfl z_5 z_7 z_7 z_3 ?_)
   repeat refine n_ ?_
   refine g_ret ?_
   exact at_endB rfl rfl z_2 rfl (A2 ++ []) (SdP.le [] (A := A2) ⟨s2, rfl, hB2⟩ (fun h hp _ => ⟨hok2 h (hok1 h hp), hp.2⟩)) (fun w hw => hw.drop.drop.drop.drop)
end Go.Proofs.YtodcghipfolejaaGreat.Rf
namespace Go.Proofs.YtodcghipfolejaaGreat.Rf
open Go Go.Sl
abbrev evO (X : Nat) (e : EV) : As := .blk X (.cells (evC e).toArray 53)
set_option maxRecDepth 16000 in
set_option maxHeartbeats 16000000 in
theorem rStep17_ct (p : RP) (a : RA) (e : EV) (hs : PSt p) (hm : MFit e.m.p) (hk : 1 ≤ e.kind ∧ e.kind ≤ 4) (hi : 0 ≤ e.index ∧ e.index ≤ 18446744073709551615) (hc : p.l.length ≤ a.lc) :
  Ct Tryz.prog 17 [rsV p a, evA e] (fun h => RRd h p a ∧ MOk h e.m) [] (SdP (fun h => RRd h p a ∧ MOk h e.m) (stepP p (evp e)) (stepM p (evp e)) (stepE p (evp e))) := by
 have hl := hs.l
 have hf := hs.fit
 obtain ⟨kd, m, et, ek, ed, ix, img⟩ := e
 simp only at hm hk hi
 refine ct_enter 33 Tryz.func17 rfl rfl rfl ?_
 intro F hrm
 have hr := hrm.1
 have hmo := hrm.2
 repeat refine x_ ?_
 refine gl_boxA rfl rfl ?_; intro g2
 refine gl_boxA rfl rfl ?_; intro g3
 refine gl_allocA rfl ?_; intro g4
 repeat refine n_ ?_
 refine g_pull (H' := [rsO g2 p a, evO g3 ⟨kd, m, et, ek, ed, ix, img⟩, sdZ g4]) (fun w hw => hw.perm (perm_up z_2 (perm_up z_2 (perm_up z_2 (.refl _))))) ?_
 rcases (show kd = 1 ∨ kd = 2 ∨ kd = 3 ∨ kd = 4 by omega) with rfl | rfl | rfl | rfl
 ·repeat refine y_ ?_
  refine g_region ?_
  refine f_ z_1 ?_
  refine r_ (by exact s_load_blk rfl z_2 a19_0) ?_
  repeat refine x_ ?_
  refine f_ ((s_eql rfl rfl).eq (v' := .bool true) rfl) ?_
  refine a_ ?_
  repeat refine x_ ?_
  refine r_ ((s_load_blkW rfl z_2 z_7).eq (v' := rsV p a) rfl) ?_
  refine gl_call _ rfl (rTick_ct p a hf hs.ticks hc (by omega)) i_ (fun h hh _ => hr.le hh) rfl ?_; rintro v A2 hA2; obtain ⟨s2, rfl, hB2⟩ := hA2; refine gl_rot3 ?_
  (refine gl_store_blkW rfl rfl z_5 z_7 z_7 z_3 ?_)
  repeat refine n_ ?_
  refine g_ret ?_
  exact at_endB rfl rfl z_2 rfl (A2 ++ []) (SdP.le [] (A := A2) ⟨s2, rfl, hB2⟩ (fun h hp _ => hp.1)) (fun w hw => hw.drop.drop.drop)
 ·repeat refine y_ ?_
  refine g_region ?_
  refine f_ z_1 ?_
  refine r_ (by exact s_load_blk rfl z_2 a19_0) ?_
  repeat refine x_ ?_
  refine f_ ((s_eql rfl rfl).eq (v' := .bool false) rfl) ?_
  refine a_ ?_
  repeat refine x_ ?_
  refine f_ ((s_eql rfl rfl).eq (v' := .bool true) rfl) ?_
  refine a_ ?_
  repeat refine x_ ?_
  refine r_ ((s_load_blkW rfl z_2 z_7).eq (v' := rsV p a) rfl) ?_
  refine f_ z_1 ?_
  refine r_ ((s_load_blkN rfl z_2 z_7).eq (v' := mmA m) rfl) ?_
  refine gl_call _ rfl (rHear_ct p a m hs hm hc) i_ (fun h hh _ => ⟨hr.le hh, hmo.le hh⟩) rfl ?_; rintro v A2 hA2; obtain ⟨s2, rfl, hB2⟩ := hA2; refine gl_rot3 ?_
  (refine gl_store_blkW rfl rfl z_5 z_7 z_7 z_3 ?_)
  repeat refine n_ ?_
  refine g_ret ?_
  exact at_endB rfl rfl z_2 rfl (A2 ++ []) (SdP.le [] (A := A2) ⟨s2, rfl, hB2⟩ (fun h hp _ => hp)) (fun w hw => hw.drop.drop.drop)
 ·repeat refine y_ ?_
  refine g_region ?_
  refine f_ z_1 ?_
  refine r_ (by exact s_load_blk rfl z_2 a19_0) ?_
  repeat refine x_ ?_
  refine f_ ((s_eql rfl rfl).eq (v' := .bool false) rfl) ?_
  refine a_ ?_
  repeat refine x_ ?_
  refine f_ ((s_eql rfl rfl).eq (v' := .bool false) rfl) ?_
  refine a_ ?_
  repeat refine x_ ?_
  refine f_ ((s_eql rfl rfl).eq (v' := .bool true) rfl) ?_
  refine a_ ?_
  repeat refine x_ ?_
  refine r_ ((s_load_blkW rfl z_2 z_7).eq (v' := rsV p a) rfl) ?_
  refine f_ z_1 ?_
  refine r_ ((s_load_blkN rfl z_2 z_7).eq (v' := .agg #[.int .u64 et, .int .i64 ek, B ed]) rfl) ?_
  refine gl_call _ rfl (rPropose_ct p a et ek ed hf hc (by omega)) i_ (fun h hh _ => hr.le hh) rfl ?_; rintro v A2 hA2; obtain ⟨s2, rfl, hB2⟩ := hA2; refine gl_rot3 ?_
  (refine gl_store_blkW rfl rfl z_5 z_7 z_7 z_3 ?_)
  repeat refine n_ ?_
  refine g_ret ?_
  exact at_endB rfl rfl z_2 rfl (A2 ++ []) (SdP.le [] (A := A2) ⟨s2, rfl, hB2⟩ (fun h hp _ => hp.1)) (fun w hw => hw.drop.drop.drop)
 ·repeat refine y_ ?_
  refine g_region ?_
  refine f_ z_1 ?_
  refine r_ (by exact s_load_blk rfl z_2 a19_0) ?_
  repeat refine x_ ?_
  refine f_ ((s_eql rfl rfl).eq (v' := .bool false) rfl) ?_
  refine a_ ?_
  repeat refine x_ ?_
  refine f_ ((s_eql rfl rfl).eq (v' := .bool false) rfl) ?_
  refine a_ ?_
  repeat refine x_ ?_
  refine f_ ((s_eql rfl rfl).eq (v' := .bool false) rfl) ?_
  refine a_ ?_
  repeat refine x_ ?_
  refine f_ ((s_eql rfl rfl).eq (v' := .bool true) rfl) ?_
  refine a_ ?_
  repeat refine x_ ?_
  refine r_ ((s_load_blkW rfl z_2 z_7).eq (v' := rsV p a) rfl) ?_
  refine f_ z_1 ?_
  refine r_ (by exact s_load_blk rfl z_2 a19_17) ?_
  refine f_ z_1 ?_
  refine r_ (by exact s_load_blk rfl z_2 a19_18) ?_
  refine gl_call _ rfl (rCompact17_ct p a ix img hf hc hi) i_ (fun h hh _ => hr.le hh) rfl ?_; rintro v A2 hA2; obtain ⟨s2, rfl, hB2⟩ := hA2; refine gl_rot3 ?_
  (refine gl_store_blkW rfl rfl z_5 z_7 z_7 z_3 ?_)
  repeat refine n_ ?_
  refine g_ret ?_
  exact at_endB rfl rfl z_2 rfl (A2 ++ []) (SdP.le [] (A := A2) ⟨s2, rfl, hB2⟩ (fun h hp _ => hp.1)) (fun w hw => hw.drop.drop.drop)
end Go.Proofs.YtodcghipfolejaaGreat.Rf
namespace Go.Proofs.YtodcghipfolejaaGreat.Rf
open Go Go.Sl
theorem upd_ms {p : RP} {q : Pr} (hc : p.conf.length ≤ 1000000) : MSm (updateP p q) := by
 unfold updateP
 split
 ·exact ⟨Nat.zero_le _, hc⟩
 ·refine ⟨?_, Nat.zero_le _⟩
  show (sliceL p.g q.next 8).length ≤ _
  unfold sliceL
  split
  ·rw [List.length_take]
   have : ((8 : Int).toNat) = 8 := rfl
   omega
  ·exact Nat.zero_le _
theorem all_ms {p : RP} (h : PFit p) : (∀ x ∈ allP p, MSm x) ∧ (allP p).length ≤ 1000000 := by
 have h1 := h.cl
 have h2 := h.peers
 unfold allP
 split
 ·refine ⟨fun x hx => ?_, by rw [List.length_map]; exact h2⟩
  obtain ⟨q, _, rfl⟩ := List.mem_map.1 hx
  exact upd_ms (by omega)
 ·exact ⟨fun x hx => (by cases hx), Nat.zero_le _⟩
def SzOk (p : RP) (l : List MP) : Prop := PSm p ∧ (∀ x ∈ l, MSm x) ∧ l.length ≤ 1000000
theorem szOk_nil {p : RP} (h : PSm p) : SzOk p [] := ⟨h, fun x hx => (by cases hx), Nat.zero_le _⟩
theorem szOk_one {p : RP} {m : MP} (h : PSm p) (hm : MSm m) : SzOk p [m] := ⟨h, fun x hx => by rw [List.mem_singleton.1 hx]; exact hm, by show 1 ≤ _; decide⟩
theorem lead_sz {p : RP} (h : PFit p) (hl : p.l.length ≤ 99999) : SzOk (leadP p) (leadM p) := ⟨(pf_lead h hl).sm, all_ms (pf_lead h hl)⟩
theorem ms_plain {m : MP} (h1 : m.ents = []) (h2 : m.conf = []) : MSm m := ⟨by rw [h1]; exact Nat.zero_le _, by rw [h2]; exact Nat.zero_le _⟩
theorem commit_sz {p : RP} (h : PSm p) : PSm (commitP p) := by
 have h1 : PSm (commit1 p) := by
  unfold commit1; split
  ·exact ⟨h.conf, h.l, h.votes, h.peers⟩
  ·exact h
 unfold commitP; split
 ·exact ⟨h1.conf, h1.l, Nat.zero_le _, Nat.zero_le _⟩
 ·exact h1
theorem set_sz {p : RP} (h : PSm p) (i : Nat) (q : Pr) : PSm (setPr p i q) := ⟨h.conf, h.l, h.votes, by show (p.peers.set i q).length ≤ _; rw [List.length_set]; exact h.peers⟩
theorem does_sz {p : RP} {m : MP} (hs : PSt p) (hm : MFit m) : SzOk (doesP p m) (doesM p m) := by
 have hf := hs.fit
 have hsm := hf.sm
 have hl := hs.l
 have hmc := hm.conf
 have hme := hm.el
 have hcl := hf.cl
 unfold doesP doesM
 by_cases k1 : m.kind = 1
 ·rw [if_pos k1, if_pos k1]
  refine szOk_one ?_ (ms_plain rfl rfl)
  unfold voteP; split
  ·exact ⟨hsm.conf, hsm.l, hsm.votes, hsm.peers⟩
  ·exact hsm
 rw [if_neg k1, if_neg k1]
 by_cases k2 : m.kind = 2
 ·rw [if_pos k2, if_pos k2]
  unfold grantP grantMs
  have hv5 : (votesL p m.frm).length ≤ 5 := pick_le _ 5
  have hf1 : PFit (grant1 p m) := ⟨hf.base, hf.len, hf.cl, hf.dat, hf.img, by show (votesL p m.frm).length ≤ _; omega, hf.peers, hf.prs, hf.ticks, hf.term, hf.commit⟩
  by_cases hg : grantOk p m = true
  ·rw [if_pos hg, if_pos hg]
   by_cases hw : wins (grant1 p m) = true
   ·rw [if_pos hw, if_pos hw]; exact lead_sz hf1 (by show p.l.length ≤ _; omega)
   ·rw [if_neg hw, if_neg hw]; exact szOk_nil hf1.sm
  ·rw [if_neg hg, if_neg hg]; exact szOk_nil hsm
 rw [if_neg k2, if_neg k2]
 by_cases k3 : m.kind = 3 ∨ m.kind = 5
 ·rw [if_pos k3, if_pos k3]
  have h1 : PSm (leads1 p m) := ⟨hsm.conf, hsm.l, Nat.zero_le _, Nat.zero_le _⟩
  unfold leadsP leadsM
  by_cases ht : m.term < p.term
  ·rw [if_pos (.inl ht), if_pos ht]; exact szOk_one hsm (ms_plain rfl rfl)
  by_cases hr : p.role = 2
  ·rw [if_pos (.inr hr), if_neg ht, if_pos hr]; exact szOk_nil hsm
  rw [if_neg (by rintro (h | h); exact ht h; exact hr h), if_neg ht, if_neg hr]
  by_cases hk : m.kind = 3
  ·rw [if_pos hk, if_pos hk]
   have hq : PSm (tkP (leads1 p m) m) := by
    unfold tkP; split
    ·exact h1
    ·refine ⟨h1.conf, ?_, h1.votes, h1.peers⟩
     have := tk_len (leads1 p m) m
     have e : (leads1 p m).l.length = p.l.length := rfl
     show (tkR (leads1 p m) m).l.length ≤ _
     omega
   unfold tkM
   split
   ·exact szOk_one hq (ms_plain rfl rfl)
   ·split
    ·exact szOk_nil hq
    ·exact szOk_one hq (ms_plain rfl rfl)
  ·rw [if_neg hk, if_neg hk]
   have hq : PSm (pcP (leads1 p m) m) := by
    unfold pcP; split
    ·exact h1
    ·split
     ·exact ⟨h1.conf, h1.l, h1.votes, h1.peers⟩
     ·refine ⟨by show m.conf.length ≤ _; omega, ?_, h1.votes, h1.peers⟩
      show (instL (leads1 p m).g m.index m.lt).length ≤ _
      unfold instL
      split
      ·rw [List.length_drop]
       have e : (leads1 p m).g.l.length = p.l.length := rfl
       omega
      ·exact Nat.zero_le _
   unfold pcM
   split
   ·exact szOk_nil hq
   ·split
    ·exact szOk_one hq (ms_plain rfl rfl)
    ·split
     ·exact szOk_one hq (ms_plain rfl rfl)
     ·split <;> exact szOk_one hq (ms_plain rfl rfl)
 rw [if_neg k3, if_neg k3]
 by_cases k4 : m.kind = 4
 ·rw [if_pos k4, if_pos k4]
  have hcs : ∀ q, (commitP (setPr p (peerAt p m) q)).conf.length ≤ 1000000 := fun q => (commit_sz (set_sz hsm _ q)).conf
  unfold ackMs
  have hq : PSm (ackP p m) := by
   unfold ackP; split
   ·exact hsm
   ·split
    ·exact set_sz hsm _ _
    ·split
     ·exact hsm
     ·exact commit_sz (set_sz hsm _ _)
  split
  ·exact szOk_nil hq
  ·split
   ·exact szOk_one hq (upd_ms (set_sz hsm _ _).conf)
   ·split
    ·exact szOk_nil hq
    ·split
     ·exact szOk_one hq (upd_ms hq.conf)
     ·exact szOk_nil hq
 rw [if_neg k4, if_neg k4]
 by_cases k6 : m.kind = 6
 ·rw [if_pos k6, if_pos k6]
  have hq : PSm (gotP p m) := by
   unfold gotP; split
   ·exact hsm
   ·exact set_sz hsm _ _
  unfold gotMs
  split
  ·exact szOk_nil hq
  ·exact szOk_one hq (upd_ms hq.conf)
 rw [if_neg k6, if_neg k6]
 exact szOk_nil hsm
theorem hear_sz {p : RP} {m : MP} (hs : PSt p) (hm : MFit m) : SzOk (hearP p m) (hearM p m) := by
 unfold hearP hearM
 by_cases hb : hearBad p m = true ∨ hearOff p m = true
 ·rw [if_pos hb, if_pos hb]; exact szOk_nil hs.fit.sm
 ·rw [if_neg hb, if_neg hb]
  have htm : m.term ≤ 4611686018427387904 := by
   have h0 : hearBad p m = false := by
    cases h0 : hearBad p m
    ·rfl
    ·exact absurd (.inl h0) hb
   rw [hearBad] at h0
   simp only [Bool.or_eq_false_iff, decide_eq_false_iff_not] at h0
   omega
  exact does_sz (pst_hear1 hs m ⟨hm.term.1, htm⟩) hm
structure MRg (m : MP) : Prop where
 index : 0 ≤ m.index ∧ m.index ≤ 18446744073709551615
 lt : 0 ≤ m.lt ∧ m.lt ≤ 18446744073709551615
 commit : 0 ≤ m.commit ∧ m.commit ≤ 18446744073709551615
 term : 0 ≤ m.term ∧ m.term ≤ 18446744073709551615
 off : -9223372036854775808 ≤ m.off ∧ m.off ≤ 9223372036854775807
theorem MRg.fit {a : AcM} (h : MRg a.m.p) (hs : SmA a) : MFit a.m.p := ⟨h.index, h.lt, h.commit, h.term, by have := hs.el; omega, fun e he => by have := hs.ed e he; omega, by have := hs.cl; omega, h.off⟩
end Go.Proofs.YtodcghipfolejaaGreat.Rf
namespace Go.Proofs.YtodcghipfolejaaGreat.Rf
open Go Go.Sl
structure PlI (p : PlM) (k : Nat) (s : WS) (Z : List As) : Prop where
 kle : k ≤ p.acts.length
 w : s.w = wAt p.p k
 ok : ∀ h, (∃ bs, Sat h Z bs) → WS.ok h s
abbrev acAt (p : PlM) (k : Nat) : AcM := p.acts.getD k AcM0
theorem acAt_p (p : PlM) {k : Nat} (hk : k < p.acts.length) : p.p.acts.getD k ⟨0, 0, 0, false, [], MP0⟩ = (acAt p k).p := by
 show (p.acts.map AcM.p).getD k _ = (p.acts.getD k AcM0).p
 rw [List.getD_eq_getElem?_getD, List.getD_eq_getElem?_getD, List.getElem?_map, List.getElem?_eq_getElem hk]; rfl
theorem PlI.wat {p : PlM} {k : Nat} (hk : k < p.acts.length) : wAt p.p (k + 1) = (actP (wAt p.p k) (acAt p k).p).w := by
 rw [wAt, acAt_p p hk]
theorem PlI.begin_ {p : PlM} {s : WS} {Z : List As} (hw : s.w = beginP p.p) (hZ : ∀ h, (∃ bs, Sat h Z bs) → WS.ok h s) : PlI p 0 s Z := ⟨Nat.zero_le _, hw, hZ⟩
theorem PlI.wb {p : PlM} {k : Nat} {s : WS} {Z : List As} (h : PlI p k s Z) (hp : SmP p) : WB (2 * (k : Int)) s.w := by
 rw [h.w]
 exact wb_at (smP_small hp) k (by show k ≤ (p.acts.map AcM.p).length; rw [List.length_map]; exact h.kle)
theorem PlI.k800 {p : PlM} {k : Nat} {s : WS} {Z : List As} (h : PlI p k s Z) (hp : SmP p) : 0 ≤ 2 * (k : Int) ∧ 2 * (k : Int) ≤ 80000 := by
 have := h.kle; have := hp.1; omega
theorem PlI.len {p : PlM} {k : Nat} {s : WS} {Z : List As} (h : PlI p k s Z) (hp : SmP p) : s.ms.length = 5 := by
 have := (h.wb hp).len; simpa using this
theorem acAt_mem {p : PlM} {k : Nat} (hk : k < p.acts.length) : acAt p k ∈ p.acts := by
 show p.acts.getD k AcM0 ∈ _
 rw [List.getD_eq_getElem?_getD, List.getElem?_eq_getElem hk]; exact List.getElem_mem _
theorem acAt_data {p : PlM} (hp : SmP p) {k : Nat} (hk : k < p.acts.length) : (acAt p k).data.length ≤ 100000 := (hp.2 _ (acAt_mem hk)).data
theorem PlI.mind {p : PlM} {k : Nat} {s : WS} {Z : List As} (h : PlI p k s Z) (hp : SmP p) {n : Int} (hn : 0 ≤ n ∧ n < 5) : (mi s n).1 = mindAt (wAt p.p k) n ∧ n.toNat < s.ms.length ∧ BI (2 * (k : Int)) (mi s n).1 := by
 have hl := h.len hp
 have e : (mi s n).1 = mindAt (wAt p.p k) n := by rw [mi_mind, h.w]
 refine ⟨e, by omega, ?_⟩
 rw [mi_mind]; exact (wb_mind (h.wb hp) hn).1
end Go.Proofs.YtodcghipfolejaaGreat.Rf
