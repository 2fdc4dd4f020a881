import Derived.Test.YtodcghipfolejaaGreatJx14
import Derived.Test.YtodcghipfolejaaGreatJx12
set_option linter.unusedVariables false
set_option linter.unusedSimpArgs false
namespace Go.Proofs.YtodcghipfolejaaGreat.Rf
open Go Go.Sl
abbrev etO (X : Nat) (t k : Int) (d : Bs) : As := .blk X (.cells #[.int .u64 t, .int .i64 k, B d] 51)
set_option maxRecDepth 16000 in
set_option maxHeartbeats 16000000 in
theorem rPropose_ct (p : RP) (a : RA) (et ek : Int) (ed : Bs) (hf : PFit p) (hc : p.l.length ≤ a.lc) (hl : p.l.length ≤ 99999) : Ct Tryz.prog 41 [rsV p a, .agg #[.int .u64 et, .int .i64 ek, B ed]] (fun h => RRd h p a) [] (SdP (fun h => RRd h p a) (propP p ek ed) (propM p ek ed) (propE p ek ed)) := by
 have hcn := hf.cn (lastI p.g)
 have hca := hf.ca (lastI p.g)
 have hcm := hf.commit
 have hg := hf.fit a hc
 have hla := hf.last
 have hla' : 0 ≤ lastI (p.lm a) ∧ lastI (p.lm a) ≤ 18446744073709551615 := by show 0 ≤ lastI p.g ∧ lastI p.g ≤ _; omega
 have hrl := read_le ed
 obtain ⟨cl, hcl⟩ : ∃ l, l = confAt p.g (lastI p.g) := ⟨_, rfl⟩
 have ecl : confAt (p.lm a) (lastI (p.lm a)) = cl := by rw [hcl]; exact confAt_any p a _
 rw [← hcl] at hcn hca
 refine ct_enter 107 Tryz.func41 rfl rfl rfl ?_
 intro F hr
 obtain ⟨q1, hq1⟩ : ∃ q, q = decide (p.role = 2) := ⟨_, rfl⟩
 obtain ⟨q2, hq2⟩ : ∃ q, q = decide (ek = 2) := ⟨_, rfl⟩
 obtain ⟨q3, hq3⟩ : ∃ q, q = decide (ek = 3) := ⟨_, rfl⟩
 obtain ⟨q4, hq4⟩ : ∃ q, q = decide ((2048 : Int) < (ed.length : Nat)) := ⟨_, rfl⟩
 obtain ⟨q5, hq5⟩ : ∃ q, q = decide ((1024 : Int) ≤ (p.l.length : Nat)) := ⟨_, rfl⟩
 have hfin : ∀ E, propE p ek ed = E → E ≠ 0 → propP p ek ed = p ∧ propM p ek ed = [] := fun E h h0 => ⟨if_neg (by rw [h]; exact h0), if_neg (by rw [h]; exact h0)⟩
 repeat refine x_ ?_
 refine gl_boxA rfl rfl ?_; intro g2
 refine gl_boxA rfl rfl ?_; intro g3
 refine gl_allocA rfl ?_; intro g4
 repeat refine x_ ?_
 refine f_ z_1 ?_
 refine r_ (by exact s_load_blk rfl z_2 a18_1) ?_
 refine f_ z_1 ?_
 (refine gl_store_blkC (pre := []) (post := [_, _]) rfl rfl z_5 z_7 z_7 z_7 ?_)
 repeat refine n_ ?_
 refine g_pull (H' := [rsO g2 p a, etO g3 p.term ek ed, sdZ g4]) (fun w hw => hw.perm (perm_up z_2 (perm_up z_2 (perm_up z_2 (.refl _))))) ?_
 repeat refine x_ ?_
 refine f_ z_1 ?_
 refine r_ (by exact s_load_blk rfl z_2 a18_3) ?_
 refine f_ ((s_neq rfl rfl).eq (v' := .bool (!q1)) (by rw [hq1])) ?_
 repeat refine n_ ?_
 cases q1
 ·have n1 := of_decide_eq_false hq1.symm
  have hE : propE p ek ed = 18 := by rw [propE, if_pos n1]
  obtain ⟨e1, e2⟩ := hfin _ hE (by decide)
  rw [hE, e1, e2]
  repeat refine x_ ?_
  refine r_ ((s_load_blkW rfl z_2 z_7).eq (v' := rsV p a) rfl) ?_
  refine f_ ((s_bld (cells := (sdC (sd1 p a 18)).toArray) rfl z_4).eq (v' := sdV (sd1 p a 18)) rfl) ?_
  (refine gl_store_blkW rfl rfl z_5 z_7 z_7 z_3 ?_)
  repeat refine n_ ?_
  refine g_ret ?_
  exact at_endB rfl rfl z_2 rfl [] ⟨sd1 p a 18, rfl, rfl, rfl, rfl, hc, fun h hp _ => sd1_ok hp 18⟩ (fun w hw => hw.dropAll)
 have n1 := of_decide_eq_true hq1.symm
 repeat refine y_ ?_
 rcases (show (q2 = false ∧ q3 = false) ∨ (q2 = true ∨ q3 = true) by cases q2 <;> cases q3 <;> simp) with ⟨rfl, rfl⟩ | hqq
 ·have n2 := of_decide_eq_false hq2.symm
  have n3 := of_decide_eq_false hq3.symm
  have hE : propE p ek ed = 1 := by rw [propE, if_neg (by simp [n1]), if_pos ⟨n2, n3⟩]
  obtain ⟨e1, e2⟩ := hfin _ hE (by decide)
  rw [hE, e1, e2]
  repeat refine x_ ?_
  refine f_ z_1 ?_
  refine r_ (by exact s_load_blk rfl z_2 a3_1) ?_
  refine f_ ((s_neq rfl rfl).eq (v' := .bool true) (by rw [← hq2]; rfl)) ?_
  refine m_ ?_
  (refine v_ ?_; refine f_ z_1 ?_)
  (refine v_ ?_; refine r_ (by exact s_load_blk rfl z_2 a3_1) ?_)
  (refine v_ ?_; refine f_ ((s_neq rfl rfl).eq (v' := .bool true) (by rw [← hq3]; rfl)) ?_)
  refine f_ z_13 ?_
  repeat refine x_ ?_
  refine r_ ((s_load_blkW rfl z_2 z_7).eq (v' := rsV p a) rfl) ?_
  refine f_ ((s_bld (cells := (sdC (sd1 p a 1)).toArray) rfl z_4).eq (v' := sdV (sd1 p a 1)) rfl) ?_
  (refine gl_store_blkW rfl rfl z_5 z_7 z_7 z_3 ?_)
  repeat refine n_ ?_
  refine g_ret ?_
  exact at_endB rfl rfl z_2 rfl [] ⟨sd1 p a 1, rfl, rfl, rfl, rfl, hc, fun h hp _ => sd1_ok hp 1⟩ (fun w hw => hw.dropAll)
 have n23 : ¬ (ek ≠ 2 ∧ ek ≠ 3) := by
  rintro ⟨h2, h3⟩
  rcases hqq with h | h
  ·exact h2 (of_decide_eq_true (by rw [← hq2]; exact h))
  ·exact h3 (of_decide_eq_true (by rw [← hq3]; exact h))
 refine g_cutK [(2, Ptr g2), (3, Ptr g3), (4, Ptr g4), (27, .bool false)] [rsO g2 p a, etO g3 p.term ek ed, sdZ g4] ?_ ?_
 ·rcases (show q2 = true ∨ (q2 = false ∧ q3 = true) by cases q2 <;> cases q3 <;> simp_all) with rfl | ⟨rfl, rfl⟩
  ·repeat refine y_ ?_
   refine g_region ?_
   refine f_ z_1 ?_
   refine r_ (by exact s_load_blk rfl z_2 a3_1) ?_
   refine f_ ((s_neq rfl rfl).eq (v' := .bool false) (by rw [← hq2]; rfl)) ?_
   refine m_ ?_
   (refine gl_guard_no rfl rfl rfl rfl rfl rfl rfl ?_)
   (refine gl_guard_no rfl rfl rfl rfl rfl rfl rfl ?_)
   (refine gl_guard_no rfl rfl rfl rfl rfl rfl rfl ?_)
   refine f_ z_12 ?_
   repeat refine n_ ?_
   exact at_cut j_ i_
  ·repeat refine y_ ?_
   refine g_region ?_
   refine f_ z_1 ?_
   refine r_ (by exact s_load_blk rfl z_2 a3_1) ?_
   refine f_ ((s_neq rfl rfl).eq (v' := .bool true) (by rw [← hq2]; rfl)) ?_
   refine m_ ?_
   (refine v_ ?_; refine f_ z_1 ?_)
   (refine v_ ?_; refine r_ (by exact s_load_blk rfl z_2 a3_1) ?_)
   (refine v_ ?_; refine f_ ((s_neq rfl rfl).eq (v' := .bool false) (by rw [← hq3]; rfl)) ?_)
   refine f_ z_13 ?_
   repeat refine n_ ?_
   exact at_cut j_ i_
 repeat refine x_ ?_
 refine f_ z_1 ?_
 refine r_ (by exact s_load_blk rfl z_2 a3_2) ?_
 refine f_ (s_len_str rfl) ?_
 refine f_ ((s_gtr rfl rfl).eb hq4) ?_
 repeat refine n_ ?_
 cases q4
 rotate_left
 ·have n4 : 2048 < ed.length := by have := of_decide_eq_true hq4.symm; omega
  have hE : propE p ek ed = 2 := by rw [propE, if_neg (by simp [n1]), if_neg n23, if_pos n4]
  obtain ⟨e1, e2⟩ := hfin _ hE (by decide)
  rw [hE, e1, e2]
  repeat refine x_ ?_
  refine r_ ((s_load_blkW rfl z_2 z_7).eq (v' := rsV p a) rfl) ?_
  refine f_ ((s_bld (cells := (sdC (sd1 p a 2)).toArray) rfl z_4).eq (v' := sdV (sd1 p a 2)) rfl) ?_
  (refine gl_store_blkW rfl rfl z_5 z_7 z_7 z_3 ?_)
  repeat refine n_ ?_
  refine g_ret ?_
  exact at_endB rfl rfl z_2 rfl [] ⟨sd1 p a 2, rfl, rfl, rfl, rfl, hc, fun h hp _ => sd1_ok hp 2⟩ (fun w hw => hw.dropAll)
 have n4 : ¬ 2048 < ed.length := by have := of_decide_eq_false hq4.symm; omega
 repeat refine x_ ?_
 refine f_ z_1 ?_
 refine f_ z_1 ?_
 refine r_ (by exact s_load_blk rfl z_2 a18_8) ?_
 refine f_ (s_len_sl rfl) ?_
 refine f_ ((s_geq rfl rfl).eb hq5) ?_
 repeat refine n_ ?_
 cases q5
 rotate_left
 ·have n5 : 1024 ≤ p.l.length := by have := of_decide_eq_true hq5.symm; omega
  have hE : propE p ek ed = 7 := by rw [propE, if_neg (by simp [n1]), if_neg n23, if_neg n4, if_pos n5]
  obtain ⟨e1, e2⟩ := hfin _ hE (by decide)
  rw [hE, e1, e2]
  repeat refine x_ ?_
  refine r_ ((s_load_blkW rfl z_2 z_7).eq (v' := rsV p a) rfl) ?_
  refine f_ ((s_bld (cells := (sdC (sd1 p a 7)).toArray) rfl z_4).eq (v' := sdV (sd1 p a 7)) rfl) ?_
  (refine gl_store_blkW rfl rfl z_5 z_7 z_7 z_3 ?_)
  repeat refine n_ ?_
  refine g_ret ?_
  exact at_endB rfl rfl z_2 rfl [] ⟨sd1 p a 7, rfl, rfl, rfl, rfl, hc, fun h hp _ => sd1_ok hp 7⟩ (fun w hw => hw.dropAll)
 have n5 : ¬ 1024 ≤ p.l.length := by have := of_decide_eq_false hq5.symm; omega
 repeat refine x_ ?_
 refine f_ z_1 ?_
 refine r_ (by exact s_load_blk rfl z_2 a3_1) ?_
 refine f_ ((s_eql rfl rfl).eb hq2) ?_
 repeat refine n_ ?_
 refine g_cutE (ι := { u : Unit // propE p ek ed = 0 }) (fun _ => [(2, Ptr g2), (3, Ptr g3), (4, Ptr g4)]) (fun _ => [rsO g2 p a, etO g3 p.term ek ed, sdZ g4]) ?_ (fun u => ?_)
 ·cases q2
  ·have n2 := of_decide_eq_false hq2.symm
   have hE : propE p ek ed = 0 := by rw [propE, if_neg (by simp [n1]), if_neg n23, if_neg n4, if_neg n5, if_neg n2]
   repeat refine y_ ?_
   exact at_cutE ⟨(), hE⟩ j_ i_
  have n2 := of_decide_eq_true hq2.symm
  obtain ⟨r1, hr1⟩ : ∃ q, q = decide (readE ed = 0) := ⟨_, rfl⟩
  obtain ⟨r2, hr2⟩ : ∃ q, q = stepS cl.1 (readL ed) := ⟨_, rfl⟩
  obtain ⟨r3, hr3⟩ : ∃ q, q = decide (p.commit < cl.2) := ⟨_, rfl⟩
  obtain ⟨r4, hr4⟩ : ∃ q, q = decide (termV p.g p.commit = p.term) := ⟨_, rfl⟩
  have hE : propE p ek ed = if (!r1 || !r2) = true then 1 else if (r3 || !r4) = true then 17 else 0 := by
   rw [propE, if_neg (by simp [n1]), if_neg n23, if_neg n4, if_neg n5, if_pos n2, changesE, show confL p = cl.1 by rw [hcl]; rfl, show confI p = cl.2 by rw [hcl]; rfl, ← hr2, hr1, hr3, hr4]
   simp only [ne_eq, Bool.or_eq_true, Bool.not_eq_true', decide_eq_true_eq, decide_eq_false_iff_not]
  repeat refine y_ ?_
  refine g_draw ([1, 3], [0, 1, 0, 4, 12, 31, 63, 127, 127, 255, 1023], [4, 5]) [rsO g2 p a] 11 rfl ?_
  refine w_ 0 rfl z_1 ?_
  refine ga_read_k 1 rfl z_11 ((s_load_blkN rfl .del z_7).eq (v' := (p.lm a).v) rfl) k_ rfl rfl rfl z_4 ?_
  refine w_ 2 rfl z_1 ?_
  refine ga_read_k 3 rfl z_11 ((s_load_blkN rfl .del z_7).eq (v' := (p.lm a).v) rfl) k_ rfl rfl rfl z_4 ?_
  refine ga_one 4 rfl z_4 ?_
  refine gl_callp rfl (rLast_ct (p.lm a) hg) (fun _ _ _ => trivial) rfl ?_
  refine gl_nil ?_
  refine at_ga (.inr (by exact keeps_of k_)) ?_
  refine ga_one 5 rfl z_4 ?_
  refine gl_call _ rfl (rConf_ct (p.lm a) (lastI (p.lm a)) hg hf.dat hla') i_ (fun h hh _ => hr.rl.le hh) rfl ?_; rintro v A ⟨ca, cc, rfl, hA⟩; rw [ecl] at hA ⊢; refine gl_rot3 ?_
  refine gl_nil ?_
  refine at_ga (.inl z_4) ?_
  refine w_ 6 rfl (s_move rfl) ?_
  refine w_ 7 rfl (s_extract rfl rfl) ?_
  refine w_ 8 rfl (s_extract rfl rfl) ?_
  refine w_ 9 rfl (s_assign rfl) ?_
  refine w_ 10 rfl (s_assign rfl) ?_
  refine ga_done z_4 ?_
  repeat refine y_ ?_
  have hrx : ∀ h, RRd h p a → (∃ bs, Sat h A bs) → RdS h ca (intsV cl.1) := by
   have := conf_ints (p := p) (a := a) hA
   exact this
  repeat refine x_ ?_
  refine f_ z_1 ?_
  refine r_ (by exact s_load_blk rfl z_2 a3_2) ?_
  refine gl_call _ rfl (rRead_ct ed (by omega)) i_ (fun _ _ _ => trivial) rfl ?_; rintro v A2 ⟨ta, tc, rfl, rfl⟩
  refine m_ ?_
  refine f_ (s_extract rfl rfl) ?_
  refine f_ (s_extract rfl rfl) ?_
  refine a_ ?_
  refine a_ ?_
  repeat refine n_ ?_
  refine g_pull (H' := OwnC ta (readL ed) tc :: rsO g2 p a :: etO g3 p.term ek ed :: sdZ g4 :: A) (fun w hw => by rw [List.append_nil] at hw; exact hw) ?_
  refine g_cutK [(2, Ptr g2), (3, Ptr g3), (4, Ptr g4), (6, .int .u64 cl.2), (68, .bool (!r1 || !r2))] [rsO g2 p a, etO g3 p.term ek ed, sdZ g4] ?_ ?_
  ·rcases (show r1 = true ∨ r1 = false by cases r1 <;> simp) with rfl | rfl
   ·repeat refine y_ ?_
    refine g_region ?_
    refine m_ ?_
    refine f_ ((s_neq rfl rfl).eq (v' := .bool false) (by rw [← hr1]; rfl)) ?_
    refine m_ ?_
    (refine v_ ?_; refine m_ ?_)
    (refine v_ ?_; refine m_ ?_)
    (refine v_ ?_; refine gl_callp rfl (rStep_ct cl.1 (readL ed) ca ta cc tc (by omega) (by omega)) (fun h hh hb => ⟨hrx h (hr.le hh) (sat_tail (sat_tail (sat_tail (sat_tail hb)))), (by obtain ⟨bs, hb⟩ := hb; exact Sat.rd (a := ta) hb .del)⟩) rfl ?_; rw [← hr2])
    (refine v_ ?_; refine f_ (s_not rfl) ?_)
    refine f_ z_12 ?_
    repeat refine n_ ?_
    exact at_cut j_ (fun w hw => Hp.left (A := [rsO g2 p a, etO g3 p.term ek ed, sdZ g4]) (R := A) hw.drop)
   ·repeat refine y_ ?_
    refine g_region ?_
    refine m_ ?_
    refine f_ ((s_neq rfl rfl).eq (v' := .bool true) (by rw [← hr1]; rfl)) ?_
    refine m_ ?_
    (refine gl_guard_no rfl rfl rfl rfl rfl rfl rfl ?_)
    (refine gl_guard_no rfl rfl rfl rfl rfl rfl rfl ?_)
    (refine gl_guard_no rfl rfl rfl rfl rfl rfl rfl ?_)
    (refine gl_guard_no rfl rfl rfl rfl rfl rfl rfl ?_)
    refine f_ z_13 ?_
    repeat refine n_ ?_
    exact at_cut j_ (fun w hw => Hp.left (A := [rsO g2 p a, etO g3 p.term ek ed, sdZ g4]) (R := A) hw.drop)
  obtain ⟨r5, hr5⟩ : ∃ q, q = (!r1 || !r2) := ⟨_, rfl⟩
  rw [← hr5] at hE ⊢
  cases r5
  rotate_left
  ·have hE1 : propE p ek ed = 1 := by rw [hE]; rfl
   obtain ⟨e1, e2⟩ := hfin _ hE1 (by decide)
   rw [hE1, e1, e2]
   repeat refine x_ ?_
   refine r_ ((s_load_blkW rfl z_2 z_7).eq (v' := rsV p a) rfl) ?_
   refine f_ ((s_bld (cells := (sdC (sd1 p a 1)).toArray) rfl z_4).eq (v' := sdV (sd1 p a 1)) rfl) ?_
   (refine gl_store_blkW rfl rfl z_5 z_7 z_7 z_3 ?_)
   repeat refine n_ ?_
   refine g_ret ?_
   exact at_endB rfl rfl z_2 rfl [] ⟨sd1 p a 1, rfl, rfl, rfl, rfl, hc, fun h hp _ => sd1_ok hp 1⟩ (fun w hw => hw.dropAll)
  repeat refine x_ ?_
  refine f_ z_1 ?_
  refine r_ ((s_load_blkN rfl z_2 z_7).eq (v' := (p.lm a).v) rfl) ?_
  refine f_ z_1 ?_
  refine r_ (by exact s_load_blk rfl z_2 a18_10) ?_
  refine gl_callp rfl (rTerm_ct (p.lm a) p.commit hg (by omega)) (fun h hh _ => hr.rl.le hh) rfl ?_; rw [show termV (p.lm a) p.commit = termV p.g p.commit from rfl]
  refine m_ ?_
  refine f_ (s_extract rfl rfl) ?_
  refine f_ (s_extract rfl rfl) ?_
  refine a_ ?_
  refine a_ ?_
  repeat refine n_ ?_
  refine g_cutK [(2, Ptr g2), (3, Ptr g3), (4, Ptr g4), (88, .bool (r3 || !r4))] [rsO g2 p a, etO g3 p.term ek ed, sdZ g4] ?_ ?_
  ·rcases (show r3 = true ∨ r3 = false by cases r3 <;> simp) with rfl | rfl
   ·repeat refine y_ ?_
    refine g_region ?_
    refine m_ ?_
    refine f_ z_1 ?_
    refine r_ (by exact s_load_blk rfl z_2 a18_10) ?_
    refine f_ ((s_gtr rfl rfl).eb hr3) ?_
    refine m_ ?_
    (refine gl_guard_no rfl rfl rfl rfl rfl rfl rfl ?_)
    (refine gl_guard_no rfl rfl rfl rfl rfl rfl rfl ?_)
    (refine gl_guard_no rfl rfl rfl rfl rfl rfl rfl ?_)
    (refine gl_guard_no rfl rfl rfl rfl rfl rfl rfl ?_)
    refine f_ z_13 ?_
    repeat refine n_ ?_
    exact at_cut j_ i_
   ·repeat refine y_ ?_
    refine g_region ?_
    refine m_ ?_
    refine f_ z_1 ?_
    refine r_ (by exact s_load_blk rfl z_2 a18_10) ?_
    refine f_ ((s_gtr rfl rfl).eb hr3) ?_
    refine m_ ?_
    (refine v_ ?_; refine m_ ?_)
    (refine v_ ?_; refine f_ z_1 ?_)
    (refine v_ ?_; refine r_ (by exact s_load_blk rfl z_2 a18_1) ?_)
    (refine v_ ?_; refine f_ ((s_neq rfl rfl).eq (v' := .bool (!r4)) (by rw [hr4])) ?_)
    refine f_ z_12 ?_
    repeat refine n_ ?_
    exact at_cut j_ i_
  obtain ⟨r6, hr6⟩ : ∃ q, q = (r3 || !r4) := ⟨_, rfl⟩
  rw [← hr6] at hE ⊢
  cases r6
  rotate_left
  ·have hE1 : propE p ek ed = 17 := by rw [hE]; rfl
   obtain ⟨e1, e2⟩ := hfin _ hE1 (by decide)
   rw [hE1, e1, e2]
   repeat refine x_ ?_
   refine r_ ((s_load_blkW rfl z_2 z_7).eq (v' := rsV p a) rfl) ?_
   refine f_ ((s_bld (cells := (sdC (sd1 p a 17)).toArray) rfl z_4).eq (v' := sdV (sd1 p a 17)) rfl) ?_
   (refine gl_store_blkW rfl rfl z_5 z_7 z_7 z_3 ?_)
   repeat refine n_ ?_
   refine g_ret ?_
   exact at_endB rfl rfl z_2 rfl [] ⟨sd1 p a 17, rfl, rfl, rfl, rfl, hc, fun h hp _ => sd1_ok hp 17⟩ (fun w hw => hw.dropAll)
  repeat refine y_ ?_
  exact at_cutE ⟨(), by rw [hE]; rfl⟩ j_ i_
 have hE := u.2
 have e1 : propP p ek ed = commitP (prop2 p ek ed) := if_pos hE
 have e2 : propM p ek ed = allP (commitP (prop2 p ek ed)) := if_pos hE
 have hf1 := pf_prop1 (ek := ek) hf hl (show ed.length ≤ 1000000000000 by omega)
 have hf2 := pf_prop2 (ek := ek) hf hl (show ed.length ≤ 1000000000000 by omega)
 have hf3 := pf_commit hf2
 rw [hE, e1, e2]
 repeat refine x_ ?_
 refine r_ ((s_load_blkW rfl z_2 z_7).eq (v' := rsV p a) rfl) ?_
 refine gl_allocA rfl ?_; intro g11
 (refine gl_store_blkW rfl rfl z_5 z_7 z_7 z_3 ?_)
 repeat refine x_ ?_
 refine f_ z_1 ?_
 refine r_ ((s_load_blkN rfl z_2 z_7).eq (v' := (p.lm a).v) rfl) ?_
 refine r_ ((s_load_blkW rfl z_2 z_7).eq (v' := entV (p.term, ek, ed)) rfl) ?_
 refine gl_call _ rfl (rWith_ct (p.lm a) (p.term, ek, ed) hg) i_ (fun h hh _ => hr.rl.le hh) rfl ?_; rintro v A ⟨la, lc, rfl, hlc, hA⟩; refine gl_rot4 ?_
 refine f_ z_1 ?_
 (refine gl_store_blk rfl rfl z_5 z_7 z_3 z_7 ?_)
 repeat refine n_ ?_
 obtain ⟨a1, ha1⟩ : ∃ a1 : RA, a1 = { a with la := la, lc := lc } := ⟨_, rfl⟩
 have hc1 : (prop1 p ek ed).l.length ≤ a1.lc := by rw [ha1]; exact hlc
 have hrd1 : ∀ h, RRd h p a → (∃ bs, Sat h A bs) → RRd h (prop1 p ek ed) a1 := fun h hp hb => by
  rw [ha1]; exact ⟨hp.rc, hA h hb, hp.rv, hp.rp⟩
 refine g_pull (H' := rsO g11 (prop1 p ek ed) a1 :: etO g3 p.term ek ed :: sdZ g4 :: A) (fun w hw => by rw [List.append_nil] at hw; rw [ha1]; exact hw.upd_same (.there .del)) ?_
 repeat refine x_ ?_
 refine f_ z_1 ?_
 refine r_ (by exact s_load_blk rfl z_2 a3_1) ?_
 refine f_ ((s_eql rfl rfl).eb hq2) ?_
 repeat refine n_ ?_
 refine g_cutE (ι := { x : RA × List As // (prop2 p ek ed).l.length ≤ x.1.lc ∧ ∀ h, RRd h p a → (∃ bs, Sat h x.2 bs) → RRd h (prop2 p ek ed) x.1 }) (fun _ => [(4, Ptr g4), (11, Ptr g11)]) (fun x => rsO g11 (prop2 p ek ed) x.1.1 :: sdZ g4 :: x.1.2) ?_ (fun x => ?_)
 ·cases q2
  ·have n2 := of_decide_eq_false hq2.symm
   have ep : prop2 p ek ed = prop1 p ek ed := if_neg n2
   rw [ep]
   repeat refine y_ ?_
   exact at_cutE ⟨(a1, A), hc1, hrd1⟩ j_ (fun w hw => hw.upd_same (.there .del))
  ·have n2 := of_decide_eq_true hq2.symm
   have ep : prop2 p ek ed = { prop1 p ek ed with peers := peersL (prop1 p ek ed) } := if_pos n2
   rw [ep]
   repeat refine x_ ?_
   refine r_ ((s_load_blkW rfl z_2 z_7).eq (v' := rsV (prop1 p ek ed) a1) rfl) ?_
   refine gl_call _ rfl (rPeers_ct (prop1 p ek ed) a1 hf1 hc1) i_ (fun h hh hb => hrd1 h (hr.le hh) (sat_tail (sat_tail (sat_tail hb)))) rfl ?_; rintro v A2 ⟨pa, pc, Z, rfl, rfl⟩; refine gl_rot3 ?_
   refine f_ z_1 ?_
   (refine gl_store_blkC (pre := [_, _, _, _, _, _, _, _, _, _, _, _, _, _]) (post := [_, _, _]) rfl rfl z_5 z_7 z_7 z_7 ?_)
   repeat refine n_ ?_
   exact at_cutE ⟨({ a1 with pa := pa, pc := pc }, (OwnP pa (peersL (prop1 p ek ed)) pc :: Z) ++ A), hc1, fun h hp hb => by
    have h1 := hrd1 h hp (Sat.two2 hb).2
    obtain ⟨bs, h2⟩ := (Sat.two2 hb).1
    exact ⟨h1.rc, h1.rl, h1.rv, Sat.rd (a := pa) h2 .del⟩⟩ j_ (fun w hw => hw.upd_same (.there .del))
 obtain ⟨⟨a2, Z⟩, hc2, hrd2⟩ := x
 simp only at hc2 hrd2
 repeat refine x_ ?_
 refine r_ ((s_load_blkW rfl z_2 z_7).eq (v' := rsV (prop2 p ek ed) a2) rfl) ?_
 refine gl_call _ rfl (rCommit17_ct (prop2 p ek ed) a2 hf2 hc2) i_ (fun h hh hb => hrd2 h (hr.le hh) (sat_tail (sat_tail hb))) rfl ?_; rintro v A3 ⟨a3, rfl, hc3, hA3⟩; refine gl_rot2 ?_
 refine f_ ((s_bld (cells := (sdC (sd1 (commitP (prop2 p ek ed)) a3 0)).toArray) rfl z_4).eq (v' := sdV (sd1 (commitP (prop2 p ek ed)) a3 0)) rfl) ?_
 refine gl_call _ rfl (rAll_ct (sd1 (commitP (prop2 p ek ed)) a3 0) hf3 hc3 (Nat.zero_le _)) i_ (fun h hh hb => sd1_ok (hA3 h (hrd2 h (hr.le hh) (Sat.two2 (sat_tail (sat_tail hb))).2) (Sat.two2 (sat_tail (sat_tail hb))).1) 0) rfl ?_; rintro v A4 hA4; obtain ⟨s4, rfl, hB4⟩ := hA4; refine gl_rot2 ?_
 (refine gl_store_blkW rfl rfl z_5 z_7 z_7 z_3 ?_)
 repeat refine n_ ?_
 refine g_ret ?_
 exact at_endB rfl rfl z_2 rfl (A4 ++ (A3 ++ Z)) (SdP.le (A3 ++ Z) (A := A4) ⟨s4, rfl, hB4⟩ (fun h hp hb => sd1_ok (hA3 h (hrd2 h hp (Sat.two2 hb).2) (Sat.two2 hb).1) 0)) (fun w hw => hw.drop.drop)
end Go.Proofs.YtodcghipfolejaaGreat.Rf
namespace Go.Proofs.YtodcghipfolejaaGreat.Rf
open Go Go.Sl
theorem cmpR_val {p : RP} {a : RA} {i : Int} {v : Value} {A : List As} (h : CmpR (p.lm a) i v A) : ∃ g' : LM, v = .tuple #[g'.v, .bool (hasL p.g i)] ∧
  (hasL p.g i = true → g'.base = i ∧ g'.bt = termV p.g i ∧ g'.conf = (confAt p.g i).1 ∧ g'.l = p.l.drop (i - p.base).toNat ∧ (∀ h, RRd h p a → (∃ bs, Sat h A bs) → RdS h g'.ca (intsV g'.conf) ∧ RdS h g'.la (enV g'.l)) ∧ (∀ F w T, Hp F w (A ++ T) → g'.l.length ≤ g'.lc)) := by
 rcases h with ⟨h1, rfl, rfl⟩ | ⟨h1, ca, cc, la, lc, rfl, hA⟩
 ·have e : hasL p.g i = false := h1
  exact ⟨p.lm a, by rw [e], fun h => by rw [e] at h; cases h⟩
 ·have e : hasL p.g i = true := h1
  rw [confAt_any p a i] at hA ⊢
  refine ⟨⟨i, termV p.g i, (confAt p.g i).1, p.l.drop (i - p.base).toNat, ca, cc, la, lc⟩, by rw [e]; rfl, fun _ => ⟨rfl, rfl, rfl, rfl, fun h hr hs => ?_, fun F w T hw => ?_⟩⟩
  ·obtain ⟨bs, hs⟩ := hs
   rcases hA with ⟨e1, e2, e3, rfl⟩ | rfl
   ·refine ⟨?_, Sat.rd (a := la) hs .del⟩
    simp only
    rw [e1, e2]; exact hr.rc
   ·exact ⟨Sat.rd (a := ca) hs (.there .del), Sat.rd (a := la) hs .del⟩
  ·rcases hA with ⟨e1, e2, e3, rfl⟩ | rfl
   ·exact (hw.ownN (a := la) .del).2.1
   ·exact (hw.ownN (a := la) .del).2.1
theorem zer_succ {l : List Pr} {k : Nat} (hk : k < l.length) : (l.take (k + 1)).map zeroOff = (l.take k).map zeroOff ++ [zeroOff (l.getD k P0)] := by rw [takeP hk, List.map_append]; rfl
set_option maxRecDepth 16000 in
set_option maxHeartbeats 16000000 in
theorem rCompact17_ct (p : RP) (a : RA) (i : Int) (img : Bs) (hf : PFit p) (hc : p.l.length ≤ a.lc) (hi : 0 ≤ i ∧ i ≤ 18446744073709551615) : Ct Tryz.prog 42 [rsV p a, .int .u64 i, B img] (fun h => RRd h p a) [] (SdP (fun h => RRd h p a) (compP p i img) [] (compE p i img)) := by
 have hg := hf.fit a hc
 have hpl := hf.peers
 refine ct_enter 66 Tryz.func42 rfl rfl rfl ?_
 intro F hr
 obtain ⟨q1, hq1⟩ : ∃ q, q = decide (i ≤ p.base) := ⟨_, rfl⟩
 obtain ⟨q2, hq2⟩ : ∃ q, q = decide (p.commit < i) := ⟨_, rfl⟩
 obtain ⟨q3, hq3⟩ : ∃ q, q = decide ((262144 : Int) < (img.length : Nat)) := ⟨_, rfl⟩
 have hbad : compBad p i img = (q1 || (q2 || (q3 || !hasL p.g i))) := by
  rw [compBad, hq1, hq2, hq3]
  congr 3
  exact decide_eq_decide.2 (by omega)
 repeat refine x_ ?_
 refine gl_boxA rfl rfl ?_; intro g3
 refine gl_allocA rfl ?_; intro g6
 repeat refine n_ ?_
 refine g_pull (H' := [rsO g3 p a, sdZ g6]) (fun w hw => hw.perm (perm_up z_2 (perm_up z_2 (.refl _)))) ?_
 refine g_cutK [(1, .int .u64 i), (2, B img), (3, Ptr g3), (6, Ptr g6), (27, .bool (q1 || (q2 || q3)))] [rsO g3 p a, sdZ g6] ?_ ?_
 ·rcases (show q1 = true ∨ (q1 = false ∧ q2 = true) ∨ (q1 = false ∧ q2 = false) by cases q1 <;> cases q2 <;> simp) with rfl | ⟨rfl, rfl⟩ | ⟨rfl, rfl⟩
  ·repeat refine y_ ?_
   refine g_region ?_
   refine m_ ?_
   refine f_ z_1 ?_
   refine f_ z_1 ?_
   refine r_ (by exact s_load_blk rfl z_2 a18_5) ?_
   refine f_ ((s_leq rfl rfl).eb hq1) ?_
   refine m_ ?_
   (refine gl_guard_no rfl rfl rfl rfl rfl rfl rfl ?_)
   (refine gl_guard_no rfl rfl rfl rfl rfl rfl rfl ?_)
   (refine gl_guard_no rfl rfl rfl rfl rfl rfl rfl ?_)
   (refine gl_guard_no rfl rfl rfl rfl rfl rfl rfl ?_)
   refine f_ z_13 ?_
   refine m_ ?_
   (refine gl_guard_no rfl rfl rfl rfl rfl rfl rfl ?_)
   (refine gl_guard_no rfl rfl rfl rfl rfl rfl rfl ?_)
   (refine gl_guard_no rfl rfl rfl rfl rfl rfl rfl ?_)
   refine f_ z_13 ?_
   repeat refine n_ ?_
   exact at_cut j_ i_
  ·repeat refine y_ ?_
   refine g_region ?_
   refine m_ ?_
   refine f_ z_1 ?_
   refine f_ z_1 ?_
   refine r_ (by exact s_load_blk rfl z_2 a18_5) ?_
   refine f_ ((s_leq rfl rfl).eb hq1) ?_
   refine m_ ?_
   (refine v_ ?_; refine m_ ?_)
   (refine v_ ?_; refine f_ z_1 ?_)
   (refine v_ ?_; refine r_ (by exact s_load_blk rfl z_2 a18_10) ?_)
   (refine v_ ?_; refine f_ ((s_gtr rfl rfl).eb hq2) ?_)
   refine f_ z_12 ?_
   refine m_ ?_
   (refine gl_guard_no rfl rfl rfl rfl rfl rfl rfl ?_)
   (refine gl_guard_no rfl rfl rfl rfl rfl rfl rfl ?_)
   (refine gl_guard_no rfl rfl rfl rfl rfl rfl rfl ?_)
   refine f_ z_13 ?_
   repeat refine n_ ?_
   exact at_cut j_ i_
  ·repeat refine y_ ?_
   refine g_region ?_
   refine m_ ?_
   refine f_ z_1 ?_
   refine f_ z_1 ?_
   refine r_ (by exact s_load_blk rfl z_2 a18_5) ?_
   refine f_ ((s_leq rfl rfl).eb hq1) ?_
   refine m_ ?_
   (refine v_ ?_; refine m_ ?_)
   (refine v_ ?_; refine f_ z_1 ?_)
   (refine v_ ?_; refine r_ (by exact s_load_blk rfl z_2 a18_10) ?_)
   (refine v_ ?_; refine f_ ((s_gtr rfl rfl).eb hq2) ?_)
   refine f_ z_12 ?_
   refine m_ ?_
   (refine v_ ?_; refine m_ ?_)
   (refine v_ ?_; refine f_ (s_len_str rfl) ?_)
   (refine v_ ?_; refine f_ ((s_gtr rfl rfl).eb hq3) ?_)
   refine f_ z_12 ?_
   repeat refine n_ ?_
   exact at_cut j_ i_
 obtain ⟨q4, hq4⟩ : ∃ q, q = (q1 || (q2 || q3)) := ⟨_, rfl⟩
 have hbad2 : compBad p i img = (q4 || !hasL p.g i) := by rw [hbad, hq4]; cases q1 <;> cases q2 <;> cases q3 <;> rfl
 rw [← hq4]
 cases q4
 rotate_left
 ·have e1 : compP p i img = p := if_pos hbad2
  have e2 : compE p i img = 1 := if_pos hbad2
  rw [e1, e2]
  repeat refine x_ ?_
  refine r_ ((s_load_blkW rfl z_2 z_7).eq (v' := rsV p a) rfl) ?_
  refine f_ ((s_bld (cells := (sdC (sd1 p a 1)).toArray) rfl z_4).eq (v' := sdV (sd1 p a 1)) rfl) ?_
  (refine gl_store_blkW rfl rfl z_5 z_7 z_7 z_3 ?_)
  repeat refine n_ ?_
  refine g_ret ?_
  exact at_endB rfl rfl z_2 rfl [] ⟨sd1 p a 1, rfl, rfl, rfl, rfl, hc, fun h hp _ => sd1_ok hp 1⟩ (fun w hw => hw.dropAll)
 repeat refine x_ ?_
 refine f_ z_1 ?_
 refine r_ ((s_load_blkN rfl z_2 z_7).eq (v' := (p.lm a).v) rfl) ?_
 refine m_ ?_
 refine gl_call _ rfl (rCompact_ct (p.lm a) i hg hf.dat hi) i_ (fun h hh _ => hr.rl.le hh) rfl ?_; rintro v A hC; obtain ⟨g', rfl, hA⟩ := cmpR_val hC; clear hC; refine gl_rot2 ?_
 refine m_ ?_
 refine f_ (s_extract rfl rfl) ?_
 refine f_ (s_extract rfl rfl) ?_
 refine gl_allocA rfl ?_; intro g7
 (refine gl_store_blkW rfl rfl z_5 z_7 z_7 z_3 ?_)
 refine a_ ?_
 repeat refine x_ ?_
 refine m_ ?_
 refine f_ (s_not rfl) ?_
 repeat refine n_ ?_
 obtain ⟨q5, hq5⟩ : ∃ q, q = hasL p.g i := ⟨_, rfl⟩
 rw [← hq5] at hbad2 hA ⊢
 cases q5
 ·have e1 : compP p i img = p := if_pos hbad2
  have e2 : compE p i img = 1 := if_pos hbad2
  rw [e1, e2]
  repeat refine x_ ?_
  refine r_ ((s_load_blkW rfl z_2 z_7).eq (v' := rsV p a) rfl) ?_
  refine f_ ((s_bld (cells := (sdC (sd1 p a 1)).toArray) rfl z_4).eq (v' := sdV (sd1 p a 1)) rfl) ?_
  (refine gl_store_blkW rfl rfl z_5 z_7 z_7 z_3 ?_)
  repeat refine n_ ?_
  refine g_ret ?_
  exact at_endB rfl rfl z_2 rfl [] ⟨sd1 p a 1, rfl, rfl, rfl, rfl, hc, fun h hp _ => sd1_ok hp 1⟩ (fun w hw => hw.dropAll)
 obtain ⟨k1, k2, k3, k4, k5, k6⟩ := hA rfl
 have e1 : compP p i img = { p with base := i, bt := termV p.g i, conf := (confAt p.g i).1, l := p.l.drop (i - p.base).toNat, img := img, peers := p.peers.map zeroOff } := if_neg (by rw [hbad2]; decide)
 have e2 : compE p i img = 0 := if_neg (by rw [hbad2]; decide)
 rw [e1, e2]
 obtain ⟨bs, bt, cf, l, ca, cc, la, lc⟩ := g'
 simp only at k1 k2 k3 k4 k5 k6
 rw [← k2, ← k3, ← k4]
 subst k1
 clear e1 e2 hbad2 hbad k2 k3 k4
 refine g_some (Q := l.length ≤ lc) (fun w hw => k6 F w [] (hw.drop.drop.drop)) (fun hcap => ?_)
 repeat refine x_ ?_
 refine r_ ((s_load_blkW rfl z_2 z_7).eq (v' := LM.v ⟨bs, bt, cf, l, ca, cc, la, lc⟩) rfl) ?_
 refine f_ z_1 ?_
 (refine gl_store_blk rfl rfl z_5 z_7 z_3 z_7 ?_)
 repeat refine x_ ?_
 refine m_ ?_
 refine f_ z_1 ?_
 (refine gl_store_blkC (pre := [_, _, _, _, _, _, _, _, _]) (post := [_, _, _, _, _, _, _, _]) rfl rfl z_5 z_7 z_7 z_7 ?_)
 repeat refine x_ ?_
 refine a_ ?_
 repeat refine x_ ?_
 refine a_ ?_
 repeat refine n_ ?_
 obtain ⟨p1, hp1⟩ : ∃ p1 : RP, p1 = { p with base := bs, bt := bt, conf := cf, l := l, img := img } := ⟨_, rfl⟩
 obtain ⟨a1, ha1⟩ : ∃ a1 : RA, a1 = { a with ca := ca, cc := cc, la := la, lc := lc } := ⟨_, rfl⟩
 have hrp : p1.peers = p.peers := by rw [hp1]
 have hap : a1.pa = a.pa := by rw [ha1]
 have hr1 : ∀ h, RRd h p a → (∃ bs, Sat h A bs) → RRd h p1 a1 := fun h hp hb => by
  obtain ⟨x1, x2⟩ := k5 h hp hb
  rw [hp1, ha1]
  exact ⟨x1, x2, hp.rv, hp.rp⟩
 refine g_own_nil 100 4 ?_
 refine g_loop (ι := Nat × Option Addr × Nat × List As) (fun i => i.1 ≤ p.peers.length ∧ (∀ h, (∃ bs, Sat h i.2.2.2 bs) → ∃ bs, Sat h A bs)) (fun i => [(3, Ptr g3), (6, Ptr g6), (9, .slice i.2.1 ((p.peers.take i.1).map zeroOff).length i.2.2.1), (10, .int .i64 (i.1 : Nat))]) (fun i => OwnP i.2.1 ((p.peers.take i.1).map zeroOff) i.2.2.1 :: rsO g3 p1 a1 :: sdZ g6 :: i.2.2.2) (fun i => p.peers.length - i.1) (0, none, 0, A) ⟨Nat.zero_le _, fun _ h => h⟩ ?_ ?_ ?_
 ·(repeat (first | exact Sub.nil _ | refine Sub.cons rfl ?_))
 ·intro w hw; rw [List.append_nil] at hw; rw [hp1, ha1]; exact (hw.upd_same (.there .del)).perm (by exact .refl _)
 rintro ⟨k, b, c, Z⟩ ⟨hk, hZ⟩
 simp only at hk hZ
 have hol : ((p.peers.take ((k, b, c, Z) : Nat × Option Addr × Nat × List As).1).map zeroOff).length ≤ 1000000 := by rw [List.length_map, List.length_take]; omega
 repeat refine x_ ?_
 refine m_ ?_
 refine f_ z_1 ?_
 refine r_ (by exact s_load_blk rfl z_2 a18_14) ?_
 refine f_ (s_len_sl rfl) ?_
 refine f_ ((s_lss rfl rfl).eq (v' := .bool (decide ((k : Int) < (p.peers.length : Nat)))) (by rw [hrp])) ?_
 repeat refine n_ ?_
 refine g_cond rfl (fun h => ?_) (fun h => ?_)
 rotate_left
 ·have hkl : k = p.peers.length := by simp at h; omega
  subst hkl
  simp only [List.take_length]
  repeat refine x_ ?_
  refine m_ ?_
  refine f_ z_1 ?_
  (refine gl_store_blkC (pre := [_, _, _, _, _, _, _, _, _, _, _, _, _, _]) (post := [_, _, _]) rfl rfl z_5 z_7 z_7 z_7 ?_)
  repeat refine n_ ?_
  obtain ⟨p2, hp2⟩ : ∃ p2 : RP, p2 = { p1 with peers := p.peers.map zeroOff } := ⟨_, rfl⟩
  have hcap2 : p2.l.length ≤ a1.lc := by rw [hp2, hp1, ha1]; exact hcap
  refine g_pull (H' := rsO g3 p2 { a1 with pa := b, pc := c } :: sdZ g6 :: OwnP b (p.peers.map zeroOff) c :: Z) (fun w hw => by rw [hp2]; exact hw.perm (perm_up z_2 (perm_up z_2 (perm_up z_2 (.refl _))))) ?_
  repeat refine x_ ?_
  refine r_ ((s_load_blkW rfl z_2 z_7).eq (v' := rsV p2 { a1 with pa := b, pc := c }) rfl) ?_
  refine f_ ((s_bld (cells := (sdC (sd1 p2 { a1 with pa := b, pc := c } 0)).toArray) rfl z_4).eq (v' := sdV (sd1 p2 { a1 with pa := b, pc := c } 0)) rfl) ?_
  (refine gl_store_blkW rfl rfl z_5 z_7 z_7 z_3 ?_)
  repeat refine n_ ?_
  refine g_ret ?_
  exact at_endB rfl rfl z_2 rfl (OwnP b (p.peers.map zeroOff) c :: Z) ⟨sd1 p2 { a1 with pa := b, pc := c } 0, rfl, by rw [hp2, hp1], rfl, rfl, hcap2, fun h hp hb => sd1_ok (by
   have x1 := hr1 h hp (hZ h (sat_tail hb))
   rw [hp2]
   exact ⟨x1.rc, x1.rl, x1.rv, (by obtain ⟨bs, hb⟩ := hb; exact Sat.rd (a := b) hb .del)⟩) 0⟩ (fun w hw => hw.drop.drop)
 have hkl : k < p.peers.length := by simp at h; omega
 have hkk : ((k, b, c, Z) : Nat × Option Addr × Nat × List As).1 < p.peers.length := hkl
 have hk1 : ((k, b, c, Z) : Nat × Option Addr × Nat × List As).1 < p1.peers.length := by rw [hrp]; exact hkl
 have hsome := rdPr_some (a := a1.pa) (by rw [hap]; exact hr.rp) hkl
 have hsu := zer_succ hkl
 obtain ⟨q, hqe⟩ : ∃ q, q = p.peers.getD k P0 := ⟨_, rfl⟩
 rw [← hqe] at hsu
 repeat refine x_ ?_
 refine f_ z_1 ?_
 refine r_ (by exact s_load_blk rfl z_2 a18_14) ?_
 refine m_ ?_
 refine f_ (s_indexAddr rfl (by assumption) rfl (by omega)) ?_
 refine r_ (s_loadN (cs := prC q) rfl (fun w hw => by rw [hqe, hap]; exact rdPr (hr.rp.le hw.keep) (i := k) (by simp only; omega) hkl) rfl) ?_
 refine gl_allocA rfl ?_; intro g11
 (refine gl_store_blkW rfl rfl z_5 z_7 z_7 z_3 ?_)
 repeat refine x_ ?_
 refine f_ z_1 ?_
 (refine gl_store_blkC (pre := [_, _, _]) (post := []) rfl rfl z_5 z_7 z_7 z_7 ?_)
 repeat refine x_ ?_
 refine m_ ?_
 refine r_ z_14 ?_
 refine gl_buildSliceU rfl rfl rfl rfl rfl rfl (xs := prC (zeroOff q)) rfl rfl ?_; intro a60 ha60
 refine gl_append (sz := 4) rfl rfl (fun a' c' => z_5) (fun w hw => (hw.ownN z_2).2.2.1) rfl rfl rfl (prC_one (zeroOff q)) (by show (_ + 1) * 32 ≤ _; omega) (by omega) rfl ?_; intro a61 c61 hc61
 refine a_ ?_
 repeat refine x_ ?_
 refine m_ ?_
 refine f_ (s_add_i64 rfl rfl (by omega)) ?_
 refine a_ ?_
 repeat refine n_ ?_
 refine at_next (k + 1, a61, c61, .own (.slice a60 1 1) 100 4 (prC (zeroOff q)) :: .blk g11 (.cells #[.int .i64 q.node, .int .u64 q.next, .int .u64 q.mtc, .int .i64 0] 100) :: Z) ⟨by simp only; omega, fun h hb => hZ h (sat_tail (sat_tail hb))⟩ (by simp only; omega) ?_ ?_
 ·simp only [hsu, List.length_append, List.length_singleton]; (repeat (first | exact Sub.nil _ | refine Sub.cons rfl ?_))
 ·intro w hw
  simp only [hsu]
  rw [← own_snocP rfl]
  exact hw.perm (perm_up z_2 (perm_up z_2 (perm_up z_2 (perm_up z_2 (.refl _)))))
end Go.Proofs.YtodcghipfolejaaGreat.Rf
namespace Go.Proofs.YtodcghipfolejaaGreat.Rf
open Go Go.Sl
abbrev mmO (X : Nat) (m : MM) : As := .blk X (.cells (mmC m).toArray 38)
set_option maxRecDepth 16000 in
set_option maxHeartbeats 16000000 in
theorem rGrant_ct (s : SD) (m : MM) (hf : PFit s.p) (hc : s.p.l.length ≤ s.a.lc) (hl : s.p.l.length ≤ 99999) (ho : s.outs.length ≤ 1000000) : Ct Tryz.prog 74 [sdV s, mmA m] (fun h => SdOk h s) [] (SdP (fun h => SdOk h s) (grantP s.p m.p) (s.outs.map MM.p ++ grantMs s.p m.p) s.er) := by
  obtain ⟨p, a, outs, oa, oc, er⟩ := s
  obtain ⟨mp, ea, ec, ka, kc⟩ := m
  simp only at hf hc hl ho
  have hvl := hf.votes
  refine ct_enter 55 Tryz.func74 rfl rfl rfl ?_
  intro F hs
  obtain ⟨q1, hq1⟩ : ∃ q, q = decide (p.role = 1) := ⟨_, rfl⟩
  obtain ⟨q2, hq2⟩ : ∃ q, q = decide (mp.term = p.term) := ⟨_, rfl⟩
  obtain ⟨q3, hq3⟩ : ∃ q, q = mp.ok := ⟨_, rfl⟩
  have hgr : grantOk p mp = (q1 && (q2 && q3)) := by rw [grantOk, hq1, hq2, hq3]
  repeat refine x_ ?_
  refine gl_boxA rfl rfl ?_; intro g2
  refine gl_boxA rfl rfl ?_; intro g3
  refine gl_allocA rfl ?_; intro g4
  repeat refine n_ ?_
  refine g_pull (H' := [sdO g2 ⟨p, a, outs, oa, oc, er⟩, mmO g3 ⟨mp, ea, ec, ka, kc⟩, sdZ g4]) (fun w hw => hw.perm (perm_up z_2 (perm_up z_2 (perm_up z_2 (.refl _))))) ?_
  refine g_cutK [(2, Ptr g2), (3, Ptr g3), (4, Ptr g4), (23, .bool (!grantOk p mp))] [sdO g2 ⟨p, a, outs, oa, oc, er⟩, mmO g3 ⟨mp, ea, ec, ka, kc⟩, sdZ g4] ?_ ?_
  · rw [hgr]
    rcases (show q1 = false ∨ (q1 = true ∧ q2 = false) ∨ (q1 = true ∧ q2 = true) by cases q1 <;> cases q2 <;> simp) with rfl | ⟨rfl, rfl⟩ | ⟨rfl, rfl⟩
    · repeat refine y_ ?_
      refine g_region ?_
      refine f_ z_1 ?_
      refine f_ z_1 ?_
      refine r_ (by exact s_load_blk rfl z_2 a20_3) ?_
      refine f_ ((s_neq rfl rfl).eq (v' := .bool true) (by rw [← hq1]; rfl)) ?_
      refine m_ ?_
      (refine gl_guard_no rfl rfl rfl rfl rfl rfl rfl ?_)
      (refine gl_guard_no rfl rfl rfl rfl rfl rfl rfl ?_)
      (refine gl_guard_no rfl rfl rfl rfl rfl rfl rfl ?_)
      (refine gl_guard_no rfl rfl rfl rfl rfl rfl rfl ?_)
      (refine gl_guard_no rfl rfl rfl rfl rfl rfl rfl ?_)
      (refine gl_guard_no rfl rfl rfl rfl rfl rfl rfl ?_)
      refine f_ z_13 ?_
      refine m_ ?_
      (refine gl_guard_no rfl rfl rfl rfl rfl rfl rfl ?_)
      (refine gl_guard_no rfl rfl rfl rfl rfl rfl rfl ?_)
      (refine gl_guard_no rfl rfl rfl rfl rfl rfl rfl ?_)
      refine f_ z_13 ?_
      repeat refine n_ ?_
      exact at_cut j_ i_
    · repeat refine y_ ?_
      refine g_region ?_
      refine f_ z_1 ?_
      refine f_ z_1 ?_
      refine r_ (by exact s_load_blk rfl z_2 a20_3) ?_
      refine f_ ((s_neq rfl rfl).eq (v' := .bool false) (by rw [← hq1]; rfl)) ?_
      refine m_ ?_
      (refine v_ ?_; refine f_ z_1 ?_)
      (refine v_ ?_; refine r_ (by exact s_load_blk rfl z_2 a13_3) ?_)
      (refine v_ ?_; refine f_ z_1 ?_)
      (refine v_ ?_; refine f_ z_1 ?_)
      (refine v_ ?_; refine r_ (by exact s_load_blk rfl z_2 a20_1) ?_)
      (refine v_ ?_; refine f_ ((s_neq rfl rfl).eq (v' := .bool true) (by rw [← hq2]; rfl)) ?_)
      refine f_ z_12 ?_
      refine m_ ?_
      (refine gl_guard_no rfl rfl rfl rfl rfl rfl rfl ?_)
      (refine gl_guard_no rfl rfl rfl rfl rfl rfl rfl ?_)
      (refine gl_guard_no rfl rfl rfl rfl rfl rfl rfl ?_)
      refine f_ z_13 ?_
      repeat refine n_ ?_
      exact at_cut j_ i_
    · repeat refine y_ ?_
      refine g_region ?_
      refine f_ z_1 ?_
      refine f_ z_1 ?_
      refine r_ (by exact s_load_blk rfl z_2 a20_3) ?_
      refine f_ ((s_neq rfl rfl).eq (v' := .bool false) (by rw [← hq1]; rfl)) ?_
      refine m_ ?_
      (refine v_ ?_; refine f_ z_1 ?_)
      (refine v_ ?_; refine r_ (by exact s_load_blk rfl z_2 a13_3) ?_)
      (refine v_ ?_; refine f_ z_1 ?_)
      (refine v_ ?_; refine f_ z_1 ?_)
      (refine v_ ?_; refine r_ (by exact s_load_blk rfl z_2 a20_1) ?_)
      (refine v_ ?_; refine f_ ((s_neq rfl rfl).eq (v' := .bool false) (by rw [← hq2]; rfl)) ?_)
      refine f_ z_12 ?_
      refine m_ ?_
      (refine v_ ?_; refine f_ z_1 ?_)
      (refine v_ ?_; refine r_ ((s_load_blk rfl z_2 a13_7).eq (v' := .bool q3) (by rw [hq3])) ?_)
      (refine v_ ?_; refine f_ (s_not rfl) ?_)
      refine f_ z_12 ?_
      repeat refine n_ ?_
      exact at_cut j_ i_
  obtain ⟨g, hg⟩ : ∃ g, g = grantOk p mp := ⟨_, rfl⟩
  simp only [grantP, grantMs, ← hg]
  cases g
  · rw [if_neg (by decide), if_neg (by decide), List.append_nil]
    repeat refine x_ ?_
    refine r_ ((s_load_blkW rfl z_2 z_7).eq (v' := sdV ⟨p, a, outs, oa, oc, er⟩) rfl) ?_
    (refine gl_store_blkW rfl rfl z_5 z_7 z_7 z_3 ?_)
    repeat refine n_ ?_
    refine g_ret ?_
    exact at_endB rfl rfl z_2 rfl [] ⟨⟨p, a, outs, oa, oc, er⟩, rfl, rfl, rfl, rfl, hc, fun h hp _ => hp⟩ (fun w hw => hw.dropAll)
  rw [if_pos rfl, if_pos rfl]
  obtain ⟨f, hfd⟩ : ∃ f : Int → Bool, f = fun x => inB p.votes x || decide (x = mp.frm) := ⟨_, rfl⟩
  have hvv : pick f 5 = votesL p mp.frm := by rw [hfd]; rfl
  repeat refine x_ ?_
  refine a_ ?_
  repeat refine x_ ?_
  refine a_ ?_
  repeat refine n_ ?_
  refine g_own_nil 3 1 ?_
  refine g_loop (ι := Nat × Option Addr × Nat × List As) (fun i => i.1 ≤ 5) (fun i => [(2, Ptr g2), (3, Ptr g3), (4, Ptr g4), (5, .slice i.2.1 (pick f i.1).length i.2.2.1), (6, .int .i64 ((i.1 : Int) + 1))]) (fun i => OwnC i.2.1 (pick f i.1) i.2.2.1 :: sdO g2 ⟨p, a, outs, oa, oc, er⟩ :: mmO g3 ⟨mp, ea, ec, ka, kc⟩ :: sdZ g4 :: i.2.2.2) (fun i => 5 - i.1) (0, none, 0, []) (Nat.zero_le _) ?_ ?_ ?_
  · (repeat (first | exact Sub.nil _ | refine Sub.cons rfl ?_))
  · intro w hw; exact hw
  rintro ⟨k, b, c, Z⟩ hk
  simp only at hk
  have hpk := pick_le f k
  have hpk2 : (pick f ((k, b, c, Z) : Nat × Option Addr × Nat × List As).1).length ≤ 5 := Nat.le_trans hpk hk
  repeat refine x_ ?_
  refine m_ ?_
  refine f_ ((s_leq rfl rfl).eq (v' := .bool (decide (k < 5))) (congrArg Value.bool (decide_eq_decide.2 (by simp only; omega)))) ?_
  repeat refine n_ ?_
  refine g_cond rfl (fun h => ?_) (fun h => ?_)
  · have hk5 : k < 5 := by simpa using h
    have hkk : ((k, b, c, Z) : Nat × Option Addr × Nat × List As).1 < 5 := hk5
    have hsu := pick_succ f k
    obtain ⟨r1, hr1⟩ : ∃ q, q = inB p.votes ((k : Int) + 1) := ⟨_, rfl⟩
    obtain ⟨r2, hr2⟩ : ∃ q, q = decide ((k : Int) + 1 = mp.frm) := ⟨_, rfl⟩
    have hfk : f ((k : Int) + 1) = (r1 || r2) := by rw [hfd, hr1, hr2]
    repeat refine y_ ?_
    refine g_cutK [(2, Ptr g2), (3, Ptr g3), (4, Ptr g4), (5, .slice b (pick f k).length c), (6, .int .i64 ((k : Int) + 1)), (39, .bool (r1 || r2))] (OwnC b (pick f k) c :: sdO g2 ⟨p, a, outs, oa, oc, er⟩ :: mmO g3 ⟨mp, ea, ec, ka, kc⟩ :: sdZ g4 :: Z) ?_ ?_
    · rcases (show r1 = true ∨ r1 = false by cases r1 <;> simp) with rfl | rfl
      · repeat refine y_ ?_
        refine g_region ?_
        refine f_ z_1 ?_
        refine f_ z_1 ?_
        refine r_ (by exact s_load_blk rfl z_2 a20_13) ?_
        refine m_ ?_
        refine gl_callp rfl (In_ct p.votes ((k : Int) + 1) a.va a.vc (by omega)) (fun h hh _ => (hs.le hh).r.rv) rfl ?_; rw [← hr1]
        refine m_ ?_
        (refine gl_guard_no rfl rfl rfl rfl rfl rfl rfl ?_)
        (refine gl_guard_no rfl rfl rfl rfl rfl rfl rfl ?_)
        (refine gl_guard_no rfl rfl rfl rfl rfl rfl rfl ?_)
        (refine gl_guard_no rfl rfl rfl rfl rfl rfl rfl ?_)
        refine f_ z_13 ?_
        repeat refine n_ ?_
        exact at_cut j_ i_
      · repeat refine y_ ?_
        refine g_region ?_
        refine f_ z_1 ?_
        refine f_ z_1 ?_
        refine r_ (by exact s_load_blk rfl z_2 a20_13) ?_
        refine m_ ?_
        refine gl_callp rfl (In_ct p.votes ((k : Int) + 1) a.va a.vc (by omega)) (fun h hh _ => (hs.le hh).r.rv) rfl ?_; rw [← hr1]
        refine m_ ?_
        (refine v_ ?_; refine m_ ?_)
        (refine v_ ?_; refine f_ z_1 ?_)
        (refine v_ ?_; refine r_ (by exact s_load_blk rfl z_2 a13_1) ?_)
        (refine v_ ?_; refine f_ ((s_eql rfl rfl).eb hr2) ?_)
        refine f_ z_12 ?_
        repeat refine n_ ?_
        exact at_cut j_ i_
    obtain ⟨r3, hr3⟩ : ∃ q, q = (r1 || r2) := ⟨_, rfl⟩
    rw [← hr3] at hfk ⊢
    rw [hfk] at hsu
    cases r3
    · rw [if_neg (by decide), List.append_nil] at hsu
      repeat refine x_ ?_
      refine m_ ?_
      refine f_ ((s_add_i64 rfl rfl (by omega)).eq (v' := .int .i64 (((k + 1 : Nat) : Int) + 1)) rfl) ?_
      refine a_ ?_
      repeat refine n_ ?_
      refine at_next (k + 1, b, c, Z) hk5 (by simp only; omega) ?_ ?_
      · simp only [hsu]; (repeat (first | exact Sub.nil _ | refine Sub.cons rfl ?_))
      · intro w hw; simp only [hsu]; exact hw
    · rw [if_pos rfl] at hsu
      repeat refine x_ ?_
      refine m_ ?_
      refine m_ ?_
      refine gl_buildSliceU rfl rfl rfl rfl rfl rfl (xs := intsV [(k : Int) + 1]) rfl rfl ?_; intro a42 ha42
      refine gl_append (sz := 1) rfl rfl (fun a' c' => z_5) (fun w hw => (hw.ownN z_2).2.2.1) rfl rfl rfl (intsV_one _) (by show (_ + 1) * 8 ≤ _; omega) (by omega) rfl ?_; intro a43 c43 hc43
      refine a_ ?_
      repeat refine x_ ?_
      refine m_ ?_
      refine f_ ((s_add_i64 rfl rfl (by omega)).eq (v' := .int .i64 (((k + 1 : Nat) : Int) + 1)) rfl) ?_
      refine a_ ?_
      repeat refine n_ ?_
      refine at_next (k + 1, a43, c43, .own (.slice a42 1 1) 3 1 (intsV [(k : Int) + 1]) :: Z) hk5 (by simp only; omega) ?_ ?_
      · simp only [hsu, List.length_append, List.length_singleton]; (repeat (first | exact Sub.nil _ | refine Sub.cons rfl ?_))
      · intro w hw
        simp only [hsu, OwnC, intsV_append, List.length_append, List.length_singleton]
        exact hw.perm (perm_up z_2 (perm_up z_2 (perm_up z_2 (perm_up z_2 (perm_up z_2 (.refl _))))))
  have hk5 : k = 5 := by have : ¬ k < 5 := by simpa using h
                         omega
  subst hk5
  simp only [hvv]
  obtain ⟨p1, hp1⟩ : ∃ p1, p1 = grant1 p mp := ⟨_, rfl⟩
  have hp1' : p1 = { p with votes := votesL p mp.frm } := hp1
  have hf1 : PFit p1 := by
    rw [hp1']
    exact ⟨hf.base, hf.len, hf.cl, hf.dat, hf.img, (by have : (votesL p mp.frm).length ≤ 5 := pick_le _ 5; show (votesL p mp.frm).length ≤ _; omega), hf.peers, hf.prs, hf.ticks, hf.term, hf.commit⟩
  have hc1 : p1.l.length ≤ a.lc := by rw [hp1']; exact hc
  have hl1 : p1.l.length ≤ 99999 := by rw [hp1']; exact hl
  have hvl : (votesL p mp.frm).length ≤ 5 := pick_le _ 5
  have hcl : (confL p1).length ≤ 1000000 := hf1.cn (lastI p1.g)
  obtain ⟨a1, ha1⟩ : ∃ a1 : RA, a1 = { a with va := b, vc := c } := ⟨_, rfl⟩
  have hca1 : p1.l.length ≤ a1.lc := by rw [ha1]; exact hc1
  have hok : ∀ h, SdOk h ⟨p, a, outs, oa, oc, er⟩ → (∃ bs, Sat h (OwnC b (votesL p mp.frm) c :: Z) bs) → SdOk h ⟨p1, a1, outs, oa, oc, er⟩ := fun h hp ⟨bs, hb⟩ => by
    rw [hp1', ha1]
    exact ⟨⟨hp.r.rc, hp.r.rl, Sat.rd (a := b) hb .del, hp.r.rp⟩, hp.o, hp.m⟩
  repeat refine x_ ?_
  refine m_ ?_
  refine f_ z_1 ?_
  refine f_ z_1 ?_
  (refine gl_store_blkC (pre := [_, _, _, _, _, _, _, _, _, _, _, _, _]) (post := [_, _, _, _, _, _]) rfl rfl z_5 z_7 z_7 z_7 ?_)
  repeat refine n_ ?_
  refine g_pull (H' := sdO g2 ⟨p1, a1, outs, oa, oc, er⟩ :: sdZ g4 :: OwnC b (votesL p mp.frm) c :: Z) (fun w hw => by rw [hp1', ha1]; exact (hw.upd_same (.there (.there .del))).perm ((List.Perm.swap _ _ _).trans ((List.Perm.swap _ _ _).cons _))) ?_
  obtain ⟨wn, hwn⟩ : ∃ q, q = wins p1 := ⟨_, rfl⟩
  rw [← hp1, ← hwn]
  have hv1 : p1.votes = votesL p mp.frm := by rw [hp1']
  repeat refine x_ ?_
  refine f_ z_1 ?_
  refine r_ ((s_load_blkN rfl z_2 z_7).eq (v' := rsV p1 a1) rfl) ?_
  refine gl_call _ rfl (rMembers_ct p1 a1 hf1 hca1) i_ (fun h hh hb => (hok h (hs.le hh) (sat_tail (sat_tail hb))).r) rfl ?_; rintro v A ⟨ca, cc, rfl, hA⟩; refine gl_rot2 ?_
  refine m_ ?_
  refine gl_callp rfl (rMost_ct (confL p1) (votesL p mp.frm) ca b cc c (by omega) (by omega)) (fun h hh hb => ⟨hA h (hok h (hs.le hh) (Sat.two2 (sat_tail (sat_tail hb))).2).r (Sat.two2 (sat_tail (sat_tail hb))).1, (by obtain ⟨bs, h3⟩ := (Sat.two2 (sat_tail (sat_tail hb))).2; exact Sat.rd (a := b) h3 .del)⟩) rfl ?_; rw [show mostB (confL p1) (votesL p mp.frm) = wn by rw [hwn, wins, hv1]]
  repeat refine n_ ?_
  cases wn
  · rw [if_neg (by decide), if_neg (by decide), List.append_nil]
    repeat refine x_ ?_
    refine r_ ((s_load_blkW rfl z_2 z_7).eq (v' := sdV ⟨p1, a1, outs, oa, oc, er⟩) rfl) ?_
    (refine gl_store_blkW rfl rfl z_5 z_7 z_7 z_3 ?_)
    repeat refine n_ ?_
    refine g_ret ?_
    exact at_endB rfl rfl z_2 rfl (A ++ (OwnC b (votesL p mp.frm) c :: Z)) ⟨⟨p1, a1, outs, oa, oc, er⟩, rfl, rfl, rfl, rfl, hca1, fun h hp hb => hok h hp (Sat.two2 hb).2⟩ (fun w hw => hw.drop.drop)
  · rw [if_pos rfl, if_pos rfl]
    repeat refine x_ ?_
    refine r_ ((s_load_blkW rfl z_2 z_7).eq (v' := sdV ⟨p1, a1, outs, oa, oc, er⟩) rfl) ?_
    refine gl_call _ rfl (rLead_ct ⟨p1, a1, outs, oa, oc, er⟩ hf1 hca1 hl1 ho) i_ (fun h hh hb => hok h (hs.le hh) (Sat.two2 (sat_tail (sat_tail hb))).2) rfl ?_; rintro v A2 hA2; obtain ⟨s2, rfl, hB2⟩ := hA2; refine gl_rot2 ?_
    (refine gl_store_blkW rfl rfl z_5 z_7 z_7 z_3 ?_)
    repeat refine n_ ?_
    refine g_ret ?_
    exact at_endB rfl rfl z_2 rfl (A2 ++ (A ++ (OwnC b (votesL p mp.frm) c :: Z))) (SdP.le _ (A := A2) ⟨s2, rfl, hB2⟩ (fun h hp hb => hok h hp (Sat.two2 hb).2)) (fun w hw => hw.drop.drop)
end Go.Proofs.YtodcghipfolejaaGreat.Rf
namespace Go.Proofs.YtodcghipfolejaaGreat.Rf
open Go Go.Sl
theorem refp_val {p : RP} {a : RA} {r : Mrg} {v : Value} {A : List As} (h : RefP (p.lm a) r v A) : ∃ la lc, v = .tuple #[LM.v ⟨p.base, p.bt, p.conf, r.l, a.ca, a.cc, la, lc⟩, .int .u64 r.at_, .bool r.ok] ∧
  (∀ h, RRd h p a → (∃ bs, Sat h A bs) → RdS h la (enV r.l)) ∧ (∀ F w T, p.l.length ≤ a.lc → Hp F w (A ++ T) → r.l.length ≤ lc) := by
 rcases h with ⟨h1, rfl, rfl⟩ | ⟨la, lc, rfl, rfl⟩
 ·have h1 : r.l = p.l := h1
  refine ⟨a.la, a.lc, by rw [h1], fun h hr _ => by rw [h1]; exact hr.rl, fun F w T hc _ => by rw [h1]; exact hc⟩
 ·exact ⟨la, lc, rfl, fun h hr ⟨bs, hb⟩ => Sat.rd (a := la) hb .del, fun F w T _ hw => (hw.ownN (a := la) .del).2.1⟩
theorem sdTell {s : SD} {to : Int} {m : MM} {Pre : Heap → Prop} {p' : RP} {ms : List MP} {er : Int} {v : Value} {A T : List As} (h : SdP (fun h => SdOk h s ∧ MOk h m) s.p (s.outs.map MM.p ++ [tellM s.p to m.p]) s.er v A) (hp : s.p = p') (ho : s.outs.map MM.p ++ [tellM s.p to m.p] = ms) (he : s.er = er)
  (k : ∀ h, Pre h → (∃ bs, Sat h T bs) → SdOk h s ∧ MOk h m) : SdP Pre p' ms er v (A ++ T) := by
 subst hp ho he
 exact SdP.le T h k
set_option maxRecDepth 16000 in
set_option maxHeartbeats 16000000 in
theorem rTake_ct (s : SD) (m : MM) (hf : PFit s.p) (hm : MFit m.p) (hc : s.p.l.length ≤ s.a.lc) (hl : s.p.l.length ≤ 99000) (ho : s.outs.length ≤ 1000000) : Ct Tryz.prog 75 [sdV s, mmA m] (fun h => SdOk h s ∧ MOk h m) [] (SdP (fun h => SdOk h s ∧ MOk h m) (tkP s.p m.p) (s.outs.map MM.p ++ tkM s.p m.p) s.er) := by
 obtain ⟨p, a, outs, oa, oc, er⟩ := s
 simp only at hf hc hl ho
 have hix := hm.index
 have hel := hm.el
 have hf1 := pf_take1 hf hm hl
 have hg := hf.fit a hc
 have hlast := hf.last
 have hcm := hm.commit
 refine ct_enter 87 Tryz.func75 rfl rfl rfl ?_
 intro F hsm
 have hs := hsm.1
 have hmo := hsm.2
 obtain ⟨r, hr⟩ : ∃ r, r = tkR p m.p := ⟨_, rfl⟩
 repeat refine x_ ?_
 refine gl_boxA rfl rfl ?_; intro g2
 refine gl_boxA rfl rfl ?_; intro g3
 refine gl_allocA rfl ?_; intro g4
 repeat refine n_ ?_
 refine g_pull (H' := [sdO g2 ⟨p, a, outs, oa, oc, er⟩, mmO g3 m, sdZ g4]) (fun w hw => hw.perm (perm_up z_2 (perm_up z_2 (perm_up z_2 (.refl _))))) ?_
 repeat refine x_ ?_
 refine f_ z_1 ?_
 refine f_ z_1 ?_
 refine r_ ((s_load_blkN rfl z_2 z_7).eq (v' := (p.lm a).v) rfl) ?_
 refine gl_callp rfl (rLast_ct (p.lm a) hg) (fun _ _ _ => trivial) rfl ?_; rw [show lastI (p.lm a) = lastI p.g from rfl]
 refine a_ ?_
 repeat refine x_ ?_
 refine f_ z_1 ?_
 refine f_ z_1 ?_
 refine r_ ((s_load_blkN rfl z_2 z_7).eq (v' := (p.lm a).v) rfl) ?_
 refine f_ z_1 ?_
 refine r_ (by exact s_load_blk rfl z_2 a13_4) ?_
 refine f_ z_1 ?_
 refine r_ (by exact s_load_blk rfl z_2 a13_5) ?_
 refine f_ z_1 ?_
 refine r_ (by exact s_load_blk rfl z_2 a13_8) ?_
 refine gl_call _ rfl (rMerge_ct (p.lm a) m.p.index m.p.lt m.p.ents m.ea m.ec hg hix (by omega) hmo.ec) i_ (fun h hh _ => ⟨(hs.le hh).r.rl, hmo.e.le hh⟩) rfl ?_; rw [tk_any, ← hr]; rintro v A hA; obtain ⟨la, lc, rfl, hA1, hA2⟩ := refp_val hA; clear hA; refine gl_rot3 ?_
 refine m_ ?_
 refine f_ (s_extract rfl rfl) ?_
 refine f_ (s_extract rfl rfl) ?_
 refine f_ (s_extract rfl rfl) ?_
 refine gl_allocA rfl ?_; intro g6
 (refine gl_store_blkW rfl rfl z_5 z_7 z_7 z_3 ?_)
 refine a_ ?_
 refine a_ ?_
 repeat refine n_ ?_
 refine g_some (Q := r.l.length ≤ lc) (fun w hw => hA2 F w [] hc (hw.drop.drop.drop.drop)) (fun hcap => ?_)
 repeat refine x_ ?_
 refine m_ ?_
 refine f_ (s_not rfl) ?_
 repeat refine n_ ?_
 cases hok : r.ok
 ·have e1 : tkP p m.p = p := by rw [tkP, ← hr, if_pos (.inl hok)]
  have e2 : tkM p m.p = [ackM p m.p.frm false (min (lastI p.g) (max m.p.index 1 - 1))] := by rw [tkM, ← hr, if_pos hok]
  simp only [e1, e2]
  obtain ⟨ii, hii⟩ : ∃ ii, ii = min (lastI p.g) (max m.p.index 1 - 1) := ⟨_, rfl⟩
  obtain ⟨q, hq⟩ : ∃ q, q = decide (0 < m.p.index) := ⟨_, rfl⟩
  rw [← hii]
  refine g_pull (H' := [sdO g2 ⟨p, a, outs, oa, oc, er⟩, mmO g3 m, sdZ g4]) (fun w hw => Hp.left (A := [sdO g2 ⟨p, a, outs, oa, oc, er⟩, mmO g3 m, sdZ g4]) hw.drop) ?_
  repeat refine x_ ?_
  refine a_ ?_
  repeat refine x_ ?_
  refine f_ z_1 ?_
  refine r_ (by exact s_load_blk rfl z_2 a13_4) ?_
  refine f_ ((s_gtr rfl rfl).eb hq) ?_
  repeat refine n_ ?_
  refine g_cutK [(2, Ptr g2), (3, Ptr g3), (4, Ptr g4), (9, .int .u64 ii)] [sdO g2 ⟨p, a, outs, oa, oc, er⟩, mmO g3 m, sdZ g4] ?_ ?_
  ·cases q
   ·have h0 := of_decide_eq_false hq.symm
    have : ii = 0 := by omega
    rw [this]
    repeat refine y_ ?_
    exact at_cut j_ i_
   ·have h0 := of_decide_eq_true hq.symm
    have e3 : ii = min (min (m.p.index - 1) (lastI p.g)) (lastI p.g) := by omega
    rw [e3]
    repeat refine x_ ?_
    refine f_ z_1 ?_
    refine r_ (by exact s_load_blk rfl z_2 a13_4) ?_
    refine f_ ((s_sub_u64 rfl rfl (by omega)).eq (v' := .int .u64 (m.p.index - 1)) rfl) ?_
    refine m_ ?_
    refine m_ ?_
    refine gl_callp rfl (rLeast_ct (m.p.index - 1) (lastI p.g) (lastI p.g)) (fun _ _ _ => trivial) rfl ?_
    refine a_ ?_
    repeat refine n_ ?_
    exact at_cut j_ i_
  repeat refine x_ ?_
  refine r_ ((s_load_blkW rfl z_2 z_7).eq (v' := sdV ⟨p, a, outs, oa, oc, er⟩) rfl) ?_
  refine f_ z_1 ?_
  refine r_ (by exact s_load_blk rfl z_2 a13_1) ?_
  refine m_ ?_
  refine f_ ((s_bld (cells := (mmC (ackMM false ii)).toArray) rfl z_4).eq (v' := mmA (ackMM false ii)) rfl) ?_
  refine gl_call _ rfl (rTell_ct ⟨p, a, outs, oa, oc, er⟩ m.p.frm (ackMM false ii) hc (by simp only; omega)) i_ (fun h hh _ => ⟨hs.le hh, RdS.nil _ _, RdS.nil _ _, Nat.le_refl _⟩) rfl ?_; rintro v A3 hA3; obtain ⟨s', rfl, hB⟩ := hA3; refine gl_rot3 ?_
  (refine gl_store_blkW rfl rfl z_5 z_7 z_7 z_3 ?_)
  repeat refine n_ ?_
  refine g_ret ?_
  exact at_endB rfl rfl z_2 rfl (A3 ++ []) (sdTell (A := A3) ⟨s', rfl, hB⟩ rfl rfl rfl (fun h hp _ => ⟨hp.1, RdS.nil _ _, RdS.nil _ _, Nat.le_refl _⟩)) (fun w hw => hw.drop.drop.drop)
 have hin := tk_index hf (hr ▸ hok)
 obtain ⟨q1, hq1⟩ : ∃ q, q = decide (0 < r.at_) := ⟨_, rfl⟩
 obtain ⟨q2, hq2⟩ : ∃ q, q = decide (r.at_ ≤ p.commit) := ⟨_, rfl⟩
 obtain ⟨a1, ha1⟩ : ∃ a1 : RA, a1 = { a with la := la, lc := lc } := ⟨_, rfl⟩
 have hcap1 : (take1 p m.p).l.length ≤ a1.lc := by rw [ha1]; show (tkR p m.p).l.length ≤ lc; rw [← hr]; exact hcap
 have hrd1 : ∀ h, RRd h p a → (∃ bs, Sat h A bs) → RRd h (take1 p m.p) a1 := fun h hp hb => by
  have := hA1 h hp hb
  rw [ha1]; exact ⟨hp.rc, (by show RdS h la (enV (tkR p m.p).l); rw [← hr]; exact this), hp.rv, hp.rp⟩
 refine g_pull (H' := sdO g2 ⟨p, a, outs, oa, oc, er⟩ :: mmO g3 m :: sdZ g4 :: lgO g6 ((take1 p m.p).lm a1) :: A) (fun w hw => by rw [List.append_nil] at hw; subst hr ha1; exact hw.perm (perm_up z_2 (perm_up z_2 (perm_up z_2 (perm_up z_2 (.refl _)))))) ?_
 repeat refine y_ ?_
 refine g_cutK [(2, Ptr g2), (3, Ptr g3), (4, Ptr g4), (6, Ptr g6), (55, .bool (q1 && q2))] (sdO g2 ⟨p, a, outs, oa, oc, er⟩ :: mmO g3 m :: sdZ g4 :: lgO g6 ((take1 p m.p).lm a1) :: A) ?_ ?_
 ·cases q1
  ·repeat refine y_ ?_
   refine g_region ?_
   refine m_ ?_
   refine f_ ((s_gtr rfl rfl).eb hq1) ?_
   refine m_ ?_
   (refine gl_guard_no rfl rfl rfl rfl rfl rfl rfl ?_)
   (refine gl_guard_no rfl rfl rfl rfl rfl rfl rfl ?_)
   (refine gl_guard_no rfl rfl rfl rfl rfl rfl rfl ?_)
   (refine gl_guard_no rfl rfl rfl rfl rfl rfl rfl ?_)
   (refine gl_guard_no rfl rfl rfl rfl rfl rfl rfl ?_)
   refine f_ z_12 ?_
   repeat refine n_ ?_
   exact at_cut j_ i_
  ·repeat refine y_ ?_
   refine g_region ?_
   refine m_ ?_
   refine f_ ((s_gtr rfl rfl).eb hq1) ?_
   refine m_ ?_
   (refine v_ ?_; refine m_ ?_)
   (refine v_ ?_; refine f_ z_1 ?_)
   (refine v_ ?_; refine f_ z_1 ?_)
   (refine v_ ?_; refine r_ (by exact s_load_blk rfl z_2 a20_10) ?_)
   (refine v_ ?_; refine f_ ((s_leq rfl rfl).eb hq2) ?_)
   refine f_ z_13 ?_
   repeat refine n_ ?_
   exact at_cut j_ i_
 have hq12 : (q1 && q2) = true ↔ (0 < r.at_ ∧ r.at_ ≤ p.commit) := by rw [Bool.and_eq_true, hq1, hq2, decide_eq_true_eq, decide_eq_true_eq]
 obtain ⟨q, hq⟩ : ∃ q, q = (q1 && q2) := ⟨_, rfl⟩
 rw [← hq] at hq12
 rw [← hq]
 cases q
 rotate_left
 ·have e1 : tkP p m.p = p := by rw [tkP, ← hr, if_pos (.inr (hq12.1 rfl))]
  have e2 : tkM p m.p = [] := by rw [tkM, ← hr, if_neg (by rw [hok]; decide), if_pos (hq12.1 rfl)]
  simp only [e1, e2]
  repeat refine x_ ?_
  refine r_ ((s_load_blkW rfl z_2 z_7).eq (v' := sdV ⟨p, a, outs, oa, oc, er⟩) rfl) ?_
  (refine gl_store_blkW rfl rfl z_5 z_7 z_7 z_3 ?_)
  repeat refine n_ ?_
  refine g_ret ?_
  exact at_endB rfl rfl z_2 rfl [] ⟨⟨p, a, outs, oa, oc, er⟩, rfl, rfl, by rw [List.append_nil], rfl, hc, fun h hp _ => hp.1⟩ (fun w hw => hw.dropAll)
 have hno : ¬ (0 < r.at_ ∧ r.at_ ≤ p.commit) := fun h => by have := hq12.2 h; cases this
 obtain ⟨cc, hcc⟩ : ∃ c, c = min (min m.p.commit (matchI m.p)) (lastI (take1 p m.p).g) := ⟨_, rfl⟩
 have e1 : tkP p m.p = { take1 p m.p with commit := max p.commit cc } := by
  rw [tkP, ← hr, if_neg (by rw [hok]; intro h; rcases h with h | h; cases h; exact hno h), hcc, take1, hr]; rfl
 have e2 : tkM p m.p = [ackM p m.p.frm true (matchI m.p)] := by rw [tkM, ← hr, if_neg (by rw [hok]; decide), if_neg hno]
 simp only [e1, e2]
 have hlt := hf1.last
 have hcm0 := hf.commit
 repeat refine x_ ?_
 refine r_ ((s_load_blkW rfl z_2 z_7).eq (v' := ((take1 p m.p).lm a1).v) rfl) ?_
 refine f_ z_1 ?_
 refine f_ z_1 ?_
 (refine gl_store_blk rfl rfl z_5 z_7 z_3 z_7 ?_)
 repeat refine n_ ?_
 refine g_pull (H' := sdO g2 ⟨take1 p m.p, a1, outs, oa, oc, er⟩ :: mmO g3 m :: sdZ g4 :: lgO g6 ((take1 p m.p).lm a1) :: A) (fun w hw => by subst ha1; exact hw) ?_
 repeat refine x_ ?_
 refine f_ z_1 ?_
 refine r_ (by exact s_load_blk rfl z_2 a13_4) ?_
 refine f_ z_1 ?_
 refine r_ (by exact s_load_blk rfl z_2 a13_8) ?_
 refine f_ (s_len_sl rfl) ?_
 refine f_ (s_conv_keep_u64 rfl (by omega)) ?_
 refine f_ ((s_add_u64 rfl rfl (by omega)).eq (v' := .int .u64 (matchI m.p)) rfl) ?_
 refine a_ ?_
 repeat refine n_ ?_
 refine g_draw ([1, 3], [0, 1, 0, 0, 8, 31, 63], [4, 5]) [mmO g3 m, lgO g6 ((take1 p m.p).lm a1)] 7 rfl ?_
 refine w_ 0 rfl z_1 ?_
 (refine ga_read_k 1 rfl z_11 (s_load_blk rfl .del a13_6) k_ rfl rfl rfl z_4 ?_)
 refine w_ 2 rfl (s_move rfl) ?_
 refine ga_read_k 3 rfl z_9 ((s_load_blkW rfl .del z_7).eq (v' := ((take1 p m.p).lm a1).v) rfl) k_ rfl rfl rfl z_4 ?_
 refine ga_one 4 rfl z_4 ?_
 refine gl_callp rfl (rLast_ct ((take1 p m.p).lm a1) (hf1.fit a1 hcap1)) (fun _ _ _ => trivial) rfl ?_; rw [show lastI ((take1 p m.p).lm a1) = lastI (take1 p m.p).g from rfl]
 refine gl_nil ?_
 refine at_ga (.inr (by exact keeps_of k_)) ?_
 refine ga_one 5 rfl z_4 ?_
 refine gl_callp rfl (rLeast_ct m.p.commit (matchI m.p) (lastI (take1 p m.p).g)) (fun _ _ _ => trivial) rfl ?_; rw [← hcc]
 refine gl_nil ?_
 refine at_ga (.inl z_4) ?_
 refine w_ 6 rfl (s_assign rfl) ?_
 refine ga_done z_4 ?_
 repeat refine y_ ?_
 obtain ⟨q3, hq3⟩ : ∃ q, q = decide (p.commit < cc) := ⟨_, rfl⟩
 repeat refine x_ ?_
 refine m_ ?_
 refine f_ z_1 ?_
 refine f_ z_1 ?_
 refine r_ (by exact s_load_blk rfl z_2 a20_10) ?_
 refine f_ ((s_gtr rfl rfl).eb hq3) ?_
 repeat refine n_ ?_
 obtain ⟨p2, hp2⟩ : ∃ p2 : RP, p2 = { take1 p m.p with commit := max p.commit cc } := ⟨_, rfl⟩
 have hrd2 : ∀ h, RRd h p a → (∃ bs, Sat h A bs) → RRd h p2 a1 := fun h hp hb => by
  have x := hrd1 h hp hb
  rw [hp2]; exact ⟨x.rc, x.rl, x.rv, x.rp⟩
 have hcap2 : p2.l.length ≤ a1.lc := by rw [hp2]; exact hcap1
 rw [← hp2]
 refine g_cutK [(2, Ptr g2), (3, Ptr g3), (4, Ptr g4), (10, .int .u64 (matchI m.p))] (sdO g2 ⟨p2, a1, outs, oa, oc, er⟩ :: mmO g3 m :: sdZ g4 :: A) ?_ ?_
 ·cases q3
  ·have h0 := of_decide_eq_false hq3.symm
   have e3 : max p.commit cc = p.commit := by omega
   have e4 : p2 = take1 p m.p := by rw [hp2, e3]; rfl
   rw [e4]
   repeat refine y_ ?_
   exact at_cut j_ (fun w hw => hw.upd_same (.there (.there (.there .del))))
  ·have h0 := of_decide_eq_true hq3.symm
   have e3 : max p.commit cc = cc := by omega
   rw [e3] at hp2
   repeat refine x_ ?_
   refine m_ ?_
   refine f_ z_1 ?_
   refine f_ z_1 ?_
   (refine gl_store_blkC (pre := [_, _, _, _, _, _, _, _, _, _]) (post := [_, _, _, _, _, _, _, _, _]) rfl rfl z_5 z_7 z_7 z_7 ?_)
   repeat refine n_ ?_
   refine at_cut ?_ (fun w hw => by rw [hp2]; exact hw.upd_same (.there (.there (.there .del))))
   (repeat (first | exact Sub.nil _ | refine Sub.cons rfl ?_))
 repeat refine x_ ?_
 refine r_ ((s_load_blkW rfl z_2 z_7).eq (v' := sdV ⟨p2, a1, outs, oa, oc, er⟩) rfl) ?_
 refine f_ z_1 ?_
 refine r_ (by exact s_load_blk rfl z_2 a13_1) ?_
 refine m_ ?_
 refine f_ ((s_bld (cells := (mmC (ackMM true (matchI m.p))).toArray) rfl z_4).eq (v' := mmA (ackMM true (matchI m.p))) rfl) ?_
 refine gl_call _ rfl (rTell_ct ⟨p2, a1, outs, oa, oc, er⟩ m.p.frm (ackMM true (matchI m.p)) hcap2 (by simp only; omega)) i_ (fun h hh hb => ⟨⟨hrd2 h (hs.le hh).r (sat_tail (sat_tail (sat_tail hb))), (hs.le hh).o, (hs.le hh).m⟩, RdS.nil _ _, RdS.nil _ _, Nat.le_refl _⟩) rfl ?_; rintro v A3 hA3; obtain ⟨s', rfl, hB⟩ := hA3; refine gl_rot3 ?_
 (refine gl_store_blkW rfl rfl z_5 z_7 z_7 z_3 ?_)
 repeat refine n_ ?_
 refine g_ret ?_
 exact at_endB rfl rfl z_2 rfl (A3 ++ A) (sdTell (A := A3) (T := A) ⟨s', rfl, hB⟩ rfl (by rw [hp2]; rfl) rfl (fun h hp hb => ⟨⟨hrd2 h hp.1.r hb, hp.1.o, hp.1.m⟩, RdS.nil _ _, RdS.nil _ _, Nat.le_refl _⟩)) (fun w hw => hw.drop.drop.drop)
end Go.Proofs.YtodcghipfolejaaGreat.Rf
namespace Go.Proofs.YtodcghipfolejaaGreat.Rf
open Go Go.Sl
set_option maxRecDepth 16000 in
set_option maxHeartbeats 16000000 in
theorem rPiece_ct (s : SD) (m : MM) (hf : PFit s.p) (hm : MFit m.p) (hc : s.p.l.length ≤ s.a.lc) (hpc : s.p.piece.length ≤ 1000000000) (ho : s.outs.length ≤ 1000000) : Ct Tryz.prog 76 [sdV s, mmA m] (fun h => SdOk h s ∧ MOk h m) [] (SdP (fun h => SdOk h s ∧ MOk h m) (pcP s.p m.p) (s.outs.map MM.p ++ pcM s.p m.p) s.er) := by
 obtain ⟨p, a, outs, oa, oc, er⟩ := s
 simp only at hf hc ho hpc
 have hix := hm.index
 have hmc := hm.conf
 have hg := hf.fit a hc
 have hoff := hm.off
 refine ct_enter 155 Tryz.func76 rfl rfl rfl ?_
 intro F hsm
 have hs := hsm.1
 have hmo := hsm.2
 obtain ⟨q1, hq1⟩ : ∃ q, q = decide (m.p.size < 0) := ⟨_, rfl⟩
 obtain ⟨q2, hq2⟩ : ∃ q, q = decide (262144 < m.p.size) := ⟨_, rfl⟩
 obtain ⟨q3, hq3⟩ : ∃ q, q = decide (m.p.off < 0) := ⟨_, rfl⟩
 obtain ⟨q4, hq4⟩ : ∃ q, q = decide (m.p.size < m.p.off) := ⟨_, rfl⟩
 obtain ⟨q5, hq5⟩ : ∃ q, q = decide ((4096 : Int) < (m.p.data.length : Nat)) := ⟨_, rfl⟩
 obtain ⟨q6, hq6⟩ : ∃ q, q = decide (m.p.size - m.p.off < (m.p.data.length : Nat)) := ⟨_, rfl⟩
 obtain ⟨q7, hq7⟩ : ∃ q, q = rightB m.p.conf := ⟨_, rfl⟩
 have hbad : pieceBad p m.p = (q1 || (q2 || (q3 || (q4 || (q5 || (q6 || !q7)))))) := by
  have e : decide (min 4096 (m.p.size - m.p.off) < (m.p.data.length : Int)) = (q5 || q6) := by
   rw [hq5, hq6, ← Bool.decide_or]
   exact decide_eq_decide.2 (by omega)
  rw [pieceBad, e, hq1, hq2, hq3, hq4, hq7, Bool.or_assoc]
 have hbs : q1 = false → q2 = false → q3 = false → q4 = false → 0 ≤ m.p.size ∧ m.p.size ≤ 262144 ∧ 0 ≤ m.p.off ∧ m.p.off ≤ m.p.size := by
  rintro rfl rfl rfl rfl
  have h1 := of_decide_eq_false hq1.symm
  have h2 := of_decide_eq_false hq2.symm
  have h3 := of_decide_eq_false hq3.symm
  have h4 := of_decide_eq_false hq4.symm
  omega
 repeat refine x_ ?_
 refine gl_boxA rfl rfl ?_; intro g2
 refine gl_boxA rfl rfl ?_; intro g3
 refine gl_allocA rfl ?_; intro g4
 repeat refine n_ ?_
 refine g_pull (H' := [sdO g2 ⟨p, a, outs, oa, oc, er⟩, mmO g3 m, sdZ g4]) (fun w hw => hw.perm (perm_up z_2 (perm_up z_2 (perm_up z_2 (.refl _))))) ?_
 refine g_cutK [(2, Ptr g2), (3, Ptr g3), (4, Ptr g4), (48, .bool (pieceBad p m.p))] [sdO g2 ⟨p, a, outs, oa, oc, er⟩, mmO g3 m, sdZ g4] ?_ ?_
 ·rw [hbad]
  rcases (show q1 = true ∨ (q1 = false ∧ q2 = true) ∨ (q1 = false ∧ q2 = false ∧ q3 = true) ∨ (q1 = false ∧ q2 = false ∧ q3 = false ∧ q4 = true) ∨ (q1 = false ∧ q2 = false ∧ q3 = false ∧ q4 = false ∧ q5 = true) ∨ (q1 = false ∧ q2 = false ∧ q3 = false ∧ q4 = false ∧ q5 = false ∧ q6 = true) ∨ (q1 = false ∧ q2 = false ∧ q3 = false ∧ q4 = false ∧ q5 = false ∧ q6 = false) by cases q1 <;> cases q2 <;> cases q3 <;> cases q4 <;> cases q5 <;> cases q6 <;> simp) with rfl | ⟨rfl, rfl⟩ | ⟨rfl, rfl, rfl⟩ | ⟨rfl, rfl, rfl, rfl⟩ | ⟨rfl, rfl, rfl, rfl, rfl⟩ | ⟨rfl, rfl, rfl, rfl, rfl, rfl⟩ | ⟨rfl, rfl, rfl, rfl, rfl, rfl⟩
  all_goals
   repeat refine x_ ?_
   refine f_ z_1 ?_
   refine r_ (by exact s_load_blk rfl z_2 a13_11) ?_
   refine f_ ((s_lss rfl rfl).eb hq1) ?_
   refine m_ ?_
   (first | refine gl_guard_no rfl rfl rfl rfl rfl rfl rfl ?_ | (refine v_ ?_; refine f_ z_1 ?_))
   (first | refine gl_guard_no rfl rfl rfl rfl rfl rfl rfl ?_ | (refine v_ ?_; refine r_ (by exact s_load_blk rfl z_2 a13_11) ?_))
   (first | refine gl_guard_no rfl rfl rfl rfl rfl rfl rfl ?_ | (refine v_ ?_; refine f_ ((s_gtr rfl rfl).eb hq2) ?_))
   refine f_ z_6 ?_
   refine m_ ?_
   (first | refine gl_guard_no rfl rfl rfl rfl rfl rfl rfl ?_ | (refine v_ ?_; refine f_ z_1 ?_))
   (first | refine gl_guard_no rfl rfl rfl rfl rfl rfl rfl ?_ | (refine v_ ?_; refine r_ (by exact s_load_blk rfl z_2 a13_10) ?_))
   (first | refine gl_guard_no rfl rfl rfl rfl rfl rfl rfl ?_ | (refine v_ ?_; refine f_ ((s_lss rfl rfl).eb hq3) ?_))
   refine f_ z_6 ?_
   refine m_ ?_
   (first | refine gl_guard_no rfl rfl rfl rfl rfl rfl rfl ?_ | (refine v_ ?_; refine f_ z_1 ?_))
   (first | refine gl_guard_no rfl rfl rfl rfl rfl rfl rfl ?_ | (refine v_ ?_; refine r_ (by exact s_load_blk rfl z_2 a13_10) ?_))
   (first | refine gl_guard_no rfl rfl rfl rfl rfl rfl rfl ?_ | (refine v_ ?_; refine f_ z_1 ?_))
   (first | refine gl_guard_no rfl rfl rfl rfl rfl rfl rfl ?_ | (refine v_ ?_; refine r_ (by exact s_load_blk rfl z_2 a13_11) ?_))
   (first | refine gl_guard_no rfl rfl rfl rfl rfl rfl rfl ?_ | (refine v_ ?_; refine f_ ((s_gtr rfl rfl).eb hq4) ?_))
   refine f_ z_6 ?_
   refine m_ ?_
   (first | refine gl_guard_no rfl rfl rfl rfl rfl rfl rfl ?_ | (refine v_ ?_; refine f_ z_1 ?_))
   (first | refine gl_guard_no rfl rfl rfl rfl rfl rfl rfl ?_ | (refine v_ ?_; refine r_ (by exact s_load_blk rfl z_2 a13_12) ?_))
   (first | refine gl_guard_no rfl rfl rfl rfl rfl rfl rfl ?_ | (refine v_ ?_; refine f_ (s_len_str rfl) ?_))
   (first | refine gl_guard_no rfl rfl rfl rfl rfl rfl rfl ?_ | (refine v_ ?_; refine f_ ((s_gtr rfl rfl).eb hq5) ?_))
   refine f_ z_6 ?_
   refine m_ ?_
   (first | refine gl_guard_no rfl rfl rfl rfl rfl rfl rfl ?_ | (refine v_ ?_; refine f_ z_1 ?_))
   (first | refine gl_guard_no rfl rfl rfl rfl rfl rfl rfl ?_ | (refine v_ ?_; refine r_ (by exact s_load_blk rfl z_2 a13_12) ?_))
   (first | refine gl_guard_no rfl rfl rfl rfl rfl rfl rfl ?_ | (refine v_ ?_; refine f_ (s_len_str rfl) ?_))
   (first | refine gl_guard_no rfl rfl rfl rfl rfl rfl rfl ?_ | (refine v_ ?_; refine f_ z_1 ?_))
   (first | refine gl_guard_no rfl rfl rfl rfl rfl rfl rfl ?_ | (refine v_ ?_; refine r_ (by exact s_load_blk rfl z_2 a13_11) ?_))
   (first | refine gl_guard_no rfl rfl rfl rfl rfl rfl rfl ?_ | (refine v_ ?_; refine f_ z_1 ?_))
   (first | refine gl_guard_no rfl rfl rfl rfl rfl rfl rfl ?_ | (refine v_ ?_; refine r_ (by exact s_load_blk rfl z_2 a13_10) ?_))
   (first | refine gl_guard_no rfl rfl rfl rfl rfl rfl rfl ?_ | (refine v_ ?_; refine f_ (s_sub_i64 rfl rfl (by have := hbs rfl rfl rfl rfl; omega)) ?_))
   (first | refine gl_guard_no rfl rfl rfl rfl rfl rfl rfl ?_ | (refine v_ ?_; refine f_ ((s_gtr rfl rfl).eb hq6) ?_))
   refine f_ z_6 ?_
   refine m_ ?_
   (first | refine gl_guard_no rfl rfl rfl rfl rfl rfl rfl ?_ | (refine v_ ?_; refine f_ z_1 ?_))
   (first | refine gl_guard_no rfl rfl rfl rfl rfl rfl rfl ?_ | (refine v_ ?_; refine r_ (by exact s_load_blk rfl z_2 a13_9) ?_))
   (first | refine gl_guard_no rfl rfl rfl rfl rfl rfl rfl ?_ | (refine v_ ?_; refine gl_callp rfl (rRight_ct m.p.conf m.ka m.kc (by omega)) (fun h hh _ => (hmo.le hh).k) rfl ?_; rw [← hq7]))
   (first | refine gl_guard_no rfl rfl rfl rfl rfl rfl rfl ?_ | (refine v_ ?_; refine f_ (s_not rfl) ?_))
   refine f_ z_6 ?_
   repeat refine n_ ?_
   exact at_cut j_ i_
 obtain ⟨b, hb⟩ : ∃ b, b = pieceBad p m.p := ⟨_, rfl⟩
 rw [← hb]
 cases b
 rotate_left
 ·have e1 : pcP p m.p = p := by rw [pcP, if_pos (.inl hb.symm)]
  have e2 : pcM p m.p = [] := by rw [pcM, if_pos hb.symm]
  simp only [e1, e2]
  repeat refine x_ ?_
  refine r_ ((s_load_blkW rfl z_2 z_7).eq (v' := sdV ⟨p, a, outs, oa, oc, er⟩) rfl) ?_
  (refine gl_store_blkW rfl rfl z_5 z_7 z_7 z_3 ?_)
  repeat refine n_ ?_
  refine g_ret ?_
  exact at_endB rfl rfl z_2 rfl [] ⟨⟨p, a, outs, oa, oc, er⟩, rfl, rfl, by rw [List.append_nil], rfl, hc, fun h hp _ => hp.1⟩ (fun w hw => hw.dropAll)
 have hsz : (0 ≤ m.p.size ∧ m.p.size ≤ 262144 ∧ 0 ≤ m.p.off ∧ m.p.off ≤ m.p.size) ∧ m.p.data.length ≤ 4096 := by
  rw [hbad] at hb
  have hb := hb.symm
  simp only [Bool.or_eq_false_iff] at hb
  obtain ⟨b1, b2, b3, b4, b5, _⟩ := hb
  have h5 := of_decide_eq_false (hq5.symm.trans b5)
  exact ⟨hbs b1 b2 b3 b4, by omega⟩
 obtain ⟨c, hcd⟩ : ∃ c, c = decide (m.p.index ≤ p.commit) := ⟨_, rfl⟩
 repeat refine x_ ?_
 refine f_ z_1 ?_
 refine r_ (by exact s_load_blk rfl z_2 a13_4) ?_
 refine f_ z_1 ?_
 refine f_ z_1 ?_
 refine r_ (by exact s_load_blk rfl z_2 a20_10) ?_
 refine f_ ((s_leq rfl rfl).eb hcd) ?_
 repeat refine n_ ?_
 cases c
 rotate_left
 ·have h1 := of_decide_eq_true hcd.symm
  have e1 : pcP p m.p = p := by rw [pcP, if_pos (.inr (.inl h1))]
  have e2 : pcM p m.p = [ackM p m.p.frm true m.p.index] := by rw [pcM, ← hb, if_neg (by decide), if_pos h1]
  simp only [e1, e2]
  repeat refine x_ ?_
  refine r_ ((s_load_blkW rfl z_2 z_7).eq (v' := sdV ⟨p, a, outs, oa, oc, er⟩) rfl) ?_
  refine f_ z_1 ?_
  refine r_ (by exact s_load_blk rfl z_2 a13_1) ?_
  refine f_ z_1 ?_
  refine r_ (by exact s_load_blk rfl z_2 a13_4) ?_
  refine f_ ((s_bld (cells := (mmC (ackMM true m.p.index)).toArray) rfl z_4).eq (v' := mmA (ackMM true m.p.index)) rfl) ?_
  refine gl_call _ rfl (rTell_ct ⟨p, a, outs, oa, oc, er⟩ m.p.frm (ackMM true m.p.index) hc (by simp only; omega)) i_ (fun h hh _ => ⟨hs.le hh, RdS.nil _ _, RdS.nil _ _, Nat.le_refl _⟩) rfl ?_; rintro v A3 hA3; obtain ⟨s', rfl, hB⟩ := hA3; refine gl_rot3 ?_
  (refine gl_store_blkW rfl rfl z_5 z_7 z_7 z_3 ?_)
  repeat refine n_ ?_
  refine g_ret ?_
  exact at_endB rfl rfl z_2 rfl (A3 ++ []) (sdTell (A := A3) ⟨s', rfl, hB⟩ rfl rfl rfl (fun h hp _ => ⟨hp.1, RdS.nil _ _, RdS.nil _ _, Nat.le_refl _⟩)) (fun w hw => hw.drop.drop.drop)
 have h1 := of_decide_eq_false hcd.symm
 obtain ⟨r1, hr1⟩ : ∃ q, q = decide (p.pix = m.p.index) := ⟨_, rfl⟩
 obtain ⟨r2, hr2⟩ : ∃ q, q = decide (p.pt = m.p.lt) := ⟨_, rfl⟩
 obtain ⟨hv, hhv⟩ : ∃ hv, hv = haveB p m.p := ⟨_, rfl⟩
 have hvl : hv.length ≤ 1000000000 := by
  rw [hhv, haveB]; split
  ·exact hpc
  ·exact Nat.zero_le _
 have hv2 : hv = if (r1 && r2) = true then p.piece else [] := by
  rw [hhv, haveB, hr1, hr2]
  simp only [Bool.and_eq_true, decide_eq_true_eq]
 repeat refine x_ ?_
 refine a_ ?_
 repeat refine n_ ?_
 refine g_cutK [(2, Ptr g2), (3, Ptr g3), (4, Ptr g4), (5, B []), (76, .bool (r1 && r2))] [sdO g2 ⟨p, a, outs, oa, oc, er⟩, mmO g3 m, sdZ g4] ?_ ?_
 ·cases r1
  ·repeat refine y_ ?_
   refine g_region ?_
   refine f_ z_1 ?_
   refine f_ z_1 ?_
   refine r_ (by exact s_load_blk rfl z_2 a20_16) ?_
   refine f_ z_1 ?_
   refine r_ (by exact s_load_blk rfl z_2 a13_4) ?_
   refine f_ ((s_eql rfl rfl).eb hr1) ?_
   refine m_ ?_
   (refine gl_guard_no rfl rfl rfl rfl rfl rfl rfl ?_)
   (refine gl_guard_no rfl rfl rfl rfl rfl rfl rfl ?_)
   (refine gl_guard_no rfl rfl rfl rfl rfl rfl rfl ?_)
   (refine gl_guard_no rfl rfl rfl rfl rfl rfl rfl ?_)
   (refine gl_guard_no rfl rfl rfl rfl rfl rfl rfl ?_)
   (refine gl_guard_no rfl rfl rfl rfl rfl rfl rfl ?_)
   refine f_ z_12 ?_
   repeat refine n_ ?_
   exact at_cut j_ i_
  ·repeat refine y_ ?_
   refine g_region ?_
   refine f_ z_1 ?_
   refine f_ z_1 ?_
   refine r_ (by exact s_load_blk rfl z_2 a20_16) ?_
   refine f_ z_1 ?_
   refine r_ (by exact s_load_blk rfl z_2 a13_4) ?_
   refine f_ ((s_eql rfl rfl).eb hr1) ?_
   refine m_ ?_
   (refine v_ ?_; refine f_ z_1 ?_)
   (refine v_ ?_; refine f_ z_1 ?_)
   (refine v_ ?_; refine r_ (by exact s_load_blk rfl z_2 a20_17) ?_)
   (refine v_ ?_; refine f_ z_1 ?_)
   (refine v_ ?_; refine r_ (by exact s_load_blk rfl z_2 a13_5) ?_)
   (refine v_ ?_; refine f_ ((s_eql rfl rfl).eb hr2) ?_)
   refine f_ z_13 ?_
   repeat refine n_ ?_
   exact at_cut j_ i_
 obtain ⟨r3, hr3⟩ : ∃ q, q = (r1 && r2) := ⟨_, rfl⟩
 rw [← hr3] at hv2 ⊢
 repeat refine y_ ?_
 refine g_cutK [(2, Ptr g2), (3, Ptr g3), (4, Ptr g4), (5, B hv)] [sdO g2 ⟨p, a, outs, oa, oc, er⟩, mmO g3 m, sdZ g4] ?_ ?_
 ·cases r3
  ·rw [if_neg (by decide)] at hv2
   rw [hv2]
   repeat refine y_ ?_
   exact at_cut j_ i_
  ·rw [if_pos rfl] at hv2
   rw [hv2]
   repeat refine x_ ?_
   refine f_ z_1 ?_
   refine f_ z_1 ?_
   refine r_ (by exact s_load_blk rfl z_2 a20_15) ?_
   refine a_ ?_
   repeat refine n_ ?_
   exact at_cut j_ i_
 obtain ⟨r4, hr4⟩ : ∃ q, q = decide (m.p.off = (hv.length : Int)) := ⟨_, rfl⟩
 repeat refine x_ ?_
 refine f_ z_1 ?_
 refine r_ (by exact s_load_blk rfl z_2 a13_10) ?_
 refine m_ ?_
 refine f_ (s_len_str rfl) ?_
 refine f_ ((s_neq rfl rfl).eq (v' := .bool (!r4)) (by rw [hr4])) ?_
 repeat refine n_ ?_
 cases r4
 ·have h2 := of_decide_eq_false hr4.symm
  have e1 : pcP p m.p = p := by rw [pcP, ← hhv, if_pos (.inr (.inr h2))]
  have e2 : pcM p m.p = [gotM p m.p.frm m.p.index (hv.length : Int)] := by rw [pcM, ← hhv, ← hb, if_neg (by decide), if_neg h1, if_pos h2]
  simp only [e1, e2]
  repeat refine x_ ?_
  refine r_ ((s_load_blkW rfl z_2 z_7).eq (v' := sdV ⟨p, a, outs, oa, oc, er⟩) rfl) ?_
  refine f_ z_1 ?_
  refine r_ (by exact s_load_blk rfl z_2 a13_1) ?_
  refine f_ z_1 ?_
  refine r_ (by exact s_load_blk rfl z_2 a13_4) ?_
  refine m_ ?_
  refine f_ (s_len_str rfl) ?_
  refine f_ ((s_bld (cells := (mmC (gotMM m.p.index (hv.length : Nat))).toArray) rfl z_4).eq (v' := mmA (gotMM m.p.index (hv.length : Nat))) rfl) ?_
  refine gl_call _ rfl (rTell_ct ⟨p, a, outs, oa, oc, er⟩ m.p.frm (gotMM m.p.index (hv.length : Nat)) hc (by simp only; omega)) i_ (fun h hh _ => ⟨hs.le hh, RdS.nil _ _, RdS.nil _ _, Nat.le_refl _⟩) rfl ?_; rintro v A3 hA3; obtain ⟨s', rfl, hB⟩ := hA3; refine gl_rot3 ?_
  (refine gl_store_blkW rfl rfl z_5 z_7 z_7 z_3 ?_)
  repeat refine n_ ?_
  refine g_ret ?_
  exact at_endB rfl rfl z_2 rfl (A3 ++ []) (sdTell (A := A3) ⟨s', rfl, hB⟩ rfl rfl rfl (fun h hp _ => ⟨hp.1, RdS.nil _ _, RdS.nil _ _, Nat.le_refl _⟩)) (fun w hw => hw.drop.drop.drop)
 have h2 : m.p.off = (hv.length : Int) := of_decide_eq_true hr4.symm
 obtain ⟨pb, hpb⟩ : ∃ pb, pb = pieceB p m.p := ⟨_, rfl⟩
 have hpb2 : hv ++ m.p.data = pb := by rw [hpb, hhv]; rfl
 obtain ⟨r5, hr5⟩ : ∃ q, q = decide ((pb.length : Int) < m.p.size) := ⟨_, rfl⟩
 repeat refine x_ ?_
 refine m_ ?_
 refine f_ z_1 ?_
 refine r_ (by exact s_load_blk rfl z_2 a13_12) ?_
 refine f_ ((s_add_str rfl rfl (by omega)).eq (v' := B pb) (congrArg B hpb2)) ?_
 refine a_ ?_
 repeat refine x_ ?_
 refine m_ ?_
 refine f_ (s_len_str rfl) ?_
 refine f_ z_1 ?_
 refine r_ (by exact s_load_blk rfl z_2 a13_11) ?_
 refine f_ ((s_lss rfl rfl).eb hr5) ?_
 repeat refine n_ ?_
 have hn : ¬ (pieceBad p m.p = true ∨ m.p.index ≤ p.commit ∨ m.p.off ≠ ((haveB p m.p).length : Int)) := by
  rw [← hhv, ← hb]
  rintro (h | h | h)
  ·cases h
  ·exact h1 h
  ·exact h h2
 cases r5
 rotate_left
 ·have h3 := of_decide_eq_true hr5.symm
  have e1 : pcP p m.p = piece1 p m.p := by rw [pcP, if_neg hn, ← hpb, if_pos h3]
  have e2 : pcM p m.p = [gotM p m.p.frm m.p.index (pb.length : Int)] := by rw [pcM, ← hhv, ← hb, if_neg (by decide), if_neg h1, if_neg (by intro h; exact h h2), ← hpb, if_pos h3]
  have e3 : piece1 p m.p = { p with piece := pb, pix := m.p.index, pt := m.p.lt } := by rw [piece1, hpb]
  obtain ⟨p1, hp1⟩ : ∃ p1, p1 = piece1 p m.p := ⟨_, rfl⟩
  rw [← hp1] at e3
  simp only [e1, e2]
  rw [← hp1]
  repeat refine x_ ?_
  refine m_ ?_
  refine f_ z_1 ?_
  refine f_ z_1 ?_
  (refine gl_store_blkC (pre := [_, _, _, _, _, _, _, _, _, _, _, _, _, _, _]) (post := [_, _, _, _]) rfl rfl z_5 z_7 z_7 z_7 ?_)
  repeat refine x_ ?_
  refine f_ z_1 ?_
  refine r_ (by exact s_load_blk rfl z_2 a13_4) ?_
  refine f_ z_1 ?_
  refine f_ z_1 ?_
  (refine gl_store_blkC (pre := [_, _, _, _, _, _, _, _, _, _, _, _, _, _, _, _]) (post := [_, _, _]) rfl rfl z_5 z_7 z_7 z_7 ?_)
  repeat refine x_ ?_
  refine f_ z_1 ?_
  refine r_ (by exact s_load_blk rfl z_2 a13_5) ?_
  refine f_ z_1 ?_
  refine f_ z_1 ?_
  (refine gl_store_blkC (pre := [_, _, _, _, _, _, _, _, _, _, _, _, _, _, _, _, _]) (post := [_, _]) rfl rfl z_5 z_7 z_7 z_7 ?_)
  repeat refine n_ ?_
  refine g_pull (H' := [sdO g2 ⟨p1, a, outs, oa, oc, er⟩, mmO g3 m, sdZ g4]) (fun w hw => by rw [e3]; exact hw) ?_
  have hok : ∀ h, SdOk h ⟨p, a, outs, oa, oc, er⟩ → SdOk h ⟨p1, a, outs, oa, oc, er⟩ := fun h hp => by rw [e3]; exact ⟨⟨hp.r.rc, hp.r.rl, hp.r.rv, hp.r.rp⟩, hp.o, hp.m⟩
  have hc1 : p1.l.length ≤ a.lc := by rw [e3]; exact hc
  repeat refine x_ ?_
  refine r_ ((s_load_blkW rfl z_2 z_7).eq (v' := sdV ⟨p1, a, outs, oa, oc, er⟩) rfl) ?_
  refine f_ z_1 ?_
  refine r_ (by exact s_load_blk rfl z_2 a13_1) ?_
  refine f_ z_1 ?_
  refine r_ (by exact s_load_blk rfl z_2 a13_4) ?_
  refine m_ ?_
  refine f_ (s_len_str rfl) ?_
  refine f_ ((s_bld (cells := (mmC (gotMM m.p.index (pb.length : Nat))).toArray) rfl z_4).eq (v' := mmA (gotMM m.p.index (pb.length : Nat))) rfl) ?_
  refine gl_call _ rfl (rTell_ct ⟨p1, a, outs, oa, oc, er⟩ m.p.frm (gotMM m.p.index (pb.length : Nat)) hc1 (by simp only; omega)) i_ (fun h hh _ => ⟨hok h (hs.le hh), RdS.nil _ _, RdS.nil _ _, Nat.le_refl _⟩) rfl ?_; rintro v A3 hA3; obtain ⟨s', rfl, hB⟩ := hA3; refine gl_rot3 ?_
  (refine gl_store_blkW rfl rfl z_5 z_7 z_7 z_3 ?_)
  repeat refine n_ ?_
  refine g_ret ?_
  exact at_endB rfl rfl z_2 rfl (A3 ++ []) (sdTell (A := A3) ⟨s', rfl, hB⟩ rfl (by rw [e3]; rfl) rfl (fun h hp _ => ⟨hok h hp.1, RdS.nil _ _, RdS.nil _ _, Nat.le_refl _⟩)) (fun w hw => hw.drop.drop.drop)
 have h3 := of_decide_eq_false hr5.symm
 have e1 : pcP p m.p = piece2 p m.p := by rw [pcP, if_neg hn, ← hpb, if_neg h3]
 have e2 : pcM p m.p = [ackM p m.p.frm true m.p.index] := by rw [pcM, ← hhv, ← hb, if_neg (by decide), if_neg h1, if_neg (by intro h; exact h h2), ← hpb, if_neg h3]
 have e3 : piece2 p m.p = { p with base := m.p.index, bt := m.p.lt, conf := m.p.conf, l := instL p.g m.p.index m.p.lt, img := pb, commit := m.p.index, piece := [], pix := 0, pt := 0 } := by rw [piece2, hpb]
 obtain ⟨p1, hp1⟩ : ∃ p1, p1 = piece2 p m.p := ⟨_, rfl⟩
 rw [← hp1] at e3
 simp only [e1, e2]
 rw [← hp1]
 obtain ⟨il, hil⟩ : ∃ il, il = instL p.g m.p.index m.p.lt := ⟨_, rfl⟩
 rw [← hil] at e3
 repeat refine x_ ?_
 refine f_ z_1 ?_
 refine f_ z_1 ?_
 refine r_ ((s_load_blkN rfl z_2 z_7).eq (v' := (p.lm a).v) rfl) ?_
 refine f_ z_1 ?_
 refine r_ (by exact s_load_blk rfl z_2 a13_4) ?_
 refine f_ z_1 ?_
 refine r_ (by exact s_load_blk rfl z_2 a13_5) ?_
 refine f_ z_1 ?_
 refine r_ (by exact s_load_blk rfl z_2 a13_9) ?_
 refine gl_call _ rfl (rInstall_ct (p.lm a) m.p.index m.p.lt m.p.conf m.ka m.kc hg hix) i_ (fun h hh _ => (hs.le hh).r.rl) rfl ?_; rw [show instL (p.lm a) m.p.index m.p.lt = il from hil.symm]; rintro v A ⟨la, lc, rfl, rfl⟩; refine gl_rot3 ?_
 refine f_ z_1 ?_
 refine f_ z_1 ?_
 (refine gl_store_blk rfl rfl z_5 z_7 z_3 z_7 ?_)
 repeat refine x_ ?_
 refine m_ ?_
 refine f_ z_1 ?_
 refine f_ z_1 ?_
 (refine gl_store_blkC (pre := [_, _, _, _, _, _, _, _, _]) (post := [_, _, _, _, _, _, _, _, _, _]) rfl rfl z_5 z_7 z_7 z_7 ?_)
 repeat refine x_ ?_
 refine f_ z_1 ?_
 refine r_ (by exact s_load_blk rfl z_2 a13_4) ?_
 refine f_ z_1 ?_
 refine f_ z_1 ?_
 (refine gl_store_blkC (pre := [_, _, _, _, _, _, _, _, _, _]) (post := [_, _, _, _, _, _, _, _, _]) rfl rfl z_5 z_7 z_7 z_7 ?_)
 repeat refine x_ ?_
 refine f_ z_1 ?_
 refine f_ z_1 ?_
 (refine gl_store_blkC (pre := [_, _, _, _, _, _, _, _, _, _, _, _, _, _, _]) (post := [_, _, _, _]) rfl rfl z_5 z_7 z_7 z_7 ?_)
 repeat refine x_ ?_
 refine f_ z_1 ?_
 refine f_ z_1 ?_
 (refine gl_store_blkC (pre := [_, _, _, _, _, _, _, _, _, _, _, _, _, _, _, _]) (post := [_, _, _]) rfl rfl z_5 z_7 z_7 z_7 ?_)
 repeat refine x_ ?_
 refine f_ z_1 ?_
 refine f_ z_1 ?_
 (refine gl_store_blkC (pre := [_, _, _, _, _, _, _, _, _, _, _, _, _, _, _, _, _]) (post := [_, _]) rfl rfl z_5 z_7 z_7 z_7 ?_)
 repeat refine n_ ?_
 refine g_pull (H' := sdO g2 ⟨p1, { a with ca := m.ka, cc := m.kc, la := la, lc := lc }, outs, oa, oc, er⟩ :: mmO g3 m :: sdZ g4 :: [OwnL la il lc]) (fun w hw => by rw [List.append_nil] at hw; rw [e3]; exact hw) ?_
 refine g_ownN (a := la) z_2 (fun _ hlc _ => ?_)
 obtain ⟨a1, ha1⟩ : ∃ a1 : RA, a1 = { a with ca := m.ka, cc := m.kc, la := la, lc := lc } := ⟨_, rfl⟩
 rw [← ha1]
 have hok : ∀ h, SdOk h ⟨p, a, outs, oa, oc, er⟩ ∧ MOk h m → (∃ bs, Sat h [OwnL la il lc] bs) → SdOk h ⟨p1, a1, outs, oa, oc, er⟩ := fun h hp ⟨bs, hb⟩ => by
  rw [e3, ha1]
  exact ⟨⟨hp.2.k, Sat.rd (a := la) hb .del, hp.1.r.rv, hp.1.r.rp⟩, hp.1.o, hp.1.m⟩
 have hc1 : p1.l.length ≤ a1.lc := by rw [e3, ha1]; exact hlc
 repeat refine x_ ?_
 refine r_ ((s_load_blkW rfl z_2 z_7).eq (v' := sdV ⟨p1, a1, outs, oa, oc, er⟩) rfl) ?_
 refine f_ z_1 ?_
 refine r_ (by exact s_load_blk rfl z_2 a13_1) ?_
 refine f_ z_1 ?_
 refine r_ (by exact s_load_blk rfl z_2 a13_4) ?_
 refine f_ ((s_bld (cells := (mmC (ackMM true m.p.index)).toArray) rfl z_4).eq (v' := mmA (ackMM true m.p.index)) rfl) ?_
 refine gl_call _ rfl (rTell_ct ⟨p1, a1, outs, oa, oc, er⟩ m.p.frm (ackMM true m.p.index) hc1 (by simp only; omega)) i_ (fun h hh hb => ⟨hok h ⟨hs.le hh, hmo.le hh⟩ (sat_tail (sat_tail (sat_tail hb))), RdS.nil _ _, RdS.nil _ _, Nat.le_refl _⟩) rfl ?_; rintro v A3 hA3; obtain ⟨s', rfl, hB⟩ := hA3; refine gl_rot3 ?_
 (refine gl_store_blkW rfl rfl z_5 z_7 z_7 z_3 ?_)
 repeat refine n_ ?_
 refine g_ret ?_
 exact at_endB rfl rfl z_2 rfl (A3 ++ [OwnL la il lc]) (sdTell (A := A3) ⟨s', rfl, hB⟩ rfl (by rw [e3]; rfl) rfl (fun h hp hb => ⟨hok h hp hb, RdS.nil _ _, RdS.nil _ _, Nat.le_refl _⟩)) (fun w hw => hw.drop.drop.drop)
end Go.Proofs.YtodcghipfolejaaGreat.Rf
namespace Go.Proofs.YtodcghipfolejaaGreat.Rf
open Go Go.Sl
theorem peerI_at {p : RP} {m : MP} {i : Nat} (hr : p.role = 2 ∧ m.term = p.term) (hi : i < p.peers.length) (h : (p.peers.getD i P0).node = m.frm) (hb : ∀ j, j < i → (p.peers.getD j P0).node ≠ m.frm) : peerI p m = (i : Nat) := by
 have h1 : p.peers.findIdx (fun q => decide (q.node = m.frm)) = i := by
  rw [List.findIdx_eq hi]
  refine ⟨?_, fun j hj => ?_⟩
  ·rw [List.getD_eq_getElem?_getD, List.getElem?_eq_getElem hi] at h
   exact decide_eq_true h
  ·have := hb j hj
   rw [List.getD_eq_getElem?_getD, List.getElem?_eq_getElem (by omega)] at this
   exact decide_eq_false this
 rw [peerI, isPeer, peerAt, if_pos hr, h1, if_pos (decide_eq_true hi)]
theorem peerI_none {p : RP} {m : MP} (hb : (p.role = 2 ∧ m.term = p.term) → ∀ j, j < p.peers.length → (p.peers.getD j P0).node ≠ m.frm) : peerI p m = -1 := by
 rw [peerI, isPeer, peerAt]
 by_cases hr : p.role = 2 ∧ m.term = p.term
 ·have := (List.findIdx_eq_length (p := fun q : Pr => decide (q.node = m.frm)) (xs := p.peers)).2 (fun q hq => by
   obtain ⟨j, hj, rfl⟩ := List.mem_iff_getElem.1 hq
   have := hb hr j hj
   rw [List.getD_eq_getElem?_getD, List.getElem?_eq_getElem hj] at this
   exact decide_eq_false this)
  rw [if_pos hr, this, if_neg (by simp)]
 ·rw [if_neg hr, if_neg (by simp)]
set_option maxRecDepth 16000 in
set_option maxHeartbeats 16000000 in
theorem rPeer_ct (p : RP) (a : RA) (m : MM) (hf : PFit p) : Pu Tryz.prog 109 [rsV p a, mmA m] (fun h => RRd h p a) (.int .i64 (peerI p m.p)) := by
 have hpl := hf.peers
 refine ct_enter 35 Tryz.func109 rfl rfl rfl ?_
 intro F hr
 obtain ⟨q1, hq1⟩ : ∃ q, q = decide (p.role = 2) := ⟨_, rfl⟩
 obtain ⟨q2, hq2⟩ : ∃ q, q = decide (p.term = m.p.term) := ⟨_, rfl⟩
 repeat refine x_ ?_
 refine gl_boxA rfl rfl ?_; intro g2
 refine gl_boxA rfl rfl ?_; intro g3
 refine a_ ?_
 repeat refine x_ ?_
 refine a_ ?_
 repeat refine n_ ?_
 refine g_loop (ι := Nat) (fun i => i ≤ p.peers.length ∧ ∀ j, j < i → ((p.role = 2 ∧ m.p.term = p.term) → (p.peers.getD j P0).node ≠ m.p.frm)) (fun i => [(2, Ptr g2), (3, Ptr g3), (5, .int .i64 (i : Nat))]) (fun _ => [rsO g2 p a, mmO g3 m]) (fun i => p.peers.length - i) 0 ⟨Nat.zero_le _, fun j hj => absurd hj (Nat.not_lt_zero _)⟩ ?_ ?_ ?_
 ·(repeat (first | exact Sub.nil _ | refine Sub.cons rfl ?_))
 ·intro w hw; exact hw.perm (perm_up z_2 (perm_up z_2 (.refl _)))
 rintro i ⟨hi, hb⟩
 repeat refine x_ ?_
 refine m_ ?_
 refine f_ z_1 ?_
 refine r_ (by exact s_load_blk rfl z_2 a18_14) ?_
 refine f_ (s_len_sl rfl) ?_
 refine f_ (s_lss rfl rfl) ?_
 repeat refine n_ ?_
 refine g_cond rfl (fun h => ?_) (fun h => ?_)
 rotate_left
 ·have hil : i = p.peers.length := by simp at h; omega
  subst hil
  rw [peerI_none (fun h1 j hj => hb j hj h1)]
  repeat refine x_ ?_
  refine a_ ?_
  repeat refine n_ ?_
  refine g_ret ?_
  exact at_end1 rfl rfl [] ⟨rfl, rfl⟩ (fun _ h => h.dropAll)
 have hil : i < p.peers.length := by simp at h; omega
 have hsome := rdPr_some hr.rp hil
 obtain ⟨q, hqe⟩ : ∃ q, q = p.peers.getD i P0 := ⟨_, rfl⟩
 obtain ⟨q3, hq3⟩ : ∃ q', q' = decide (q.node = m.p.frm) := ⟨_, rfl⟩
 repeat refine y_ ?_
 refine g_cutK [(2, Ptr g2), (3, Ptr g3), (5, .int .i64 (i : Nat)), (33, .bool (q3 && (q1 && q2)))] [rsO g2 p a, mmO g3 m] ?_ ?_
 ·rcases (show q3 = false ∨ (q3 = true ∧ q1 = false) ∨ (q3 = true ∧ q1 = true) by cases q1 <;> cases q3 <;> simp) with rfl | ⟨rfl, rfl⟩ | ⟨rfl, rfl⟩
  all_goals
   repeat refine y_ ?_
   refine g_draw ([1, 5, 7, 11, 16, 18], [0, 1, 0, 7, 15, 31, 0, 64, 255, 511, 1023, 2047, 4095, 8191, 16383, 32767, 65535, 32767, 163839, 524287, 1048575], []) [rsO g2 p a, mmO g3 m] 21 rfl ?_
   refine w_ 0 rfl z_1 ?_
   (refine ga_read_k 1 rfl z_11 (s_load_blk rfl .del a18_14) z_15 rfl rfl rfl z_4 ?_)
   refine w_ 2 rfl (s_move rfl) ?_
   refine w_ 3 rfl (s_indexAddr rfl (by assumption) rfl (by omega)) ?_
   refine w_ 4 rfl z_8 ?_
   refine ga_readF 5 rfl ((s_load1 (v := .int .i64 q.node) rfl (fun w hw => by rw [hqe]; exact rdP0 (hr.rp.le hw.keep) (i := i) (by omega) hil))) z_15 rfl rfl rfl z_4 ?_
   refine w_ 6 rfl z_1 ?_
   (refine ga_read_k 7 rfl z_9 (s_load_blk rfl .del a13_1) z_15 rfl rfl rfl z_4 ?_)
   refine w_ 8 rfl ((s_eql rfl rfl).eb hq3) ?_
   refine w_ 9 rfl (s_move rfl) ?_
   (first | refine s_ 10 ?_ | refine ga_free_g 10 rfl z_1 rfl rfl rfl rfl rfl rfl z_4 ?_)
   (first | refine s_ 11 ?_ | refine ga_read_kg 11 rfl z_11 (s_load_blk rfl .del a18_3) z_15 rfl rfl rfl rfl rfl rfl z_4 ?_)
   (first | refine s_ 12 ?_ | refine ga_free_g 12 rfl ((s_eql rfl rfl).eb hq1) rfl rfl rfl rfl rfl rfl z_4 ?_)
   refine w_ 13 rfl z_6 ?_
   refine w_ 14 rfl (s_move rfl) ?_
   (first | refine s_ 15 ?_ | refine ga_free_g 15 rfl z_1 rfl rfl rfl rfl rfl rfl z_4 ?_)
   (first | refine s_ 16 ?_ | refine ga_read_kg 16 rfl z_11 (s_load_blk rfl .del a18_1) z_15 rfl rfl rfl rfl rfl rfl z_4 ?_)
   (first | refine s_ 17 ?_ | refine ga_free_g 17 rfl z_1 rfl rfl rfl rfl rfl rfl z_4 ?_)
   (first | refine s_ 18 ?_ | refine ga_read_kg 18 rfl z_9 (s_load_blk rfl .del a13_3) z_15 rfl rfl rfl rfl rfl rfl z_4 ?_)
   (first | refine s_ 19 ?_ | refine ga_free_g 19 rfl ((s_eql rfl rfl).eb hq2) rfl rfl rfl rfl rfl rfl z_4 ?_)
   refine w_ 20 rfl z_6 ?_
   refine ga_done z_4 ?_
   repeat refine y_ ?_
   exact at_cut j_ i_
 obtain ⟨b, hbb⟩ : ∃ b, b = (q3 && (q1 && q2)) := ⟨_, rfl⟩
 rw [← hbb]
 cases b
 ·repeat refine y_ ?_
  repeat refine x_ ?_
  refine m_ ?_
  refine f_ (s_add_i64 rfl rfl (by omega)) ?_
  refine a_ ?_
  repeat refine n_ ?_
  refine at_next (i + 1) ⟨by omega, fun j hj => ?_⟩ (by omega) ?_ ?_
  ·rcases Nat.lt_succ_iff_lt_or_eq.1 hj with h4 | rfl
   ·exact hb j h4
   ·rintro ⟨h5, h6⟩
    rw [← hqe]
    intro h7
    rw [hq1, hq2, hq3, decide_eq_true h5, decide_eq_true h6.symm, decide_eq_true h7] at hbb
    cases hbb
  ·(repeat (first | exact Sub.nil _ | refine Sub.cons rfl ?_))
  ·intro w hw; exact hw
 ·have h1 := hbb.symm
  simp only [Bool.and_eq_true] at h1
  obtain ⟨h3, h4, h5⟩ := h1
  rw [h3] at hq3
  rw [h4] at hq1
  rw [h5] at hq2
  have h6 : p.role = 2 ∧ m.p.term = p.term := ⟨of_decide_eq_true hq1.symm, (of_decide_eq_true hq2.symm).symm⟩
  rw [peerI_at h6 hil (by rw [← hqe]; exact of_decide_eq_true hq3.symm) (fun j hj => hb j hj h6)]
  repeat refine x_ ?_
  refine m_ ?_
  refine a_ ?_
  repeat refine n_ ?_
  refine g_ret ?_
  exact at_end1 rfl rfl [] ⟨rfl, rfl⟩ (fun _ h => h.dropAll)
set_option maxRecDepth 16000 in
set_option maxHeartbeats 16000000 in
theorem rPut_ct (l : List Pr) (a : Option Addr) (c : Nat) (i : Nat) (q : Pr) (hi : i < l.length) (hl : l.length ≤ 1000000) : Ct Tryz.prog 110 [.slice a l.length c, .int .i64 (i : Nat), prA q] (fun h => RdS h a (prV l)) [] (PrsP (l.set i q)) := by
 refine ct_enter 16 Tryz.func110 rfl rfl rfl ?_
 intro F hr
 repeat refine x_ ?_
 refine gl_boxA rfl rfl ?_; intro g5
 refine a_ ?_
 repeat refine x_ ?_
 refine gl_buildSlice0 rfl ?_; intro a8
 refine m_ ?_
 refine gl_append (sz := 4) rfl rfl (fun a' c' => z_5) (fun w hw => hr.le hw.keep) (prV_len _) rfl rfl (prV_one _) (by show (0 + l.length) * 32 ≤ 140737488355328; omega) (by omega) rfl ?_; intro a10 c10 hc10
 refine a_ ?_
 repeat refine n_ ?_
 refine g_pull (H' := [OwnP a10 l c10, .blk g5 (.cells (prC q).toArray 100)]) (fun w hw => by simp only [Nat.zero_add, List.nil_append] at hw; exact hw) ?_
 refine g_ownN (a := a10) z_2 (fun _ _ h10 => ?_)
 have hsome : ∃ ad, a10 = some ad := h10 (by omega)
 simp only [Nat.zero_add]
 repeat refine x_ ?_
 refine m_ ?_
 refine m_ ?_
 refine r_ ((s_load_blkW rfl z_2 z_7).eq (v' := prA q) rfl) ?_
 refine f_ (s_indexAddr rfl (by assumption) rfl (by omega)) ?_
 refine gl_store_own (q := 4 * i) (by rw [show 4 * i = ((i : Nat) : Int).toNat * 4 by omega]; rfl) rfl z_5 z_7 (by decide) z_3 (by show 4 * i + 4 ≤ (prV l).length; rw [prV_len]; omega) ?_
 repeat refine x_ ?_
 refine m_ ?_
 refine a_ ?_
 repeat refine n_ ?_
 refine g_ret ?_
 refine at_end1 rfl rfl [OwnP a10 (l.set i q) c10, .blk g5 (.cells (prC q).toArray 100)] ⟨a10, c10, _, by rw [List.length_set], rfl⟩ (fun w hw => ?_)
 have e : putx (prV l) (4 * i) (prC q) = prV (l.set i q) := putx_pr (l := l) (k := i) (j := 0) (y := q) hi (Nat.le_refl 4) rfl
 rw [show (OwnP a10 (l.set i q) c10 : As) = .own (.slice a10 l.length c10) 100 4 (putx (prV l) (4 * i) (prC q)) by rw [e]; show As.own (.slice a10 (l.set i q).length c10) _ _ _ = _; rw [List.length_set]]
 exact hw
end Go.Proofs.YtodcghipfolejaaGreat.Rf
