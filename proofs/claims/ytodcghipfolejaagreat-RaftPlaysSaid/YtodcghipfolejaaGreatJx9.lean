import Derived.Test.YtodcghipfolejaaGreatJx8
set_option linter.unusedVariables false
set_option linter.unusedSimpArgs false
namespace Go.Proofs.YtodcghipfolejaaGreat.Rf
open Go Go.Sl
def propE (p : RP) (ek : Int) (ed : Bs) : Int := if p.role ≠ 2 then 18 else if ek ≠ 2 ∧ ek ≠ 3 then 1 else if 2048 < ed.length then 2 else if 1024 ≤ p.l.length then 7 else if ek = 2 then changesE p ed else 0
def prop1 (p : RP) (ek : Int) (ed : Bs) : RP := { p with l := p.l ++ [(p.term, ek, ed)] }
def prop2 (p : RP) (ek : Int) (ed : Bs) : RP := if ek = 2 then { prop1 p ek ed with peers := peersL (prop1 p ek ed) } else prop1 p ek ed
noncomputable def propP (p : RP) (ek : Int) (ed : Bs) : RP := if propE p ek ed = 0 then commitP (prop2 p ek ed) else p
noncomputable def propM (p : RP) (ek : Int) (ed : Bs) : List MP := if propE p ek ed = 0 then allP (commitP (prop2 p ek ed)) else []
theorem peerOf_cases (p : RP) (n : Int) : peerOf p n = ⟨n, lastI p.g + 1, 0, 0⟩ ∨ peerOf p n ∈ p.peers := by
 unfold peerOf
 generalize (⟨n, lastI p.g + 1, 0, 0⟩ : Pr) = b0
 have key : ∀ (l : List Pr) (b : Pr), l.foldl (fun b q => if q.node = n then q else b) b = b ∨ l.foldl (fun b q => if q.node = n then q else b) b ∈ l := by
  intro l
  induction l with
  | nil => intro b; exact .inl rfl
  | cons q r ih =>
   intro b
   rw [List.foldl_cons]
   rcases ih (if q.node = n then q else b) with h | h
   ·rw [h]
    split
    ·exact .inr (.head _)
    ·exact .inl rfl
   ·exact .inr (.tail _ h)
 exact key p.peers b0
theorem pf_peers {p : RP} (h : PFit p) : PFit { p with peers := peersL p } := by
 refine ⟨h.base, h.len, h.cl, h.dat, h.img, h.votes, peersL_len p h, fun q hq => ?_, h.ticks, h.term, h.commit⟩
 obtain ⟨n, _, rfl⟩ := List.mem_map.1 hq
 rcases peerOf_cases p n with e | e
 ·rw [e]
  have := h.last
  simp only
  omega
 ·exact h.prs _ e
theorem pf_prop1 {p : RP} (h : PFit p) {ek : Int} {ed : Bs} (hl : p.l.length ≤ 99999) (hd : ed.length ≤ 1000000000000) : PFit (prop1 p ek ed) := by
 refine ⟨h.base, ?_, h.cl, fun i hi => ?_, h.img, h.votes, h.peers, h.prs, h.ticks, h.term, h.commit⟩
 ·show (p.l ++ [(p.term, ek, ed)]).length ≤ _
  simp; omega
 ·show ((p.l ++ [((p.term, ek, ed) : Ent)]).getD i E0).2.2.length ≤ _
  replace hi : i < (p.l ++ [((p.term, ek, ed) : Ent)]).length := hi
  rw [List.length_append, List.length_singleton] at hi
  by_cases e : i < p.l.length
  ·rw [List.getD_eq_getElem?_getD, List.getElem?_append_left e, ← List.getD_eq_getElem?_getD]
   exact h.dat i e
  ·have : i = p.l.length := by omega
   subst this
   simpa using hd
theorem pf_prop2 {p : RP} (h : PFit p) {ek : Int} {ed : Bs} (hl : p.l.length ≤ 99999) (hd : ed.length ≤ 1000000000000) : PFit (prop2 p ek ed) := by
 unfold prop2
 split
 ·exact pf_peers (pf_prop1 h hl hd)
 ·exact pf_prop1 h hl hd
set_option maxRecDepth 8000 in
set_option maxHeartbeats 4000000 in
theorem propose_ct (X : Nat) (d : MD) (e : EV) (hf : PFit d.p) (hl : d.p.l.length ≤ 99999) (ho : d.outs.length ≤ 1000000) : Ct Tryz.prog 37 [Ptr X, evA e] (fun _ => True) (mdH X d) (MdP X d (propP d.p e.ek e.ed) (propM d.p e.ek e.ed) (.int .i64 (propE d.p e.ek e.ed))) := by
 obtain ⟨p, a, outs, oa0, oc0⟩ := d
 obtain ⟨kind, m, et, ek, ed, index, img⟩ := e
 simp only at hf hl ho
 refine ct_enter 82 Tryz.func37 rfl rfl rfl ?_
 intro F _
 refine g_ownN (a := a.la) z_2 (fun _ hcap _ => ?_)
 obtain ⟨q1, hq1⟩ : ∃ q, q = decide (p.role = 2) := ⟨_, rfl⟩
 obtain ⟨q2, hq2⟩ : ∃ q, q = decide (ek = 2) := ⟨_, rfl⟩
 obtain ⟨q3, hq3⟩ : ∃ q, q = decide (ek = 3) := ⟨_, rfl⟩
 obtain ⟨q4, hq4⟩ : ∃ q, q = decide ((2048 : Int) < (ed.length : Nat)) := ⟨_, rfl⟩
 obtain ⟨q5, hq5⟩ : ∃ q, q = decide ((1024 : Int) ≤ (p.l.length : Nat)) := ⟨_, rfl⟩
 repeat refine x_ ?_
 refine gl_boxA rfl rfl ?_; intro g3
 refine a_ ?_
 repeat refine n_ ?_
 refine g_draw ([4, 7, 10], [0, 1, 3, 7, 15, 0, 32, 96, 0, 256, 768, 2047, 0, 8191], [12, 13]) [.blk X (mdO ⟨p, a, outs, oa0, oc0⟩), .blk g3 (.cells (evC ⟨kind, m, et, ek, ed, index, img⟩).toArray 53)] 14 rfl ?_
 refine w_ 0 rfl (s_move rfl) ?_
 refine w_ 1 rfl (s_nilCheck rfl) ?_
 refine w_ 2 rfl z_1 ?_
 refine w_ 3 rfl z_1 ?_
 (refine ga_read_k 4 rfl z_11 (s_load_blk rfl .del a19_1) k_ rfl rfl rfl z_4 ?_)
 refine w_ 5 rfl z_1 ?_
 refine w_ 6 rfl z_1 ?_
 (refine ga_read_k 7 rfl z_9 (s_load_blk rfl .del a19_15) k_ rfl rfl rfl z_4 ?_)
 refine w_ 8 rfl z_1 ?_
 refine w_ 9 rfl z_1 ?_
 (refine ga_read_k 10 rfl z_9 (s_load_blk rfl .del a19_16) k_ rfl rfl rfl z_4 ?_)
 refine w_ 11 rfl (s_build rfl (run_build_struct (places := [(0, 1), (1, 1), (2, 1)]) rfl (by intro f hf; simp at hf; rcases hf with rfl | rfl | rfl <;> rfl) rfl)) ?_
 refine ga_one 12 rfl z_4 ?_
 refine gl_allocA rfl ?_; intro g5
 refine gl_nil ?_
 refine at_ga (.inr (by exact keeps_of k_)) ?_
 refine ga_one 13 rfl z_4 ?_
 (refine gl_store_blkW rfl rfl z_5 z_7 z_7 z_3 ?_)
 refine gl_nil ?_
 refine at_ga (.inl z_4) ?_
 refine ga_done z_4 ?_
 repeat refine y_ ?_
 refine g_pull (H' := .blk g5 (.cells #[.int .u64 p.term, .int .i64 ek, B ed] 51) :: mdH X ⟨p, a, outs, oa0, oc0⟩) (fun w hw => hw.upd_same z_2) ?_
 have hfin : ∀ E, propE p ek ed = E → E ≠ 0 → propP p ek ed = p ∧ propM p ek ed = [] := fun E h h0 => ⟨if_neg (by rw [h]; exact h0), if_neg (by rw [h]; exact h0)⟩
 cases q1
 ·have n1 := of_decide_eq_false hq1.symm
  have hE : propE p ek ed = 18 := by rw [propE, if_pos n1]
  obtain ⟨e1, e2⟩ := hfin _ hE (by decide)
  simp only [hE, e1, e2]
  repeat refine x_ ?_
  refine m_ ?_
  refine f_ (s_nilCheck rfl) ?_
  refine f_ z_1 ?_
  refine f_ z_1 ?_
  refine r_ (by exact s_load_blk rfl z_2 a19_3) ?_
  refine f_ ((s_neq rfl rfl).eq (v' := .bool true) (by rw [← hq1]; rfl)) ?_
  refine a_ ?_
  repeat refine x_ ?_
  refine a_ ?_
  repeat refine n_ ?_
  refine g_ret ?_
  exact at_end1 rfl rfl (mdH X ⟨p, a, outs, oa0, oc0⟩ ++ []) (MdP.same X ⟨p, a, outs, oa0, oc0⟩ ⟨p, a, outs, oa0, oc0⟩ _ rfl) (fun w hw => hw.drop)
 have n1 := of_decide_eq_true hq1.symm
 repeat refine x_ ?_
 refine m_ ?_
 refine f_ (s_nilCheck rfl) ?_
 refine f_ z_1 ?_
 refine f_ z_1 ?_
 refine r_ (by exact s_load_blk rfl z_2 a19_3) ?_
 refine f_ ((s_neq rfl rfl).eq (v' := .bool false) (by rw [← hq1]; rfl)) ?_
 refine a_ ?_
 repeat refine n_ ?_
 rcases (show (q2 = false ∧ q3 = false) ∨ q2 = true ∨ (q2 = false ∧ q3 = true) by cases q2 <;> cases q3 <;> simp) with ⟨rfl, rfl⟩ | rfl | ⟨rfl, rfl⟩
 ·have n2 := of_decide_eq_false hq2.symm
  have n3 := of_decide_eq_false hq3.symm
  have hE : propE p ek ed = 1 := by rw [propE, if_neg (by simp [n1]), if_pos ⟨n2, n3⟩]
  obtain ⟨e1, e2⟩ := hfin _ hE (by decide)
  simp only [hE, e1, e2]
  repeat refine x_ ?_
  refine f_ z_1 ?_
  refine r_ (by exact s_load_blk rfl z_2 a3_1) ?_
  refine f_ ((s_neq rfl rfl).eq (v' := .bool true) (by rw [← hq2]; rfl)) ?_
  refine m_ ?_
  (refine v_ ?_; refine f_ z_1 ?_)
  (refine v_ ?_; refine r_ (by exact s_load_blk rfl z_2 a3_1) ?_)
  (refine v_ ?_; refine f_ ((s_neq rfl rfl).eq (v' := .bool true) (by rw [← hq3]; rfl)) ?_)
  refine f_ z_13 ?_
  refine a_ ?_
  repeat refine x_ ?_
  refine a_ ?_
  repeat refine n_ ?_
  refine g_ret ?_
  exact at_end1 rfl rfl (mdH X ⟨p, a, outs, oa0, oc0⟩ ++ []) (MdP.same X ⟨p, a, outs, oa0, oc0⟩ ⟨p, a, outs, oa0, oc0⟩ _ rfl) (fun w hw => hw.drop)
 ·have n2 : ek = 2 := of_decide_eq_true hq2.symm
  have n23 : ¬ (ek ≠ 2 ∧ ek ≠ 3) := fun h => h.1 n2
  repeat refine x_ ?_
  refine f_ z_1 ?_
  refine r_ (by exact s_load_blk rfl z_2 a3_1) ?_
  refine f_ ((s_neq rfl rfl).eq (v' := .bool false) (by rw [← hq2]; rfl)) ?_
  refine m_ ?_
  (refine gl_guard_no rfl rfl rfl rfl rfl rfl rfl ?_)
  (refine gl_guard_no rfl rfl rfl rfl rfl rfl rfl ?_)
  (refine gl_guard_no rfl rfl rfl rfl rfl rfl rfl ?_)
  refine f_ z_12 ?_
  refine a_ ?_
  repeat refine n_ ?_
  cases q4
  rotate_left
  ·have n4 : 2048 < ed.length := by have := of_decide_eq_true hq4.symm; omega
   have hE : propE p ek ed = 2 := by rw [propE, if_neg (by simp [n1]), if_neg n23, if_pos n4]
   obtain ⟨e1, e2⟩ := hfin _ hE (by decide)
   simp only [hE, e1, e2]
   repeat refine x_ ?_
   refine f_ z_1 ?_
   refine r_ (by exact s_load_blk rfl z_2 a3_2) ?_
   refine f_ (s_len_str rfl) ?_
   refine f_ ((s_gtr rfl rfl).eb hq4) ?_
   refine a_ ?_
   repeat refine x_ ?_
   refine a_ ?_
   repeat refine n_ ?_
   refine g_ret ?_
   exact at_end1 rfl rfl (mdH X ⟨p, a, outs, oa0, oc0⟩ ++ []) (MdP.same X ⟨p, a, outs, oa0, oc0⟩ ⟨p, a, outs, oa0, oc0⟩ _ rfl) (fun w hw => hw.drop)
  have n4 : ¬ 2048 < ed.length := by have := of_decide_eq_false hq4.symm; omega
  repeat refine x_ ?_
  refine f_ z_1 ?_
  refine r_ (by exact s_load_blk rfl z_2 a3_2) ?_
  refine f_ (s_len_str rfl) ?_
  refine f_ ((s_gtr rfl rfl).eb hq4) ?_
  refine a_ ?_
  repeat refine n_ ?_
  cases q5
  rotate_left
  ·have n5 : 1024 ≤ p.l.length := by have := of_decide_eq_true hq5.symm; omega
   have hE : propE p ek ed = 7 := by rw [propE, if_neg (by simp [n1]), if_neg n23, if_neg n4, if_pos n5]
   obtain ⟨e1, e2⟩ := hfin _ hE (by decide)
   simp only [hE, e1, e2]
   repeat refine x_ ?_
   refine m_ ?_
   refine f_ (s_nilCheck rfl) ?_
   refine f_ z_1 ?_
   refine f_ z_1 ?_
   refine f_ z_1 ?_
   refine r_ (by exact s_load_blk rfl z_2 a19_8) ?_
   refine f_ (s_len_sl rfl) ?_
   refine f_ ((s_geq rfl rfl).eb hq5) ?_
   refine a_ ?_
   repeat refine x_ ?_
   refine a_ ?_
   repeat refine n_ ?_
   refine g_ret ?_
   exact at_end1 rfl rfl (mdH X ⟨p, a, outs, oa0, oc0⟩ ++ []) (MdP.same X ⟨p, a, outs, oa0, oc0⟩ ⟨p, a, outs, oa0, oc0⟩ _ rfl) (fun w hw => hw.drop)
  have n5 : ¬ 1024 ≤ p.l.length := by have := of_decide_eq_false hq5.symm; omega
  repeat refine x_ ?_
  refine m_ ?_
  refine f_ (s_nilCheck rfl) ?_
  refine f_ z_1 ?_
  refine f_ z_1 ?_
  refine f_ z_1 ?_
  refine r_ (by exact s_load_blk rfl z_2 a19_8) ?_
  refine f_ (s_len_sl rfl) ?_
  refine f_ ((s_geq rfl rfl).eb hq5) ?_
  refine a_ ?_
  repeat refine n_ ?_
  have hE0 : propE p ek ed = changesE p ed := by rw [propE, if_neg (by simp [n1]), if_neg n23, if_neg n4, if_neg n5, if_pos n2]
  obtain ⟨ce, hce⟩ : ∃ c, c = changesE p ed := ⟨_, rfl⟩
  rw [← hce] at hE0
  repeat refine x_ ?_
  refine f_ z_1 ?_
  refine r_ (by exact s_load_blk rfl z_2 a3_1) ?_
  refine f_ ((s_eql rfl rfl).eq (v' := .bool true) (by rw [← hq2])) ?_
  repeat refine x_ ?_
  refine m_ ?_
  refine f_ z_1 ?_
  refine r_ (by exact s_load_blk rfl z_2 a3_2) ?_
  refine gl_call _ rfl (changes_ct X ⟨p, a, outs, oa0, oc0⟩ ed hf hcap (by omega)) i_ (fun h hh ⟨bs, hb⟩ => ⟨Sat.blk hb z_2, Sat.rd (a := a.ca) hb z_2, Sat.rd (a := a.la) hb z_2⟩) rfl ?_; rw [← hce]; rintro v A ⟨rfl, rfl⟩
  refine a_ ?_
  repeat refine n_ ?_
  by_cases h0 : ce ≠ 0
  ·repeat refine y_ ?_
   refine g_region ?_
   refine m_ ?_
   refine f_ ((s_neq rfl rfl).eq (v' := .bool true) (by simp [h0])) ?_
   repeat refine n_ ?_
   have hE : propE p ek ed = ce := hE0
   obtain ⟨e1, e2⟩ := hfin _ hE (by exact h0)
   simp only [hE, e1, e2]
   repeat refine x_ ?_
   refine m_ ?_
   refine a_ ?_
   repeat refine n_ ?_
   refine g_ret ?_
   exact at_end1 rfl rfl (mdH X ⟨p, a, outs, oa0, oc0⟩ ++ []) (MdP.same X ⟨p, a, outs, oa0, oc0⟩ ⟨p, a, outs, oa0, oc0⟩ _ rfl) (fun w hw => hw.drop)
  have h0 : ce = 0 := Classical.not_not.1 h0
  have hE : propE p ek ed = 0 := by rw [hE0, h0]
  repeat refine x_ ?_
  refine m_ ?_
  refine f_ ((s_neq rfl rfl).eq (v' := .bool false) (by simp [h0])) ?_
  repeat refine n_ ?_
  have e1 : propP p ek ed = commitP (prop2 p ek ed) := if_pos hE
  have e2 : propM p ek ed = allP (commitP (prop2 p ek ed)) := if_pos hE
  have hf1 := pf_prop1 (ek := ek) hf hl (show ed.length ≤ 1000000000000 by omega)
  have hf2 := pf_prop2 (ek := ek) hf hl (show ed.length ≤ 1000000000000 by omega)
  have hf3 := pf_commit hf2
  simp only [hE, e1, e2]
  repeat refine y_ ?_
  refine g_draw ([6, 7], [0, 0, 2, 6, 14, 30, 62, 0, 128, 510, 1023, 2047, 4095, 8191, 16383], [8, 9, 14]) [.blk X (mdO ⟨p, a, outs, oa0, oc0⟩), .blk g5 (.cells #[.int .u64 p.term, .int .i64 ek, B ed] 51)] 15 rfl ?_
  refine w_ 0 rfl (s_move rfl) ?_
  refine w_ 1 rfl (s_move rfl) ?_
  refine w_ 2 rfl (s_nilCheck rfl) ?_
  refine w_ 3 rfl z_1 ?_
  refine w_ 4 rfl z_1 ?_
  refine w_ 5 rfl z_1 ?_
  (refine ga_read_k 6 rfl z_11 (s_load_blk rfl .del a19_8) k_ rfl rfl rfl z_4 ?_)
  (refine ga_read_k 7 rfl z_9 (s_load_blkW rfl .del z_7) k_ rfl rfl rfl z_4 ?_)
  refine ga_one 8 rfl z_4 ?_
  refine gl_buildSliceU rfl rfl rfl rfl rfl rfl (xs := entC (p.term, ek, ed)) rfl rfl ?_; intro a67 ha67
  refine gl_nil ?_
  refine at_ga (.inr (by exact keeps_of k_)) ?_
  refine ga_one 9 rfl z_4 ?_
  refine gl_append (sz := 3) rfl rfl (fun a' c' => z_5) (fun w hw => (hw.ownN z_2).2.2.1) rfl rfl rfl (entC_one _) (by show (p.l.length + 1) * 32 ≤ 140737488355328; omega) (by show p.l.length + 1 ≤ 9223372036854775807; omega) rfl ?_; intro a68 c68 hc68
  refine gl_nil ?_
  refine at_ga (.inl z_4) ?_
  refine w_ 10 rfl (s_nilCheck rfl) ?_
  refine w_ 11 rfl z_1 ?_
  refine w_ 12 rfl z_1 ?_
  refine w_ 13 rfl z_1 ?_
  refine ga_one 14 rfl z_4 ?_
  (refine gl_store_blkC (pre := [_, _, _, _, _, _, _, _]) (post := [_, _, _, _, _, _, _, _, _, _]) rfl rfl z_5 z_7 z_7 z_7 ?_)
  refine gl_nil ?_
  refine at_ga (.inl z_4) ?_
  refine ga_done z_4 ?_
  repeat refine y_ ?_
  refine g_pull (H' := .blk g5 (.cells #[.int .u64 p.term, .int .i64 ek, B ed] 51) :: mdH X ⟨prop1 p ek ed, { a with la := a68, lc := c68 }, outs, oa0, oc0⟩) (fun w hw => by rw [prop1, mdH_ent]; exact hw.drop) ?_
  repeat refine x_ ?_
  refine f_ z_1 ?_
  refine r_ (by exact s_load_blk rfl z_2 a3_1) ?_
  refine f_ ((s_eql rfl rfl).eq (v' := .bool true) (by rw [← hq2])) ?_
  repeat refine n_ ?_
  have ep : prop2 p ek ed = { prop1 p ek ed with peers := peersL (prop1 p ek ed) } := if_pos n2
  repeat refine x_ ?_
  refine m_ ?_
  refine gl_call [.blk g5 (.cells #[.int .u64 p.term, .int .i64 ek, B ed] 51)] rfl (peers_ct X ⟨prop1 p ek ed, { a with la := a68, lc := c68 }, outs, oa0, oc0⟩ hf1) (fun w hw => hw.perm (perm_up z_2 (perm_up z_2 (perm_up z_2 (perm_up z_2 (perm_up z_2 (perm_up z_2 (.refl _)))))))) (fun _ _ _ => trivial) rfl ?_; rintro v A ⟨rfl, d2, Z2, e3, o2, rfl, f2⟩
  repeat refine n_ ?_
  rw [← ep] at e3
  obtain ⟨p2, a2, outs2, oa2, oc2⟩ := d2
  simp only at e3
  subst e3
  have l2 := outs_len o2
  simp only [List.length_nil] at l2
  repeat refine x_ ?_
  refine m_ ?_
  refine gl_call (Z2 ++ [.blk g5 (.cells #[.int .u64 p.term, .int .i64 ek, B ed] 51)]) rfl (commit_ct X ⟨prop2 p ek ed, a2, outs2, oa2, oc2⟩ hf2) (fun w hw => by rwa [List.append_assoc] at hw) (fun _ _ _ => trivial) rfl ?_; rintro v A ⟨rfl, d3, Z3, e3, o3, rfl, f3⟩
  repeat refine n_ ?_
  have l3 := outs_len o3
  simp only [List.length_nil] at l3
  obtain ⟨p3, a3, outs3, oa3, oc3⟩ := d3
  simp only at e3 l3
  subst e3
  repeat refine x_ ?_
  refine m_ ?_
  refine gl_call (Z3 ++ (Z2 ++ [.blk g5 (.cells #[.int .u64 p.term, .int .i64 ek, B ed] 51)])) rfl (all_ct X ⟨commitP (prop2 p ek ed), a3, outs3, oa3, oc3⟩ hf3 (by simp only; omega)) (fun w hw => by rwa [List.append_assoc] at hw) (fun _ _ _ => trivial) rfl ?_; rintro v A ⟨rfl, ms, oa4, oc4, Z4, e4, rfl, f4⟩
  repeat refine n_ ?_
  simp only [List.append_nil] at o2 o3
  repeat refine x_ ?_
  refine a_ ?_
  repeat refine n_ ?_
  refine g_ret ?_
  exact at_end1 rfl rfl (mdH X ⟨commitP (prop2 p ek ed), a3, outs3 ++ ms, oa4, oc4⟩ ++ (Z4 ++ (Z3 ++ (Z2 ++ [.blk g5 (.cells #[.int .u64 p.term, .int .i64 ek, B ed] 51)])))) ⟨rfl, ⟨commitP (prop2 p ek ed), a3, outs3 ++ ms, oa4, oc4⟩, _, rfl, by rw [List.map_append, e4, o3, o2], rfl, fun h f hs m hm => by
   obtain ⟨s4, s32⟩ := Sat.two2 hs
   obtain ⟨s3, s2⟩ := Sat.two2 s32
   rcases List.mem_append.1 hm with hm | hm
   ·exact f3 h (f2 h f (Sat.two2 s2).1) s3 m hm
   ·exact f4 h s4 m hm⟩ (fun w hw => by rwa [List.append_assoc] at hw)
 ·have n2 : ¬ ek = 2 := of_decide_eq_false hq2.symm
  have n3 : ek = 3 := of_decide_eq_true hq3.symm
  have n23 : ¬ (ek ≠ 2 ∧ ek ≠ 3) := fun h => h.2 n3
  repeat refine x_ ?_
  refine f_ z_1 ?_
  refine r_ (by exact s_load_blk rfl z_2 a3_1) ?_
  refine f_ ((s_neq rfl rfl).eq (v' := .bool true) (by rw [← hq2]; rfl)) ?_
  refine m_ ?_
  (refine v_ ?_; refine f_ z_1 ?_)
  (refine v_ ?_; refine r_ (by exact s_load_blk rfl z_2 a3_1) ?_)
  (refine v_ ?_; refine f_ ((s_neq rfl rfl).eq (v' := .bool false) (by rw [← hq3]; rfl)) ?_)
  refine f_ z_13 ?_
  refine a_ ?_
  repeat refine n_ ?_
  cases q4
  rotate_left
  ·have n4 : 2048 < ed.length := by have := of_decide_eq_true hq4.symm; omega
   have hE : propE p ek ed = 2 := by rw [propE, if_neg (by simp [n1]), if_neg n23, if_pos n4]
   obtain ⟨e1, e2⟩ := hfin _ hE (by decide)
   simp only [hE, e1, e2]
   repeat refine x_ ?_
   refine f_ z_1 ?_
   refine r_ (by exact s_load_blk rfl z_2 a3_2) ?_
   refine f_ (s_len_str rfl) ?_
   refine f_ ((s_gtr rfl rfl).eb hq4) ?_
   refine a_ ?_
   repeat refine x_ ?_
   refine a_ ?_
   repeat refine n_ ?_
   refine g_ret ?_
   exact at_end1 rfl rfl (mdH X ⟨p, a, outs, oa0, oc0⟩ ++ []) (MdP.same X ⟨p, a, outs, oa0, oc0⟩ ⟨p, a, outs, oa0, oc0⟩ _ rfl) (fun w hw => hw.drop)
  have n4 : ¬ 2048 < ed.length := by have := of_decide_eq_false hq4.symm; omega
  repeat refine x_ ?_
  refine f_ z_1 ?_
  refine r_ (by exact s_load_blk rfl z_2 a3_2) ?_
  refine f_ (s_len_str rfl) ?_
  refine f_ ((s_gtr rfl rfl).eb hq4) ?_
  refine a_ ?_
  repeat refine n_ ?_
  cases q5
  rotate_left
  ·have n5 : 1024 ≤ p.l.length := by have := of_decide_eq_true hq5.symm; omega
   have hE : propE p ek ed = 7 := by rw [propE, if_neg (by simp [n1]), if_neg n23, if_neg n4, if_pos n5]
   obtain ⟨e1, e2⟩ := hfin _ hE (by decide)
   simp only [hE, e1, e2]
   repeat refine x_ ?_
   refine m_ ?_
   refine f_ (s_nilCheck rfl) ?_
   refine f_ z_1 ?_
   refine f_ z_1 ?_
   refine f_ z_1 ?_
   refine r_ (by exact s_load_blk rfl z_2 a19_8) ?_
   refine f_ (s_len_sl rfl) ?_
   refine f_ ((s_geq rfl rfl).eb hq5) ?_
   refine a_ ?_
   repeat refine x_ ?_
   refine a_ ?_
   repeat refine n_ ?_
   refine g_ret ?_
   exact at_end1 rfl rfl (mdH X ⟨p, a, outs, oa0, oc0⟩ ++ []) (MdP.same X ⟨p, a, outs, oa0, oc0⟩ ⟨p, a, outs, oa0, oc0⟩ _ rfl) (fun w hw => hw.drop)
  have n5 : ¬ 1024 ≤ p.l.length := by have := of_decide_eq_false hq5.symm; omega
  repeat refine x_ ?_
  refine m_ ?_
  refine f_ (s_nilCheck rfl) ?_
  refine f_ z_1 ?_
  refine f_ z_1 ?_
  refine f_ z_1 ?_
  refine r_ (by exact s_load_blk rfl z_2 a19_8) ?_
  refine f_ (s_len_sl rfl) ?_
  refine f_ ((s_geq rfl rfl).eb hq5) ?_
  refine a_ ?_
  repeat refine n_ ?_
  have hE : propE p ek ed = 0 := by rw [propE, if_neg (by simp [n1]), if_neg n23, if_neg n4, if_neg n5, if_neg n2]
  repeat refine x_ ?_
  refine f_ z_1 ?_
  refine r_ (by exact s_load_blk rfl z_2 a3_1) ?_
  refine f_ ((s_eql rfl rfl).eq (v' := .bool false) (by rw [← hq2])) ?_
  repeat refine n_ ?_
  have e1 : propP p ek ed = commitP (prop2 p ek ed) := if_pos hE
  have e2 : propM p ek ed = allP (commitP (prop2 p ek ed)) := if_pos hE
  have hf1 := pf_prop1 (ek := ek) hf hl (show ed.length ≤ 1000000000000 by omega)
  have hf2 := pf_prop2 (ek := ek) hf hl (show ed.length ≤ 1000000000000 by omega)
  have hf3 := pf_commit hf2
  simp only [hE, e1, e2]
  repeat refine y_ ?_
  refine g_draw ([6, 7], [0, 0, 2, 6, 14, 30, 62, 0, 128, 510, 1023, 2047, 4095, 8191, 16383], [8, 9, 14]) [.blk X (mdO ⟨p, a, outs, oa0, oc0⟩), .blk g5 (.cells #[.int .u64 p.term, .int .i64 ek, B ed] 51)] 15 rfl ?_
  refine w_ 0 rfl (s_move rfl) ?_
  refine w_ 1 rfl (s_move rfl) ?_
  refine w_ 2 rfl (s_nilCheck rfl) ?_
  refine w_ 3 rfl z_1 ?_
  refine w_ 4 rfl z_1 ?_
  refine w_ 5 rfl z_1 ?_
  (refine ga_read_k 6 rfl z_11 (s_load_blk rfl .del a19_8) k_ rfl rfl rfl z_4 ?_)
  (refine ga_read_k 7 rfl z_9 (s_load_blkW rfl .del z_7) k_ rfl rfl rfl z_4 ?_)
  refine ga_one 8 rfl z_4 ?_
  refine gl_buildSliceU rfl rfl rfl rfl rfl rfl (xs := entC (p.term, ek, ed)) rfl rfl ?_; intro a67 ha67
  refine gl_nil ?_
  refine at_ga (.inr (by exact keeps_of k_)) ?_
  refine ga_one 9 rfl z_4 ?_
  refine gl_append (sz := 3) rfl rfl (fun a' c' => z_5) (fun w hw => (hw.ownN z_2).2.2.1) rfl rfl rfl (entC_one _) (by show (p.l.length + 1) * 32 ≤ 140737488355328; omega) (by show p.l.length + 1 ≤ 9223372036854775807; omega) rfl ?_; intro a68 c68 hc68
  refine gl_nil ?_
  refine at_ga (.inl z_4) ?_
  refine w_ 10 rfl (s_nilCheck rfl) ?_
  refine w_ 11 rfl z_1 ?_
  refine w_ 12 rfl z_1 ?_
  refine w_ 13 rfl z_1 ?_
  refine ga_one 14 rfl z_4 ?_
  (refine gl_store_blkC (pre := [_, _, _, _, _, _, _, _]) (post := [_, _, _, _, _, _, _, _, _, _]) rfl rfl z_5 z_7 z_7 z_7 ?_)
  refine gl_nil ?_
  refine at_ga (.inl z_4) ?_
  refine ga_done z_4 ?_
  repeat refine y_ ?_
  refine g_pull (H' := .blk g5 (.cells #[.int .u64 p.term, .int .i64 ek, B ed] 51) :: mdH X ⟨prop1 p ek ed, { a with la := a68, lc := c68 }, outs, oa0, oc0⟩) (fun w hw => by rw [prop1, mdH_ent]; exact hw.drop) ?_
  repeat refine x_ ?_
  refine f_ z_1 ?_
  refine r_ (by exact s_load_blk rfl z_2 a3_1) ?_
  refine f_ ((s_eql rfl rfl).eq (v' := .bool false) (by rw [← hq2])) ?_
  repeat refine n_ ?_
  have ep : prop2 p ek ed = prop1 p ek ed := if_neg n2
  have hf2' := hf2
  rw [ep] at hf2'
  repeat refine x_ ?_
  refine m_ ?_
  refine gl_call [.blk g5 (.cells #[.int .u64 p.term, .int .i64 ek, B ed] 51)] rfl (commit_ct X ⟨prop1 p ek ed, { a with la := a68, lc := c68 }, outs, oa0, oc0⟩ hf2') (fun w hw => hw.perm (perm_up z_2 (perm_up z_2 (perm_up z_2 (perm_up z_2 (perm_up z_2 (perm_up z_2 (.refl _)))))))) (fun _ _ _ => trivial) rfl ?_; rintro v A ⟨rfl, d3, Z3, e3, o3, rfl, f3⟩
  repeat refine n_ ?_
  rw [← ep] at e3
  have l3 := outs_len o3
  simp only [List.length_nil] at l3
  obtain ⟨p3, a3, outs3, oa3, oc3⟩ := d3
  simp only at e3 l3
  subst e3
  repeat refine x_ ?_
  refine m_ ?_
  refine gl_call (Z3 ++ ([.blk g5 (.cells #[.int .u64 p.term, .int .i64 ek, B ed] 51)])) rfl (all_ct X ⟨commitP (prop2 p ek ed), a3, outs3, oa3, oc3⟩ hf3 (by simp only; omega)) (fun w hw => by rwa [List.append_assoc] at hw) (fun _ _ _ => trivial) rfl ?_; rintro v A ⟨rfl, ms, oa4, oc4, Z4, e4, rfl, f4⟩
  repeat refine n_ ?_
  simp only [List.append_nil] at o3
  repeat refine x_ ?_
  refine a_ ?_
  repeat refine n_ ?_
  refine g_ret ?_
  exact at_end1 rfl rfl (mdH X ⟨commitP (prop2 p ek ed), a3, outs3 ++ ms, oa4, oc4⟩ ++ (Z4 ++ (Z3 ++ ([.blk g5 (.cells #[.int .u64 p.term, .int .i64 ek, B ed] 51)])))) ⟨rfl, ⟨commitP (prop2 p ek ed), a3, outs3 ++ ms, oa4, oc4⟩, _, rfl, by rw [List.map_append, e4, o3], rfl, fun h f hs m hm => by
   obtain ⟨s4, s32⟩ := Sat.two2 hs
   obtain ⟨s3, s2⟩ := Sat.two2 s32
   rcases List.mem_append.1 hm with hm | hm
   ·exact f3 h (f) s3 m hm
   ·exact f4 h s4 m hm⟩ (fun w hw => by rwa [List.append_assoc] at hw)
end Go.Proofs.YtodcghipfolejaaGreat.Rf
namespace Go.Proofs.YtodcghipfolejaaGreat.Rf
open Go Go.Sl
abbrev fnF (f : FuncId) : Value := .func (.func f) #[] #[]
abbrev fns : Array Value := #[.nilFunc, fnF 35, fnF 36, fnF 37, fnF 38]
def StP (p' : RP) (new : List MP) (e : Int) (v : Value) (A : List As) : Prop := ∃ a' outs oa oc Z, v = .tuple #[rsV p' a', .slice oa outs.length oc, .int .i64 e] ∧ outs.map MM.p = new ∧ A = OwnS p' a' ++ (OwnM oa outs oc :: Z) ∧ ∀ h, (∃ bs, Sat h Z bs) → ∀ m ∈ outs, MOk h m
theorem perm_st {α : Type} (g8 g2 g3 g4 : α) (M : List α) : (M ++ [g8, g2, g3, g4]).Perm ((g4 :: g2 :: M) ++ [g8, g3]) := by
 refine List.perm_append_comm.trans ?_
 have h : ([g8, g2, g3, g4] : List α).Perm [g8, g3, g4, g2] := ((List.Perm.swap g3 g2 [g4]).trans ((List.Perm.swap g4 g2 []).cons g3)).cons g8
 refine (h.append_right M).trans ?_
 exact List.perm_append_comm (l₁ := [g8, g3]) (l₂ := g4 :: g2 :: M)
set_option maxRecDepth 8000 in
set_option maxHeartbeats 4000000 in
theorem Step_of (p : RP) (a : RA) (e : EV) (k f : Nat) (p' : RP) (new : List MP) (er : Int) (hf : PFit p) (hk : e.kind = (k : Nat)) (hk4 : 1 ≤ k ∧ k ≤ 4) [hF : HF Tryz.prog f] (hfn : fns[k]? = some (fnF f)) (EvOk : Heap → Prop) (hle : ∀ h h', Heap.le h h' → EvOk h → EvOk h')
  (hm : ∀ X d, d.p = p → d.outs = [] → Ct Tryz.prog f [Ptr X, evA e] EvOk (mdH X d) (MdP X d p' new (.int .i64 er))) :
  Ct Tryz.prog 16 [rsV p a, evA e] (fun h => RRd h p a ∧ EvOk h) [] (StP (if er = 0 then p' else p) (if er = 0 then new else []) er) := by
 refine ct_enter 47 Tryz.func16 rfl rfl rfl ?_
 intro F hF2
 have hr := hF2.1
 have hev := hF2.2
 repeat refine x_ ?_
 refine gl_boxA rfl rfl ?_; intro g2
 refine gl_boxA rfl rfl ?_; intro g3
 refine gl_allocA rfl ?_; intro g4
 refine a_ ?_
 refine a_ ?_
 repeat refine x_ ?_
 refine r_ ((s_load_blkW rfl z_2 z_7).eq (v' := rsV p a) rfl) ?_
 refine gl_call _ rfl (rclone_ct p a hf.sm) i_ (fun h hh _ => hr.le hh) rfl ?_; rintro v A ⟨a1, rfl, rfl⟩
 refine f_ ((s_bld (cells := #[.int .i64 p.id, .int .u64 p.term, .int .i64 p.vote, .int .i64 p.role, .int .i64 p.leader, .int .u64 p.base, .int .u64 p.bt, .slice a1.ca p.conf.length a1.cc, .slice a1.la p.l.length a1.lc, B p.img, .int .u64 p.commit, .int .i64 p.ticks, .int .i64 p.tout, .slice a1.va p.votes.length a1.vc, .slice a1.pa p.peers.length a1.pc, B p.piece, .int .u64 p.pix, .int .u64 p.pt, .slice none 0 0]) rfl z_4)) ?_
 refine gl_boxA rfl rfl ?_; intro g13
 refine a_ ?_
 repeat refine n_ ?_
 refine g_own_nil 38 13 ?_
 refine g_pull (H' := mdH g13 ⟨p, a1, [], none, 0⟩ ++ [.blk g2 (.cells (rsC p a).toArray 49), .blk g3 (.cells (evC e).toArray 53), .blk g4 (.cells (rsC rp0 RA0).toArray 49)]) (fun w hw => hw.perm (perm_up z_2 (perm_up z_2 (perm_up z_2 (perm_up z_2 (perm_up z_2 (perm_up z_2 (perm_up z_2 (perm_up z_2 (perm_up z_2 (.refl _))))))))))) ?_
 have hk1 : (1 : Int) ≤ e.kind ∧ e.kind ≤ 4 := by omega
 repeat refine x_ ?_
 refine f_ (s_build rfl (v := .agg fns) (fun w => by kernel_rfl)) ?_
 refine gl_allocA rfl ?_; intro g8
 (refine gl_store_blkW rfl rfl z_5 z_7 z_7 z_3 ?_)
 repeat refine x_ ?_
 refine f_ z_1 ?_
 refine r_ (by exact s_load_blk rfl z_2 a19_0) ?_
 refine f_ ((s_lss rfl rfl).eq (v' := .bool false) (congrArg Value.bool (decide_eq_false (by omega)))) ?_
 refine m_ ?_
 (refine v_ ?_; refine f_ z_1 ?_)
 (refine v_ ?_; refine r_ (by exact s_load_blk rfl z_2 a19_0) ?_)
 (refine v_ ?_; refine f_ ((s_geq rfl rfl).eq (v' := .bool false) (congrArg Value.bool (decide_eq_false (by omega)))) ?_)
 refine f_ z_12 ?_
 repeat refine n_ ?_
 refine g_draw ([1, 3, 5], [0, 1, 3, 7, 0, 0, 63, 127], [6]) [.blk g3 (.cells (evC e).toArray 53), .blk g8 (.cells fns 94)] 8 rfl ?_
 refine w_ 0 rfl z_1 ?_
 (refine ga_read_k 1 rfl z_11 (s_load_blk rfl .del a19_0) k_ rfl rfl rfl z_4 ?_)
 refine w_ 2 rfl (s_indexAddr_arr rfl rfl (by omega)) ?_
 refine ga_read_k 3 rfl z_9 (s_load_blk rfl .del (by rw [show 0 + e.kind.toNat * 1 = k by omega]; exact hfn)) k_ rfl rfl rfl z_4 ?_
 refine w_ 4 rfl (s_move rfl) ?_
 refine ga_read_k 5 rfl z_11 ((s_load_blkW rfl .del z_7).eq (v' := evA e) rfl) k_ rfl rfl rfl z_4 ?_
 refine ga_one 6 rfl z_4 ?_
 refine gl_callv [.blk g8 (.cells fns 94), .blk g2 (.cells (rsC p a).toArray 49), .blk g3 (.cells (evC e).toArray 53), .blk g4 (.cells (rsC rp0 RA0).toArray 49)] rfl rfl (ps := []) (qs := []) rfl (hm g13 ⟨p, a1, [], none, 0⟩ rfl rfl) (fun w hw => hw.perm (perm_up z_2 (perm_up z_2 (perm_up z_2 (perm_up z_2 (perm_up z_2 (perm_up z_2 (.refl _)))))))) (fun h hh _ => hle _ _ hh hev) rfl ?_; rintro v A ⟨rfl, d2, Z2, e2, o2, rfl, f2⟩
 refine gl_nil ?_
 refine at_ga (.inl z_4) ?_
 refine w_ 7 rfl (s_assign rfl) ?_
 refine ga_done z_4 ?_
 repeat refine y_ ?_
 refine g_pull (H' := .blk g4 (.cells (rsC rp0 RA0).toArray 49) :: .blk g2 (.cells (rsC p a).toArray 49) :: (mdH g13 d2 ++ Z2)) (fun w hw => Hp.left (R := [.blk g8 (.cells fns 94), .blk g3 (.cells (evC e).toArray 53)]) (hw.perm (perm_st ..))) ?_
 by_cases h0 : er = 0
 ·rw [if_pos h0, if_pos h0]
  repeat refine x_ ?_
  refine m_ ?_
  refine f_ ((s_neq rfl rfl).eq (v' := .bool false) (by simp [h0])) ?_
  repeat refine n_ ?_
  refine g_draw ([3, 7], [0, 1, 3, 7, 0, 16, 48, 112, 15, 511, 1023], [8]) [.blk g13 (mdO d2)] 11 rfl ?_
  refine w_ 0 rfl (s_move rfl) ?_
  refine w_ 1 rfl (s_nilCheck rfl) ?_
  refine w_ 2 rfl z_1 ?_
  refine ga_read_k 3 rfl z_11 ((s_load_blkN rfl .del z_7).eq (v' := rsV d2.p d2.a) rfl) k_ rfl rfl rfl z_4 ?_
  refine w_ 4 rfl (s_move rfl) ?_
  refine w_ 5 rfl (s_nilCheck rfl) ?_
  refine w_ 6 rfl z_1 ?_
  (refine ga_read_k 7 rfl z_11 (s_load_blk rfl .del a19_18) k_ rfl rfl rfl z_4 ?_)
  refine ga_one 8 rfl z_4 ?_
  (refine gl_store_blkW rfl rfl z_5 z_7 z_7 z_3 ?_)
  refine gl_nil ?_
  refine at_ga (.inr (by exact keeps_of k_)) ?_
  refine w_ 9 rfl (s_assign rfl) ?_
  refine w_ 10 rfl (s_assign rfl) ?_
  refine ga_done z_4 ?_
  repeat refine y_ ?_
  refine g_ret ?_
  exact at_endB2 rfl rfl rfl rfl z_2 rfl (OwnS p' d2.a ++ (OwnM d2.oa d2.outs d2.oc :: Z2)) ⟨d2.a, d2.outs, d2.oa, d2.oc, Z2, by rw [h0, ← e2], by simpa using o2, rfl, fun h hs m hm => f2 h (fun _ hx => by cases hx) hs m hm⟩ (fun w hw => by rw [← e2]; exact hw.drop.drop.drop)
 ·rw [if_neg h0, if_neg h0]
  repeat refine x_ ?_
  refine m_ ?_
  refine f_ ((s_neq rfl rfl).eq (v' := .bool true) (by simp [h0])) ?_
  repeat refine x_ ?_
  refine r_ ((s_load_blkW rfl z_2 z_7).eq (v' := rsV p a) rfl) ?_
  refine gl_call _ rfl (rclone_ct p a hf.sm) i_ (fun h hh _ => hr.le hh) rfl ?_; rintro v A ⟨a3, rfl, rfl⟩
  refine m_ ?_
  (refine gl_store_blkW rfl rfl z_5 z_7 z_7 z_3 ?_)
  refine a_ ?_
  refine a_ ?_
  repeat refine n_ ?_
  refine g_ret ?_
  refine g_end_own 38 13 ?_
  exact at_endB2 rfl rfl rfl rfl z_2 rfl (OwnS p a3 ++ (OwnM none [] 0 :: [])) ⟨a3, [], none, 0, [], rfl, rfl, rfl, fun h _ m hm => by cases hm⟩ (fun w hw => Hp.left (hw.perm (perm_up z_2 (perm_up z_2 (perm_up z_2 (perm_up z_2 (perm_up z_2 (.refl _))))))))
end Go.Proofs.YtodcghipfolejaaGreat.Rf
namespace Go.Proofs.YtodcghipfolejaaGreat.Rf
open Go Go.Sl
theorem rdQ {F : Snap} {w : World} {H : List As} {a : Option Addr} {l : List Pr} {q i : Nat} (hw : Hp F w H) (r : RdS F.heap a (prV l)) (h : q = 4 * i) (hi : i < l.length) : PeekC (hp w) (addO a q) (prC (l.getD i P0)) := rec_rdN (C := prC) (r.le hw.keep) prC_len (by decide) P0 h hi
theorem same_self (p : RP) (a b : RA) : sameLg (p.lm a) (p.lm b) = true := by simp [sameLg]
set_option maxRecDepth 16000 in
set_option maxHeartbeats 4000000 in
theorem Same_ct (p : RP) (a b : RA) (hs : PSm p) : Pu Tryz.prog 18 [rsV p a, rsV p b] (fun h => RRd h p a ∧ RRd h p b) (.bool true) := by
 have h1 := hs.conf
 have h2 := hs.l
 have h3 := hs.votes
 have h4 := hs.peers
 refine ct_enter 129 Tryz.func18 rfl rfl rfl ?_
 intro F hF
 have ha := hF.1
 have hb := hF.2
 repeat refine x_ ?_
 refine gl_boxA rfl rfl ?_; intro g2
 refine gl_boxA rfl rfl ?_; intro g3
 refine a_ ?_
 repeat refine x_ ?_
 refine f_ z_1 ?_
 refine r_ (by exact s_load_blk rfl z_2 a18_0) ?_
 refine f_ z_1 ?_
 refine r_ (by exact s_load_blk rfl z_2 a18_0) ?_
 refine f_ ((s_neq rfl rfl).eq (v' := .bool false) (by simp)) ?_
 refine m_ ?_
 (refine v_ ?_; refine f_ z_1 ?_)
 (refine v_ ?_; refine r_ (by exact s_load_blk rfl z_2 a18_1) ?_)
 (refine v_ ?_; refine f_ z_1 ?_)
 (refine v_ ?_; refine r_ (by exact s_load_blk rfl z_2 a18_1) ?_)
 (refine v_ ?_; refine f_ ((s_neq rfl rfl).eq (v' := .bool false) (by simp)) ?_)
 refine f_ z_12 ?_
 refine m_ ?_
 (refine v_ ?_; refine f_ z_1 ?_)
 (refine v_ ?_; refine r_ (by exact s_load_blk rfl z_2 a18_2) ?_)
 (refine v_ ?_; refine f_ z_1 ?_)
 (refine v_ ?_; refine r_ (by exact s_load_blk rfl z_2 a18_2) ?_)
 (refine v_ ?_; refine f_ ((s_neq rfl rfl).eq (v' := .bool false) (by simp)) ?_)
 refine f_ z_12 ?_
 refine m_ ?_
 (refine v_ ?_; refine f_ z_1 ?_)
 (refine v_ ?_; refine r_ (by exact s_load_blk rfl z_2 a18_3) ?_)
 (refine v_ ?_; refine f_ z_1 ?_)
 (refine v_ ?_; refine r_ (by exact s_load_blk rfl z_2 a18_3) ?_)
 (refine v_ ?_; refine f_ ((s_neq rfl rfl).eq (v' := .bool false) (by simp)) ?_)
 refine f_ z_12 ?_
 refine m_ ?_
 (refine v_ ?_; refine f_ z_1 ?_)
 (refine v_ ?_; refine r_ (by exact s_load_blk rfl z_2 a18_4) ?_)
 (refine v_ ?_; refine f_ z_1 ?_)
 (refine v_ ?_; refine r_ (by exact s_load_blk rfl z_2 a18_4) ?_)
 (refine v_ ?_; refine f_ ((s_neq rfl rfl).eq (v' := .bool false) (by simp)) ?_)
 refine f_ z_12 ?_
 refine m_ ?_
 (refine v_ ?_; refine f_ z_1 ?_)
 (refine v_ ?_; refine r_ (by exact s_load_blk rfl z_2 a18_9) ?_)
 (refine v_ ?_; refine f_ z_1 ?_)
 (refine v_ ?_; refine r_ (by exact s_load_blk rfl z_2 a18_9) ?_)
 (refine v_ ?_; refine f_ ((s_neq_str rfl rfl).eq (v' := .bool false) (by simp)) ?_)
 refine f_ z_12 ?_
 refine m_ ?_
 (refine v_ ?_; refine f_ z_1 ?_)
 (refine v_ ?_; refine r_ (by exact s_load_blk rfl z_2 a18_10) ?_)
 (refine v_ ?_; refine f_ z_1 ?_)
 (refine v_ ?_; refine r_ (by exact s_load_blk rfl z_2 a18_10) ?_)
 (refine v_ ?_; refine f_ ((s_neq rfl rfl).eq (v' := .bool false) (by simp)) ?_)
 refine f_ z_12 ?_
 refine m_ ?_
 (refine v_ ?_; refine f_ z_1 ?_)
 (refine v_ ?_; refine r_ (by exact s_load_blk rfl z_2 a18_11) ?_)
 (refine v_ ?_; refine f_ z_1 ?_)
 (refine v_ ?_; refine r_ (by exact s_load_blk rfl z_2 a18_11) ?_)
 (refine v_ ?_; refine f_ ((s_neq rfl rfl).eq (v' := .bool false) (by simp)) ?_)
 refine f_ z_12 ?_
 refine m_ ?_
 (refine v_ ?_; refine f_ z_1 ?_)
 (refine v_ ?_; refine r_ (by exact s_load_blk rfl z_2 a18_12) ?_)
 (refine v_ ?_; refine f_ z_1 ?_)
 (refine v_ ?_; refine r_ (by exact s_load_blk rfl z_2 a18_12) ?_)
 (refine v_ ?_; refine f_ ((s_neq rfl rfl).eq (v' := .bool false) (by simp)) ?_)
 refine f_ z_12 ?_
 refine m_ ?_
 (refine v_ ?_; refine f_ z_1 ?_)
 (refine v_ ?_; refine r_ (by exact s_load_blk rfl z_2 a18_15) ?_)
 (refine v_ ?_; refine f_ z_1 ?_)
 (refine v_ ?_; refine r_ (by exact s_load_blk rfl z_2 a18_15) ?_)
 (refine v_ ?_; refine f_ ((s_neq_str rfl rfl).eq (v' := .bool false) (by simp)) ?_)
 refine f_ z_12 ?_
 refine m_ ?_
 (refine v_ ?_; refine f_ z_1 ?_)
 (refine v_ ?_; refine r_ (by exact s_load_blk rfl z_2 a18_16) ?_)
 (refine v_ ?_; refine f_ z_1 ?_)
 (refine v_ ?_; refine r_ (by exact s_load_blk rfl z_2 a18_16) ?_)
 (refine v_ ?_; refine f_ ((s_neq rfl rfl).eq (v' := .bool false) (by simp)) ?_)
 refine f_ z_12 ?_
 refine m_ ?_
 (refine v_ ?_; refine f_ z_1 ?_)
 (refine v_ ?_; refine r_ (by exact s_load_blk rfl z_2 a18_17) ?_)
 (refine v_ ?_; refine f_ z_1 ?_)
 (refine v_ ?_; refine r_ (by exact s_load_blk rfl z_2 a18_17) ?_)
 (refine v_ ?_; refine f_ ((s_neq rfl rfl).eq (v' := .bool false) (by simp)) ?_)
 refine f_ z_12 ?_
 repeat refine x_ ?_
 refine f_ z_1 ?_
 refine r_ (by exact s_load_blk rfl z_2 a18_14) ?_
 refine f_ (s_len_sl rfl) ?_
 refine f_ z_1 ?_
 refine r_ (by exact s_load_blk rfl z_2 a18_14) ?_
 refine f_ (s_len_sl rfl) ?_
 refine f_ ((s_neq rfl rfl).eq (v' := .bool false) (by simp)) ?_
 refine m_ ?_
 (refine v_ ?_; refine f_ z_1 ?_)
 (refine v_ ?_; refine r_ ((s_load_blkN rfl z_2 z_7).eq (v' := (p.lm a).v) rfl) ?_)
 (refine v_ ?_; refine f_ z_1 ?_)
 (refine v_ ?_; refine r_ ((s_load_blkN rfl z_2 z_7).eq (v' := (p.lm b).v) rfl) ?_)
 (refine v_ ?_; refine gl_callp rfl (SameLogs_ct (p.lm a) (p.lm b) (by show p.conf.length ≤ _; omega) (by show p.l.length ≤ _; omega)) (fun h hh _ => ⟨⟨ha.rc.le hh, ha.rl.le hh⟩, ⟨hb.rc.le hh, hb.rl.le hh⟩⟩) rfl ?_; rw [same_self])
 (refine v_ ?_; refine f_ (s_not rfl) ?_)
 refine f_ z_12 ?_
 refine m_ ?_
 (refine v_ ?_; refine f_ z_1 ?_)
 (refine v_ ?_; refine r_ (by exact s_load_blk rfl z_2 a18_13) ?_)
 (refine v_ ?_; refine f_ z_1 ?_)
 (refine v_ ?_; refine r_ (by exact s_load_blk rfl z_2 a18_13) ?_)
 (refine v_ ?_; refine gl_callp rfl (SameInts_ct p.votes p.votes a.va b.va a.vc b.vc (by omega)) (fun h hh _ => ⟨ha.rv.le hh, hb.rv.le hh⟩) rfl ?_; rw [decide_eq_true rfl])
 (refine v_ ?_; refine f_ (s_not rfl) ?_)
 refine f_ z_12 ?_
 repeat refine x_ ?_
 refine a_ ?_
 repeat refine n_ ?_
 refine g_loop (ι := Nat) (fun k => k ≤ p.peers.length) (fun k => [(2, Ptr g2), (3, Ptr g3), (5, .int .i64 (k : Nat))]) (fun k => [.blk g3 (.cells (rsC p b).toArray 49), .blk g2 (.cells (rsC p a).toArray 49)]) (fun k => p.peers.length - k) 0 (Nat.zero_le _) ?_ ?_ ?_
 ·(repeat (first | exact Sub.nil _ | refine Sub.cons rfl ?_))
 ·intro w hw; exact hw
 rintro k hk
 repeat refine x_ ?_
 refine m_ ?_
 refine f_ z_1 ?_
 refine r_ (by exact s_load_blk rfl z_2 a18_14) ?_
 refine f_ (s_len_sl rfl) ?_
 refine f_ (s_lss rfl rfl) ?_
 repeat refine n_ ?_
 refine g_cond rfl (fun h => ?_) (fun h => ?_)
 rotate_left
 ·repeat refine y_ ?_
  repeat refine x_ ?_
  refine a_ ?_
  repeat refine n_ ?_
  refine g_ret ?_
  exact at_end1 rfl rfl [] ⟨rfl, rfl⟩ (fun _ h => h.dropAll)
 have hkl : k < p.peers.length := by simp at h; omega
 have hs1 := rdR_some ha.rp hkl
 have hs2 := rdR_some hb.rp hkl
 obtain ⟨q, hqe⟩ : ∃ q, q = p.peers.getD k P0 := ⟨_, rfl⟩
 repeat refine y_ ?_
 refine g_draw ([1, 4, 6, 9], [0, 1, 0, 7, 15, 0, 32, 0, 224, 480, 1023], []) [.blk g3 (.cells (rsC p b).toArray 49), .blk g2 (.cells (rsC p a).toArray 49)] 11 rfl ?_
 refine w_ 0 rfl z_1 ?_
 (refine ga_read_k 1 rfl z_9 (s_load_blk rfl .del a18_14) z_15 rfl rfl rfl z_4 ?_)
 refine w_ 2 rfl (s_move rfl) ?_
 refine w_ 3 rfl (s_indexAddr rfl (by assumption) rfl (by omega)) ?_
 refine ga_readF 4 rfl (s_loadN (cs := prC q) rfl (fun w hw => by rw [hqe]; exact rdQ hw ha.rp (i := k) (by omega) hkl) rfl) z_15 rfl rfl rfl z_4 ?_
 refine w_ 5 rfl z_1 ?_
 (refine ga_read_k 6 rfl z_11 (s_load_blk rfl .del a18_14) z_15 rfl rfl rfl z_4 ?_)
 refine w_ 7 rfl (s_move rfl) ?_
 refine w_ 8 rfl (s_indexAddr rfl (by assumption) rfl (by omega)) ?_
 refine ga_readF 9 rfl (s_loadN (cs := prC q) rfl (fun w hw => by rw [hqe]; exact rdQ hw hb.rp (i := k) (by omega) hkl) rfl) z_15 rfl rfl rfl z_4 ?_
 refine w_ 10 rfl ((s_neq_struct rfl rfl (by exact EqF.int (by decide) rfl rfl (EqF.int (by decide) rfl rfl (EqF.int (by decide) rfl rfl (EqF.int (by decide) rfl rfl EqF.nil))))).eq (v' := .bool false) (by simp)) ?_
 refine ga_done z_4 ?_
 repeat refine x_ ?_
 refine m_ ?_
 refine f_ (s_add_i64 rfl rfl (by omega)) ?_
 refine a_ ?_
 repeat refine n_ ?_
 refine at_next (k + 1) (by omega) (by omega) ?_ ?_
 ·(repeat (first | exact Sub.nil _ | refine Sub.cons rfl ?_))
 ·intro w hw; exact hw
end Go.Proofs.YtodcghipfolejaaGreat.Rf
namespace Go.Proofs.YtodcghipfolejaaGreat.Rf
open Go Go.Sl
theorem confN_plain (g : LM) : ∀ k, (∀ i, i < k → isC (g.l.getD i E0) = false) → confN g k = (g.conf, g.base)
 | 0, _ => rfl
 | k + 1, h => by
  rw [confN, h k (Nat.lt_succ_self _), if_neg (by simp)]
  exact confN_plain g k (fun i hi => h i (Nat.lt_succ_of_lt hi))
theorem com_one {n i : Int} (hn : rightB [n] = true) (hi : 0 ≤ i) : com [n] [(n, i)] = i := by
 refine comI_end ⟨hi, ?_, ?_⟩
 ·right
  simp [mostB, hn, whoL, cntB, inB]
 ·intro j hj _
  have : j = 0 := by simp at hj; exact hj
  subst this
  exact Int.le_refl _
structure Lone (n : Int) (p : RP) : Prop where
 id : p.id = n
 right : rightB [n] = true
 base : p.base = 0
 conf : p.conf = [n]
 plain : ∀ i, i < p.l.length → isC (p.l.getD i E0) = false
 peers : p.peers = []
theorem Lone.cf {n : Int} {p : RP} (h : Lone n p) : confAt p.g (lastI p.g) = ([n], 0) := by
 rw [confAt, confN_plain]
 ·rw [show p.g.conf = p.conf from rfl, show p.g.base = p.base from rfl, h.conf, h.base]
 ·intro i hi
  exact h.plain i (by have := Nat.min_le_left p.g.l.length (lastI p.g - p.g.base).toNat; show i < p.g.l.length; omega)
theorem Lone.confL {n : Int} {p : RP} (h : Lone n p) : confL p = [n] := by rw [Rf.confL, h.cf]
theorem Lone.last {n : Int} {p : RP} (h : Lone n p) : lastI p.g = (p.l.length : Int) := by
 rw [lastI, show p.g.base = p.base from rfl, h.base, Int.zero_add]
theorem Lone.inB {n : Int} {p : RP} (h : Lone n p) : inB (Rf.confL p) p.id = true := by rw [h.confL, h.id]; simp [Go.Proofs.YtodcghipfolejaaGreat.inB]
theorem Lone.commit {n : Int} {p : RP} (h : Lone n p) (hc : p.commit < (p.l.length : Int)) (ht : lastT p.g = p.term) : commitP p = { p with commit := (p.l.length : Int) } := by
 have e1 : comP p = (p.l.length : Int) := by
  rw [comP, h.confL, haveP, h.peers, h.id, List.map_nil, com_one h.right (by rw [h.last]; omega), h.last]
 have hl := last_term p.g (by rw [show p.g.base = p.base from rfl, h.base]; exact Int.le_refl _)
 rw [h.last] at hl
 have e2 : commit1 p = { p with commit := (p.l.length : Int) } := by
  rw [commit1, e1, if_pos ⟨hc, hl.2, by rw [hl.1, ht]⟩]
 rw [commitP, h.inB, if_neg (by simp), e2]
def S0 (n w k : Int) : RP := ⟨n, 0, 0, 0, 0, 0, 0, [n], [], [], 0, k, w, [], [], [], 0, 0⟩
def SL (n w : Int) (ds : List Bs) : RP := ⟨n, 1, n, 2, n, 0, 0, [n], (1, 1, []) :: ds.map (fun d => (1, 3, d)), [], (ds.length : Int) + 1, 0, w, [], [], [], 0, 0⟩
theorem SL_plain (ds : List Bs) : ∀ i, isC (((1, 1, []) :: ds.map (fun d => ((1, 3, d) : Ent))).getD i E0) = false := by
 intro i
 rw [List.getD_eq_getElem?_getD]
 cases h : ((1, 1, []) :: ds.map (fun d => ((1, 3, d) : Ent)))[i]? with
 | none => rfl
 | some e =>
  have := List.mem_of_getElem? h
  rcases List.mem_cons.mp this with rfl | h2
  ·rfl
  ·obtain ⟨d, _, rfl⟩ := List.mem_map.mp h2
   rfl
theorem S0_lone {n w k : Int} (hn : rightB [n] = true) : Lone n (S0 n w k) := ⟨rfl, hn, rfl, rfl, fun i hi => absurd hi (Nat.not_lt_zero _), rfl⟩
theorem SL_all {n w : Int} (ds : List Bs) : allP (SL n w ds) = [] := by
 rw [allP]; split <;> rfl
theorem tick_stand {n w k : Int} (hn : rightB [n] = true) (h : k + 1 = w) : tickP (S0 n w k) = SL n w [] ∧ tickM (S0 n w k) = [] := by
 have e1 : tick1 (S0 n w k) = S0 n w w := by rw [← h]; rfl
 have hl : Lone n (S0 n w w) := S0_lone hn
 have e : stands (S0 n w w) = true := by
  rw [stands, mayP, hl.inB, decide_eq_true (by show w ≤ w; omega), decide_eq_true (by show (0 : Int) < _; decide)]; rfl
 have l1 : Lone n (stand1 (S0 n w w)) := ⟨rfl, hn, rfl, rfl, fun i hi => absurd hi (Nat.not_lt_zero _), rfl⟩
 have e2 : wins (stand1 (S0 n w w)) = true := by
  rw [wins, l1.confL]
  show mostB [n] [n] = true
  simp [mostB, hn, cntB, inB]
 have l2 : Lone n (lead1 (stand1 (S0 n w w))) := ⟨rfl, hn, rfl, rfl, fun i hi => absurd hi (Nat.not_lt_zero _), rfl⟩
 have e3 : peersL (lead1 (stand1 (S0 n w w))) = [] := by
  rw [peersL, l2.confL]
  show List.map _ ([n].filter fun m => decide (m ≠ n)) = []
  simp
 have e4 : lead2 (stand1 (S0 n w w)) = ⟨n, 1, n, 2, n, 0, 0, [n], [(1, 1, [])], [], 0, 0, w, [], [], [], 0, 0⟩ := by
  rw [lead2, e3]; rfl
 have l4 : Lone n (⟨n, 1, n, 2, n, 0, 0, [n], [(1, 1, [])], [], 0, 0, w, [], [], [], 0, 0⟩ : RP) := ⟨rfl, hn, rfl, rfl, fun i _ => SL_plain [] i, rfl⟩
 have e5 : leadP (stand1 (S0 n w w)) = SL n w [] := by
  rw [leadP, e4, l4.commit (by show (0 : Int) < 1; decide) rfl]; rfl
 constructor
 ·rw [tickP, if_neg (by show ¬ (0 : Int) = 2; decide), e1, e, if_pos rfl, standP, e2, if_pos rfl, e5]
 ·rw [tickM, if_neg (by show ¬ (0 : Int) = 2; decide), e1, e, if_pos rfl, standM, e2, if_pos rfl, leadM, e5, SL_all]
theorem prop_ok {n w : Int} (ds : List Bs) (d : Bs) (hn : rightB [n] = true) (hl : ds.length ≤ 1000) (hd : d.length ≤ 2048) : propE (SL n w ds) 3 d = 0 ∧ propP (SL n w ds) 3 d = SL n w (ds ++ [d]) ∧ propM (SL n w ds) 3 d = [] := by
 have e0 : propE (SL n w ds) 3 d = 0 := by
  rw [propE, if_neg (by show ¬ (2 : Int) ≠ 2; decide), if_neg (by decide), if_neg (by omega), if_neg (by show ¬ 1024 ≤ ((1, 1, []) :: ds.map (fun d => ((1, 3, d) : Ent))).length; rw [List.length_cons, List.length_map]; omega), if_neg (by decide)]
 have e1 : prop2 (SL n w ds) 3 d = ⟨n, 1, n, 2, n, 0, 0, [n], (1, 1, []) :: (ds ++ [d]).map (fun d => (1, 3, d)), [], (ds.length : Int) + 1, 0, w, [], [], [], 0, 0⟩ := by
  rw [prop2, if_neg (by decide), prop1, List.map_append]; rfl
 have l1 : Lone n (⟨n, 1, n, 2, n, 0, 0, [n], (1, 1, []) :: (ds ++ [d]).map (fun d => (1, 3, d)), [], (ds.length : Int) + 1, 0, w, [], [], [], 0, 0⟩ : RP) := ⟨rfl, hn, rfl, rfl, fun i _ => SL_plain _ i, rfl⟩
 have hlen : ((1, 1, []) :: (ds ++ [d]).map (fun d => ((1, 3, d) : Ent))).length = ds.length + 2 := by simp
 have e2 : commitP (prop2 (SL n w ds) 3 d) = SL n w (ds ++ [d]) := by
  rw [e1, l1.commit]
  ·rw [SL]
   simp
  ·show (ds.length : Int) + 1 < ((((1, 1, []) :: (ds ++ [d]).map (fun d => ((1, 3, d) : Ent))).length : Nat) : Int)
   rw [hlen]; omega
  ·show lastT (⟨0, 0, [n], (1, 1, []) :: (ds ++ [d]).map (fun d => (1, 3, d)), none, 0, none, 0⟩ : LM) = 1
   rw [lastT]
   simp
 refine ⟨e0, ?_, ?_⟩
 ·rw [propP, e0, if_pos rfl, e2]
 ·rw [propM, e0, if_pos rfl, e2, SL_all]
theorem S0_fit {n w k : Int} (hk : 0 ≤ k ∧ k ≤ 2000) : PFit (S0 n w k) := by
 refine ⟨⟨?_, ?_⟩, ?_, ?_, fun i hi => absurd hi (Nat.not_lt_zero _), ?_, ?_, ?_, (fun q hq => nomatch hq), ⟨hk.1, by show k ≤ _; omega⟩, ⟨?_, ?_⟩, ⟨?_, ?_⟩⟩
 ·show (0 : Int) ≤ 0; decide
 ·show (0 : Int) ≤ _; decide
 ·show 0 ≤ _; decide
 ·show 1 ≤ _; decide
 ·show 0 ≤ _; decide
 ·show 0 ≤ _; decide
 ·show 0 ≤ _; decide
 ·show (0 : Int) ≤ 0; decide
 ·show (0 : Int) ≤ _; decide
 ·show (0 : Int) ≤ 0; decide
 ·show (0 : Int) ≤ _; decide
theorem SL_fit {n w : Int} (ds : List Bs) (hl : ds.length ≤ 1000) (hd : ∀ d ∈ ds, d.length ≤ 2048) : PFit (SL n w ds) := by
 refine ⟨⟨by show (0 : Int) ≤ 0; decide, by show (0 : Int) ≤ _; decide⟩, ?_, by show 1 ≤ _; decide, ?_, by show 0 ≤ _; decide, by show 0 ≤ _; decide, by show 0 ≤ _; decide, (fun q hq => nomatch hq), ⟨by show (0 : Int) ≤ 0; decide, by show (0 : Int) ≤ _; decide⟩, ⟨by show (0 : Int) ≤ 1; decide, by show (1 : Int) ≤ _; decide⟩, ⟨?_, ?_⟩⟩
 ·show ((1, 1, []) :: ds.map (fun d => ((1, 3, d) : Ent))).length ≤ _
  rw [List.length_cons, List.length_map]; omega
 ·intro i hi
  show (((1, 1, []) :: ds.map (fun d => ((1, 3, d) : Ent))).getD i E0).2.2.length ≤ _
  rw [List.getD_eq_getElem?_getD]
  cases h : ((1, 1, []) :: ds.map (fun d => ((1, 3, d) : Ent)))[i]? with
  | none => show 0 ≤ _; decide
  | some e =>
   rcases List.mem_cons.mp (List.mem_of_getElem? h) with rfl | h2
   ·show 0 ≤ _; decide
   ·obtain ⟨d, hm, rfl⟩ := List.mem_map.mp h2
    have := hd d hm
    show d.length ≤ _
    omega
 ·show (0 : Int) ≤ (ds.length : Int) + 1; omega
 ·show (ds.length : Int) + 1 ≤ _; omega
end Go.Proofs.YtodcghipfolejaaGreat.Rf
namespace Go.Proofs.YtodcghipfolejaaGreat.Rf
open Go Go.Sl
instance : HBld Tryz.prog 77 #[{ name := "Term", type := 34, offset := 0, embedded := false, tag := "", pkgPath := "", byteOffset := 0 }, { name := "Vote", type := 3, offset := 1, embedded := false, tag := "", pkgPath := "", byteOffset := 8 }, { name := "Life", type := 34, offset := 2, embedded := false, tag := "", pkgPath := "", byteOffset := 16 }] [(0, 1), (1, 1), (2, 1)] := ⟨Tryz.underlying77, by kernel_rfl, by kernel_rfl⟩
instance : HBld Tryz.prog 46 #[{ name := "Base", type := 34, offset := 0, embedded := false, tag := "", pkgPath := "", byteOffset := 0 }, { name := "BaseTerm", type := 34, offset := 1, embedded := false, tag := "", pkgPath := "", byteOffset := 8 }, { name := "BaseConf", type := 36, offset := 2, embedded := false, tag := "", pkgPath := "", byteOffset := 16 }, { name := "L", type := 35, offset := 3, embedded := false, tag := "", pkgPath := "", byteOffset := 40 }] [(0, 1), (1, 1), (2, 1), (3, 1)] := ⟨Tryz.underlying46, by kernel_rfl, by kernel_rfl⟩
instance : HBld Tryz.prog 51 #[{ name := "Term", type := 34, offset := 0, embedded := false, tag := "", pkgPath := "", byteOffset := 0 }, { name := "Kind", type := 3, offset := 1, embedded := false, tag := "", pkgPath := "", byteOffset := 8 }, { name := "Data", type := 9, offset := 2, embedded := false, tag := "", pkgPath := "", byteOffset := 16 }] [(0, 1), (1, 1), (2, 1)] := ⟨Tryz.underlying51, by kernel_rfl, by kernel_rfl⟩
instance : HBld Tryz.prog 53 #[{ name := "Kind", type := 3, offset := 0, embedded := false, tag := "", pkgPath := "", byteOffset := 0 }, { name := "Message", type := 38, offset := 1, embedded := false, tag := "", pkgPath := "", byteOffset := 8 }, { name := "Entry", type := 51, offset := 14, embedded := false, tag := "", pkgPath := "", byteOffset := 152 }, { name := "Index", type := 34, offset := 17, embedded := false, tag := "", pkgPath := "", byteOffset := 184 }, { name := "Image", type := 9, offset := 18, embedded := false, tag := "", pkgPath := "", byteOffset := 192 }] [(0, 1), (1, 13), (14, 3), (17, 1), (18, 1)] := ⟨Tryz.underlying53, by kernel_rfl, by kernel_rfl⟩
theorem Ct.mono {f : FuncId} {args : List Value} {Pre : Heap → Prop} {C : List As} {Post Post' : Value → List As → Prop} (h : Ct Tryz.prog f args Pre C Post) (k : ∀ v A, Post v A → ∃ A', Post' v A' ∧ ∀ (F : Snap) (w : World), Hp F w A → Hp F w A') : Ct Tryz.prog f args Pre C Post' := by
 intro w bs hs hn hp
 refine (h w bs hs hn hp).mono ?_
 rintro e W' ⟨v, A, rfl, hP, hh⟩
 obtain ⟨A', h1, h2⟩ := k v A hP
 exact ⟨v, A', rfl, h1, h2 _ _ hh⟩
theorem New_ok (id : Int) (h : Hd) (g : LM) (img : Bs) (tout : Int) (hc : g.conf.length ≤ 1000000) (hl : g.l.length ≤ 1000000) (hb : badNew id tout = false) : Ct Tryz.prog 24 [.int .i64 id, .agg #[.int .u64 h.term, .int .i64 h.vote, .int .u64 h.c], g.v, B img, .int .i64 tout] g.ok [] (fun v A => ∃ a, v = .tuple #[rsV (newP id h g img tout) a, .int .i64 0] ∧ A = OwnS (newP id h g img tout) a) := by
 refine Ct.mono (New_ct id h g img tout hc hl) ?_
 rintro v A (⟨h1, _⟩ | ⟨_, a, rfl, rfl⟩)
 ·rw [hb] at h1; cases h1
 ·exact ⟨_, ⟨a, rfl, rfl⟩, fun _ _ h => h⟩
def eTick : EV := ⟨1, MM0, 0, 0, [], 0, []⟩
def eProp (d : Bs) : EV := ⟨3, MM0, 0, 3, d, 0, []⟩
def StN (p' : RP) (e : Int) (v : Value) (A : List As) : Prop := ∃ a' oa oc, v = .tuple #[rsV p' a', .slice oa 0 oc, .int .i64 e] ∧ A = OwnS p' a'
theorem StP.n {p' : RP} {e : Int} {v : Value} {A : List As} (h : StP p' [] e v A) : ∃ A', StN p' e v A' ∧ ∀ (F : Snap) (w : World), Hp F w A → Hp F w A' := by
 obtain ⟨a', outs, oa, oc, Z, rfl, ho, rfl, _⟩ := h
 have ho2 : outs = [] := by simpa using ho
 subst ho2
 exact ⟨_, ⟨a', oa, oc, rfl, rfl⟩, fun _ _ h => Hp.left h⟩
theorem StepTick_ct (p p' : RP) (a : RA) (hf : PFit p) (ht : p.ticks < 4611686018427387904) (hl : p.l.length ≤ 99999) (hp : tickP p = p' ∧ tickM p = []) : Ct Tryz.prog 16 [rsV p a, evA eTick] (fun h => RRd h p a ∧ True) [] (StN p' 0) := by
 have h1 := Step_of p a eTick 1 35 p' [] 0 hf rfl (by decide) z_4 (fun _ => True) (fun _ _ _ h => h) (fun X d e1 e2 => by
  have := tick_ct X d (evC eTick).toArray (by rw [e1]; exact hf) (by rw [e1]; exact ht) (by rw [e1]; exact hl) (by rw [e2]; decide)
  rw [e1, hp.1, hp.2] at this
  exact this)
 rw [if_pos rfl, if_pos rfl] at h1
 exact Ct.mono h1 (fun _ _ h => h.n)
theorem StepProp_ct (p p' : RP) (a : RA) (d : Bs) (E : Int) (hf : PFit p) (hl : p.l.length ≤ 99999) (hE : propE p 3 d = E) (hp : (E = 0 ∧ propP p 3 d = p' ∧ propM p 3 d = []) ∨ (E ≠ 0 ∧ p' = p)) : Ct Tryz.prog 16 [rsV p a, evA (eProp d)] (fun h => RRd h p a ∧ True) [] (StN p' E) := by
 have h1 := Step_of p a (eProp d) 3 37 (propP p 3 d) (propM p 3 d) E hf rfl (by decide) z_4 (fun _ => True) (fun _ _ _ h => h) (fun X dd e1 e2 => by
  have := propose_ct X dd (eProp d) (by rw [e1]; exact hf) (by rw [e1]; exact hl) (by rw [e2]; decide)
  rw [e1] at this
  rw [← hE]
  exact this)
 rcases hp with ⟨h0, h2, h3⟩ | ⟨h0, rfl⟩
 ·rw [if_pos h0, if_pos h0, h2, h3] at h1
  exact Ct.mono h1 (fun _ _ h => h.n)
 ·rw [if_neg h0, if_neg h0] at h1
  exact Ct.mono h1 (fun _ _ h => h.n)
abbrev gOne (n : Int) (a : Option Addr) (c : Nat) : LM := ⟨0, 0, [n], [], a, c, none, 0⟩
theorem newP_S0 (n w : Int) (a : Option Addr) (c : Nat) : newP n ⟨0, 0, 0⟩ (gOne n a c) [] w = S0 n w 0 := rfl
set_option maxRecDepth 16000 in
set_option maxHeartbeats 4000000 in
theorem ralive_ct : Pu Tryz.prog 8 [] (fun _ => True) (.bool true) := by
 refine ct_enter 73 Tryz.func8 rfl rfl rfl ?_
 intro F _
 repeat refine x_ ?_
 refine a_ ?_
 repeat refine x_ ?_
 refine f_ ((s_bld (cells := #[.int .u64 0, .int .i64 0, .int .u64 0]) rfl z_4)) ?_
 refine gl_buildSliceU rfl rfl rfl rfl rfl rfl (xs := intsV [1]) rfl rfl ?_; intro a1 ha1
 refine f_ ((s_bld (cells := #[.int .u64 0, .int .u64 0, .slice a1 1 1, .slice none 0 0]) rfl z_4).eq (v' := (gOne 1 a1 1).v) rfl) ?_
 refine gl_call _ rfl (New_ok 1 ⟨0, 0, 0⟩ (gOne 1 a1 1) [] 1 (by show 1 ≤ _; decide) (by show 0 ≤ _; decide) (by decide)) i_ (fun h hh ⟨bs, hb⟩ => ⟨Sat.rd hb z_2, RdS.nil _ _⟩) rfl ?_; rw [newP_S0]; rintro v A ⟨a3, rfl, rfl⟩
 refine m_ ?_
 refine f_ (s_extract rfl rfl) ?_
 refine f_ (s_extract rfl rfl) ?_
 refine gl_allocA rfl ?_; intro g1
 (refine gl_store_blkW rfl rfl z_5 z_7 z_7 z_3 ?_)
 refine a_ ?_
 repeat refine x_ ?_
 refine m_ ?_
 refine f_ ((s_neq rfl rfl).eq (v' := .bool false) rfl) ?_
 repeat refine x_ ?_
 refine r_ ((s_load_blkW rfl z_2 z_7).eq (v' := rsV (S0 1 1 0) a3) rfl) ?_
 refine f_ ((s_bld (cells := (evC eTick).toArray) rfl z_4).eq (v' := evA eTick) rfl) ?_
 refine gl_call _ rfl (StepTick_ct (S0 1 1 0) (SL 1 1 []) a3 (S0_fit (by decide)) (by decide) (by decide) (tick_stand (by decide) (by decide))) i_ (fun h hh ⟨bs, hb⟩ => ⟨⟨Sat.rd (a := a3.ca) hb z_2, Sat.rd (a := a3.la) hb z_2, Sat.rd (a := a3.va) hb z_2, Sat.rd (a := a3.pa) hb z_2⟩, trivial⟩) rfl ?_; rintro v A ⟨a4, oa, oc, rfl, rfl⟩
 refine m_ ?_
 refine f_ (s_extract rfl rfl) ?_
 refine f_ (s_extract rfl rfl) ?_
 refine f_ (s_extract rfl rfl) ?_
 (refine gl_store_blkW rfl rfl z_5 z_7 z_7 z_3 ?_)
 refine a_ ?_
 refine a_ ?_
 repeat refine x_ ?_
 refine m_ ?_
 refine f_ ((s_neq rfl rfl).eq (v' := .bool false) rfl) ?_
 refine m_ ?_
 (refine v_ ?_; refine m_ ?_)
 (refine v_ ?_; refine f_ (s_len_sl rfl) ?_)
 (refine v_ ?_; refine f_ ((s_neq rfl rfl).eq (v' := .bool false) rfl) ?_)
 refine f_ z_12 ?_
 refine m_ ?_
 (refine v_ ?_; refine f_ z_1 ?_)
 (refine v_ ?_; refine r_ (by exact s_load_blk rfl z_2 a18_3) ?_)
 (refine v_ ?_; refine f_ ((s_neq rfl rfl).eq (v' := .bool false) rfl) ?_)
 refine f_ z_12 ?_
 refine m_ ?_
 (refine v_ ?_; refine f_ z_1 ?_)
 (refine v_ ?_; refine r_ (by exact s_load_blk rfl z_2 a18_1) ?_)
 (refine v_ ?_; refine f_ ((s_neq rfl rfl).eq (v' := .bool false) rfl) ?_)
 refine f_ z_12 ?_
 refine m_ ?_
 (refine v_ ?_; refine f_ z_1 ?_)
 (refine v_ ?_; refine r_ (by exact s_load_blk rfl z_2 a18_10) ?_)
 (refine v_ ?_; refine f_ ((s_neq rfl rfl).eq (v' := .bool false) rfl) ?_)
 refine f_ z_12 ?_
 repeat refine x_ ?_
 refine r_ ((s_load_blkW rfl z_2 z_7).eq (v' := rsV (SL 1 1 []) a4) rfl) ?_
 refine f_ ((s_bld (cells := #[.int .u64 0, .int .i64 3, B [120]]) rfl z_4)) ?_
 refine f_ ((s_bld (cells := (evC (eProp [120])).toArray) rfl z_4).eq (v' := evA (eProp [120])) rfl) ?_
 refine gl_call _ rfl (StepProp_ct (SL 1 1 []) (SL 1 1 [[120]]) a4 [120] 0 (SL_fit [] (by decide) (fun _ h => nomatch h)) (by decide) (prop_ok [] [120] (by decide) (by decide) (by decide)).1 (.inl ⟨rfl, (prop_ok [] [120] (by decide) (by decide) (by decide)).2⟩)) i_ (fun h hh ⟨bs, hb⟩ => ⟨⟨Sat.rd (a := a4.ca) hb z_2, Sat.rd (a := a4.la) hb z_2, Sat.rd (a := a4.va) hb z_2, Sat.rd (a := a4.pa) hb z_2⟩, trivial⟩) rfl ?_; rintro v A ⟨a7, oa7, oc7, rfl, rfl⟩
 refine m_ ?_
 refine f_ (s_extract rfl rfl) ?_
 refine f_ (s_extract rfl rfl) ?_
 refine f_ (s_extract rfl rfl) ?_
 (refine gl_store_blkW rfl rfl z_5 z_7 z_7 z_3 ?_)
 refine a_ ?_
 repeat refine n_ ?_
 refine g_ownN (a := a7.la) z_2 (fun _ _ hx => ?_)
 have hs7 := hx (by decide)
 repeat refine x_ ?_
 refine m_ ?_
 refine f_ ((s_eql rfl rfl).eq (v' := .bool true) rfl) ?_
 refine m_ ?_
 (refine v_ ?_; refine f_ z_1 ?_)
 (refine v_ ?_; refine r_ (by exact s_load_blk rfl z_2 a18_10) ?_)
 (refine v_ ?_; refine f_ ((s_eql rfl rfl).eq (v' := .bool true) rfl) ?_)
 refine f_ z_13 ?_
 refine m_ ?_
 (refine v_ ?_; refine f_ z_1 ?_)
 (refine v_ ?_; refine f_ z_1 ?_)
 (refine v_ ?_; refine r_ (by exact s_load_blk rfl z_2 a18_8) ?_)
 (refine v_ ?_; refine f_ (s_len_sl rfl) ?_)
 (refine v_ ?_; refine f_ ((s_eql rfl rfl).eq (v' := .bool true) rfl) ?_)
 refine f_ z_13 ?_
 refine m_ ?_
 (refine v_ ?_; refine f_ z_1 ?_)
 (refine v_ ?_; refine f_ z_1 ?_)
 (refine v_ ?_; refine r_ (by exact s_load_blk rfl z_2 a18_8) ?_)
 (refine v_ ?_; refine f_ (s_indexAddr rfl hs7 rfl (by decide)) ?_)
 (refine v_ ?_; refine r_ (s_loadN (cs := entC (1, 3, [120])) rfl (fun w hw => rdE_own (a := a7.la) (i := 1) (l := [(1, 1, []), (1, 3, [120])]) hw z_2 rfl (by decide)) rfl) ?_)
 (refine v_ ?_; refine f_ (s_bld (cells := #[.int .u64 1, .int .i64 3, B [120]]) rfl z_4) ?_)
 (refine v_ ?_; refine f_ ((s_eql_struct rfl rfl (by exact EqF.int (by decide) rfl rfl (EqF.int (by decide) rfl rfl (EqF.str (by decide) rfl rfl EqF.nil)))).eq (v' := .bool true) (by simp)) ?_)
 refine f_ z_13 ?_
 refine a_ ?_
 repeat refine n_ ?_
 refine g_ret ?_
 exact at_end1 rfl rfl [] ⟨rfl, rfl⟩ (fun _ h => h.dropAll)
end Go.Proofs.YtodcghipfolejaaGreat.Rf
namespace Go.Proofs.YtodcghipfolejaaGreat.Rf
open Go Go.Sl
def grantM (p : RP) (to : Int) (ok : Bool) : MP := ⟨2, p.id, to, p.term, 0, 0, 0, ok, [], [], 0, 0, []⟩
def ackM (p : RP) (to : Int) (ok : Bool) (i : Int) : MP := ⟨4, p.id, to, p.term, i, 0, 0, ok, [], [], 0, 0, []⟩
def gotM (p : RP) (to i off : Int) : MP := ⟨6, p.id, to, p.term, i, 0, 0, false, [], [], off, 0, []⟩
def compBad (p : RP) (i : Int) (img : Bs) : Bool := decide (i ≤ p.base) || (decide (p.commit < i) || (decide (262144 < img.length) || !hasL p.g i))
def zeroOff (q : Pr) : Pr := { q with off := 0 }
def compP (p : RP) (i : Int) (img : Bs) : RP := if compBad p i img = true then p else { p with base := i, bt := termV p.g i, conf := (confAt p.g i).1, l := p.l.drop (i - p.base).toNat, img := img, peers := p.peers.map zeroOff }
def compE (p : RP) (i : Int) (img : Bs) : Int := if compBad p i img = true then 1 else 0
def voteOk (p : RP) (m : MP) : Bool := decide (m.term = p.term) && (decide (p.role = 0) && ((decide (p.vote = 0) || decide (p.vote = m.frm)) && newerL p.g m.index m.lt))
def voteP (p : RP) (m : MP) : RP := if voteOk p m = true then { p with vote := m.frm, ticks := 0 } else p
def votesL (p : RP) (n : Int) : List Int := pick (fun x => inB p.votes x || decide (x = n)) 5
def grantOk (p : RP) (m : MP) : Bool := decide (p.role = 1) && (decide (m.term = p.term) && m.ok)
def grant1 (p : RP) (m : MP) : RP := { p with votes := votesL p m.frm }
noncomputable def grantP (p : RP) (m : MP) : RP := if grantOk p m = true then (if wins (grant1 p m) = true then leadP (grant1 p m) else grant1 p m) else p
noncomputable def grantMs (p : RP) (m : MP) : List MP := if grantOk p m = true then (if wins (grant1 p m) = true then leadM (grant1 p m) else []) else []
def tkR (p : RP) (m : MP) : Mrg := mrgL p.g m.index m.lt m.ents
def matchI (m : MP) : Int := m.index + (m.ents.length : Int)
def tkP (p : RP) (m : MP) : RP :=
 if (tkR p m).ok = false ∨ (0 < (tkR p m).at_ ∧ (tkR p m).at_ ≤ p.commit) then p
 else { p with l := (tkR p m).l, commit := max p.commit (min (min m.commit (matchI m)) (p.base + ((tkR p m).l.length : Int))) }
def tkM (p : RP) (m : MP) : List MP :=
 if (tkR p m).ok = false then [ackM p m.frm false (min (lastI p.g) (max m.index 1 - 1))]
 else if 0 < (tkR p m).at_ ∧ (tkR p m).at_ ≤ p.commit then []
 else [ackM p m.frm true (matchI m)]
def pieceBad (p : RP) (m : MP) : Bool := decide (m.size < 0) || (decide (262144 < m.size) || (decide (m.off < 0) || (decide (m.size < m.off) || (decide (min 4096 (m.size - m.off) < (m.data.length : Int)) || !rightB m.conf))))
def haveB (p : RP) (m : MP) : Bs := if p.pix = m.index ∧ p.pt = m.lt then p.piece else []
def pieceB (p : RP) (m : MP) : Bs := haveB p m ++ m.data
def piece1 (p : RP) (m : MP) : RP := { p with piece := pieceB p m, pix := m.index, pt := m.lt }
def piece2 (p : RP) (m : MP) : RP := { p with base := m.index, bt := m.lt, conf := m.conf, l := instL p.g m.index m.lt, img := pieceB p m, commit := m.index, piece := [], pix := 0, pt := 0 }
def pcP (p : RP) (m : MP) : RP :=
 if pieceBad p m = true ∨ m.index ≤ p.commit ∨ m.off ≠ ((haveB p m).length : Int) then p
 else if ((pieceB p m).length : Int) < m.size then piece1 p m else piece2 p m
def pcM (p : RP) (m : MP) : List MP :=
 if pieceBad p m = true then []
 else if m.index ≤ p.commit then [ackM p m.frm true m.index]
 else if m.off ≠ ((haveB p m).length : Int) then [gotM p m.frm m.index ((haveB p m).length : Int)]
 else if ((pieceB p m).length : Int) < m.size then [gotM p m.frm m.index ((pieceB p m).length : Int)]
 else [ackM p m.frm true m.index]
def leads1 (p : RP) (m : MP) : RP := { followP p p.term m.frm with ticks := 0 }
def leadsP (p : RP) (m : MP) : RP := if m.term < p.term ∨ p.role = 2 then p else if m.kind = 3 then tkP (leads1 p m) m else pcP (leads1 p m) m
def leadsM (p : RP) (m : MP) : List MP := if m.term < p.term then [ackM p m.frm false 0] else if p.role = 2 then [] else if m.kind = 3 then tkM (leads1 p m) m else pcM (leads1 p m) m
def peerAt (p : RP) (m : MP) : Nat := if p.role = 2 ∧ m.term = p.term then p.peers.findIdx (fun q => decide (q.node = m.frm)) else p.peers.length
def setPr (p : RP) (i : Nat) (q : Pr) : RP := { p with peers := p.peers.set i q }
def backPr (q : Pr) (i : Int) : Pr := { q with next := max q.mtc (min (q.next - 1) i) + 1 }
def fwdPr (q : Pr) (i : Int) : Pr := { q with mtc := i, next := max q.next (i + 1), off := 0 }
def peerG (p : RP) (m : MP) : Pr := p.peers.getD (peerAt p m) P0
def isPeer (p : RP) (m : MP) : Bool := decide (peerAt p m < p.peers.length)
noncomputable def ackP (p : RP) (m : MP) : RP :=
 if isPeer p m = false then p
 else if m.ok = false then setPr p (peerAt p m) (backPr (peerG p m) m.index)
 else if m.index ≤ (peerG p m).mtc ∨ lastI p.g < m.index then p
 else commitP (setPr p (peerAt p m) (fwdPr (peerG p m) m.index))
noncomputable def ackMs (p : RP) (m : MP) : List MP :=
 if isPeer p m = false then []
 else if m.ok = false then [updateP (setPr p (peerAt p m) (backPr (peerG p m) m.index)) (backPr (peerG p m) m.index)]
 else if m.index ≤ (peerG p m).mtc ∨ lastI p.g < m.index then []
 else if (ackP p m).role = 2 ∧ (fwdPr (peerG p m) m.index).next ≤ lastI p.g then [updateP (ackP p m) (fwdPr (peerG p m) m.index)] else []
def gotBad (p : RP) (m : MP) : Bool := !isPeer p m || (decide (p.base < (peerG p m).next) || (!decide (m.index = p.base) || (decide (m.off < 0) || decide ((p.img.length : Int) < m.off))))
def gotPr (p : RP) (m : MP) : Pr := { peerG p m with off := m.off }
def gotP (p : RP) (m : MP) : RP := if gotBad p m = true then p else setPr p (peerAt p m) (gotPr p m)
def gotMs (p : RP) (m : MP) : List MP := if gotBad p m = true then [] else [updateP (gotP p m) (gotPr p m)]
def hearBad (p : RP) (m : MP) : Bool := !decide (m.to = p.id) || (decide (m.frm = p.id) || (decide (m.frm < 1) || (decide (5 < m.frm) || decide (4611686018427387904 < m.term))))
def hearOff (p : RP) (m : MP) : Bool := decide (p.term < m.term) && (decide (m.kind = 1) && (decide (p.role = 2) || (!decide (p.leader = 0) && decide (p.ticks < 3))))
def hear1 (p : RP) (m : MP) : RP := if p.term < m.term then followP p m.term 0 else p
noncomputable def doesP (p : RP) (m : MP) : RP :=
 if m.kind = 1 then voteP p m else if m.kind = 2 then grantP p m else if m.kind = 3 ∨ m.kind = 5 then leadsP p m else if m.kind = 4 then ackP p m else if m.kind = 6 then gotP p m else p
noncomputable def doesM (p : RP) (m : MP) : List MP :=
 if m.kind = 1 then [grantM (voteP p m) m.frm (voteOk p m)] else if m.kind = 2 then grantMs p m else if m.kind = 3 ∨ m.kind = 5 then leadsM p m else if m.kind = 4 then ackMs p m else if m.kind = 6 then gotMs p m else []
noncomputable def hearP (p : RP) (m : MP) : RP := if hearBad p m = true ∨ hearOff p m = true then p else doesP (hear1 p m) m
noncomputable def hearM (p : RP) (m : MP) : List MP := if hearBad p m = true ∨ hearOff p m = true then [] else doesM (hear1 p m) m
def hearE (p : RP) (m : MP) : Int := if hearBad p m = true then 1 else 0
structure EP where
 kind : Int
 m : MP
 ek : Int
 ed : Bs
 index : Int
 img : Bs
noncomputable def stepP (p : RP) (e : EP) : RP :=
 if e.kind = 1 then tickP p else if e.kind = 2 then hearP p e.m else if e.kind = 3 then propP p e.ek e.ed else if e.kind = 4 then compP p e.index e.img else p
noncomputable def stepM (p : RP) (e : EP) : List MP :=
 if e.kind = 1 then tickM p else if e.kind = 2 then hearM p e.m else if e.kind = 3 then propM p e.ek e.ed else []
def stepE (p : RP) (e : EP) : Int :=
 if e.kind = 1 then 0 else if e.kind = 2 then hearE p e.m else if e.kind = 3 then propE p e.ek e.ed else if e.kind = 4 then compE p e.index e.img else 1
end Go.Proofs.YtodcghipfolejaaGreat.Rf
namespace Go.Proofs.YtodcghipfolejaaGreat.Rf
open Go Go.Sl
theorem rec_put {α : Type} {C : α → List Value} {n : Nat} (hn : ∀ x, (C x).length = n) (d : α) : ∀ (l : List α) (i : Nat), i < l.length → ∀ (j : Nat) (vs : List Value) (y : α), j + vs.length ≤ n → C y = putx (C (l.getD i d)) j vs → putx (l.flatMap C) (n * i + j) vs = (l.set i y).flatMap C
 | x :: r, 0, _, j, vs, y, hj, hy => by
  have hx := hn x
  simp only [List.getD_cons_zero] at hy
  rw [List.set_cons_zero, List.flatMap_cons, List.flatMap_cons, hy]
  unfold putx
  rw [Nat.mul_zero, Nat.zero_add, List.take_append_of_le_length (by omega), List.drop_append_of_le_length (by omega)]
  simp
 | x :: r, i + 1, hi, j, vs, y, hj, hy => by
  have hx := hn x
  have ih := rec_put hn d r i (by simpa using hi) j vs y hj (by simpa using hy)
  rw [List.set_cons_succ, List.flatMap_cons, List.flatMap_cons, ← ih]
  unfold putx
  have e : n * (i + 1) + j = (C x).length + (n * i + j) := by rw [hx, Nat.mul_succ]; omega
  rw [e, List.take_length_add_append, Nat.add_assoc, List.drop_length_add_append]
  simp
def zeroK (l : List Pr) (k : Nat) : List Pr := (l.take k).map zeroOff ++ l.drop k
theorem zeroK_len (l : List Pr) (k : Nat) : (zeroK l k).length = l.length := by
 rw [zeroK, List.length_append, List.length_map, List.length_take, List.length_drop]; omega
theorem zeroK_all (l : List Pr) : zeroK l l.length = l.map zeroOff := by
 rw [zeroK, List.take_length, List.drop_length, List.append_nil]
theorem zeroK_get {l : List Pr} {k : Nat} (hk : k < l.length) : (zeroK l k).getD k P0 = l.getD k P0 := by
 have e : ((l.take k).map zeroOff).length = k := by rw [List.length_map, List.length_take]; omega
 rw [zeroK, List.getD_eq_getElem?_getD, List.getElem?_append_right (by omega), e, Nat.sub_self, List.getElem?_drop, Nat.add_zero, ← List.getD_eq_getElem?_getD]
theorem zeroK_succ {l : List Pr} {k : Nat} (hk : k < l.length) : (zeroK l k).set k (zeroOff (l.getD k P0)) = zeroK l (k + 1) := by
 have e : ((l.take k).map zeroOff).length = k := by rw [List.length_map, List.length_take]; omega
 have e2 : l.getD k P0 = l[k] := by simp [hk]
 have e3 : l.drop k = l[k] :: l.drop (k + 1) := List.drop_eq_getElem_cons hk
 rw [zeroK, zeroK, List.set_append_right _ _ (by omega), e, Nat.sub_self, e3, List.set_cons_zero, List.take_succ_eq_append_getElem hk, List.map_append, e2]
 simp
theorem Compact_no (g : LM) (i : Int) (hf : g.fit) (hd : g.dat) (hi : 0 ≤ i ∧ i ≤ 18446744073709551615) (h : hasL g i = false) : Ct Tryz.prog 65 [g.v, .int .u64 i] g.ok [] (fun v A => ∃ ca cc la lc, v = .tuple #[LM.v ⟨g.base, g.bt, g.conf, g.l, ca, cc, la, lc⟩, .bool false] ∧ A = []) := by
 refine Ct.mono (Compact_ct g i hf hd hi) ?_
 rintro v A (⟨_, ca, cc, la, lc, rfl, rfl⟩ | ⟨h2, _⟩)
 ·exact ⟨_, ⟨ca, cc, la, lc, rfl, rfl⟩, fun F w hw => hw.dropAll⟩
 ·rw [h] at h2; cases h2
theorem Compact_yes (g : LM) (i : Int) (hf : g.fit) (hd : g.dat) (hi : 0 ≤ i ∧ i ≤ 18446744073709551615) (h : hasL g i = true) : Ct Tryz.prog 65 [g.v, .int .u64 i] g.ok [] (fun v A => ∃ ca cc la lc, v = .tuple #[LM.v ⟨i, termV g i, (confAt g i).1, g.l.drop (i - g.base).toNat, ca, cc, la, lc⟩, .bool true] ∧ A = OwnG ⟨i, termV g i, (confAt g i).1, g.l.drop (i - g.base).toNat, ca, cc, la, lc⟩) := by
 refine Ct.mono (Compact_ct g i hf hd hi) ?_
 rintro v A (⟨h2, _⟩ | ⟨_, h2⟩)
 ·rw [h] at h2; cases h2
 ·exact ⟨_, h2, fun _ _ h => h⟩
theorem putx_pr {l : List Pr} {k j : Nat} {y : Pr} {vs : List Value} (hk : k < l.length) (hj : j + vs.length ≤ 4) (hy : prC y = putx (prC (l.getD k P0)) j vs) : putx (prV l) (4 * k + j) vs = prV (l.set k y) :=
 rec_put (C := prC) prC_len P0 l k hk j vs y hj hy
set_option maxRecDepth 8000 in
set_option maxHeartbeats 4000000 in
theorem compact_ct (X : Nat) (d : MD) (e : EV) (hf : PFit d.p) (hi : 0 ≤ e.index ∧ e.index ≤ 18446744073709551615) : Ct Tryz.prog 38 [Ptr X, evA e] (fun _ => True) (mdH X d) (MdP X d (compP d.p e.index e.img) [] (.int .i64 (compE d.p e.index e.img))) := by
 obtain ⟨p, a, outs, oa0, oc0⟩ := d
 obtain ⟨kind, m, et, ek, ed, i, img⟩ := e
 simp only at hf hi
 refine ct_enter 75 Tryz.func38 rfl rfl rfl ?_
 intro F _
 refine g_ownN (a := a.la) z_2 (fun _ hcap _ => ?_)
 obtain ⟨q1, hq1⟩ : ∃ q, q = decide (i ≤ p.base) := ⟨_, rfl⟩
 obtain ⟨q2, hq2⟩ : ∃ q, q = decide (p.commit < i) := ⟨_, rfl⟩
 obtain ⟨q3, hq3⟩ : ∃ q, q = decide ((262144 : Int) < (img.length : Nat)) := ⟨_, rfl⟩
 obtain ⟨q4, hq4⟩ : ∃ q, q = hasL p.g i := ⟨_, rfl⟩
 have hq3n : decide (262144 < img.length) = q3 := by rw [hq3]; exact decide_eq_decide.2 (by omega)
 have hb : compBad p i img = (q1 || (q2 || (q3 || !q4))) := by rw [compBad, hq3n, hq1, hq2, hq4]
 have hfin : compBad p i img = true → compP p i img = p ∧ compE p i img = 1 := fun h => ⟨if_pos h, if_pos h⟩
 repeat refine x_ ?_
 refine gl_boxA rfl rfl ?_; intro g3
 refine a_ ?_
 repeat refine n_ ?_
 rcases (show (q1 = false ∧ q2 = false ∧ q3 = false) ∨ q1 = true ∨ (q1 = false ∧ q2 = true) ∨ (q1 = false ∧ q2 = false ∧ q3 = true) by cases q1 <;> cases q2 <;> cases q3 <;> simp) with ⟨rfl, rfl, rfl⟩ | rfl | ⟨rfl, rfl⟩ | ⟨rfl, rfl, rfl⟩
 rotate_left
 iterate 3
  ·obtain ⟨e1, e2⟩ := hfin (by rw [hb]; simp)
   simp only [e1, e2]
   repeat refine y_ ?_
   refine g_draw ([1, 7, 11, 16, 21], [0, 1, 0, 4, 12, 28, 60, 124, 255, 511, 1023, 2047, 1023, 5119, 13311, 29695, 62463, 131071, 262143, 524287, 1048575, 2097151, 4194303, 8388607, 16777215], []) [.blk X (mdO ⟨p, a, outs, oa0, oc0⟩), .blk g3 (.cells (evC ⟨kind, m, et, ek, ed, i, img⟩).toArray 53)] 25 rfl ?_
   refine w_ 0 rfl z_1 ?_
   (refine ga_read_k 1 rfl z_9 (s_load_blk rfl .del a19_17) k_ rfl rfl rfl z_4 ?_)
   refine w_ 2 rfl (s_move rfl) ?_
   refine w_ 3 rfl (s_nilCheck rfl) ?_
   refine w_ 4 rfl z_1 ?_
   refine w_ 5 rfl z_1 ?_
   refine w_ 6 rfl z_1 ?_
   (refine ga_read_k 7 rfl z_11 (s_load_blk rfl .del a19_5) k_ rfl rfl rfl z_4 ?_)
   refine w_ 8 rfl ((s_leq rfl rfl).eb hq1) ?_
   refine w_ 9 rfl (s_move rfl) ?_
   (first | refine s_ 10 ?_ | refine ga_free_g 10 rfl z_1 rfl rfl rfl rfl rfl rfl z_4 ?_)
   (first | refine s_ 11 ?_ | refine ga_read_kg 11 rfl z_9 (s_load_blk rfl .del a19_17) k_ rfl rfl rfl rfl rfl rfl z_4 ?_)
   (first | refine s_ 12 ?_ | refine ga_free_g 12 rfl (s_move rfl) rfl rfl rfl rfl rfl rfl z_4 ?_)
   (first | refine s_ 13 ?_ | refine ga_free_g 13 rfl (s_nilCheck rfl) rfl rfl rfl rfl rfl rfl z_4 ?_)
   (first | refine s_ 14 ?_ | refine ga_free_g 14 rfl z_1 rfl rfl rfl rfl rfl rfl z_4 ?_)
   (first | refine s_ 15 ?_ | refine ga_free_g 15 rfl z_1 rfl rfl rfl rfl rfl rfl z_4 ?_)
   (first | refine s_ 16 ?_ | refine ga_read_kg 16 rfl z_11 (s_load_blk rfl .del a19_10) k_ rfl rfl rfl rfl rfl rfl z_4 ?_)
   (first | refine s_ 17 ?_ | refine ga_free_g 17 rfl ((s_gtr rfl rfl).eb hq2) rfl rfl rfl rfl rfl rfl z_4 ?_)
   refine w_ 18 rfl z_6 ?_
   refine w_ 19 rfl (s_move rfl) ?_
   (first | refine s_ 20 ?_ | refine ga_free_g 20 rfl z_1 rfl rfl rfl rfl rfl rfl z_4 ?_)
   (first | refine s_ 21 ?_ | refine ga_read_kg 21 rfl z_9 (s_load_blk rfl .del a19_18) k_ rfl rfl rfl rfl rfl rfl z_4 ?_)
   (first | refine s_ 22 ?_ | refine ga_free_g 22 rfl (s_len_str rfl) rfl rfl rfl rfl rfl rfl z_4 ?_)
   (first | refine s_ 23 ?_ | refine ga_free_g 23 rfl ((s_gtr rfl rfl).eb hq3) rfl rfl rfl rfl rfl rfl z_4 ?_)
   refine w_ 24 rfl z_6 ?_
   refine ga_done z_4 ?_
   repeat refine x_ ?_
   refine a_ ?_
   repeat refine n_ ?_
   refine g_ret ?_
   exact at_end1 rfl rfl (mdH X ⟨p, a, outs, oa0, oc0⟩ ++ []) (MdP.same X ⟨p, a, outs, oa0, oc0⟩ ⟨p, a, outs, oa0, oc0⟩ _ rfl) (fun w hw => hw.drop)
 repeat refine y_ ?_
 refine g_draw ([1, 7, 11, 16, 21], [0, 1, 0, 4, 12, 28, 60, 124, 255, 511, 1023, 2047, 1023, 5119, 13311, 29695, 62463, 131071, 262143, 524287, 1048575, 2097151, 4194303, 8388607, 16777215], []) [.blk X (mdO ⟨p, a, outs, oa0, oc0⟩), .blk g3 (.cells (evC ⟨kind, m, et, ek, ed, i, img⟩).toArray 53)] 25 rfl ?_
 refine w_ 0 rfl z_1 ?_
 (refine ga_read_k 1 rfl z_9 (s_load_blk rfl .del a19_17) k_ rfl rfl rfl z_4 ?_)
 refine w_ 2 rfl (s_move rfl) ?_
 refine w_ 3 rfl (s_nilCheck rfl) ?_
 refine w_ 4 rfl z_1 ?_
 refine w_ 5 rfl z_1 ?_
 refine w_ 6 rfl z_1 ?_
 (refine ga_read_k 7 rfl z_11 (s_load_blk rfl .del a19_5) k_ rfl rfl rfl z_4 ?_)
 refine w_ 8 rfl ((s_leq rfl rfl).eb hq1) ?_
 refine w_ 9 rfl (s_move rfl) ?_
 (refine ga_free_g 10 rfl z_1 rfl rfl rfl rfl rfl rfl z_4 ?_)
 (refine ga_read_kg 11 rfl z_9 (s_load_blk rfl .del a19_17) k_ rfl rfl rfl rfl rfl rfl z_4 ?_)
 (refine ga_free_g 12 rfl (s_move rfl) rfl rfl rfl rfl rfl rfl z_4 ?_)
 (refine ga_free_g 13 rfl (s_nilCheck rfl) rfl rfl rfl rfl rfl rfl z_4 ?_)
 (refine ga_free_g 14 rfl z_1 rfl rfl rfl rfl rfl rfl z_4 ?_)
 (refine ga_free_g 15 rfl z_1 rfl rfl rfl rfl rfl rfl z_4 ?_)
 (refine ga_read_kg 16 rfl z_11 (s_load_blk rfl .del a19_10) k_ rfl rfl rfl rfl rfl rfl z_4 ?_)
 (refine ga_free_g 17 rfl ((s_gtr rfl rfl).eb hq2) rfl rfl rfl rfl rfl rfl z_4 ?_)
 refine w_ 18 rfl z_12 ?_
 refine w_ 19 rfl (s_move rfl) ?_
 (refine ga_free_g 20 rfl z_1 rfl rfl rfl rfl rfl rfl z_4 ?_)
 (refine ga_read_kg 21 rfl z_9 (s_load_blk rfl .del a19_18) k_ rfl rfl rfl rfl rfl rfl z_4 ?_)
 (refine ga_free_g 22 rfl (s_len_str rfl) rfl rfl rfl rfl rfl rfl z_4 ?_)
 (refine ga_free_g 23 rfl ((s_gtr rfl rfl).eb hq3) rfl rfl rfl rfl rfl rfl z_4 ?_)
 refine w_ 24 rfl z_12 ?_
 refine ga_done z_4 ?_
 repeat refine y_ ?_
 cases q4
 ·obtain ⟨e1, e2⟩ := hfin (by rw [hb]; simp)
  simp only [e1, e2]
  repeat refine y_ ?_
  refine g_draw ([4, 6], [0, 1, 3, 7, 15, 0, 32, 127, 255, 511, 511, 0, 3071, 8191], [7, 11, 12]) [.blk X (mdO ⟨p, a, outs, oa0, oc0⟩), .blk g3 (.cells (evC ⟨kind, m, et, ek, ed, i, img⟩).toArray 53)] 14 rfl ?_
  refine w_ 0 rfl (s_move rfl) ?_
  refine w_ 1 rfl (s_nilCheck rfl) ?_
  refine w_ 2 rfl z_1 ?_
  refine w_ 3 rfl z_1 ?_
  refine ga_read_k 4 rfl z_11 ((s_load_blkN rfl .del z_7).eq (v' := (p.lm a).v) rfl) k_ rfl rfl rfl z_4 ?_
  refine w_ 5 rfl z_1 ?_
  (refine ga_read_k 6 rfl z_9 (s_load_blk rfl .del a19_17) k_ rfl rfl rfl z_4 ?_)
  refine ga_two 7 11 rfl rfl z_4 ?_ ?_
  refine gl_call _ rfl (Compact_no (p.lm a) i (hf.fit a hcap) (hf.datL a) hi hq4.symm) i_ (fun h hh ⟨bs, hb⟩ => ⟨Sat.rd (a := a.ca) hb z_2, Sat.rd (a := a.la) hb z_2⟩) rfl ?_; rintro v A ⟨ca, cc, la, lc, rfl, rfl⟩
  refine gl_nil ?_
  refine at_ga (.inl z_4) ?_
  refine w_ 8 rfl (s_move rfl) ?_
  refine w_ 9 rfl (s_extract rfl rfl) ?_
  refine w_ 10 rfl (s_extract rfl rfl) ?_
  refine ga_one 11 rfl z_4 ?_
  refine gl_allocA rfl ?_; intro g5
  refine gl_nil ?_
  refine at_ga (.inl z_4) ?_
  refine ga_one 12 rfl z_4 ?_
  (refine gl_store_blkW rfl rfl z_5 z_7 z_7 z_3 ?_)
  refine gl_nil ?_
  refine at_ga (.inl z_4) ?_
  refine w_ 13 rfl (s_assign rfl) ?_
  refine ga_done z_4 ?_
  rotate_left 1
  refine gl_allocA rfl ?_; intro g5
  refine gl_nil ?_
  refine at_ga (.inr (by exact keeps_of k_)) ?_
  refine ga_one 7 rfl z_4 ?_
  refine gl_call _ rfl (Compact_no (p.lm a) i (hf.fit a hcap) (hf.datL a) hi hq4.symm) i_ (fun h hh ⟨bs, hb⟩ => ⟨Sat.rd (a := a.ca) hb z_2, Sat.rd (a := a.la) hb z_2⟩) rfl ?_; rintro v A ⟨ca, cc, la, lc, rfl, rfl⟩
  refine gl_nil ?_
  refine at_ga (.inl z_4) ?_
  refine w_ 8 rfl (s_move rfl) ?_
  refine w_ 9 rfl (s_extract rfl rfl) ?_
  refine w_ 10 rfl (s_extract rfl rfl) ?_
  refine ga_one 12 rfl z_4 ?_
  (refine gl_store_blkW rfl rfl z_5 z_7 z_7 z_3 ?_)
  refine gl_nil ?_
  refine at_ga (.inl z_4) ?_
  refine w_ 13 rfl (s_assign rfl) ?_
  refine ga_done z_4 ?_
  rotate_left 1
  all_goals (repeat refine y_ ?_)
  all_goals
   repeat refine x_ ?_
   refine m_ ?_
   refine f_ (s_not rfl) ?_
   repeat refine x_ ?_
   refine a_ ?_
   repeat refine n_ ?_
   refine g_ret ?_
   exact at_end1 rfl rfl (mdH X ⟨p, a, outs, oa0, oc0⟩ ++ []) (MdP.same X ⟨p, a, outs, oa0, oc0⟩ ⟨p, a, outs, oa0, oc0⟩ _ rfl) (fun w hw => Hp.left (hw.perm (perm_up z_2 (perm_up z_2 (perm_up z_2 (perm_up z_2 (perm_up z_2 (perm_up z_2 (.refl _)))))))))
 have hb0 : compBad p i img = false := by rw [hb]; rfl
 obtain ⟨p1, hp1⟩ : ∃ p1 : RP, p1 = { p with base := i, bt := termV p.g i, conf := (confAt p.g i).1, l := p.l.drop (i - p.base).toNat, img := img } := ⟨_, rfl⟩
 have e1 : compP p i img = { p1 with peers := zeroK p.peers p.peers.length } := by rw [compP, hb0, if_neg (by decide), zeroK_all, hp1]
 have e2 : compE p i img = 0 := by rw [compE, hb0, if_neg (by decide)]
 simp only [e1, e2]
 refine g_cutE (ι := Nat × LM) (fun x => [(0, Ptr X), (3, Ptr g3), (5, Ptr x.1), (6, .bool true)]) (fun x => .blk x.1 (.cells #[.int .u64 i, .int .u64 (termV p.g i), .slice x.2.ca (confAt p.g i).1.length x.2.cc, .slice x.2.la (p.l.drop (i - p.base).toNat).length x.2.lc] 46) :: OwnL x.2.la (p.l.drop (i - p.base).toNat) x.2.lc :: OwnC x.2.ca (confAt p.g i).1 x.2.cc :: .blk g3 (.cells (evC ⟨kind, m, et, ek, ed, i, img⟩).toArray 53) :: mdH X ⟨p, a, outs, oa0, oc0⟩) ?_ (fun x => ?_)
 ·repeat refine y_ ?_
  refine g_draw ([4, 6], [0, 1, 3, 7, 15, 0, 32, 127, 255, 511, 511, 0, 3071, 8191], [7, 11, 12]) [.blk X (mdO ⟨p, a, outs, oa0, oc0⟩), .blk g3 (.cells (evC ⟨kind, m, et, ek, ed, i, img⟩).toArray 53)] 14 rfl ?_
  refine w_ 0 rfl (s_move rfl) ?_
  refine w_ 1 rfl (s_nilCheck rfl) ?_
  refine w_ 2 rfl z_1 ?_
  refine w_ 3 rfl z_1 ?_
  refine ga_read_k 4 rfl z_11 ((s_load_blkN rfl .del z_7).eq (v' := (p.lm a).v) rfl) k_ rfl rfl rfl z_4 ?_
  refine w_ 5 rfl z_1 ?_
  (refine ga_read_k 6 rfl z_9 (s_load_blk rfl .del a19_17) k_ rfl rfl rfl z_4 ?_)
  refine ga_two 7 11 rfl rfl z_4 ?_ ?_
  refine gl_call _ rfl (Compact_yes (p.lm a) i (hf.fit a hcap) (hf.datL a) hi hq4.symm) i_ (fun h hh ⟨bs, hb⟩ => ⟨Sat.rd (a := a.ca) hb z_2, Sat.rd (a := a.la) hb z_2⟩) rfl ?_; rw [confAt_any]; rintro v A ⟨ca, cc, la, lc, rfl, rfl⟩
  refine gl_nil ?_
  refine at_ga (.inl z_4) ?_
  refine w_ 8 rfl (s_move rfl) ?_
  refine w_ 9 rfl (s_extract rfl rfl) ?_
  refine w_ 10 rfl (s_extract rfl rfl) ?_
  refine ga_one 11 rfl z_4 ?_
  refine gl_allocA rfl ?_; intro g5
  refine gl_nil ?_
  refine at_ga (.inl z_4) ?_
  refine ga_one 12 rfl z_4 ?_
  (refine gl_store_blkW rfl rfl z_5 z_7 z_7 z_3 ?_)
  refine gl_nil ?_
  refine at_ga (.inl z_4) ?_
  refine w_ 13 rfl (s_assign rfl) ?_
  refine ga_done z_4 ?_
  rotate_left 1
  refine gl_allocA rfl ?_; intro g5
  refine gl_nil ?_
  refine at_ga (.inr (by exact keeps_of k_)) ?_
  refine ga_one 7 rfl z_4 ?_
  refine gl_call _ rfl (Compact_yes (p.lm a) i (hf.fit a hcap) (hf.datL a) hi hq4.symm) i_ (fun h hh ⟨bs, hb⟩ => ⟨Sat.rd (a := a.ca) hb z_2, Sat.rd (a := a.la) hb z_2⟩) rfl ?_; rw [confAt_any]; rintro v A ⟨ca, cc, la, lc, rfl, rfl⟩
  refine gl_nil ?_
  refine at_ga (.inl z_4) ?_
  refine w_ 8 rfl (s_move rfl) ?_
  refine w_ 9 rfl (s_extract rfl rfl) ?_
  refine w_ 10 rfl (s_extract rfl rfl) ?_
  refine ga_one 12 rfl z_4 ?_
  (refine gl_store_blkW rfl rfl z_5 z_7 z_7 z_3 ?_)
  refine gl_nil ?_
  refine at_ga (.inl z_4) ?_
  refine w_ 13 rfl (s_assign rfl) ?_
  refine ga_done z_4 ?_
  rotate_left 1
  all_goals (repeat refine y_ ?_)
  all_goals
   exact at_cutE (⟨g5, ⟨0, 0, [], [], ca, cc, la, lc⟩⟩ : Nat × LM) j_ (fun w hw => hw.perm (perm_up z_2 (perm_up z_2 (perm_up z_2 (perm_up z_2 (perm_up z_2 (perm_up z_2 (perm_up z_2 (perm_up z_2 (perm_up z_2 (.refl _)))))))))))
 obtain ⟨g5, gg⟩ := x
 obtain ⟨_, _, _, _, ca, cc, la, lc⟩ := gg
 simp only
 repeat refine x_ ?_
 refine m_ ?_
 refine f_ (s_not rfl) ?_
 repeat refine n_ ?_
 refine g_draw ([2, 4], [0, 0, 0, 0, 8, 5, 37, 101, 229, 511, 1023, 2047, 4095], [8, 12]) [.blk g3 (.cells (evC ⟨kind, m, et, ek, ed, i, img⟩).toArray 53), .blk g5 (.cells #[.int .u64 i, .int .u64 (termV p.g i), .slice ca (confAt p.g i).1.length cc, .slice la (p.l.drop (i - p.base).toNat).length lc] 46)] 13 rfl ?_
 refine w_ 0 rfl (s_move rfl) ?_
 refine w_ 1 rfl (s_move rfl) ?_
 (refine ga_read_k 2 rfl z_9 (s_load_blkW rfl .del z_7) k_ rfl rfl rfl z_4 ?_)
 refine w_ 3 rfl z_1 ?_
 (refine ga_read_k 4 rfl z_11 (s_load_blk rfl .del a19_18) k_ rfl rfl rfl z_4 ?_)
 refine w_ 5 rfl (s_nilCheck rfl) ?_
 refine w_ 6 rfl z_1 ?_
 refine w_ 7 rfl z_1 ?_
 refine ga_one 8 rfl z_4 ?_
 (refine gl_store_blk rfl rfl z_5 z_7 z_3 z_7 ?_)
 refine gl_nil ?_
 refine at_ga (.inr (by exact keeps_of k_)) ?_
 refine w_ 9 rfl (s_nilCheck rfl) ?_
 refine w_ 10 rfl z_1 ?_
 refine w_ 11 rfl z_1 ?_
 refine ga_one 12 rfl z_4 ?_
 (refine gl_store_blkC (pre := [_, _, _, _, _, _, _, _, _]) (post := [_, _, _, _, _, _, _, _, _]) rfl rfl z_5 z_7 z_7 z_7 ?_)
 refine gl_nil ?_
 refine at_ga (.inl z_4) ?_
 refine ga_done z_4 ?_
 repeat refine y_ ?_
 obtain ⟨b, hbe⟩ : ∃ b : RA, b = { a with ca := ca, cc := cc, la := la, lc := lc } := ⟨_, rfl⟩
 refine g_pull (H' := mdH X ⟨p1, b, outs, oa0, oc0⟩) (fun w hw => by subst hp1 hbe; exact Hp.left (hw.perm (perm_up z_2 (perm_up z_2 (perm_up z_2 (perm_up z_2 (perm_up z_2 (perm_up z_2 (.refl _))))))))) ?_
 have hpe : p1.peers = p.peers := by rw [hp1]
 have hpl := hf.peers
 repeat refine y_ ?_
 refine g_ownN (a := b.pa) z_2 (fun _ _ hpa => ?_)
 repeat refine x_ ?_
 refine m_ ?_
 refine f_ (s_nilCheck rfl) ?_
 refine f_ z_1 ?_
 refine f_ z_1 ?_
 refine r_ (by exact s_load_blk rfl z_2 a19_14) ?_
 refine f_ (s_len_sl rfl) ?_
 refine m_ ?_
 repeat refine n_ ?_
 refine g_loop (ι := Nat) (fun k => k ≤ p.peers.length) (fun k => [(0, Ptr X), (62, .int .i64 (p.peers.length : Nat)), (63, .int .i64 (k : Nat))]) (fun k => mdH X ⟨{ p1 with peers := zeroK p.peers k }, b, outs, oa0, oc0⟩) (fun k => p.peers.length - k) 0 (Nat.zero_le _) ?_ ?_ ?_
 ·rw [hpe]; (repeat (first | exact Sub.nil _ | refine Sub.cons rfl ?_))
 ·intro w hw
  have e : zeroK p.peers 0 = p1.peers := by rw [hpe]; rfl
  rw [e]; exact hw
 rintro k hk
 have hzl := zeroK_len p.peers k
 repeat refine x_ ?_
 refine f_ (s_lss rfl rfl) ?_
 repeat refine n_ ?_
 refine g_cond rfl (fun h => ?_) (fun h => ?_)
 rotate_left
 ·have hkl : k = p.peers.length := by simp at h; omega
  subst hkl
  repeat refine x_ ?_
  refine a_ ?_
  repeat refine n_ ?_
  refine g_ret ?_
  exact at_end1 rfl rfl (mdH X ⟨{ p1 with peers := zeroK p.peers p.peers.length }, b, outs, oa0, oc0⟩ ++ []) (MdP.same X ⟨p, a, outs, oa0, oc0⟩ ⟨{ p1 with peers := zeroK p.peers p.peers.length }, b, outs, oa0, oc0⟩ _ rfl) i_
 have hkl : k < p.peers.length := by simp at h; omega
 have hsome : ∃ ad, b.pa = some ad := hpa (by rw [hpe]; omega)
 repeat refine x_ ?_
 refine m_ ?_
 refine a_ ?_
 repeat refine x_ ?_
 refine m_ ?_
 refine f_ (s_nilCheck rfl) ?_
 refine f_ z_1 ?_
 refine f_ z_1 ?_
 refine r_ (by exact s_load_blk rfl z_2 a19_14) ?_
 refine m_ ?_
 refine f_ (s_indexAddr (len := (zeroK p.peers k).length) rfl hsome rfl (by omega)) ?_
 refine f_ z_8 ?_
 refine gl_store_own (q := 4 * k + 3) (by rw [show 4 * k + 3 = (k : Int).toNat * 4 + 3 by omega]; rfl) rfl z_5 z_7 (by decide) z_3 (by show 4 * k + 3 + 1 ≤ (prV (zeroK p.peers k)).length; rw [prV_len, zeroK_len]; omega) ?_
 repeat refine x_ ?_
 refine f_ (s_add_i64 rfl rfl (by omega)) ?_
 refine m_ ?_
 repeat refine n_ ?_
 refine at_next (k + 1) (by omega) (by omega) ?_ ?_
 ·(repeat (first | exact Sub.nil _ | refine Sub.cons rfl ?_))
 ·intro w hw
  have h1 := putx_pr (l := zeroK p.peers k) (k := k) (y := zeroOff (p.peers.getD k P0)) (j := 3) (vs := [.int .i64 0]) (by omega) (by decide) (by rw [zeroK_get hkl]; rfl)
  rw [zeroK_succ hkl] at h1
  have e5 : (zeroK p.peers (k + 1)).length = (zeroK p.peers k).length := by rw [zeroK_len, zeroK_len]
  simp only [mdH, mdO, OwnP, e5, ← h1]
  exact hw
end Go.Proofs.YtodcghipfolejaaGreat.Rf
