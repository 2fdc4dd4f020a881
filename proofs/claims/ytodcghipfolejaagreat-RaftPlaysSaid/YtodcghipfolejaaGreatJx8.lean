import Derived.Test.YtodcghipfolejaaGreatJx7
set_option linter.unusedVariables false
set_option linter.unusedSimpArgs false
namespace Go.Proofs.YtodcghipfolejaaGreat.Rf
open Go Go.Sl
theorem com_ex (l : List Int) (hs : List At2) : ∀ k, k ≤ hs.length → ∃ b, ComI l hs k b ∧ (b = 0 ∨ ∃ p ∈ hs, b = p.2) := by
 intro k
 induction k with
 | zero => intro _; exact ⟨0, ⟨Int.le_refl _, .inl rfl, fun j hj => absurd hj (by omega)⟩, .inl rfl⟩
 | succ k ih =>
  intro hk
  obtain ⟨b, hb, hb2⟩ := ih (by omega)
  have hp := hb.pos
  by_cases h : b < (hs.getD k (0, 0)).2 ∧ mostB l (whoL hs (hs.getD k (0, 0)).2) = true
  ·refine ⟨_, ⟨by omega, .inr h.2, fun j hj hm => ?_⟩, .inr ⟨hs.getD k (0, 0), ?_, rfl⟩⟩
   ·rcases Nat.lt_succ_iff_lt_or_eq.1 hj with h4 | rfl
    ·have := hb.all j h4 hm; omega
    ·exact Int.le_refl _
   ·rw [List.getD_eq_getElem?_getD, List.getElem?_eq_getElem (by omega)]; exact List.getElem_mem (by omega)
  ·refine ⟨b, ⟨hp, hb.has, fun j hj hm => ?_⟩, hb2⟩
   rcases Nat.lt_succ_iff_lt_or_eq.1 hj with h4 | rfl
   ·exact hb.all j h4 hm
   ·apply Classical.byContradiction
    intro hn
    exact h ⟨by omega, hm⟩
theorem com_bd {l : List Int} {hs : List At2} {M : Int} (hM : 0 ≤ M) (h : ∀ p ∈ hs, p.2 ≤ M) : 0 ≤ com l hs ∧ com l hs ≤ M := by
 obtain ⟨b, hb, hb2⟩ := com_ex l hs hs.length (Nat.le_refl _)
 rw [comI_end hb]
 refine ⟨hb.pos, ?_⟩
 rcases hb2 with rfl | ⟨p, hp, rfl⟩
 ·exact hM
 ·exact h p hp
theorem PFit.com {p : RP} (h : PFit p) : 0 ≤ comP p ∧ comP p ≤ 4611686018427387904 := by
 refine com_bd (by omega) (fun q hq => ?_)
 have := h.last
 rcases List.mem_cons.1 hq with rfl | hq
 ·show lastI p.g ≤ _; omega
 ·obtain ⟨r, hr, rfl⟩ := List.mem_map.1 hq
  exact (h.prs r hr).2.2.2.1
theorem getD_memP {l : List Pr} {k : Nat} (hk : k < l.length) : l.getD k P0 ∈ l := by
 rw [List.getD_eq_getElem?_getD, List.getElem?_eq_getElem hk]; exact List.getElem_mem hk
theorem takeP {l : List Pr} {k : Nat} (hk : k < l.length) : l.take (k + 1) = l.take k ++ [l.getD k P0] := by
 rw [List.take_succ_eq_append_getElem hk]; simp [hk]
theorem rdQ_own {F : Snap} {w : World} {H H' : List As} {a : Option Addr} {l : List Pr} {n c q i : Nat} {te : TypeId} (hw : Hp F w H) (u : Upd H (.own (.slice a n c) te 4 (prV l)) [] H') (h : q = 4 * i) (hi : i < l.length) : PeekC (hp w) (addO a q) (prC (l.getD i P0)) := rec_rdN (C := prC) (hw.ownN u).2.2.1 prC_len (by decide) P0 h hi
structure AI (p : RP) (k : Nat) (ms : List MM) (Z : List As) : Prop where
 le : k ≤ p.peers.length
 me : ms.map MM.p = (p.peers.take k).map (updateP p)
 len : ms.length = k
 ok : ∀ h, (∃ bs, Sat h Z bs) → ∀ m ∈ ms, MOk h m
set_option maxRecDepth 8000 in
set_option maxHeartbeats 2000000 in
theorem all_ct (X : Nat) (d : MD) (hf : PFit d.p) (ho : d.outs.length ≤ 1000000) : Ct Tryz.prog 53 [Ptr X] (fun _ => True) (mdH X d) (OutP X d.p d.a d.outs (allP d.p)) := by
 obtain ⟨p, a, outs, oa0, oc0⟩ := d
 simp only at hf ho
 have hpl := hf.peers
 refine ct_enter 24 Tryz.func53 rfl rfl rfl ?_
 intro F _
 obtain ⟨b, hb⟩ : ∃ b, b = decide (p.role = 2) := ⟨_, rfl⟩
 repeat refine x_ ?_
 refine m_ ?_
 refine f_ (s_nilCheck rfl) ?_
 refine f_ z_1 ?_
 refine f_ z_1 ?_
 refine r_ (by exact s_load_blk rfl z_2 a19_3) ?_
 refine f_ ((s_neq rfl rfl).eq (v' := .bool (!b)) (by rw [hb])) ?_
 repeat refine n_ ?_
 cases b
 ·have e : allP p = [] := if_neg (of_decide_eq_false hb.symm)
  simp only [e]
  repeat refine y_ ?_
  refine g_ret ?_
  exact at_end0 rfl (mdH X ⟨p, a, outs, oa0, oc0⟩ ++ []) ⟨rfl, [], oa0, oc0, [], rfl, by simp only [List.append_nil], fun h _ m hm => by cases hm⟩ i_
 have e : allP p = p.peers.map (updateP p) := if_pos (of_decide_eq_true hb.symm)
 simp only [e]
 repeat refine y_ ?_
 refine g_ownN (a := a.pa) z_2 (fun _ _ hpa => ?_)
 repeat refine x_ ?_
 refine m_ ?_
 refine f_ (s_nilCheck rfl) ?_
 refine f_ z_1 ?_
 refine f_ z_1 ?_
 refine r_ (by exact s_load_blk rfl z_2 a19_14) ?_
 refine f_ (s_len_sl rfl) ?_
 refine m_ ?_
 repeat refine n_ ?_
 refine g_loop (ι := Nat × List MM × Option Addr × Nat × List As) (fun i => AI p i.1 i.2.1 i.2.2.2.2) (fun i => [(0, Ptr X), (14, .slice a.pa p.peers.length a.pc), (15, .int .i64 (p.peers.length : Nat)), (16, .int .i64 (i.1 : Nat))]) (fun i => mdH X ⟨p, a, outs ++ i.2.1, i.2.2.1, i.2.2.2.1⟩ ++ i.2.2.2.2) (fun i => p.peers.length - i.1) (0, [], oa0, oc0, []) ⟨Nat.zero_le _, rfl, rfl, fun h _ m hm => by cases hm⟩ ?_ ?_ ?_
 ·(repeat (first | exact Sub.nil _ | refine Sub.cons rfl ?_))
 ·intro w hw
  simp only [List.append_nil]
  exact hw
 rintro ⟨k, ms, oa, oc, Z⟩ hI
 obtain ⟨hk, hms, hln, hok⟩ := hI
 simp only at hk hms hln hok
 repeat refine x_ ?_
 refine f_ (s_lss rfl rfl) ?_
 repeat refine n_ ?_
 refine g_cond rfl (fun h => ?_) (fun h => ?_)
 rotate_left
 ·have hkl : k = p.peers.length := by simp at h; omega
  rw [hkl, List.take_length] at hms
  repeat refine y_ ?_
  exact at_end0 rfl (mdH X ⟨p, a, outs ++ ms, oa, oc⟩ ++ Z) ⟨rfl, ms, oa, oc, Z, hms, rfl, hok⟩ i_
 have hkl : k < p.peers.length := by simp at h; omega
 have hsome : ∃ ad, a.pa = some ad := hpa (by show 0 < p.peers.length; omega)
 have hq := hf.prs _ (getD_memP hkl)
 have htk := takeP hkl
 obtain ⟨q, hqe⟩ : ∃ q, q = p.peers.getD k P0 := ⟨_, rfl⟩
 rw [← hqe] at hq htk
 have hkk : ((k, ms, oa, oc, Z) : Nat × List MM × Option Addr × Nat × List As).1 < p.peers.length := hkl
 repeat refine x_ ?_
 refine f_ (s_indexAddr rfl (by assumption) rfl (by omega)) ?_
 refine r_ (s_loadN (cs := prC q) rfl (fun w hw => by rw [hqe]; exact rdQ_own (a := a.pa) hw z_2 (i := k) (by simp only; omega) hkl) rfl) ?_
 refine gl_allocA rfl ?_; intro g3
 (refine gl_store_blkW rfl rfl z_5 z_7 z_7 z_3 ?_)
 repeat refine x_ ?_
 refine m_ ?_
 refine r_ z_14 ?_
 refine gl_call (.blk g3 (.cells #[.int .i64 q.node, .int .u64 q.next, .int .u64 q.mtc, .int .i64 q.off] 100) :: Z) rfl (update_ct X ⟨p, a, outs ++ ms, oa, oc⟩ q hf ⟨⟨hq.1, hq.2.1⟩, hq.2.2.2.2⟩ (by simp only [List.length_append]; omega)) (fun w hw => hw.perm (perm_up z_2 (perm_up z_2 (perm_up z_2 (perm_up z_2 (perm_up z_2 (perm_up z_2 (.refl _)))))))) (fun _ _ _ => trivial) rfl ?_; rintro v A ⟨rfl, ms1, oa1, oc1, Z1, e1, rfl, f1⟩
 repeat refine x_ ?_
 refine f_ (s_add_i64 rfl rfl (by omega)) ?_
 refine m_ ?_
 repeat refine n_ ?_
 refine at_next (k + 1, ms ++ ms1, oa1, oc1, Z1 ++ (.blk g3 (.cells #[.int .i64 q.node, .int .u64 q.next, .int .u64 q.mtc, .int .i64 q.off] 100) :: Z)) ⟨by simp only; omega, ?_, ?_, ?_⟩ (by simp only; omega) ?_ ?_
 ·rw [List.map_append, hms, e1, htk, List.map_append]; rfl
 ·have := congrArg List.length e1
  simp at this
  simp only [List.length_append]; omega
 ·intro h hs m hm
  obtain ⟨s1, s2⟩ := Sat.two2 hs
  obtain ⟨bs, b1, b2, _, _, s3⟩ := s2
  rcases List.mem_append.1 hm with hm | hm
  ·exact hok h ⟨b2, s3⟩ m hm
  ·exact f1 h s1 m hm
 ·(repeat (first | exact Sub.nil _ | refine Sub.cons rfl ?_))
 ·intro w hw
  simp only
  rw [← List.append_assoc outs ms ms1, ← List.append_assoc]
  exact hw
end Go.Proofs.YtodcghipfolejaaGreat.Rf
namespace Go.Proofs.YtodcghipfolejaaGreat.Rf
open Go Go.Sl
def haveK (p : RP) (k : Nat) : List At2 := (p.id, lastI p.g) :: (p.peers.take k).map fun q => (q.node, q.mtc)
theorem haveK_all (p : RP) : haveK p p.peers.length = haveP p := by rw [haveK, List.take_length]; rfl
theorem haveK_succ {p : RP} {k : Nat} (hk : k < p.peers.length) : haveK p (k + 1) = haveK p k ++ [((p.peers.getD k P0).node, (p.peers.getD k P0).mtc)] := by
 rw [haveK, haveK, takeP hk, List.map_append]; rfl
theorem haveK_len (p : RP) (k : Nat) : (haveK p k).length ≤ p.peers.length + 1 := by
 rw [haveK, List.length_cons, List.length_map, List.length_take]; omega
abbrev OwnA (a : Option Addr) (l : List At2) (c : Nat) : As := .own (.slice a l.length c) 143 2 (atV l)
theorem own_snocA {a : Option Addr} {l : List At2} {q : At2} {c n : Nat} (hn : n = l.length + 1) : As.own (.slice a n c) 143 2 (atV l ++ atV [q]) = OwnA a (l ++ [q]) c := by
 subst hn
 show _ = As.own (.slice a (l ++ [q]).length c) 143 2 (atV (l ++ [q]))
 rw [atV_append, List.length_append, List.length_singleton]
set_option maxRecDepth 8000 in
set_option maxHeartbeats 2000000 in
theorem commit_ct (X : Nat) (d : MD) (hf : PFit d.p) : Ct Tryz.prog 64 [Ptr X] (fun _ => True) (mdH X d) (MdP X d (commitP d.p) [] (.tuple #[])) := by
 obtain ⟨p, a, outs, oa0, oc0⟩ := d
 simp only at hf
 have hpl := hf.peers
 have hcn := hf.cn (lastI p.g)
 have hca := hf.ca (lastI p.g)
 have hcb := hf.com
 obtain ⟨cl, hcl⟩ : ∃ l, l = confAt p.g (lastI p.g) := ⟨_, rfl⟩
 rw [← hcl] at hcn hca
 have hcL : confL p = cl.1 := by rw [hcl]; rfl
 have hcI : confI p = cl.2 := by rw [hcl]; rfl
 obtain ⟨cm, hcm⟩ : ∃ c, c = comP p := ⟨_, rfl⟩
 have hcm2 : com cl.1 (haveP p) = cm := by rw [hcm, comP, hcL]
 rw [← hcm] at hcb
 obtain ⟨p1, hp1⟩ : ∃ q, q = commit1 p := ⟨_, rfl⟩
 have hP : commitP p = if inB cl.1 p.id = false ∧ cl.2 ≤ p1.commit then followP p1 p1.term 0 else p1 := by rw [commitP, hcL, hcI, hp1]
 simp only [hP]
 rw [commit1, ← hcm] at hp1
 refine ct_enter 108 Tryz.func64 rfl rfl rfl ?_
 intro F _
 refine g_ownN (a := a.la) z_2 (fun _ hcap _ => ?_)
 refine g_ownN (a := a.pa) z_2 (fun _ _ hpa => ?_)
 have hfit := hf.fit a hcap
 repeat refine x_ ?_
 refine m_ ?_
 refine f_ (s_nilCheck rfl) ?_
 refine f_ z_1 ?_
 refine f_ z_1 ?_
 refine r_ ((s_load_blkN rfl z_2 z_7).eq (v' := (p.lm a).v) rfl) ?_
 refine gl_call _ rfl (Conf_ct (p.lm a) hfit (hf.datL a)) i_ (fun h hh ⟨bs, hb⟩ => ⟨Sat.rd (a := a.ca) hb z_2, Sat.rd (a := a.la) hb z_2⟩) rfl ?_; rw [show lastI (p.lm a) = lastI p.g from rfl, confAt_any, ← hcl]; rintro v A ⟨ca, cc, rfl, rfl⟩
 refine m_ ?_
 refine f_ (s_extract rfl rfl) ?_
 refine f_ (s_extract rfl rfl) ?_
 refine a_ ?_
 refine a_ ?_
 repeat refine n_ ?_
 refine g_draw ([4], [0, 1, 3, 7, 15, 0, 32, 127, 255, 511], [6, 8]) [.blk X (mdO ⟨p, a, outs, oa0, oc0⟩)] 10 rfl ?_
 refine w_ 0 rfl (s_move rfl) ?_
 refine w_ 1 rfl (s_nilCheck rfl) ?_
 refine w_ 2 rfl z_1 ?_
 refine w_ 3 rfl z_1 ?_
 (refine ga_read_k 4 rfl z_11 (s_load_blk rfl .del a19_0) k_ rfl rfl rfl z_4 ?_)
 refine w_ 5 rfl (s_move rfl) ?_
 refine ga_one 6 rfl z_4 ?_
 refine gl_callp rfl (rend_ct X ⟨p, a, outs, oa0, oc0⟩ hf hcap) (fun h hh ⟨bs, hb⟩ => ⟨Sat.blk hb z_2, Sat.rd (a := a.la) hb z_2⟩) rfl ?_
 refine gl_nil ?_
 refine at_ga (.inr (by exact keeps_of k_)) ?_
 refine w_ 7 rfl (s_build rfl (run_build_struct (places := [(0, 1), (1, 1)]) rfl (by intro f hf; simp at hf; rcases hf with rfl | rfl <;> rfl) rfl)) ?_
 refine ga_one 8 rfl z_4 ?_
 refine gl_buildSliceU rfl rfl rfl rfl rfl rfl (xs := atV [(p.id, lastI p.g)]) rfl rfl ?_; intro a27 ha27
 refine gl_nil ?_
 refine at_ga (.inl z_4) ?_
 refine w_ 9 rfl (s_assign rfl) ?_
 refine ga_done z_4 ?_
 repeat refine x_ ?_
 refine m_ ?_
 refine f_ (s_nilCheck rfl) ?_
 refine f_ z_1 ?_
 refine f_ z_1 ?_
 refine r_ (by exact s_load_blk rfl z_2 a19_14) ?_
 refine f_ (s_len_sl rfl) ?_
 refine m_ ?_
 repeat refine n_ ?_
 refine g_loop (ι := Nat × Option Addr × Nat) (fun i => i.1 ≤ p.peers.length) (fun i => [(0, Ptr X), (2, .slice ca cl.1.length cc), (3, .int .u64 cl.2), (4, .slice i.2.1 (haveK p i.1).length i.2.2), (32, .slice a.pa p.peers.length a.pc), (33, .int .i64 (p.peers.length : Nat)), (34, .int .i64 (i.1 : Nat))]) (fun i => OwnA i.2.1 (haveK p i.1) i.2.2 :: OwnC ca cl.1 cc :: mdH X ⟨p, a, outs, oa0, oc0⟩) (fun i => p.peers.length - i.1) (0, a27, 1) (Nat.zero_le _) ?_ ?_ ?_
 ·(repeat (first | exact Sub.nil _ | refine Sub.cons rfl ?_))
 ·intro w hw; exact hw
 rintro ⟨k, b, c⟩ hk
 simp only at hk
 have hkl2 := haveK_len p k
 have hkl3 : (haveK p ((k, b, c) : Nat × Option Addr × Nat).1).length ≤ p.peers.length + 1 := hkl2
 repeat refine x_ ?_
 refine f_ (s_lss rfl rfl) ?_
 repeat refine n_ ?_
 refine g_cond rfl (fun h => ?_) (fun h => ?_)
 ·have hkl : k < p.peers.length := by simp at h; omega
  have hkk : ((k, b, c) : Nat × Option Addr × Nat).1 < p.peers.length := hkl
  have hsome : ∃ ad, a.pa = some ad := hpa (by show 0 < p.peers.length; omega)
  have hsu := haveK_succ hkl
  obtain ⟨q, hqe⟩ : ∃ q, q = p.peers.getD k P0 := ⟨_, rfl⟩
  rw [← hqe] at hsu
  repeat refine x_ ?_
  refine f_ (s_indexAddr rfl (by assumption) rfl (by omega)) ?_
  refine r_ (s_loadN (cs := prC q) rfl (fun w hw => by rw [hqe]; exact rdQ_own (a := a.pa) hw z_2 (i := k) (by simp only; omega) hkl) rfl) ?_
  refine gl_allocA rfl ?_; intro g6
  (refine gl_store_blkW rfl rfl z_5 z_7 z_7 z_3 ?_)
  repeat refine x_ ?_
  refine m_ ?_
  refine f_ z_1 ?_
  refine r_ (by exact s_load_blk rfl z_2 a4_0) ?_
  refine f_ z_1 ?_
  refine r_ (by exact s_load_blk rfl z_2 a4_2) ?_
  refine f_ (s_build rfl (run_build_struct (places := [(0, 1), (1, 1)]) rfl (by intro f hf; simp at hf; rcases hf with rfl | rfl <;> rfl) rfl)) ?_
  refine gl_buildSliceU rfl rfl rfl rfl rfl rfl (xs := atV [(q.node, q.mtc)]) rfl rfl ?_; intro a44 ha44
  refine gl_append (sz := 2) rfl rfl (fun a' c' => z_5) (fun w hw => (hw.ownN z_2).2.2.1) rfl rfl rfl (fun v hv => by simp [atV] at hv; rcases hv with rfl | rfl <;> rfl) (by show (_ + 1) * 16 ≤ _; omega) (by omega) rfl ?_; intro a45 c45 hc45
  refine a_ ?_
  repeat refine x_ ?_
  refine f_ (s_add_i64 rfl rfl (by omega)) ?_
  refine m_ ?_
  repeat refine n_ ?_
  refine at_next (k + 1, a45, c45) (by simp only; omega) (by simp only; omega) ?_ ?_
  ·simp only [hsu, List.length_append, List.length_singleton]
   (repeat (first | exact Sub.nil _ | refine Sub.cons rfl ?_))
  ·intro w hw
   simp only [hsu]
   rw [← own_snocA rfl]
   exact hw.drop.upd_same z_2
 have hkl : k = p.peers.length := by simp at h; omega
 subst hkl
 rw [haveK_all] at hkl2
 simp only [haveK_all]
 repeat refine x_ ?_
 refine m_ ?_
 refine m_ ?_
 refine gl_callp rfl (Commit_ct cl.1 (haveP p) ca b cc c (by omega) (by omega)) (fun h hh ⟨bs, hb⟩ => ⟨Sat.rd (a := ca) hb z_2, Sat.rd (a := b) hb z_2⟩) rfl ?_; rw [hcm2]
 refine a_ ?_
 repeat refine n_ ?_
 obtain ⟨q1, hq1⟩ : ∃ q, q = decide (p.commit < cm) := ⟨_, rfl⟩
 obtain ⟨q2, hq2⟩ : ∃ q, q = hasL p.g cm := ⟨_, rfl⟩
 obtain ⟨q3, hq3⟩ : ∃ q, q = decide (termV p.g cm = p.term) := ⟨_, rfl⟩
 repeat refine x_ ?_
 refine m_ ?_
 refine f_ (s_nilCheck rfl) ?_
 refine f_ z_1 ?_
 refine f_ z_1 ?_
 refine r_ ((s_load_blkN rfl z_2 z_7).eq (v' := (p.lm a).v) rfl) ?_
 refine m_ ?_
 refine gl_callp rfl (Term_ct (p.lm a) cm hfit (by omega)) (fun h hh ⟨bs, hs⟩ => Sat.rd (a := a.la) hs z_2) rfl ?_; rw [show termV (p.lm a) cm = termV p.g cm from rfl, show hasL (p.lm a) cm = hasL p.g cm from rfl, ← hq2]
 refine m_ ?_
 refine f_ (s_extract rfl rfl) ?_
 refine f_ (s_extract rfl rfl) ?_
 refine a_ ?_
 refine a_ ?_
 repeat refine n_ ?_
 have hcond : ∀ b, (q1 && (q2 && q3)) = b → p1 = if b = true then { p with commit := cm } else p := by
  intro b hb
  rw [hp1]
  have e : (p.commit < cm ∧ hasL p.g cm = true ∧ termV p.g cm = p.term) ↔ b = true := by
   rw [← hb, hq1, ← hq2, hq3]; simp
  by_cases hbb : b = true
  ·rw [if_pos hbb, if_pos (e.2 hbb)]
  ·rw [if_neg hbb, if_neg (fun h => hbb (e.1 h))]
 rcases (show (q1 = true ∧ q2 = true ∧ q3 = true) ∨ q1 = false ∨ (q1 = true ∧ q2 = false) ∨ (q1 = true ∧ q2 = true ∧ q3 = false) by cases q1 <;> cases q2 <;> cases q3 <;> simp) with ⟨rfl, rfl, rfl⟩ | rfl | ⟨rfl, rfl⟩ | ⟨rfl, rfl, rfl⟩
 case' inl =>
  have e1 : p1 = { p with commit := cm } := hcond true rfl
  repeat refine x_ ?_
  refine m_ ?_
  refine m_ ?_
  refine f_ (s_nilCheck rfl) ?_
  refine f_ z_1 ?_
  refine f_ z_1 ?_
  refine r_ (by exact s_load_blk rfl z_2 a19_10) ?_
  refine f_ ((s_gtr rfl rfl).eb hq1) ?_
  refine m_ ?_
  (refine v_ ?_; refine m_ ?_)
  refine f_ z_13 ?_
  refine m_ ?_
  (refine v_ ?_; refine m_ ?_)
  (refine v_ ?_; refine m_ ?_)
  (refine v_ ?_; refine f_ (s_nilCheck rfl) ?_)
  (refine v_ ?_; refine f_ z_1 ?_)
  (refine v_ ?_; refine f_ z_1 ?_)
  (refine v_ ?_; refine r_ (by exact s_load_blk rfl z_2 a19_1) ?_)
  (refine v_ ?_; refine f_ ((s_eql rfl rfl).eb hq3) ?_)
  refine f_ z_13 ?_
  repeat refine x_ ?_
  refine m_ ?_
  refine m_ ?_
  refine f_ (s_nilCheck rfl) ?_
  refine f_ z_1 ?_
  refine f_ z_1 ?_
  (refine gl_store_blkC (pre := [_, _, _, _, _, _, _, _, _, _]) (post := [_, _, _, _, _, _, _, _]) rfl rfl z_5 z_7 z_7 z_7 ?_)
  repeat refine n_ ?_
  refine g_pull (H' := OwnA b (haveP p) c :: OwnC ca cl.1 cc :: mdH X ⟨p1, a, outs, oa0, oc0⟩) (fun w hw => by rw [e1]; exact hw) ?_
 case' inr.inl =>
  have e1 : p1 = p := hcond false rfl
  repeat refine x_ ?_
  refine m_ ?_
  refine m_ ?_
  refine f_ (s_nilCheck rfl) ?_
  refine f_ z_1 ?_
  refine f_ z_1 ?_
  refine r_ (by exact s_load_blk rfl z_2 a19_10) ?_
  refine f_ ((s_gtr rfl rfl).eb hq1) ?_
  refine m_ ?_
  (refine gl_guard_no rfl rfl rfl rfl rfl rfl rfl ?_)
  refine f_ z_12 ?_
  refine m_ ?_
  (refine gl_guard_no rfl rfl rfl rfl rfl rfl rfl ?_)
  (refine gl_guard_no rfl rfl rfl rfl rfl rfl rfl ?_)
  (refine gl_guard_no rfl rfl rfl rfl rfl rfl rfl ?_)
  (refine gl_guard_no rfl rfl rfl rfl rfl rfl rfl ?_)
  (refine gl_guard_no rfl rfl rfl rfl rfl rfl rfl ?_)
  (refine gl_guard_no rfl rfl rfl rfl rfl rfl rfl ?_)
  (refine gl_guard_no rfl rfl rfl rfl rfl rfl rfl ?_)
  refine f_ z_12 ?_
  repeat refine n_ ?_
  refine g_pull (H' := OwnA b (haveP p) c :: OwnC ca cl.1 cc :: mdH X ⟨p1, a, outs, oa0, oc0⟩) (fun w hw => by rw [e1]; exact hw) ?_
 case' inr.inr.inl =>
  have e1 : p1 = p := hcond false rfl
  repeat refine x_ ?_
  refine m_ ?_
  refine m_ ?_
  refine f_ (s_nilCheck rfl) ?_
  refine f_ z_1 ?_
  refine f_ z_1 ?_
  refine r_ (by exact s_load_blk rfl z_2 a19_10) ?_
  refine f_ ((s_gtr rfl rfl).eb hq1) ?_
  refine m_ ?_
  (refine v_ ?_; refine m_ ?_)
  refine f_ z_13 ?_
  refine m_ ?_
  (refine gl_guard_no rfl rfl rfl rfl rfl rfl rfl ?_)
  (refine gl_guard_no rfl rfl rfl rfl rfl rfl rfl ?_)
  (refine gl_guard_no rfl rfl rfl rfl rfl rfl rfl ?_)
  (refine gl_guard_no rfl rfl rfl rfl rfl rfl rfl ?_)
  (refine gl_guard_no rfl rfl rfl rfl rfl rfl rfl ?_)
  (refine gl_guard_no rfl rfl rfl rfl rfl rfl rfl ?_)
  (refine gl_guard_no rfl rfl rfl rfl rfl rfl rfl ?_)
  refine f_ z_12 ?_
  repeat refine n_ ?_
  refine g_pull (H' := OwnA b (haveP p) c :: OwnC ca cl.1 cc :: mdH X ⟨p1, a, outs, oa0, oc0⟩) (fun w hw => by rw [e1]; exact hw) ?_
 case' inr.inr.inr =>
  have e1 : p1 = p := hcond false rfl
  repeat refine x_ ?_
  refine m_ ?_
  refine m_ ?_
  refine f_ (s_nilCheck rfl) ?_
  refine f_ z_1 ?_
  refine f_ z_1 ?_
  refine r_ (by exact s_load_blk rfl z_2 a19_10) ?_
  refine f_ ((s_gtr rfl rfl).eb hq1) ?_
  refine m_ ?_
  (refine v_ ?_; refine m_ ?_)
  refine f_ z_13 ?_
  refine m_ ?_
  (refine v_ ?_; refine m_ ?_)
  (refine v_ ?_; refine m_ ?_)
  (refine v_ ?_; refine f_ (s_nilCheck rfl) ?_)
  (refine v_ ?_; refine f_ z_1 ?_)
  (refine v_ ?_; refine f_ z_1 ?_)
  (refine v_ ?_; refine r_ (by exact s_load_blk rfl z_2 a19_1) ?_)
  (refine v_ ?_; refine f_ ((s_eql rfl rfl).eb hq3) ?_)
  refine f_ z_13 ?_
  repeat refine n_ ?_
  refine g_pull (H' := OwnA b (haveP p) c :: OwnC ca cl.1 cc :: mdH X ⟨p1, a, outs, oa0, oc0⟩) (fun w hw => by rw [e1]; exact hw) ?_
 all_goals
  have hid : p1.id = p.id := by rw [e1]
  obtain ⟨q4, hq4⟩ : ∃ q, q = inB cl.1 p.id := ⟨_, rfl⟩
  obtain ⟨q5, hq5⟩ : ∃ q, q = decide (cl.2 ≤ p1.commit) := ⟨_, rfl⟩
  rw [← hq4]
  cases q4
  rotate_left
  ·rw [if_neg (by simp)]
   repeat refine x_ ?_
   refine m_ ?_
   refine m_ ?_
   refine f_ (s_nilCheck rfl) ?_
   refine f_ z_1 ?_
   refine f_ z_1 ?_
   refine r_ (by exact s_load_blk rfl z_2 a19_0) ?_
   refine gl_callp rfl (Contains_ct cl.1 p1.id ca cc (by omega)) (fun h hh ⟨bs, hb⟩ => Sat.rd (a := ca) hb z_2) rfl ?_; rw [hid, ← hq4]
   refine f_ (s_not rfl) ?_
   refine m_ ?_
   (refine gl_guard_no rfl rfl rfl rfl rfl rfl rfl ?_)
   (refine gl_guard_no rfl rfl rfl rfl rfl rfl rfl ?_)
   (refine gl_guard_no rfl rfl rfl rfl rfl rfl rfl ?_)
   (refine gl_guard_no rfl rfl rfl rfl rfl rfl rfl ?_)
   (refine gl_guard_no rfl rfl rfl rfl rfl rfl rfl ?_)
   (refine gl_guard_no rfl rfl rfl rfl rfl rfl rfl ?_)
   (refine gl_guard_no rfl rfl rfl rfl rfl rfl rfl ?_)
   refine f_ z_12 ?_
   repeat refine n_ ?_
   exact at_end0 rfl (mdH X ⟨p1, a, outs, oa0, oc0⟩ ++ []) (MdP.same X ⟨p, a, outs, oa0, oc0⟩ ⟨p1, a, outs, oa0, oc0⟩ _ rfl) (fun w hw => hw.drop.drop)
  cases q5
  ·have h5 := of_decide_eq_false hq5.symm
   rw [if_neg (fun h => h5 h.2)]
   repeat refine x_ ?_
   refine m_ ?_
   refine m_ ?_
   refine f_ (s_nilCheck rfl) ?_
   refine f_ z_1 ?_
   refine f_ z_1 ?_
   refine r_ (by exact s_load_blk rfl z_2 a19_0) ?_
   refine gl_callp rfl (Contains_ct cl.1 p1.id ca cc (by omega)) (fun h hh ⟨bs, hb⟩ => Sat.rd (a := ca) hb z_2) rfl ?_; rw [hid, ← hq4]
   refine f_ (s_not rfl) ?_
   refine m_ ?_
   (refine v_ ?_; refine m_ ?_)
   (refine v_ ?_; refine m_ ?_)
   (refine v_ ?_; refine f_ (s_nilCheck rfl) ?_)
   (refine v_ ?_; refine f_ z_1 ?_)
   (refine v_ ?_; refine f_ z_1 ?_)
   (refine v_ ?_; refine r_ (by exact s_load_blk rfl z_2 a19_10) ?_)
   (refine v_ ?_; refine f_ ((s_leq rfl rfl).eb hq5) ?_)
   refine f_ z_13 ?_
   repeat refine n_ ?_
   exact at_end0 rfl (mdH X ⟨p1, a, outs, oa0, oc0⟩ ++ []) (MdP.same X ⟨p, a, outs, oa0, oc0⟩ ⟨p1, a, outs, oa0, oc0⟩ _ rfl) (fun w hw => hw.drop.drop)
  ·have h5 := of_decide_eq_true hq5.symm
   rw [if_pos ⟨rfl, h5⟩]
   repeat refine x_ ?_
   refine m_ ?_
   refine m_ ?_
   refine f_ (s_nilCheck rfl) ?_
   refine f_ z_1 ?_
   refine f_ z_1 ?_
   refine r_ (by exact s_load_blk rfl z_2 a19_0) ?_
   refine gl_callp rfl (Contains_ct cl.1 p1.id ca cc (by omega)) (fun h hh ⟨bs, hb⟩ => Sat.rd (a := ca) hb z_2) rfl ?_; rw [hid, ← hq4]
   refine f_ (s_not rfl) ?_
   refine m_ ?_
   (refine v_ ?_; refine m_ ?_)
   (refine v_ ?_; refine m_ ?_)
   (refine v_ ?_; refine f_ (s_nilCheck rfl) ?_)
   (refine v_ ?_; refine f_ z_1 ?_)
   (refine v_ ?_; refine f_ z_1 ?_)
   (refine v_ ?_; refine r_ (by exact s_load_blk rfl z_2 a19_10) ?_)
   (refine v_ ?_; refine f_ ((s_leq rfl rfl).eb hq5) ?_)
   refine f_ z_13 ?_
   repeat refine x_ ?_
   refine m_ ?_
   refine m_ ?_
   refine f_ (s_nilCheck rfl) ?_
   refine f_ z_1 ?_
   refine f_ z_1 ?_
   refine r_ (by exact s_load_blk rfl z_2 a19_1) ?_
   refine gl_call [OwnA b (haveP p) c, OwnC ca cl.1 cc] rfl (follow_ct X ⟨p1, a, outs, oa0, oc0⟩ p1.term 0) (fun w hw => hw.perm (perm_up z_2 (perm_up z_2 (perm_up z_2 (perm_up z_2 (perm_up z_2 (perm_up z_2 (.refl _)))))))) (fun _ _ _ => trivial) rfl ?_; rintro v A ⟨rfl, d2, Z2, e2, o2, rfl, f2⟩
   repeat refine n_ ?_
   exact at_end0 rfl (mdH X d2 ++ Z2) ⟨rfl, d2, Z2, e2, o2, rfl, f2⟩ (fun w hw => Hp.left hw)
end Go.Proofs.YtodcghipfolejaaGreat.Rf
namespace Go.Proofs.YtodcghipfolejaaGreat.Rf
open Go Go.Sl
def outK (p : RP) (k : Nat) : List Pr := (((confL p).take k).filter fun n => decide (n ≠ p.id)).map (peerOf p)
theorem outK_all (p : RP) : outK p (confL p).length = peersL p := by rw [outK, List.take_length]; rfl
theorem takeI {l : List Int} {k : Nat} (hk : k < l.length) : l.take (k + 1) = l.take k ++ [l.getD k 0] := by
 rw [List.take_succ_eq_append_getElem hk]; simp [hk]
theorem outK_succ {p : RP} {k : Nat} (hk : k < (confL p).length) : outK p (k + 1) = outK p k ++ (if (confL p).getD k 0 = p.id then [] else [peerOf p ((confL p).getD k 0)]) := by
 rw [outK, outK, takeI hk, List.filter_append, List.map_append]
 congr 1
 by_cases h : (confL p).getD k 0 = p.id
 ·rw [if_pos h]; simp only [List.filter_cons, List.filter_nil]; rw [if_neg (by simp only [ne_eq, decide_not]; rw [decide_eq_true h]; decide)]; rfl
 ·rw [if_neg h]; simp only [List.filter_cons, List.filter_nil]; rw [if_pos (by simpa using h)]; rfl
theorem outK_len (p : RP) (k : Nat) : (outK p k).length ≤ (confL p).length := by
 rw [outK, List.length_map]
 exact Nat.le_trans (List.length_filter_le _ _) (by rw [List.length_take]; omega)
def bstK (p : RP) (n : Int) (j : Nat) : Pr := (p.peers.take j).foldl (fun b q => if q.node = n then q else b) ⟨n, lastI p.g + 1, 0, 0⟩
theorem bstK_all (p : RP) (n : Int) : bstK p n p.peers.length = peerOf p n := by rw [bstK, List.take_length]; rfl
theorem bstK_succ {p : RP} {n : Int} {j : Nat} (hj : j < p.peers.length) : bstK p n (j + 1) = if (p.peers.getD j P0).node = n then p.peers.getD j P0 else bstK p n j := by
 rw [bstK, takeP hj, List.foldl_append]; rfl
theorem own_snocP {a : Option Addr} {l : List Pr} {q : Pr} {c n : Nat} (hn : n = l.length + 1) : As.own (.slice a n c) 100 4 (prV l ++ prC q) = OwnP a (l ++ [q]) c := by
 subst hn
 show _ = As.own (.slice a (l ++ [q]).length c) 100 4 (prV (l ++ [q]))
 rw [prV_append, List.length_append, List.length_singleton]; simp
theorem rdN_own {F : Snap} {w : World} {H H' : List As} {a : Option Addr} {l : List Int} {n c q i : Nat} {te : TypeId} (hw : Hp F w H) (u : Upd H (.own (.slice a n c) te 1 (intsV l)) [] H') (h : q = i) (hi : i < l.length) : PeekC (hp w) (addO a q) [.int .i64 (l.getD i 0)] := rdI_own hw u h hi
set_option maxRecDepth 8000 in
set_option maxHeartbeats 4000000 in
theorem peers_ct (X : Nat) (d : MD) (hf : PFit d.p) : Ct Tryz.prog 63 [Ptr X] (fun _ => True) (mdH X d) (MdP X d { d.p with peers := peersL d.p } [] (.tuple #[])) := by
 obtain ⟨p, a, outs, oa0, oc0⟩ := d
 simp only at hf
 have hpl := hf.peers
 have hcn : (confL p).length ≤ 1000000 := hf.cn (lastI p.g)
 have hla := hf.last
 refine ct_enter 56 Tryz.func63 rfl rfl rfl ?_
 intro F _
 refine g_ownN (a := a.la) z_2 (fun _ hcap _ => ?_)
 refine g_ownN (a := a.pa) z_2 (fun _ _ hpa => ?_)
 repeat refine x_ ?_
 refine a_ ?_
 repeat refine x_ ?_
 refine m_ ?_
 refine f_ (s_nilCheck rfl) ?_
 refine f_ z_1 ?_
 refine r_ ((s_load_blkN rfl z_2 z_7).eq (v' := rsV p a) rfl) ?_
 refine gl_call _ rfl (Members_ct p a hf hcap) i_ (fun h hh ⟨bs, hb⟩ => ⟨Sat.rd (a := a.ca) hb z_2, Sat.rd (a := a.la) hb z_2⟩) rfl ?_; rintro v A ⟨ca, cc, rfl, rfl⟩
 refine f_ (s_len_sl rfl) ?_
 refine m_ ?_
 repeat refine n_ ?_
 obtain ⟨cl, hcl⟩ : ∃ l, l = confL p := ⟨_, rfl⟩
 rw [← hcl] at hcn
 rw [← hcl]
 refine g_own_nil 100 4 ?_
 refine g_ownN (a := ca) z_2 (fun _ _ hca => ?_)
 refine g_loop (ι := Nat × Option Addr × Nat) (fun i => i.1 ≤ cl.length) (fun i => [(0, Ptr X), (2, .slice i.2.1 (outK p i.1).length i.2.2), (12, .slice ca cl.length cc), (13, .int .i64 (cl.length : Nat)), (14, .int .i64 (i.1 : Nat))]) (fun i => OwnP i.2.1 (outK p i.1) i.2.2 :: OwnC ca cl cc :: mdH X ⟨p, a, outs, oa0, oc0⟩) (fun i => cl.length - i.1) (0, none, 0) (Nat.zero_le _) ?_ ?_ ?_
 ·(repeat (first | exact Sub.nil _ | refine Sub.cons rfl ?_))
 ·intro w hw; exact hw
 rintro ⟨k, b, c⟩ hk
 simp only at hk
 have hol := outK_len p k
 rw [← hcl] at hol
 have hol2 : (outK p ((k, b, c) : Nat × Option Addr × Nat).1).length ≤ cl.length := hol
 repeat refine x_ ?_
 refine f_ (s_lss rfl rfl) ?_
 repeat refine n_ ?_
 refine g_cond rfl (fun h => ?_) (fun h => ?_)
 rotate_left
 ·have hkl : k = cl.length := by simp at h; omega
  subst hkl
  have e : outK p cl.length = peersL p := by rw [hcl, outK_all]
  simp only [e]
  repeat refine x_ ?_
  refine m_ ?_
  refine m_ ?_
  refine f_ (s_nilCheck rfl) ?_
  refine f_ z_1 ?_
  refine f_ z_1 ?_
  (refine gl_store_blkC (pre := [_, _, _, _, _, _, _, _, _, _, _, _, _, _]) (post := [_, _, _, _]) rfl rfl z_5 z_7 z_7 z_7 ?_)
  repeat refine n_ ?_
  exact at_end0 rfl _ (MdP.same X ⟨p, a, outs, oa0, oc0⟩ ⟨{ p with peers := peersL p }, { a with pa := b, pc := c }, outs, oa0, oc0⟩ _ rfl) (fun w hw => by rw [List.append_nil]; exact Hp.left (R := [OwnC ca cl cc, OwnP a.pa p.peers a.pc]) (hw.perm (perm_up z_2 (perm_up z_2 (perm_up z_2 (perm_up z_2 (perm_up z_2 (perm_up z_2 (.refl _)))))))))
 have hkl : k < cl.length := by simp at h; omega
 have hkk : ((k, b, c) : Nat × Option Addr × Nat).1 < cl.length := hkl
 have hsome : ∃ ad, ca = some ad := hca (by omega)
 have hsu := outK_succ (p := p) (k := k) (by rw [← hcl]; exact hkl)
 rw [← hcl] at hsu
 obtain ⟨n, hne⟩ : ∃ n, n = cl.getD k 0 := ⟨_, rfl⟩
 rw [← hne] at hsu
 obtain ⟨q, hq⟩ : ∃ q, q = decide (n = p.id) := ⟨_, rfl⟩
 repeat refine x_ ?_
 refine f_ (s_indexAddr rfl (by assumption) rfl (by omega)) ?_
 refine r_ (s_load1 (v := .int .i64 n) rfl (fun w hw => by rw [hne]; exact rdN_own (a := ca) hw z_2 (i := k) (by simp only; omega) hkl)) ?_
 refine a_ ?_
 repeat refine x_ ?_
 refine m_ ?_
 refine m_ ?_
 refine f_ (s_nilCheck rfl) ?_
 refine f_ z_1 ?_
 refine f_ z_1 ?_
 refine r_ (by exact s_load_blk rfl z_2 a19_0) ?_
 refine f_ ((s_eql rfl rfl).eb hq) ?_
 repeat refine n_ ?_
 cases q
 rotate_left
 ·rw [if_pos (of_decide_eq_true hq.symm), List.append_nil] at hsu
  repeat refine x_ ?_
  refine f_ (s_add_i64 rfl rfl (by omega)) ?_
  refine m_ ?_
  repeat refine n_ ?_
  refine at_next (k + 1, b, c) (by simp only; omega) (by simp only; omega) ?_ ?_
  ·simp only [hsu]; (repeat (first | exact Sub.nil _ | refine Sub.cons rfl ?_))
  ·intro w hw; simp only [hsu]; exact hw
 rw [if_neg (of_decide_eq_false hq.symm)] at hsu
 repeat refine x_ ?_
 refine m_ ?_
 refine m_ ?_
 refine gl_callp rfl (rend_ct X ⟨p, a, outs, oa0, oc0⟩ hf hcap) (fun h hh ⟨bs, hb⟩ => ⟨Sat.blk hb z_2, Sat.rd (a := a.la) hb z_2⟩) rfl ?_; rw [show lastI (⟨p, a, outs, oa0, oc0⟩ : MD).p.g = lastI p.g from rfl]
 refine f_ (s_add_u64 rfl rfl (by omega)) ?_
 refine f_ (s_build rfl (run_build_struct (places := [(0, 1), (1, 1), (2, 1), (3, 1)]) rfl (by intro f hf; simp at hf; rcases hf with rfl | rfl | rfl | rfl <;> rfl) rfl)) ?_
 refine gl_allocA rfl ?_; intro g5
 (refine gl_store_blkW rfl rfl z_5 z_7 z_7 z_3 ?_)
 repeat refine x_ ?_
 refine m_ ?_
 refine f_ (s_nilCheck rfl) ?_
 refine f_ z_1 ?_
 refine f_ z_1 ?_
 refine r_ (by exact s_load_blk rfl z_2 a19_14) ?_
 refine f_ (s_len_sl rfl) ?_
 refine m_ ?_
 repeat refine n_ ?_
 refine g_loop (ι := Nat) (fun j => j ≤ p.peers.length) (fun j => [(0, Ptr X), (2, .slice b (outK p k).length c), (4, .int .i64 n), (5, Ptr g5), (12, .slice ca cl.length cc), (13, .int .i64 (cl.length : Nat)), (14, .int .i64 (k : Nat)), (34, .slice a.pa p.peers.length a.pc), (35, .int .i64 (p.peers.length : Nat)), (36, .int .i64 (j : Nat))]) (fun j => .blk g5 (.cells #[.int .i64 (bstK p n j).node, .int .u64 (bstK p n j).next, .int .u64 (bstK p n j).mtc, .int .i64 (bstK p n j).off] 100) :: OwnP b (outK p k) c :: OwnC ca cl cc :: mdH X ⟨p, a, outs, oa0, oc0⟩) (fun j => p.peers.length - j) 0 (Nat.zero_le _) ?_ ?_ ?_
 ·(repeat (first | exact Sub.nil _ | refine Sub.cons rfl ?_))
 ·intro w hw; exact hw
 rintro j hj
 repeat refine x_ ?_
 refine f_ (s_lss rfl rfl) ?_
 repeat refine n_ ?_
 refine g_cond rfl (fun h => ?_) (fun h => ?_)
 ·have hjl : j < p.peers.length := by simp at h; omega
  have hsomep : ∃ ad, a.pa = some ad := hpa (by show 0 < p.peers.length; omega)
  have hbs := bstK_succ (p := p) (n := n) hjl
  obtain ⟨u, hue⟩ : ∃ u, u = p.peers.getD j P0 := ⟨_, rfl⟩
  rw [← hue] at hbs
  obtain ⟨q2, hq2⟩ : ∃ q, q = decide (u.node = n) := ⟨_, rfl⟩
  repeat refine x_ ?_
  refine f_ (s_indexAddr rfl (by assumption) rfl (by omega)) ?_
  refine r_ (s_loadN (cs := prC u) rfl (fun w hw => by rw [hue]; exact rdQ_own (a := a.pa) hw z_2 (i := j) (by omega) hjl) rfl) ?_
  refine gl_allocA rfl ?_; intro g7
  (refine gl_store_blkW rfl rfl z_5 z_7 z_7 z_3 ?_)
  repeat refine x_ ?_
  refine f_ z_1 ?_
  refine r_ (by exact s_load_blk rfl z_2 a4_0) ?_
  refine m_ ?_
  refine f_ ((s_eql rfl rfl).eb hq2) ?_
  repeat refine n_ ?_
  cases q2
  ·rw [if_neg (of_decide_eq_false hq2.symm)] at hbs
   repeat refine x_ ?_
   refine f_ (s_add_i64 rfl rfl (by omega)) ?_
   refine m_ ?_
   repeat refine n_ ?_
   refine at_next (j + 1) (by omega) (by omega) ?_ ?_
   ·(repeat (first | exact Sub.nil _ | refine Sub.cons rfl ?_))
   ·intro w hw; rw [hbs]; exact hw.drop
  ·rw [if_pos (of_decide_eq_true hq2.symm)] at hbs
   repeat refine x_ ?_
   refine r_ z_14 ?_
   (refine gl_store_blkW rfl rfl z_5 z_7 z_7 z_3 ?_)
   repeat refine x_ ?_
   refine f_ (s_add_i64 rfl rfl (by omega)) ?_
   refine m_ ?_
   repeat refine n_ ?_
   refine at_next (j + 1) (by omega) (by omega) ?_ ?_
   ·(repeat (first | exact Sub.nil _ | refine Sub.cons rfl ?_))
   ·intro w hw; rw [hbs]; exact hw.drop
 have hjl : j = p.peers.length := by simp at h; omega
 subst hjl
 rw [bstK_all]
 obtain ⟨r, hr⟩ : ∃ r, r = peerOf p n := ⟨_, rfl⟩
 rw [← hr] at hsu
 rw [← hr]
 repeat refine x_ ?_
 refine m_ ?_
 refine r_ z_14 ?_
 refine gl_buildSliceU rfl rfl rfl rfl rfl rfl (xs := prC r) rfl rfl ?_; intro a48 ha48
 refine gl_append (sz := 4) rfl rfl (fun a' c' => z_5) (fun w hw => (hw.ownN z_2).2.2.1) rfl rfl rfl (prC_one r) (by show (_ + 1) * 32 ≤ _; omega) (by omega) rfl ?_; intro a49 c49 hc49
 refine a_ ?_
 repeat refine x_ ?_
 refine f_ (s_add_i64 rfl rfl (by omega)) ?_
 refine m_ ?_
 repeat refine n_ ?_
 refine at_next (k + 1, a49, c49) (by simp only; omega) (by simp only; omega) ?_ ?_
 ·simp only [hsu, List.length_append, List.length_singleton]; (repeat (first | exact Sub.nil _ | refine Sub.cons rfl ?_))
 ·intro w hw
  simp only [hsu]
  rw [← own_snocP rfl]
  exact hw.drop.drop
end Go.Proofs.YtodcghipfolejaaGreat.Rf
namespace Go.Proofs.YtodcghipfolejaaGreat.Rf
open Go Go.Sl
theorem pf_follow {p : RP} (h : PFit p) (t n : Int) (ht : 0 ≤ t ∧ t ≤ 4611686018427387904) : PFit (followP p t n) :=
 ⟨h.base, h.len, h.cl, h.dat, h.img, Nat.zero_le _, Nat.zero_le _, fun q hq => (by cases hq), h.ticks, by
  have := h.term
  show 0 ≤ (if p.term < t then t else p.term) ∧ (if p.term < t then t else p.term) ≤ _
  split <;> omega, h.commit⟩
theorem pf_commit1 {p : RP} (h : PFit p) : PFit (commit1 p) := by
 unfold commit1
 split
 ·exact ⟨h.base, h.len, h.cl, h.dat, h.img, h.votes, h.peers, h.prs, h.ticks, h.term, h.com⟩
 ·exact h
theorem pf_commit {p : RP} (h : PFit p) : PFit (commitP p) := by
 unfold commitP
 split
 ·exact pf_follow (pf_commit1 h) _ _ (pf_commit1 h).term
 ·exact pf_commit1 h
theorem pf_lead1 {p : RP} (h : PFit p) : PFit (lead1 p) := ⟨h.base, h.len, h.cl, h.dat, h.img, Nat.zero_le _, Nat.zero_le _, fun q hq => (by cases hq), h.ticks, h.term, h.commit⟩
theorem peers_none {p : RP} (hp : p.peers = []) (h : PFit p) : ∀ q ∈ peersL p, 1 ≤ q.next ∧ q.next ≤ 4611686018427387904 ∧ 0 ≤ q.mtc ∧ q.mtc ≤ 4611686018427387904 ∧ 0 ≤ q.off ∧ q.off ≤ p.img.length := fun q hq => by
 obtain ⟨n, _, rfl⟩ := List.mem_map.1 hq
 have := h.last
 have e : peerOf p n = ⟨n, lastI p.g + 1, 0, 0⟩ := by rw [peerOf, hp]; rfl
 rw [e]
 simp only
 omega
theorem peersL_len (p : RP) (h : PFit p) : (peersL p).length ≤ 1000000 := by
 have := h.cn (lastI p.g)
 rw [peersL, List.length_map]
 exact Nat.le_trans (List.length_filter_le _ _) this
theorem pf_lead2 {p : RP} (h : PFit p) (hl : p.l.length ≤ 99999) : PFit (lead2 p) := by
 have h1 := pf_lead1 h
 refine ⟨h.base, ?_, h.cl, fun i hi => ?_, h.img, Nat.zero_le _, peersL_len (lead1 p) h1, peers_none rfl h1, h.ticks, h.term, h.commit⟩
 ·show (p.l ++ [(p.term, 1, [])]).length ≤ _
  simp; omega
 ·show ((p.l ++ [((p.term, 1, []) : Ent)]).getD i E0).2.2.length ≤ _
  replace hi : i < (p.l ++ [((p.term, 1, []) : Ent)]).length := hi
  rw [List.length_append, List.length_singleton] at hi
  by_cases e : i < p.l.length
  ·rw [List.getD_eq_getElem?_getD, List.getElem?_append_left e, ← List.getD_eq_getElem?_getD]
   exact h.dat i e
  ·have : i = p.l.length := by omega
   subst this
   simp
theorem pf_lead {p : RP} (h : PFit p) (hl : p.l.length ≤ 99999) : PFit (leadP p) := pf_commit (pf_lead2 h hl)
abbrev mdHL (X : Nat) (p : RP) (a : RA) (n : Nat) (xs : List Value) (outs : List MM) (oa : Option Addr) (oc : Nat) : List As := [.blk X (.cells #[.int .i64 p.id, .int .u64 p.term, .int .i64 p.vote, .int .i64 p.role, .int .i64 p.leader, .int .u64 p.base, .int .u64 p.bt, .slice a.ca p.conf.length a.cc, .slice a.la n a.lc, B p.img, .int .u64 p.commit, .int .i64 p.ticks, .int .i64 p.tout, .slice a.va p.votes.length a.vc, .slice a.pa p.peers.length a.pc, B p.piece, .int .u64 p.pix, .int .u64 p.pt, .slice oa outs.length oc] 91), .own (.slice a.la n a.lc) 51 3 xs, OwnC a.ca p.conf a.cc, OwnC a.va p.votes a.vc, OwnP a.pa p.peers a.pc, OwnM oa outs oc]
theorem mdH_ent (X : Nat) (p : RP) (a : RA) (e : Ent) (outs : List MM) (oa : Option Addr) (oc : Nat) : mdH X ⟨{ p with l := p.l ++ [e] }, a, outs, oa, oc⟩ = mdHL X p a (p.l.length + 1) (enV p.l ++ entC e) outs oa oc := by
 have e1 : (p.l ++ [e]).length = p.l.length + 1 := by simp
 have e2 : enV (p.l ++ [e]) = enV p.l ++ entC e := by rw [enV_append]; simp [enV]
 show mdHL X p a (p.l ++ [e]).length (enV (p.l ++ [e])) outs oa oc = _
 rw [e1, e2]
theorem entC_one (e : Ent) : ∀ q ∈ entC e, q.oneCell' = true := fun q hq => by simp at hq; rcases hq with rfl | rfl | rfl <;> rfl
theorem outs_len {d d' : MD} {new : List MP} (h : d'.outs.map MM.p = d.outs.map MM.p ++ new) : d'.outs.length = d.outs.length + new.length := by
 have := congrArg List.length h
 simpa using this
set_option maxRecDepth 8000 in
set_option maxHeartbeats 4000000 in
theorem lead_ct (X : Nat) (d : MD) (hf : PFit d.p) (hl : d.p.l.length ≤ 99999) (ho : d.outs.length ≤ 1000000) : Ct Tryz.prog 92 [Ptr X] (fun _ => True) (mdH X d) (MdP X d (leadP d.p) (leadM d.p) (.tuple #[])) := by
 obtain ⟨p, a, outs, oa0, oc0⟩ := d
 simp only at hf hl ho
 have hf1 := pf_lead1 hf
 have hf2 := pf_lead2 hf hl
 have hf3 := pf_lead hf hl
 refine ct_enter 48 Tryz.func92 rfl rfl rfl ?_
 intro F _
 repeat refine x_ ?_
 refine m_ ?_
 refine m_ ?_
 refine m_ ?_
 refine m_ ?_
 refine m_ ?_
 refine f_ (s_nilCheck rfl) ?_
 refine f_ z_1 ?_
 refine f_ z_1 ?_
 refine r_ (by exact s_load_blk rfl z_2 a19_0) ?_
 refine f_ (s_nilCheck rfl) ?_
 refine f_ z_1 ?_
 refine f_ z_1 ?_
 (refine gl_store_blkC (pre := [_, _, _]) (post := [_, _, _, _, _, _, _, _, _, _, _, _, _, _, _]) rfl rfl z_5 z_7 z_7 z_7 ?_)
 refine f_ (s_nilCheck rfl) ?_
 refine f_ z_1 ?_
 refine f_ z_1 ?_
 (refine gl_store_blkC (pre := [_, _, _, _]) (post := [_, _, _, _, _, _, _, _, _, _, _, _, _, _]) rfl rfl z_5 z_7 z_7 z_7 ?_)
 refine f_ (s_nilCheck rfl) ?_
 refine f_ z_1 ?_
 refine f_ z_1 ?_
 (refine gl_store_blkC (pre := [_, _, _, _, _, _, _, _, _, _, _, _, _]) (post := [_, _, _, _, _]) rfl rfl z_5 z_7 z_7 z_7 ?_)
 refine f_ (s_nilCheck rfl) ?_
 refine f_ z_1 ?_
 refine f_ z_1 ?_
 (refine gl_store_blkC (pre := [_, _, _, _, _, _, _, _, _, _, _, _, _, _]) (post := [_, _, _, _]) rfl rfl z_5 z_7 z_7 z_7 ?_)
 repeat refine n_ ?_
 refine g_own_nil 3 1 ?_
 refine g_own_nil 100 4 ?_
 refine g_pull (H' := mdH X ⟨lead1 p, { a with va := none, vc := 0, pa := none, pc := 0 }, outs, oa0, oc0⟩) (fun w hw => Hp.left (R := [OwnC a.va p.votes a.vc, OwnP a.pa p.peers a.pc]) (hw.perm (perm_up z_2 (perm_up z_2 (perm_up z_2 (perm_up z_2 (perm_up z_2 (perm_up z_2 (.refl _))))))))) ?_
 repeat refine x_ ?_
 refine m_ ?_
 refine gl_call [] rfl (peers_ct X ⟨lead1 p, { a with va := none, vc := 0, pa := none, pc := 0 }, outs, oa0, oc0⟩ hf1) i_ (fun _ _ _ => trivial) rfl ?_; rintro v A ⟨rfl, d2, Z2, e2, o2, rfl, f2⟩; rw [List.append_nil]
 repeat refine n_ ?_
 obtain ⟨p2, a2, outs2, oa2, oc2⟩ := d2
 simp only at e2
 subst e2
 repeat refine y_ ?_
 refine g_draw ([6, 11], [0, 0, 2, 6, 14, 30, 62, 0, 128, 384, 896, 1920, 3968, 8064, 16382, 32767, 65535, 131071, 262143, 524287], [13, 14, 19]) [.blk X (mdO ⟨{ lead1 p with peers := peersL (lead1 p) }, a2, outs2, oa2, oc2⟩)] 20 rfl ?_
 refine w_ 0 rfl (s_move rfl) ?_
 refine w_ 1 rfl (s_move rfl) ?_
 refine w_ 2 rfl (s_nilCheck rfl) ?_
 refine w_ 3 rfl z_1 ?_
 refine w_ 4 rfl z_1 ?_
 refine w_ 5 rfl z_1 ?_
 (refine ga_read_k 6 rfl z_11 (s_load_blk rfl .del a19_8) k_ rfl rfl rfl z_4 ?_)
 refine w_ 7 rfl (s_move rfl) ?_
 refine w_ 8 rfl (s_nilCheck rfl) ?_
 refine w_ 9 rfl z_1 ?_
 refine w_ 10 rfl z_1 ?_
 (refine ga_read_k 11 rfl z_11 (s_load_blk rfl .del a19_1) k_ rfl rfl rfl z_4 ?_)
 refine w_ 12 rfl (s_build rfl (run_build_struct (places := [(0, 1), (1, 1), (2, 1)]) rfl (by intro f hf; simp at hf; rcases hf with rfl | rfl | rfl <;> rfl) rfl)) ?_
 refine ga_one 13 rfl z_4 ?_
 refine gl_buildSliceU rfl rfl rfl rfl rfl rfl (xs := entC (p.term, 1, [])) rfl rfl ?_; intro a38 ha38
 refine gl_nil ?_
 refine at_ga (.inr (by exact keeps_of k_)) ?_
 refine ga_one 14 rfl z_4 ?_
 refine gl_append (sz := 3) rfl rfl (fun a' c' => z_5) (fun w hw => (hw.ownN z_2).2.2.1) rfl rfl rfl (entC_one _) (by show (p.l.length + 1) * 32 ≤ 140737488355328; omega) (by show p.l.length + 1 ≤ 9223372036854775807; omega) rfl ?_; intro a39 c39 hc39
 refine gl_nil ?_
 refine at_ga (.inl z_4) ?_
 refine w_ 15 rfl (s_nilCheck rfl) ?_
 refine w_ 16 rfl z_1 ?_
 refine w_ 17 rfl z_1 ?_
 refine w_ 18 rfl z_1 ?_
 refine ga_one 19 rfl z_4 ?_
 (refine gl_store_blkC (pre := [_, _, _, _, _, _, _, _]) (post := [_, _, _, _, _, _, _, _, _, _]) rfl rfl z_5 z_7 z_7 z_7 ?_)
 refine gl_nil ?_
 refine at_ga (.inl z_4) ?_
 refine ga_done z_4 ?_
 repeat refine y_ ?_
 refine g_pull (H' := mdH X ⟨lead2 p, { a2 with la := a39, lc := c39 }, outs2, oa2, oc2⟩ ++ Z2) (fun w hw => by rw [show lead2 p = { ({ lead1 p with peers := peersL (lead1 p) } : RP) with l := (lead1 p).l ++ [((p.term, 1, []) : Ent)] } from rfl, mdH_ent]; exact hw.drop) ?_
 repeat refine x_ ?_
 refine m_ ?_
 refine gl_call Z2 rfl (commit_ct X ⟨lead2 p, { a2 with la := a39, lc := c39 }, outs2, oa2, oc2⟩ hf2) i_ (fun _ _ _ => trivial) rfl ?_; rintro v A ⟨rfl, d3, Z3, e3, o3, rfl, f3⟩
 repeat refine n_ ?_
 have l2 := outs_len o2
 have l3 := outs_len o3
 simp only [List.length_nil] at l2 l3
 obtain ⟨p3, a3, outs3, oa3, oc3⟩ := d3
 simp only at e3 l3
 subst e3
 repeat refine x_ ?_
 refine m_ ?_
 refine gl_call (Z3 ++ Z2) rfl (all_ct X ⟨commitP (lead2 p), a3, outs3, oa3, oc3⟩ hf3 (by simp only; omega)) (fun w hw => by rwa [List.append_assoc] at hw) (fun _ _ _ => trivial) rfl ?_; rintro v A ⟨rfl, ms, oa4, oc4, Z4, e4, rfl, f4⟩
 repeat refine n_ ?_
 simp only [List.append_nil] at o2 o3
 exact at_end0 rfl (mdH X ⟨leadP p, a3, outs3 ++ ms, oa4, oc4⟩ ++ (Z4 ++ (Z3 ++ Z2))) ⟨rfl, ⟨leadP p, a3, outs3 ++ ms, oa4, oc4⟩, Z4 ++ (Z3 ++ Z2), rfl, by rw [List.map_append, e4, o3, o2]; rfl, rfl, fun h f hs m hm => by
  obtain ⟨s4, s32⟩ := Sat.two2 hs
  obtain ⟨s3, s2⟩ := Sat.two2 s32
  rcases List.mem_append.1 hm with hm | hm
  ·exact f3 h (f2 h f s2) s3 m hm
  ·exact f4 h s4 m hm⟩ (fun w hw => by rwa [List.append_assoc] at hw)
end Go.Proofs.YtodcghipfolejaaGreat.Rf
namespace Go.Proofs.YtodcghipfolejaaGreat.Rf
open Go Go.Sl
theorem g_cutE {P : Program} {N : Nat} {c : Code} {K R : Kont} {E : List (Nat × Kont)} {L : Lcs} {F : Snap} {H : List As} {ι : Type} (L' : ι → Lcs) (H' : ι → List As) (h1 : G P N c (fun a w => ∃ i, Fits N (L' i) a ∧ Hp F w (H' i)) E R L F H) (h2 : ∀ i, At N K (L' i) F (H' i)) : G P N c K E R L F H := by
 unfold G at h1 ⊢
 unfold At at h2
 intro a w hf hw
 exact Code.wp_mono (fun e a w q => by
  cases e with
  | normal => obtain ⟨i, h3, h4⟩ := q; exact h2 i a w h3 h4
  | _ => exact q) (h1 a w hf hw)
theorem pf_stand1 {p : RP} (h : PFit p) (ht : p.term < 4611686018427387904) : PFit (stand1 p) := ⟨h.base, h.len, h.cl, h.dat, h.img, (by show [p.id].length ≤ _; simp), Nat.zero_le _, fun q hq => (by cases hq), ⟨Int.le_refl _, (by show (0 : Int) ≤ _; omega)⟩, (by have := h.term; show 0 ≤ p.term + 1 ∧ p.term + 1 ≤ _; omega), h.commit⟩
def voteK (p : RP) (k : Nat) : List MP := (((confL p).take k).filter fun n => decide (n ≠ p.id)).map (voteM (stand1 p))
theorem voteK_all (p : RP) : voteK p (confL p).length = ((confL p).filter fun n => decide (n ≠ p.id)).map (voteM (stand1 p)) := by rw [voteK, List.take_length]
theorem voteK_succ {p : RP} {k : Nat} (hk : k < (confL p).length) : voteK p (k + 1) = voteK p k ++ (if (confL p).getD k 0 = p.id then [] else [voteM (stand1 p) ((confL p).getD k 0)]) := by
 rw [voteK, voteK, takeI hk, List.filter_append, List.map_append]
 congr 1
 by_cases h : (confL p).getD k 0 = p.id
 ·rw [if_pos h]; simp only [List.filter_cons, List.filter_nil]; rw [if_neg (by simp only [ne_eq, decide_not]; rw [decide_eq_true h]; decide)]; rfl
 ·rw [if_neg h]; simp only [List.filter_cons, List.filter_nil]; rw [if_pos (by simpa using h)]; rfl
structure VI (p : RP) (k : Nat) (ms : List MM) : Prop where
 le : k ≤ (confL p).length
 me : ms.map MM.p = voteK p k
 len : ms.length ≤ k
 ok : ∀ h, ∀ m ∈ ms, MOk h m
set_option maxRecDepth 8000 in
set_option maxHeartbeats 4000000 in
theorem stand_ct (X : Nat) (d : MD) (hf : PFit d.p) (ht : d.p.term < 4611686018427387904) (hl : d.p.l.length ≤ 99999) (ho : d.outs.length ≤ 1000000) : Ct Tryz.prog 55 [Ptr X] (fun _ => True) (mdH X d) (MdP X d (standP d.p) (standM d.p) (.tuple #[])) := by
 obtain ⟨p, a, outs, oa0, oc0⟩ := d
 simp only at hf ht hl ho
 have h0 := hf.term
 have hf1 := pf_stand1 hf ht
 have hcn : (confL p).length ≤ 1000000 := hf.cn (lastI p.g)
 refine ct_enter 94 Tryz.func55 rfl rfl rfl ?_
 intro F _
 refine g_ownN (a := a.la) z_2 (fun _ hcap _ => ?_)
 repeat refine x_ ?_
 refine m_ ?_
 refine f_ (s_nilCheck rfl) ?_
 refine f_ z_1 ?_
 refine f_ z_1 ?_
 refine r_ (by exact s_load_blk rfl z_2 a19_1) ?_
 refine f_ ((s_add_u64 rfl rfl (by show 0 ≤ p.term + 1 ∧ p.term + 1 ≤ 18446744073709551615; omega)).eq (v' := .int .u64 (p.term + 1)) rfl) ?_
 refine f_ (s_nilCheck rfl) ?_
 refine f_ z_1 ?_
 refine f_ z_1 ?_
 (refine gl_store_blkC (pre := [_]) (post := [_, _, _, _, _, _, _, _, _, _, _, _, _, _, _, _, _]) rfl rfl z_5 z_7 z_7 z_7 ?_)
 repeat refine n_ ?_
 refine g_cutE (ι := Option Addr) (fun _ => [(0, Ptr X)]) (fun va => mdH X ⟨stand1 p, { a with va := va, vc := 1, pa := none, pc := 0 }, outs, oa0, oc0⟩) ?_ (fun va => ?_)
 ·repeat refine y_ ?_
  refine g_draw ([10, 15], [0, 0, 0, 0, 0, 0, 0, 64, 192, 448, 960, 0, 2048, 6144, 14336, 30720, 63488, 65473, 196545, 458689, 982977, 2031555, 4128707, 8323011, 16711619, 33488839, 67043271, 134152135, 268369863, 536870863, 1073741775, 2147483599, 4294967247, 8589934559, 17179869151, 34359738335, 68719476703, 137438953471, 274877906943, 549755813887, 1099511627775], [16, 20, 24, 28, 32, 36, 40]) [.blk X (mdO ⟨{ p with term := p.term + 1 }, a, outs, oa0, oc0⟩)] 41 rfl ?_
  refine w_ 0 rfl (s_move rfl) ?_
  refine w_ 1 rfl (s_move rfl) ?_
  refine w_ 2 rfl (s_move rfl) ?_
  refine w_ 3 rfl (s_move rfl) ?_
  refine w_ 4 rfl (s_move rfl) ?_
  refine w_ 5 rfl (s_move rfl) ?_
  refine w_ 6 rfl (s_move rfl) ?_
  refine w_ 7 rfl (s_nilCheck rfl) ?_
  refine w_ 8 rfl z_1 ?_
  refine w_ 9 rfl z_1 ?_
  (refine ga_read_k 10 rfl z_11 (s_load_blk rfl .del a19_0) k_ rfl rfl rfl z_4 ?_)
  refine w_ 11 rfl (s_move rfl) ?_
  refine w_ 12 rfl (s_nilCheck rfl) ?_
  refine w_ 13 rfl z_1 ?_
  refine w_ 14 rfl z_1 ?_
  (refine ga_read_k 15 rfl z_11 (s_load_blk rfl .del a19_0) k_ rfl rfl rfl z_4 ?_)
  refine w_ 17 rfl (s_nilCheck rfl) ?_
  refine w_ 18 rfl z_1 ?_
  refine w_ 19 rfl z_1 ?_
  refine ga_two 16 20 rfl rfl z_4 ?_ ?_
  refine gl_buildSliceU rfl rfl rfl rfl rfl rfl (xs := intsV [p.id]) rfl rfl ?_; intro a32 ha32
  refine gl_nil ?_
  refine at_ga (.inr (by exact keeps_of k_)) ?_
  refine ga_one 20 rfl z_4 ?_
  (refine gl_store_blkC (pre := [_, _]) (post := [_, _, _, _, _, _, _, _, _, _, _, _, _, _, _, _]) rfl rfl z_5 z_7 z_7 z_7 ?_)
  refine gl_nil ?_
  refine at_ga (.inl z_4) ?_
  refine w_ 21 rfl (s_nilCheck rfl) ?_
  refine w_ 22 rfl z_1 ?_
  refine w_ 23 rfl z_1 ?_
  refine ga_one 24 rfl z_4 ?_
  (refine gl_store_blkC (pre := [_, _, _]) (post := [_, _, _, _, _, _, _, _, _, _, _, _, _, _, _]) rfl rfl z_5 z_7 z_7 z_7 ?_)
  refine gl_nil ?_
  refine at_ga (.inl z_4) ?_
  refine w_ 25 rfl (s_nilCheck rfl) ?_
  refine w_ 26 rfl z_1 ?_
  refine w_ 27 rfl z_1 ?_
  refine ga_one 28 rfl z_4 ?_
  (refine gl_store_blkC (pre := [_, _, _, _]) (post := [_, _, _, _, _, _, _, _, _, _, _, _, _, _]) rfl rfl z_5 z_7 z_7 z_7 ?_)
  refine gl_nil ?_
  refine at_ga (.inl z_4) ?_
  refine w_ 29 rfl (s_nilCheck rfl) ?_
  refine w_ 30 rfl z_1 ?_
  refine w_ 31 rfl z_1 ?_
  refine ga_one 32 rfl z_4 ?_
  (refine gl_store_blkC (pre := [_, _, _, _, _, _, _, _, _, _, _, _, _]) (post := [_, _, _, _, _]) rfl rfl z_5 z_7 z_7 z_7 ?_)
  refine gl_nil ?_
  refine at_ga (.inl z_4) ?_
  refine w_ 33 rfl (s_nilCheck rfl) ?_
  refine w_ 34 rfl z_1 ?_
  refine w_ 35 rfl z_1 ?_
  refine ga_one 36 rfl z_4 ?_
  (refine gl_store_blkC (pre := [_, _, _, _, _, _, _, _, _, _, _, _, _, _]) (post := [_, _, _, _]) rfl rfl z_5 z_7 z_7 z_7 ?_)
  refine gl_nil ?_
  refine at_ga (.inl z_4) ?_
  refine w_ 37 rfl (s_nilCheck rfl) ?_
  refine w_ 38 rfl z_1 ?_
  refine w_ 39 rfl z_1 ?_
  refine ga_one 40 rfl z_4 ?_
  (refine gl_store_blkC (pre := [_, _, _, _, _, _, _, _, _, _, _]) (post := [_, _, _, _, _, _, _]) rfl rfl z_5 z_7 z_7 z_7 ?_)
  refine gl_nil ?_
  refine at_ga (.inl z_4) ?_
  refine ga_done z_4 ?_
  rotate_left 1
  (refine gl_store_blkC (pre := [_, _]) (post := [_, _, _, _, _, _, _, _, _, _, _, _, _, _, _, _]) rfl rfl z_5 z_7 z_7 z_7 ?_)
  refine gl_nil ?_
  refine at_ga (.inl z_4) ?_
  refine w_ 21 rfl (s_nilCheck rfl) ?_
  refine w_ 22 rfl z_1 ?_
  refine w_ 23 rfl z_1 ?_
  refine ga_two 16 24 rfl rfl z_4 ?_ ?_
  refine gl_buildSliceU rfl rfl rfl rfl rfl rfl (xs := intsV [p.id]) rfl rfl ?_; intro a32 ha32
  refine gl_nil ?_
  refine at_ga (.inl z_4) ?_
  refine ga_one 24 rfl z_4 ?_
  (refine gl_store_blkC (pre := [_, _, _]) (post := [_, _, _, _, _, _, _, _, _, _, _, _, _, _, _]) rfl rfl z_5 z_7 z_7 z_7 ?_)
  refine gl_nil ?_
  refine at_ga (.inl z_4) ?_
  refine w_ 25 rfl (s_nilCheck rfl) ?_
  refine w_ 26 rfl z_1 ?_
  refine w_ 27 rfl z_1 ?_
  refine ga_one 28 rfl z_4 ?_
  (refine gl_store_blkC (pre := [_, _, _, _]) (post := [_, _, _, _, _, _, _, _, _, _, _, _, _, _]) rfl rfl z_5 z_7 z_7 z_7 ?_)
  refine gl_nil ?_
  refine at_ga (.inl z_4) ?_
  refine w_ 29 rfl (s_nilCheck rfl) ?_
  refine w_ 30 rfl z_1 ?_
  refine w_ 31 rfl z_1 ?_
  refine ga_one 32 rfl z_4 ?_
  (refine gl_store_blkC (pre := [_, _, _, _, _, _, _, _, _, _, _, _, _]) (post := [_, _, _, _, _]) rfl rfl z_5 z_7 z_7 z_7 ?_)
  refine gl_nil ?_
  refine at_ga (.inl z_4) ?_
  refine w_ 33 rfl (s_nilCheck rfl) ?_
  refine w_ 34 rfl z_1 ?_
  refine w_ 35 rfl z_1 ?_
  refine ga_one 36 rfl z_4 ?_
  (refine gl_store_blkC (pre := [_, _, _, _, _, _, _, _, _, _, _, _, _, _]) (post := [_, _, _, _]) rfl rfl z_5 z_7 z_7 z_7 ?_)
  refine gl_nil ?_
  refine at_ga (.inl z_4) ?_
  refine w_ 37 rfl (s_nilCheck rfl) ?_
  refine w_ 38 rfl z_1 ?_
  refine w_ 39 rfl z_1 ?_
  refine ga_one 40 rfl z_4 ?_
  (refine gl_store_blkC (pre := [_, _, _, _, _, _, _, _, _, _, _]) (post := [_, _, _, _, _, _, _]) rfl rfl z_5 z_7 z_7 z_7 ?_)
  refine gl_nil ?_
  refine at_ga (.inl z_4) ?_
  refine ga_done z_4 ?_
  rotate_left 1
  (refine gl_store_blkC (pre := [_, _, _]) (post := [_, _, _, _, _, _, _, _, _, _, _, _, _, _, _]) rfl rfl z_5 z_7 z_7 z_7 ?_)
  refine gl_nil ?_
  refine at_ga (.inl z_4) ?_
  refine w_ 25 rfl (s_nilCheck rfl) ?_
  refine w_ 26 rfl z_1 ?_
  refine w_ 27 rfl z_1 ?_
  refine ga_two 16 28 rfl rfl z_4 ?_ ?_
  refine gl_buildSliceU rfl rfl rfl rfl rfl rfl (xs := intsV [p.id]) rfl rfl ?_; intro a32 ha32
  refine gl_nil ?_
  refine at_ga (.inl z_4) ?_
  refine ga_one 28 rfl z_4 ?_
  (refine gl_store_blkC (pre := [_, _, _, _]) (post := [_, _, _, _, _, _, _, _, _, _, _, _, _, _]) rfl rfl z_5 z_7 z_7 z_7 ?_)
  refine gl_nil ?_
  refine at_ga (.inl z_4) ?_
  refine w_ 29 rfl (s_nilCheck rfl) ?_
  refine w_ 30 rfl z_1 ?_
  refine w_ 31 rfl z_1 ?_
  refine ga_one 32 rfl z_4 ?_
  (refine gl_store_blkC (pre := [_, _, _, _, _, _, _, _, _, _, _, _, _]) (post := [_, _, _, _, _]) rfl rfl z_5 z_7 z_7 z_7 ?_)
  refine gl_nil ?_
  refine at_ga (.inl z_4) ?_
  refine w_ 33 rfl (s_nilCheck rfl) ?_
  refine w_ 34 rfl z_1 ?_
  refine w_ 35 rfl z_1 ?_
  refine ga_one 36 rfl z_4 ?_
  (refine gl_store_blkC (pre := [_, _, _, _, _, _, _, _, _, _, _, _, _, _]) (post := [_, _, _, _]) rfl rfl z_5 z_7 z_7 z_7 ?_)
  refine gl_nil ?_
  refine at_ga (.inl z_4) ?_
  refine w_ 37 rfl (s_nilCheck rfl) ?_
  refine w_ 38 rfl z_1 ?_
  refine w_ 39 rfl z_1 ?_
  refine ga_one 40 rfl z_4 ?_
  (refine gl_store_blkC (pre := [_, _, _, _, _, _, _, _, _, _, _]) (post := [_, _, _, _, _, _, _]) rfl rfl z_5 z_7 z_7 z_7 ?_)
  refine gl_nil ?_
  refine at_ga (.inl z_4) ?_
  refine ga_done z_4 ?_
  rotate_left 1
  (refine gl_store_blkC (pre := [_, _, _, _]) (post := [_, _, _, _, _, _, _, _, _, _, _, _, _, _]) rfl rfl z_5 z_7 z_7 z_7 ?_)
  refine gl_nil ?_
  refine at_ga (.inl z_4) ?_
  refine ga_one 16 rfl z_4 ?_
  refine gl_buildSliceU rfl rfl rfl rfl rfl rfl (xs := intsV [p.id]) rfl rfl ?_; intro a32 ha32
  refine gl_nil ?_
  refine at_ga (.inl z_4) ?_
  refine w_ 29 rfl (s_nilCheck rfl) ?_
  refine w_ 30 rfl z_1 ?_
  refine w_ 31 rfl z_1 ?_
  refine ga_one 32 rfl z_4 ?_
  (refine gl_store_blkC (pre := [_, _, _, _, _, _, _, _, _, _, _, _, _]) (post := [_, _, _, _, _]) rfl rfl z_5 z_7 z_7 z_7 ?_)
  refine gl_nil ?_
  refine at_ga (.inl z_4) ?_
  refine w_ 33 rfl (s_nilCheck rfl) ?_
  refine w_ 34 rfl z_1 ?_
  refine w_ 35 rfl z_1 ?_
  refine ga_one 36 rfl z_4 ?_
  (refine gl_store_blkC (pre := [_, _, _, _, _, _, _, _, _, _, _, _, _, _]) (post := [_, _, _, _]) rfl rfl z_5 z_7 z_7 z_7 ?_)
  refine gl_nil ?_
  refine at_ga (.inl z_4) ?_
  refine w_ 37 rfl (s_nilCheck rfl) ?_
  refine w_ 38 rfl z_1 ?_
  refine w_ 39 rfl z_1 ?_
  refine ga_one 40 rfl z_4 ?_
  (refine gl_store_blkC (pre := [_, _, _, _, _, _, _, _, _, _, _]) (post := [_, _, _, _, _, _, _]) rfl rfl z_5 z_7 z_7 z_7 ?_)
  refine gl_nil ?_
  refine at_ga (.inl z_4) ?_
  refine ga_done z_4 ?_
  rotate_left 1
  all_goals (repeat refine y_ ?_)
  all_goals
   refine g_end_own 100 4 ?_
   exact at_cutE a32 j_ (fun w hw => Hp.left (R := [OwnC a.va p.votes a.vc, OwnP a.pa p.peers a.pc]) (hw.perm (perm_up z_2 (perm_up z_2 (perm_up z_2 (perm_up z_2 (perm_up z_2 (perm_up z_2 (.refl _)))))))))
 have hcap1 : (stand1 p).l.length ≤ ({ a with va := va, vc := 1, pa := none, pc := 0 } : RA).lc := hcap
 generalize ha1 : ({ a with va := va, vc := 1, pa := none, pc := 0 } : RA) = a1 at hcap1 ⊢
 have hva : a1.va = va := by rw [← ha1]
 have hvc : a1.vc = 1 := by rw [← ha1]
 repeat refine x_ ?_
 refine m_ ?_
 refine f_ (s_nilCheck rfl) ?_
 refine f_ z_1 ?_
 refine r_ ((s_load_blkN rfl z_2 z_7).eq (v' := rsV (stand1 p) a1) rfl) ?_
 refine gl_call _ rfl (Members_ct (stand1 p) a1 hf1 hcap1) i_ (fun h hh ⟨bs, hb⟩ => ⟨Sat.rd (a := a1.ca) hb z_2, Sat.rd (a := a1.la) hb z_2⟩) rfl ?_; rw [show confL (stand1 p) = confL p from rfl]; rintro v A ⟨ca, cc, rfl, rfl⟩
 refine a_ ?_
 repeat refine n_ ?_
 obtain ⟨q, hq⟩ : ∃ q, q = wins (stand1 p) := ⟨_, rfl⟩
 refine g_ownN (a := ca) z_2 (fun _ _ hca => ?_)
 repeat refine x_ ?_
 refine m_ ?_
 refine m_ ?_
 refine f_ (s_nilCheck rfl) ?_
 refine f_ z_1 ?_
 refine f_ z_1 ?_
 refine r_ (by exact s_load_blk rfl z_2 a19_13) ?_
 refine gl_callp rfl (Most_ct (confL p) [p.id] ca a1.va cc a1.vc (by omega) (by simp)) (fun h hh ⟨bs, hb⟩ => ⟨Sat.rd (a := ca) hb z_2, Sat.rd (a := a1.va) hb z_2⟩) rfl ?_; rw [show mostB (confL p) [p.id] = q from hq.symm]
 repeat refine n_ ?_
 cases q
 rotate_left
 ·have e1 : standP p = leadP (stand1 p) := if_pos hq.symm
  have e2 : standM p = leadM (stand1 p) := if_pos hq.symm
  simp only [e1, e2]
  repeat refine x_ ?_
  refine m_ ?_
  refine gl_call [OwnC ca (confL p) cc] rfl (lead_ct X ⟨stand1 p, a1, outs, oa0, oc0⟩ hf1 hl ho) (fun w hw => hw.perm (perm_up z_2 (perm_up z_2 (perm_up z_2 (perm_up z_2 (perm_up z_2 (perm_up z_2 (.refl _)))))))) (fun _ _ _ => trivial) rfl ?_; rintro v A ⟨rfl, d2, Z2, e2, o2, rfl, f2⟩
  repeat refine n_ ?_
  refine g_ret ?_
  exact at_end0 rfl (mdH X d2 ++ Z2) ⟨rfl, d2, Z2, e2, o2, rfl, f2⟩ (fun w hw => Hp.left hw)
 have e1 : standP p = stand1 p := if_neg (by rw [← hq]; decide)
 have e2 : standM p = voteK p (confL p).length := by rw [voteK_all]; exact if_neg (by rw [← hq]; decide)
 simp only [e1, e2]
 repeat refine x_ ?_
 refine m_ ?_
 refine f_ (s_nilCheck rfl) ?_
 refine f_ z_1 ?_
 refine f_ z_1 ?_
 refine r_ ((s_load_blkN rfl z_2 z_7).eq (v' := ((stand1 p).lm a1).v) rfl) ?_
 refine gl_callp rfl (Last_ct ((stand1 p).lm a1) (hf1.fit a1 hcap1)) (fun h hh ⟨bs, hb⟩ => Sat.rd (a := a1.la) hb z_2) rfl ?_; rw [show lastI ((stand1 p).lm a1) = lastI p.g from rfl, show lastT ((stand1 p).lm a1) = lastT p.g from rfl]
 refine m_ ?_
 refine f_ (s_extract rfl rfl) ?_
 refine f_ (s_extract rfl rfl) ?_
 refine a_ ?_
 refine a_ ?_
 repeat refine x_ ?_
 refine m_ ?_
 refine f_ (s_len_sl rfl) ?_
 refine m_ ?_
 repeat refine n_ ?_
 refine g_loop (ι := Nat × List MM × Option Addr × Nat) (fun i => VI p i.1 i.2.1) (fun i => [(0, Ptr X), (3, .int .u64 (lastI p.g)), (4, .int .u64 (lastT p.g)), (74, .slice ca (confL p).length cc), (75, .int .i64 ((confL p).length : Nat)), (76, .int .i64 (i.1 : Nat))]) (fun i => OwnC ca (confL p) cc :: mdH X ⟨stand1 p, a1, outs ++ i.2.1, i.2.2.1, i.2.2.2⟩) (fun i => (confL p).length - i.1) (0, [], oa0, oc0) ⟨Nat.zero_le _, rfl, Nat.le_refl _, fun h m hm => by cases hm⟩ ?_ ?_ ?_
 ·(repeat (first | exact Sub.nil _ | refine Sub.cons rfl ?_))
 ·intro w hw
  simp only [List.append_nil]
  exact hw
 rintro ⟨k, ms, oa, oc⟩ hI
 obtain ⟨hk, hms, hln, hok⟩ := hI
 simp only at hk hms hln hok
 repeat refine x_ ?_
 refine f_ (s_lss rfl rfl) ?_
 repeat refine n_ ?_
 refine g_cond rfl (fun h => ?_) (fun h => ?_)
 rotate_left
 ·have hkl : k = (confL p).length := by simp at h; omega
  rw [hkl] at hms
  repeat refine y_ ?_
  exact at_end0 rfl (mdH X ⟨stand1 p, a1, outs ++ ms, oa, oc⟩ ++ []) ⟨rfl, ⟨stand1 p, a1, outs ++ ms, oa, oc⟩, [], rfl, by rw [List.map_append, hms], rfl, fun h f _ m hm => by
   rcases List.mem_append.1 hm with hm | hm
   ·exact f m hm
   ·exact hok h m hm⟩ (fun w hw => hw.drop)
 have hkl : k < (confL p).length := by simp at h; omega
 have hkk : ((k, ms, oa, oc) : Nat × List MM × Option Addr × Nat).1 < (confL p).length := hkl
 have hsome : ∃ ad, ca = some ad := hca (by omega)
 have hsu := voteK_succ hkl
 obtain ⟨n, hne⟩ : ∃ n, n = (confL p).getD k 0 := ⟨_, rfl⟩
 rw [← hne] at hsu
 obtain ⟨q, hq⟩ : ∃ q, q = decide (n = p.id) := ⟨_, rfl⟩
 repeat refine x_ ?_
 refine f_ (s_indexAddr rfl (by assumption) rfl (by omega)) ?_
 refine r_ (s_load1 (v := .int .i64 n) rfl (fun w hw => by rw [hne]; exact rdN_own (a := ca) hw z_2 (i := k) (by simp only; omega) hkl)) ?_
 refine a_ ?_
 repeat refine x_ ?_
 refine m_ ?_
 refine m_ ?_
 refine f_ (s_nilCheck rfl) ?_
 refine f_ z_1 ?_
 refine f_ z_1 ?_
 refine r_ (by exact s_load_blk rfl z_2 a19_0) ?_
 refine f_ ((s_neq rfl rfl).eq (v' := .bool (!q)) (by rw [hq]; rfl)) ?_
 repeat refine n_ ?_
 cases q
 rotate_left
 ·rw [if_pos (of_decide_eq_true hq.symm), List.append_nil] at hsu
  repeat refine x_ ?_
  refine f_ (s_add_i64 rfl rfl (by omega)) ?_
  refine m_ ?_
  repeat refine n_ ?_
  refine at_next (k + 1, ms, oa, oc) ⟨by simp only; omega, by simp only; rw [hsu]; exact hms, by simp only; omega, hok⟩ (by simp only; omega) ?_ ?_
  ·(repeat (first | exact Sub.nil _ | refine Sub.cons rfl ?_))
  ·intro w hw; exact hw
 rw [if_neg (of_decide_eq_false hq.symm)] at hsu
 repeat refine x_ ?_
 refine m_ ?_
 refine m_ ?_
 refine m_ ?_
 refine m_ ?_
 refine f_ ((s_bld (cells := (mmC ⟨{ voteM (stand1 p) n with frm := 0, to := 0, term := 0 }, none, 0, none, 0⟩).toArray) rfl z_4).eq (v' := mmA ⟨{ voteM (stand1 p) n with frm := 0, to := 0, term := 0 }, none, 0, none, 0⟩) rfl) ?_
 refine gl_call [OwnC ca (confL p) cc] rfl (say_ct X ⟨stand1 p, a1, outs ++ ms, oa, oc⟩ n ⟨{ voteM (stand1 p) n with frm := 0, to := 0, term := 0 }, none, 0, none, 0⟩ (by simp only [List.length_append]; omega)) (fun w hw => hw.perm (perm_up z_2 (perm_up z_2 (perm_up z_2 (perm_up z_2 (perm_up z_2 (perm_up z_2 (.refl _)))))))) (fun _ _ _ => trivial) rfl ?_; rintro v A ⟨rfl, oa1, oc1, rfl⟩
 repeat refine x_ ?_
 refine f_ (s_add_i64 rfl rfl (by omega)) ?_
 refine m_ ?_
 repeat refine n_ ?_
 refine at_next (k + 1, ms ++ [⟨voteM (stand1 p) n, none, 0, none, 0⟩], oa1, oc1) ⟨by simp only; omega, by simp only; rw [hsu, List.map_append, hms]; rfl, by simp only [List.length_append, List.length_singleton]; omega, fun h m hm => ?_⟩ (by simp only; omega) ?_ ?_
 ·rcases List.mem_append.1 hm with hm | hm
  ·exact hok h m hm
  ·rw [List.mem_singleton.1 hm]; exact ⟨RdS.nil _ _, RdS.nil _ _, Nat.le_refl _⟩
 ·(repeat (first | exact Sub.nil _ | refine Sub.cons rfl ?_))
 ·intro w hw
  simp only
  rw [← List.append_assoc]
  exact hw.perm (perm_up z_2 (.refl _))
end Go.Proofs.YtodcghipfolejaaGreat.Rf
namespace Go.Proofs.YtodcghipfolejaaGreat.Rf
open Go Go.Sl
theorem pf_tick1 {p : RP} (h : PFit p) (ht : p.ticks < 4611686018427387904) : PFit (tick1 p) := ⟨h.base, h.len, h.cl, h.dat, h.img, h.votes, h.peers, h.prs, (by have := h.ticks; show 0 ≤ p.ticks + 1 ∧ p.ticks + 1 ≤ _; omega), h.term, h.commit⟩
set_option maxRecDepth 8000 in
set_option maxHeartbeats 2000000 in
theorem tick_ct (X : Nat) (d : MD) (cs : Array Value) (hf : PFit d.p) (ht : d.p.ticks < 4611686018427387904) (hl : d.p.l.length ≤ 99999) (ho : d.outs.length ≤ 1000000) : Ct Tryz.prog 35 [Ptr X, .agg cs] (fun _ => True) (mdH X d) (MdP X d (tickP d.p) (tickM d.p) (.int .i64 0)) := by
 obtain ⟨p, a, outs, oa0, oc0⟩ := d
 simp only at hf ht hl ho
 have h0 := hf.ticks
 have hf1 := pf_tick1 hf ht
 refine ct_enter 47 Tryz.func35 rfl rfl rfl ?_
 intro F _
 refine g_ownN (a := a.la) z_2 (fun _ hcap _ => ?_)
 obtain ⟨q, hq⟩ : ∃ q, q = decide (p.role = 2) := ⟨_, rfl⟩
 repeat refine x_ ?_
 refine gl_boxA rfl rfl ?_; intro g3
 refine a_ ?_
 repeat refine n_ ?_
 refine g_pull (H' := mdH X ⟨p, a, outs, oa0, oc0⟩) (fun w hw => hw.drop) ?_
 repeat refine x_ ?_
 refine m_ ?_
 refine f_ (s_nilCheck rfl) ?_
 refine f_ z_1 ?_
 refine f_ z_1 ?_
 refine r_ (by exact s_load_blk rfl z_2 a19_3) ?_
 refine f_ ((s_eql rfl rfl).eb hq) ?_
 repeat refine n_ ?_
 cases q
 rotate_left
 ·have hr := of_decide_eq_true hq.symm
  have e1 : tickP p = p := if_pos hr
  have e2 : tickM p = allP p := if_pos hr
  simp only [e1, e2]
  repeat refine x_ ?_
  refine m_ ?_
  refine gl_call [] rfl (all_ct X ⟨p, a, outs, oa0, oc0⟩ hf ho) i_ (fun _ _ _ => trivial) rfl ?_; rintro v A ⟨rfl, ms, oa, oc, Z, e4, rfl, f4⟩; rw [List.append_nil]
  repeat refine x_ ?_
  refine a_ ?_
  repeat refine n_ ?_
  refine g_ret ?_
  exact at_end1 rfl rfl (mdH X ⟨p, a, outs ++ ms, oa, oc⟩ ++ Z) ⟨rfl, ⟨p, a, outs ++ ms, oa, oc⟩, Z, rfl, by rw [List.map_append, e4], rfl, fun h f hs m hm => by
   rcases List.mem_append.1 hm with hm | hm
   ·exact f m hm
   ·exact f4 h hs m hm⟩ i_
 have hr := of_decide_eq_false hq.symm
 repeat refine x_ ?_
 refine m_ ?_
 refine f_ (s_nilCheck rfl) ?_
 refine f_ z_1 ?_
 refine f_ z_1 ?_
 refine r_ (by exact s_load_blk rfl z_2 a19_11) ?_
 refine f_ ((s_add_i64 rfl rfl (by show -9223372036854775808 ≤ p.ticks + 1 ∧ p.ticks + 1 ≤ 9223372036854775807; omega)).eq (v' := .int .i64 (p.ticks + 1)) rfl) ?_
 refine f_ (s_nilCheck rfl) ?_
 refine f_ z_1 ?_
 refine f_ z_1 ?_
 (refine gl_store_blkC (pre := [_, _, _, _, _, _, _, _, _, _, _]) (post := [_, _, _, _, _, _, _]) rfl rfl z_5 z_7 z_7 z_7 ?_)
 repeat refine n_ ?_
 refine g_pull (H' := mdH X ⟨tick1 p, a, outs, oa0, oc0⟩) i_ ?_
 have hcap1 : (tick1 p).l.length ≤ a.lc := hcap
 obtain ⟨q1, hq1⟩ : ∃ q, q = decide (p.tout ≤ p.ticks + 1) := ⟨_, rfl⟩
 obtain ⟨q2, hq2⟩ : ∃ q, q = decide (p.term < 4611686018427387904) := ⟨_, rfl⟩
 obtain ⟨q3, hq3⟩ : ∃ q, q = mayP (tick1 p) := ⟨_, rfl⟩
 have hst : stands (tick1 p) = (q1 && (q2 && q3)) := by rw [hq1, hq2, hq3]; rfl
 rcases (show (q1 = true ∧ q2 = true ∧ q3 = true) ∨ q1 = false ∨ (q1 = true ∧ q2 = false) ∨ (q1 = true ∧ q2 = true ∧ q3 = false) by cases q1 <;> cases q2 <;> cases q3 <;> simp) with ⟨rfl, rfl, rfl⟩ | rfl | ⟨rfl, rfl⟩ | ⟨rfl, rfl, rfl⟩
 ·have e1 : tickP p = standP (tick1 p) := by rw [tickP, if_neg hr, hst, if_pos (by decide)]
  have e2 : tickM p = standM (tick1 p) := by rw [tickM, if_neg hr, hst, if_pos (by decide)]
  simp only [e1, e2]
  repeat refine y_ ?_
  refine g_draw ([4, 9, 16], [0, 1, 3, 7, 15, 0, 32, 96, 224, 480, 1023, 2047, 4095, 8191, 16383, 32767, 65535, 131071, 262143, 524287, 1048575, 2097151, 4194303], []) [.blk X (mdO ⟨tick1 p, a, outs, oa0, oc0⟩)] 23 rfl ?_
  refine w_ 0 rfl (s_move rfl) ?_
  refine w_ 1 rfl (s_nilCheck rfl) ?_
  refine w_ 2 rfl z_1 ?_
  refine w_ 3 rfl z_1 ?_
  (refine ga_read_k 4 rfl z_11 (s_load_blk rfl .del a19_11) k_ rfl rfl rfl z_4 ?_)
  refine w_ 5 rfl (s_move rfl) ?_
  refine w_ 6 rfl (s_nilCheck rfl) ?_
  refine w_ 7 rfl z_1 ?_
  refine w_ 8 rfl z_1 ?_
  (refine ga_read_k 9 rfl z_11 (s_load_blk rfl .del a19_12) k_ rfl rfl rfl z_4 ?_)
  refine w_ 10 rfl ((s_geq rfl rfl).eb hq1) ?_
  refine w_ 11 rfl (s_move rfl) ?_
  (refine ga_free_g 12 rfl (s_move rfl) rfl rfl rfl rfl rfl rfl z_4 ?_)
  (refine ga_free_g 13 rfl (s_nilCheck rfl) rfl rfl rfl rfl rfl rfl z_4 ?_)
  (refine ga_free_g 14 rfl z_1 rfl rfl rfl rfl rfl rfl z_4 ?_)
  (refine ga_free_g 15 rfl z_1 rfl rfl rfl rfl rfl rfl z_4 ?_)
  (refine ga_read_kg 16 rfl z_11 (s_load_blk rfl .del a19_1) k_ rfl rfl rfl rfl rfl rfl z_4 ?_)
  (refine ga_free_g 17 rfl ((s_lss rfl rfl).eb hq2) rfl rfl rfl rfl rfl rfl z_4 ?_)
  refine w_ 18 rfl z_13 ?_
  refine w_ 19 rfl (s_move rfl) ?_
  (refine ga_free_g 20 rfl (s_move rfl) rfl rfl rfl rfl rfl rfl z_4 ?_)
  refine ga_one 21 rfl z_4 ?_
  (refine v_ ?_; refine gl_call _ rfl (may_ct X ⟨tick1 p, a, outs, oa0, oc0⟩ hf1 hcap1) i_ (fun h hh ⟨bs, hb⟩ => ⟨Sat.blk hb z_2, Sat.rd (a := a.ca) hb z_2, Sat.rd (a := a.la) hb z_2⟩) rfl ?_; rw [← hq3]; rintro v A ⟨rfl, rfl⟩)
  refine gl_nil ?_
  refine at_ga (.inl z_4) ?_
  refine w_ 22 rfl z_13 ?_
  refine ga_done z_4 ?_
  repeat refine x_ ?_
  refine m_ ?_
  refine gl_call [] rfl (stand_ct X ⟨tick1 p, a, outs, oa0, oc0⟩ hf1 (of_decide_eq_true hq2.symm) hl ho) i_ (fun _ _ _ => trivial) rfl ?_; rintro v A ⟨rfl, d2, Z2, e3, o2, rfl, f2⟩; rw [List.append_nil]
  repeat refine x_ ?_
  refine a_ ?_
  repeat refine n_ ?_
  refine g_ret ?_
  exact at_end1 rfl rfl (mdH X d2 ++ Z2) ⟨rfl, d2, Z2, e3, o2, rfl, f2⟩ i_
 all_goals
  have e1 : tickP p = tick1 p := by rw [tickP, if_neg hr, hst, if_neg (by simp)]
  have e2 : tickM p = [] := by rw [tickM, if_neg hr, hst, if_neg (by simp)]
  simp only [e1, e2]
  repeat refine y_ ?_
  refine g_draw ([4, 9, 16], [0, 1, 3, 7, 15, 0, 32, 96, 224, 480, 1023, 2047, 4095, 8191, 16383, 32767, 65535, 131071, 262143, 524287, 1048575, 2097151, 4194303], []) [.blk X (mdO ⟨tick1 p, a, outs, oa0, oc0⟩)] 23 rfl ?_
  refine w_ 0 rfl (s_move rfl) ?_
  refine w_ 1 rfl (s_nilCheck rfl) ?_
  refine w_ 2 rfl z_1 ?_
  refine w_ 3 rfl z_1 ?_
  (refine ga_read_k 4 rfl z_11 (s_load_blk rfl .del a19_11) k_ rfl rfl rfl z_4 ?_)
  refine w_ 5 rfl (s_move rfl) ?_
  refine w_ 6 rfl (s_nilCheck rfl) ?_
  refine w_ 7 rfl z_1 ?_
  refine w_ 8 rfl z_1 ?_
  (refine ga_read_k 9 rfl z_11 (s_load_blk rfl .del a19_12) k_ rfl rfl rfl z_4 ?_)
  refine w_ 10 rfl ((s_geq rfl rfl).eb hq1) ?_
  refine w_ 11 rfl (s_move rfl) ?_
  (first | refine s_ 12 ?_ | refine ga_free_g 12 rfl (s_move rfl) rfl rfl rfl rfl rfl rfl z_4 ?_)
  (first | refine s_ 13 ?_ | refine ga_free_g 13 rfl (s_nilCheck rfl) rfl rfl rfl rfl rfl rfl z_4 ?_)
  (first | refine s_ 14 ?_ | refine ga_free_g 14 rfl z_1 rfl rfl rfl rfl rfl rfl z_4 ?_)
  (first | refine s_ 15 ?_ | refine ga_free_g 15 rfl z_1 rfl rfl rfl rfl rfl rfl z_4 ?_)
  (first | refine s_ 16 ?_ | refine ga_read_kg 16 rfl z_11 (s_load_blk rfl .del a19_1) k_ rfl rfl rfl rfl rfl rfl z_4 ?_)
  (first | refine s_ 17 ?_ | refine ga_free_g 17 rfl ((s_lss rfl rfl).eb hq2) rfl rfl rfl rfl rfl rfl z_4 ?_)
  refine w_ 18 rfl z_6 ?_
  refine w_ 19 rfl (s_move rfl) ?_
  (first | refine s_ 20 ?_ | refine ga_free_g 20 rfl (s_move rfl) rfl rfl rfl rfl rfl rfl z_4 ?_)
  refine ga_one 21 rfl z_4 ?_
  (first | refine gl_guard_no rfl rfl rfl rfl rfl rfl rfl ?_ | (refine v_ ?_; refine gl_call _ rfl (may_ct X ⟨tick1 p, a, outs, oa0, oc0⟩ hf1 hcap1) i_ (fun h hh ⟨bs, hb⟩ => ⟨Sat.blk hb z_2, Sat.rd (a := a.ca) hb z_2, Sat.rd (a := a.la) hb z_2⟩) rfl ?_; rw [← hq3]; rintro v A ⟨rfl, rfl⟩))
  refine gl_nil ?_
  refine at_ga (.inl z_4) ?_
  refine w_ 22 rfl z_6 ?_
  refine ga_done z_4 ?_
  repeat refine x_ ?_
  refine a_ ?_
  repeat refine n_ ?_
  refine g_ret ?_
  exact at_end1 rfl rfl (mdH X ⟨tick1 p, a, outs, oa0, oc0⟩ ++ []) (MdP.same X ⟨p, a, outs, oa0, oc0⟩ ⟨tick1 p, a, outs, oa0, oc0⟩ _ rfl) i_
structure Hd where
 term : Int
 vote : Int
 c : Int
def newP (id : Int) (h : Hd) (g : LM) (img : Bs) (tout : Int) : RP := ⟨id, h.term, h.vote, 0, 0, g.base, g.bt, g.conf, g.l, img, g.base, 0, tout, [], [], [], 0, 0⟩
def rp0 : RP := ⟨0, 0, 0, 0, 0, 0, 0, [], [], [], 0, 0, 0, [], [], [], 0, 0⟩
def badNew (id tout : Int) : Bool := decide (id < 1) || (decide (5 < id) || (decide (tout < 1) || decide (1000 < tout)))
def NewP (id : Int) (h : Hd) (g : LM) (img : Bs) (tout : Int) (v : Value) (A : List As) : Prop :=
 (badNew id tout = true ∧ v = .tuple #[rsV rp0 RA0, .int .i64 1] ∧ A = []) ∨ (badNew id tout = false ∧ ∃ a, v = .tuple #[rsV (newP id h g img tout) a, .int .i64 0] ∧ A = OwnS (newP id h g img tout) a)
set_option maxRecDepth 8000 in
set_option maxHeartbeats 2000000 in
theorem New_ct (id : Int) (h : Hd) (g : LM) (img : Bs) (tout : Int) (hc : g.conf.length ≤ 1000000) (hl : g.l.length ≤ 1000000) : Ct Tryz.prog 24 [.int .i64 id, .agg #[.int .u64 h.term, .int .i64 h.vote, .int .u64 h.c], g.v, B img, .int .i64 tout] g.ok [] (NewP id h g img tout) := by
 refine ct_enter 41 Tryz.func24 rfl rfl rfl ?_
 intro F hg
 obtain ⟨q1, hq1⟩ : ∃ q, q = decide (id < 1) := ⟨_, rfl⟩
 obtain ⟨q2, hq2⟩ : ∃ q, q = decide (5 < id) := ⟨_, rfl⟩
 obtain ⟨q3, hq3⟩ : ∃ q, q = decide (tout < 1) := ⟨_, rfl⟩
 obtain ⟨q4, hq4⟩ : ∃ q, q = decide (1000 < tout) := ⟨_, rfl⟩
 have hb : badNew id tout = (q1 || (q2 || (q3 || q4))) := by rw [hq1, hq2, hq3, hq4]; rfl
 rcases (show (q1 = false ∧ q2 = false ∧ q3 = false ∧ q4 = false) ∨ q1 = true ∨ (q1 = false ∧ q2 = true) ∨ (q1 = false ∧ q2 = false ∧ q3 = true) ∨ (q1 = false ∧ q2 = false ∧ q3 = false ∧ q4 = true) by cases q1 <;> cases q2 <;> cases q3 <;> cases q4 <;> simp) with ⟨rfl, rfl, rfl, rfl⟩ | rfl | ⟨rfl, rfl⟩ | ⟨rfl, rfl, rfl⟩ | ⟨rfl, rfl, rfl, rfl⟩
 ·have hb0 : badNew id tout = false := by rw [hb]; rfl
  repeat refine x_ ?_
  refine gl_boxA rfl rfl ?_; intro g6
  refine gl_boxA rfl rfl ?_; intro g7
  refine gl_allocA rfl ?_; intro g10
  refine a_ ?_
  repeat refine x_ ?_
  refine m_ ?_
  refine f_ ((s_lss rfl rfl).eb hq1) ?_
  refine m_ ?_
  (refine v_ ?_; refine m_ ?_)
  (refine v_ ?_; refine f_ ((s_gtr rfl rfl).eb hq2) ?_)
  refine f_ z_12 ?_
  refine m_ ?_
  (refine v_ ?_; refine m_ ?_)
  (refine v_ ?_; refine f_ ((s_lss rfl rfl).eb hq3) ?_)
  refine f_ z_12 ?_
  refine m_ ?_
  (refine v_ ?_; refine m_ ?_)
  (refine v_ ?_; refine f_ ((s_gtr rfl rfl).eb hq4) ?_)
  refine f_ z_12 ?_
  repeat refine x_ ?_
  refine m_ ?_
  refine f_ z_1 ?_
  refine r_ (by exact s_load_blk rfl z_2 a3_0) ?_
  refine f_ z_1 ?_
  refine r_ (by exact s_load_blk rfl z_2 a3_1) ?_
  refine r_ z_14 ?_
  refine m_ ?_
  refine f_ z_1 ?_
  refine r_ (by exact s_load_blk rfl z_2 a4_0) ?_
  refine m_ ?_
  refine f_ ((s_bld (cells := (rsC (newP id h g img tout) ⟨g.ca, g.cc, g.la, g.lc, none, 0, none, 0⟩).toArray) rfl z_4).eq (v' := rsV (newP id h g img tout) ⟨g.ca, g.cc, g.la, g.lc, none, 0, none, 0⟩) rfl) ?_
  refine gl_allocA rfl ?_; intro g12
  (refine gl_store_blkW rfl rfl z_5 z_7 z_7 z_3 ?_)
  repeat refine x_ ?_
  refine r_ ((s_load_blkW rfl z_2 z_7).eq (v' := rsV (newP id h g img tout) ⟨g.ca, g.cc, g.la, g.lc, none, 0, none, 0⟩) rfl) ?_
  refine gl_call _ rfl (rclone_ct (newP id h g img tout) ⟨g.ca, g.cc, g.la, g.lc, none, 0, none, 0⟩ ⟨hc, hl, Nat.zero_le _, Nat.zero_le _⟩) i_ (fun h hh _ => ⟨hg.1.le hh, hg.2.le hh, RdS.nil _ _, RdS.nil _ _⟩) rfl ?_; rintro v A ⟨a, rfl, rfl⟩
  (refine gl_store_blkW rfl rfl z_5 z_7 z_7 z_3 ?_)
  refine a_ ?_
  repeat refine n_ ?_
  refine g_ret ?_
  exact at_endB1 rfl rfl rfl z_2 rfl (OwnS (newP id h g img tout) a) (.inr ⟨hb0, a, rfl, rfl⟩) (fun w hw => Hp.left (hw.perm (perm_up z_2 (perm_up z_2 (perm_up z_2 (perm_up z_2 (.refl _)))))))
 all_goals
  have hb1 : badNew id tout = true := by rw [hb]; rfl
  repeat refine x_ ?_
  refine gl_boxA rfl rfl ?_; intro g6
  refine gl_boxA rfl rfl ?_; intro g7
  refine gl_allocA rfl ?_; intro g10
  refine a_ ?_
  repeat refine x_ ?_
  refine m_ ?_
  refine f_ ((s_lss rfl rfl).eb hq1) ?_
  refine m_ ?_
  (first | refine gl_guard_no rfl rfl rfl rfl rfl rfl rfl ?_ | (refine v_ ?_; refine m_ ?_))
  (first | refine gl_guard_no rfl rfl rfl rfl rfl rfl rfl ?_ | (refine v_ ?_; refine f_ ((s_gtr rfl rfl).eb hq2) ?_))
  refine f_ z_6 ?_
  refine m_ ?_
  (first | refine gl_guard_no rfl rfl rfl rfl rfl rfl rfl ?_ | (refine v_ ?_; refine m_ ?_))
  (first | refine gl_guard_no rfl rfl rfl rfl rfl rfl rfl ?_ | (refine v_ ?_; refine f_ ((s_lss rfl rfl).eb hq3) ?_))
  refine f_ z_6 ?_
  refine m_ ?_
  (first | refine gl_guard_no rfl rfl rfl rfl rfl rfl rfl ?_ | (refine v_ ?_; refine m_ ?_))
  (first | refine gl_guard_no rfl rfl rfl rfl rfl rfl rfl ?_ | (refine v_ ?_; refine f_ ((s_gtr rfl rfl).eb hq4) ?_))
  refine f_ z_6 ?_
  repeat refine x_ ?_
  refine f_ ((s_bld (cells := (rsC rp0 RA0).toArray) rfl z_4).eq (v' := rsV rp0 RA0) rfl) ?_
  (refine gl_store_blkW rfl rfl z_5 z_7 z_7 z_3 ?_)
  refine a_ ?_
  repeat refine n_ ?_
  refine g_ret ?_
  exact at_endB1 rfl rfl rfl z_2 rfl [] (.inl ⟨hb1, rfl, rfl⟩) (fun w hw => hw.dropAll)
end Go.Proofs.YtodcghipfolejaaGreat.Rf
namespace Go.Proofs.YtodcghipfolejaaGreat.Rf
open Go Go.Sl
structure EV where
 kind : Int
 m : MM
 et : Int
 ek : Int
 ed : Bs
 index : Int
 img : Bs
abbrev evC (e : EV) : List Value := [.int .i64 e.kind, .int .i64 e.m.p.kind, .int .i64 e.m.p.frm, .int .i64 e.m.p.to, .int .u64 e.m.p.term, .int .u64 e.m.p.index, .int .u64 e.m.p.lt, .int .u64 e.m.p.commit, .bool e.m.p.ok, .slice e.m.ea e.m.p.ents.length e.m.ec, .slice e.m.ka e.m.p.conf.length e.m.kc, .int .i64 e.m.p.off, .int .i64 e.m.p.size, B e.m.p.data, .int .u64 e.et, .int .i64 e.ek, B e.ed, .int .u64 e.index, B e.img]
abbrev evA (e : EV) : Value := .agg #[.int .i64 e.kind, .int .i64 e.m.p.kind, .int .i64 e.m.p.frm, .int .i64 e.m.p.to, .int .u64 e.m.p.term, .int .u64 e.m.p.index, .int .u64 e.m.p.lt, .int .u64 e.m.p.commit, .bool e.m.p.ok, .slice e.m.ea e.m.p.ents.length e.m.ec, .slice e.m.ka e.m.p.conf.length e.m.kc, .int .i64 e.m.p.off, .int .i64 e.m.p.size, B e.m.p.data, .int .u64 e.et, .int .i64 e.ek, B e.ed, .int .u64 e.index, B e.img]
def changesE (p : RP) (s : Bs) : Int := if readE s ≠ 0 ∨ stepS (confL p) (readL s) = false then 1 else if p.commit < confI p ∨ termV p.g p.commit ≠ p.term then 17 else 0
set_option maxRecDepth 8000 in
set_option maxHeartbeats 2000000 in
theorem changes_ct (X : Nat) (d : MD) (s : Bs) (hf : PFit d.p) (hc : d.p.l.length ≤ d.a.lc) (hs : s.length ≤ 9223372036854775807) : Ct Tryz.prog 62 [Ptr X, B s] (fun h => h X = some (mdO d) ∧ (d.p.lm d.a).ok h) [] (fun v A => v = .int .i64 (changesE d.p s) ∧ A = []) := by
 obtain ⟨p, a, outs, oa0, oc0⟩ := d
 simp only at hf hc
 have hcn := hf.cn (lastI p.g)
 have hca := hf.ca (lastI p.g)
 have hcm := hf.commit
 have hrl := read_le s
 obtain ⟨cl, hcl⟩ : ∃ l, l = confAt p.g (lastI p.g) := ⟨_, rfl⟩
 rw [← hcl] at hcn hca
 have hE : changesE p s = if readE s ≠ 0 ∨ stepS cl.1 (readL s) = false then 1 else if p.commit < cl.2 ∨ termV p.g p.commit ≠ p.term then 17 else 0 := by rw [hcl]; rfl
 simp only [hE]
 refine ct_enter 63 Tryz.func62 rfl rfl rfl ?_
 intro F hF
 have hX := hF.1
 have hg := hF.2
 obtain ⟨q1, hq1⟩ : ∃ q, q = decide (readE s = 0) := ⟨_, rfl⟩
 obtain ⟨q2, hq2⟩ : ∃ q, q = stepS cl.1 (readL s) := ⟨_, rfl⟩
 obtain ⟨q3, hq3⟩ : ∃ q, q = decide (p.commit < cl.2) := ⟨_, rfl⟩
 obtain ⟨q4, hq4⟩ : ∃ q, q = decide (termV p.g p.commit = p.term) := ⟨_, rfl⟩
 have hE2 : (if readE s ≠ 0 ∨ stepS cl.1 (readL s) = false then (1 : Int) else if p.commit < cl.2 ∨ termV p.g p.commit ≠ p.term then 17 else 0) = if (!q1 || !q2) = true then 1 else if (q3 || !q4) = true then 17 else 0 := by
  rw [← hq2, hq1, hq3, hq4]
  simp only [ne_eq, Bool.or_eq_true, Bool.not_eq_true', decide_eq_true_eq, decide_eq_false_iff_not]
 rw [hE2]
 repeat refine x_ ?_
 refine a_ ?_
 repeat refine x_ ?_
 refine m_ ?_
 refine f_ (s_nilCheck rfl) ?_
 refine f_ z_1 ?_
 refine f_ z_1 ?_
 refine r_ ((s_loadN (n := 4) rfl (fun w hw => peekBS (o := 5) (n := 4) hw hX) z_7).eq (v' := (p.lm a).v) rfl) ?_
 refine gl_call _ rfl (Conf_ct (p.lm a) (hf.fit a hc) (hf.datL a)) i_ (fun h hh _ => hg.le hh) rfl ?_; rw [show lastI (p.lm a) = lastI p.g from rfl, confAt_any, ← hcl]; rintro v A ⟨ca, cc, rfl, rfl⟩
 refine m_ ?_
 refine f_ (s_extract rfl rfl) ?_
 refine f_ (s_extract rfl rfl) ?_
 refine a_ ?_
 refine a_ ?_
 repeat refine x_ ?_
 refine m_ ?_
 refine gl_call _ rfl (Read_ct s hs) i_ (fun _ _ _ => trivial) rfl ?_; rintro v A ⟨ta, tc, rfl, rfl⟩
 refine m_ ?_
 refine f_ (s_extract rfl rfl) ?_
 refine f_ (s_extract rfl rfl) ?_
 refine a_ ?_
 refine a_ ?_
 repeat refine n_ ?_
 rcases (show (q1 = true ∧ q2 = true) ∨ q1 = false ∨ (q1 = true ∧ q2 = false) by cases q1 <;> cases q2 <;> simp) with ⟨rfl, rfl⟩ | rfl | ⟨rfl, rfl⟩
 rotate_left
 ·repeat refine y_ ?_
  refine g_region ?_
  refine m_ ?_
  refine f_ ((s_neq rfl rfl).eq (v' := .bool true) (by rw [← hq1]; rfl)) ?_
  refine m_ ?_
  (refine gl_guard_no rfl rfl rfl rfl rfl rfl rfl ?_)
  (refine gl_guard_no rfl rfl rfl rfl rfl rfl rfl ?_)
  (refine gl_guard_no rfl rfl rfl rfl rfl rfl rfl ?_)
  (refine gl_guard_no rfl rfl rfl rfl rfl rfl rfl ?_)
  refine f_ z_13 ?_
  repeat refine x_ ?_
  refine a_ ?_
  repeat refine n_ ?_
  refine g_ret ?_
  exact at_end1 rfl rfl [] ⟨by simp, rfl⟩ (fun _ h => h.dropAll)
 ·repeat refine y_ ?_
  refine g_region ?_
  refine m_ ?_
  refine f_ ((s_neq rfl rfl).eq (v' := .bool false) (by rw [← hq1]; rfl)) ?_
  refine m_ ?_
  (refine v_ ?_; refine m_ ?_)
  (refine v_ ?_; refine m_ ?_)
  (refine v_ ?_; refine gl_callp rfl (Step_ct cl.1 (readL s) ca ta cc tc (by omega) (by omega)) (fun h hh ⟨bs, hb⟩ => ⟨Sat.rd (a := ca) hb z_2, Sat.rd (a := ta) hb z_2⟩) rfl ?_; rw [← hq2])
  (refine v_ ?_; refine f_ (s_not rfl) ?_)
  refine f_ z_12 ?_
  repeat refine x_ ?_
  refine a_ ?_
  repeat refine n_ ?_
  refine g_ret ?_
  exact at_end1 rfl rfl [] ⟨by simp, rfl⟩ (fun _ h => h.dropAll)
 repeat refine x_ ?_
 refine m_ ?_
 refine f_ ((s_neq rfl rfl).eq (v' := .bool false) (by rw [← hq1]; rfl)) ?_
 refine m_ ?_
 (refine v_ ?_; refine m_ ?_)
 (refine v_ ?_; refine m_ ?_)
 (refine v_ ?_; refine gl_callp rfl (Step_ct cl.1 (readL s) ca ta cc tc (by omega) (by omega)) (fun h hh ⟨bs, hb⟩ => ⟨Sat.rd (a := ca) hb z_2, Sat.rd (a := ta) hb z_2⟩) rfl ?_; rw [← hq2])
 (refine v_ ?_; refine f_ (s_not rfl) ?_)
 refine f_ z_12 ?_
 repeat refine n_ ?_
 refine g_draw ([4, 9], [0, 1, 3, 7, 15, 0, 32, 96, 224, 480, 1023, 2047, 4095, 4095, 8191, 32767], [10]) [] 16 rfl ?_
 refine w_ 0 rfl (s_move rfl) ?_
 refine w_ 1 rfl (s_nilCheck rfl) ?_
 refine w_ 2 rfl z_1 ?_
 refine w_ 3 rfl z_1 ?_
 refine ga_readF 4 rfl ((s_loadN (n := 4) rfl (fun w hw => peekBS (o := 5) (n := 4) hw hX) z_7).eq (v' := (p.lm a).v) rfl) k_ rfl rfl rfl z_4 ?_
 refine w_ 5 rfl (s_move rfl) ?_
 refine w_ 6 rfl (s_nilCheck rfl) ?_
 refine w_ 7 rfl z_1 ?_
 refine w_ 8 rfl z_1 ?_
 refine ga_readF 9 rfl (s_load1 rfl (fun w hw => peekB hw hX a19_10)) k_ rfl rfl rfl z_4 ?_
 refine ga_one 10 rfl z_4 ?_
 refine gl_callp rfl (Term_ct (p.lm a) p.commit (hf.fit a hc) (by omega)) (fun h hh _ => hg.2.le hh) rfl ?_; rw [show termV (p.lm a) p.commit = termV p.g p.commit from rfl]
 refine gl_nil ?_
 refine at_ga (.inl z_4) ?_
 refine w_ 11 rfl (s_move rfl) ?_
 refine w_ 12 rfl (s_extract rfl rfl) ?_
 refine w_ 13 rfl (s_extract rfl rfl) ?_
 refine w_ 14 rfl (s_assign rfl) ?_
 refine w_ 15 rfl (s_assign rfl) ?_
 refine ga_done z_4 ?_
 repeat refine y_ ?_
 rcases (show (q3 = false ∧ q4 = true) ∨ q3 = true ∨ (q3 = false ∧ q4 = false) by cases q3 <;> cases q4 <;> simp) with ⟨rfl, rfl⟩ | rfl | ⟨rfl, rfl⟩
 ·repeat refine y_ ?_
  refine g_region ?_
  refine m_ ?_
  refine m_ ?_
  refine f_ (s_nilCheck rfl) ?_
  refine f_ z_1 ?_
  refine f_ z_1 ?_
  refine r_ (by exact s_load1 rfl (fun w hw => peekB hw (by assumption) a19_10)) ?_
  refine f_ ((s_gtr rfl rfl).eb hq3) ?_
  refine m_ ?_
  (refine v_ ?_; refine m_ ?_)
  (refine v_ ?_; refine m_ ?_)
  (refine v_ ?_; refine f_ (s_nilCheck rfl) ?_)
  (refine v_ ?_; refine f_ z_1 ?_)
  (refine v_ ?_; refine f_ z_1 ?_)
  (refine v_ ?_; refine r_ (by exact s_load1 rfl (fun w hw => peekB hw (by assumption) a19_1)) ?_)
  (refine v_ ?_; refine f_ ((s_neq rfl rfl).eq (v' := .bool false) (by rw [← hq4]; rfl)) ?_)
  refine f_ z_12 ?_
  repeat refine x_ ?_
  refine a_ ?_
  repeat refine n_ ?_
  refine g_ret ?_
  exact at_end1 rfl rfl [] ⟨by simp, rfl⟩ (fun _ h => h.dropAll)
 ·repeat refine y_ ?_
  refine g_region ?_
  refine m_ ?_
  refine m_ ?_
  refine f_ (s_nilCheck rfl) ?_
  refine f_ z_1 ?_
  refine f_ z_1 ?_
  refine r_ (by exact s_load1 rfl (fun w hw => peekB hw (by assumption) a19_10)) ?_
  refine f_ ((s_gtr rfl rfl).eb hq3) ?_
  refine m_ ?_
  (refine gl_guard_no rfl rfl rfl rfl rfl rfl rfl ?_)
  (refine gl_guard_no rfl rfl rfl rfl rfl rfl rfl ?_)
  (refine gl_guard_no rfl rfl rfl rfl rfl rfl rfl ?_)
  (refine gl_guard_no rfl rfl rfl rfl rfl rfl rfl ?_)
  (refine gl_guard_no rfl rfl rfl rfl rfl rfl rfl ?_)
  (refine gl_guard_no rfl rfl rfl rfl rfl rfl rfl ?_)
  (refine gl_guard_no rfl rfl rfl rfl rfl rfl rfl ?_)
  refine f_ z_13 ?_
  repeat refine x_ ?_
  refine a_ ?_
  repeat refine n_ ?_
  refine g_ret ?_
  exact at_end1 rfl rfl [] ⟨by simp, rfl⟩ (fun _ h => h.dropAll)
 ·repeat refine y_ ?_
  refine g_region ?_
  refine m_ ?_
  refine m_ ?_
  refine f_ (s_nilCheck rfl) ?_
  refine f_ z_1 ?_
  refine f_ z_1 ?_
  refine r_ (by exact s_load1 rfl (fun w hw => peekB hw (by assumption) a19_10)) ?_
  refine f_ ((s_gtr rfl rfl).eb hq3) ?_
  refine m_ ?_
  (refine v_ ?_; refine m_ ?_)
  (refine v_ ?_; refine m_ ?_)
  (refine v_ ?_; refine f_ (s_nilCheck rfl) ?_)
  (refine v_ ?_; refine f_ z_1 ?_)
  (refine v_ ?_; refine f_ z_1 ?_)
  (refine v_ ?_; refine r_ (by exact s_load1 rfl (fun w hw => peekB hw (by assumption) a19_1)) ?_)
  (refine v_ ?_; refine f_ ((s_neq rfl rfl).eq (v' := .bool true) (by rw [← hq4]; rfl)) ?_)
  refine f_ z_12 ?_
  repeat refine x_ ?_
  refine a_ ?_
  repeat refine n_ ?_
  refine g_ret ?_
  exact at_end1 rfl rfl [] ⟨by simp, rfl⟩ (fun _ h => h.dropAll)
end Go.Proofs.YtodcghipfolejaaGreat.Rf
