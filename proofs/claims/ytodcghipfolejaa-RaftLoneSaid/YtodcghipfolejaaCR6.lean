/- A mind's calls: lead. -/
import Derived.Test.YtodcghipfolejaaCR5
namespace Go.Proofs.Ytodcghipfolejaa.Rf
open Go Go.Sl
set_option linter.unusedVariables false
set_option linter.unusedSimpArgs false
-- ARR

theorem pf_follow {p : RP} (h : PFit p) (t n : Int) (ht : 0 ≤ t ∧ t ≤ 4611686018427387904) : PFit (followP p t n) :=
  ⟨h.base, h.len, h.cl, h.dat, h.img, Nat.zero_le _, Nat.zero_le _, fun q hq => (by cases hq), h.ticks, by
    have := h.term
    show 0 ≤ (if p.term < t then t else p.term) ∧ (if p.term < t then t else p.term) ≤ _
    split <;> omega, h.commit⟩
theorem pf_commit1 {p : RP} (h : PFit p) : PFit (commit1 p) := by
  unfold commit1
  split
  · exact ⟨h.base, h.len, h.cl, h.dat, h.img, h.votes, h.peers, h.prs, h.ticks, h.term, h.com⟩
  · exact h
theorem pf_commit {p : RP} (h : PFit p) : PFit (commitP p) := by
  unfold commitP
  split
  · exact pf_follow (pf_commit1 h) _ _ (pf_commit1 h).term
  · exact pf_commit1 h
theorem pf_lead1 {p : RP} (h : PFit p) : PFit (lead1 p) := ⟨h.base, h.len, h.cl, h.dat, h.img, Nat.zero_le _, Nat.zero_le _, fun q hq => (by cases hq), h.ticks, h.term, h.commit⟩
theorem peers_none {p : RP} (hp : p.peers = []) (h : PFit p) : ∀ q ∈ peersL p, 1 ≤ q.next ∧ q.next ≤ 4611686018427387904 ∧ 0 ≤ q.mtc ∧ q.mtc ≤ 4611686018427387904 ∧ 0 ≤ q.off ∧ q.off ≤ p.img.length := fun q hq => by
  obtain ⟨n, _, rfl⟩ := List.mem_map.1 hq
  have := h.last
  have e : peerOf p n = ⟨n, lastI p.g + 1, 0, 0⟩ := by rw [peerOf, hp]; rfl
  rw [e]
  simp only
  omega
theorem peersL_len (p : RP) (h : PFit p) : (peersL p).length ≤ 1000000 := by
  have := h.cn (lastI p.g)
  rw [peersL, List.length_map]
  exact Nat.le_trans (List.length_filter_le _ _) this
theorem pf_lead2 {p : RP} (h : PFit p) (hl : p.l.length ≤ 99999) : PFit (lead2 p) := by
  have h1 := pf_lead1 h
  refine ⟨h.base, ?_, h.cl, fun i hi => ?_, h.img, Nat.zero_le _, peersL_len (lead1 p) h1, peers_none rfl h1, h.ticks, h.term, h.commit⟩
  · show (p.l ++ [(p.term, 1, [])]).length ≤ _
    simp; omega
  · show ((p.l ++ [((p.term, 1, []) : Ent)]).getD i E0).2.2.length ≤ _
    replace hi : i < (p.l ++ [((p.term, 1, []) : Ent)]).length := hi
    rw [List.length_append, List.length_singleton] at hi
    by_cases e : i < p.l.length
    · rw [List.getD_eq_getElem?_getD, List.getElem?_append_left e, ← List.getD_eq_getElem?_getD]
      exact h.dat i e
    · have : i = p.l.length := by omega
      subst this
      simp
theorem pf_lead {p : RP} (h : PFit p) (hl : p.l.length ≤ 99999) : PFit (leadP p) := pf_commit (pf_lead2 h hl)
abbrev mdHL (X : Nat) (p : RP) (a : RA) (n : Nat) (xs : List Value) (outs : List MM) (oa : Option Addr) (oc : Nat) : List As := [.blk X (.cells #[.int .i64 p.id, .int .u64 p.term, .int .i64 p.vote, .int .i64 p.role, .int .i64 p.leader, .int .u64 p.base, .int .u64 p.bt, .slice a.ca p.conf.length a.cc, .slice a.la n a.lc, B p.img, .int .u64 p.commit, .int .i64 p.ticks, .int .i64 p.tout, .slice a.va p.votes.length a.vc, .slice a.pa p.peers.length a.pc, B p.piece, .int .u64 p.pix, .int .u64 p.pt, .slice oa outs.length oc] 124), .own (.slice a.la n a.lc) 65 3 xs, OwnC a.ca p.conf a.cc, OwnC a.va p.votes a.vc, OwnP a.pa p.peers a.pc, OwnM oa outs oc]
theorem mdH_ent (X : Nat) (p : RP) (a : RA) (e : Ent) (outs : List MM) (oa : Option Addr) (oc : Nat) : mdH X ⟨{ p with l := p.l ++ [e] }, a, outs, oa, oc⟩ = mdHL X p a (p.l.length + 1) (enV p.l ++ entC e) outs oa oc := by
  have e1 : (p.l ++ [e]).length = p.l.length + 1 := by simp
  have e2 : enV (p.l ++ [e]) = enV p.l ++ entC e := by rw [enV_append]; simp [enV]
  show mdHL X p a (p.l ++ [e]).length (enV (p.l ++ [e])) outs oa oc = _
  rw [e1, e2]
theorem entC_one (e : Ent) : ∀ q ∈ entC e, q.oneCell' = true := fun q hq => by simp at hq; rcases hq with rfl | rfl | rfl <;> rfl
theorem outs_len {d d' : MD} {new : List MP} (h : d'.outs.map MM.p = d.outs.map MM.p ++ new) : d'.outs.length = d.outs.length + new.length := by
  have := congrArg List.length h
  simpa using this
set_option maxRecDepth 8000 in
set_option maxHeartbeats 4000000 in
theorem lead_ct (X : Nat) (d : MD) (hf : PFit d.p) (hl : d.p.l.length ≤ 99999) (ho : d.outs.length ≤ 1000000) : Ct Try.prog 115 [Ptr X] (fun _ => True) (mdH X d) (MdP X d (leadP d.p) (leadM d.p) (.tuple #[])) := by
  obtain ⟨p, a, outs, oa0, oc0⟩ := d
  simp only at hf hl ho
  have hf1 := pf_lead1 hf
  have hf2 := pf_lead2 hf hl
  have hf3 := pf_lead hf hl
  refine ct_enter 48 Try.func115 rfl rfl rfl ?_
  intro F _
  repeat (first | refine g_seq ?_ | refine at_code ?_ | refine g_skip ?_ | refine g_block ?_ | refine g_exit rfl ?_ | refine g_cond_t rfl ?_ | refine g_cond_f rfl ?_)
  refine g_region ?_
  refine gl_f (s_move rfl) rfl rfl rfl ?_
  refine gl_f (s_move rfl) rfl rfl rfl ?_
  refine gl_f (s_move rfl) rfl rfl rfl ?_
  refine gl_f (s_move rfl) rfl rfl rfl ?_
  refine gl_f (s_move rfl) rfl rfl rfl ?_
  refine gl_f (s_nilCheck rfl) rfl rfl rfl ?_
  refine gl_f (by first | exact s_fieldAddr rfl (by rfl) (by infer_instance) (by decide) | exact s_fieldAddr_o rfl (by assumption) (by rfl) (by infer_instance) (by decide)) rfl rfl rfl ?_
  refine gl_f (by first | exact s_fieldAddr rfl (by rfl) (by infer_instance) (by decide) | exact s_fieldAddr_o rfl (by assumption) (by rfl) (by infer_instance) (by decide)) rfl rfl rfl ?_
  refine gl_r (by first | exact s_load_blk rfl (by repeat first|exact .del|apply Upd.there) a19_0 | exact s_load1 rfl (fun w hw => peekB hw (by assumption) a19_0)) rfl rfl rfl ?_
  refine gl_f (s_nilCheck rfl) rfl rfl rfl ?_
  refine gl_f (by first | exact s_fieldAddr rfl (by rfl) (by infer_instance) (by decide) | exact s_fieldAddr_o rfl (by assumption) (by rfl) (by infer_instance) (by decide)) rfl rfl rfl ?_
  refine gl_f (by first | exact s_fieldAddr rfl (by rfl) (by infer_instance) (by decide) | exact s_fieldAddr_o rfl (by assumption) (by rfl) (by infer_instance) (by decide)) rfl rfl rfl ?_
  (first | refine gl_store_blkC (pre := [_, _, _]) (post := [_, _, _, _, _, _, _, _, _, _, _, _, _, _, _]) rfl rfl (by repeat first|exact .here|apply Upd.there) (by rfl) (by rfl) (by rfl) ?_ | refine gl_store_blk rfl rfl (by repeat first|exact .here|apply Upd.there) (by rfl) (by (intro q hq; simp [Value.cells] at hq; first | (subst hq; rfl) | (rcases hq with rfl | rfl | rfl | rfl | rfl | rfl | rfl | rfl <;> rfl) | (rcases hq with rfl | rfl | rfl | rfl | rfl | rfl | rfl | rfl | rfl | rfl | rfl | rfl | rfl | rfl | rfl | rfl | rfl | rfl | rfl | rfl <;> rfl))) (by rfl) ?_)
  refine gl_f (s_nilCheck rfl) rfl rfl rfl ?_
  refine gl_f (by first | exact s_fieldAddr rfl (by rfl) (by infer_instance) (by decide) | exact s_fieldAddr_o rfl (by assumption) (by rfl) (by infer_instance) (by decide)) rfl rfl rfl ?_
  refine gl_f (by first | exact s_fieldAddr rfl (by rfl) (by infer_instance) (by decide) | exact s_fieldAddr_o rfl (by assumption) (by rfl) (by infer_instance) (by decide)) rfl rfl rfl ?_
  (first | refine gl_store_blkC (pre := [_, _, _, _]) (post := [_, _, _, _, _, _, _, _, _, _, _, _, _, _]) rfl rfl (by repeat first|exact .here|apply Upd.there) (by rfl) (by rfl) (by rfl) ?_ | refine gl_store_blk rfl rfl (by repeat first|exact .here|apply Upd.there) (by rfl) (by (intro q hq; simp [Value.cells] at hq; first | (subst hq; rfl) | (rcases hq with rfl | rfl | rfl | rfl | rfl | rfl | rfl | rfl <;> rfl) | (rcases hq with rfl | rfl | rfl | rfl | rfl | rfl | rfl | rfl | rfl | rfl | rfl | rfl | rfl | rfl | rfl | rfl | rfl | rfl | rfl | rfl <;> rfl))) (by rfl) ?_)
  refine gl_f (s_nilCheck rfl) rfl rfl rfl ?_
  refine gl_f (by first | exact s_fieldAddr rfl (by rfl) (by infer_instance) (by decide) | exact s_fieldAddr_o rfl (by assumption) (by rfl) (by infer_instance) (by decide)) rfl rfl rfl ?_
  refine gl_f (by first | exact s_fieldAddr rfl (by rfl) (by infer_instance) (by decide) | exact s_fieldAddr_o rfl (by assumption) (by rfl) (by infer_instance) (by decide)) rfl rfl rfl ?_
  (first | refine gl_store_blkC (pre := [_, _, _, _, _, _, _, _, _, _, _, _, _]) (post := [_, _, _, _, _]) rfl rfl (by repeat first|exact .here|apply Upd.there) (by rfl) (by rfl) (by rfl) ?_ | refine gl_store_blk rfl rfl (by repeat first|exact .here|apply Upd.there) (by rfl) (by (intro q hq; simp [Value.cells] at hq; first | (subst hq; rfl) | (rcases hq with rfl | rfl | rfl | rfl | rfl | rfl | rfl | rfl <;> rfl) | (rcases hq with rfl | rfl | rfl | rfl | rfl | rfl | rfl | rfl | rfl | rfl | rfl | rfl | rfl | rfl | rfl | rfl | rfl | rfl | rfl | rfl <;> rfl))) (by rfl) ?_)
  refine gl_f (s_nilCheck rfl) rfl rfl rfl ?_
  refine gl_f (by first | exact s_fieldAddr rfl (by rfl) (by infer_instance) (by decide) | exact s_fieldAddr_o rfl (by assumption) (by rfl) (by infer_instance) (by decide)) rfl rfl rfl ?_
  refine gl_f (by first | exact s_fieldAddr rfl (by rfl) (by infer_instance) (by decide) | exact s_fieldAddr_o rfl (by assumption) (by rfl) (by infer_instance) (by decide)) rfl rfl rfl ?_
  (first | refine gl_store_blkC (pre := [_, _, _, _, _, _, _, _, _, _, _, _, _, _]) (post := [_, _, _, _]) rfl rfl (by repeat first|exact .here|apply Upd.there) (by rfl) (by rfl) (by rfl) ?_ | refine gl_store_blk rfl rfl (by repeat first|exact .here|apply Upd.there) (by rfl) (by (intro q hq; simp [Value.cells] at hq; first | (subst hq; rfl) | (rcases hq with rfl | rfl | rfl | rfl | rfl | rfl | rfl | rfl <;> rfl) | (rcases hq with rfl | rfl | rfl | rfl | rfl | rfl | rfl | rfl | rfl | rfl | rfl | rfl | rfl | rfl | rfl | rfl | rfl | rfl | rfl | rfl <;> rfl))) (by rfl) ?_)
  refine gl_nil ?_
  repeat (first | refine g_seq ?_ | refine at_code ?_ | refine g_skip ?_ | refine g_block ?_ | refine g_exit rfl ?_ | refine g_cond_t rfl ?_ | refine g_cond_f rfl ?_)
  refine g_own_nil 3 1 ?_
  refine g_own_nil 121 4 ?_
  refine g_pull (H' := mdH X ⟨lead1 p, { a with va := none, vc := 0, pa := none, pc := 0 }, outs, oa0, oc0⟩) (fun w hw => Hp.left (R := [OwnC a.va p.votes a.vc, OwnP a.pa p.peers a.pc]) (hw.perm (perm_up (by repeat first|exact .del|apply Upd.there) (perm_up (by repeat first|exact .del|apply Upd.there) (perm_up (by repeat first|exact .del|apply Upd.there) (perm_up (by repeat first|exact .del|apply Upd.there) (perm_up (by repeat first|exact .del|apply Upd.there) (perm_up (by repeat first|exact .del|apply Upd.there) (.refl _))))))))) ?_
  repeat (first | refine g_seq ?_ | refine at_code ?_ | refine g_skip ?_ | refine g_block ?_ | refine g_exit rfl ?_ | refine g_cond_t rfl ?_ | refine g_cond_f rfl ?_)
  refine g_region ?_
  refine gl_f (s_move rfl) rfl rfl rfl ?_
  refine gl_call [] rfl (peers_ct X ⟨lead1 p, { a with va := none, vc := 0, pa := none, pc := 0 }, outs, oa0, oc0⟩ hf1) (fun w hw => hw) (fun _ _ _ => trivial) rfl ?_; rintro v A ⟨rfl, d2, Z2, e2, o2, rfl, f2⟩; rw [List.append_nil]
  refine gl_nil ?_
  repeat (first | refine g_seq ?_ | refine at_code ?_ | refine g_skip ?_ | refine g_block ?_ | refine g_exit rfl ?_ | refine g_cond_t rfl ?_ | refine g_cond_f rfl ?_)
  obtain ⟨p2, a2, outs2, oa2, oc2⟩ := d2
  simp only at e2
  subst e2
  repeat (first | refine g_seq ?_ | refine at_code ?_ | refine g_skip ?_ | refine g_block ?_ | refine g_exit rfl ?_ | refine g_cond_t rfl ?_ | refine g_cond_f rfl ?_)
  refine g_draw ([6, 11], [0, 0, 2, 6, 14, 30, 62, 0, 128, 384, 896, 1920, 3968, 8064, 16382, 32767, 65535, 131071, 262143, 524287], [13, 14, 19]) [.blk X (mdO ⟨{ lead1 p with peers := peersL (lead1 p) }, a2, outs2, oa2, oc2⟩)] 20 rfl ?_
  refine ga_free 0 rfl (s_move rfl) rfl rfl rfl (by kernel_rfl) ?_
  refine ga_free 1 rfl (s_move rfl) rfl rfl rfl (by kernel_rfl) ?_
  refine ga_free 2 rfl (s_nilCheck rfl) rfl rfl rfl (by kernel_rfl) ?_
  refine ga_free 3 rfl (by first | exact s_fieldAddr rfl (by rfl) (by infer_instance) (by decide) | exact s_fieldAddr_o rfl (by assumption) (by rfl) (by infer_instance) (by decide)) rfl rfl rfl (by kernel_rfl) ?_
  refine ga_free 4 rfl (by first | exact s_fieldAddr rfl (by rfl) (by infer_instance) (by decide) | exact s_fieldAddr_o rfl (by assumption) (by rfl) (by infer_instance) (by decide)) rfl rfl rfl (by kernel_rfl) ?_
  refine ga_free 5 rfl (by first | exact s_fieldAddr rfl (by rfl) (by infer_instance) (by decide) | exact s_fieldAddr_o rfl (by assumption) (by rfl) (by infer_instance) (by decide)) rfl rfl rfl (by kernel_rfl) ?_
  (first | refine ga_read_k 6 rfl (by first | exact .head _ | exact .tail _ (.head _) | exact .tail _ (.tail _ (.head _)) | exact .tail _ (.tail _ (.tail _ (.head _)))) (s_load_blk rfl .del a19_8) (by (first | exact fun _ h => h | (repeat first | exact sub_nil | refine sub_cons (by repeat first | exact List.Mem.head _ | apply List.Mem.tail) ?_))) rfl rfl rfl (by kernel_rfl) ?_ | refine ga_readF 6 rfl (s_load1 rfl (fun w hw => peekB hw (by assumption) a19_8)) (by (first | exact fun _ h => h | (repeat first | exact sub_nil | refine sub_cons (by repeat first | exact List.Mem.head _ | apply List.Mem.tail) ?_))) rfl rfl rfl (by kernel_rfl) ?_)
  refine ga_free 7 rfl (s_move rfl) rfl rfl rfl (by kernel_rfl) ?_
  refine ga_free 8 rfl (s_nilCheck rfl) rfl rfl rfl (by kernel_rfl) ?_
  refine ga_free 9 rfl (by first | exact s_fieldAddr rfl (by rfl) (by infer_instance) (by decide) | exact s_fieldAddr_o rfl (by assumption) (by rfl) (by infer_instance) (by decide)) rfl rfl rfl (by kernel_rfl) ?_
  refine ga_free 10 rfl (by first | exact s_fieldAddr rfl (by rfl) (by infer_instance) (by decide) | exact s_fieldAddr_o rfl (by assumption) (by rfl) (by infer_instance) (by decide)) rfl rfl rfl (by kernel_rfl) ?_
  (first | refine ga_read_k 11 rfl (by first | exact .head _ | exact .tail _ (.head _) | exact .tail _ (.tail _ (.head _)) | exact .tail _ (.tail _ (.tail _ (.head _)))) (s_load_blk rfl .del a19_1) (by (first | exact fun _ h => h | (repeat first | exact sub_nil | refine sub_cons (by repeat first | exact List.Mem.head _ | apply List.Mem.tail) ?_))) rfl rfl rfl (by kernel_rfl) ?_ | refine ga_readF 11 rfl (s_load1 rfl (fun w hw => peekB hw (by assumption) a19_1)) (by (first | exact fun _ h => h | (repeat first | exact sub_nil | refine sub_cons (by repeat first | exact List.Mem.head _ | apply List.Mem.tail) ?_))) rfl rfl rfl (by kernel_rfl) ?_)
  refine ga_free 12 rfl (s_build rfl (run_build_struct (places := [(0, 1), (1, 1), (2, 1)]) rfl (by intro f hf; simp at hf; rcases hf with rfl | rfl | rfl <;> rfl) rfl)) rfl rfl rfl (by kernel_rfl) ?_
  refine ga_one 13 rfl (by kernel_rfl) ?_
  refine gl_buildSliceU rfl rfl rfl rfl rfl rfl (xs := entC (p.term, 1, [])) rfl rfl ?_; intro a38 ha38
  refine gl_nil ?_
  refine at_ga (.inr (by exact keeps_of (by (first | exact fun _ h => h | (repeat first | exact sub_nil | refine sub_cons (by repeat first | exact List.Mem.head _ | apply List.Mem.tail) ?_))))) ?_
  refine ga_one 14 rfl (by kernel_rfl) ?_
  refine gl_append (sz := 3) rfl rfl (fun a' c' => (by repeat first|exact .here|apply Upd.there)) (fun w hw => (hw.ownN (by repeat first|exact .del|apply Upd.there)).2.2.1) rfl rfl rfl (entC_one _) (by show (p.l.length + 1) * 32 ≤ 140737488355328; omega) (by show p.l.length + 1 ≤ 9223372036854775807; omega) rfl ?_; intro a39 c39 hc39
  refine gl_nil ?_
  refine at_ga (.inl (by kernel_rfl)) ?_
  refine ga_free 15 rfl (s_nilCheck rfl) rfl rfl rfl (by kernel_rfl) ?_
  refine ga_free 16 rfl (by first | exact s_fieldAddr rfl (by rfl) (by infer_instance) (by decide) | exact s_fieldAddr_o rfl (by assumption) (by rfl) (by infer_instance) (by decide)) rfl rfl rfl (by kernel_rfl) ?_
  refine ga_free 17 rfl (by first | exact s_fieldAddr rfl (by rfl) (by infer_instance) (by decide) | exact s_fieldAddr_o rfl (by assumption) (by rfl) (by infer_instance) (by decide)) rfl rfl rfl (by kernel_rfl) ?_
  refine ga_free 18 rfl (by first | exact s_fieldAddr rfl (by rfl) (by infer_instance) (by decide) | exact s_fieldAddr_o rfl (by assumption) (by rfl) (by infer_instance) (by decide)) rfl rfl rfl (by kernel_rfl) ?_
  refine ga_one 19 rfl (by kernel_rfl) ?_
  (first | refine gl_store_blkC (pre := [_, _, _, _, _, _, _, _]) (post := [_, _, _, _, _, _, _, _, _, _]) rfl rfl (by repeat first|exact .here|apply Upd.there) (by rfl) (by rfl) (by rfl) ?_ | refine gl_store_blk rfl rfl (by repeat first|exact .here|apply Upd.there) (by rfl) (by (intro q hq; simp [Value.cells] at hq; first | (subst hq; rfl) | (rcases hq with rfl | rfl | rfl | rfl | rfl | rfl | rfl | rfl <;> rfl) | (rcases hq with rfl | rfl | rfl | rfl | rfl | rfl | rfl | rfl | rfl | rfl | rfl | rfl | rfl | rfl | rfl | rfl | rfl | rfl | rfl | rfl <;> rfl))) (by rfl) ?_)
  refine gl_nil ?_
  refine at_ga (.inl (by kernel_rfl)) ?_
  refine ga_done (by kernel_rfl) ?_
  repeat (first | refine g_seq ?_ | refine at_code ?_ | refine g_skip ?_ | refine g_block ?_ | refine g_exit rfl ?_ | refine g_cond_t rfl ?_ | refine g_cond_f rfl ?_)
  refine g_pull (H' := mdH X ⟨lead2 p, { a2 with la := a39, lc := c39 }, outs2, oa2, oc2⟩ ++ Z2) (fun w hw => by rw [show lead2 p = { ({ lead1 p with peers := peersL (lead1 p) } : RP) with l := (lead1 p).l ++ [((p.term, 1, []) : Ent)] } from rfl, mdH_ent]; exact hw.drop) ?_
  repeat (first | refine g_seq ?_ | refine at_code ?_ | refine g_skip ?_ | refine g_block ?_ | refine g_exit rfl ?_ | refine g_cond_t rfl ?_ | refine g_cond_f rfl ?_)
  refine g_region ?_
  refine gl_f (s_move rfl) rfl rfl rfl ?_
  refine gl_call Z2 rfl (commit_ct X ⟨lead2 p, { a2 with la := a39, lc := c39 }, outs2, oa2, oc2⟩ hf2) (fun w hw => hw) (fun _ _ _ => trivial) rfl ?_; rintro v A ⟨rfl, d3, Z3, e3, o3, rfl, f3⟩
  refine gl_nil ?_
  repeat (first | refine g_seq ?_ | refine at_code ?_ | refine g_skip ?_ | refine g_block ?_ | refine g_exit rfl ?_ | refine g_cond_t rfl ?_ | refine g_cond_f rfl ?_)
  have l2 := outs_len o2
  have l3 := outs_len o3
  simp only [List.length_nil] at l2 l3
  obtain ⟨p3, a3, outs3, oa3, oc3⟩ := d3
  simp only at e3 l3
  subst e3
  repeat (first | refine g_seq ?_ | refine at_code ?_ | refine g_skip ?_ | refine g_block ?_ | refine g_exit rfl ?_ | refine g_cond_t rfl ?_ | refine g_cond_f rfl ?_)
  refine g_region ?_
  refine gl_f (s_move rfl) rfl rfl rfl ?_
  refine gl_call (Z3 ++ Z2) rfl (all_ct X ⟨commitP (lead2 p), a3, outs3, oa3, oc3⟩ hf3 (by simp only; omega)) (fun w hw => by rwa [List.append_assoc] at hw) (fun _ _ _ => trivial) rfl ?_; rintro v A ⟨rfl, ms, oa4, oc4, Z4, e4, rfl, f4⟩
  refine gl_nil ?_
  repeat (first | refine g_seq ?_ | refine at_code ?_ | refine g_skip ?_ | refine g_block ?_ | refine g_exit rfl ?_ | refine g_cond_t rfl ?_ | refine g_cond_f rfl ?_)
  simp only [List.append_nil] at o2 o3
  exact at_end0 rfl (mdH X ⟨leadP p, a3, outs3 ++ ms, oa4, oc4⟩ ++ (Z4 ++ (Z3 ++ Z2))) ⟨rfl, ⟨leadP p, a3, outs3 ++ ms, oa4, oc4⟩, Z4 ++ (Z3 ++ Z2), rfl, by rw [List.map_append, e4, o3, o2]; rfl, rfl, fun h f hs m hm => by
    obtain ⟨s4, s32⟩ := Sat.two2 hs
    obtain ⟨s3, s2⟩ := Sat.two2 s32
    rcases List.mem_append.1 hm with hm | hm
    · exact f3 h (f2 h f s2) s3 m hm
    · exact f4 h s4 m hm⟩ (fun w hw => by rwa [List.append_assoc] at hw)
end Go.Proofs.Ytodcghipfolejaa.Rf
