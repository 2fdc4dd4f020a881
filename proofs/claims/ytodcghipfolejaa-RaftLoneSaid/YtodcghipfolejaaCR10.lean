/- A mind's calls: propose. -/
import Derived.Test.YtodcghipfolejaaCR9
namespace Go.Proofs.Ytodcghipfolejaa.Rf
open Go Go.Sl
set_option linter.unusedVariables false
set_option linter.unusedSimpArgs false
-- ARR

def propE (p : RP) (ek : Int) (ed : Bs) : Int := if p.role ≠ 2 then 18 else if ek ≠ 2 ∧ ek ≠ 3 then 1 else if 2048 < ed.length then 2 else if 1024 ≤ p.l.length then 7 else if ek = 2 then changesE p ed else 0
def prop1 (p : RP) (ek : Int) (ed : Bs) : RP := { p with l := p.l ++ [(p.term, ek, ed)] }
def prop2 (p : RP) (ek : Int) (ed : Bs) : RP := if ek = 2 then { prop1 p ek ed with peers := peersL (prop1 p ek ed) } else prop1 p ek ed
noncomputable def propP (p : RP) (ek : Int) (ed : Bs) : RP := if propE p ek ed = 0 then commitP (prop2 p ek ed) else p
noncomputable def propM (p : RP) (ek : Int) (ed : Bs) : List MP := if propE p ek ed = 0 then allP (commitP (prop2 p ek ed)) else []
theorem peerOf_cases (p : RP) (n : Int) : peerOf p n = ⟨n, lastI p.g + 1, 0, 0⟩ ∨ peerOf p n ∈ p.peers := by
  unfold peerOf
  generalize (⟨n, lastI p.g + 1, 0, 0⟩ : Pr) = b0
  have key : ∀ (l : List Pr) (b : Pr), l.foldl (fun b q => if q.node = n then q else b) b = b ∨ l.foldl (fun b q => if q.node = n then q else b) b ∈ l := by
    intro l
    induction l with
    | nil => intro b; exact .inl rfl
    | cons q r ih =>
      intro b
      rw [List.foldl_cons]
      rcases ih (if q.node = n then q else b) with h | h
      · rw [h]
        split
        · exact .inr (.head _)
        · exact .inl rfl
      · exact .inr (.tail _ h)
  exact key p.peers b0
theorem pf_peers {p : RP} (h : PFit p) : PFit { p with peers := peersL p } := by
  refine ⟨h.base, h.len, h.cl, h.dat, h.img, h.votes, peersL_len p h, fun q hq => ?_, h.ticks, h.term, h.commit⟩
  obtain ⟨n, _, rfl⟩ := List.mem_map.1 hq
  rcases peerOf_cases p n with e | e
  · rw [e]
    have := h.last
    simp only
    omega
  · exact h.prs _ e
theorem pf_prop1 {p : RP} (h : PFit p) {ek : Int} {ed : Bs} (hl : p.l.length ≤ 99999) (hd : ed.length ≤ 1000000000000) : PFit (prop1 p ek ed) := by
  refine ⟨h.base, ?_, h.cl, fun i hi => ?_, h.img, h.votes, h.peers, h.prs, h.ticks, h.term, h.commit⟩
  · show (p.l ++ [(p.term, ek, ed)]).length ≤ _
    simp; omega
  · show ((p.l ++ [((p.term, ek, ed) : Ent)]).getD i E0).2.2.length ≤ _
    replace hi : i < (p.l ++ [((p.term, ek, ed) : Ent)]).length := hi
    rw [List.length_append, List.length_singleton] at hi
    by_cases e : i < p.l.length
    · rw [List.getD_eq_getElem?_getD, List.getElem?_append_left e, ← List.getD_eq_getElem?_getD]
      exact h.dat i e
    · have : i = p.l.length := by omega
      subst this
      simpa using hd
theorem pf_prop2 {p : RP} (h : PFit p) {ek : Int} {ed : Bs} (hl : p.l.length ≤ 99999) (hd : ed.length ≤ 1000000000000) : PFit (prop2 p ek ed) := by
  unfold prop2
  split
  · exact pf_peers (pf_prop1 h hl hd)
  · exact pf_prop1 h hl hd
set_option maxRecDepth 8000 in
set_option maxHeartbeats 4000000 in
theorem propose_ct (X : Nat) (d : MD) (e : EV) (hf : PFit d.p) (hl : d.p.l.length ≤ 99999) (ho : d.outs.length ≤ 1000000) : Ct Try.prog 89 [Ptr X, evA e] (fun _ => True) (mdH X d) (MdP X d (propP d.p e.ek e.ed) (propM d.p e.ek e.ed) (.int .i64 (propE d.p e.ek e.ed))) := by
  obtain ⟨p, a, outs, oa0, oc0⟩ := d
  obtain ⟨kind, m, et, ek, ed, index, img⟩ := e
  simp only at hf hl ho
  refine ct_enter 82 Try.func89 rfl rfl rfl ?_
  intro F _
  refine g_ownN (a := a.la) (by repeat first|exact .del|apply Upd.there) (fun _ hcap _ => ?_)
  obtain ⟨q1, hq1⟩ : ∃ q, q = decide (p.role = 2) := ⟨_, rfl⟩
  obtain ⟨q2, hq2⟩ : ∃ q, q = decide (ek = 2) := ⟨_, rfl⟩
  obtain ⟨q3, hq3⟩ : ∃ q, q = decide (ek = 3) := ⟨_, rfl⟩
  obtain ⟨q4, hq4⟩ : ∃ q, q = decide ((2048 : Int) < (ed.length : Nat)) := ⟨_, rfl⟩
  obtain ⟨q5, hq5⟩ : ∃ q, q = decide ((1024 : Int) ≤ (p.l.length : Nat)) := ⟨_, rfl⟩
  repeat (first | refine g_seq ?_ | refine at_code ?_ | refine g_skip ?_ | refine g_block ?_ | refine g_exit rfl ?_ | refine g_cond_t rfl ?_ | refine g_cond_f rfl ?_)
  refine g_region ?_
  refine gl_boxA rfl rfl ?_; intro g3
  refine gl_f (s_assign rfl) rfl rfl rfl ?_
  refine gl_nil ?_
  repeat (first | refine g_seq ?_ | refine at_code ?_ | refine g_skip ?_ | refine g_block ?_ | refine g_exit rfl ?_ | refine g_cond_t rfl ?_ | refine g_cond_f rfl ?_)
  refine g_draw ([4, 7, 10], [0, 1, 3, 7, 15, 0, 32, 96, 0, 256, 768, 2047, 0, 8191], [12, 13]) [.blk X (mdO ⟨p, a, outs, oa0, oc0⟩), .blk g3 (.cells (evC ⟨kind, m, et, ek, ed, index, img⟩).toArray 100)] 14 rfl ?_
  refine ga_free 0 rfl (s_move rfl) rfl rfl rfl (by kernel_rfl) ?_
  refine ga_free 1 rfl (s_nilCheck rfl) rfl rfl rfl (by kernel_rfl) ?_
  refine ga_free 2 rfl (by first | exact s_fieldAddr rfl (by rfl) (by infer_instance) (by decide) | exact s_fieldAddr_o rfl (by assumption) (by rfl) (by infer_instance) (by decide)) rfl rfl rfl (by kernel_rfl) ?_
  refine ga_free 3 rfl (by first | exact s_fieldAddr rfl (by rfl) (by infer_instance) (by decide) | exact s_fieldAddr_o rfl (by assumption) (by rfl) (by infer_instance) (by decide)) rfl rfl rfl (by kernel_rfl) ?_
  (first | refine ga_read_k 4 rfl (by first | exact .head _ | exact .tail _ (.head _) | exact .tail _ (.tail _ (.head _)) | exact .tail _ (.tail _ (.tail _ (.head _)))) (s_load_blk rfl .del a19_1) (by (first | exact fun _ h => h | (repeat first | exact sub_nil | refine sub_cons (by repeat first | exact List.Mem.head _ | apply List.Mem.tail) ?_))) rfl rfl rfl (by kernel_rfl) ?_ | refine ga_readF 4 rfl (s_load1 rfl (fun w hw => peekB hw (by assumption) a19_1)) (by (first | exact fun _ h => h | (repeat first | exact sub_nil | refine sub_cons (by repeat first | exact List.Mem.head _ | apply List.Mem.tail) ?_))) rfl rfl rfl (by kernel_rfl) ?_)
  refine ga_free 5 rfl (by first | exact s_fieldAddr rfl (by rfl) (by infer_instance) (by decide) | exact s_fieldAddr_o rfl (by assumption) (by rfl) (by infer_instance) (by decide)) rfl rfl rfl (by kernel_rfl) ?_
  refine ga_free 6 rfl (by first | exact s_fieldAddr rfl (by rfl) (by infer_instance) (by decide) | exact s_fieldAddr_o rfl (by assumption) (by rfl) (by infer_instance) (by decide)) rfl rfl rfl (by kernel_rfl) ?_
  (first | refine ga_read_k 7 rfl (by first | exact .head _ | exact .tail _ (.head _) | exact .tail _ (.tail _ (.head _)) | exact .tail _ (.tail _ (.tail _ (.head _)))) (s_load_blk rfl .del a19_15) (by (first | exact fun _ h => h | (repeat first | exact sub_nil | refine sub_cons (by repeat first | exact List.Mem.head _ | apply List.Mem.tail) ?_))) rfl rfl rfl (by kernel_rfl) ?_ | refine ga_readF 7 rfl (s_load1 rfl (fun w hw => peekB hw (by assumption) a19_15)) (by (first | exact fun _ h => h | (repeat first | exact sub_nil | refine sub_cons (by repeat first | exact List.Mem.head _ | apply List.Mem.tail) ?_))) rfl rfl rfl (by kernel_rfl) ?_)
  refine ga_free 8 rfl (by first | exact s_fieldAddr rfl (by rfl) (by infer_instance) (by decide) | exact s_fieldAddr_o rfl (by assumption) (by rfl) (by infer_instance) (by decide)) rfl rfl rfl (by kernel_rfl) ?_
  refine ga_free 9 rfl (by first | exact s_fieldAddr rfl (by rfl) (by infer_instance) (by decide) | exact s_fieldAddr_o rfl (by assumption) (by rfl) (by infer_instance) (by decide)) rfl rfl rfl (by kernel_rfl) ?_
  (first | refine ga_read_k 10 rfl (by first | exact .head _ | exact .tail _ (.head _) | exact .tail _ (.tail _ (.head _)) | exact .tail _ (.tail _ (.tail _ (.head _)))) (s_load_blk rfl .del a19_16) (by (first | exact fun _ h => h | (repeat first | exact sub_nil | refine sub_cons (by repeat first | exact List.Mem.head _ | apply List.Mem.tail) ?_))) rfl rfl rfl (by kernel_rfl) ?_ | refine ga_readF 10 rfl (s_load1 rfl (fun w hw => peekB hw (by assumption) a19_16)) (by (first | exact fun _ h => h | (repeat first | exact sub_nil | refine sub_cons (by repeat first | exact List.Mem.head _ | apply List.Mem.tail) ?_))) rfl rfl rfl (by kernel_rfl) ?_)
  refine ga_free 11 rfl (s_build rfl (run_build_struct (places := [(0, 1), (1, 1), (2, 1)]) rfl (by intro f hf; simp at hf; rcases hf with rfl | rfl | rfl <;> rfl) rfl)) rfl rfl rfl (by kernel_rfl) ?_
  refine ga_one 12 rfl (by kernel_rfl) ?_
  refine gl_allocA rfl ?_; intro g5
  refine gl_nil ?_
  refine at_ga (.inr (by exact keeps_of (by (first | exact fun _ h => h | (repeat first | exact sub_nil | refine sub_cons (by repeat first | exact List.Mem.head _ | apply List.Mem.tail) ?_))))) ?_
  refine ga_one 13 rfl (by kernel_rfl) ?_
  (first | refine gl_store_blkW rfl rfl (by repeat first|exact .here|apply Upd.there) (by rfl) (by rfl) (by (intro q hq; simp [Value.cells] at hq; first | (subst hq; rfl) | (rcases hq with rfl | rfl | rfl | rfl | rfl | rfl | rfl | rfl <;> rfl) | (rcases hq with rfl | rfl | rfl | rfl | rfl | rfl | rfl | rfl | rfl | rfl | rfl | rfl | rfl | rfl | rfl | rfl | rfl | rfl | rfl | rfl <;> rfl))) ?_ | refine gl_store_blk rfl rfl (by repeat first|exact .here|apply Upd.there) (by rfl) (by (intro q hq; simp [Value.cells] at hq; first | (subst hq; rfl) | (rcases hq with rfl | rfl | rfl | rfl | rfl | rfl | rfl | rfl <;> rfl) | (rcases hq with rfl | rfl | rfl | rfl | rfl | rfl | rfl | rfl | rfl | rfl | rfl | rfl | rfl | rfl | rfl | rfl | rfl | rfl | rfl | rfl <;> rfl))) (by rfl) ?_)
  refine gl_nil ?_
  refine at_ga (.inl (by kernel_rfl)) ?_
  refine ga_done (by kernel_rfl) ?_
  repeat (first | refine g_seq ?_ | refine at_code ?_ | refine g_skip ?_ | refine g_block ?_ | refine g_exit rfl ?_ | refine g_cond_t rfl ?_ | refine g_cond_f rfl ?_)
  refine g_pull (H' := .blk g5 (.cells #[.int .u64 p.term, .int .i64 ek, B ed] 65) :: mdH X ⟨p, a, outs, oa0, oc0⟩) (fun w hw => hw.upd_same (by repeat first|exact .del|apply Upd.there)) ?_
  have hfin : ∀ E, propE p ek ed = E → E ≠ 0 → propP p ek ed = p ∧ propM p ek ed = [] := fun E h h0 => ⟨if_neg (by rw [h]; exact h0), if_neg (by rw [h]; exact h0)⟩
  cases q1
  · have n1 := of_decide_eq_false hq1.symm
    have hE : propE p ek ed = 18 := by rw [propE, if_pos n1]
    obtain ⟨e1, e2⟩ := hfin _ hE (by decide)
    simp only [hE, e1, e2]
    repeat (first | refine g_seq ?_ | refine at_code ?_ | refine g_skip ?_ | refine g_block ?_ | refine g_exit rfl ?_ | refine g_cond_t rfl ?_ | refine g_cond_f rfl ?_)
    refine g_region ?_
    refine gl_f (s_move rfl) rfl rfl rfl ?_
    refine gl_f (s_nilCheck rfl) rfl rfl rfl ?_
    refine gl_f (by first | exact s_fieldAddr rfl (by rfl) (by infer_instance) (by decide) | exact s_fieldAddr_o rfl (by assumption) (by rfl) (by infer_instance) (by decide)) rfl rfl rfl ?_
    refine gl_f (by first | exact s_fieldAddr rfl (by rfl) (by infer_instance) (by decide) | exact s_fieldAddr_o rfl (by assumption) (by rfl) (by infer_instance) (by decide)) rfl rfl rfl ?_
    refine gl_r (by first | exact s_load_blk rfl (by repeat first|exact .del|apply Upd.there) a19_3 | exact s_load1 rfl (fun w hw => peekB hw (by assumption) a19_3)) rfl rfl rfl ?_
    refine gl_f ((s_neq rfl rfl).eq (v' := .bool true) (by rw [← hq1]; rfl)) rfl rfl rfl ?_
    refine gl_f (s_assign rfl) rfl rfl rfl ?_
    refine gl_nil ?_
    repeat (first | refine g_seq ?_ | refine at_code ?_ | refine g_skip ?_ | refine g_block ?_ | refine g_exit rfl ?_ | refine g_cond_t rfl ?_ | refine g_cond_f rfl ?_)
    repeat (first | refine g_seq ?_ | refine at_code ?_ | refine g_skip ?_ | refine g_block ?_ | refine g_exit rfl ?_ | refine g_cond_t rfl ?_ | refine g_cond_f rfl ?_)
    refine g_region ?_
    refine gl_f (s_assign rfl) rfl rfl rfl ?_
    refine gl_nil ?_
    repeat (first | refine g_seq ?_ | refine at_code ?_ | refine g_skip ?_ | refine g_block ?_ | refine g_exit rfl ?_ | refine g_cond_t rfl ?_ | refine g_cond_f rfl ?_)
    refine g_ret ?_
    exact at_end1 rfl rfl (mdH X ⟨p, a, outs, oa0, oc0⟩ ++ []) (MdP.same X ⟨p, a, outs, oa0, oc0⟩ ⟨p, a, outs, oa0, oc0⟩ _ rfl) (fun w hw => hw.drop)
  have n1 := of_decide_eq_true hq1.symm
  repeat (first | refine g_seq ?_ | refine at_code ?_ | refine g_skip ?_ | refine g_block ?_ | refine g_exit rfl ?_ | refine g_cond_t rfl ?_ | refine g_cond_f rfl ?_)
  refine g_region ?_
  refine gl_f (s_move rfl) rfl rfl rfl ?_
  refine gl_f (s_nilCheck rfl) rfl rfl rfl ?_
  refine gl_f (by first | exact s_fieldAddr rfl (by rfl) (by infer_instance) (by decide) | exact s_fieldAddr_o rfl (by assumption) (by rfl) (by infer_instance) (by decide)) rfl rfl rfl ?_
  refine gl_f (by first | exact s_fieldAddr rfl (by rfl) (by infer_instance) (by decide) | exact s_fieldAddr_o rfl (by assumption) (by rfl) (by infer_instance) (by decide)) rfl rfl rfl ?_
  refine gl_r (by first | exact s_load_blk rfl (by repeat first|exact .del|apply Upd.there) a19_3 | exact s_load1 rfl (fun w hw => peekB hw (by assumption) a19_3)) rfl rfl rfl ?_
  refine gl_f ((s_neq rfl rfl).eq (v' := .bool false) (by rw [← hq1]; rfl)) rfl rfl rfl ?_
  refine gl_f (s_assign rfl) rfl rfl rfl ?_
  refine gl_nil ?_
  repeat (first | refine g_seq ?_ | refine at_code ?_ | refine g_skip ?_ | refine g_block ?_ | refine g_exit rfl ?_ | refine g_cond_t rfl ?_ | refine g_cond_f rfl ?_)
  rcases (show (q2 = false ∧ q3 = false) ∨ q2 = true ∨ (q2 = false ∧ q3 = true) by cases q2 <;> cases q3 <;> simp) with ⟨rfl, rfl⟩ | rfl | ⟨rfl, rfl⟩
  · have n2 := of_decide_eq_false hq2.symm
    have n3 := of_decide_eq_false hq3.symm
    have hE : propE p ek ed = 1 := by rw [propE, if_neg (by simp [n1]), if_pos ⟨n2, n3⟩]
    obtain ⟨e1, e2⟩ := hfin _ hE (by decide)
    simp only [hE, e1, e2]
    repeat (first | refine g_seq ?_ | refine at_code ?_ | refine g_skip ?_ | refine g_block ?_ | refine g_exit rfl ?_ | refine g_cond_t rfl ?_ | refine g_cond_f rfl ?_)
    refine g_region ?_
    refine gl_f (by first | exact s_fieldAddr rfl (by rfl) (by infer_instance) (by decide) | exact s_fieldAddr_o rfl (by assumption) (by rfl) (by infer_instance) (by decide)) rfl rfl rfl ?_
    refine gl_r (by first | exact s_load_blk rfl (by repeat first|exact .del|apply Upd.there) a3_1 | exact s_load1 rfl (fun w hw => peekB hw (by assumption) a3_1)) rfl rfl rfl ?_
    refine gl_f ((s_neq rfl rfl).eq (v' := .bool true) (by rw [← hq2]; rfl)) rfl rfl rfl ?_
    refine gl_f (s_move rfl) rfl rfl rfl ?_
    (first | refine gl_guard_no rfl rfl rfl rfl rfl rfl rfl ?_ | refine gl_guard_un rfl rfl rfl rfl rfl rfl ?_ | (refine gl_guard_yes rfl rfl rfl ?_; refine gl_f (by first | exact s_fieldAddr rfl (by rfl) (by infer_instance) (by decide) | exact s_fieldAddr_o rfl (by assumption) (by rfl) (by infer_instance) (by decide)) rfl rfl rfl ?_))
    (first | refine gl_guard_no rfl rfl rfl rfl rfl rfl rfl ?_ | refine gl_guard_un rfl rfl rfl rfl rfl rfl ?_ | (refine gl_guard_yes rfl rfl rfl ?_; refine gl_r (by first | exact s_load_blk rfl (by repeat first|exact .del|apply Upd.there) a3_1 | exact s_load1 rfl (fun w hw => peekB hw (by assumption) a3_1)) rfl rfl rfl ?_))
    (first | refine gl_guard_no rfl rfl rfl rfl rfl rfl rfl ?_ | refine gl_guard_un rfl rfl rfl rfl rfl rfl ?_ | (refine gl_guard_yes rfl rfl rfl ?_; refine gl_f ((s_neq rfl rfl).eq (v' := .bool true) (by rw [← hq3]; rfl)) rfl rfl rfl ?_))
    refine gl_f (by first | exact s_pick_t rfl rfl | exact s_pick_f rfl rfl) rfl rfl rfl ?_
    refine gl_f (s_assign rfl) rfl rfl rfl ?_
    refine gl_nil ?_
    repeat (first | refine g_seq ?_ | refine at_code ?_ | refine g_skip ?_ | refine g_block ?_ | refine g_exit rfl ?_ | refine g_cond_t rfl ?_ | refine g_cond_f rfl ?_)
    repeat (first | refine g_seq ?_ | refine at_code ?_ | refine g_skip ?_ | refine g_block ?_ | refine g_exit rfl ?_ | refine g_cond_t rfl ?_ | refine g_cond_f rfl ?_)
    refine g_region ?_
    refine gl_f (s_assign rfl) rfl rfl rfl ?_
    refine gl_nil ?_
    repeat (first | refine g_seq ?_ | refine at_code ?_ | refine g_skip ?_ | refine g_block ?_ | refine g_exit rfl ?_ | refine g_cond_t rfl ?_ | refine g_cond_f rfl ?_)
    refine g_ret ?_
    exact at_end1 rfl rfl (mdH X ⟨p, a, outs, oa0, oc0⟩ ++ []) (MdP.same X ⟨p, a, outs, oa0, oc0⟩ ⟨p, a, outs, oa0, oc0⟩ _ rfl) (fun w hw => hw.drop)
  · have n2 : ek = 2 := of_decide_eq_true hq2.symm
    have n23 : ¬ (ek ≠ 2 ∧ ek ≠ 3) := fun h => h.1 n2
    repeat (first | refine g_seq ?_ | refine at_code ?_ | refine g_skip ?_ | refine g_block ?_ | refine g_exit rfl ?_ | refine g_cond_t rfl ?_ | refine g_cond_f rfl ?_)
    refine g_region ?_
    refine gl_f (by first | exact s_fieldAddr rfl (by rfl) (by infer_instance) (by decide) | exact s_fieldAddr_o rfl (by assumption) (by rfl) (by infer_instance) (by decide)) rfl rfl rfl ?_
    refine gl_r (by first | exact s_load_blk rfl (by repeat first|exact .del|apply Upd.there) a3_1 | exact s_load1 rfl (fun w hw => peekB hw (by assumption) a3_1)) rfl rfl rfl ?_
    refine gl_f ((s_neq rfl rfl).eq (v' := .bool false) (by rw [← hq2]; rfl)) rfl rfl rfl ?_
    refine gl_f (s_move rfl) rfl rfl rfl ?_
    (first | refine gl_guard_no rfl rfl rfl rfl rfl rfl rfl ?_ | refine gl_guard_un rfl rfl rfl rfl rfl rfl ?_ | (refine gl_guard_yes rfl rfl rfl ?_; refine gl_f (by first | exact s_fieldAddr rfl (by rfl) (by infer_instance) (by decide) | exact s_fieldAddr_o rfl (by assumption) (by rfl) (by infer_instance) (by decide)) rfl rfl rfl ?_))
    (first | refine gl_guard_no rfl rfl rfl rfl rfl rfl rfl ?_ | refine gl_guard_un rfl rfl rfl rfl rfl rfl ?_ | (refine gl_guard_yes rfl rfl rfl ?_; refine gl_r (by first | exact s_load_blk rfl (by repeat first|exact .del|apply Upd.there) a3_1 | exact s_load1 rfl (fun w hw => peekB hw (by assumption) a3_1)) rfl rfl rfl ?_))
    (first | refine gl_guard_no rfl rfl rfl rfl rfl rfl rfl ?_ | refine gl_guard_un rfl rfl rfl rfl rfl rfl ?_ | (refine gl_guard_yes rfl rfl rfl ?_; refine gl_f (s_neq rfl rfl) rfl rfl rfl ?_))
    refine gl_f (by first | exact s_pick_t rfl rfl | exact s_pick_f rfl rfl) rfl rfl rfl ?_
    refine gl_f (s_assign rfl) rfl rfl rfl ?_
    refine gl_nil ?_
    repeat (first | refine g_seq ?_ | refine at_code ?_ | refine g_skip ?_ | refine g_block ?_ | refine g_exit rfl ?_ | refine g_cond_t rfl ?_ | refine g_cond_f rfl ?_)
    cases q4
    rotate_left
    · have n4 : 2048 < ed.length := by have := of_decide_eq_true hq4.symm; omega
      have hE : propE p ek ed = 2 := by rw [propE, if_neg (by simp [n1]), if_neg n23, if_pos n4]
      obtain ⟨e1, e2⟩ := hfin _ hE (by decide)
      simp only [hE, e1, e2]
      repeat (first | refine g_seq ?_ | refine at_code ?_ | refine g_skip ?_ | refine g_block ?_ | refine g_exit rfl ?_ | refine g_cond_t rfl ?_ | refine g_cond_f rfl ?_)
      refine g_region ?_
      refine gl_f (by first | exact s_fieldAddr rfl (by rfl) (by infer_instance) (by decide) | exact s_fieldAddr_o rfl (by assumption) (by rfl) (by infer_instance) (by decide)) rfl rfl rfl ?_
      refine gl_r (by first | exact s_load_blk rfl (by repeat first|exact .del|apply Upd.there) a3_2 | exact s_load1 rfl (fun w hw => peekB hw (by assumption) a3_2)) rfl rfl rfl ?_
      refine gl_f (s_len_str rfl) rfl rfl rfl ?_
      refine gl_f ((s_gtr rfl rfl).eq (congrArg Value.bool hq4.symm)) rfl rfl rfl ?_
      refine gl_f (s_assign rfl) rfl rfl rfl ?_
      refine gl_nil ?_
      repeat (first | refine g_seq ?_ | refine at_code ?_ | refine g_skip ?_ | refine g_block ?_ | refine g_exit rfl ?_ | refine g_cond_t rfl ?_ | refine g_cond_f rfl ?_)
      repeat (first | refine g_seq ?_ | refine at_code ?_ | refine g_skip ?_ | refine g_block ?_ | refine g_exit rfl ?_ | refine g_cond_t rfl ?_ | refine g_cond_f rfl ?_)
      refine g_region ?_
      refine gl_f (s_assign rfl) rfl rfl rfl ?_
      refine gl_nil ?_
      repeat (first | refine g_seq ?_ | refine at_code ?_ | refine g_skip ?_ | refine g_block ?_ | refine g_exit rfl ?_ | refine g_cond_t rfl ?_ | refine g_cond_f rfl ?_)
      refine g_ret ?_
      exact at_end1 rfl rfl (mdH X ⟨p, a, outs, oa0, oc0⟩ ++ []) (MdP.same X ⟨p, a, outs, oa0, oc0⟩ ⟨p, a, outs, oa0, oc0⟩ _ rfl) (fun w hw => hw.drop)
    have n4 : ¬ 2048 < ed.length := by have := of_decide_eq_false hq4.symm; omega
    repeat (first | refine g_seq ?_ | refine at_code ?_ | refine g_skip ?_ | refine g_block ?_ | refine g_exit rfl ?_ | refine g_cond_t rfl ?_ | refine g_cond_f rfl ?_)
    refine g_region ?_
    refine gl_f (by first | exact s_fieldAddr rfl (by rfl) (by infer_instance) (by decide) | exact s_fieldAddr_o rfl (by assumption) (by rfl) (by infer_instance) (by decide)) rfl rfl rfl ?_
    refine gl_r (by first | exact s_load_blk rfl (by repeat first|exact .del|apply Upd.there) a3_2 | exact s_load1 rfl (fun w hw => peekB hw (by assumption) a3_2)) rfl rfl rfl ?_
    refine gl_f (s_len_str rfl) rfl rfl rfl ?_
    refine gl_f ((s_gtr rfl rfl).eq (congrArg Value.bool hq4.symm)) rfl rfl rfl ?_
    refine gl_f (s_assign rfl) rfl rfl rfl ?_
    refine gl_nil ?_
    repeat (first | refine g_seq ?_ | refine at_code ?_ | refine g_skip ?_ | refine g_block ?_ | refine g_exit rfl ?_ | refine g_cond_t rfl ?_ | refine g_cond_f rfl ?_)
    cases q5
    rotate_left
    · have n5 : 1024 ≤ p.l.length := by have := of_decide_eq_true hq5.symm; omega
      have hE : propE p ek ed = 7 := by rw [propE, if_neg (by simp [n1]), if_neg n23, if_neg n4, if_pos n5]
      obtain ⟨e1, e2⟩ := hfin _ hE (by decide)
      simp only [hE, e1, e2]
      repeat (first | refine g_seq ?_ | refine at_code ?_ | refine g_skip ?_ | refine g_block ?_ | refine g_exit rfl ?_ | refine g_cond_t rfl ?_ | refine g_cond_f rfl ?_)
      refine g_region ?_
      refine gl_f (s_move rfl) rfl rfl rfl ?_
      refine gl_f (s_nilCheck rfl) rfl rfl rfl ?_
      refine gl_f (by first | exact s_fieldAddr rfl (by rfl) (by infer_instance) (by decide) | exact s_fieldAddr_o rfl (by assumption) (by rfl) (by infer_instance) (by decide)) rfl rfl rfl ?_
      refine gl_f (by first | exact s_fieldAddr rfl (by rfl) (by infer_instance) (by decide) | exact s_fieldAddr_o rfl (by assumption) (by rfl) (by infer_instance) (by decide)) rfl rfl rfl ?_
      refine gl_f (by first | exact s_fieldAddr rfl (by rfl) (by infer_instance) (by decide) | exact s_fieldAddr_o rfl (by assumption) (by rfl) (by infer_instance) (by decide)) rfl rfl rfl ?_
      refine gl_r (by first | exact s_load_blk rfl (by repeat first|exact .del|apply Upd.there) a19_8 | exact s_load1 rfl (fun w hw => peekB hw (by assumption) a19_8)) rfl rfl rfl ?_
      refine gl_f (s_len_sl rfl) rfl rfl rfl ?_
      refine gl_f ((s_geq rfl rfl).eq (congrArg Value.bool hq5.symm)) rfl rfl rfl ?_
      refine gl_f (s_assign rfl) rfl rfl rfl ?_
      refine gl_nil ?_
      repeat (first | refine g_seq ?_ | refine at_code ?_ | refine g_skip ?_ | refine g_block ?_ | refine g_exit rfl ?_ | refine g_cond_t rfl ?_ | refine g_cond_f rfl ?_)
      repeat (first | refine g_seq ?_ | refine at_code ?_ | refine g_skip ?_ | refine g_block ?_ | refine g_exit rfl ?_ | refine g_cond_t rfl ?_ | refine g_cond_f rfl ?_)
      refine g_region ?_
      refine gl_f (s_assign rfl) rfl rfl rfl ?_
      refine gl_nil ?_
      repeat (first | refine g_seq ?_ | refine at_code ?_ | refine g_skip ?_ | refine g_block ?_ | refine g_exit rfl ?_ | refine g_cond_t rfl ?_ | refine g_cond_f rfl ?_)
      refine g_ret ?_
      exact at_end1 rfl rfl (mdH X ⟨p, a, outs, oa0, oc0⟩ ++ []) (MdP.same X ⟨p, a, outs, oa0, oc0⟩ ⟨p, a, outs, oa0, oc0⟩ _ rfl) (fun w hw => hw.drop)
    have n5 : ¬ 1024 ≤ p.l.length := by have := of_decide_eq_false hq5.symm; omega
    repeat (first | refine g_seq ?_ | refine at_code ?_ | refine g_skip ?_ | refine g_block ?_ | refine g_exit rfl ?_ | refine g_cond_t rfl ?_ | refine g_cond_f rfl ?_)
    refine g_region ?_
    refine gl_f (s_move rfl) rfl rfl rfl ?_
    refine gl_f (s_nilCheck rfl) rfl rfl rfl ?_
    refine gl_f (by first | exact s_fieldAddr rfl (by rfl) (by infer_instance) (by decide) | exact s_fieldAddr_o rfl (by assumption) (by rfl) (by infer_instance) (by decide)) rfl rfl rfl ?_
    refine gl_f (by first | exact s_fieldAddr rfl (by rfl) (by infer_instance) (by decide) | exact s_fieldAddr_o rfl (by assumption) (by rfl) (by infer_instance) (by decide)) rfl rfl rfl ?_
    refine gl_f (by first | exact s_fieldAddr rfl (by rfl) (by infer_instance) (by decide) | exact s_fieldAddr_o rfl (by assumption) (by rfl) (by infer_instance) (by decide)) rfl rfl rfl ?_
    refine gl_r (by first | exact s_load_blk rfl (by repeat first|exact .del|apply Upd.there) a19_8 | exact s_load1 rfl (fun w hw => peekB hw (by assumption) a19_8)) rfl rfl rfl ?_
    refine gl_f (s_len_sl rfl) rfl rfl rfl ?_
    refine gl_f ((s_geq rfl rfl).eq (congrArg Value.bool hq5.symm)) rfl rfl rfl ?_
    refine gl_f (s_assign rfl) rfl rfl rfl ?_
    refine gl_nil ?_
    repeat (first | refine g_seq ?_ | refine at_code ?_ | refine g_skip ?_ | refine g_block ?_ | refine g_exit rfl ?_ | refine g_cond_t rfl ?_ | refine g_cond_f rfl ?_)
    have hE0 : propE p ek ed = changesE p ed := by rw [propE, if_neg (by simp [n1]), if_neg n23, if_neg n4, if_neg n5, if_pos n2]
    obtain ⟨ce, hce⟩ : ∃ c, c = changesE p ed := ⟨_, rfl⟩
    rw [← hce] at hE0
    repeat (first | refine g_seq ?_ | refine at_code ?_ | refine g_skip ?_ | refine g_block ?_ | refine g_exit rfl ?_ | refine g_cond_t rfl ?_ | refine g_cond_f rfl ?_)
    refine g_region ?_
    refine gl_f (by first | exact s_fieldAddr rfl (by rfl) (by infer_instance) (by decide) | exact s_fieldAddr_o rfl (by assumption) (by rfl) (by infer_instance) (by decide)) rfl rfl rfl ?_
    refine gl_r (by first | exact s_load_blk rfl (by repeat first|exact .del|apply Upd.there) a3_1 | exact s_load1 rfl (fun w hw => peekB hw (by assumption) a3_1)) rfl rfl rfl ?_
    refine gl_f ((s_eql rfl rfl).eq (v' := .bool true) (by rw [← hq2])) rfl rfl rfl ?_
    refine gl_nil ?_
    repeat (first | refine g_seq ?_ | refine at_code ?_ | refine g_skip ?_ | refine g_block ?_ | refine g_exit rfl ?_ | refine g_cond_t rfl ?_ | refine g_cond_f rfl ?_)
    repeat (first | refine g_seq ?_ | refine at_code ?_ | refine g_skip ?_ | refine g_block ?_ | refine g_exit rfl ?_ | refine g_cond_t rfl ?_ | refine g_cond_f rfl ?_)
    refine g_region ?_
    refine gl_f (s_move rfl) rfl rfl rfl ?_
    refine gl_f (by first | exact s_fieldAddr rfl (by rfl) (by infer_instance) (by decide) | exact s_fieldAddr_o rfl (by assumption) (by rfl) (by infer_instance) (by decide)) rfl rfl rfl ?_
    refine gl_r (by first | exact s_load_blk rfl (by repeat first|exact .del|apply Upd.there) a3_2 | exact s_load1 rfl (fun w hw => peekB hw (by assumption) a3_2)) rfl rfl rfl ?_
    refine gl_call _ rfl (changes_ct X ⟨p, a, outs, oa0, oc0⟩ ed hf hcap (by omega)) (fun w hw => hw) (fun h hh ⟨bs, hb⟩ => ⟨Sat.blk hb (by repeat first|exact .del|apply Upd.there), Sat.rd (a := a.ca) hb (by repeat first|exact .del|apply Upd.there), Sat.rd (a := a.la) hb (by repeat first|exact .del|apply Upd.there)⟩) rfl ?_; rw [← hce]; rintro v A ⟨rfl, rfl⟩
    refine gl_f (s_assign rfl) rfl rfl rfl ?_
    refine gl_nil ?_
    repeat (first | refine g_seq ?_ | refine at_code ?_ | refine g_skip ?_ | refine g_block ?_ | refine g_exit rfl ?_ | refine g_cond_t rfl ?_ | refine g_cond_f rfl ?_)
    by_cases h0 : ce ≠ 0
    · repeat (first | refine g_seq ?_ | refine at_code ?_ | refine g_skip ?_ | refine g_block ?_ | refine g_exit rfl ?_ | refine g_cond_t rfl ?_ | refine g_cond_f rfl ?_)
      refine g_region ?_
      refine gl_f (s_move rfl) rfl rfl rfl ?_
      refine gl_f ((s_neq rfl rfl).eq (v' := .bool true) (by simp [h0])) rfl rfl rfl ?_
      refine gl_nil ?_
      repeat (first | refine g_seq ?_ | refine at_code ?_ | refine g_skip ?_ | refine g_block ?_ | refine g_exit rfl ?_ | refine g_cond_t rfl ?_ | refine g_cond_f rfl ?_)
      have hE : propE p ek ed = ce := hE0
      obtain ⟨e1, e2⟩ := hfin _ hE (by exact h0)
      simp only [hE, e1, e2]
      repeat (first | refine g_seq ?_ | refine at_code ?_ | refine g_skip ?_ | refine g_block ?_ | refine g_exit rfl ?_ | refine g_cond_t rfl ?_ | refine g_cond_f rfl ?_)
      refine g_region ?_
      refine gl_f (s_move rfl) rfl rfl rfl ?_
      refine gl_f (s_assign rfl) rfl rfl rfl ?_
      refine gl_nil ?_
      repeat (first | refine g_seq ?_ | refine at_code ?_ | refine g_skip ?_ | refine g_block ?_ | refine g_exit rfl ?_ | refine g_cond_t rfl ?_ | refine g_cond_f rfl ?_)
      refine g_ret ?_
      exact at_end1 rfl rfl (mdH X ⟨p, a, outs, oa0, oc0⟩ ++ []) (MdP.same X ⟨p, a, outs, oa0, oc0⟩ ⟨p, a, outs, oa0, oc0⟩ _ rfl) (fun w hw => hw.drop)
    have h0 : ce = 0 := Classical.not_not.1 h0
    have hE : propE p ek ed = 0 := by rw [hE0, h0]
    repeat (first | refine g_seq ?_ | refine at_code ?_ | refine g_skip ?_ | refine g_block ?_ | refine g_exit rfl ?_ | refine g_cond_t rfl ?_ | refine g_cond_f rfl ?_)
    refine g_region ?_
    refine gl_f (s_move rfl) rfl rfl rfl ?_
    refine gl_f ((s_neq rfl rfl).eq (v' := .bool false) (by simp [h0])) rfl rfl rfl ?_
    refine gl_nil ?_
    repeat (first | refine g_seq ?_ | refine at_code ?_ | refine g_skip ?_ | refine g_block ?_ | refine g_exit rfl ?_ | refine g_cond_t rfl ?_ | refine g_cond_f rfl ?_)
    have e1 : propP p ek ed = commitP (prop2 p ek ed) := if_pos hE
    have e2 : propM p ek ed = allP (commitP (prop2 p ek ed)) := if_pos hE
    have hf1 := pf_prop1 (ek := ek) hf hl (show ed.length ≤ 1000000000000 by omega)
    have hf2 := pf_prop2 (ek := ek) hf hl (show ed.length ≤ 1000000000000 by omega)
    have hf3 := pf_commit hf2
    simp only [hE, e1, e2]
    repeat (first | refine g_seq ?_ | refine at_code ?_ | refine g_skip ?_ | refine g_block ?_ | refine g_exit rfl ?_ | refine g_cond_t rfl ?_ | refine g_cond_f rfl ?_)
    refine g_draw ([6, 7], [0, 0, 2, 6, 14, 30, 62, 0, 128, 510, 1023, 2047, 4095, 8191, 16383], [8, 9, 14]) [.blk X (mdO ⟨p, a, outs, oa0, oc0⟩), .blk g5 (.cells #[.int .u64 p.term, .int .i64 ek, B ed] 65)] 15 rfl ?_
    refine ga_free 0 rfl (s_move rfl) rfl rfl rfl (by kernel_rfl) ?_
    refine ga_free 1 rfl (s_move rfl) rfl rfl rfl (by kernel_rfl) ?_
    refine ga_free 2 rfl (s_nilCheck rfl) rfl rfl rfl (by kernel_rfl) ?_
    refine ga_free 3 rfl (by first | exact s_fieldAddr rfl (by rfl) (by infer_instance) (by decide) | exact s_fieldAddr_o rfl (by assumption) (by rfl) (by infer_instance) (by decide)) rfl rfl rfl (by kernel_rfl) ?_
    refine ga_free 4 rfl (by first | exact s_fieldAddr rfl (by rfl) (by infer_instance) (by decide) | exact s_fieldAddr_o rfl (by assumption) (by rfl) (by infer_instance) (by decide)) rfl rfl rfl (by kernel_rfl) ?_
    refine ga_free 5 rfl (by first | exact s_fieldAddr rfl (by rfl) (by infer_instance) (by decide) | exact s_fieldAddr_o rfl (by assumption) (by rfl) (by infer_instance) (by decide)) rfl rfl rfl (by kernel_rfl) ?_
    (first | refine ga_read_k 6 rfl (by first | exact .head _ | exact .tail _ (.head _) | exact .tail _ (.tail _ (.head _)) | exact .tail _ (.tail _ (.tail _ (.head _)))) (s_load_blk rfl .del a19_8) (by (first | exact fun _ h => h | (repeat first | exact sub_nil | refine sub_cons (by repeat first | exact List.Mem.head _ | apply List.Mem.tail) ?_))) rfl rfl rfl (by kernel_rfl) ?_ | refine ga_readF 6 rfl (s_load1 rfl (fun w hw => peekB hw (by assumption) a19_8)) (by (first | exact fun _ h => h | (repeat first | exact sub_nil | refine sub_cons (by repeat first | exact List.Mem.head _ | apply List.Mem.tail) ?_))) rfl rfl rfl (by kernel_rfl) ?_)
    (first | refine ga_read_k 7 rfl (by first | exact .head _ | exact .tail _ (.head _) | exact .tail _ (.tail _ (.head _)) | exact .tail _ (.tail _ (.tail _ (.head _)))) (s_load_blkW rfl .del (by rfl)) (by (first | exact fun _ h => h | (repeat first | exact sub_nil | refine sub_cons (by repeat first | exact List.Mem.head _ | apply List.Mem.tail) ?_))) rfl rfl rfl (by kernel_rfl) ?_ | refine ga_read_k 7 rfl (by first | exact .head _ | exact .tail _ (.head _) | exact .tail _ (.tail _ (.head _)) | exact .tail _ (.tail _ (.tail _ (.head _)))) (s_load_blkN rfl .del (by rfl)) (by (first | exact fun _ h => h | (repeat first | exact sub_nil | refine sub_cons (by repeat first | exact List.Mem.head _ | apply List.Mem.tail) ?_))) rfl rfl rfl (by kernel_rfl) ?_ | refine ga_readF 7 rfl (s_loadN rfl (fun w hw => peekBN hw (by assumption)) (by rfl)) (by (first | exact fun _ h => h | (repeat first | exact sub_nil | refine sub_cons (by repeat first | exact List.Mem.head _ | apply List.Mem.tail) ?_))) rfl rfl rfl (by kernel_rfl) ?_)
    refine ga_one 8 rfl (by kernel_rfl) ?_
    refine gl_buildSliceU rfl rfl rfl rfl rfl rfl (xs := entC (p.term, ek, ed)) rfl rfl ?_; intro a67 ha67
    refine gl_nil ?_
    refine at_ga (.inr (by exact keeps_of (by (first | exact fun _ h => h | (repeat first | exact sub_nil | refine sub_cons (by repeat first | exact List.Mem.head _ | apply List.Mem.tail) ?_))))) ?_
    refine ga_one 9 rfl (by kernel_rfl) ?_
    refine gl_append (sz := 3) rfl rfl (fun a' c' => (by repeat first|exact .here|apply Upd.there)) (fun w hw => (hw.ownN (by repeat first|exact .del|apply Upd.there)).2.2.1) rfl rfl rfl (entC_one _) (by show (p.l.length + 1) * 32 ≤ 140737488355328; omega) (by show p.l.length + 1 ≤ 9223372036854775807; omega) rfl ?_; intro a68 c68 hc68
    refine gl_nil ?_
    refine at_ga (.inl (by kernel_rfl)) ?_
    refine ga_free 10 rfl (s_nilCheck rfl) rfl rfl rfl (by kernel_rfl) ?_
    refine ga_free 11 rfl (by first | exact s_fieldAddr rfl (by rfl) (by infer_instance) (by decide) | exact s_fieldAddr_o rfl (by assumption) (by rfl) (by infer_instance) (by decide)) rfl rfl rfl (by kernel_rfl) ?_
    refine ga_free 12 rfl (by first | exact s_fieldAddr rfl (by rfl) (by infer_instance) (by decide) | exact s_fieldAddr_o rfl (by assumption) (by rfl) (by infer_instance) (by decide)) rfl rfl rfl (by kernel_rfl) ?_
    refine ga_free 13 rfl (by first | exact s_fieldAddr rfl (by rfl) (by infer_instance) (by decide) | exact s_fieldAddr_o rfl (by assumption) (by rfl) (by infer_instance) (by decide)) rfl rfl rfl (by kernel_rfl) ?_
    refine ga_one 14 rfl (by kernel_rfl) ?_
    (first | refine gl_store_blkC (pre := [_, _, _, _, _, _, _, _]) (post := [_, _, _, _, _, _, _, _, _, _]) rfl rfl (by repeat first|exact .here|apply Upd.there) (by rfl) (by rfl) (by rfl) ?_ | refine gl_store_blk rfl rfl (by repeat first|exact .here|apply Upd.there) (by rfl) (by (intro q hq; simp [Value.cells] at hq; first | (subst hq; rfl) | (rcases hq with rfl | rfl | rfl | rfl | rfl | rfl | rfl | rfl <;> rfl) | (rcases hq with rfl | rfl | rfl | rfl | rfl | rfl | rfl | rfl | rfl | rfl | rfl | rfl | rfl | rfl | rfl | rfl | rfl | rfl | rfl | rfl <;> rfl))) (by rfl) ?_)
    refine gl_nil ?_
    refine at_ga (.inl (by kernel_rfl)) ?_
    refine ga_done (by kernel_rfl) ?_
    repeat (first | refine g_seq ?_ | refine at_code ?_ | refine g_skip ?_ | refine g_block ?_ | refine g_exit rfl ?_ | refine g_cond_t rfl ?_ | refine g_cond_f rfl ?_)
    refine g_pull (H' := .blk g5 (.cells #[.int .u64 p.term, .int .i64 ek, B ed] 65) :: mdH X ⟨prop1 p ek ed, { a with la := a68, lc := c68 }, outs, oa0, oc0⟩) (fun w hw => by rw [prop1, mdH_ent]; exact hw.drop) ?_
    repeat (first | refine g_seq ?_ | refine at_code ?_ | refine g_skip ?_ | refine g_block ?_ | refine g_exit rfl ?_ | refine g_cond_t rfl ?_ | refine g_cond_f rfl ?_)
    refine g_region ?_
    refine gl_f (by first | exact s_fieldAddr rfl (by rfl) (by infer_instance) (by decide) | exact s_fieldAddr_o rfl (by assumption) (by rfl) (by infer_instance) (by decide)) rfl rfl rfl ?_
    refine gl_r (by first | exact s_load_blk rfl (by repeat first|exact .del|apply Upd.there) a3_1 | exact s_load1 rfl (fun w hw => peekB hw (by assumption) a3_1)) rfl rfl rfl ?_
    refine gl_f ((s_eql rfl rfl).eq (v' := .bool true) (by rw [← hq2])) rfl rfl rfl ?_
    refine gl_nil ?_
    repeat (first | refine g_seq ?_ | refine at_code ?_ | refine g_skip ?_ | refine g_block ?_ | refine g_exit rfl ?_ | refine g_cond_t rfl ?_ | refine g_cond_f rfl ?_)
    have ep : prop2 p ek ed = { prop1 p ek ed with peers := peersL (prop1 p ek ed) } := if_pos n2
    repeat (first | refine g_seq ?_ | refine at_code ?_ | refine g_skip ?_ | refine g_block ?_ | refine g_exit rfl ?_ | refine g_cond_t rfl ?_ | refine g_cond_f rfl ?_)
    refine g_region ?_
    refine gl_f (s_move rfl) rfl rfl rfl ?_
    refine gl_call [.blk g5 (.cells #[.int .u64 p.term, .int .i64 ek, B ed] 65)] rfl (peers_ct X ⟨prop1 p ek ed, { a with la := a68, lc := c68 }, outs, oa0, oc0⟩ hf1) (fun w hw => hw.perm (perm_up (by repeat first|exact .del|apply Upd.there) (perm_up (by repeat first|exact .del|apply Upd.there) (perm_up (by repeat first|exact .del|apply Upd.there) (perm_up (by repeat first|exact .del|apply Upd.there) (perm_up (by repeat first|exact .del|apply Upd.there) (perm_up (by repeat first|exact .del|apply Upd.there) (.refl _)))))))) (fun _ _ _ => trivial) rfl ?_; rintro v A ⟨rfl, d2, Z2, e3, o2, rfl, f2⟩
    refine gl_nil ?_
    repeat (first | refine g_seq ?_ | refine at_code ?_ | refine g_skip ?_ | refine g_block ?_ | refine g_exit rfl ?_ | refine g_cond_t rfl ?_ | refine g_cond_f rfl ?_)
    rw [← ep] at e3
    obtain ⟨p2, a2, outs2, oa2, oc2⟩ := d2
    simp only at e3
    subst e3
    have l2 := outs_len o2
    simp only [List.length_nil] at l2
    repeat (first | refine g_seq ?_ | refine at_code ?_ | refine g_skip ?_ | refine g_block ?_ | refine g_exit rfl ?_ | refine g_cond_t rfl ?_ | refine g_cond_f rfl ?_)
    refine g_region ?_
    refine gl_f (s_move rfl) rfl rfl rfl ?_
    refine gl_call (Z2 ++ [.blk g5 (.cells #[.int .u64 p.term, .int .i64 ek, B ed] 65)]) rfl (commit_ct X ⟨prop2 p ek ed, a2, outs2, oa2, oc2⟩ hf2) (fun w hw => by rwa [List.append_assoc] at hw) (fun _ _ _ => trivial) rfl ?_; rintro v A ⟨rfl, d3, Z3, e3, o3, rfl, f3⟩
    refine gl_nil ?_
    repeat (first | refine g_seq ?_ | refine at_code ?_ | refine g_skip ?_ | refine g_block ?_ | refine g_exit rfl ?_ | refine g_cond_t rfl ?_ | refine g_cond_f rfl ?_)
    have l3 := outs_len o3
    simp only [List.length_nil] at l3
    obtain ⟨p3, a3, outs3, oa3, oc3⟩ := d3
    simp only at e3 l3
    subst e3
    repeat (first | refine g_seq ?_ | refine at_code ?_ | refine g_skip ?_ | refine g_block ?_ | refine g_exit rfl ?_ | refine g_cond_t rfl ?_ | refine g_cond_f rfl ?_)
    refine g_region ?_
    refine gl_f (s_move rfl) rfl rfl rfl ?_
    refine gl_call (Z3 ++ (Z2 ++ [.blk g5 (.cells #[.int .u64 p.term, .int .i64 ek, B ed] 65)])) rfl (all_ct X ⟨commitP (prop2 p ek ed), a3, outs3, oa3, oc3⟩ hf3 (by simp only; omega)) (fun w hw => by rwa [List.append_assoc] at hw) (fun _ _ _ => trivial) rfl ?_; rintro v A ⟨rfl, ms, oa4, oc4, Z4, e4, rfl, f4⟩
    refine gl_nil ?_
    repeat (first | refine g_seq ?_ | refine at_code ?_ | refine g_skip ?_ | refine g_block ?_ | refine g_exit rfl ?_ | refine g_cond_t rfl ?_ | refine g_cond_f rfl ?_)
    simp only [List.append_nil] at o2 o3
    repeat (first | refine g_seq ?_ | refine at_code ?_ | refine g_skip ?_ | refine g_block ?_ | refine g_exit rfl ?_ | refine g_cond_t rfl ?_ | refine g_cond_f rfl ?_)
    refine g_region ?_
    refine gl_f (s_assign rfl) rfl rfl rfl ?_
    refine gl_nil ?_
    repeat (first | refine g_seq ?_ | refine at_code ?_ | refine g_skip ?_ | refine g_block ?_ | refine g_exit rfl ?_ | refine g_cond_t rfl ?_ | refine g_cond_f rfl ?_)
    refine g_ret ?_
    exact at_end1 rfl rfl (mdH X ⟨commitP (prop2 p ek ed), a3, outs3 ++ ms, oa4, oc4⟩ ++ (Z4 ++ (Z3 ++ (Z2 ++ [.blk g5 (.cells #[.int .u64 p.term, .int .i64 ek, B ed] 65)])))) ⟨rfl, ⟨commitP (prop2 p ek ed), a3, outs3 ++ ms, oa4, oc4⟩, _, rfl, by rw [List.map_append, e4, o3, o2], rfl, fun h f hs m hm => by
      obtain ⟨s4, s32⟩ := Sat.two2 hs
      obtain ⟨s3, s2⟩ := Sat.two2 s32
      rcases List.mem_append.1 hm with hm | hm
      · exact f3 h (f2 h f (Sat.two2 s2).1) s3 m hm
      · exact f4 h s4 m hm⟩ (fun w hw => by rwa [List.append_assoc] at hw)
  · have n2 : ¬ ek = 2 := of_decide_eq_false hq2.symm
    have n3 : ek = 3 := of_decide_eq_true hq3.symm
    have n23 : ¬ (ek ≠ 2 ∧ ek ≠ 3) := fun h => h.2 n3
    repeat (first | refine g_seq ?_ | refine at_code ?_ | refine g_skip ?_ | refine g_block ?_ | refine g_exit rfl ?_ | refine g_cond_t rfl ?_ | refine g_cond_f rfl ?_)
    refine g_region ?_
    refine gl_f (by first | exact s_fieldAddr rfl (by rfl) (by infer_instance) (by decide) | exact s_fieldAddr_o rfl (by assumption) (by rfl) (by infer_instance) (by decide)) rfl rfl rfl ?_
    refine gl_r (by first | exact s_load_blk rfl (by repeat first|exact .del|apply Upd.there) a3_1 | exact s_load1 rfl (fun w hw => peekB hw (by assumption) a3_1)) rfl rfl rfl ?_
    refine gl_f ((s_neq rfl rfl).eq (v' := .bool true) (by rw [← hq2]; rfl)) rfl rfl rfl ?_
    refine gl_f (s_move rfl) rfl rfl rfl ?_
    (first | refine gl_guard_no rfl rfl rfl rfl rfl rfl rfl ?_ | refine gl_guard_un rfl rfl rfl rfl rfl rfl ?_ | (refine gl_guard_yes rfl rfl rfl ?_; refine gl_f (by first | exact s_fieldAddr rfl (by rfl) (by infer_instance) (by decide) | exact s_fieldAddr_o rfl (by assumption) (by rfl) (by infer_instance) (by decide)) rfl rfl rfl ?_))
    (first | refine gl_guard_no rfl rfl rfl rfl rfl rfl rfl ?_ | refine gl_guard_un rfl rfl rfl rfl rfl rfl ?_ | (refine gl_guard_yes rfl rfl rfl ?_; refine gl_r (by first | exact s_load_blk rfl (by repeat first|exact .del|apply Upd.there) a3_1 | exact s_load1 rfl (fun w hw => peekB hw (by assumption) a3_1)) rfl rfl rfl ?_))
    (first | refine gl_guard_no rfl rfl rfl rfl rfl rfl rfl ?_ | refine gl_guard_un rfl rfl rfl rfl rfl rfl ?_ | (refine gl_guard_yes rfl rfl rfl ?_; refine gl_f ((s_neq rfl rfl).eq (v' := .bool false) (by rw [← hq3]; rfl)) rfl rfl rfl ?_))
    refine gl_f (by first | exact s_pick_t rfl rfl | exact s_pick_f rfl rfl) rfl rfl rfl ?_
    refine gl_f (s_assign rfl) rfl rfl rfl ?_
    refine gl_nil ?_
    repeat (first | refine g_seq ?_ | refine at_code ?_ | refine g_skip ?_ | refine g_block ?_ | refine g_exit rfl ?_ | refine g_cond_t rfl ?_ | refine g_cond_f rfl ?_)
    cases q4
    rotate_left
    · have n4 : 2048 < ed.length := by have := of_decide_eq_true hq4.symm; omega
      have hE : propE p ek ed = 2 := by rw [propE, if_neg (by simp [n1]), if_neg n23, if_pos n4]
      obtain ⟨e1, e2⟩ := hfin _ hE (by decide)
      simp only [hE, e1, e2]
      repeat (first | refine g_seq ?_ | refine at_code ?_ | refine g_skip ?_ | refine g_block ?_ | refine g_exit rfl ?_ | refine g_cond_t rfl ?_ | refine g_cond_f rfl ?_)
      refine g_region ?_
      refine gl_f (by first | exact s_fieldAddr rfl (by rfl) (by infer_instance) (by decide) | exact s_fieldAddr_o rfl (by assumption) (by rfl) (by infer_instance) (by decide)) rfl rfl rfl ?_
      refine gl_r (by first | exact s_load_blk rfl (by repeat first|exact .del|apply Upd.there) a3_2 | exact s_load1 rfl (fun w hw => peekB hw (by assumption) a3_2)) rfl rfl rfl ?_
      refine gl_f (s_len_str rfl) rfl rfl rfl ?_
      refine gl_f ((s_gtr rfl rfl).eq (congrArg Value.bool hq4.symm)) rfl rfl rfl ?_
      refine gl_f (s_assign rfl) rfl rfl rfl ?_
      refine gl_nil ?_
      repeat (first | refine g_seq ?_ | refine at_code ?_ | refine g_skip ?_ | refine g_block ?_ | refine g_exit rfl ?_ | refine g_cond_t rfl ?_ | refine g_cond_f rfl ?_)
      repeat (first | refine g_seq ?_ | refine at_code ?_ | refine g_skip ?_ | refine g_block ?_ | refine g_exit rfl ?_ | refine g_cond_t rfl ?_ | refine g_cond_f rfl ?_)
      refine g_region ?_
      refine gl_f (s_assign rfl) rfl rfl rfl ?_
      refine gl_nil ?_
      repeat (first | refine g_seq ?_ | refine at_code ?_ | refine g_skip ?_ | refine g_block ?_ | refine g_exit rfl ?_ | refine g_cond_t rfl ?_ | refine g_cond_f rfl ?_)
      refine g_ret ?_
      exact at_end1 rfl rfl (mdH X ⟨p, a, outs, oa0, oc0⟩ ++ []) (MdP.same X ⟨p, a, outs, oa0, oc0⟩ ⟨p, a, outs, oa0, oc0⟩ _ rfl) (fun w hw => hw.drop)
    have n4 : ¬ 2048 < ed.length := by have := of_decide_eq_false hq4.symm; omega
    repeat (first | refine g_seq ?_ | refine at_code ?_ | refine g_skip ?_ | refine g_block ?_ | refine g_exit rfl ?_ | refine g_cond_t rfl ?_ | refine g_cond_f rfl ?_)
    refine g_region ?_
    refine gl_f (by first | exact s_fieldAddr rfl (by rfl) (by infer_instance) (by decide) | exact s_fieldAddr_o rfl (by assumption) (by rfl) (by infer_instance) (by decide)) rfl rfl rfl ?_
    refine gl_r (by first | exact s_load_blk rfl (by repeat first|exact .del|apply Upd.there) a3_2 | exact s_load1 rfl (fun w hw => peekB hw (by assumption) a3_2)) rfl rfl rfl ?_
    refine gl_f (s_len_str rfl) rfl rfl rfl ?_
    refine gl_f ((s_gtr rfl rfl).eq (congrArg Value.bool hq4.symm)) rfl rfl rfl ?_
    refine gl_f (s_assign rfl) rfl rfl rfl ?_
    refine gl_nil ?_
    repeat (first | refine g_seq ?_ | refine at_code ?_ | refine g_skip ?_ | refine g_block ?_ | refine g_exit rfl ?_ | refine g_cond_t rfl ?_ | refine g_cond_f rfl ?_)
    cases q5
    rotate_left
    · have n5 : 1024 ≤ p.l.length := by have := of_decide_eq_true hq5.symm; omega
      have hE : propE p ek ed = 7 := by rw [propE, if_neg (by simp [n1]), if_neg n23, if_neg n4, if_pos n5]
      obtain ⟨e1, e2⟩ := hfin _ hE (by decide)
      simp only [hE, e1, e2]
      repeat (first | refine g_seq ?_ | refine at_code ?_ | refine g_skip ?_ | refine g_block ?_ | refine g_exit rfl ?_ | refine g_cond_t rfl ?_ | refine g_cond_f rfl ?_)
      refine g_region ?_
      refine gl_f (s_move rfl) rfl rfl rfl ?_
      refine gl_f (s_nilCheck rfl) rfl rfl rfl ?_
      refine gl_f (by first | exact s_fieldAddr rfl (by rfl) (by infer_instance) (by decide) | exact s_fieldAddr_o rfl (by assumption) (by rfl) (by infer_instance) (by decide)) rfl rfl rfl ?_
      refine gl_f (by first | exact s_fieldAddr rfl (by rfl) (by infer_instance) (by decide) | exact s_fieldAddr_o rfl (by assumption) (by rfl) (by infer_instance) (by decide)) rfl rfl rfl ?_
      refine gl_f (by first | exact s_fieldAddr rfl (by rfl) (by infer_instance) (by decide) | exact s_fieldAddr_o rfl (by assumption) (by rfl) (by infer_instance) (by decide)) rfl rfl rfl ?_
      refine gl_r (by first | exact s_load_blk rfl (by repeat first|exact .del|apply Upd.there) a19_8 | exact s_load1 rfl (fun w hw => peekB hw (by assumption) a19_8)) rfl rfl rfl ?_
      refine gl_f (s_len_sl rfl) rfl rfl rfl ?_
      refine gl_f ((s_geq rfl rfl).eq (congrArg Value.bool hq5.symm)) rfl rfl rfl ?_
      refine gl_f (s_assign rfl) rfl rfl rfl ?_
      refine gl_nil ?_
      repeat (first | refine g_seq ?_ | refine at_code ?_ | refine g_skip ?_ | refine g_block ?_ | refine g_exit rfl ?_ | refine g_cond_t rfl ?_ | refine g_cond_f rfl ?_)
      repeat (first | refine g_seq ?_ | refine at_code ?_ | refine g_skip ?_ | refine g_block ?_ | refine g_exit rfl ?_ | refine g_cond_t rfl ?_ | refine g_cond_f rfl ?_)
      refine g_region ?_
      refine gl_f (s_assign rfl) rfl rfl rfl ?_
      refine gl_nil ?_
      repeat (first | refine g_seq ?_ | refine at_code ?_ | refine g_skip ?_ | refine g_block ?_ | refine g_exit rfl ?_ | refine g_cond_t rfl ?_ | refine g_cond_f rfl ?_)
      refine g_ret ?_
      exact at_end1 rfl rfl (mdH X ⟨p, a, outs, oa0, oc0⟩ ++ []) (MdP.same X ⟨p, a, outs, oa0, oc0⟩ ⟨p, a, outs, oa0, oc0⟩ _ rfl) (fun w hw => hw.drop)
    have n5 : ¬ 1024 ≤ p.l.length := by have := of_decide_eq_false hq5.symm; omega
    repeat (first | refine g_seq ?_ | refine at_code ?_ | refine g_skip ?_ | refine g_block ?_ | refine g_exit rfl ?_ | refine g_cond_t rfl ?_ | refine g_cond_f rfl ?_)
    refine g_region ?_
    refine gl_f (s_move rfl) rfl rfl rfl ?_
    refine gl_f (s_nilCheck rfl) rfl rfl rfl ?_
    refine gl_f (by first | exact s_fieldAddr rfl (by rfl) (by infer_instance) (by decide) | exact s_fieldAddr_o rfl (by assumption) (by rfl) (by infer_instance) (by decide)) rfl rfl rfl ?_
    refine gl_f (by first | exact s_fieldAddr rfl (by rfl) (by infer_instance) (by decide) | exact s_fieldAddr_o rfl (by assumption) (by rfl) (by infer_instance) (by decide)) rfl rfl rfl ?_
    refine gl_f (by first | exact s_fieldAddr rfl (by rfl) (by infer_instance) (by decide) | exact s_fieldAddr_o rfl (by assumption) (by rfl) (by infer_instance) (by decide)) rfl rfl rfl ?_
    refine gl_r (by first | exact s_load_blk rfl (by repeat first|exact .del|apply Upd.there) a19_8 | exact s_load1 rfl (fun w hw => peekB hw (by assumption) a19_8)) rfl rfl rfl ?_
    refine gl_f (s_len_sl rfl) rfl rfl rfl ?_
    refine gl_f ((s_geq rfl rfl).eq (congrArg Value.bool hq5.symm)) rfl rfl rfl ?_
    refine gl_f (s_assign rfl) rfl rfl rfl ?_
    refine gl_nil ?_
    repeat (first | refine g_seq ?_ | refine at_code ?_ | refine g_skip ?_ | refine g_block ?_ | refine g_exit rfl ?_ | refine g_cond_t rfl ?_ | refine g_cond_f rfl ?_)
    have hE : propE p ek ed = 0 := by rw [propE, if_neg (by simp [n1]), if_neg n23, if_neg n4, if_neg n5, if_neg n2]
    repeat (first | refine g_seq ?_ | refine at_code ?_ | refine g_skip ?_ | refine g_block ?_ | refine g_exit rfl ?_ | refine g_cond_t rfl ?_ | refine g_cond_f rfl ?_)
    refine g_region ?_
    refine gl_f (by first | exact s_fieldAddr rfl (by rfl) (by infer_instance) (by decide) | exact s_fieldAddr_o rfl (by assumption) (by rfl) (by infer_instance) (by decide)) rfl rfl rfl ?_
    refine gl_r (by first | exact s_load_blk rfl (by repeat first|exact .del|apply Upd.there) a3_1 | exact s_load1 rfl (fun w hw => peekB hw (by assumption) a3_1)) rfl rfl rfl ?_
    refine gl_f ((s_eql rfl rfl).eq (v' := .bool false) (by rw [← hq2])) rfl rfl rfl ?_
    refine gl_nil ?_
    repeat (first | refine g_seq ?_ | refine at_code ?_ | refine g_skip ?_ | refine g_block ?_ | refine g_exit rfl ?_ | refine g_cond_t rfl ?_ | refine g_cond_f rfl ?_)
    have e1 : propP p ek ed = commitP (prop2 p ek ed) := if_pos hE
    have e2 : propM p ek ed = allP (commitP (prop2 p ek ed)) := if_pos hE
    have hf1 := pf_prop1 (ek := ek) hf hl (show ed.length ≤ 1000000000000 by omega)
    have hf2 := pf_prop2 (ek := ek) hf hl (show ed.length ≤ 1000000000000 by omega)
    have hf3 := pf_commit hf2
    simp only [hE, e1, e2]
    repeat (first | refine g_seq ?_ | refine at_code ?_ | refine g_skip ?_ | refine g_block ?_ | refine g_exit rfl ?_ | refine g_cond_t rfl ?_ | refine g_cond_f rfl ?_)
    refine g_draw ([6, 7], [0, 0, 2, 6, 14, 30, 62, 0, 128, 510, 1023, 2047, 4095, 8191, 16383], [8, 9, 14]) [.blk X (mdO ⟨p, a, outs, oa0, oc0⟩), .blk g5 (.cells #[.int .u64 p.term, .int .i64 ek, B ed] 65)] 15 rfl ?_
    refine ga_free 0 rfl (s_move rfl) rfl rfl rfl (by kernel_rfl) ?_
    refine ga_free 1 rfl (s_move rfl) rfl rfl rfl (by kernel_rfl) ?_
    refine ga_free 2 rfl (s_nilCheck rfl) rfl rfl rfl (by kernel_rfl) ?_
    refine ga_free 3 rfl (by first | exact s_fieldAddr rfl (by rfl) (by infer_instance) (by decide) | exact s_fieldAddr_o rfl (by assumption) (by rfl) (by infer_instance) (by decide)) rfl rfl rfl (by kernel_rfl) ?_
    refine ga_free 4 rfl (by first | exact s_fieldAddr rfl (by rfl) (by infer_instance) (by decide) | exact s_fieldAddr_o rfl (by assumption) (by rfl) (by infer_instance) (by decide)) rfl rfl rfl (by kernel_rfl) ?_
    refine ga_free 5 rfl (by first | exact s_fieldAddr rfl (by rfl) (by infer_instance) (by decide) | exact s_fieldAddr_o rfl (by assumption) (by rfl) (by infer_instance) (by decide)) rfl rfl rfl (by kernel_rfl) ?_
    (first | refine ga_read_k 6 rfl (by first | exact .head _ | exact .tail _ (.head _) | exact .tail _ (.tail _ (.head _)) | exact .tail _ (.tail _ (.tail _ (.head _)))) (s_load_blk rfl .del a19_8) (by (first | exact fun _ h => h | (repeat first | exact sub_nil | refine sub_cons (by repeat first | exact List.Mem.head _ | apply List.Mem.tail) ?_))) rfl rfl rfl (by kernel_rfl) ?_ | refine ga_readF 6 rfl (s_load1 rfl (fun w hw => peekB hw (by assumption) a19_8)) (by (first | exact fun _ h => h | (repeat first | exact sub_nil | refine sub_cons (by repeat first | exact List.Mem.head _ | apply List.Mem.tail) ?_))) rfl rfl rfl (by kernel_rfl) ?_)
    (first | refine ga_read_k 7 rfl (by first | exact .head _ | exact .tail _ (.head _) | exact .tail _ (.tail _ (.head _)) | exact .tail _ (.tail _ (.tail _ (.head _)))) (s_load_blkW rfl .del (by rfl)) (by (first | exact fun _ h => h | (repeat first | exact sub_nil | refine sub_cons (by repeat first | exact List.Mem.head _ | apply List.Mem.tail) ?_))) rfl rfl rfl (by kernel_rfl) ?_ | refine ga_read_k 7 rfl (by first | exact .head _ | exact .tail _ (.head _) | exact .tail _ (.tail _ (.head _)) | exact .tail _ (.tail _ (.tail _ (.head _)))) (s_load_blkN rfl .del (by rfl)) (by (first | exact fun _ h => h | (repeat first | exact sub_nil | refine sub_cons (by repeat first | exact List.Mem.head _ | apply List.Mem.tail) ?_))) rfl rfl rfl (by kernel_rfl) ?_ | refine ga_readF 7 rfl (s_loadN rfl (fun w hw => peekBN hw (by assumption)) (by rfl)) (by (first | exact fun _ h => h | (repeat first | exact sub_nil | refine sub_cons (by repeat first | exact List.Mem.head _ | apply List.Mem.tail) ?_))) rfl rfl rfl (by kernel_rfl) ?_)
    refine ga_one 8 rfl (by kernel_rfl) ?_
    refine gl_buildSliceU rfl rfl rfl rfl rfl rfl (xs := entC (p.term, ek, ed)) rfl rfl ?_; intro a67 ha67
    refine gl_nil ?_
    refine at_ga (.inr (by exact keeps_of (by (first | exact fun _ h => h | (repeat first | exact sub_nil | refine sub_cons (by repeat first | exact List.Mem.head _ | apply List.Mem.tail) ?_))))) ?_
    refine ga_one 9 rfl (by kernel_rfl) ?_
    refine gl_append (sz := 3) rfl rfl (fun a' c' => (by repeat first|exact .here|apply Upd.there)) (fun w hw => (hw.ownN (by repeat first|exact .del|apply Upd.there)).2.2.1) rfl rfl rfl (entC_one _) (by show (p.l.length + 1) * 32 ≤ 140737488355328; omega) (by show p.l.length + 1 ≤ 9223372036854775807; omega) rfl ?_; intro a68 c68 hc68
    refine gl_nil ?_
    refine at_ga (.inl (by kernel_rfl)) ?_
    refine ga_free 10 rfl (s_nilCheck rfl) rfl rfl rfl (by kernel_rfl) ?_
    refine ga_free 11 rfl (by first | exact s_fieldAddr rfl (by rfl) (by infer_instance) (by decide) | exact s_fieldAddr_o rfl (by assumption) (by rfl) (by infer_instance) (by decide)) rfl rfl rfl (by kernel_rfl) ?_
    refine ga_free 12 rfl (by first | exact s_fieldAddr rfl (by rfl) (by infer_instance) (by decide) | exact s_fieldAddr_o rfl (by assumption) (by rfl) (by infer_instance) (by decide)) rfl rfl rfl (by kernel_rfl) ?_
    refine ga_free 13 rfl (by first | exact s_fieldAddr rfl (by rfl) (by infer_instance) (by decide) | exact s_fieldAddr_o rfl (by assumption) (by rfl) (by infer_instance) (by decide)) rfl rfl rfl (by kernel_rfl) ?_
    refine ga_one 14 rfl (by kernel_rfl) ?_
    (first | refine gl_store_blkC (pre := [_, _, _, _, _, _, _, _]) (post := [_, _, _, _, _, _, _, _, _, _]) rfl rfl (by repeat first|exact .here|apply Upd.there) (by rfl) (by rfl) (by rfl) ?_ | refine gl_store_blk rfl rfl (by repeat first|exact .here|apply Upd.there) (by rfl) (by (intro q hq; simp [Value.cells] at hq; first | (subst hq; rfl) | (rcases hq with rfl | rfl | rfl | rfl | rfl | rfl | rfl | rfl <;> rfl) | (rcases hq with rfl | rfl | rfl | rfl | rfl | rfl | rfl | rfl | rfl | rfl | rfl | rfl | rfl | rfl | rfl | rfl | rfl | rfl | rfl | rfl <;> rfl))) (by rfl) ?_)
    refine gl_nil ?_
    refine at_ga (.inl (by kernel_rfl)) ?_
    refine ga_done (by kernel_rfl) ?_
    repeat (first | refine g_seq ?_ | refine at_code ?_ | refine g_skip ?_ | refine g_block ?_ | refine g_exit rfl ?_ | refine g_cond_t rfl ?_ | refine g_cond_f rfl ?_)
    refine g_pull (H' := .blk g5 (.cells #[.int .u64 p.term, .int .i64 ek, B ed] 65) :: mdH X ⟨prop1 p ek ed, { a with la := a68, lc := c68 }, outs, oa0, oc0⟩) (fun w hw => by rw [prop1, mdH_ent]; exact hw.drop) ?_
    repeat (first | refine g_seq ?_ | refine at_code ?_ | refine g_skip ?_ | refine g_block ?_ | refine g_exit rfl ?_ | refine g_cond_t rfl ?_ | refine g_cond_f rfl ?_)
    refine g_region ?_
    refine gl_f (by first | exact s_fieldAddr rfl (by rfl) (by infer_instance) (by decide) | exact s_fieldAddr_o rfl (by assumption) (by rfl) (by infer_instance) (by decide)) rfl rfl rfl ?_
    refine gl_r (by first | exact s_load_blk rfl (by repeat first|exact .del|apply Upd.there) a3_1 | exact s_load1 rfl (fun w hw => peekB hw (by assumption) a3_1)) rfl rfl rfl ?_
    refine gl_f ((s_eql rfl rfl).eq (v' := .bool false) (by rw [← hq2])) rfl rfl rfl ?_
    refine gl_nil ?_
    repeat (first | refine g_seq ?_ | refine at_code ?_ | refine g_skip ?_ | refine g_block ?_ | refine g_exit rfl ?_ | refine g_cond_t rfl ?_ | refine g_cond_f rfl ?_)
    have ep : prop2 p ek ed = prop1 p ek ed := if_neg n2
    have hf2' := hf2
    rw [ep] at hf2'
    repeat (first | refine g_seq ?_ | refine at_code ?_ | refine g_skip ?_ | refine g_block ?_ | refine g_exit rfl ?_ | refine g_cond_t rfl ?_ | refine g_cond_f rfl ?_)
    repeat (first | refine g_seq ?_ | refine at_code ?_ | refine g_skip ?_ | refine g_block ?_ | refine g_exit rfl ?_ | refine g_cond_t rfl ?_ | refine g_cond_f rfl ?_)
    refine g_region ?_
    refine gl_f (s_move rfl) rfl rfl rfl ?_
    refine gl_call [.blk g5 (.cells #[.int .u64 p.term, .int .i64 ek, B ed] 65)] rfl (commit_ct X ⟨prop1 p ek ed, { a with la := a68, lc := c68 }, outs, oa0, oc0⟩ hf2') (fun w hw => hw.perm (perm_up (by repeat first|exact .del|apply Upd.there) (perm_up (by repeat first|exact .del|apply Upd.there) (perm_up (by repeat first|exact .del|apply Upd.there) (perm_up (by repeat first|exact .del|apply Upd.there) (perm_up (by repeat first|exact .del|apply Upd.there) (perm_up (by repeat first|exact .del|apply Upd.there) (.refl _)))))))) (fun _ _ _ => trivial) rfl ?_; rintro v A ⟨rfl, d3, Z3, e3, o3, rfl, f3⟩
    refine gl_nil ?_
    repeat (first | refine g_seq ?_ | refine at_code ?_ | refine g_skip ?_ | refine g_block ?_ | refine g_exit rfl ?_ | refine g_cond_t rfl ?_ | refine g_cond_f rfl ?_)
    rw [← ep] at e3
    have l3 := outs_len o3
    simp only [List.length_nil] at l3
    obtain ⟨p3, a3, outs3, oa3, oc3⟩ := d3
    simp only at e3 l3
    subst e3
    repeat (first | refine g_seq ?_ | refine at_code ?_ | refine g_skip ?_ | refine g_block ?_ | refine g_exit rfl ?_ | refine g_cond_t rfl ?_ | refine g_cond_f rfl ?_)
    refine g_region ?_
    refine gl_f (s_move rfl) rfl rfl rfl ?_
    refine gl_call (Z3 ++ ([.blk g5 (.cells #[.int .u64 p.term, .int .i64 ek, B ed] 65)])) rfl (all_ct X ⟨commitP (prop2 p ek ed), a3, outs3, oa3, oc3⟩ hf3 (by simp only; omega)) (fun w hw => by rwa [List.append_assoc] at hw) (fun _ _ _ => trivial) rfl ?_; rintro v A ⟨rfl, ms, oa4, oc4, Z4, e4, rfl, f4⟩
    refine gl_nil ?_
    repeat (first | refine g_seq ?_ | refine at_code ?_ | refine g_skip ?_ | refine g_block ?_ | refine g_exit rfl ?_ | refine g_cond_t rfl ?_ | refine g_cond_f rfl ?_)
    simp only [List.append_nil] at o3
    repeat (first | refine g_seq ?_ | refine at_code ?_ | refine g_skip ?_ | refine g_block ?_ | refine g_exit rfl ?_ | refine g_cond_t rfl ?_ | refine g_cond_f rfl ?_)
    refine g_region ?_
    refine gl_f (s_assign rfl) rfl rfl rfl ?_
    refine gl_nil ?_
    repeat (first | refine g_seq ?_ | refine at_code ?_ | refine g_skip ?_ | refine g_block ?_ | refine g_exit rfl ?_ | refine g_cond_t rfl ?_ | refine g_cond_f rfl ?_)
    refine g_ret ?_
    exact at_end1 rfl rfl (mdH X ⟨commitP (prop2 p ek ed), a3, outs3 ++ ms, oa4, oc4⟩ ++ (Z4 ++ (Z3 ++ ([.blk g5 (.cells #[.int .u64 p.term, .int .i64 ek, B ed] 65)])))) ⟨rfl, ⟨commitP (prop2 p ek ed), a3, outs3 ++ ms, oa4, oc4⟩, _, rfl, by rw [List.map_append, e4, o3], rfl, fun h f hs m hm => by
      obtain ⟨s4, s32⟩ := Sat.two2 hs
      obtain ⟨s3, s2⟩ := Sat.two2 s32
      rcases List.mem_append.1 hm with hm | hm
      · exact f3 h (f) s3 m hm
      · exact f4 h s4 m hm⟩ (fun w hw => by rwa [List.append_assoc] at hw)
end Go.Proofs.Ytodcghipfolejaa.Rf
