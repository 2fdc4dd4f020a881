/- A mind's calls: peers, lead. -/
import Derived.Test.YtodcghipfolejaaCR4
namespace Go.Proofs.Ytodcghipfolejaa.Rf
open Go Go.Sl
set_option linter.unusedVariables false
set_option linter.unusedSimpArgs false
-- ARR

def outK (p : RP) (k : Nat) : List Pr := (((confL p).take k).filter fun n => decide (n ≠ p.id)).map (peerOf p)
theorem outK_all (p : RP) : outK p (confL p).length = peersL p := by rw [outK, List.take_length]; rfl
theorem takeI {l : List Int} {k : Nat} (hk : k < l.length) : l.take (k + 1) = l.take k ++ [l.getD k 0] := by
  rw [List.take_succ_eq_append_getElem hk]; simp [hk]
theorem outK_succ {p : RP} {k : Nat} (hk : k < (confL p).length) : outK p (k + 1) = outK p k ++ (if (confL p).getD k 0 = p.id then [] else [peerOf p ((confL p).getD k 0)]) := by
  rw [outK, outK, takeI hk, List.filter_append, List.map_append]
  congr 1
  by_cases h : (confL p).getD k 0 = p.id
  · rw [if_pos h]; simp only [List.filter_cons, List.filter_nil]; rw [if_neg (by simp only [ne_eq, decide_not]; rw [decide_eq_true h]; decide)]; rfl
  · rw [if_neg h]; simp only [List.filter_cons, List.filter_nil]; rw [if_pos (by simpa using h)]; rfl
theorem outK_len (p : RP) (k : Nat) : (outK p k).length ≤ (confL p).length := by
  rw [outK, List.length_map]
  exact Nat.le_trans (List.length_filter_le _ _) (by rw [List.length_take]; omega)
def bstK (p : RP) (n : Int) (j : Nat) : Pr := (p.peers.take j).foldl (fun b q => if q.node = n then q else b) ⟨n, lastI p.g + 1, 0, 0⟩
theorem bstK_all (p : RP) (n : Int) : bstK p n p.peers.length = peerOf p n := by rw [bstK, List.take_length]; rfl
theorem bstK_succ {p : RP} {n : Int} {j : Nat} (hj : j < p.peers.length) : bstK p n (j + 1) = if (p.peers.getD j P0).node = n then p.peers.getD j P0 else bstK p n j := by
  rw [bstK, takeP hj, List.foldl_append]; rfl
theorem own_snocP {a : Option Addr} {l : List Pr} {q : Pr} {c n : Nat} (hn : n = l.length + 1) : As.own (.slice a n c) 121 4 (prV l ++ prC q) = OwnP a (l ++ [q]) c := by
  subst hn
  show _ = As.own (.slice a (l ++ [q]).length c) 121 4 (prV (l ++ [q]))
  rw [prV_append, List.length_append, List.length_singleton]; simp
theorem rdN_own {F : Snap} {w : World} {H H' : List As} {a : Option Addr} {l : List Int} {n c q i : Nat} {te : TypeId} (hw : Hp F w H) (u : Upd H (.own (.slice a n c) te 1 (intsV l)) [] H') (h : q = i) (hi : i < l.length) : PeekC (hp w) (addO a q) [.int .i64 (l.getD i 0)] := rdI_own hw u h hi
set_option maxRecDepth 8000 in
set_option maxHeartbeats 4000000 in
theorem peers_ct (X : Nat) (d : MD) (hf : PFit d.p) : Ct Try.prog 109 [Ptr X] (fun _ => True) (mdH X d) (MdP X d { d.p with peers := peersL d.p } [] (.tuple #[])) := by
  obtain ⟨p, a, outs, oa0, oc0⟩ := d
  simp only at hf
  have hpl := hf.peers
  have hcn : (confL p).length ≤ 1000000 := hf.cn (lastI p.g)
  have hla := hf.last
  refine ct_enter 56 Try.func109 rfl rfl rfl ?_
  intro F _
  refine g_ownN (a := a.la) (by repeat first|exact .del|apply Upd.there) (fun _ hcap _ => ?_)
  refine g_ownN (a := a.pa) (by repeat first|exact .del|apply Upd.there) (fun _ _ hpa => ?_)
  repeat (first | refine g_seq ?_ | refine at_code ?_ | refine g_skip ?_ | refine g_block ?_ | refine g_exit rfl ?_ | refine g_cond_t rfl ?_ | refine g_cond_f rfl ?_)
  refine g_region ?_
  refine gl_f (s_assign rfl) rfl rfl rfl ?_
  refine gl_nil ?_
  repeat (first | refine g_seq ?_ | refine at_code ?_ | refine g_skip ?_ | refine g_block ?_ | refine g_exit rfl ?_ | refine g_cond_t rfl ?_ | refine g_cond_f rfl ?_)
  refine g_region ?_
  refine gl_f (s_move rfl) rfl rfl rfl ?_
  refine gl_f (s_nilCheck rfl) rfl rfl rfl ?_
  refine gl_f (by first | exact s_fieldAddr rfl (by rfl) (by infer_instance) (by decide) | exact s_fieldAddr_o rfl (by assumption) (by rfl) (by infer_instance) (by decide)) rfl rfl rfl ?_
  refine gl_r ((s_load_blkN rfl (by repeat first|exact .del|apply Upd.there) (by rfl)).eq (v' := rsV p a) rfl) rfl rfl rfl ?_
  refine gl_call _ rfl (Members_ct p a hf hcap) (fun w hw => hw) (fun h hh ⟨bs, hb⟩ => ⟨Sat.rd (a := a.ca) hb (by repeat first|exact .del|apply Upd.there), Sat.rd (a := a.la) hb (by repeat first|exact .del|apply Upd.there)⟩) rfl ?_; rintro v A ⟨ca, cc, rfl, rfl⟩
  refine gl_f (s_len_sl rfl) rfl rfl rfl ?_
  refine gl_f (s_move rfl) rfl rfl rfl ?_
  refine gl_nil ?_
  repeat (first | refine g_seq ?_ | refine at_code ?_ | refine g_skip ?_ | refine g_block ?_ | refine g_exit rfl ?_ | refine g_cond_t rfl ?_ | refine g_cond_f rfl ?_)
  obtain ⟨cl, hcl⟩ : ∃ l, l = confL p := ⟨_, rfl⟩
  rw [← hcl] at hcn
  rw [← hcl]
  refine g_own_nil 121 4 ?_
  refine g_ownN (a := ca) (by repeat first|exact .del|apply Upd.there) (fun _ _ hca => ?_)
  refine g_loop (ι := Nat × Option Addr × Nat) (fun i => i.1 ≤ cl.length) (fun i => [(0, Ptr X), (2, .slice i.2.1 (outK p i.1).length i.2.2), (12, .slice ca cl.length cc), (13, .int .i64 (cl.length : Nat)), (14, .int .i64 (i.1 : Nat))]) (fun i => OwnP i.2.1 (outK p i.1) i.2.2 :: OwnC ca cl cc :: mdH X ⟨p, a, outs, oa0, oc0⟩) (fun i => cl.length - i.1) (0, none, 0) (Nat.zero_le _) ?_ ?_ ?_
  · (repeat (first | exact Sub.nil _ | refine Sub.cons rfl ?_))
  · intro w hw; exact hw
  rintro ⟨k, b, c⟩ hk
  simp only at hk
  have hol := outK_len p k
  rw [← hcl] at hol
  have hol2 : (outK p ((k, b, c) : Nat × Option Addr × Nat).1).length ≤ cl.length := hol
  repeat (first | refine g_seq ?_ | refine at_code ?_ | refine g_skip ?_ | refine g_block ?_ | refine g_exit rfl ?_ | refine g_cond_t rfl ?_ | refine g_cond_f rfl ?_)
  refine g_region ?_
  refine gl_f (s_lss rfl rfl) rfl rfl rfl ?_
  refine gl_nil ?_
  repeat (first | refine g_seq ?_ | refine at_code ?_ | refine g_skip ?_ | refine g_block ?_ | refine g_exit rfl ?_ | refine g_cond_t rfl ?_ | refine g_cond_f rfl ?_)
  refine g_cond rfl (fun h => ?_) (fun h => ?_)
  rotate_left
  · have hkl : k = cl.length := by simp at h; omega
    subst hkl
    have e : outK p cl.length = peersL p := by rw [hcl, outK_all]
    simp only [e]
    repeat (first | refine g_seq ?_ | refine at_code ?_ | refine g_skip ?_ | refine g_block ?_ | refine g_exit rfl ?_ | refine g_cond_t rfl ?_ | refine g_cond_f rfl ?_)
    repeat (first | refine g_seq ?_ | refine at_code ?_ | refine g_skip ?_ | refine g_block ?_ | refine g_exit rfl ?_ | refine g_cond_t rfl ?_ | refine g_cond_f rfl ?_)
    refine g_region ?_
    refine gl_f (s_move rfl) rfl rfl rfl ?_
    refine gl_f (s_move rfl) rfl rfl rfl ?_
    refine gl_f (s_nilCheck rfl) rfl rfl rfl ?_
    refine gl_f (by first | exact s_fieldAddr rfl (by rfl) (by infer_instance) (by decide) | exact s_fieldAddr_o rfl (by assumption) (by rfl) (by infer_instance) (by decide)) rfl rfl rfl ?_
    refine gl_f (by first | exact s_fieldAddr rfl (by rfl) (by infer_instance) (by decide) | exact s_fieldAddr_o rfl (by assumption) (by rfl) (by infer_instance) (by decide)) rfl rfl rfl ?_
    (first | refine gl_store_blkC (pre := [_, _, _, _, _, _, _, _, _, _, _, _, _, _]) (post := [_, _, _, _]) rfl rfl (by repeat first|exact .here|apply Upd.there) (by rfl) (by rfl) (by rfl) ?_ | refine gl_store_blk rfl rfl (by repeat first|exact .here|apply Upd.there) (by rfl) (by (intro q hq; simp [Value.cells] at hq; first | (subst hq; rfl) | (rcases hq with rfl | rfl | rfl | rfl | rfl | rfl | rfl | rfl <;> rfl) | (rcases hq with rfl | rfl | rfl | rfl | rfl | rfl | rfl | rfl | rfl | rfl | rfl | rfl | rfl | rfl | rfl | rfl | rfl | rfl | rfl | rfl <;> rfl))) (by rfl) ?_)
    refine gl_nil ?_
    repeat (first | refine g_seq ?_ | refine at_code ?_ | refine g_skip ?_ | refine g_block ?_ | refine g_exit rfl ?_ | refine g_cond_t rfl ?_ | refine g_cond_f rfl ?_)
    exact at_end0 rfl _ (MdP.same X ⟨p, a, outs, oa0, oc0⟩ ⟨{ p with peers := peersL p }, { a with pa := b, pc := c }, outs, oa0, oc0⟩ _ rfl) (fun w hw => by rw [List.append_nil]; exact Hp.left (R := [OwnC ca cl cc, OwnP a.pa p.peers a.pc]) (hw.perm (perm_up (by repeat first|exact .del|apply Upd.there) (perm_up (by repeat first|exact .del|apply Upd.there) (perm_up (by repeat first|exact .del|apply Upd.there) (perm_up (by repeat first|exact .del|apply Upd.there) (perm_up (by repeat first|exact .del|apply Upd.there) (perm_up (by repeat first|exact .del|apply Upd.there) (.refl _)))))))))
  have hkl : k < cl.length := by simp at h; omega
  have hkk : ((k, b, c) : Nat × Option Addr × Nat).1 < cl.length := hkl
  have hsome : ∃ ad, ca = some ad := hca (by omega)
  have hsu := outK_succ (p := p) (k := k) (by rw [← hcl]; exact hkl)
  rw [← hcl] at hsu
  obtain ⟨n, hne⟩ : ∃ n, n = cl.getD k 0 := ⟨_, rfl⟩
  rw [← hne] at hsu
  obtain ⟨q, hq⟩ : ∃ q, q = decide (n = p.id) := ⟨_, rfl⟩
  repeat (first | refine g_seq ?_ | refine at_code ?_ | refine g_skip ?_ | refine g_block ?_ | refine g_exit rfl ?_ | refine g_cond_t rfl ?_ | refine g_cond_f rfl ?_)
  repeat (first | refine g_seq ?_ | refine at_code ?_ | refine g_skip ?_ | refine g_block ?_ | refine g_exit rfl ?_ | refine g_cond_t rfl ?_ | refine g_cond_f rfl ?_)
  refine g_region ?_
  refine gl_f (s_indexAddr rfl (by assumption) rfl (by omega)) rfl rfl rfl ?_
  refine gl_r (s_load1 (v := .int .i64 n) rfl (fun w hw => by rw [hne]; exact rdN_own (a := ca) hw (by repeat first|exact .del|apply Upd.there) (i := k) (by simp only; omega) hkl)) rfl rfl rfl ?_
  refine gl_f (s_assign rfl) rfl rfl rfl ?_
  refine gl_nil ?_
  repeat (first | refine g_seq ?_ | refine at_code ?_ | refine g_skip ?_ | refine g_block ?_ | refine g_exit rfl ?_ | refine g_cond_t rfl ?_ | refine g_cond_f rfl ?_)
  repeat (first | refine g_seq ?_ | refine at_code ?_ | refine g_skip ?_ | refine g_block ?_ | refine g_exit rfl ?_ | refine g_cond_t rfl ?_ | refine g_cond_f rfl ?_)
  refine g_region ?_
  refine gl_f (s_move rfl) rfl rfl rfl ?_
  refine gl_f (s_move rfl) rfl rfl rfl ?_
  refine gl_f (s_nilCheck rfl) rfl rfl rfl ?_
  refine gl_f (by first | exact s_fieldAddr rfl (by rfl) (by infer_instance) (by decide) | exact s_fieldAddr_o rfl (by assumption) (by rfl) (by infer_instance) (by decide)) rfl rfl rfl ?_
  refine gl_f (by first | exact s_fieldAddr rfl (by rfl) (by infer_instance) (by decide) | exact s_fieldAddr_o rfl (by assumption) (by rfl) (by infer_instance) (by decide)) rfl rfl rfl ?_
  refine gl_r (by first | exact s_load_blk rfl (by repeat first|exact .del|apply Upd.there) a19_0 | exact s_load1 rfl (fun w hw => peekB hw (by assumption) a19_0)) rfl rfl rfl ?_
  refine gl_f ((s_eql rfl rfl).eq (congrArg Value.bool hq.symm)) rfl rfl rfl ?_
  refine gl_nil ?_
  repeat (first | refine g_seq ?_ | refine at_code ?_ | refine g_skip ?_ | refine g_block ?_ | refine g_exit rfl ?_ | refine g_cond_t rfl ?_ | refine g_cond_f rfl ?_)
  cases q
  rotate_left
  · rw [if_pos (of_decide_eq_true hq.symm), List.append_nil] at hsu
    repeat (first | refine g_seq ?_ | refine at_code ?_ | refine g_skip ?_ | refine g_block ?_ | refine g_exit rfl ?_ | refine g_cond_t rfl ?_ | refine g_cond_f rfl ?_)
    repeat (first | refine g_seq ?_ | refine at_code ?_ | refine g_skip ?_ | refine g_block ?_ | refine g_exit rfl ?_ | refine g_cond_t rfl ?_ | refine g_cond_f rfl ?_)
    refine g_region ?_
    refine gl_f (s_add_i64 rfl rfl (by omega)) rfl rfl rfl ?_
    refine gl_f (s_move rfl) rfl rfl rfl ?_
    refine gl_nil ?_
    repeat (first | refine g_seq ?_ | refine at_code ?_ | refine g_skip ?_ | refine g_block ?_ | refine g_exit rfl ?_ | refine g_cond_t rfl ?_ | refine g_cond_f rfl ?_)
    refine at_next (k + 1, b, c) (by simp only; omega) (by simp only; omega) ?_ ?_
    · simp only [hsu]; (repeat (first | exact Sub.nil _ | refine Sub.cons rfl ?_))
    · intro w hw; simp only [hsu]; exact hw
  rw [if_neg (of_decide_eq_false hq.symm)] at hsu
  repeat (first | refine g_seq ?_ | refine at_code ?_ | refine g_skip ?_ | refine g_block ?_ | refine g_exit rfl ?_ | refine g_cond_t rfl ?_ | refine g_cond_f rfl ?_)
  repeat (first | refine g_seq ?_ | refine at_code ?_ | refine g_skip ?_ | refine g_block ?_ | refine g_exit rfl ?_ | refine g_cond_t rfl ?_ | refine g_cond_f rfl ?_)
  refine g_region ?_
  refine gl_f (s_move rfl) rfl rfl rfl ?_
  refine gl_f (s_move rfl) rfl rfl rfl ?_
  refine gl_callp rfl (rend_ct X ⟨p, a, outs, oa0, oc0⟩ hf hcap) (fun h hh ⟨bs, hb⟩ => ⟨Sat.blk hb (by repeat first|exact .del|apply Upd.there), Sat.rd (a := a.la) hb (by repeat first|exact .del|apply Upd.there)⟩) rfl ?_; rw [show lastI (⟨p, a, outs, oa0, oc0⟩ : MD).p.g = lastI p.g from rfl]
  refine gl_f (s_add_u64 rfl rfl (by omega)) rfl rfl rfl ?_
  refine gl_f (s_build rfl (run_build_struct (places := [(0, 1), (1, 1), (2, 1), (3, 1)]) rfl (by intro f hf; simp at hf; rcases hf with rfl | rfl | rfl | rfl <;> rfl) rfl)) rfl rfl rfl ?_
  refine gl_allocA rfl ?_; intro g5
  (first | refine gl_store_blkW rfl rfl (by repeat first|exact .here|apply Upd.there) (by rfl) (by rfl) (by (intro q hq; simp [Value.cells] at hq; first | (subst hq; rfl) | (rcases hq with rfl | rfl | rfl | rfl | rfl | rfl | rfl | rfl <;> rfl) | (rcases hq with rfl | rfl | rfl | rfl | rfl | rfl | rfl | rfl | rfl | rfl | rfl | rfl | rfl | rfl | rfl | rfl | rfl | rfl | rfl | rfl <;> rfl))) ?_ | refine gl_store_blk rfl rfl (by repeat first|exact .here|apply Upd.there) (by rfl) (by (intro q hq; simp [Value.cells] at hq; first | (subst hq; rfl) | (rcases hq with rfl | rfl | rfl | rfl | rfl | rfl | rfl | rfl <;> rfl) | (rcases hq with rfl | rfl | rfl | rfl | rfl | rfl | rfl | rfl | rfl | rfl | rfl | rfl | rfl | rfl | rfl | rfl | rfl | rfl | rfl | rfl <;> rfl))) (by rfl) ?_)
  refine gl_nil ?_
  repeat (first | refine g_seq ?_ | refine at_code ?_ | refine g_skip ?_ | refine g_block ?_ | refine g_exit rfl ?_ | refine g_cond_t rfl ?_ | refine g_cond_f rfl ?_)
  repeat (first | refine g_seq ?_ | refine at_code ?_ | refine g_skip ?_ | refine g_block ?_ | refine g_exit rfl ?_ | refine g_cond_t rfl ?_ | refine g_cond_f rfl ?_)
  refine g_region ?_
  refine gl_f (s_move rfl) rfl rfl rfl ?_
  refine gl_f (s_nilCheck rfl) rfl rfl rfl ?_
  refine gl_f (by first | exact s_fieldAddr rfl (by rfl) (by infer_instance) (by decide) | exact s_fieldAddr_o rfl (by assumption) (by rfl) (by infer_instance) (by decide)) rfl rfl rfl ?_
  refine gl_f (by first | exact s_fieldAddr rfl (by rfl) (by infer_instance) (by decide) | exact s_fieldAddr_o rfl (by assumption) (by rfl) (by infer_instance) (by decide)) rfl rfl rfl ?_
  refine gl_r (by first | exact s_load_blk rfl (by repeat first|exact .del|apply Upd.there) a19_14 | exact s_load1 rfl (fun w hw => peekB hw (by assumption) a19_14)) rfl rfl rfl ?_
  refine gl_f (s_len_sl rfl) rfl rfl rfl ?_
  refine gl_f (s_move rfl) rfl rfl rfl ?_
  refine gl_nil ?_
  repeat (first | refine g_seq ?_ | refine at_code ?_ | refine g_skip ?_ | refine g_block ?_ | refine g_exit rfl ?_ | refine g_cond_t rfl ?_ | refine g_cond_f rfl ?_)
  refine g_loop (ι := Nat) (fun j => j ≤ p.peers.length) (fun j => [(0, Ptr X), (2, .slice b (outK p k).length c), (4, .int .i64 n), (5, Ptr g5), (12, .slice ca cl.length cc), (13, .int .i64 (cl.length : Nat)), (14, .int .i64 (k : Nat)), (34, .slice a.pa p.peers.length a.pc), (35, .int .i64 (p.peers.length : Nat)), (36, .int .i64 (j : Nat))]) (fun j => .blk g5 (.cells #[.int .i64 (bstK p n j).node, .int .u64 (bstK p n j).next, .int .u64 (bstK p n j).mtc, .int .i64 (bstK p n j).off] 121) :: OwnP b (outK p k) c :: OwnC ca cl cc :: mdH X ⟨p, a, outs, oa0, oc0⟩) (fun j => p.peers.length - j) 0 (Nat.zero_le _) ?_ ?_ ?_
  · (repeat (first | exact Sub.nil _ | refine Sub.cons rfl ?_))
  · intro w hw; exact hw
  rintro j hj
  repeat (first | refine g_seq ?_ | refine at_code ?_ | refine g_skip ?_ | refine g_block ?_ | refine g_exit rfl ?_ | refine g_cond_t rfl ?_ | refine g_cond_f rfl ?_)
  refine g_region ?_
  refine gl_f (s_lss rfl rfl) rfl rfl rfl ?_
  refine gl_nil ?_
  repeat (first | refine g_seq ?_ | refine at_code ?_ | refine g_skip ?_ | refine g_block ?_ | refine g_exit rfl ?_ | refine g_cond_t rfl ?_ | refine g_cond_f rfl ?_)
  refine g_cond rfl (fun h => ?_) (fun h => ?_)
  · have hjl : j < p.peers.length := by simp at h; omega
    have hsomep : ∃ ad, a.pa = some ad := hpa (by show 0 < p.peers.length; omega)
    have hbs := bstK_succ (p := p) (n := n) hjl
    obtain ⟨u, hue⟩ : ∃ u, u = p.peers.getD j P0 := ⟨_, rfl⟩
    rw [← hue] at hbs
    obtain ⟨q2, hq2⟩ : ∃ q, q = decide (u.node = n) := ⟨_, rfl⟩
    repeat (first | refine g_seq ?_ | refine at_code ?_ | refine g_skip ?_ | refine g_block ?_ | refine g_exit rfl ?_ | refine g_cond_t rfl ?_ | refine g_cond_f rfl ?_)
    repeat (first | refine g_seq ?_ | refine at_code ?_ | refine g_skip ?_ | refine g_block ?_ | refine g_exit rfl ?_ | refine g_cond_t rfl ?_ | refine g_cond_f rfl ?_)
    refine g_region ?_
    refine gl_f (s_indexAddr rfl (by assumption) rfl (by omega)) rfl rfl rfl ?_
    refine gl_r (s_loadN (cs := prC u) rfl (fun w hw => by rw [hue]; exact rdQ_own (a := a.pa) hw (by repeat first|exact .del|apply Upd.there) (i := j) (by omega) hjl) rfl) rfl rfl rfl ?_
    refine gl_allocA rfl ?_; intro g7
    (first | refine gl_store_blkW rfl rfl (by repeat first|exact .here|apply Upd.there) (by rfl) (by rfl) (by (intro q hq; simp [Value.cells] at hq; first | (subst hq; rfl) | (rcases hq with rfl | rfl | rfl | rfl | rfl | rfl | rfl | rfl <;> rfl) | (rcases hq with rfl | rfl | rfl | rfl | rfl | rfl | rfl | rfl | rfl | rfl | rfl | rfl | rfl | rfl | rfl | rfl | rfl | rfl | rfl | rfl <;> rfl))) ?_ | refine gl_store_blk rfl rfl (by repeat first|exact .here|apply Upd.there) (by rfl) (by (intro q hq; simp [Value.cells] at hq; first | (subst hq; rfl) | (rcases hq with rfl | rfl | rfl | rfl | rfl | rfl | rfl | rfl <;> rfl) | (rcases hq with rfl | rfl | rfl | rfl | rfl | rfl | rfl | rfl | rfl | rfl | rfl | rfl | rfl | rfl | rfl | rfl | rfl | rfl | rfl | rfl <;> rfl))) (by rfl) ?_)
    refine gl_nil ?_
    repeat (first | refine g_seq ?_ | refine at_code ?_ | refine g_skip ?_ | refine g_block ?_ | refine g_exit rfl ?_ | refine g_cond_t rfl ?_ | refine g_cond_f rfl ?_)
    repeat (first | refine g_seq ?_ | refine at_code ?_ | refine g_skip ?_ | refine g_block ?_ | refine g_exit rfl ?_ | refine g_cond_t rfl ?_ | refine g_cond_f rfl ?_)
    refine g_region ?_
    refine gl_f (by first | exact s_fieldAddr rfl (by rfl) (by infer_instance) (by decide) | exact s_fieldAddr_o rfl (by assumption) (by rfl) (by infer_instance) (by decide)) rfl rfl rfl ?_
    refine gl_r (by first | exact s_load_blk rfl (by repeat first|exact .del|apply Upd.there) a4_0 | exact s_load1 rfl (fun w hw => peekB hw (by assumption) a4_0)) rfl rfl rfl ?_
    refine gl_f (s_move rfl) rfl rfl rfl ?_
    refine gl_f ((s_eql rfl rfl).eq (congrArg Value.bool hq2.symm)) rfl rfl rfl ?_
    refine gl_nil ?_
    repeat (first | refine g_seq ?_ | refine at_code ?_ | refine g_skip ?_ | refine g_block ?_ | refine g_exit rfl ?_ | refine g_cond_t rfl ?_ | refine g_cond_f rfl ?_)
    cases q2
    · rw [if_neg (of_decide_eq_false hq2.symm)] at hbs
      repeat (first | refine g_seq ?_ | refine at_code ?_ | refine g_skip ?_ | refine g_block ?_ | refine g_exit rfl ?_ | refine g_cond_t rfl ?_ | refine g_cond_f rfl ?_)
      repeat (first | refine g_seq ?_ | refine at_code ?_ | refine g_skip ?_ | refine g_block ?_ | refine g_exit rfl ?_ | refine g_cond_t rfl ?_ | refine g_cond_f rfl ?_)
      refine g_region ?_
      refine gl_f (s_add_i64 rfl rfl (by omega)) rfl rfl rfl ?_
      refine gl_f (s_move rfl) rfl rfl rfl ?_
      refine gl_nil ?_
      repeat (first | refine g_seq ?_ | refine at_code ?_ | refine g_skip ?_ | refine g_block ?_ | refine g_exit rfl ?_ | refine g_cond_t rfl ?_ | refine g_cond_f rfl ?_)
      refine at_next (j + 1) (by omega) (by omega) ?_ ?_
      · (repeat (first | exact Sub.nil _ | refine Sub.cons rfl ?_))
      · intro w hw; rw [hbs]; exact hw.drop
    · rw [if_pos (of_decide_eq_true hq2.symm)] at hbs
      repeat (first | refine g_seq ?_ | refine at_code ?_ | refine g_skip ?_ | refine g_block ?_ | refine g_exit rfl ?_ | refine g_cond_t rfl ?_ | refine g_cond_f rfl ?_)
      repeat (first | refine g_seq ?_ | refine at_code ?_ | refine g_skip ?_ | refine g_block ?_ | refine g_exit rfl ?_ | refine g_cond_t rfl ?_ | refine g_cond_f rfl ?_)
      refine g_region ?_
      refine gl_r (by first | exact s_load_blkW rfl (by repeat first|exact .del|apply Upd.there) (by rfl) | exact s_load_blkN rfl (by repeat first|exact .del|apply Upd.there) (by rfl) | exact s_loadN rfl (fun w hw => peekBN hw (by assumption)) (by rfl)) rfl rfl rfl ?_
      (first | refine gl_store_blkW rfl rfl (by repeat first|exact .here|apply Upd.there) (by rfl) (by rfl) (by (intro q hq; simp [Value.cells] at hq; first | (subst hq; rfl) | (rcases hq with rfl | rfl | rfl | rfl | rfl | rfl | rfl | rfl <;> rfl) | (rcases hq with rfl | rfl | rfl | rfl | rfl | rfl | rfl | rfl | rfl | rfl | rfl | rfl | rfl | rfl | rfl | rfl | rfl | rfl | rfl | rfl <;> rfl))) ?_ | refine gl_store_blk rfl rfl (by repeat first|exact .here|apply Upd.there) (by rfl) (by (intro q hq; simp [Value.cells] at hq; first | (subst hq; rfl) | (rcases hq with rfl | rfl | rfl | rfl | rfl | rfl | rfl | rfl <;> rfl) | (rcases hq with rfl | rfl | rfl | rfl | rfl | rfl | rfl | rfl | rfl | rfl | rfl | rfl | rfl | rfl | rfl | rfl | rfl | rfl | rfl | rfl <;> rfl))) (by rfl) ?_)
      refine gl_nil ?_
      repeat (first | refine g_seq ?_ | refine at_code ?_ | refine g_skip ?_ | refine g_block ?_ | refine g_exit rfl ?_ | refine g_cond_t rfl ?_ | refine g_cond_f rfl ?_)
      repeat (first | refine g_seq ?_ | refine at_code ?_ | refine g_skip ?_ | refine g_block ?_ | refine g_exit rfl ?_ | refine g_cond_t rfl ?_ | refine g_cond_f rfl ?_)
      refine g_region ?_
      refine gl_f (s_add_i64 rfl rfl (by omega)) rfl rfl rfl ?_
      refine gl_f (s_move rfl) rfl rfl rfl ?_
      refine gl_nil ?_
      repeat (first | refine g_seq ?_ | refine at_code ?_ | refine g_skip ?_ | refine g_block ?_ | refine g_exit rfl ?_ | refine g_cond_t rfl ?_ | refine g_cond_f rfl ?_)
      refine at_next (j + 1) (by omega) (by omega) ?_ ?_
      · (repeat (first | exact Sub.nil _ | refine Sub.cons rfl ?_))
      · intro w hw; rw [hbs]; exact hw.drop
  have hjl : j = p.peers.length := by simp at h; omega
  subst hjl
  rw [bstK_all]
  obtain ⟨r, hr⟩ : ∃ r, r = peerOf p n := ⟨_, rfl⟩
  rw [← hr] at hsu
  rw [← hr]
  repeat (first | refine g_seq ?_ | refine at_code ?_ | refine g_skip ?_ | refine g_block ?_ | refine g_exit rfl ?_ | refine g_cond_t rfl ?_ | refine g_cond_f rfl ?_)
  repeat (first | refine g_seq ?_ | refine at_code ?_ | refine g_skip ?_ | refine g_block ?_ | refine g_exit rfl ?_ | refine g_cond_t rfl ?_ | refine g_cond_f rfl ?_)
  refine g_region ?_
  refine gl_f (s_move rfl) rfl rfl rfl ?_
  refine gl_r (by first | exact s_load_blkW rfl (by repeat first|exact .del|apply Upd.there) (by rfl) | exact s_load_blkN rfl (by repeat first|exact .del|apply Upd.there) (by rfl) | exact s_loadN rfl (fun w hw => peekBN hw (by assumption)) (by rfl)) rfl rfl rfl ?_
  refine gl_buildSliceU rfl rfl rfl rfl rfl rfl (xs := prC r) rfl rfl ?_; intro a48 ha48
  refine gl_append (sz := 4) rfl rfl (fun a' c' => (by repeat first|exact .here|apply Upd.there)) (fun w hw => (hw.ownN (by repeat first|exact .del|apply Upd.there)).2.2.1) rfl rfl rfl (prC_one r) (by show (_ + 1) * 32 ≤ _; omega) (by omega) rfl ?_; intro a49 c49 hc49
  refine gl_f (s_assign rfl) rfl rfl rfl ?_
  refine gl_nil ?_
  repeat (first | refine g_seq ?_ | refine at_code ?_ | refine g_skip ?_ | refine g_block ?_ | refine g_exit rfl ?_ | refine g_cond_t rfl ?_ | refine g_cond_f rfl ?_)
  repeat (first | refine g_seq ?_ | refine at_code ?_ | refine g_skip ?_ | refine g_block ?_ | refine g_exit rfl ?_ | refine g_cond_t rfl ?_ | refine g_cond_f rfl ?_)
  refine g_region ?_
  refine gl_f (s_add_i64 rfl rfl (by omega)) rfl rfl rfl ?_
  refine gl_f (s_move rfl) rfl rfl rfl ?_
  refine gl_nil ?_
  repeat (first | refine g_seq ?_ | refine at_code ?_ | refine g_skip ?_ | refine g_block ?_ | refine g_exit rfl ?_ | refine g_cond_t rfl ?_ | refine g_cond_f rfl ?_)
  refine at_next (k + 1, a49, c49) (by simp only; omega) (by simp only; omega) ?_ ?_
  · simp only [hsu, List.length_append, List.length_singleton]; (repeat (first | exact Sub.nil _ | refine Sub.cons rfl ?_))
  · intro w hw
    simp only [hsu]
    rw [← own_snocP rfl]
    exact hw.drop.drop
end Go.Proofs.Ytodcghipfolejaa.Rf
