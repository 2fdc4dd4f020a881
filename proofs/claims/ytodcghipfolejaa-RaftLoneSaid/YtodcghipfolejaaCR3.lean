/- A mind's calls: all, commit. -/
import Derived.Test.YtodcghipfolejaaCR2
namespace Go.Proofs.Ytodcghipfolejaa.Rf
open Go Go.Sl
set_option linter.unusedVariables false
set_option linter.unusedSimpArgs false
-- ARR

theorem com_ex (l : List Int) (hs : List At2) : ∀ k, k ≤ hs.length → ∃ b, ComI l hs k b ∧ (b = 0 ∨ ∃ p ∈ hs, b = p.2) := by
  intro k
  induction k with
  | zero => intro _; exact ⟨0, ⟨Int.le_refl _, .inl rfl, fun j hj => absurd hj (by omega)⟩, .inl rfl⟩
  | succ k ih =>
    intro hk
    obtain ⟨b, hb, hb2⟩ := ih (by omega)
    have hp := hb.pos
    by_cases h : b < (hs.getD k (0, 0)).2 ∧ mostB l (whoL hs (hs.getD k (0, 0)).2) = true
    · refine ⟨_, ⟨by omega, .inr h.2, fun j hj hm => ?_⟩, .inr ⟨hs.getD k (0, 0), ?_, rfl⟩⟩
      · rcases Nat.lt_succ_iff_lt_or_eq.1 hj with h4 | rfl
        · have := hb.all j h4 hm; omega
        · exact Int.le_refl _
      · rw [List.getD_eq_getElem?_getD, List.getElem?_eq_getElem (by omega)]; exact List.getElem_mem (by omega)
    · refine ⟨b, ⟨hp, hb.has, fun j hj hm => ?_⟩, hb2⟩
      rcases Nat.lt_succ_iff_lt_or_eq.1 hj with h4 | rfl
      · exact hb.all j h4 hm
      · apply Classical.byContradiction
        intro hn
        exact h ⟨by omega, hm⟩
theorem com_bd {l : List Int} {hs : List At2} {M : Int} (hM : 0 ≤ M) (h : ∀ p ∈ hs, p.2 ≤ M) : 0 ≤ com l hs ∧ com l hs ≤ M := by
  obtain ⟨b, hb, hb2⟩ := com_ex l hs hs.length (Nat.le_refl _)
  rw [comI_end hb]
  refine ⟨hb.pos, ?_⟩
  rcases hb2 with rfl | ⟨p, hp, rfl⟩
  · exact hM
  · exact h p hp
theorem PFit.com {p : RP} (h : PFit p) : 0 ≤ comP p ∧ comP p ≤ 4611686018427387904 := by
  refine com_bd (by omega) (fun q hq => ?_)
  have := h.last
  rcases List.mem_cons.1 hq with rfl | hq
  · show lastI p.g ≤ _; omega
  · obtain ⟨r, hr, rfl⟩ := List.mem_map.1 hq
    exact (h.prs r hr).2.2.2.1
theorem getD_memP {l : List Pr} {k : Nat} (hk : k < l.length) : l.getD k P0 ∈ l := by
  rw [List.getD_eq_getElem?_getD, List.getElem?_eq_getElem hk]; exact List.getElem_mem hk
theorem takeP {l : List Pr} {k : Nat} (hk : k < l.length) : l.take (k + 1) = l.take k ++ [l.getD k P0] := by
  rw [List.take_succ_eq_append_getElem hk]; simp [hk]
theorem rdQ_own {F : Snap} {w : World} {H H' : List As} {a : Option Addr} {l : List Pr} {n c q i : Nat} {te : TypeId} (hw : Hp F w H) (u : Upd H (.own (.slice a n c) te 4 (prV l)) [] H') (h : q = 4 * i) (hi : i < l.length) : PeekC (hp w) (addO a q) (prC (l.getD i P0)) := rec_rdN (C := prC) (hw.ownN u).2.2.1 prC_len (by decide) P0 h hi
structure AI (p : RP) (k : Nat) (ms : List MM) (Z : List As) : Prop where
  le : k ≤ p.peers.length
  me : ms.map MM.p = (p.peers.take k).map (updateP p)
  len : ms.length = k
  ok : ∀ h, (∃ bs, Sat h Z bs) → ∀ m ∈ ms, MOk h m
set_option maxRecDepth 8000 in
set_option maxHeartbeats 2000000 in
theorem all_ct (X : Nat) (d : MD) (hf : PFit d.p) (ho : d.outs.length ≤ 1000000) : Ct Try.prog 99 [Ptr X] (fun _ => True) (mdH X d) (OutP X d.p d.a d.outs (allP d.p)) := by
  obtain ⟨p, a, outs, oa0, oc0⟩ := d
  simp only at hf ho
  have hpl := hf.peers
  refine ct_enter 24 Try.func99 rfl rfl rfl ?_
  intro F _
  obtain ⟨b, hb⟩ : ∃ b, b = decide (p.role = 2) := ⟨_, rfl⟩
  repeat (first | refine g_seq ?_ | refine at_code ?_ | refine g_skip ?_ | refine g_block ?_ | refine g_exit rfl ?_ | refine g_cond_t rfl ?_ | refine g_cond_f rfl ?_)
  refine g_region ?_
  refine gl_f (s_move rfl) rfl rfl rfl ?_
  refine gl_f (s_nilCheck rfl) rfl rfl rfl ?_
  refine gl_f (by first | exact s_fieldAddr rfl (by rfl) (by infer_instance) (by decide) | exact s_fieldAddr_o rfl (by assumption) (by rfl) (by infer_instance) (by decide)) rfl rfl rfl ?_
  refine gl_f (by first | exact s_fieldAddr rfl (by rfl) (by infer_instance) (by decide) | exact s_fieldAddr_o rfl (by assumption) (by rfl) (by infer_instance) (by decide)) rfl rfl rfl ?_
  refine gl_r (by first | exact s_load_blk rfl (by repeat first|exact .del|apply Upd.there) a19_3 | exact s_load1 rfl (fun w hw => peekB hw (by assumption) a19_3)) rfl rfl rfl ?_
  refine gl_f ((s_neq rfl rfl).eq (v' := .bool (!b)) (by rw [hb])) rfl rfl rfl ?_
  refine gl_nil ?_
  repeat (first | refine g_seq ?_ | refine at_code ?_ | refine g_skip ?_ | refine g_block ?_ | refine g_exit rfl ?_ | refine g_cond_t rfl ?_ | refine g_cond_f rfl ?_)
  cases b
  · have e : allP p = [] := if_neg (of_decide_eq_false hb.symm)
    simp only [e]
    repeat (first | refine g_seq ?_ | refine at_code ?_ | refine g_skip ?_ | refine g_block ?_ | refine g_exit rfl ?_ | refine g_cond_t rfl ?_ | refine g_cond_f rfl ?_)
    refine g_ret ?_
    exact at_end0 rfl (mdH X ⟨p, a, outs, oa0, oc0⟩ ++ []) ⟨rfl, [], oa0, oc0, [], rfl, by simp only [List.append_nil], fun h _ m hm => by cases hm⟩ (fun w hw => hw)
  have e : allP p = p.peers.map (updateP p) := if_pos (of_decide_eq_true hb.symm)
  simp only [e]
  repeat (first | refine g_seq ?_ | refine at_code ?_ | refine g_skip ?_ | refine g_block ?_ | refine g_exit rfl ?_ | refine g_cond_t rfl ?_ | refine g_cond_f rfl ?_)
  refine g_ownN (a := a.pa) (by repeat first|exact .del|apply Upd.there) (fun _ _ hpa => ?_)
  repeat (first | refine g_seq ?_ | refine at_code ?_ | refine g_skip ?_ | refine g_block ?_ | refine g_exit rfl ?_ | refine g_cond_t rfl ?_ | refine g_cond_f rfl ?_)
  refine g_region ?_
  refine gl_f (s_move rfl) rfl rfl rfl ?_
  refine gl_f (s_nilCheck rfl) rfl rfl rfl ?_
  refine gl_f (by first | exact s_fieldAddr rfl (by rfl) (by infer_instance) (by decide) | exact s_fieldAddr_o rfl (by assumption) (by rfl) (by infer_instance) (by decide)) rfl rfl rfl ?_
  refine gl_f (by first | exact s_fieldAddr rfl (by rfl) (by infer_instance) (by decide) | exact s_fieldAddr_o rfl (by assumption) (by rfl) (by infer_instance) (by decide)) rfl rfl rfl ?_
  refine gl_r (by first | exact s_load_blk rfl (by repeat first|exact .del|apply Upd.there) a19_14 | exact s_load1 rfl (fun w hw => peekB hw (by assumption) a19_14)) rfl rfl rfl ?_
  refine gl_f (s_len_sl rfl) rfl rfl rfl ?_
  refine gl_f (s_move rfl) rfl rfl rfl ?_
  refine gl_nil ?_
  repeat (first | refine g_seq ?_ | refine at_code ?_ | refine g_skip ?_ | refine g_block ?_ | refine g_exit rfl ?_ | refine g_cond_t rfl ?_ | refine g_cond_f rfl ?_)
  refine g_loop (ι := Nat × List MM × Option Addr × Nat × List As) (fun i => AI p i.1 i.2.1 i.2.2.2.2) (fun i => [(0, Ptr X), (14, .slice a.pa p.peers.length a.pc), (15, .int .i64 (p.peers.length : Nat)), (16, .int .i64 (i.1 : Nat))]) (fun i => mdH X ⟨p, a, outs ++ i.2.1, i.2.2.1, i.2.2.2.1⟩ ++ i.2.2.2.2) (fun i => p.peers.length - i.1) (0, [], oa0, oc0, []) ⟨Nat.zero_le _, rfl, rfl, fun h _ m hm => by cases hm⟩ ?_ ?_ ?_
  · (repeat (first | exact Sub.nil _ | refine Sub.cons rfl ?_))
  · intro w hw
    simp only [List.append_nil]
    exact hw
  rintro ⟨k, ms, oa, oc, Z⟩ hI
  obtain ⟨hk, hms, hln, hok⟩ := hI
  simp only at hk hms hln hok
  repeat (first | refine g_seq ?_ | refine at_code ?_ | refine g_skip ?_ | refine g_block ?_ | refine g_exit rfl ?_ | refine g_cond_t rfl ?_ | refine g_cond_f rfl ?_)
  refine g_region ?_
  refine gl_f (s_lss rfl rfl) rfl rfl rfl ?_
  refine gl_nil ?_
  repeat (first | refine g_seq ?_ | refine at_code ?_ | refine g_skip ?_ | refine g_block ?_ | refine g_exit rfl ?_ | refine g_cond_t rfl ?_ | refine g_cond_f rfl ?_)
  refine g_cond rfl (fun h => ?_) (fun h => ?_)
  rotate_left
  · have hkl : k = p.peers.length := by simp at h; omega
    rw [hkl, List.take_length] at hms
    repeat (first | refine g_seq ?_ | refine at_code ?_ | refine g_skip ?_ | refine g_block ?_ | refine g_exit rfl ?_ | refine g_cond_t rfl ?_ | refine g_cond_f rfl ?_)
    exact at_end0 rfl (mdH X ⟨p, a, outs ++ ms, oa, oc⟩ ++ Z) ⟨rfl, ms, oa, oc, Z, hms, rfl, hok⟩ (fun w hw => hw)
  have hkl : k < p.peers.length := by simp at h; omega
  have hsome : ∃ ad, a.pa = some ad := hpa (by show 0 < p.peers.length; omega)
  have hq := hf.prs _ (getD_memP hkl)
  have htk := takeP hkl
  obtain ⟨q, hqe⟩ : ∃ q, q = p.peers.getD k P0 := ⟨_, rfl⟩
  rw [← hqe] at hq htk
  have hkk : ((k, ms, oa, oc, Z) : Nat × List MM × Option Addr × Nat × List As).1 < p.peers.length := hkl
  repeat (first | refine g_seq ?_ | refine at_code ?_ | refine g_skip ?_ | refine g_block ?_ | refine g_exit rfl ?_ | refine g_cond_t rfl ?_ | refine g_cond_f rfl ?_)
  repeat (first | refine g_seq ?_ | refine at_code ?_ | refine g_skip ?_ | refine g_block ?_ | refine g_exit rfl ?_ | refine g_cond_t rfl ?_ | refine g_cond_f rfl ?_)
  refine g_region ?_
  refine gl_f (s_indexAddr rfl (by assumption) rfl (by omega)) rfl rfl rfl ?_
  refine gl_r (s_loadN (cs := prC q) rfl (fun w hw => by rw [hqe]; exact rdQ_own (a := a.pa) hw (by repeat first|exact .del|apply Upd.there) (i := k) (by simp only; omega) hkl) rfl) rfl rfl rfl ?_
  refine gl_allocA rfl ?_; intro g3
  (first | refine gl_store_blkW rfl rfl (by repeat first|exact .here|apply Upd.there) (by rfl) (by rfl) (by (intro q hq; simp [Value.cells] at hq; first | (subst hq; rfl) | (rcases hq with rfl | rfl | rfl | rfl | rfl | rfl | rfl | rfl <;> rfl) | (rcases hq with rfl | rfl | rfl | rfl | rfl | rfl | rfl | rfl | rfl | rfl | rfl | rfl | rfl | rfl | rfl | rfl | rfl | rfl | rfl | rfl <;> rfl))) ?_ | refine gl_store_blk rfl rfl (by repeat first|exact .here|apply Upd.there) (by rfl) (by (intro q hq; simp [Value.cells] at hq; first | (subst hq; rfl) | (rcases hq with rfl | rfl | rfl | rfl | rfl | rfl | rfl | rfl <;> rfl) | (rcases hq with rfl | rfl | rfl | rfl | rfl | rfl | rfl | rfl | rfl | rfl | rfl | rfl | rfl | rfl | rfl | rfl | rfl | rfl | rfl | rfl <;> rfl))) (by rfl) ?_)
  refine gl_nil ?_
  repeat (first | refine g_seq ?_ | refine at_code ?_ | refine g_skip ?_ | refine g_block ?_ | refine g_exit rfl ?_ | refine g_cond_t rfl ?_ | refine g_cond_f rfl ?_)
  repeat (first | refine g_seq ?_ | refine at_code ?_ | refine g_skip ?_ | refine g_block ?_ | refine g_exit rfl ?_ | refine g_cond_t rfl ?_ | refine g_cond_f rfl ?_)
  refine g_region ?_
  refine gl_f (s_move rfl) rfl rfl rfl ?_
  refine gl_r (by first | exact s_load_blkW rfl (by repeat first|exact .del|apply Upd.there) (by rfl) | exact s_load_blkN rfl (by repeat first|exact .del|apply Upd.there) (by rfl) | exact s_loadN rfl (fun w hw => peekBN hw (by assumption)) (by rfl)) rfl rfl rfl ?_
  refine gl_call (.blk g3 (.cells #[.int .i64 q.node, .int .u64 q.next, .int .u64 q.mtc, .int .i64 q.off] 121) :: Z) rfl (update_ct X ⟨p, a, outs ++ ms, oa, oc⟩ q hf ⟨⟨hq.1, hq.2.1⟩, hq.2.2.2.2⟩ (by simp only [List.length_append]; omega)) (fun w hw => hw.perm (perm_up (by repeat first|exact .del|apply Upd.there) (perm_up (by repeat first|exact .del|apply Upd.there) (perm_up (by repeat first|exact .del|apply Upd.there) (perm_up (by repeat first|exact .del|apply Upd.there) (perm_up (by repeat first|exact .del|apply Upd.there) (perm_up (by repeat first|exact .del|apply Upd.there) (.refl _)))))))) (fun _ _ _ => trivial) rfl ?_; rintro v A ⟨rfl, ms1, oa1, oc1, Z1, e1, rfl, f1⟩
  refine gl_nil ?_
  repeat (first | refine g_seq ?_ | refine at_code ?_ | refine g_skip ?_ | refine g_block ?_ | refine g_exit rfl ?_ | refine g_cond_t rfl ?_ | refine g_cond_f rfl ?_)
  repeat (first | refine g_seq ?_ | refine at_code ?_ | refine g_skip ?_ | refine g_block ?_ | refine g_exit rfl ?_ | refine g_cond_t rfl ?_ | refine g_cond_f rfl ?_)
  refine g_region ?_
  refine gl_f (s_add_i64 rfl rfl (by omega)) rfl rfl rfl ?_
  refine gl_f (s_move rfl) rfl rfl rfl ?_
  refine gl_nil ?_
  repeat (first | refine g_seq ?_ | refine at_code ?_ | refine g_skip ?_ | refine g_block ?_ | refine g_exit rfl ?_ | refine g_cond_t rfl ?_ | refine g_cond_f rfl ?_)
  refine at_next (k + 1, ms ++ ms1, oa1, oc1, Z1 ++ (.blk g3 (.cells #[.int .i64 q.node, .int .u64 q.next, .int .u64 q.mtc, .int .i64 q.off] 121) :: Z)) ⟨by simp only; omega, ?_, ?_, ?_⟩ (by simp only; omega) ?_ ?_
  · rw [List.map_append, hms, e1, htk, List.map_append]; rfl
  · have := congrArg List.length e1
    simp at this
    simp only [List.length_append]; omega
  · intro h hs m hm
    obtain ⟨s1, s2⟩ := Sat.two2 hs
    obtain ⟨bs, b1, b2, _, _, s3⟩ := s2
    rcases List.mem_append.1 hm with hm | hm
    · exact hok h ⟨b2, s3⟩ m hm
    · exact f1 h s1 m hm
  · (repeat (first | exact Sub.nil _ | refine Sub.cons rfl ?_))
  · intro w hw
    simp only
    rw [← List.append_assoc outs ms ms1, ← List.append_assoc]
    exact hw
end Go.Proofs.Ytodcghipfolejaa.Rf
