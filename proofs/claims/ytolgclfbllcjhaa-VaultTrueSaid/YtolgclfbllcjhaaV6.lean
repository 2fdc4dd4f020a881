/- The law VaultTrue. -/
import Derived.Test.YtolgclfbllcjhaaV5
namespace Go.Proofs.Ytolgclfbllcjhaa.Vt
open Go Go.Sl
set_option linter.unusedVariables false
set_option linter.unusedSimpArgs false

def tC (b o : Bs) : Cl := ⟨2, nmB (Dg.sha b), o⟩
theorem true_put (b o : Bs) (hb : b.length ≤ 1024) (ho : o.length ≤ 1024) : turnE (newD 65536) (tC b o) = 0 ∧ (turnD (newD 65536) (tC b o)).seen = [(bN b, o)] := by
  have n0 := on_new 65536
  have s1 : stepsC (tC b o) = 1 := by simp [stepsC, tC]
  have d1 : doneL (newD 65536).seen (tC b o) 1 = [(bN b, o)] := by simp [doneL, tC]; rfl
  have u1 : usedL [(bN b, o)] = o.length := by simp [usedL]
  have f1 : fullC (newD 65536) (tC b o) = false := by
    rw [fullC, if_pos (show (tC b o).kind = 2 from rfl), d1, u1, decide_eq_false_iff_not]
    show ¬ (65536 : Int) < _
    omega
  have e1 : turnE (newD 65536) (tC b o) = 0 := by
    have hb := bad_bN b
    simp only [turnE, tC, bN] at f1 hb ⊢
    simp [hb, n0.off, f1]
  refine ⟨e1, ?_⟩
  rcases turnD_cases n0.f (tC b o) with ⟨e, _⟩ | ⟨_, e⟩
  · rw [turnsD, e1, decide_eq_false (show ¬ ((tC b o).kind = 1) from (by decide : ¬ ((2 : Int) = 1))), Bool.false_and] at e
    simp at e
  · rw [e, s1, d1]
set_option maxRecDepth 16000 in
set_option maxHeartbeats 8000000 in
theorem VaultTrue_ct (body other sum : Bs) (h1 : body.length ≤ 140737488351232) (h2 : other.length ≤ 140737488351232) (h3 : sum.length ≤ 140737488351232) : Pu Try.prog 8 [B body, B other, B sum] (fun _ => True) (.bool true) := by
  refine ct_enter 131 Try.func8 rfl rfl rfl ?_
  intro F _
  repeat (first | refine g_seq ?_ | refine at_code ?_ | refine g_skip ?_ | refine g_block ?_ | refine g_exit rfl ?_ | refine g_cond_t rfl ?_ | refine g_cond_f rfl ?_)
  refine g_region ?_
  refine gl_f (s_assign rfl) rfl rfl rfl ?_
  refine gl_nil ?_
  repeat (first | refine g_seq ?_ | refine at_code ?_ | refine g_skip ?_ | refine g_block ?_ | refine g_exit rfl ?_ | refine g_cond_t rfl ?_ | refine g_cond_f rfl ?_)
  refine g_region ?_
  refine gl_callp rfl alive_ct (fun _ _ _ => trivial) rfl ?_
  refine gl_f (s_not rfl) rfl rfl rfl ?_
  refine gl_nil ?_
  repeat (first | refine g_seq ?_ | refine at_code ?_ | refine g_skip ?_ | refine g_block ?_ | refine g_exit rfl ?_ | refine g_cond_t rfl ?_ | refine g_cond_f rfl ?_)
  obtain ⟨q1, hq1⟩ : ∃ q, q = decide ((1024 : Int) < (body.length : Nat)) := ⟨_, rfl⟩
  obtain ⟨q2, hq2⟩ : ∃ q, q = decide ((1024 : Int) < (other.length : Nat)) := ⟨_, rfl⟩
  cases q1
  rotate_left
  · repeat (first | refine g_seq ?_ | refine at_code ?_ | refine g_skip ?_ | refine g_block ?_ | refine g_exit rfl ?_ | refine g_cond_t rfl ?_ | refine g_cond_f rfl ?_)
    refine g_region ?_
    refine gl_f (s_move rfl) rfl rfl rfl ?_
    refine gl_f (s_len_str rfl) rfl rfl rfl ?_
    refine gl_f ((s_gtr rfl rfl).eq (congrArg Value.bool hq1.symm)) rfl rfl rfl ?_
    refine gl_f (s_move rfl) rfl rfl rfl ?_
    (first | refine gl_guard_no rfl rfl rfl rfl rfl rfl rfl ?_ | refine gl_guard_un rfl rfl rfl rfl rfl rfl ?_ | (refine gl_guard_yes rfl rfl rfl ?_; refine gl_f (s_move rfl) rfl rfl rfl ?_))
    (first | refine gl_guard_no rfl rfl rfl rfl rfl rfl rfl ?_ | refine gl_guard_un rfl rfl rfl rfl rfl rfl ?_ | (refine gl_guard_yes rfl rfl rfl ?_; refine gl_f (s_len_str rfl) rfl rfl rfl ?_))
    (first | refine gl_guard_no rfl rfl rfl rfl rfl rfl rfl ?_ | refine gl_guard_un rfl rfl rfl rfl rfl rfl ?_ | (refine gl_guard_yes rfl rfl rfl ?_; refine gl_f (s_gtr rfl rfl) rfl rfl rfl ?_))
    refine gl_f (by first | exact s_pick_t rfl rfl | exact s_pick_f rfl rfl) rfl rfl rfl ?_
    refine gl_f (s_move rfl) rfl rfl rfl ?_
    (first | refine gl_guard_no rfl rfl rfl rfl rfl rfl rfl ?_ | refine gl_guard_un rfl rfl rfl rfl rfl rfl ?_ | (refine gl_guard_yes rfl rfl rfl ?_; refine gl_f (s_move rfl) rfl rfl rfl ?_))
    (first | refine gl_guard_no rfl rfl rfl rfl rfl rfl rfl ?_ | refine gl_guard_un rfl rfl rfl rfl rfl rfl ?_ | (refine gl_guard_yes rfl rfl rfl ?_; refine gl_f (s_move rfl) rfl rfl rfl ?_))
    (first | refine gl_guard_no rfl rfl rfl rfl rfl rfl rfl ?_ | refine gl_guard_un rfl rfl rfl rfl rfl rfl ?_ | (refine gl_guard_yes rfl rfl rfl ?_; fail))
    (first | refine gl_guard_no rfl rfl rfl rfl rfl rfl rfl ?_ | refine gl_guard_un rfl rfl rfl rfl rfl rfl ?_ | (refine gl_guard_yes rfl rfl rfl ?_; fail))
    refine gl_f (by first | exact s_pick_t rfl rfl | exact s_pick_f rfl rfl) rfl rfl rfl ?_
    refine gl_nil ?_
    repeat (first | refine g_seq ?_ | refine at_code ?_ | refine g_skip ?_ | refine g_block ?_ | refine g_exit rfl ?_ | refine g_cond_t rfl ?_ | refine g_cond_f rfl ?_)
    repeat (first | refine g_seq ?_ | refine at_code ?_ | refine g_skip ?_ | refine g_block ?_ | refine g_exit rfl ?_ | refine g_cond_t rfl ?_ | refine g_cond_f rfl ?_)
    refine g_region ?_
    refine gl_f (s_assign rfl) rfl rfl rfl ?_
    refine gl_nil ?_
    repeat (first | refine g_seq ?_ | refine at_code ?_ | refine g_skip ?_ | refine g_block ?_ | refine g_exit rfl ?_ | refine g_cond_t rfl ?_ | refine g_cond_f rfl ?_)
    refine g_ret ?_
    exact at_end1 rfl rfl [] ⟨rfl, rfl⟩ (fun _ h => h)
  cases q2
  rotate_left
  · repeat (first | refine g_seq ?_ | refine at_code ?_ | refine g_skip ?_ | refine g_block ?_ | refine g_exit rfl ?_ | refine g_cond_t rfl ?_ | refine g_cond_f rfl ?_)
    refine g_region ?_
    refine gl_f (s_move rfl) rfl rfl rfl ?_
    refine gl_f (s_len_str rfl) rfl rfl rfl ?_
    refine gl_f ((s_gtr rfl rfl).eq (congrArg Value.bool hq1.symm)) rfl rfl rfl ?_
    refine gl_f (s_move rfl) rfl rfl rfl ?_
    (first | refine gl_guard_no rfl rfl rfl rfl rfl rfl rfl ?_ | refine gl_guard_un rfl rfl rfl rfl rfl rfl ?_ | (refine gl_guard_yes rfl rfl rfl ?_; refine gl_f (s_move rfl) rfl rfl rfl ?_))
    (first | refine gl_guard_no rfl rfl rfl rfl rfl rfl rfl ?_ | refine gl_guard_un rfl rfl rfl rfl rfl rfl ?_ | (refine gl_guard_yes rfl rfl rfl ?_; refine gl_f (s_len_str rfl) rfl rfl rfl ?_))
    (first | refine gl_guard_no rfl rfl rfl rfl rfl rfl rfl ?_ | refine gl_guard_un rfl rfl rfl rfl rfl rfl ?_ | (refine gl_guard_yes rfl rfl rfl ?_; refine gl_f ((s_gtr rfl rfl).eq (congrArg Value.bool hq2.symm)) rfl rfl rfl ?_))
    refine gl_f (by first | exact s_pick_t rfl rfl | exact s_pick_f rfl rfl) rfl rfl rfl ?_
    refine gl_f (s_move rfl) rfl rfl rfl ?_
    (first | refine gl_guard_no rfl rfl rfl rfl rfl rfl rfl ?_ | refine gl_guard_un rfl rfl rfl rfl rfl rfl ?_ | (refine gl_guard_yes rfl rfl rfl ?_; refine gl_f (s_move rfl) rfl rfl rfl ?_))
    (first | refine gl_guard_no rfl rfl rfl rfl rfl rfl rfl ?_ | refine gl_guard_un rfl rfl rfl rfl rfl rfl ?_ | (refine gl_guard_yes rfl rfl rfl ?_; refine gl_f (s_move rfl) rfl rfl rfl ?_))
    (first | refine gl_guard_no rfl rfl rfl rfl rfl rfl rfl ?_ | refine gl_guard_un rfl rfl rfl rfl rfl rfl ?_ | (refine gl_guard_yes rfl rfl rfl ?_; fail))
    (first | refine gl_guard_no rfl rfl rfl rfl rfl rfl rfl ?_ | refine gl_guard_un rfl rfl rfl rfl rfl rfl ?_ | (refine gl_guard_yes rfl rfl rfl ?_; fail))
    refine gl_f (by first | exact s_pick_t rfl rfl | exact s_pick_f rfl rfl) rfl rfl rfl ?_
    refine gl_nil ?_
    repeat (first | refine g_seq ?_ | refine at_code ?_ | refine g_skip ?_ | refine g_block ?_ | refine g_exit rfl ?_ | refine g_cond_t rfl ?_ | refine g_cond_f rfl ?_)
    repeat (first | refine g_seq ?_ | refine at_code ?_ | refine g_skip ?_ | refine g_block ?_ | refine g_exit rfl ?_ | refine g_cond_t rfl ?_ | refine g_cond_f rfl ?_)
    refine g_region ?_
    refine gl_f (s_assign rfl) rfl rfl rfl ?_
    refine gl_nil ?_
    repeat (first | refine g_seq ?_ | refine at_code ?_ | refine g_skip ?_ | refine g_block ?_ | refine g_exit rfl ?_ | refine g_cond_t rfl ?_ | refine g_cond_f rfl ?_)
    refine g_ret ?_
    exact at_end1 rfl rfl [] ⟨rfl, rfl⟩ (fun _ h => h)
  have hb : body.length ≤ 1024 := by have := of_decide_eq_false hq1.symm; omega
  have ho : other.length ≤ 1024 := by have := of_decide_eq_false hq2.symm; omega
  obtain ⟨q3, hq3⟩ : ∃ q, q = clashB [body, other] := ⟨_, rfl⟩
  repeat (first | refine g_seq ?_ | refine at_code ?_ | refine g_skip ?_ | refine g_block ?_ | refine g_exit rfl ?_ | refine g_cond_t rfl ?_ | refine g_cond_f rfl ?_)
  refine g_region ?_
  refine gl_f (s_move rfl) rfl rfl rfl ?_
  refine gl_f (s_len_str rfl) rfl rfl rfl ?_
  refine gl_f ((s_gtr rfl rfl).eq (congrArg Value.bool hq1.symm)) rfl rfl rfl ?_
  refine gl_f (s_move rfl) rfl rfl rfl ?_
  (first | refine gl_guard_no rfl rfl rfl rfl rfl rfl rfl ?_ | refine gl_guard_un rfl rfl rfl rfl rfl rfl ?_ | (refine gl_guard_yes rfl rfl rfl ?_; refine gl_f (s_move rfl) rfl rfl rfl ?_))
  (first | refine gl_guard_no rfl rfl rfl rfl rfl rfl rfl ?_ | refine gl_guard_un rfl rfl rfl rfl rfl rfl ?_ | (refine gl_guard_yes rfl rfl rfl ?_; refine gl_f (s_len_str rfl) rfl rfl rfl ?_))
  (first | refine gl_guard_no rfl rfl rfl rfl rfl rfl rfl ?_ | refine gl_guard_un rfl rfl rfl rfl rfl rfl ?_ | (refine gl_guard_yes rfl rfl rfl ?_; refine gl_f ((s_gtr rfl rfl).eq (congrArg Value.bool hq2.symm)) rfl rfl rfl ?_))
  refine gl_f (by first | exact s_pick_t rfl rfl | exact s_pick_f rfl rfl) rfl rfl rfl ?_
  refine gl_f (s_move rfl) rfl rfl rfl ?_
  (first | refine gl_guard_no rfl rfl rfl rfl rfl rfl rfl ?_ | refine gl_guard_un rfl rfl rfl rfl rfl rfl ?_ | (refine gl_guard_yes rfl rfl rfl ?_; refine gl_f (s_move rfl) rfl rfl rfl ?_))
  (first | refine gl_guard_no rfl rfl rfl rfl rfl rfl rfl ?_ | refine gl_guard_un rfl rfl rfl rfl rfl rfl ?_ | (refine gl_guard_yes rfl rfl rfl ?_; refine gl_f (s_move rfl) rfl rfl rfl ?_))
  (first | refine gl_guard_no rfl rfl rfl rfl rfl rfl rfl ?_ | refine gl_guard_un rfl rfl rfl rfl rfl rfl ?_ | (refine gl_guard_yes rfl rfl rfl ?_; refine gl_buildSliceU rfl rfl rfl rfl rfl rfl (xs := stV [body, other]) rfl rfl ?_; intro a30 ha30))
  (first | refine gl_guard_no rfl rfl rfl rfl rfl rfl rfl ?_ | refine gl_guard_un rfl rfl rfl rfl rfl rfl ?_ | (refine gl_guard_yes rfl rfl rfl ?_; refine gl_callp rfl (clash_ct [body, other] a30 2 (show (2 : Nat) ≤ 1000000000000 by omega) (fun s hs => by simp at hs; rcases hs with rfl | rfl <;> omega)) (fun h hh ⟨bs, hb⟩ => Sat.rd (a := a30) hb (by repeat first|exact .del|apply Upd.there)) rfl ?_; rw [← hq3]))
  refine gl_f (by first | exact s_pick_t rfl rfl | exact s_pick_f rfl rfl) rfl rfl rfl ?_
  refine gl_nil ?_
  repeat (first | refine g_seq ?_ | refine at_code ?_ | refine g_skip ?_ | refine g_block ?_ | refine g_exit rfl ?_ | refine g_cond_t rfl ?_ | refine g_cond_f rfl ?_)
  refine g_pull (H' := []) (fun w hw => hw.dropAll) ?_
  cases q3
  rotate_left
  · repeat (first | refine g_seq ?_ | refine at_code ?_ | refine g_skip ?_ | refine g_block ?_ | refine g_exit rfl ?_ | refine g_cond_t rfl ?_ | refine g_cond_f rfl ?_)
    refine g_region ?_
    refine gl_f (s_assign rfl) rfl rfl rfl ?_
    refine gl_nil ?_
    repeat (first | refine g_seq ?_ | refine at_code ?_ | refine g_skip ?_ | refine g_block ?_ | refine g_exit rfl ?_ | refine g_cond_t rfl ?_ | refine g_cond_f rfl ?_)
    refine g_ret ?_
    exact at_end1 rfl rfl [] ⟨rfl, rfl⟩ (fun _ h => h)
  have hnc := clash_false hq3.symm
  obtain ⟨own, hown⟩ : ∃ own, own = Dg.sha body := ⟨_, rfl⟩
  have hol : own.length = 32 := by rw [hown]; exact Dg.sha_length _
  obtain ⟨t1, t2⟩ := true_put body other hb ho
  have w0 : Wf (newD 65536) 0 := wf_new (by decide)
  have w1 := wf_turn w0 (c := tC body other) (.inr (.inl rfl))
  have o1 := on_turnD (on_new 65536) (tC body other)
  have hnl := bN_len body
  repeat (first | refine g_seq ?_ | refine at_code ?_ | refine g_skip ?_ | refine g_block ?_ | refine g_exit rfl ?_ | refine g_cond_t rfl ?_ | refine g_cond_f rfl ?_)
  refine g_region ?_
  refine gl_call _ rfl (New_ct 65536) (fun w hw => hw) (fun _ _ _ => trivial) rfl ?_; intro v A h; obtain ⟨a0, hp0, rfl, rfl, hok0⟩ := h.good rfl
  refine gl_f (s_move rfl) rfl rfl rfl ?_
  refine gl_f (s_extract rfl rfl) rfl rfl rfl ?_
  refine gl_f (s_extract rfl rfl) rfl rfl rfl ?_
  refine gl_f (s_assign rfl) rfl rfl rfl ?_
  refine gl_f (s_assign rfl) rfl rfl rfl ?_
  refine gl_nil ?_
  repeat (first | refine g_seq ?_ | refine at_code ?_ | refine g_skip ?_ | refine g_block ?_ | refine g_exit rfl ?_ | refine g_cond_t rfl ?_ | refine g_cond_f rfl ?_)
  repeat (first | refine g_seq ?_ | refine at_code ?_ | refine g_skip ?_ | refine g_block ?_ | refine g_exit rfl ?_ | refine g_cond_t rfl ?_ | refine g_cond_f rfl ?_)
  refine g_region ?_
  refine gl_f (s_move rfl) rfl rfl rfl ?_
  refine gl_call _ rfl (Open_ct a0) (fun w hw => hw) (fun _ _ _ => trivial) rfl ?_; rintro v A ⟨V, rfl, rfl⟩
  refine gl_f (s_assign rfl) rfl rfl rfl ?_
  refine gl_nil ?_
  repeat (first | refine g_seq ?_ | refine at_code ?_ | refine g_skip ?_ | refine g_block ?_ | refine g_exit rfl ?_ | refine g_cond_t rfl ?_ | refine g_cond_f rfl ?_)
  repeat (first | refine g_seq ?_ | refine at_code ?_ | refine g_skip ?_ | refine g_block ?_ | refine g_exit rfl ?_ | refine g_cond_t rfl ?_ | refine g_cond_f rfl ?_)
  refine g_region ?_
  refine gl_f (s_move rfl) rfl rfl rfl ?_
  refine gl_callp rfl (Dg.Sum_ct body (by omega)) (fun _ _ _ => trivial) rfl ?_; rw [← hown]
  refine gl_f (s_assign rfl) rfl rfl rfl ?_
  refine gl_nil ?_
  repeat (first | refine g_seq ?_ | refine at_code ?_ | refine g_skip ?_ | refine g_block ?_ | refine g_exit rfl ?_ | refine g_cond_t rfl ?_ | refine g_cond_f rfl ?_)
  have hhl := Dg.hexs_length own
  have e0 : (⟨2, 98 :: Dg.hexs own, other⟩ : Cl) = tC body other := by rw [hown]; rfl
  repeat (first | refine g_seq ?_ | refine at_code ?_ | refine g_skip ?_ | refine g_block ?_ | refine g_exit rfl ?_ | refine g_cond_t rfl ?_ | refine g_cond_f rfl ?_)
  refine g_region ?_
  refine gl_f (s_move rfl) rfl rfl rfl ?_
  refine gl_f (s_move rfl) rfl rfl rfl ?_
  refine gl_callp rfl (Dg.Hex_ct own (by omega)) (fun _ _ _ => trivial) rfl ?_
  refine gl_f (s_add_str rfl rfl (by (first | omega | (simp only [List.length_append, List.length_cons, List.length_nil, List.length_take, List.length_drop, List.length_map, List.length_replicate]; omega) | (simp only [List.length_append, List.length_cons, List.length_nil, List.length_take, List.length_drop, List.length_map, List.length_replicate] at *; omega)))) rfl rfl rfl ?_
  refine gl_f (s_move rfl) rfl rfl rfl ?_
  refine gl_call [.blk V (VO a0)] rfl (Ytolgclfbllcjhaa.Put_ct (newD 65536) a0 (98 :: Dg.hexs own) other w0.inv hok0 (by rw [hp0]; decide) (by rw [List.length_cons]; omega) (by omega)) (fun w hw => hw.perm (perm_up (by repeat first|exact .del|apply Upd.there) (perm_up (by repeat first|exact .del|apply Upd.there) (perm_up (by repeat first|exact .del|apply Upd.there) (perm_up (by repeat first|exact .del|apply Upd.there) (.refl _)))))) (fun _ _ _ => trivial) rfl ?_; rw [e0, t1]; rintro v A ⟨rfl, a1, Z1, d1, rfl, hok1, _⟩; refine gl_pull (H' := .blk V (VO a0) :: dskH (turnD (newD 65536) (tC body other)) a1) (fun w hw => Hp.left (A := .blk V (VO a0) :: dskH (turnD (newD 65536) (tC body other)) a1) (R := Z1) (hw.perm List.perm_append_comm)) ?_; have hV : VO a0 = VO a1 := by rw [VO, VO, d1]
  refine gl_f ((s_neq rfl rfl).eq (v' := .bool false) rfl) rfl rfl rfl ?_
  refine gl_nil ?_
  repeat (first | refine g_seq ?_ | refine at_code ?_ | refine g_skip ?_ | refine g_block ?_ | refine g_exit rfl ?_ | refine g_cond_t rfl ?_ | refine g_cond_f rfl ?_)
  rw [hV]
  have hpd : Ptr a0.D = Ptr a1.D := by rw [d1]
  generalize turnD (newD 65536) (tC body other) = x1 at *
  have hg1 : getL x1.seen (nmB own) = some other := get_of_mem w1.inv.seen (by rw [t2, hown]; exact List.mem_singleton.2 rfl)
  obtain ⟨ga, gb⟩ := get_ok o1 hol hg1
  obtain ⟨y1, y2⟩ := get_any x1 sum
  have hus : (usedL (withL x1.seen (bN body) body) : Int) ≤ 65536 := by
    have hw : withoutL [(bN body, other)] (bN body) = [] := by simp [withoutL]
    rw [used_with, t2, hw]
    show ((body.length + 0 : Nat) : Int) ≤ 65536
    omega
  obtain ⟨p1, p2, p3, p4, _⟩ := put_ok o1 w1.inv (b := body) (by omega) hus
  have w2 := wf_vp w1 body
  obtain ⟨g1, g2⟩ := (get_ok p3 hol (t := body) (by rw [hown]; exact p4)).1 hown.symm
  have hyl : (vgS x1 sum).length ≤ 1048576 := by
    unfold vgS
    split
    · exact read_len w1.inv _
    · exact Nat.zero_le _
  obtain ⟨ye, hye⟩ : ∃ ye, ye = vgE x1 sum := ⟨_, rfl⟩
  obtain ⟨ys, hys⟩ : ∃ ys, ys = vgS x1 sum := ⟨_, rfl⟩
  rw [← hye, ← hys] at y1 y2
  rw [← hys] at hyl
  obtain ⟨q4, hq4⟩ : ∃ q, q = decide (other = body) := ⟨_, rfl⟩
  cases q4
  case' true =>
    have hob : other = body := of_decide_eq_true hq4.symm
    obtain ⟨ga1, ga2⟩ := ga (by rw [hob, hown])
    repeat (first | refine g_seq ?_ | refine at_code ?_ | refine g_skip ?_ | refine g_block ?_ | refine g_exit rfl ?_ | refine g_cond_t rfl ?_ | refine g_cond_f rfl ?_)
    refine g_region ?_
    refine gl_f (s_move rfl) rfl rfl rfl ?_
    refine gl_f (s_move rfl) rfl rfl rfl ?_
    refine gl_callp rfl (Get_ct x1 a1 V own w1.inv hok1) (fun h hh ⟨bs, hb⟩ => ⟨⟨Sat.blk hb (by repeat first|exact .del|apply Upd.there), Sat.blk hb (by repeat first|exact .del|apply Upd.there)⟩, Sat.blk hb (by repeat first|exact .del|apply Upd.there)⟩) rfl ?_; rw [ga1, ga2]
    refine gl_f (s_move rfl) rfl rfl rfl ?_
    refine gl_f (s_extract rfl rfl) rfl rfl rfl ?_
    refine gl_f (s_extract rfl rfl) rfl rfl rfl ?_
    refine gl_f (s_assign rfl) rfl rfl rfl ?_
    refine gl_f (s_assign rfl) rfl rfl rfl ?_
    refine gl_nil ?_
    repeat (first | refine g_seq ?_ | refine at_code ?_ | refine g_skip ?_ | refine g_block ?_ | refine g_exit rfl ?_ | refine g_cond_t rfl ?_ | refine g_cond_f rfl ?_)
    repeat (first | refine g_seq ?_ | refine at_code ?_ | refine g_skip ?_ | refine g_block ?_ | refine g_exit rfl ?_ | refine g_cond_t rfl ?_ | refine g_cond_f rfl ?_)
    refine g_region ?_
    refine gl_f (s_move rfl) rfl rfl rfl ?_
    refine gl_f ((s_eql rfl rfl).eq (v' := .bool true) rfl) rfl rfl rfl ?_
    refine gl_f (s_move rfl) rfl rfl rfl ?_
    refine gl_f (s_move rfl) rfl rfl rfl ?_
    refine gl_f ((s_eql_str rfl rfl).eq (congrArg Value.bool hq4.symm)) rfl rfl rfl ?_
    refine gl_f ((s_neq_bool rfl rfl).eq (v' := .bool false) rfl) rfl rfl rfl ?_
    refine gl_f (s_move rfl) rfl rfl rfl ?_
    (first | refine gl_guard_no rfl rfl rfl rfl rfl rfl rfl ?_ | refine gl_guard_un rfl rfl rfl rfl rfl rfl ?_ | (refine gl_guard_yes rfl rfl rfl ?_; refine gl_f (s_move rfl) rfl rfl rfl ?_))
    (first | refine gl_guard_no rfl rfl rfl rfl rfl rfl rfl ?_ | refine gl_guard_un rfl rfl rfl rfl rfl rfl ?_ | (refine gl_guard_yes rfl rfl rfl ?_; refine gl_f ((s_eql rfl rfl).eq (v' := .bool true) rfl) rfl rfl rfl ?_))
    (first | refine gl_guard_no rfl rfl rfl rfl rfl rfl rfl ?_ | refine gl_guard_un rfl rfl rfl rfl rfl rfl ?_ | (refine gl_guard_yes rfl rfl rfl ?_; refine gl_f (s_move rfl) rfl rfl rfl ?_))
    (first | refine gl_guard_no rfl rfl rfl rfl rfl rfl rfl ?_ | refine gl_guard_un rfl rfl rfl rfl rfl rfl ?_ | (refine gl_guard_yes rfl rfl rfl ?_; refine gl_f (s_move rfl) rfl rfl rfl ?_))
    (first | refine gl_guard_no rfl rfl rfl rfl rfl rfl rfl ?_ | refine gl_guard_un rfl rfl rfl rfl rfl rfl ?_ | (refine gl_guard_yes rfl rfl rfl ?_; refine gl_f (s_move rfl) rfl rfl rfl ?_))
    (first | refine gl_guard_no rfl rfl rfl rfl rfl rfl rfl ?_ | refine gl_guard_un rfl rfl rfl rfl rfl rfl ?_ | (refine gl_guard_yes rfl rfl rfl ?_; refine gl_f ((s_neq_str rfl rfl).eq (v' := .bool false) (by rw [← hq4]; rfl)) rfl rfl rfl ?_))
    (first | refine gl_guard_no rfl rfl rfl rfl rfl rfl rfl ?_ | refine gl_guard_un rfl rfl rfl rfl rfl rfl ?_ | (refine gl_guard_yes rfl rfl rfl ?_; refine gl_f (by first | exact s_pick_t rfl rfl | exact s_pick_f rfl rfl) rfl rfl rfl ?_))
    refine gl_f (by first | exact s_pick_t rfl rfl | exact s_pick_f rfl rfl) rfl rfl rfl ?_
    refine gl_f (s_move rfl) rfl rfl rfl ?_
    (first | refine gl_guard_no rfl rfl rfl rfl rfl rfl rfl ?_ | refine gl_guard_un rfl rfl rfl rfl rfl rfl ?_ | (refine gl_guard_yes rfl rfl rfl ?_; refine gl_f (s_move rfl) rfl rfl rfl ?_))
    (first | refine gl_guard_no rfl rfl rfl rfl rfl rfl rfl ?_ | refine gl_guard_un rfl rfl rfl rfl rfl rfl ?_ | (refine gl_guard_yes rfl rfl rfl ?_; refine gl_f ((s_neq rfl rfl).eq (v' := .bool false) rfl) rfl rfl rfl ?_))
    (first | refine gl_guard_no rfl rfl rfl rfl rfl rfl rfl ?_ | refine gl_guard_un rfl rfl rfl rfl rfl rfl ?_ | (refine gl_guard_yes rfl rfl rfl ?_; refine gl_f (s_move rfl) rfl rfl rfl ?_))
    (first | refine gl_guard_no rfl rfl rfl rfl rfl rfl rfl ?_ | refine gl_guard_un rfl rfl rfl rfl rfl rfl ?_ | (refine gl_guard_yes rfl rfl rfl ?_; refine gl_f (s_move rfl) rfl rfl rfl ?_))
    (first | refine gl_guard_no rfl rfl rfl rfl rfl rfl rfl ?_ | refine gl_guard_un rfl rfl rfl rfl rfl rfl ?_ | (refine gl_guard_yes rfl rfl rfl ?_; refine gl_f (s_neq rfl rfl) rfl rfl rfl ?_))
    (first | refine gl_guard_no rfl rfl rfl rfl rfl rfl rfl ?_ | refine gl_guard_un rfl rfl rfl rfl rfl rfl ?_ | (refine gl_guard_yes rfl rfl rfl ?_; refine gl_f (s_move rfl) rfl rfl rfl ?_))
    (first | refine gl_guard_no rfl rfl rfl rfl rfl rfl rfl ?_ | refine gl_guard_un rfl rfl rfl rfl rfl rfl ?_ | (refine gl_guard_yes rfl rfl rfl ?_; refine gl_f (s_move rfl) rfl rfl rfl ?_))
    (first | refine gl_guard_no rfl rfl rfl rfl rfl rfl rfl ?_ | refine gl_guard_un rfl rfl rfl rfl rfl rfl ?_ | (refine gl_guard_yes rfl rfl rfl ?_; refine gl_f (s_neq_str rfl rfl) rfl rfl rfl ?_))
    (first | refine gl_guard_no rfl rfl rfl rfl rfl rfl rfl ?_ | refine gl_guard_un rfl rfl rfl rfl rfl rfl ?_ | (refine gl_guard_yes rfl rfl rfl ?_; refine gl_f (by first | exact s_pick_t rfl rfl | exact s_pick_f rfl rfl) rfl rfl rfl ?_))
    (first | refine gl_guard_no rfl rfl rfl rfl rfl rfl rfl ?_ | refine gl_guard_un rfl rfl rfl rfl rfl rfl ?_ | (refine gl_guard_yes rfl rfl rfl ?_; refine gl_f (by first | exact s_pick_t rfl rfl | exact s_pick_f rfl rfl) rfl rfl rfl ?_))
    refine gl_f (by first | exact s_pick_t rfl rfl | exact s_pick_f rfl rfl) rfl rfl rfl ?_
    refine gl_nil ?_
    repeat (first | refine g_seq ?_ | refine at_code ?_ | refine g_skip ?_ | refine g_block ?_ | refine g_exit rfl ?_ | refine g_cond_t rfl ?_ | refine g_cond_f rfl ?_)
  case' false =>
    have hob : other ≠ body := of_decide_eq_false hq4.symm
    obtain ⟨ga1, ga2⟩ := gb (fun h => hnc ⟨1, (show (1 : Nat) < 2 by omega), 0, (show (0 : Nat) < 1 by omega), hob, (show Dg.sha other = Dg.sha body by rw [h, hown])⟩)
    repeat (first | refine g_seq ?_ | refine at_code ?_ | refine g_skip ?_ | refine g_block ?_ | refine g_exit rfl ?_ | refine g_cond_t rfl ?_ | refine g_cond_f rfl ?_)
    refine g_region ?_
    refine gl_f (s_move rfl) rfl rfl rfl ?_
    refine gl_f (s_move rfl) rfl rfl rfl ?_
    refine gl_callp rfl (Get_ct x1 a1 V own w1.inv hok1) (fun h hh ⟨bs, hb⟩ => ⟨⟨Sat.blk hb (by repeat first|exact .del|apply Upd.there), Sat.blk hb (by repeat first|exact .del|apply Upd.there)⟩, Sat.blk hb (by repeat first|exact .del|apply Upd.there)⟩) rfl ?_; rw [ga1, ga2]
    refine gl_f (s_move rfl) rfl rfl rfl ?_
    refine gl_f (s_extract rfl rfl) rfl rfl rfl ?_
    refine gl_f (s_extract rfl rfl) rfl rfl rfl ?_
    refine gl_f (s_assign rfl) rfl rfl rfl ?_
    refine gl_f (s_assign rfl) rfl rfl rfl ?_
    refine gl_nil ?_
    repeat (first | refine g_seq ?_ | refine at_code ?_ | refine g_skip ?_ | refine g_block ?_ | refine g_exit rfl ?_ | refine g_cond_t rfl ?_ | refine g_cond_f rfl ?_)
    repeat (first | refine g_seq ?_ | refine at_code ?_ | refine g_skip ?_ | refine g_block ?_ | refine g_exit rfl ?_ | refine g_cond_t rfl ?_ | refine g_cond_f rfl ?_)
    refine g_region ?_
    refine gl_f (s_move rfl) rfl rfl rfl ?_
    refine gl_f ((s_eql rfl rfl).eq (v' := .bool false) rfl) rfl rfl rfl ?_
    refine gl_f (s_move rfl) rfl rfl rfl ?_
    refine gl_f (s_move rfl) rfl rfl rfl ?_
    refine gl_f ((s_eql_str rfl rfl).eq (congrArg Value.bool hq4.symm)) rfl rfl rfl ?_
    refine gl_f ((s_neq_bool rfl rfl).eq (v' := .bool false) rfl) rfl rfl rfl ?_
    refine gl_f (s_move rfl) rfl rfl rfl ?_
    (first | refine gl_guard_no rfl rfl rfl rfl rfl rfl rfl ?_ | refine gl_guard_un rfl rfl rfl rfl rfl rfl ?_ | (refine gl_guard_yes rfl rfl rfl ?_; refine gl_f (s_move rfl) rfl rfl rfl ?_))
    (first | refine gl_guard_no rfl rfl rfl rfl rfl rfl rfl ?_ | refine gl_guard_un rfl rfl rfl rfl rfl rfl ?_ | (refine gl_guard_yes rfl rfl rfl ?_; refine gl_f ((s_eql rfl rfl).eq (v' := .bool false) rfl) rfl rfl rfl ?_))
    (first | refine gl_guard_no rfl rfl rfl rfl rfl rfl rfl ?_ | refine gl_guard_un rfl rfl rfl rfl rfl rfl ?_ | (refine gl_guard_yes rfl rfl rfl ?_; refine gl_f (s_move rfl) rfl rfl rfl ?_))
    (first | refine gl_guard_no rfl rfl rfl rfl rfl rfl rfl ?_ | refine gl_guard_un rfl rfl rfl rfl rfl rfl ?_ | (refine gl_guard_yes rfl rfl rfl ?_; refine gl_f (s_move rfl) rfl rfl rfl ?_))
    (first | refine gl_guard_no rfl rfl rfl rfl rfl rfl rfl ?_ | refine gl_guard_un rfl rfl rfl rfl rfl rfl ?_ | (refine gl_guard_yes rfl rfl rfl ?_; refine gl_f (s_move rfl) rfl rfl rfl ?_))
    (first | refine gl_guard_no rfl rfl rfl rfl rfl rfl rfl ?_ | refine gl_guard_un rfl rfl rfl rfl rfl rfl ?_ | (refine gl_guard_yes rfl rfl rfl ?_; refine gl_f (s_neq_str rfl rfl) rfl rfl rfl ?_))
    (first | refine gl_guard_no rfl rfl rfl rfl rfl rfl rfl ?_ | refine gl_guard_un rfl rfl rfl rfl rfl rfl ?_ | (refine gl_guard_yes rfl rfl rfl ?_; refine gl_f (by first | exact s_pick_t rfl rfl | exact s_pick_f rfl rfl) rfl rfl rfl ?_))
    refine gl_f (by first | exact s_pick_t rfl rfl | exact s_pick_f rfl rfl) rfl rfl rfl ?_
    refine gl_f (s_move rfl) rfl rfl rfl ?_
    (first | refine gl_guard_no rfl rfl rfl rfl rfl rfl rfl ?_ | refine gl_guard_un rfl rfl rfl rfl rfl rfl ?_ | (refine gl_guard_yes rfl rfl rfl ?_; refine gl_f (s_move rfl) rfl rfl rfl ?_))
    (first | refine gl_guard_no rfl rfl rfl rfl rfl rfl rfl ?_ | refine gl_guard_un rfl rfl rfl rfl rfl rfl ?_ | (refine gl_guard_yes rfl rfl rfl ?_; refine gl_f ((s_neq rfl rfl).eq (v' := .bool true) rfl) rfl rfl rfl ?_))
    (first | refine gl_guard_no rfl rfl rfl rfl rfl rfl rfl ?_ | refine gl_guard_un rfl rfl rfl rfl rfl rfl ?_ | (refine gl_guard_yes rfl rfl rfl ?_; refine gl_f (s_move rfl) rfl rfl rfl ?_))
    (first | refine gl_guard_no rfl rfl rfl rfl rfl rfl rfl ?_ | refine gl_guard_un rfl rfl rfl rfl rfl rfl ?_ | (refine gl_guard_yes rfl rfl rfl ?_; refine gl_f (s_move rfl) rfl rfl rfl ?_))
    (first | refine gl_guard_no rfl rfl rfl rfl rfl rfl rfl ?_ | refine gl_guard_un rfl rfl rfl rfl rfl rfl ?_ | (refine gl_guard_yes rfl rfl rfl ?_; refine gl_f ((s_neq rfl rfl).eq (v' := .bool false) rfl) rfl rfl rfl ?_))
    (first | refine gl_guard_no rfl rfl rfl rfl rfl rfl rfl ?_ | refine gl_guard_un rfl rfl rfl rfl rfl rfl ?_ | (refine gl_guard_yes rfl rfl rfl ?_; refine gl_f (s_move rfl) rfl rfl rfl ?_))
    (first | refine gl_guard_no rfl rfl rfl rfl rfl rfl rfl ?_ | refine gl_guard_un rfl rfl rfl rfl rfl rfl ?_ | (refine gl_guard_yes rfl rfl rfl ?_; refine gl_f (s_move rfl) rfl rfl rfl ?_))
    (first | refine gl_guard_no rfl rfl rfl rfl rfl rfl rfl ?_ | refine gl_guard_un rfl rfl rfl rfl rfl rfl ?_ | (refine gl_guard_yes rfl rfl rfl ?_; refine gl_f ((s_neq_str rfl rfl).eq (v' := .bool false) rfl) rfl rfl rfl ?_))
    (first | refine gl_guard_no rfl rfl rfl rfl rfl rfl rfl ?_ | refine gl_guard_un rfl rfl rfl rfl rfl rfl ?_ | (refine gl_guard_yes rfl rfl rfl ?_; refine gl_f (by first | exact s_pick_t rfl rfl | exact s_pick_f rfl rfl) rfl rfl rfl ?_))
    (first | refine gl_guard_no rfl rfl rfl rfl rfl rfl rfl ?_ | refine gl_guard_un rfl rfl rfl rfl rfl rfl ?_ | (refine gl_guard_yes rfl rfl rfl ?_; refine gl_f (by first | exact s_pick_t rfl rfl | exact s_pick_f rfl rfl) rfl rfl rfl ?_))
    refine gl_f (by first | exact s_pick_t rfl rfl | exact s_pick_f rfl rfl) rfl rfl rfl ?_
    refine gl_nil ?_
    repeat (first | refine g_seq ?_ | refine at_code ?_ | refine g_skip ?_ | refine g_block ?_ | refine g_exit rfl ?_ | refine g_cond_t rfl ?_ | refine g_cond_f rfl ?_)
  all_goals
    repeat (first | refine g_seq ?_ | refine at_code ?_ | refine g_skip ?_ | refine g_block ?_ | refine g_exit rfl ?_ | refine g_cond_t rfl ?_ | refine g_cond_f rfl ?_)
    refine g_region ?_
    refine gl_f (s_move rfl) rfl rfl rfl ?_
    refine gl_f (s_move rfl) rfl rfl rfl ?_
    refine gl_callp rfl (Get_ct x1 a1 V sum w1.inv hok1) (fun h hh ⟨bs, hb⟩ => ⟨⟨Sat.blk hb (by repeat first|exact .del|apply Upd.there), Sat.blk hb (by repeat first|exact .del|apply Upd.there)⟩, Sat.blk hb (by repeat first|exact .del|apply Upd.there)⟩) rfl ?_; rw [← hye, ← hys]
    refine gl_f (s_move rfl) rfl rfl rfl ?_
    refine gl_f (s_extract rfl rfl) rfl rfl rfl ?_
    refine gl_f (s_extract rfl rfl) rfl rfl rfl ?_
    refine gl_f (s_assign rfl) rfl rfl rfl ?_
    refine gl_f (s_assign rfl) rfl rfl rfl ?_
    refine gl_nil ?_
    repeat (first | refine g_seq ?_ | refine at_code ?_ | refine g_skip ?_ | refine g_block ?_ | refine g_exit rfl ?_ | refine g_cond_t rfl ?_ | refine g_cond_f rfl ?_)
    by_cases hy0 : ye = 0
    case' pos =>
      have hy1 := y1 hy0
      repeat (first | refine g_seq ?_ | refine at_code ?_ | refine g_skip ?_ | refine g_block ?_ | refine g_exit rfl ?_ | refine g_cond_t rfl ?_ | refine g_cond_f rfl ?_)
      refine g_region ?_
      refine gl_f (s_move rfl) rfl rfl rfl ?_
      refine gl_f ((s_eql rfl rfl).eq (v' := .bool true) (by simp [hy0])) rfl rfl rfl ?_
      refine gl_f (s_move rfl) rfl rfl rfl ?_
      (first | refine gl_guard_no rfl rfl rfl rfl rfl rfl rfl ?_ | refine gl_guard_un rfl rfl rfl rfl rfl rfl ?_ | (refine gl_guard_yes rfl rfl rfl ?_; refine gl_f (s_move rfl) rfl rfl rfl ?_))
      (first | refine gl_guard_no rfl rfl rfl rfl rfl rfl rfl ?_ | refine gl_guard_un rfl rfl rfl rfl rfl rfl ?_ | (refine gl_guard_yes rfl rfl rfl ?_; refine gl_callp rfl (Dg.Sum_ct ys (by omega)) (fun _ _ _ => trivial) rfl ?_; rw [hy1]))
      (first | refine gl_guard_no rfl rfl rfl rfl rfl rfl rfl ?_ | refine gl_guard_un rfl rfl rfl rfl rfl rfl ?_ | (refine gl_guard_yes rfl rfl rfl ?_; refine gl_f (s_move rfl) rfl rfl rfl ?_))
      (first | refine gl_guard_no rfl rfl rfl rfl rfl rfl rfl ?_ | refine gl_guard_un rfl rfl rfl rfl rfl rfl ?_ | (refine gl_guard_yes rfl rfl rfl ?_; refine gl_f ((s_neq_str rfl rfl).eq (v' := .bool false) (by simp)) rfl rfl rfl ?_))
      refine gl_f (by first | exact s_pick_t rfl rfl | exact s_pick_f rfl rfl) rfl rfl rfl ?_
      refine gl_f (s_move rfl) rfl rfl rfl ?_
      (first | refine gl_guard_no rfl rfl rfl rfl rfl rfl rfl ?_ | refine gl_guard_un rfl rfl rfl rfl rfl rfl ?_ | (refine gl_guard_yes rfl rfl rfl ?_; refine gl_f (s_move rfl) rfl rfl rfl ?_))
      (first | refine gl_guard_no rfl rfl rfl rfl rfl rfl rfl ?_ | refine gl_guard_un rfl rfl rfl rfl rfl rfl ?_ | (refine gl_guard_yes rfl rfl rfl ?_; refine gl_f ((s_neq rfl rfl).eq (v' := .bool false) (by simp [hy0])) rfl rfl rfl ?_))
      (first | refine gl_guard_no rfl rfl rfl rfl rfl rfl rfl ?_ | refine gl_guard_un rfl rfl rfl rfl rfl rfl ?_ | (refine gl_guard_yes rfl rfl rfl ?_; refine gl_f (s_move rfl) rfl rfl rfl ?_))
      (first | refine gl_guard_no rfl rfl rfl rfl rfl rfl rfl ?_ | refine gl_guard_un rfl rfl rfl rfl rfl rfl ?_ | (refine gl_guard_yes rfl rfl rfl ?_; refine gl_f (s_move rfl) rfl rfl rfl ?_))
      (first | refine gl_guard_no rfl rfl rfl rfl rfl rfl rfl ?_ | refine gl_guard_un rfl rfl rfl rfl rfl rfl ?_ | (refine gl_guard_yes rfl rfl rfl ?_; refine gl_f (s_neq_str rfl rfl) rfl rfl rfl ?_))
      (first | refine gl_guard_no rfl rfl rfl rfl rfl rfl rfl ?_ | refine gl_guard_un rfl rfl rfl rfl rfl rfl ?_ | (refine gl_guard_yes rfl rfl rfl ?_; refine gl_f (by first | exact s_pick_t rfl rfl | exact s_pick_f rfl rfl) rfl rfl rfl ?_))
      refine gl_f (by first | exact s_pick_t rfl rfl | exact s_pick_f rfl rfl) rfl rfl rfl ?_
      refine gl_nil ?_
      repeat (first | refine g_seq ?_ | refine at_code ?_ | refine g_skip ?_ | refine g_block ?_ | refine g_exit rfl ?_ | refine g_cond_t rfl ?_ | refine g_cond_f rfl ?_)
    case' neg =>
      have hy1 := y2 hy0
      repeat (first | refine g_seq ?_ | refine at_code ?_ | refine g_skip ?_ | refine g_block ?_ | refine g_exit rfl ?_ | refine g_cond_t rfl ?_ | refine g_cond_f rfl ?_)
      refine g_region ?_
      refine gl_f (s_move rfl) rfl rfl rfl ?_
      refine gl_f ((s_eql rfl rfl).eq (v' := .bool false) (by simp [hy0])) rfl rfl rfl ?_
      refine gl_f (s_move rfl) rfl rfl rfl ?_
      (first | refine gl_guard_no rfl rfl rfl rfl rfl rfl rfl ?_ | refine gl_guard_un rfl rfl rfl rfl rfl rfl ?_ | (refine gl_guard_yes rfl rfl rfl ?_; refine gl_f (s_move rfl) rfl rfl rfl ?_))
      (first | refine gl_guard_no rfl rfl rfl rfl rfl rfl rfl ?_ | refine gl_guard_un rfl rfl rfl rfl rfl rfl ?_ | (refine gl_guard_yes rfl rfl rfl ?_; fail))
      (first | refine gl_guard_no rfl rfl rfl rfl rfl rfl rfl ?_ | refine gl_guard_un rfl rfl rfl rfl rfl rfl ?_ | (refine gl_guard_yes rfl rfl rfl ?_; refine gl_f (s_move rfl) rfl rfl rfl ?_))
      (first | refine gl_guard_no rfl rfl rfl rfl rfl rfl rfl ?_ | refine gl_guard_un rfl rfl rfl rfl rfl rfl ?_ | (refine gl_guard_yes rfl rfl rfl ?_; refine gl_f (s_neq_str rfl rfl) rfl rfl rfl ?_))
      refine gl_f (by first | exact s_pick_t rfl rfl | exact s_pick_f rfl rfl) rfl rfl rfl ?_
      refine gl_f (s_move rfl) rfl rfl rfl ?_
      (first | refine gl_guard_no rfl rfl rfl rfl rfl rfl rfl ?_ | refine gl_guard_un rfl rfl rfl rfl rfl rfl ?_ | (refine gl_guard_yes rfl rfl rfl ?_; refine gl_f (s_move rfl) rfl rfl rfl ?_))
      (first | refine gl_guard_no rfl rfl rfl rfl rfl rfl rfl ?_ | refine gl_guard_un rfl rfl rfl rfl rfl rfl ?_ | (refine gl_guard_yes rfl rfl rfl ?_; refine gl_f ((s_neq rfl rfl).eq (v' := .bool true) (by simp [hy0])) rfl rfl rfl ?_))
      (first | refine gl_guard_no rfl rfl rfl rfl rfl rfl rfl ?_ | refine gl_guard_un rfl rfl rfl rfl rfl rfl ?_ | (refine gl_guard_yes rfl rfl rfl ?_; refine gl_f (s_move rfl) rfl rfl rfl ?_))
      (first | refine gl_guard_no rfl rfl rfl rfl rfl rfl rfl ?_ | refine gl_guard_un rfl rfl rfl rfl rfl rfl ?_ | (refine gl_guard_yes rfl rfl rfl ?_; refine gl_f (s_move rfl) rfl rfl rfl ?_))
      (first | refine gl_guard_no rfl rfl rfl rfl rfl rfl rfl ?_ | refine gl_guard_un rfl rfl rfl rfl rfl rfl ?_ | (refine gl_guard_yes rfl rfl rfl ?_; refine gl_f ((s_neq_str (l' := []) rfl rfl).eq (v' := .bool false) (by rw [hy1]; rfl)) rfl rfl rfl ?_))
      (first | refine gl_guard_no rfl rfl rfl rfl rfl rfl rfl ?_ | refine gl_guard_un rfl rfl rfl rfl rfl rfl ?_ | (refine gl_guard_yes rfl rfl rfl ?_; refine gl_f (by first | exact s_pick_t rfl rfl | exact s_pick_f rfl rfl) rfl rfl rfl ?_))
      refine gl_f (by first | exact s_pick_t rfl rfl | exact s_pick_f rfl rfl) rfl rfl rfl ?_
      refine gl_nil ?_
      repeat (first | refine g_seq ?_ | refine at_code ?_ | refine g_skip ?_ | refine g_block ?_ | refine g_exit rfl ?_ | refine g_cond_t rfl ?_ | refine g_cond_f rfl ?_)
    all_goals
      repeat (first | refine g_seq ?_ | refine at_code ?_ | refine g_skip ?_ | refine g_block ?_ | refine g_exit rfl ?_ | refine g_cond_t rfl ?_ | refine g_cond_f rfl ?_)
      refine g_region ?_
      refine gl_f (s_move rfl) rfl rfl rfl ?_
      refine gl_f (s_move rfl) rfl rfl rfl ?_
      refine gl_call [.blk V (VO a1)] rfl (Put_ct x1 a1 V body 1 w1 (by omega) hok1 (by omega)) (fun w hw => hw.perm (perm_up (by repeat first|exact .del|apply Upd.there) (perm_up (by repeat first|exact .del|apply Upd.there) (perm_up (by repeat first|exact .del|apply Upd.there) (perm_up (by repeat first|exact .del|apply Upd.there) (.refl _)))))) (fun h hh ⟨bs, hb⟩ => Sat.blk hb (by repeat first|exact .del|apply Upd.there)) rfl ?_; rw [p1, p2, ← hown]; rintro v A ⟨rfl, a2, Z2, d2, rfl, hok2, _⟩; refine gl_pull (H' := .blk V (VO a1) :: dskH (vpD x1 body) a2) (fun w hw => Hp.left (A := .blk V (VO a1) :: dskH (vpD x1 body) a2) (R := Z2) (hw.perm List.perm_append_comm)) ?_; have hV2 : VO a1 = VO a2 := by rw [VO, VO, d2]
      refine gl_f (s_move rfl) rfl rfl rfl ?_
      refine gl_f (s_extract rfl rfl) rfl rfl rfl ?_
      refine gl_f (s_extract rfl rfl) rfl rfl rfl ?_
      refine gl_f (s_assign rfl) rfl rfl rfl ?_
      refine gl_f (s_assign rfl) rfl rfl rfl ?_
      refine gl_nil ?_
      repeat (first | refine g_seq ?_ | refine at_code ?_ | refine g_skip ?_ | refine g_block ?_ | refine g_exit rfl ?_ | refine g_cond_t rfl ?_ | refine g_cond_f rfl ?_)
      rw [hV2]
      repeat (first | refine g_seq ?_ | refine at_code ?_ | refine g_skip ?_ | refine g_block ?_ | refine g_exit rfl ?_ | refine g_cond_t rfl ?_ | refine g_cond_f rfl ?_)
      refine g_region ?_
      refine gl_f (s_move rfl) rfl rfl rfl ?_
      refine gl_f (s_move rfl) rfl rfl rfl ?_
      refine gl_callp rfl (Get_ct (vpD x1 body) a2 V own w2.inv hok2) (fun h hh ⟨bs, hb⟩ => ⟨⟨Sat.blk hb (by repeat first|exact .del|apply Upd.there), Sat.blk hb (by repeat first|exact .del|apply Upd.there)⟩, Sat.blk hb (by repeat first|exact .del|apply Upd.there)⟩) rfl ?_; rw [g1, g2]
      refine gl_f (s_move rfl) rfl rfl rfl ?_
      refine gl_f (s_extract rfl rfl) rfl rfl rfl ?_
      refine gl_f (s_extract rfl rfl) rfl rfl rfl ?_
      refine gl_f (s_assign rfl) rfl rfl rfl ?_
      refine gl_f (s_assign rfl) rfl rfl rfl ?_
      refine gl_nil ?_
      repeat (first | refine g_seq ?_ | refine at_code ?_ | refine g_skip ?_ | refine g_block ?_ | refine g_exit rfl ?_ | refine g_cond_t rfl ?_ | refine g_cond_f rfl ?_)
      repeat (first | refine g_seq ?_ | refine at_code ?_ | refine g_skip ?_ | refine g_block ?_ | refine g_exit rfl ?_ | refine g_cond_t rfl ?_ | refine g_cond_f rfl ?_)
      refine g_region ?_
      refine gl_f (s_move rfl) rfl rfl rfl ?_
      refine gl_f (s_move rfl) rfl rfl rfl ?_
      refine gl_f ((s_eql_str rfl rfl).eq (v' := .bool true) (by simp)) rfl rfl rfl ?_
      refine gl_f (s_move rfl) rfl rfl rfl ?_
      (first | refine gl_guard_no rfl rfl rfl rfl rfl rfl rfl ?_ | refine gl_guard_un rfl rfl rfl rfl rfl rfl ?_ | (refine gl_guard_yes rfl rfl rfl ?_; refine gl_f (s_move rfl) rfl rfl rfl ?_))
      (first | refine gl_guard_no rfl rfl rfl rfl rfl rfl rfl ?_ | refine gl_guard_un rfl rfl rfl rfl rfl rfl ?_ | (refine gl_guard_yes rfl rfl rfl ?_; refine gl_f ((s_eql rfl rfl).eq (v' := .bool true) rfl) rfl rfl rfl ?_))
      refine gl_f (by first | exact s_pick_t rfl rfl | exact s_pick_f rfl rfl) rfl rfl rfl ?_
      refine gl_f (s_move rfl) rfl rfl rfl ?_
      (first | refine gl_guard_no rfl rfl rfl rfl rfl rfl rfl ?_ | refine gl_guard_un rfl rfl rfl rfl rfl rfl ?_ | (refine gl_guard_yes rfl rfl rfl ?_; refine gl_f (s_move rfl) rfl rfl rfl ?_))
      (first | refine gl_guard_no rfl rfl rfl rfl rfl rfl rfl ?_ | refine gl_guard_un rfl rfl rfl rfl rfl rfl ?_ | (refine gl_guard_yes rfl rfl rfl ?_; refine gl_f (s_move rfl) rfl rfl rfl ?_))
      (first | refine gl_guard_no rfl rfl rfl rfl rfl rfl rfl ?_ | refine gl_guard_un rfl rfl rfl rfl rfl rfl ?_ | (refine gl_guard_yes rfl rfl rfl ?_; refine gl_f ((s_eql_str rfl rfl).eq (v' := .bool true) (by simp)) rfl rfl rfl ?_))
      refine gl_f (by first | exact s_pick_t rfl rfl | exact s_pick_f rfl rfl) rfl rfl rfl ?_
      refine gl_f (s_move rfl) rfl rfl rfl ?_
      (first | refine gl_guard_no rfl rfl rfl rfl rfl rfl rfl ?_ | refine gl_guard_un rfl rfl rfl rfl rfl rfl ?_ | (refine gl_guard_yes rfl rfl rfl ?_; refine gl_f (s_move rfl) rfl rfl rfl ?_))
      (first | refine gl_guard_no rfl rfl rfl rfl rfl rfl rfl ?_ | refine gl_guard_un rfl rfl rfl rfl rfl rfl ?_ | (refine gl_guard_yes rfl rfl rfl ?_; refine gl_f ((s_eql rfl rfl).eq (v' := .bool true) rfl) rfl rfl rfl ?_))
      refine gl_f (by first | exact s_pick_t rfl rfl | exact s_pick_f rfl rfl) rfl rfl rfl ?_
      refine gl_f (s_assign rfl) rfl rfl rfl ?_
      refine gl_nil ?_
      repeat (first | refine g_seq ?_ | refine at_code ?_ | refine g_skip ?_ | refine g_block ?_ | refine g_exit rfl ?_ | refine g_cond_t rfl ?_ | refine g_cond_f rfl ?_)
      refine g_ret ?_
      exact at_end1 rfl rfl [] ⟨rfl, rfl⟩ (fun _ h => h.dropAll)
end Go.Proofs.Ytolgclfbllcjhaa.Vt
