import Derived.Test.YtgllpcggdcknaaaGreatDoorCx14
set_option linter.unusedVariables false
set_option linter.unusedSimpArgs false
namespace Go.Proofs.YtgllpcggdcknaaaGreatDoor.Rp
open Go Go.Sl Go.RowKit
def ReadW (o : Option (RR × Nat)) (v : Value) (A : List As) : Prop := ∃ x : RL, (o.getD (R0, 0)).1.values = x.vs.map VM.v ∧ v = .tuple #[rrA (o.getD (R0, 0)).1 x, .int .i64 ((o.getD (R0, 0)).2 : Nat), .int .i64 (if o.isSome = true then 0 else 4)] ∧ A = rrH (o.getD (R0, 0)).1 x
theorem perm_r3 {α : Type} (a b c : α) (Z : List α) : List.Perm (a :: b :: c :: Z) (c :: a :: b :: Z) := (List.Perm.cons a (.swap _ _ _)).trans (.swap _ _ _)
set_option maxRecDepth 8000 in
theorem Read_ct (s : Bs) (hs : s.length < 4294967281) : Ct Tryz.prog 12 [B s] Gl [] (ReadW (readS s)) := by
 refine ct_enter 85 Tryz.func12 rfl rfl rfl ?_
 intro F hg
 repeat refine x_ ?_
 refine gl_allocA rfl ?_; intro g2
 refine a_ ?_
 refine a_ ?_
 repeat refine x_ ?_
 refine m_ ?_
 refine f_ ((s_build (v := .agg #[B s, .int .i64 0, .bool true]) rfl (fun w => run_build w _ _ _ z_6))) ?_
 refine gl_boxA rfl rfl ?_; intro g10
 refine a_ ?_
 repeat refine x_ ?_
 refine gl_allocA rfl ?_; intro g6
 repeat refine n_ ?_
 obtain ⟨q1, p1, o1, e1, h1a, h1b, h1o, h1t, h1f, c1⟩ := eat_ex g10 s (caps ++ crlf) 0 true hs (by omega) (by decide)
 repeat refine x_ ?_
 refine m_ ?_
 refine gl_call [blkR g6 R0 L0, blkR g2 R0 L0] rfl c1 (fun w hw => hw.perm (.swap _ _ _)) (fun _ _ _ => trivial) rfl ?_; rintro v A ⟨rfl, rfl⟩
 refine a_ ?_
 repeat refine n_ ?_
 refine g_cond rfl (fun h => ?_) (fun h => ?_)
 ·have e : readS s = some (⟨6, [], [], [], 0, [], 0, [], [], []⟩, p1) := by
   unfold readS
   simp only
   rw [e1, if_pos h]
  rw [e]
  repeat refine y_ ?_
  refine g_draw ([4], [0, 0, 2, 6, 14, 1, 63, 127], [5]) [rdp g10 s p1 o1] 8 rfl ?_
  refine w_ 0 rfl (s_bld rfl rfl) ?_
  refine w_ 1 rfl (s_move rfl) ?_
  refine w_ 2 rfl (s_nilCheck rfl) ?_
  refine w_ 3 rfl z_1 ?_
  (refine ga_read_k 4 rfl (by exact .head _) (s_load_blk rfl .del a3_1) k_ rfl rfl rfl z_6 ?_)
  refine ga_one 5 rfl z_6 ?_
  (refine gl_store_blkW rfl rfl z_5 z_8 z_8 z_2 ?_)
  refine gl_nil ?_
  refine at_ga (.inr (by exact keeps_of k_)) ?_
  refine w_ 6 rfl (s_assign rfl) ?_
  refine w_ 7 rfl (s_assign rfl) ?_
  refine ga_done z_6 ?_
  repeat refine y_ ?_
  refine g_ret ?_
  exact at_endB2 rfl rfl rfl rfl z_3 rfl _ ⟨L0, rfl, rfl, rfl⟩ (fun w hw => ((hw.dropAll.addNil 46 6).addNil 9 1).addNil 22 1)
 have z1 : q1 = false := h
 obtain rfl : p1 = 0 := h1f z1
 obtain rfl : o1 = true := h1o
 obtain ⟨q2, p2, o2, e2, h2a, h2b, h2o, h2t, h2f, c2⟩ := eat_ex g10 s (enab ++ crlf) 0 true hs (by omega) (by decide)
 repeat refine x_ ?_
 refine m_ ?_
 refine gl_call _ rfl c2 i_ (fun _ _ _ => trivial) rfl ?_; rintro v A ⟨rfl, rfl⟩
 refine a_ ?_
 repeat refine n_ ?_
 refine g_cond rfl (fun h => ?_) (fun h => ?_)
 ·have e : readS s = some (⟨7, [], [], [], 0, [], 0, [], [], []⟩, p2) := by
   unfold readS
   simp only
   rw [e1, if_neg (by rw [z1]; simp), e2, if_pos h]
  rw [e]
  repeat refine y_ ?_
  refine g_draw ([4], [0, 0, 2, 6, 14, 1, 63, 127], [5]) [rdp g10 s p2 o2] 8 rfl ?_
  refine w_ 0 rfl (s_bld rfl rfl) ?_
  refine w_ 1 rfl (s_move rfl) ?_
  refine w_ 2 rfl (s_nilCheck rfl) ?_
  refine w_ 3 rfl z_1 ?_
  (refine ga_read_k 4 rfl (by exact .head _) (s_load_blk rfl .del a3_1) k_ rfl rfl rfl z_6 ?_)
  refine ga_one 5 rfl z_6 ?_
  (refine gl_store_blkW rfl rfl z_5 z_8 z_8 z_2 ?_)
  refine gl_nil ?_
  refine at_ga (.inr (by exact keeps_of k_)) ?_
  refine w_ 6 rfl (s_assign rfl) ?_
  refine w_ 7 rfl (s_assign rfl) ?_
  refine ga_done z_6 ?_
  repeat refine y_ ?_
  refine g_ret ?_
  exact at_endB2 rfl rfl rfl rfl z_3 rfl _ ⟨L0, rfl, rfl, rfl⟩ (fun w hw => ((hw.dropAll.addNil 46 6).addNil 9 1).addNil 22 1)
 have z2 : q2 = false := h
 obtain rfl : p2 = 0 := h2f z2
 obtain rfl : o2 = true := h2o
 obtain ⟨q3, p3, o3, e3, h3a, h3b, h3o, h3t, h3f, c3⟩ := eat_ex g10 s [43, 32] 0 true hs (by omega) (by decide)
 repeat refine x_ ?_
 refine m_ ?_
 refine gl_call _ rfl c3 i_ (fun _ _ _ => trivial) rfl ?_; rintro v A ⟨rfl, rfl⟩
 refine a_ ?_
 repeat refine n_ ?_
 refine g_cond rfl (fun h => ?_) (fun h => ?_)
 ·obtain ⟨t, p4, o4, e4, h4p, h4b, h4o, c4⟩ := until_ex g10 s [13] p3 o3 hs h3b (by decide)
  have hr : restS s ⟨0, true⟩ = (⟨5, [], [], t, 0, [], 0, [], [], []⟩, ⟨p4, plainS t⟩) := by
   unfold restS
   rw [e3, if_pos h]
   simp only
   rw [e4]
  repeat refine x_ ?_
  refine m_ ?_
  refine gl_call _ rfl c4 i_ (fun _ _ _ => trivial) rfl ?_; rintro v A ⟨rfl, rfl⟩
  refine f_ (s_bld rfl rfl) ?_
  (refine gl_store_blkW rfl rfl z_5 z_8 z_8 z_2 ?_)
  repeat refine x_ ?_
  refine m_ ?_
  refine f_ z_1 ?_
  refine r_ (by exact s_load_blk rfl z_3 a10_3) ?_
  refine gl_callp rfl (plainS_ct t (by omega)) (fun _ _ _ => trivial) rfl ?_
  refine f_ (s_nilCheck rfl) ?_
  refine f_ z_1 ?_
  (refine gl_store_blkC (pre := [_, _]) (post := []) rfl rfl z_5 z_8 z_8 z_8 ?_)
  repeat refine n_ ?_
  refine G.weaken (L' := [(2, Ptr g2), (5, Ptr g10), (6, Ptr g6)]) (H' := rdp g10 s p4 (plainS t) :: blkR g6 ⟨5, [], [], t, 0, [], 0, [], [], []⟩ L0 :: blkR g2 R0 L0 :: rrH ⟨5, [], [], t, 0, [], 0, [], [], []⟩ L0) ?_ j_ (fun w hw => (((hw.addNil 46 6).addNil 9 1).addNil 22 1).perm (List.perm_append_comm (l₁ := [_, _, _]) (l₂ := [_, _, _])))
  obtain ⟨pc, oc, ec, hca, hcb, cc⟩ := need_ex g10 s crlf p4 (plainS t) hs h4b (by decide)
  have e : readS s = if oc = true then some (⟨5, [], [], t, 0, [], 0, [], [], []⟩, pc) else none := by
   unfold readS
   simp only
   rw [e1, if_neg (by rw [z1]; simp), e2, if_neg (by rw [z2]; simp), hr]
   simp only
   rw [ec]
  rw [e]
  repeat refine x_ ?_
  refine m_ ?_
  refine gl_call _ rfl cc i_ (fun _ _ _ => trivial) rfl ?_; rintro v A ⟨rfl, rfl⟩
  repeat refine x_ ?_
  refine m_ ?_
  refine f_ (s_nilCheck rfl) ?_
  refine f_ z_1 ?_
  refine r_ (by exact s_load_blk rfl z_3 a3_2) ?_
  refine f_ (s_not rfl) ?_
  repeat refine n_ ?_
  refine g_cond rfl (fun h => ?_) (fun h => ?_)
  ·have hoc : oc = false := by simpa using h
   rw [if_neg (by rw [hoc]; simp)]
   repeat refine x_ ?_
   refine f_ (s_bld rfl rfl) ?_
   (refine gl_store_blkW rfl rfl z_5 z_8 z_8 z_2 ?_)
   refine a_ ?_
   refine a_ ?_
   repeat refine n_ ?_
   refine g_ret ?_
   exact at_endB2 rfl rfl rfl rfl z_3 rfl _ ⟨L0, rfl, rfl, rfl⟩ (fun w hw => ((hw.dropAll.addNil 46 6).addNil 9 1).addNil 22 1)
  ·have hoc : oc = true := by simpa using h
   rw [if_pos hoc]
   repeat refine y_ ?_
   refine g_draw ([0, 4], [0, 0, 2, 6, 14, 1, 63, 127], [5]) [rdp g10 s pc oc, blkR g6 ⟨5, [], [], t, 0, [], 0, [], [], []⟩ L0] 8 rfl ?_
   (refine ga_read_k 0 rfl (by exact .tail _ (.head _)) (s_load_blkW rfl .del z_8) k_ rfl rfl rfl z_6 ?_)
   refine w_ 1 rfl (s_move rfl) ?_
   refine w_ 2 rfl (s_nilCheck rfl) ?_
   refine w_ 3 rfl z_1 ?_
   (refine ga_read_k 4 rfl (by exact .head _) (s_load_blk rfl .del a3_1) k_ rfl rfl rfl z_6 ?_)
   refine ga_one 5 rfl z_6 ?_
   (refine gl_store_blkW rfl rfl z_5 z_8 z_8 z_2 ?_)
   refine gl_nil ?_
   refine at_ga (.inr (by exact keeps_of k_)) ?_
   refine w_ 6 rfl (s_assign rfl) ?_
   refine w_ 7 rfl (s_assign rfl) ?_
   refine ga_done z_6 ?_
   repeat refine y_ ?_
   refine g_ret ?_
   exact at_endB2 rfl rfl rfl rfl z_3 rfl _ ⟨L0, rfl, rfl, rfl⟩ (fun w hw => hw.drop.drop.drop)
 have z3 : q3 = false := h
 obtain rfl : p3 = 0 := h3f z3
 obtain rfl : o3 = true := h3o
 obtain ⟨q4, p4, o4, e4, h4a, h4b, h4o, h4t, h4f, c4⟩ := eat_ex g10 s [42, 32] 0 true hs (by omega) (by decide)
 repeat refine x_ ?_
 refine m_ ?_
 refine gl_call _ rfl c4 i_ (fun _ _ _ => trivial) rfl ?_; rintro v A ⟨rfl, rfl⟩
 refine a_ ?_
 repeat refine n_ ?_
 refine g_cond rfl (fun h => ?_) (fun h => ?_)
 ·have c5 := untagged_ct g10 s p4 o4 hs h4b
  obtain ⟨⟨rz, ⟨pz, oz⟩⟩, ez⟩ : ∃ z, z = untaggedS s ⟨p4, o4⟩ := ⟨_, rfl⟩
  rw [← ez] at c5
  have hr : restS s ⟨0, true⟩ = (rz, ⟨pz, oz⟩) := by
   unfold restS
   rw [e3, if_neg (by rw [z3]; simp), e4, if_pos h, ez]
  repeat refine x_ ?_
  refine m_ ?_
  refine gl_call _ rfl c5 i_ (fun h hh hb => hg.le hh) rfl ?_; rintro v A ⟨⟨A', ⟨x, hx, rfl, rfl⟩, rfl⟩, hle⟩; refine gl_pull (fun w hw => hw.perm List.perm_append_comm) ?_; simp only [List.cons_append, List.nil_append]
  (refine gl_store_blkW rfl rfl z_5 z_8 z_8 z_2 ?_)
  repeat refine n_ ?_
  refine G.weaken (L' := [(2, Ptr g2), (5, Ptr g10), (6, Ptr g6)]) (H' := rdp g10 s pz oz :: blkR g6 rz x :: blkR g2 R0 L0 :: rrH rz x) ?_ j_ (fun w hw => hw.perm (perm_r3 _ _ _ _))
  obtain ⟨pc, oc, ec, hca, hcb, cc⟩ := need_ex g10 s crlf pz oz hs hle (by decide)
  have e : readS s = if oc = true then some (rz, pc) else none := by
   unfold readS
   simp only
   rw [e1, if_neg (by rw [z1]; simp), e2, if_neg (by rw [z2]; simp), hr]
   simp only
   rw [ec]
  rw [e]
  repeat refine x_ ?_
  refine m_ ?_
  refine gl_call _ rfl cc i_ (fun _ _ _ => trivial) rfl ?_; rintro v A ⟨rfl, rfl⟩
  repeat refine x_ ?_
  refine m_ ?_
  refine f_ (s_nilCheck rfl) ?_
  refine f_ z_1 ?_
  refine r_ (by exact s_load_blk rfl z_3 a3_2) ?_
  refine f_ (s_not rfl) ?_
  repeat refine n_ ?_
  refine g_cond rfl (fun h => ?_) (fun h => ?_)
  ·have hoc : oc = false := by simpa using h
   rw [if_neg (by rw [hoc]; simp)]
   repeat refine x_ ?_
   refine f_ (s_bld rfl rfl) ?_
   (refine gl_store_blkW rfl rfl z_5 z_8 z_8 z_2 ?_)
   refine a_ ?_
   refine a_ ?_
   repeat refine n_ ?_
   refine g_ret ?_
   exact at_endB2 rfl rfl rfl rfl z_3 rfl _ ⟨L0, rfl, rfl, rfl⟩ (fun w hw => ((hw.dropAll.addNil 46 6).addNil 9 1).addNil 22 1)
  ·have hoc : oc = true := by simpa using h
   rw [if_pos hoc]
   repeat refine y_ ?_
   refine g_draw ([0, 4], [0, 0, 2, 6, 14, 1, 63, 127], [5]) [rdp g10 s pc oc, blkR g6 rz x] 8 rfl ?_
   (refine ga_read_k 0 rfl (by exact .tail _ (.head _)) (s_load_blkW rfl .del z_8) k_ rfl rfl rfl z_6 ?_)
   refine w_ 1 rfl (s_move rfl) ?_
   refine w_ 2 rfl (s_nilCheck rfl) ?_
   refine w_ 3 rfl z_1 ?_
   (refine ga_read_k 4 rfl (by exact .head _) (s_load_blk rfl .del a3_1) k_ rfl rfl rfl z_6 ?_)
   refine ga_one 5 rfl z_6 ?_
   (refine gl_store_blkW rfl rfl z_5 z_8 z_8 z_2 ?_)
   refine gl_nil ?_
   refine at_ga (.inr (by exact keeps_of k_)) ?_
   refine w_ 6 rfl (s_assign rfl) ?_
   refine w_ 7 rfl (s_assign rfl) ?_
   refine ga_done z_6 ?_
   repeat refine y_ ?_
   refine g_ret ?_
   exact at_endB2 rfl rfl rfl rfl z_3 rfl _ ⟨x, hx, rfl, rfl⟩ (fun w hw => hw.drop.drop.drop)
 have z4 : q4 = false := h
 obtain rfl : p4 = 0 := h4f z4
 obtain rfl : o4 = true := h4o
 obtain ⟨u, p5, o5, e5, h5p, h5b, h5o, c5⟩ := until_ex g10 s [32, 13] 0 true hs (by omega) (by decide)
 obtain ⟨p6, o6, e6, h6a, h6b, c6⟩ := need_ex g10 s [32] p5 o5 hs h5b (by decide)
 obtain ⟨r2, hr2⟩ : ∃ q, q = atomS u := ⟨_, rfl⟩
 obtain ⟨r3, hr3⟩ : ∃ q, q = decide (u.length ≤ 32) := ⟨_, rfl⟩
 obtain ⟨r4, hr4⟩ : ∃ q, q = !u.contains 43 := ⟨_, rfl⟩
 have c7 := told_ct g10 s u p6 (o6 && r2 && r3 && r4) hs h6b
 obtain ⟨⟨rz, ⟨pz, oz⟩⟩, ez⟩ : ∃ z, z = toldS s u ⟨p6, o6 && r2 && r3 && r4⟩ := ⟨_, rfl⟩
 rw [← ez] at c7
 have hr : restS s ⟨0, true⟩ = (rz, ⟨pz, oz⟩) := by
  unfold restS
  rw [e3, if_neg (by rw [z3]; simp), e4, if_neg (by rw [z4]; simp)]
  simp only
  rw [e5]
  simp only
  rw [e6, ez, hr2, hr3, hr4]
 repeat refine x_ ?_
 refine m_ ?_
 refine gl_call _ rfl c5 i_ (fun _ _ _ => trivial) rfl ?_; rintro v A ⟨rfl, rfl⟩
 refine a_ ?_
 repeat refine x_ ?_
 refine m_ ?_
 refine gl_call _ rfl c6 i_ (fun _ _ _ => trivial) rfl ?_; rintro v A ⟨rfl, rfl⟩
 repeat refine n_ ?_
 refine g_cutK [(2, Ptr g2), (5, Ptr g10), (6, Ptr g6), (7, B u)] [rdp g10 s p6 (o6 && r2 && r3 && r4), blkR g6 R0 L0, blkR g2 R0 L0] ?_ ?_
 ·rcases sc4' o6 r2 r3 with rfl | ⟨rfl, rfl⟩ | ⟨rfl, rfl, rfl⟩ | ⟨rfl, rfl, rfl⟩
  all_goals (
   repeat refine x_ ?_
   refine m_ ?_
   refine m_ ?_
   refine f_ (s_nilCheck rfl) ?_
   refine f_ z_1 ?_
   refine r_ (by exact s_load_blk rfl z_3 a3_2) ?_
   refine m_ ?_
   (first | refine gl_guard_no rfl rfl rfl rfl rfl rfl rfl ?_ | (refine v_ ?_; refine m_ ?_))
   (first | refine gl_guard_no rfl rfl rfl rfl rfl rfl rfl ?_ | (refine v_ ?_; refine gl_callp rfl (AtomW_ct u (by omega)) (fun _ _ _ => trivial) rfl ?_; rw [← hr2]))
   refine f_ z_4 ?_
   refine m_ ?_
   (first | refine gl_guard_no rfl rfl rfl rfl rfl rfl rfl ?_ | (refine v_ ?_; refine m_ ?_))
   (first | refine gl_guard_no rfl rfl rfl rfl rfl rfl rfl ?_ | (refine v_ ?_; refine f_ (s_len_str rfl) ?_))
   (first | refine gl_guard_no rfl rfl rfl rfl rfl rfl rfl ?_ | (refine v_ ?_; refine f_ ((s_leq rfl rfl).eq (congrArg Value.bool ((show decide ((u.length : Int) ≤ 32) = _ from decide_eq_decide.mpr (by omega)).trans hr3.symm))) ?_))
   refine f_ z_4 ?_
   refine m_ ?_
   (first | refine gl_guard_no rfl rfl rfl rfl rfl rfl rfl ?_ | (refine v_ ?_; refine m_ ?_))
   (first | refine gl_guard_no rfl rfl rfl rfl rfl rfl rfl ?_ | (refine v_ ?_; refine gl_callp rfl (IndexByte_ct u 43) (fun _ _ _ => trivial) rfl ?_))
   (first | refine gl_guard_no rfl rfl rfl rfl rfl rfl rfl ?_ | (refine v_ ?_; refine f_ ((s_lss rfl rfl).eq (congrArg Value.bool ((idx_lt u 43).trans hr4.symm))) ?_))
   refine f_ z_4 ?_
   refine f_ (s_nilCheck rfl) ?_
   refine f_ z_1 ?_
   (refine gl_store_blkC (pre := [_, _]) (post := []) rfl rfl z_5 z_8 z_8 z_8 ?_)
   refine gl_nil ?_
   repeat refine y_ ?_)
  all_goals exact at_cut j_ i_
 repeat refine x_ ?_
 refine m_ ?_
 refine m_ ?_
 refine gl_call _ rfl c7 i_ (fun _ _ _ => trivial) rfl ?_; rintro v A ⟨⟨A', ⟨x, hx, rfl, rfl⟩, rfl⟩, hle⟩; refine gl_pull (fun w hw => hw.perm List.perm_append_comm) ?_; simp only [List.cons_append, List.nil_append]
 (refine gl_store_blkW rfl rfl z_5 z_8 z_8 z_2 ?_)
 repeat refine n_ ?_
 refine G.weaken (L' := [(2, Ptr g2), (5, Ptr g10), (6, Ptr g6)]) (H' := rdp g10 s pz oz :: blkR g6 rz x :: blkR g2 R0 L0 :: rrH rz x) ?_ j_ (fun w hw => hw.perm (perm_r3 _ _ _ _))
 obtain ⟨pc, oc, ec, hca, hcb, cc⟩ := need_ex g10 s crlf pz oz hs hle (by decide)
 have e : readS s = if oc = true then some (rz, pc) else none := by
  unfold readS
  simp only
  rw [e1, if_neg (by rw [z1]; simp), e2, if_neg (by rw [z2]; simp), hr]
  simp only
  rw [ec]
 rw [e]
 repeat refine x_ ?_
 refine m_ ?_
 refine gl_call _ rfl cc i_ (fun _ _ _ => trivial) rfl ?_; rintro v A ⟨rfl, rfl⟩
 repeat refine x_ ?_
 refine m_ ?_
 refine f_ (s_nilCheck rfl) ?_
 refine f_ z_1 ?_
 refine r_ (by exact s_load_blk rfl z_3 a3_2) ?_
 refine f_ (s_not rfl) ?_
 repeat refine n_ ?_
 refine g_cond rfl (fun h => ?_) (fun h => ?_)
 ·have hoc : oc = false := by simpa using h
  rw [if_neg (by rw [hoc]; simp)]
  repeat refine x_ ?_
  refine f_ (s_bld rfl rfl) ?_
  (refine gl_store_blkW rfl rfl z_5 z_8 z_8 z_2 ?_)
  refine a_ ?_
  refine a_ ?_
  repeat refine n_ ?_
  refine g_ret ?_
  exact at_endB2 rfl rfl rfl rfl z_3 rfl _ ⟨L0, rfl, rfl, rfl⟩ (fun w hw => ((hw.dropAll.addNil 46 6).addNil 9 1).addNil 22 1)
 ·have hoc : oc = true := by simpa using h
  rw [if_pos hoc]
  repeat refine y_ ?_
  refine g_draw ([0, 4], [0, 0, 2, 6, 14, 1, 63, 127], [5]) [rdp g10 s pc oc, blkR g6 rz x] 8 rfl ?_
  (refine ga_read_k 0 rfl (by exact .tail _ (.head _)) (s_load_blkW rfl .del z_8) k_ rfl rfl rfl z_6 ?_)
  refine w_ 1 rfl (s_move rfl) ?_
  refine w_ 2 rfl (s_nilCheck rfl) ?_
  refine w_ 3 rfl z_1 ?_
  (refine ga_read_k 4 rfl (by exact .head _) (s_load_blk rfl .del a3_1) k_ rfl rfl rfl z_6 ?_)
  refine ga_one 5 rfl z_6 ?_
  (refine gl_store_blkW rfl rfl z_5 z_8 z_8 z_2 ?_)
  refine gl_nil ?_
  refine at_ga (.inr (by exact keeps_of k_)) ?_
  refine w_ 6 rfl (s_assign rfl) ?_
  refine w_ 7 rfl (s_assign rfl) ?_
  refine ga_done z_6 ?_
  repeat refine y_ ?_
  refine g_ret ?_
  exact at_endB2 rfl rfl rfl rfl z_3 rfl _ ⟨x, hx, rfl, rfl⟩ (fun w hw => hw.drop.drop.drop)
end Go.Proofs.YtgllpcggdcknaaaGreatDoor.Rp
namespace Go.Proofs.YtgllpcggdcknaaaGreatDoor.Rp
open Go Go.Sl Go.RowKit
set_option maxRecDepth 8000 in
theorem valueW_ct (x : VM) (hz : SzV x.v) (hc : x.v.flags.length ≤ x.c) : Pu Tryz.prog 33 [vmA x] (fun h => Gl h ∧ RdS h x.a (fV x.v.flags)) (B (valueP x.v)) := by
 obtain ⟨⟨kind, n, fl, text, part, fr⟩, a, c⟩ := x
 obtain ⟨h1, h2, h3, h4, h5, h6⟩ := hz
 simp only at h1 h2 h3 h4 h5 h6 hc ⊢
 have h4' := h4
 unfold big at h1 h3 h4
 obtain ⟨q1, hq1⟩ : ∃ q, q = decide (kind < 6) := ⟨_, rfl⟩
 obtain ⟨q2, hq2⟩ : ∃ q, q = decide (kind > 12) := ⟨_, rfl⟩
 have hqq : (kind < 6 ∨ 12 < kind) ↔ (q1 || q2) = true := by
  rw [Bool.or_eq_true, hq1, hq2, decide_eq_true_eq, decide_eq_true_eq]
 refine ct_enter 65 Tryz.func33 rfl rfl rfl ?_
 intro F hh
 have hg := hh.1
 have hrd := hh.2
 repeat refine x_ ?_
 refine gl_boxA rfl rfl ?_; intro g1
 refine a_ ?_
 repeat refine n_ ?_
 refine g_cutK [(1, Ptr g1), (11, .bool (q1 || q2))] [blkV g1 ⟨kind, n, fl, text, part, fr⟩ a c] ?_ ?_
 ·cases q1
  all_goals (
   repeat refine x_ ?_
   refine f_ z_1 ?_
   refine r_ (by exact s_load_blk rfl z_3 a6_0) ?_
   refine f_ ((s_lss rfl rfl).eb hq1) ?_
   refine m_ ?_
   (first | refine gl_guard_no rfl rfl rfl rfl rfl rfl rfl ?_ | (refine v_ ?_; refine f_ z_1 ?_))
   (first | refine gl_guard_no rfl rfl rfl rfl rfl rfl rfl ?_ | (refine v_ ?_; refine r_ (by exact s_load_blk rfl z_3 a6_0) ?_))
   (first | refine gl_guard_no rfl rfl rfl rfl rfl rfl rfl ?_ | (refine v_ ?_; refine f_ ((s_gtr rfl rfl).eb hq2) ?_))
   refine f_ z_4 ?_
   refine gl_nil ?_
   repeat refine y_ ?_)
  all_goals exact at_cut j_ i_
 repeat refine y_ ?_
 refine g_cond rfl (fun h => ?_) (fun h => ?_)
 ·have e1 : valueP ⟨kind, n, fl, text, part, fr⟩ = [] := by unfold valueP; rw [if_pos (hqq.2 h)]
  rw [e1]
  repeat refine x_ ?_
  refine a_ ?_
  repeat refine n_ ?_
  refine g_ret ?_
  exact at_end1 rfl rfl [] ⟨rfl, rfl⟩ (fun w hw => hw.dropAll)
 have hno : ¬(kind < 6 ∨ 12 < kind) := fun x => by rw [hqq.1 x] at h; cases h
 have e3 : valueP ⟨kind, n, fl, text, part, fr⟩ = if kind = 6 then itemA 6 ++ 32 :: printF fl
   else if kind = 9 then itemA 9 ++ [32, 40] ++ digS n ++ [41]
   else if kind < 10 then itemA kind.toNat ++ 32 :: digS n
   else itemA kind.toNat ++ partP ⟨kind, n, fl, text, part, fr⟩ ++ 32 :: literalS text := by unfold valueP; simp only; rw [if_neg (by omega)]
 rw [e3]
 obtain ⟨k, rfl⟩ : ∃ k : Nat, kind = (k : Int) := ⟨kind.toNat, by omega⟩
 have hk : 6 ≤ k ∧ k ≤ 12 := by omega
 have hil := itemA_len k hk.2
 have hdl := digS_len64 h5
 have hdf := digS_len64 h6
 have hkl : k - 1 < itemW.length := by rw [item_len]; omega
 have hia : B (itemW.getD (k - 1) []) = B (itemA k) := rfl
 rw [Int.toNat_natCast]
 repeat refine y_ ?_
 refine g_draw ([2], [0, 0, 2, 6, 15, 31, 63], [0, 5]) [blkV g1 ⟨k, n, fl, text, part, fr⟩ a c] 7 rfl ?_
 refine w_ 1 rfl z_1 ?_
 (refine ga_read_k 2 rfl (by exact .head _) (s_load_blk rfl .del a6_0) z_10 rfl rfl rfl z_6 ?_)
 refine w_ 3 rfl ((s_sub_i64 (m := (k : Nat)) rfl rfl (by omega)).eq (v' := .int .i64 ((k - 1 : Nat) : Int)) (by congr 1; omega)) ?_
 refine ga_one 0 rfl z_6 ?_
 refine gl_call _ rfl itemWords_ct i_ (fun _ _ _ => trivial) rfl ?_; rintro v A ⟨a12, rfl, rfl⟩
 refine gl_nil ?_
 refine at_ga (.inr (by exact keeps_of k_)) ?_
 refine w_ 4 rfl ((s_indexAddr rfl ⟨_, rfl⟩ rfl (by omega))) ?_
 refine ga_one 5 rfl z_6 ?_
 refine r_ ((s_load1 rfl (fun w hw => rdB_own hw z_3 (i := k - 1) z_7 hkl)).eq hia) ?_
 refine gl_nil ?_
 refine at_ga (.inl z_6) ?_
 refine w_ 6 rfl (s_assign rfl) ?_
 refine ga_done z_6 ?_
 repeat refine y_ ?_
 refine G.weaken (L' := [(1, Ptr g1), (3, B (itemA k))]) (H' := [blkV g1 ⟨k, n, fl, text, part, fr⟩ a c]) ?_ j_ (fun w hw => hw.drop)
 repeat refine x_ ?_
 refine f_ z_1 ?_
 refine r_ (by exact s_load_blk rfl z_3 a6_0) ?_
 refine f_ ((s_eql rfl rfl).eq (v' := .bool (decide (k = 6))) (congrArg Value.bool (decide_eq_decide.mpr (show ((k : Nat) : Int) = 6 ↔ k = 6 by omega)))) ?_
 refine a_ ?_
 repeat refine n_ ?_
 refine g_cond rfl (fun h => ?_) (fun h => ?_)
 ·have hk6 := of_decide_eq_true h
  subst hk6
  rw [if_pos (show ((6 : Nat) : Int) = 6 from rfl)]
  have hpl : (printF fl).length ≤ (joinS [32] fl).length + 2 := by unfold printF; simp
  repeat refine x_ ?_
  refine m_ ?_
  refine f_ (s_add_str rfl rfl (by simp only [List.length_singleton]; omega)) ?_
  refine f_ z_1 ?_
  refine r_ (by exact s_load_blk rfl z_3 a6_2) ?_
  refine gl_callp rfl (PrintP_ct fl a c hc (by omega) (by omega)) (fun h hh hb => hrd.le hh) rfl ?_
  refine f_ ((s_add_str rfl rfl (by simp only [List.length_append, List.length_singleton]; omega)).eq (v' := B (itemA 6 ++ 32 :: printF fl)) z_7) ?_
  refine a_ ?_
  repeat refine n_ ?_
  refine g_ret ?_
  exact at_end1 rfl rfl [] ⟨rfl, rfl⟩ (fun w hw => hw.dropAll)
 have hk6 := of_decide_eq_false h
 rw [if_neg (show ¬((k : Nat) : Int) = 6 by omega)]
 repeat refine x_ ?_
 refine f_ z_1 ?_
 refine r_ (by exact s_load_blk rfl z_3 a6_0) ?_
 refine f_ ((s_eql rfl rfl).eq (v' := .bool (decide (k = 9))) (congrArg Value.bool (decide_eq_decide.mpr (show ((k : Nat) : Int) = 9 ↔ k = 9 by omega)))) ?_
 refine a_ ?_
 repeat refine n_ ?_
 refine g_cond rfl (fun h => ?_) (fun h => ?_)
 ·have hk9 := of_decide_eq_true h
  subst hk9
  rw [if_pos (show ((9 : Nat) : Int) = 9 from rfl)]
  repeat refine x_ ?_
  refine m_ ?_
  refine f_ (s_add_str rfl rfl (by simp only [List.length_cons, List.length_nil]; omega)) ?_
  refine f_ z_1 ?_
  refine r_ (by exact s_load_blk rfl z_3 a6_1) ?_
  refine gl_callp rfl (Digits_ct n (by omega)) (fun h hh hb => hg.le hh) rfl ?_
  refine f_ (s_add_str rfl rfl (by simp only [List.length_append, List.length_cons, List.length_nil]; omega)) ?_
  refine f_ ((s_add_str rfl rfl (by simp only [List.length_append, List.length_cons, List.length_nil]; omega)).eq (v' := B (itemA 9 ++ [32, 40] ++ digS n ++ [41])) z_7) ?_
  refine a_ ?_
  repeat refine n_ ?_
  refine g_ret ?_
  exact at_end1 rfl rfl [] ⟨rfl, rfl⟩ (fun w hw => hw.dropAll)
 have hk9 := of_decide_eq_false h
 rw [if_neg (show ¬((k : Nat) : Int) = 9 by omega)]
 repeat refine x_ ?_
 refine f_ z_1 ?_
 refine r_ (by exact s_load_blk rfl z_3 a6_0) ?_
 refine f_ ((s_lss rfl rfl).eq (v' := .bool (decide (k < 10))) (congrArg Value.bool (decide_eq_decide.mpr (show ((k : Nat) : Int) < 10 ↔ k < 10 by omega)))) ?_
 refine a_ ?_
 repeat refine n_ ?_
 refine g_cond rfl (fun h => ?_) (fun h => ?_)
 ·have hk10 := of_decide_eq_true h
  rw [if_pos (show ((k : Nat) : Int) < 10 by omega)]
  repeat refine x_ ?_
  refine m_ ?_
  refine f_ (s_add_str rfl rfl (by simp only [List.length_singleton]; omega)) ?_
  refine f_ z_1 ?_
  refine r_ (by exact s_load_blk rfl z_3 a6_1) ?_
  refine gl_callp rfl (Digits_ct n (by omega)) (fun h hh hb => hg.le hh) rfl ?_
  refine f_ ((s_add_str rfl rfl (by simp only [List.length_append, List.length_singleton]; omega)).eq (v' := B (itemA k ++ 32 :: digS n)) z_7) ?_
  refine a_ ?_
  repeat refine n_ ?_
  refine g_ret ?_
  exact at_end1 rfl rfl [] ⟨rfl, rfl⟩ (fun w hw => hw.dropAll)
 have hk10 := of_decide_eq_false h
 rw [if_neg (show ¬((k : Nat) : Int) < 10 by omega)]
 have hpl := partP_len ⟨k, n, fl, text, part, fr⟩ h6
 have hll := litS_len text h4'
 obtain ⟨pp, hpp⟩ : ∃ z, z = partP ⟨k, n, fl, text, part, fr⟩ := ⟨_, rfl⟩
 rw [← hpp] at hpl ⊢
 repeat refine x_ ?_
 refine f_ z_1 ?_
 refine r_ (by exact s_load_blk rfl z_3 a6_4) ?_
 refine a_ ?_
 refine gl_nil ?_
 repeat (first | refine g_seq ?_ | refine at_code ?_ | refine g_skip ?_ | refine g_exit rfl ?_ | refine g_cond_t rfl ?_ | refine g_cond_f rfl ?_)
 refine g_cutK [(1, Ptr g1), (3, B (itemA k ++ pp))] [blkV g1 ⟨k, n, fl, text, part, fr⟩ a c] ?_ ?_
 ·cases part with
  | true =>
   obtain rfl : pp = 60 :: digS fr ++ [62] := by rw [hpp]; unfold partP; rw [if_pos rfl]
   refine g_cond rfl (fun h => ?_) (fun h => by cases h)
   repeat refine x_ ?_
   refine m_ ?_
   refine f_ z_1 ?_
   refine r_ (by exact s_load_blk rfl z_3 a6_5) ?_
   refine gl_callp rfl (Digits_ct fr (by omega)) (fun h hh hb => hg.le hh) rfl ?_
   refine f_ (s_add_str rfl rfl (by simp only [List.length_cons, List.length_nil]; omega)) ?_
   refine f_ (s_add_str rfl rfl (by simp only [List.length_append, List.length_cons, List.length_nil]; omega)) ?_
   refine f_ ((s_add_str rfl rfl (by simp only [List.length_append, List.length_cons, List.length_nil]; omega)).eq (v' := B (itemA k ++ (60 :: digS fr ++ [62]))) z_7) ?_
   refine a_ ?_
   repeat refine n_ ?_
   exact at_cut j_ i_
  | false =>
   obtain rfl : pp = [] := by rw [hpp]; unfold partP; simp
   rw [List.append_nil]
   refine g_cond rfl (fun h => by cases h) (fun h => ?_)
   repeat refine y_ ?_
   exact at_cut j_ i_
 repeat refine x_ ?_
 refine m_ ?_
 refine f_ (s_add_str rfl rfl (by simp only [List.length_append, List.length_singleton]; omega)) ?_
 refine f_ z_1 ?_
 refine r_ (by exact s_load_blk rfl z_3 a6_3) ?_
 refine gl_callp rfl (LiteralW_ct text h4') (fun h hh hb => hg.le hh) rfl ?_
 refine f_ ((s_add_str rfl rfl (by simp only [List.length_append, List.length_singleton]; omega)).eq (v' := B (itemA k ++ pp ++ 32 :: literalS text)) z_7) ?_
 refine a_ ?_
 repeat refine n_ ?_
 refine g_ret ?_
 exact at_end1 rfl rfl [] ⟨rfl, rfl⟩ (fun w hw => hw.dropAll)
end Go.Proofs.YtgllpcggdcknaaaGreatDoor.Rp
namespace Go.Proofs.YtgllpcggdcknaaaGreatDoor.Rp
open Go Go.Sl Go.RowKit
structure SzW (r : RR) : Prop where
 sz : SzR r
 nj : (numsP r.nums).length ≤ big
 cj : (joinS [32] (cellsP r)).length ≤ big
structure CapL (r : RR) (x : RL) : Prop where
 f : r.flags.length ≤ x.fc
 v : ∀ m ∈ x.vs, m.v.flags.length ≤ m.c
abbrev PreW (r : RR) (x : RL) (h : Heap) : Prop := Gl h ∧ RRd r x h
theorem textP_5 {r : RR} (hk : r.kind = 5) : textP r = 43 :: 32 :: r.text := by
 unfold textP
 rw [hk]
 rfl
set_option maxRecDepth 8000 in
theorem textW_5 (r : RR) (x : RL) (hz : SzW r) (hc : CapL r x) (hv : r.values = x.vs.map VM.v) (hk : r.kind = 5) : Pu Tryz.prog 15 [rrA r x] (PreW r x) (B (textP r)) := by
 rw [textP_5 hk]
 have hx := hz.sz.text
 unfold big at hx
 refine ct_enter 159 Tryz.func15 rfl rfl rfl ?_
 intro F hh
 have hg := hh.1
 have hrr := hh.2
 repeat refine x_ ?_
 refine gl_boxA rfl rfl ?_; intro g1
 refine a_ ?_
 repeat refine x_ ?_
 refine f_ z_1 ?_
 refine r_ (by exact s_load_blk rfl z_3 a10_0) ?_
 repeat refine x_ ?_
 refine f_ ((s_eql rfl rfl).eq (v' := .bool false) (congrArg Value.bool (decide_eq_false (by omega)))) ?_
 refine a_ ?_
 repeat refine x_ ?_
 refine f_ ((s_eql rfl rfl).eq (v' := .bool false) (congrArg Value.bool (decide_eq_false (by omega)))) ?_
 refine a_ ?_
 repeat refine x_ ?_
 refine f_ ((s_eql rfl rfl).eq (v' := .bool false) (congrArg Value.bool (decide_eq_false (by omega)))) ?_
 refine a_ ?_
 repeat refine x_ ?_
 refine f_ ((s_eql rfl rfl).eq (v' := .bool false) (congrArg Value.bool (decide_eq_false (by omega)))) ?_
 refine a_ ?_
 repeat refine x_ ?_
 refine f_ ((s_eql rfl rfl).eq (v' := .bool true) (congrArg Value.bool (decide_eq_true hk))) ?_
 refine a_ ?_
 repeat refine x_ ?_
 refine f_ z_1 ?_
 refine r_ (by exact s_load_blk rfl z_3 a10_3) ?_
 refine f_ ((s_add_str rfl rfl (by simp only [List.length_cons, List.length_nil]; omega)).eq (v' := B (43 :: 32 :: r.text)) rfl) ?_
 refine a_ ?_
 repeat refine n_ ?_
 refine g_ret ?_
 exact at_end1 rfl rfl [] ⟨rfl, rfl⟩ (fun w hw => hw.dropAll)
theorem textP_6 {r : RR} (hk : r.kind = 6) : textP r = caps := by
 unfold textP
 rw [hk]
 rfl
set_option maxRecDepth 8000 in
theorem textW_6 (r : RR) (x : RL) (hz : SzW r) (hc : CapL r x) (hv : r.values = x.vs.map VM.v) (hk : r.kind = 6) : Pu Tryz.prog 15 [rrA r x] (PreW r x) (B (textP r)) := by
 rw [textP_6 hk]
 refine ct_enter 159 Tryz.func15 rfl rfl rfl ?_
 intro F hh
 have hg := hh.1
 have hrr := hh.2
 repeat refine x_ ?_
 refine gl_boxA rfl rfl ?_; intro g1
 refine a_ ?_
 repeat refine x_ ?_
 refine f_ z_1 ?_
 refine r_ (by exact s_load_blk rfl z_3 a10_0) ?_
 repeat refine x_ ?_
 refine f_ ((s_eql rfl rfl).eq (v' := .bool false) (congrArg Value.bool (decide_eq_false (by omega)))) ?_
 refine a_ ?_
 repeat refine x_ ?_
 refine f_ ((s_eql rfl rfl).eq (v' := .bool false) (congrArg Value.bool (decide_eq_false (by omega)))) ?_
 refine a_ ?_
 repeat refine x_ ?_
 refine f_ ((s_eql rfl rfl).eq (v' := .bool false) (congrArg Value.bool (decide_eq_false (by omega)))) ?_
 refine a_ ?_
 repeat refine x_ ?_
 refine f_ ((s_eql rfl rfl).eq (v' := .bool false) (congrArg Value.bool (decide_eq_false (by omega)))) ?_
 refine a_ ?_
 repeat refine x_ ?_
 refine f_ ((s_eql rfl rfl).eq (v' := .bool false) (congrArg Value.bool (decide_eq_false (by omega)))) ?_
 refine a_ ?_
 repeat refine x_ ?_
 refine f_ ((s_eql rfl rfl).eq (v' := .bool true) (congrArg Value.bool (decide_eq_true hk))) ?_
 refine a_ ?_
 repeat refine x_ ?_
 refine a_ ?_
 repeat refine n_ ?_
 refine g_ret ?_
 exact at_end1 rfl rfl [] ⟨rfl, rfl⟩ (fun w hw => hw.dropAll)
theorem textP_7 {r : RR} (hk : r.kind = 7) : textP r = enab := by
 unfold textP
 rw [hk]
 rfl
set_option maxRecDepth 8000 in
theorem textW_7 (r : RR) (x : RL) (hz : SzW r) (hc : CapL r x) (hv : r.values = x.vs.map VM.v) (hk : r.kind = 7) : Pu Tryz.prog 15 [rrA r x] (PreW r x) (B (textP r)) := by
 rw [textP_7 hk]
 refine ct_enter 159 Tryz.func15 rfl rfl rfl ?_
 intro F hh
 have hg := hh.1
 have hrr := hh.2
 repeat refine x_ ?_
 refine gl_boxA rfl rfl ?_; intro g1
 refine a_ ?_
 repeat refine x_ ?_
 refine f_ z_1 ?_
 refine r_ (by exact s_load_blk rfl z_3 a10_0) ?_
 repeat refine x_ ?_
 refine f_ ((s_eql rfl rfl).eq (v' := .bool false) (congrArg Value.bool (decide_eq_false (by omega)))) ?_
 refine a_ ?_
 repeat refine x_ ?_
 refine f_ ((s_eql rfl rfl).eq (v' := .bool false) (congrArg Value.bool (decide_eq_false (by omega)))) ?_
 refine a_ ?_
 repeat refine x_ ?_
 refine f_ ((s_eql rfl rfl).eq (v' := .bool false) (congrArg Value.bool (decide_eq_false (by omega)))) ?_
 refine a_ ?_
 repeat refine x_ ?_
 refine f_ ((s_eql rfl rfl).eq (v' := .bool false) (congrArg Value.bool (decide_eq_false (by omega)))) ?_
 refine a_ ?_
 repeat refine x_ ?_
 refine f_ ((s_eql rfl rfl).eq (v' := .bool false) (congrArg Value.bool (decide_eq_false (by omega)))) ?_
 refine a_ ?_
 repeat refine x_ ?_
 refine f_ ((s_eql rfl rfl).eq (v' := .bool false) (congrArg Value.bool (decide_eq_false (by omega)))) ?_
 refine a_ ?_
 repeat refine x_ ?_
 refine f_ ((s_eql rfl rfl).eq (v' := .bool true) (congrArg Value.bool (decide_eq_true hk))) ?_
 refine a_ ?_
 repeat refine x_ ?_
 refine a_ ?_
 repeat refine n_ ?_
 refine g_ret ?_
 exact at_end1 rfl rfl [] ⟨rfl, rfl⟩ (fun w hw => hw.dropAll)
theorem textP_8 {r : RR} (hk : r.kind = 8) : textP r = 42 :: 32 :: digS r.n ++ wExists := by
 unfold textP
 rw [hk]
 rfl
set_option maxRecDepth 8000 in
theorem textW_8 (r : RR) (x : RL) (hz : SzW r) (hc : CapL r x) (hv : r.values = x.vs.map VM.v) (hk : r.kind = 8) : Pu Tryz.prog 15 [rrA r x] (PreW r x) (B (textP r)) := by
 rw [textP_8 hk]
 have hn := hz.sz.n
 have hd := digS_len64 hn
 refine ct_enter 159 Tryz.func15 rfl rfl rfl ?_
 intro F hh
 have hg := hh.1
 have hrr := hh.2
 repeat refine x_ ?_
 refine gl_boxA rfl rfl ?_; intro g1
 refine a_ ?_
 repeat refine x_ ?_
 refine f_ z_1 ?_
 refine r_ (by exact s_load_blk rfl z_3 a10_0) ?_
 repeat refine x_ ?_
 refine f_ ((s_eql rfl rfl).eq (v' := .bool false) (congrArg Value.bool (decide_eq_false (by omega)))) ?_
 refine a_ ?_
 repeat refine x_ ?_
 refine f_ ((s_eql rfl rfl).eq (v' := .bool false) (congrArg Value.bool (decide_eq_false (by omega)))) ?_
 refine a_ ?_
 repeat refine x_ ?_
 refine f_ ((s_eql rfl rfl).eq (v' := .bool false) (congrArg Value.bool (decide_eq_false (by omega)))) ?_
 refine a_ ?_
 repeat refine x_ ?_
 refine f_ ((s_eql rfl rfl).eq (v' := .bool false) (congrArg Value.bool (decide_eq_false (by omega)))) ?_
 refine a_ ?_
 repeat refine x_ ?_
 refine f_ ((s_eql rfl rfl).eq (v' := .bool false) (congrArg Value.bool (decide_eq_false (by omega)))) ?_
 refine a_ ?_
 repeat refine x_ ?_
 refine f_ ((s_eql rfl rfl).eq (v' := .bool false) (congrArg Value.bool (decide_eq_false (by omega)))) ?_
 refine a_ ?_
 repeat refine x_ ?_
 refine f_ ((s_eql rfl rfl).eq (v' := .bool false) (congrArg Value.bool (decide_eq_false (by omega)))) ?_
 refine a_ ?_
 repeat refine x_ ?_
 refine f_ ((s_eql rfl rfl).eq (v' := .bool true) (congrArg Value.bool (decide_eq_true hk))) ?_
 refine a_ ?_
 repeat refine x_ ?_
 refine f_ z_1 ?_
 refine r_ (by exact s_load_blk rfl z_3 a10_4) ?_
 refine gl_callp rfl (Digits_ct r.n (by omega)) (fun h hh hb => hg.le hh) rfl ?_
 refine f_ (s_add_str rfl rfl (by simp only [List.length_cons, List.length_nil]; omega)) ?_
 refine f_ ((s_add_str rfl rfl (by simp only [List.length_append, List.length_cons, List.length_nil]; omega)).eq (v' := B (42 :: 32 :: digS r.n ++ wExists)) rfl) ?_
 refine a_ ?_
 repeat refine n_ ?_
 refine g_ret ?_
 exact at_end1 rfl rfl [] ⟨rfl, rfl⟩ (fun w hw => hw.dropAll)
theorem textP_9 {r : RR} (hk : r.kind = 9) : textP r = 42 :: 32 :: digS r.n ++ wExpunge := by
 unfold textP
 rw [hk]
 rfl
set_option maxRecDepth 8000 in
theorem textW_9 (r : RR) (x : RL) (hz : SzW r) (hc : CapL r x) (hv : r.values = x.vs.map VM.v) (hk : r.kind = 9) : Pu Tryz.prog 15 [rrA r x] (PreW r x) (B (textP r)) := by
 rw [textP_9 hk]
 have hn := hz.sz.n
 have hd := digS_len64 hn
 refine ct_enter 159 Tryz.func15 rfl rfl rfl ?_
 intro F hh
 have hg := hh.1
 have hrr := hh.2
 repeat refine x_ ?_
 refine gl_boxA rfl rfl ?_; intro g1
 refine a_ ?_
 repeat refine x_ ?_
 refine f_ z_1 ?_
 refine r_ (by exact s_load_blk rfl z_3 a10_0) ?_
 repeat refine x_ ?_
 refine f_ ((s_eql rfl rfl).eq (v' := .bool false) (congrArg Value.bool (decide_eq_false (by omega)))) ?_
 refine a_ ?_
 repeat refine x_ ?_
 refine f_ ((s_eql rfl rfl).eq (v' := .bool false) (congrArg Value.bool (decide_eq_false (by omega)))) ?_
 refine a_ ?_
 repeat refine x_ ?_
 refine f_ ((s_eql rfl rfl).eq (v' := .bool false) (congrArg Value.bool (decide_eq_false (by omega)))) ?_
 refine a_ ?_
 repeat refine x_ ?_
 refine f_ ((s_eql rfl rfl).eq (v' := .bool false) (congrArg Value.bool (decide_eq_false (by omega)))) ?_
 refine a_ ?_
 repeat refine x_ ?_
 refine f_ ((s_eql rfl rfl).eq (v' := .bool false) (congrArg Value.bool (decide_eq_false (by omega)))) ?_
 refine a_ ?_
 repeat refine x_ ?_
 refine f_ ((s_eql rfl rfl).eq (v' := .bool false) (congrArg Value.bool (decide_eq_false (by omega)))) ?_
 refine a_ ?_
 repeat refine x_ ?_
 refine f_ ((s_eql rfl rfl).eq (v' := .bool false) (congrArg Value.bool (decide_eq_false (by omega)))) ?_
 refine a_ ?_
 repeat refine x_ ?_
 refine f_ ((s_eql rfl rfl).eq (v' := .bool false) (congrArg Value.bool (decide_eq_false (by omega)))) ?_
 refine a_ ?_
 repeat refine x_ ?_
 refine f_ ((s_eql rfl rfl).eq (v' := .bool true) (congrArg Value.bool (decide_eq_true hk))) ?_
 refine a_ ?_
 repeat refine x_ ?_
 refine f_ z_1 ?_
 refine r_ (by exact s_load_blk rfl z_3 a10_4) ?_
 refine gl_callp rfl (Digits_ct r.n (by omega)) (fun h hh hb => hg.le hh) rfl ?_
 refine f_ (s_add_str rfl rfl (by simp only [List.length_cons, List.length_nil]; omega)) ?_
 refine f_ ((s_add_str rfl rfl (by simp only [List.length_append, List.length_cons, List.length_nil]; omega)).eq (v' := B (42 :: 32 :: digS r.n ++ wExpunge)) rfl) ?_
 refine a_ ?_
 repeat refine n_ ?_
 refine g_ret ?_
 exact at_end1 rfl rfl [] ⟨rfl, rfl⟩ (fun w hw => hw.dropAll)
theorem textP_10 {r : RR} (hk : r.kind = 10) : textP r = 42 :: 32 :: wFlags ++ printF r.flags := by
 unfold textP
 rw [hk]
 rfl
set_option maxRecDepth 8000 in
theorem textW_10 (r : RR) (x : RL) (hz : SzW r) (hc : CapL r x) (hv : r.values = x.vs.map VM.v) (hk : r.kind = 10) : Pu Tryz.prog 15 [rrA r x] (PreW r x) (B (textP r)) := by
 rw [textP_10 hk]
 have h1 := hz.sz.fl
 have h3 := hz.sz.fj
 have hp : (printF r.flags).length ≤ 1000000000002 := by unfold big at h3; unfold printF; simp; omega
 unfold big at h1 h3
 refine ct_enter 159 Tryz.func15 rfl rfl rfl ?_
 intro F hh
 have hg := hh.1
 have hrr := hh.2
 repeat refine x_ ?_
 refine gl_boxA rfl rfl ?_; intro g1
 refine a_ ?_
 repeat refine x_ ?_
 refine f_ z_1 ?_
 refine r_ (by exact s_load_blk rfl z_3 a10_0) ?_
 repeat refine x_ ?_
 refine f_ ((s_eql rfl rfl).eq (v' := .bool false) (congrArg Value.bool (decide_eq_false (by omega)))) ?_
 refine a_ ?_
 repeat refine x_ ?_
 refine f_ ((s_eql rfl rfl).eq (v' := .bool false) (congrArg Value.bool (decide_eq_false (by omega)))) ?_
 refine a_ ?_
 repeat refine x_ ?_
 refine f_ ((s_eql rfl rfl).eq (v' := .bool false) (congrArg Value.bool (decide_eq_false (by omega)))) ?_
 refine a_ ?_
 repeat refine x_ ?_
 refine f_ ((s_eql rfl rfl).eq (v' := .bool false) (congrArg Value.bool (decide_eq_false (by omega)))) ?_
 refine a_ ?_
 repeat refine x_ ?_
 refine f_ ((s_eql rfl rfl).eq (v' := .bool false) (congrArg Value.bool (decide_eq_false (by omega)))) ?_
 refine a_ ?_
 repeat refine x_ ?_
 refine f_ ((s_eql rfl rfl).eq (v' := .bool false) (congrArg Value.bool (decide_eq_false (by omega)))) ?_
 refine a_ ?_
 repeat refine x_ ?_
 refine f_ ((s_eql rfl rfl).eq (v' := .bool false) (congrArg Value.bool (decide_eq_false (by omega)))) ?_
 refine a_ ?_
 repeat refine x_ ?_
 refine f_ ((s_eql rfl rfl).eq (v' := .bool false) (congrArg Value.bool (decide_eq_false (by omega)))) ?_
 refine a_ ?_
 repeat refine x_ ?_
 refine f_ ((s_eql rfl rfl).eq (v' := .bool false) (congrArg Value.bool (decide_eq_false (by omega)))) ?_
 refine a_ ?_
 repeat refine x_ ?_
 refine f_ ((s_eql rfl rfl).eq (v' := .bool true) (congrArg Value.bool (decide_eq_true hk))) ?_
 refine a_ ?_
 repeat refine x_ ?_
 refine f_ z_1 ?_
 refine r_ (by exact s_load_blk rfl z_3 a10_7) ?_
 refine gl_callp rfl (PrintP_ct r.flags x.fa x.fc hc.f (by omega) (by omega)) (fun h hh hb => hrr.flags.le hh) rfl ?_
 refine f_ ((s_add_str rfl rfl (by simp only [List.length_cons, List.length_nil]; omega)).eq (v' := B (42 :: 32 :: wFlags ++ printF r.flags)) rfl) ?_
 refine a_ ?_
 repeat refine n_ ?_
 refine g_ret ?_
 exact at_end1 rfl rfl [] ⟨rfl, rfl⟩ (fun w hw => hw.dropAll)
theorem textP_11 {r : RR} (hk : r.kind = 11) : textP r = 42 :: 32 :: wList ++ formS r.box := by
 unfold textP
 rw [hk]
 rfl
set_option maxRecDepth 8000 in
theorem textW_11 (r : RR) (x : RL) (hz : SzW r) (hc : CapL r x) (hv : r.values = x.vs.map VM.v) (hk : r.kind = 11) : Pu Tryz.prog 15 [rrA r x] (PreW r x) (B (textP r)) := by
 rw [textP_11 hk]
 have h1 := hz.sz.box
 have hp := form_len r.box h1
 have h1' := h1
 unfold big at h1
 refine ct_enter 159 Tryz.func15 rfl rfl rfl ?_
 intro F hh
 have hg := hh.1
 have hrr := hh.2
 repeat refine x_ ?_
 refine gl_boxA rfl rfl ?_; intro g1
 refine a_ ?_
 repeat refine x_ ?_
 refine f_ z_1 ?_
 refine r_ (by exact s_load_blk rfl z_3 a10_0) ?_
 repeat refine x_ ?_
 refine f_ ((s_eql rfl rfl).eq (v' := .bool false) (congrArg Value.bool (decide_eq_false (by omega)))) ?_
 refine a_ ?_
 repeat refine x_ ?_
 refine f_ ((s_eql rfl rfl).eq (v' := .bool false) (congrArg Value.bool (decide_eq_false (by omega)))) ?_
 refine a_ ?_
 repeat refine x_ ?_
 refine f_ ((s_eql rfl rfl).eq (v' := .bool false) (congrArg Value.bool (decide_eq_false (by omega)))) ?_
 refine a_ ?_
 repeat refine x_ ?_
 refine f_ ((s_eql rfl rfl).eq (v' := .bool false) (congrArg Value.bool (decide_eq_false (by omega)))) ?_
 refine a_ ?_
 repeat refine x_ ?_
 refine f_ ((s_eql rfl rfl).eq (v' := .bool false) (congrArg Value.bool (decide_eq_false (by omega)))) ?_
 refine a_ ?_
 repeat refine x_ ?_
 refine f_ ((s_eql rfl rfl).eq (v' := .bool false) (congrArg Value.bool (decide_eq_false (by omega)))) ?_
 refine a_ ?_
 repeat refine x_ ?_
 refine f_ ((s_eql rfl rfl).eq (v' := .bool false) (congrArg Value.bool (decide_eq_false (by omega)))) ?_
 refine a_ ?_
 repeat refine x_ ?_
 refine f_ ((s_eql rfl rfl).eq (v' := .bool false) (congrArg Value.bool (decide_eq_false (by omega)))) ?_
 refine a_ ?_
 repeat refine x_ ?_
 refine f_ ((s_eql rfl rfl).eq (v' := .bool false) (congrArg Value.bool (decide_eq_false (by omega)))) ?_
 refine a_ ?_
 repeat refine x_ ?_
 refine f_ ((s_eql rfl rfl).eq (v' := .bool false) (congrArg Value.bool (decide_eq_false (by omega)))) ?_
 refine a_ ?_
 repeat refine x_ ?_
 refine f_ ((s_eql rfl rfl).eq (v' := .bool true) (congrArg Value.bool (decide_eq_true hk))) ?_
 refine a_ ?_
 repeat refine x_ ?_
 refine f_ z_1 ?_
 refine r_ (by exact s_load_blk rfl z_3 a10_8) ?_
 refine gl_callp rfl (FormW_ct r.box h1') (fun h hh hb => hg.le hh) rfl ?_
 refine f_ ((s_add_str rfl rfl (by simp only [List.length_cons, List.length_nil]; omega)).eq (v' := B (42 :: 32 :: wList ++ formS r.box)) rfl) ?_
 refine a_ ?_
 repeat refine n_ ?_
 refine g_ret ?_
 exact at_end1 rfl rfl [] ⟨rfl, rfl⟩ (fun w hw => hw.dropAll)
theorem textP_s {r : RR} (h : 1 ≤ r.kind ∧ r.kind ≤ 4) : textP r = r.tag ++ 32 :: statW.getD (r.kind.toNat - 1) [] ++ 32 :: codeP r.code ++ r.text := by
 unfold textP
 rw [if_pos h]
set_option maxRecDepth 8000 in
theorem textW_s (r : RR) (x : RL) (hz : SzW r) (hv : r.values = x.vs.map VM.v) (hk : 1 ≤ r.kind ∧ r.kind ≤ 4) : Pu Tryz.prog 15 [rrA r x] (PreW r x) (B (textP r)) := by
 rw [textP_s hk]
 obtain ⟨k, hkk⟩ : ∃ k : Nat, r.kind = (k : Int) + 1 := ⟨(r.kind - 1).toNat, by omega⟩
 have hk4 : k < 4 := by omega
 obtain ⟨W, hW⟩ : ∃ W, W = statW.getD (r.kind.toNat - 1) [] := ⟨_, rfl⟩
 have hWl : W.length ≤ 3 := by rw [hW]; exact stat_len _
 have hWk : statW.getD k [] = W := by rw [hW]; congr 1; omega
 rw [← hW]
 have htl := hz.sz.text
 have hcl := hz.sz.code
 have hgl := hz.sz.tag
 unfold big at htl hcl hgl
 obtain ⟨q4, hq4⟩ : ∃ q, q = decide (r.code = []) := ⟨_, rfl⟩
 refine ct_enter 159 Tryz.func15 rfl rfl rfl ?_
 intro F hh
 repeat refine x_ ?_
 refine gl_boxA rfl rfl ?_; intro g1
 refine a_ ?_
 repeat refine x_ ?_
 refine f_ z_1 ?_
 refine r_ (by exact s_load_blk rfl z_3 a10_0) ?_
 repeat refine x_ ?_
 refine f_ ((s_eql rfl rfl).eq (v' := .bool (decide (r.kind = 1))) rfl) ?_
 refine a_ ?_
 repeat refine n_ ?_
 refine g_cutK [(1, Ptr g1), (13, .bool true)] [blkR g1 r x] ?_ ?_
 ·refine g_cond rfl (fun h => ?_) (fun h1 => ?_)
  ·rw [h]
   repeat refine y_ ?_
   exact at_cut j_ i_
  ·repeat refine y_ ?_
   refine g_region ?_
   refine f_ ((s_eql rfl rfl).eq (v' := .bool (decide (r.kind = 2))) rfl) ?_
   refine a_ ?_
   repeat refine n_ ?_
   refine g_cond rfl (fun h => ?_) (fun h2 => ?_)
   ·rw [h]
    repeat refine y_ ?_
    exact at_cut j_ i_
   ·repeat refine y_ ?_
    refine g_region ?_
    refine f_ ((s_eql rfl rfl).eq (v' := .bool (decide (r.kind = 3))) rfl) ?_
    refine a_ ?_
    repeat refine n_ ?_
    refine g_cond rfl (fun h => ?_) (fun h3 => ?_)
    ·rw [h]
     repeat refine y_ ?_
     exact at_cut j_ i_
    ·have h4 : r.kind = 4 := by
      have := of_decide_eq_false h1
      have := of_decide_eq_false h2
      have := of_decide_eq_false h3
      omega
     repeat refine x_ ?_
     refine f_ ((s_eql rfl rfl).eq (v' := .bool true) (congrArg Value.bool (decide_eq_true h4))) ?_
     refine a_ ?_
     repeat refine n_ ?_
     exact at_cut j_ i_
 repeat refine y_ ?_
 refine g_draw ([1, 4], [0, 1, 3, 0, 8, 24, 63, 127, 255], [5]) [blkR g1 r x] 9 rfl ?_
 refine w_ 0 rfl z_1 ?_
 (refine ga_read_k 1 rfl (by exact .head _) (s_load_blk rfl .del a10_1) z_10 rfl rfl rfl z_6 ?_)
 refine w_ 2 rfl (s_add_str rfl rfl (by simp only [List.length_singleton]; omega)) ?_
 refine w_ 3 rfl z_1 ?_
 (refine ga_read_k 4 rfl (by exact .head _) (s_load_blk rfl .del a10_0) z_10 rfl rfl rfl z_6 ?_)
 refine ga_one 5 rfl z_6 ?_
 refine gl_callp (v := B W) rfl (by rw [hkk, ← hWk]; exact status_ct k hk4) (fun _ _ _ => trivial) rfl ?_
 refine gl_nil ?_
 refine at_ga (.inr (by exact keeps_of z_10)) ?_
 refine w_ 6 rfl (s_add_str rfl rfl (by simp only [List.length_append, List.length_singleton]; omega)) ?_
 refine w_ 7 rfl ((s_add_str rfl rfl (by simp only [List.length_append, List.length_singleton]; omega)).eq (v' := B (r.tag ++ 32 :: W ++ [32])) z_7) ?_
 refine w_ 8 rfl (s_assign rfl) ?_
 refine ga_done z_6 ?_
 repeat refine x_ ?_
 refine f_ z_1 ?_
 refine r_ (by exact s_load_blk rfl z_3 a10_2) ?_
 refine f_ ((s_neq_str rfl rfl).eq (v' := .bool (!q4)) (congrArg (fun b => Value.bool (!b)) hq4.symm)) ?_
 repeat refine n_ ?_
 cases q4 with
 | false =>
  have hc : r.code ≠ [] := of_decide_eq_false hq4.symm
  have ec : codeP r.code = 91 :: r.code ++ [93, 32] := by unfold codeP; rw [if_neg hc]
  rw [ec]
  repeat refine x_ ?_
  refine m_ ?_
  refine f_ z_1 ?_
  refine r_ (by exact s_load_blk rfl z_3 a10_2) ?_
  refine f_ (s_add_str rfl rfl (by simp only [List.length_cons, List.length_nil]; omega)) ?_
  refine f_ (s_add_str rfl rfl (by simp only [List.length_append, List.length_cons, List.length_nil]; omega)) ?_
  refine f_ (s_add_str rfl rfl (by simp only [List.length_append, List.length_cons, List.length_nil]; omega)) ?_
  refine a_ ?_
  repeat refine x_ ?_
  refine m_ ?_
  refine f_ z_1 ?_
  refine r_ (by exact s_load_blk rfl z_3 a10_3) ?_
  refine f_ ((s_add_str rfl rfl (by simp only [List.length_append, List.length_cons, List.length_nil]; omega)).eq (v' := B (r.tag ++ 32 :: W ++ 32 :: (91 :: r.code ++ [93, 32]) ++ r.text)) z_7) ?_
  refine a_ ?_
  repeat refine n_ ?_
  refine g_ret ?_
  exact at_end1 rfl rfl [] ⟨rfl, rfl⟩ (fun w hw => hw.dropAll)
 | true =>
  have hc : r.code = [] := of_decide_eq_true hq4.symm
  have ec : codeP r.code = [] := by unfold codeP; rw [if_pos hc]
  rw [ec]
  repeat refine x_ ?_
  refine m_ ?_
  refine f_ z_1 ?_
  refine r_ (by exact s_load_blk rfl z_3 a10_3) ?_
  refine f_ ((s_add_str rfl rfl (by simp only [List.length_append, List.length_cons, List.length_nil]; omega)).eq (v' := B (r.tag ++ 32 :: W ++ 32 :: [] ++ r.text)) z_7) ?_
  refine a_ ?_
  repeat refine n_ ?_
  refine g_ret ?_
  exact at_end1 rfl rfl [] ⟨rfl, rfl⟩ (fun w hw => hw.dropAll)
theorem textP_13 {r : RR} (hk : r.kind = 13) : textP r = 42 :: 32 :: wSearch ++ numsP r.nums ++ modP r.mod := by
 unfold textP
 rw [hk]
 rfl
theorem numsP_take {l : List Nat} (j : Nat) : (numsP (l.take j)).length ≤ (numsP l).length := by
 have e : numsP l = numsP (l.take j) ++ numsP (l.drop j) := by
  rw [show numsP l = numsP (l.take j ++ l.drop j) by rw [List.take_append_drop]]
  unfold numsP
  exact List.flatMap_append
 rw [e, List.length_append]
 omega
set_option maxRecDepth 8000 in
theorem textW_13 (r : RR) (x : RL) (hz : SzW r) (hv : r.values = x.vs.map VM.v) (hk : r.kind = 13) : Pu Tryz.prog 15 [rrA r x] (PreW r x) (B (textP r)) := by
 rw [textP_13 hk]
 have hm := hz.sz.mod
 have hns := hz.sz.ns
 have hnl := hz.sz.nl
 have hnj := hz.nj
 unfold big at hnl hnj
 have hdm := digS_len64 hm
 refine ct_enter 159 Tryz.func15 rfl rfl rfl ?_
 intro F hh
 have hg := hh.1
 have hrr := hh.2
 repeat refine x_ ?_
 refine gl_boxA rfl rfl ?_; intro g1
 refine a_ ?_
 repeat refine x_ ?_
 refine f_ z_1 ?_
 refine r_ (by exact s_load_blk rfl z_3 a10_0) ?_
 repeat refine x_ ?_
 refine f_ ((s_eql rfl rfl).eq (v' := .bool false) (congrArg Value.bool (decide_eq_false (by omega)))) ?_
 refine a_ ?_
 repeat refine x_ ?_
 refine f_ ((s_eql rfl rfl).eq (v' := .bool false) (congrArg Value.bool (decide_eq_false (by omega)))) ?_
 refine a_ ?_
 repeat refine x_ ?_
 refine f_ ((s_eql rfl rfl).eq (v' := .bool false) (congrArg Value.bool (decide_eq_false (by omega)))) ?_
 refine a_ ?_
 repeat refine x_ ?_
 refine f_ ((s_eql rfl rfl).eq (v' := .bool false) (congrArg Value.bool (decide_eq_false (by omega)))) ?_
 refine a_ ?_
 repeat refine x_ ?_
 refine f_ ((s_eql rfl rfl).eq (v' := .bool false) (congrArg Value.bool (decide_eq_false (by omega)))) ?_
 refine a_ ?_
 repeat refine x_ ?_
 refine f_ ((s_eql rfl rfl).eq (v' := .bool false) (congrArg Value.bool (decide_eq_false (by omega)))) ?_
 refine a_ ?_
 repeat refine x_ ?_
 refine f_ ((s_eql rfl rfl).eq (v' := .bool false) (congrArg Value.bool (decide_eq_false (by omega)))) ?_
 refine a_ ?_
 repeat refine x_ ?_
 refine f_ ((s_eql rfl rfl).eq (v' := .bool false) (congrArg Value.bool (decide_eq_false (by omega)))) ?_
 refine a_ ?_
 repeat refine x_ ?_
 refine f_ ((s_eql rfl rfl).eq (v' := .bool false) (congrArg Value.bool (decide_eq_false (by omega)))) ?_
 refine a_ ?_
 repeat refine x_ ?_
 refine f_ ((s_eql rfl rfl).eq (v' := .bool false) (congrArg Value.bool (decide_eq_false (by omega)))) ?_
 refine a_ ?_
 repeat refine x_ ?_
 refine f_ ((s_eql rfl rfl).eq (v' := .bool false) (congrArg Value.bool (decide_eq_false (by omega)))) ?_
 refine a_ ?_
 repeat refine x_ ?_
 refine f_ ((s_eql rfl rfl).eq (v' := .bool true) (congrArg Value.bool (decide_eq_true hk))) ?_
 refine a_ ?_
 repeat refine n_ ?_
 have hrn := hrr.nums
 repeat refine x_ ?_
 refine a_ ?_
 repeat refine x_ ?_
 refine f_ z_1 ?_
 refine r_ (by exact s_load_blk rfl z_3 a10_5) ?_
 refine f_ (s_len_sl rfl) ?_
 refine m_ ?_
 repeat refine n_ ?_
 refine g_loop (ι := Nat) (fun j => j ≤ r.nums.length) (fun j => [(1, Ptr g1), (4, B (42 :: 32 :: wSearch ++ numsP (r.nums.take j))), (77, .slice x.na r.nums.length x.nc), (78, .int .i64 (r.nums.length : Nat)), (79, .int .i64 (j : Nat))]) (fun _ => [blkR g1 r x]) (fun j => r.nums.length - j) 0 (by omega) ?_ ?_ ?_
 ·simp only [List.take_zero]
  (repeat (first | exact Sub.nil _ | refine Sub.cons rfl ?_))
 ·intro w hw; exact hw
 rintro j hj
 have hnp := numsP_take (l := r.nums) j
 repeat refine x_ ?_
 refine f_ (s_lss rfl rfl) ?_
 repeat refine n_ ?_
 refine g_cond rfl (fun h => ?_) (fun h => ?_)
 ·have hj' : j < r.nums.length := by simp at h; omega
  have hsome := rdN_some hrn hj'
  have htk := takeN hj'
  have hng := hns _ (getN_mem hj')
  have hdl := digS_len64 hng
  obtain ⟨n, hn⟩ : ∃ n, n = r.nums.getD j 0 := ⟨_, rfl⟩
  rw [← hn] at htk hng hdl
  repeat refine x_ ?_
  refine f_ (s_indexAddr rfl (by assumption) rfl (by omega)) ?_
  refine r_ (s_load1 (v := .int .u64 (n : Nat)) rfl (fun w hw => by rw [hn]; exact rdN hw hrn (by omega) hj')) ?_
  refine a_ ?_
  repeat refine x_ ?_
  refine m_ ?_
  refine m_ ?_
  refine gl_callp rfl (Digits_ct n (by omega)) (fun h hh hb => hg.le hh) rfl ?_
  refine f_ (s_add_str rfl rfl (by simp only [List.length_singleton]; omega)) ?_
  refine f_ ((s_add_str rfl rfl (by simp only [List.length_append, List.length_cons, List.length_nil]; omega)).eq (v' := B (42 :: 32 :: wSearch ++ numsP (r.nums.take (j + 1)))) (by rw [htk]; unfold numsP; simp [List.flatMap_append])) ?_
  refine a_ ?_
  repeat refine x_ ?_
  refine f_ ((s_add_i64 rfl rfl (by omega)).eq (v' := .int .i64 ((j + 1 : Nat) : Int)) (by congr 1)) ?_
  refine m_ ?_
  repeat refine n_ ?_
  refine at_next (j + 1) (by omega) (by omega) ?_ ?_
  ·(repeat (first | exact Sub.nil _ | refine Sub.cons rfl ?_))
  ·intro w hw; exact hw
 have hjl : j = r.nums.length := by simp at h; omega
 subst hjl
 rw [List.take_length] at hnp ⊢
 obtain ⟨q, hq⟩ : ∃ q, q = decide (r.mod = 0) := ⟨_, rfl⟩
 repeat refine x_ ?_
 refine f_ z_1 ?_
 refine r_ (by exact s_load_blk rfl z_3 a10_6) ?_
 refine f_ ((s_gtr rfl rfl).eq (v' := .bool (!q)) (congrArg Value.bool (by rw [hq, Bool.eq_iff_iff]; simp; omega))) ?_
 repeat refine n_ ?_
 cases q with
 | true =>
  have hm0 : r.mod = 0 := of_decide_eq_true hq.symm
  have e : modP r.mod = [] := by unfold modP; rw [if_pos hm0]
  rw [e, List.append_nil]
  repeat refine x_ ?_
  refine m_ ?_
  refine a_ ?_
  repeat refine n_ ?_
  refine g_ret ?_
  exact at_end1 rfl rfl [] ⟨rfl, rfl⟩ (fun w hw => hw.dropAll)
 | false =>
  have hm0 : r.mod ≠ 0 := of_decide_eq_false hq.symm
  have e : modP r.mod = 32 :: wModseq ++ digS r.mod ++ [41] := by unfold modP; rw [if_neg hm0]
  rw [e]
  repeat refine x_ ?_
  refine m_ ?_
  refine f_ z_1 ?_
  refine r_ (by exact s_load_blk rfl z_3 a10_6) ?_
  refine gl_callp rfl (Digits_ct r.mod (by omega)) (fun h hh hb => hg.le hh) rfl ?_
  refine f_ (s_add_str rfl rfl (by simp only [List.length_cons, List.length_nil]; omega)) ?_
  refine f_ (s_add_str rfl rfl (by simp only [List.length_append, List.length_cons, List.length_nil]; omega)) ?_
  refine f_ ((s_add_str rfl rfl (by simp only [List.length_append, List.length_cons, List.length_nil]; omega)).eq (v' := B (42 :: 32 :: wSearch ++ numsP r.nums ++ (32 :: wModseq ++ digS r.mod ++ [41]))) z_7) ?_
  refine a_ ?_
  repeat refine x_ ?_
  refine m_ ?_
  refine a_ ?_
  repeat refine n_ ?_
  refine g_ret ?_
  exact at_end1 rfl rfl [] ⟨rfl, rfl⟩ (fun w hw => hw.dropAll)
end Go.Proofs.YtgllpcggdcknaaaGreatDoor.Rp
namespace Go.Proofs.YtgllpcggdcknaaaGreatDoor.Rp
open Go Go.Sl Go.RowKit
def cellF (k : Int) (v : RV) : List Bs := if k = 14 then [valueP v] else if 1 ≤ v.kind ∧ v.kind ≤ 5 then [countP v] else []
def cellJ (k : Int) (l : List VM) (j : Nat) : List Bs := (l.take j).flatMap fun m => cellF k m.v
theorem cellF_len (k : Int) (v : RV) : (cellF k v).length ≤ 1 := by
 unfold cellF
 split
 ·simp
 split <;> simp
theorem cellJ_len (k : Int) (l : List VM) : ∀ j, (cellJ k l j).length ≤ j := fun j => by
 have h : ∀ l : List VM, (l.flatMap fun m => cellF k m.v).length ≤ l.length := fun l => by
  induction l with
  | nil => simp
  | cons a t ih =>
   have := cellF_len k a.v
   simp only [List.flatMap_cons, List.length_append, List.length_cons]
   omega
 have := h (l.take j)
 rw [List.length_take] at this
 unfold cellJ
 omega
theorem cellJ_succ {k : Int} {l : List VM} {j : Nat} (hj : j < l.length) : cellJ k l (j + 1) = cellJ k l j ++ cellF k (l.getD j VM0).v := by
 have e : l.take (j + 1) = l.take j ++ [l.getD j VM0] := by
  rw [List.take_add_one, List.getD_eq_getElem?_getD, List.getElem?_eq_getElem hj]
  rfl
 unfold cellJ
 rw [e, List.flatMap_append]
 simp
theorem cellJ_all {r : RR} {x : RL} (hv : r.values = x.vs.map VM.v) : cellJ r.kind x.vs x.vs.length = cellsP r := by
 unfold cellJ cellsP
 rw [List.take_length, hv, List.flatMap_map]
 rfl
theorem fV_app (a b : List Bs) : fV (a ++ b) = fV a ++ fV b := by simp [fV]
set_option maxRecDepth 8000 in
theorem textW_v (r : RR) (x : RL) (hz : SzW r) (hc : CapL r x) (hv : r.values = x.vs.map VM.v) (hk : r.kind = 12 ∨ r.kind = 14) : Pu Tryz.prog 15 [rrA r x] (PreW r x) (B (textP r)) := by
 have hvl : r.values.length = x.vs.length := by rw [hv]; simp
 have hvb := hz.sz.vl
 have hcj := hz.cj
 have hxb := form_len r.box hz.sz.box
 have hbx := hz.sz.box
 have hdn := digS_len64 hz.sz.n
 have hn := hz.sz.n
 unfold big at hvb hcj hbx
 rw [hvl] at hvb
 have hsv : ∀ j, j < x.vs.length → SzV (x.vs.getD j VM0).v := fun j hj => hz.sz.vs _ (by rw [hv]; exact List.mem_map.mpr ⟨_, getVM_mem hj, rfl⟩)
 refine ct_enter 159 Tryz.func15 rfl rfl rfl ?_
 intro F hh
 have hg := hh.1
 have hrr := hh.2
 repeat refine x_ ?_
 refine gl_boxA rfl rfl ?_; intro g1
 refine a_ ?_
 repeat refine x_ ?_
 refine f_ z_1 ?_
 refine r_ (by exact s_load_blk rfl z_3 a10_0) ?_
 repeat refine x_ ?_
 refine f_ ((s_eql rfl rfl).eq (v' := .bool false) (congrArg Value.bool (decide_eq_false (by omega)))) ?_
 refine a_ ?_
 repeat refine x_ ?_
 refine f_ ((s_eql rfl rfl).eq (v' := .bool false) (congrArg Value.bool (decide_eq_false (by omega)))) ?_
 refine a_ ?_
 repeat refine x_ ?_
 refine f_ ((s_eql rfl rfl).eq (v' := .bool false) (congrArg Value.bool (decide_eq_false (by omega)))) ?_
 refine a_ ?_
 repeat refine x_ ?_
 refine f_ ((s_eql rfl rfl).eq (v' := .bool false) (congrArg Value.bool (decide_eq_false (by omega)))) ?_
 refine a_ ?_
 repeat refine x_ ?_
 refine f_ ((s_eql rfl rfl).eq (v' := .bool false) (congrArg Value.bool (decide_eq_false (by omega)))) ?_
 refine a_ ?_
 repeat refine x_ ?_
 refine f_ ((s_eql rfl rfl).eq (v' := .bool false) (congrArg Value.bool (decide_eq_false (by omega)))) ?_
 refine a_ ?_
 repeat refine x_ ?_
 refine f_ ((s_eql rfl rfl).eq (v' := .bool false) (congrArg Value.bool (decide_eq_false (by omega)))) ?_
 refine a_ ?_
 repeat refine x_ ?_
 refine f_ ((s_eql rfl rfl).eq (v' := .bool false) (congrArg Value.bool (decide_eq_false (by omega)))) ?_
 refine a_ ?_
 repeat refine x_ ?_
 refine f_ ((s_eql rfl rfl).eq (v' := .bool false) (congrArg Value.bool (decide_eq_false (by omega)))) ?_
 refine a_ ?_
 repeat refine x_ ?_
 refine f_ ((s_eql rfl rfl).eq (v' := .bool false) (congrArg Value.bool (decide_eq_false (by omega)))) ?_
 refine a_ ?_
 repeat refine x_ ?_
 refine f_ ((s_eql rfl rfl).eq (v' := .bool false) (congrArg Value.bool (decide_eq_false (by omega)))) ?_
 refine a_ ?_
 repeat refine x_ ?_
 refine f_ ((s_eql rfl rfl).eq (v' := .bool false) (congrArg Value.bool (decide_eq_false (by omega)))) ?_
 refine a_ ?_
 repeat refine n_ ?_
 have hrd := hrr.vs
 repeat refine x_ ?_
 refine a_ ?_
 repeat refine x_ ?_
 refine f_ z_1 ?_
 refine r_ (by exact s_load_blk rfl z_3 a10_9) ?_
 refine f_ (s_len_sl rfl) ?_
 refine m_ ?_
 repeat refine n_ ?_
 refine g_own_nil 9 1 ?_
 refine g_loop (ι := Nat × Option Addr × Nat) (fun i => i.1 ≤ x.vs.length) (fun i => [(1, Ptr g1), (7, .slice i.2.1 (cellJ r.kind x.vs i.1).length i.2.2), (101, .slice x.va x.vs.length x.vc), (102, .int .i64 (x.vs.length : Nat)), (103, .int .i64 (i.1 : Nat))]) (fun i => [OwnS i.2.1 (cellJ r.kind x.vs i.1) i.2.2, blkR g1 r x]) (fun i => x.vs.length - i.1) (0, none, 0) z_7 ?_ ?_ ?_
 ·(repeat (first | exact Sub.nil _ | refine Sub.cons rfl ?_))
 ·intro w hw; exact hw
 rintro ⟨j, a, c⟩ hj
 simp only at hj
 have hjl := cellJ_len r.kind x.vs j
 obtain ⟨cs, hcs⟩ : ∃ cs, cs = cellJ r.kind x.vs j := ⟨_, rfl⟩
 rw [← hcs] at hjl ⊢
 repeat refine x_ ?_
 refine f_ (s_lss rfl rfl) ?_
 repeat refine n_ ?_
 refine g_cond rfl (fun h => ?_) (fun h => ?_)
 ·have hj' : j < x.vs.length := by simp at h; omega
  have hs1 := rdVM_some hrd hj'
  have hsu := cellJ_succ (k := r.kind) hj'
  have hzm := hsv j hj'
  obtain ⟨m, hm⟩ : ∃ m, m = x.vs.getD j VM0 := ⟨_, rfl⟩
  rw [← hm] at hsu hzm
  rw [← hcs] at hsu
  have hmm : m ∈ x.vs := by rw [hm]; exact getVM_mem hj'
  have hrm := hrr.fs m hmm
  repeat refine x_ ?_
  refine f_ (s_indexAddr rfl (by assumption) rfl (by omega)) ?_
  refine r_ (s_loadN (cs := vmC m) rfl (fun w hw => by rw [hm]; exact rdVM hw hrd (i := j) (by omega) hj') rfl) ?_
  refine gl_allocA rfl ?_; intro g9
  (refine gl_store_blkW rfl rfl z_5 z_8 z_8 z_2 ?_)
  repeat refine x_ ?_
  refine f_ z_1 ?_
  refine r_ (by exact s_load_blk rfl z_3 a10_0) ?_
  refine f_ ((s_eql rfl rfl).eq (v' := .bool (decide (r.kind = 14))) rfl) ?_
  refine gl_nil ?_
  repeat (first | refine g_seq ?_ | refine at_code ?_ | refine g_skip ?_ | refine g_exit rfl ?_ | refine g_cond_t rfl ?_ | refine g_cond_f rfl ?_)
  refine g_cond rfl (fun h => ?_) (fun h => ?_)
  ·have hk14 : r.kind = 14 := of_decide_eq_true h
   have hcf : cellF r.kind m.v = [valueP m.v] := by unfold cellF; rw [if_pos hk14]
   rw [hcf] at hsu
   have hvp := valueP_len hzm
   repeat refine x_ ?_
   refine m_ ?_
   refine r_ ((s_load_blkW rfl z_3 z_8).eq (v' := vmA m) rfl) ?_
   refine gl_callp rfl (valueW_ct m hzm (hc.v m hmm)) (fun h hh hb => ⟨hg.le hh, hrm.le hh⟩) rfl ?_
   refine gl_buildSliceU rfl rfl rfl rfl rfl rfl (xs := fV [valueP m.v]) rfl rfl ?_; intro a39 ha39
   refine gl_append rfl rfl (fun a' c' => .there (.there .here)) (fun w hw => (hw.ownN z_3).2.2.1) rfl rfl rfl (fV_one _) (by show (cs.length + 1) * 16 ≤ _; omega) (by omega) rfl ?_; intro a5 c5 hc5
   refine a_ ?_
   repeat refine x_ ?_
   refine f_ ((s_add_i64 rfl rfl (by omega)).eq (v' := .int .i64 ((j + 1 : Nat) : Int)) (by congr 1)) ?_
   refine m_ ?_
   repeat refine n_ ?_
   refine at_next (j + 1, a5, c5) (by simp only; omega) (by simp only; omega) ?_ ?_
   ·simp only
    rw [hsu, List.length_append, List.length_singleton]
    (repeat (first | exact Sub.nil _ | refine Sub.cons rfl ?_))
   ·intro w hw
    simp only
    rw [hsu]
    show Hp F w [.own (.slice a5 (cs ++ [valueP m.v]).length c5) 9 1 (fV (cs ++ [valueP m.v])), blkR g1 r x]
    rw [fV_app, List.length_append]
    exact hw.drop.drop
  ·have hk14 : r.kind ≠ 14 := of_decide_eq_false h
   obtain ⟨q1, hq1⟩ : ∃ q, q = decide (m.v.kind ≥ 1) := ⟨_, rfl⟩
   obtain ⟨q2, hq2⟩ : ∃ q, q = decide (m.v.kind ≤ 5) := ⟨_, rfl⟩
   repeat refine y_ ?_
   refine g_cutK [(1, Ptr g1), (7, .slice a cs.length c), (9, Ptr g9), (101, .slice x.va x.vs.length x.vc), (102, .int .i64 (x.vs.length : Nat)), (103, .int .i64 (j : Nat)), (122, .bool (q1 && q2))] [blkV g9 m.v m.a m.c, OwnS a cs c, blkR g1 r x] ?_ ?_
   ·cases q1
    all_goals (
     repeat refine x_ ?_
     refine f_ z_1 ?_
     refine r_ (by exact s_load_blk rfl z_3 a6_0) ?_
     refine f_ ((s_geq rfl rfl).eb hq1) ?_
     refine m_ ?_
     (first | refine gl_guard_no rfl rfl rfl rfl rfl rfl rfl ?_ | (refine v_ ?_; refine f_ z_1 ?_))
     (first | refine gl_guard_no rfl rfl rfl rfl rfl rfl rfl ?_ | (refine v_ ?_; refine r_ (by exact s_load_blk rfl z_3 a6_0) ?_))
     (first | refine gl_guard_no rfl rfl rfl rfl rfl rfl rfl ?_ | (refine v_ ?_; refine f_ ((s_leq rfl rfl).eb hq2) ?_))
     refine f_ z_4 ?_
     refine gl_nil ?_
     repeat refine y_ ?_)
    all_goals exact at_cut j_ i_
   repeat refine y_ ?_
   refine g_cond rfl (fun h => ?_) (fun h => ?_)
   ·simp only [Bool.and_eq_true] at h
    have hk1 : 1 ≤ m.v.kind ∧ m.v.kind ≤ 5 := ⟨of_decide_eq_true (hq1.symm.trans h.1), of_decide_eq_true (hq2.symm.trans h.2)⟩
    have hcf : cellF r.kind m.v = [countP m.v] := by unfold cellF; rw [if_neg hk14, if_pos hk1]
    rw [hcf] at hsu
    obtain ⟨k, hkk⟩ : ∃ k : Nat, m.v.kind = (k : Int) := ⟨m.v.kind.toNat, by omega⟩
    have hil := itemA_len k (by omega)
    have hdl := digS_len64 hzm.n
    have hmn := hzm.n
    have hkl : k - 1 < itemW.length := by rw [item_len]; omega
    have hia : B (itemW.getD (k - 1) []) = B (itemA k) := rfl
    have hcp : itemA k ++ 32 :: digS m.v.n = countP m.v := by unfold countP; rw [hkk, Int.toNat_natCast]
    repeat refine y_ ?_
    refine g_draw ([3, 9], [0, 0, 0, 4, 12, 30, 62, 126, 0, 256, 770, 2046, 4094, 8191, 16383], [1, 6, 10, 12, 13]) [blkV g9 m.v m.a m.c] 15 rfl ?_
    refine w_ 0 rfl (s_move rfl) ?_
    refine w_ 2 rfl z_1 ?_
    (refine ga_read_k 3 rfl (by exact .head _) (s_load_blk rfl .del a6_0) k_ rfl rfl rfl z_6 ?_)
    refine w_ 4 rfl ((s_sub_i64 (m := m.v.kind) rfl rfl (by omega)).eq (v' := .int .i64 ((k - 1 : Nat) : Int)) (by congr 1; omega)) ?_
    refine w_ 8 rfl z_1 ?_
    (refine ga_read_k 9 rfl (by exact .head _) (s_load_blk rfl .del a6_1) k_ rfl rfl rfl z_6 ?_)
    refine ga_one 1 rfl z_6 ?_
    refine gl_call _ rfl itemWords_ct i_ (fun _ _ _ => trivial) rfl ?_; rintro v A ⟨a12, rfl, rfl⟩
    refine gl_nil ?_
    refine at_ga (.inr (by exact keeps_of k_)) ?_
    refine w_ 5 rfl ((s_indexAddr rfl ⟨_, rfl⟩ rfl (by omega))) ?_
    refine ga_two 6 10 rfl rfl z_6 ?_ ?_
    refine r_ ((s_load1 rfl (fun w hw => rdB_own hw z_3 (i := k - 1) z_7 hkl)).eq hia) ?_
    refine gl_nil ?_
    refine at_ga (.inr (by exact keeps_of k_)) ?_
    refine w_ 7 rfl (s_add_str rfl rfl (by simp only [List.length_singleton]; omega)) ?_
    refine ga_one 10 rfl z_6 ?_
    refine gl_callp rfl (Digits_ct m.v.n (by omega)) (fun h hh hb => hg.le hh) rfl ?_
    refine gl_nil ?_
    refine at_ga (.inl z_6) ?_
    refine w_ 11 rfl ((s_add_str rfl rfl (by simp only [List.length_append, List.length_singleton]; omega)).eq (v' := B (countP m.v)) (by rw [← hcp]; simp)) ?_
    refine ga_one 12 rfl z_6 ?_
    refine gl_buildSliceU rfl rfl rfl rfl rfl rfl (xs := fV [countP m.v]) rfl rfl ?_; intro a39 ha39
    refine gl_nil ?_
    refine at_ga (.inl z_6) ?_
    refine ga_one 13 rfl z_6 ?_
    refine gl_append rfl rfl (fun a' c' => .there (.there (.there .here))) (fun w hw => (hw.ownN z_3).2.2.1) rfl rfl rfl (fV_one _) (by show (cs.length + 1) * 16 ≤ _; omega) (by omega) rfl ?_; intro a5 c5 hc5
    refine gl_nil ?_
    refine at_ga (.inl z_6) ?_
    refine w_ 14 rfl (s_assign rfl) ?_
    refine ga_done z_6 ?_
    rotate_left 1
    refine gl_callp rfl (Digits_ct m.v.n (by omega)) (fun h hh hb => hg.le hh) rfl ?_
    refine gl_nil ?_
    refine at_ga (.inr (by exact keeps_of k_)) ?_
    refine ga_one 6 rfl z_6 ?_
    refine r_ ((s_load1 rfl (fun w hw => rdB_own hw z_3 (i := k - 1) z_7 hkl)).eq hia) ?_
    refine gl_nil ?_
    refine at_ga (.inl z_6) ?_
    refine w_ 7 rfl (s_add_str rfl rfl (by simp only [List.length_singleton]; omega)) ?_
    refine w_ 11 rfl ((s_add_str rfl rfl (by simp only [List.length_append, List.length_singleton]; omega)).eq (v' := B (countP m.v)) (by rw [← hcp]; simp)) ?_
    refine ga_one 12 rfl z_6 ?_
    refine gl_buildSliceU rfl rfl rfl rfl rfl rfl (xs := fV [countP m.v]) rfl rfl ?_; intro a39 ha39
    refine gl_nil ?_
    refine at_ga (.inl z_6) ?_
    refine ga_one 13 rfl z_6 ?_
    refine gl_append rfl rfl (fun a' c' => .there (.there (.there .here))) (fun w hw => (hw.ownN z_3).2.2.1) rfl rfl rfl (fV_one _) (by show (cs.length + 1) * 16 ≤ _; omega) (by omega) rfl ?_; intro a5 c5 hc5
    refine gl_nil ?_
    refine at_ga (.inl z_6) ?_
    refine w_ 14 rfl (s_assign rfl) ?_
    refine ga_done z_6 ?_
    rotate_left 1
    all_goals (repeat refine y_ ?_)
    all_goals (
     repeat refine x_ ?_
     refine f_ ((s_add_i64 rfl rfl (by omega)).eq (v' := .int .i64 ((j + 1 : Nat) : Int)) (by congr 1)) ?_
     refine m_ ?_
     refine gl_nil ?_
     repeat refine y_ ?_)
    all_goals (
     refine at_next (j + 1, a5, c5) (by simp only; omega) (by simp only; omega) ?_ ?_
     ·simp only
      rw [hsu, List.length_append, List.length_singleton]
      (repeat (first | exact Sub.nil _ | refine Sub.cons rfl ?_))
     ·intro w hw
      simp only
      rw [hsu]
      show Hp F w [.own (.slice a5 (cs ++ [countP m.v]).length c5) 9 1 (fV (cs ++ [countP m.v])), blkR g1 r x]
      rw [fV_app, List.length_append]
      exact hw.drop.drop.drop)
   ·have hcf : cellF r.kind m.v = [] := by
     unfold cellF
     rw [if_neg hk14, if_neg]
     rintro ⟨h1, h2⟩
     rw [hq1.trans (decide_eq_true h1), hq2.trans (decide_eq_true h2)] at h
     cases h
    rw [hcf, List.append_nil] at hsu
    repeat refine x_ ?_
    refine f_ ((s_add_i64 rfl rfl (by omega)).eq (v' := .int .i64 ((j + 1 : Nat) : Int)) (by congr 1)) ?_
    refine m_ ?_
    repeat refine n_ ?_
    refine at_next (j + 1, a, c) (by simp only; omega) (by simp only; omega) ?_ ?_
    ·simp only
     rw [hsu]
     (repeat (first | exact Sub.nil _ | refine Sub.cons rfl ?_))
    ·intro w hw
     simp only
     rw [hsu]
     exact hw.drop
 have hjn : j = x.vs.length := by simp at h; omega
 subst hjn
 rw [cellJ_all hv] at hcs
 subst hcs
 repeat refine y_ ?_
 refine g_ownN (a := a) (n := (cellsP r).length) (c := c) z_3 (fun _ hnc _ => ?_)
 obtain ⟨T, hT⟩ : ∃ T, T = joinS [32] (cellsP r) := ⟨_, rfl⟩
 have hjn := Join_ct (cellsP r) a c [32] hnc (by omega) (by omega)
 rw [← hT] at hcj hjn
 repeat refine x_ ?_
 refine m_ ?_
 refine gl_callp rfl hjn (fun h hh ⟨bs, hb⟩ => Sat.rd hb z_3) rfl ?_
 refine f_ (s_add_str rfl rfl (by simp only [List.length_singleton]; omega)) ?_
 refine f_ ((s_add_str rfl rfl (by simp only [List.length_append, List.length_singleton]; omega)).eq (v' := B (40 :: T ++ [41])) z_7) ?_
 refine a_ ?_
 repeat refine x_ ?_
 refine f_ z_1 ?_
 refine r_ (by exact s_load_blk rfl z_3 a10_0) ?_
 refine f_ ((s_eql rfl rfl).eq (v' := .bool (decide (r.kind = 14))) rfl) ?_
 repeat refine n_ ?_
 refine g_cond rfl (fun h => ?_) (fun h => ?_)
 ·have hk14 : r.kind = 14 := of_decide_eq_true h
  have e : textP r = 42 :: 32 :: digS r.n ++ wFetch ++ 40 :: T ++ [41] := by rw [hT]; unfold textP; rw [hk14]; rfl
  rw [e]
  repeat refine x_ ?_
  refine f_ z_1 ?_
  refine r_ (by exact s_load_blk rfl z_3 a10_4) ?_
  refine gl_callp rfl (Digits_ct r.n (by omega)) (fun h hh hb => hg.le hh) rfl ?_
  refine f_ (s_add_str rfl rfl (by simp only [List.length_cons, List.length_nil]; omega)) ?_
  refine f_ (s_add_str rfl rfl (by simp only [List.length_append, List.length_cons, List.length_nil]; omega)) ?_
  refine m_ ?_
  refine f_ ((s_add_str rfl rfl (by simp only [List.length_append, List.length_cons, List.length_nil]; omega)).eq (v' := B (42 :: 32 :: digS r.n ++ wFetch ++ 40 :: T ++ [41])) z_7) ?_
  refine a_ ?_
  repeat refine n_ ?_
  refine g_ret ?_
  exact at_end1 rfl rfl [] ⟨rfl, rfl⟩ (fun w hw => hw.dropAll)
 ·have hk12 : r.kind = 12 := by have := of_decide_eq_false h; omega
  have e : textP r = 42 :: 32 :: wStatus ++ formS r.box ++ 32 :: 40 :: T ++ [41] := by rw [hT]; unfold textP; rw [hk12]; rfl
  rw [e]
  repeat refine x_ ?_
  refine f_ z_1 ?_
  refine r_ (by exact s_load_blk rfl z_3 a10_8) ?_
  refine gl_callp rfl (FormW_ct r.box hz.sz.box) (fun h hh hb => hg.le hh) rfl ?_
  refine f_ (s_add_str rfl rfl (by simp only [List.length_cons, List.length_nil]; omega)) ?_
  refine f_ (s_add_str rfl rfl (by simp only [List.length_append, List.length_cons, List.length_nil]; omega)) ?_
  refine m_ ?_
  refine f_ ((s_add_str rfl rfl (by simp only [List.length_append, List.length_cons, List.length_nil]; omega)).eq (v' := B (42 :: 32 :: wStatus ++ formS r.box ++ 32 :: 40 :: T ++ [41])) z_7) ?_
  refine a_ ?_
  repeat refine n_ ?_
  refine g_ret ?_
  exact at_end1 rfl rfl [] ⟨rfl, rfl⟩ (fun w hw => hw.dropAll)
theorem textW_ct (r : RR) (x : RL) (hz : SzW r) (hc : CapL r x) (hv : r.values = x.vs.map VM.v) (hk : 1 ≤ r.kind ∧ r.kind ≤ 14) : Pu Tryz.prog 15 [rrA r x] (PreW r x) (B (textP r)) := by
 have c : (1 ≤ r.kind ∧ r.kind ≤ 4) ∨ r.kind = 5 ∨ r.kind = 6 ∨ r.kind = 7 ∨ r.kind = 8 ∨ r.kind = 9 ∨ r.kind = 10 ∨ r.kind = 11 ∨ r.kind = 13 ∨ (r.kind = 12 ∨ r.kind = 14) := by omega
 rcases c with h | h | h | h | h | h | h | h | h | h
 ·exact textW_s r x hz hv h
 ·exact textW_5 r x hz hc hv h
 ·exact textW_6 r x hz hc hv h
 ·exact textW_7 r x hz hc hv h
 ·exact textW_8 r x hz hc hv h
 ·exact textW_9 r x hz hc hv h
 ·exact textW_10 r x hz hc hv h
 ·exact textW_11 r x hz hc hv h
 ·exact textW_13 r x hz hv h
 ·exact textW_v r x hz hc hv h
end Go.Proofs.YtgllpcggdcknaaaGreatDoor.Rp
