/- The reference's disk: Add, Put, Drop. -/
import Derived.Test.YtolgclfbllcjhaaMD2
namespace Go.Proofs.Ytolgclfbllcjhaa
open Go Go.Sl
set_option linter.unusedVariables false
set_option linter.unusedSimpArgs false

theorem used_done_add {l : List Fl} (hs : Srt l) (c : Cl) (k : Nat) : usedL (doneL l c k) ≤ usedL l + c.s.length := by
  have h := used_without hs c.name
  unfold doneL
  split
  · omega
  · split
    · rw [used_with, List.length_append, List.length_take]; omega
    · split
      · rw [used_with]; omega
      · omega
theorem done_len (l : List Fl) (c : Cl) (k : Nat) : (doneL l c k).length ≤ l.length + 1 := by
  have h := without_le l c.name
  unfold doneL
  split
  · omega
  · split
    · rw [withL, ins_len]; omega
    · split
      · rw [withL, ins_len]; omega
      · omega
theorem rcV_append (a b : List Cl) : rcV (a ++ b) = rcV a ++ rcV b := List.flatMap_append
theorem rcV_len (l : List Cl) : (rcV l).length = l.length * 3 := rec_length (C := rcC) rcC_len l
theorem rcV_one (l : List Cl) : ∀ q ∈ rcV l, q.oneCell' = true := rec_one (C := rcC) rcC_one l
/-- what a call on the reference's disk leaves: the disk, and what is new; what lay there lies there still -/
def RTP (x x' : DM) (r : RA) (e : Int) (v : Value) (A : List As) : Prop := v = .int .i64 e ∧ ∃ r' Z, r'.X = r.X ∧ A = .blk r.X (refO x' r') :: Z ∧ ∀ h, RFacts x r h → (∃ bs, Sat h Z bs) → RFacts x' r' h
theorem RTP.same (x : DM) (r : RA) (e : Int) : RTP x x r e (.int .i64 e) [.blk r.X (refO x r)] := ⟨rfl, r, [], rfl, rfl, fun h f _ => f⟩
theorem RFacts.spend (x : DM) (r : RA) (h : Heap) : RFacts (spendD x) r h ↔ RFacts x r h := by
  unfold spendD; split
  · exact ⟨fun f => ⟨f.seen, f.lasts, f.pend⟩, fun f => ⟨f.seen, f.lasts, f.pend⟩⟩
  · exact Iff.rfl
structure Small (x : DM) (n : Nat) : Prop where
  seen : x.seen.length ≤ n
  lasts : x.lasts.length ≤ n
  pend : x.pend.length ≤ n
set_option maxRecDepth 8000 in
set_option maxHeartbeats 4000000 in
theorem rTurnAdd_ct (x : DM) (r : RA) (name s : Bs) (hI : Inv x) (hsm : Small x 1000000) (hn : name.length ≤ 9223372036854775807) (hs : s.length ≤ 4611686018427387903) : Ct Try.prog 59 [Ptr r.X, .agg #[.int .i64 1, B name, B s]] (RFacts x r) [.blk r.X (refO x r)] (RTP x (turnD x ⟨1, name, s⟩) r (turnE x ⟨1, name, s⟩)) := by
  have hcap := hI.cap
  have hus := hI.used
  have hleft := hI.left
  have h1 := hsm.seen
  have h2 := hsm.pend
  refine ct_enter 91 Try.func59 rfl rfl rfl ?_
  intro F hr
  obtain ⟨q1, hq1⟩ : ∃ q, q = decide ((name.length : Int) < 1) := ⟨_, rfl⟩
  obtain ⟨q2, hq2⟩ : ∃ q, q = decide (80 < (name.length : Int)) := ⟨_, rfl⟩
  have eb : badName name = (q1 || q2) := by
    rw [badName, hq1, hq2]; congr 1 <;> exact decide_eq_decide.2 (by omega)
  cases q1
  rotate_left
  · have ee : turnE x ⟨1, name, s⟩ = 1 := by simp [turnE, eb]
    have et : turnD x ⟨1, name, s⟩ = x := by simp [turnD, turnsD, ee]
    rw [ee, et]
    repeat (first | refine g_seq ?_ | refine at_code ?_ | refine g_skip ?_ | refine g_block ?_ | refine g_exit rfl ?_ | refine g_cond_t rfl ?_ | refine g_cond_f rfl ?_)
    refine g_region ?_
    refine gl_boxA rfl rfl ?_; intro g3
    refine gl_f (s_assign rfl) rfl rfl rfl ?_
    refine gl_nil ?_
    repeat (first | refine g_seq ?_ | refine at_code ?_ | refine g_skip ?_ | refine g_block ?_ | refine g_exit rfl ?_ | refine g_cond_t rfl ?_ | refine g_cond_f rfl ?_)
    refine g_region ?_
    refine gl_f (by first | exact s_fieldAddr rfl (by rfl) (by infer_instance) (by decide) | exact s_fieldAddr_o rfl (by assumption) (by rfl) (by infer_instance) (by decide)) rfl rfl rfl ?_
    refine gl_r (by first | exact s_load_blk rfl (by repeat first|exact .del|apply Upd.there) (by rfl) | exact s_load1 rfl (fun w hw => peekB hw (by assumption) (by rfl))) rfl rfl rfl ?_
    refine gl_f (s_len_str rfl) rfl rfl rfl ?_
    refine gl_f ((s_lss rfl rfl).eq (congrArg Value.bool hq1.symm)) rfl rfl rfl ?_
    refine gl_f (s_move rfl) rfl rfl rfl ?_
    (first | refine gl_guard_no rfl rfl rfl rfl rfl rfl rfl ?_ | refine gl_guard_un rfl rfl rfl rfl rfl rfl ?_ | (refine gl_guard_yes rfl rfl rfl ?_; refine gl_f (by first | exact s_fieldAddr rfl (by rfl) (by infer_instance) (by decide) | exact s_fieldAddr_o rfl (by assumption) (by rfl) (by infer_instance) (by decide)) rfl rfl rfl ?_))
    (first | refine gl_guard_no rfl rfl rfl rfl rfl rfl rfl ?_ | refine gl_guard_un rfl rfl rfl rfl rfl rfl ?_ | (refine gl_guard_yes rfl rfl rfl ?_; refine gl_r (by first | exact s_load_blk rfl (by repeat first|exact .del|apply Upd.there) (by rfl) | exact s_load1 rfl (fun w hw => peekB hw (by assumption) (by rfl))) rfl rfl rfl ?_))
    (first | refine gl_guard_no rfl rfl rfl rfl rfl rfl rfl ?_ | refine gl_guard_un rfl rfl rfl rfl rfl rfl ?_ | (refine gl_guard_yes rfl rfl rfl ?_; refine gl_f (s_len_str rfl) rfl rfl rfl ?_))
    (first | refine gl_guard_no rfl rfl rfl rfl rfl rfl rfl ?_ | refine gl_guard_un rfl rfl rfl rfl rfl rfl ?_ | (refine gl_guard_yes rfl rfl rfl ?_; refine gl_f (s_gtr rfl rfl) rfl rfl rfl ?_))
    refine gl_f (by first | exact s_pick_t rfl rfl | exact s_pick_f rfl rfl) rfl rfl rfl ?_
    refine gl_nil ?_
    repeat (first | refine g_seq ?_ | refine at_code ?_ | refine g_skip ?_ | refine g_block ?_ | refine g_exit rfl ?_ | refine g_cond_t rfl ?_ | refine g_cond_f rfl ?_)
    repeat (first | refine g_seq ?_ | refine at_code ?_ | refine g_skip ?_ | refine g_block ?_ | refine g_exit rfl ?_ | refine g_cond_t rfl ?_ | refine g_cond_f rfl ?_)
    refine g_region ?_
    refine gl_f (s_assign rfl) rfl rfl rfl ?_
    refine gl_nil ?_
    repeat (first | refine g_seq ?_ | refine at_code ?_ | refine g_skip ?_ | refine g_block ?_ | refine g_exit rfl ?_ | refine g_cond_t rfl ?_ | refine g_cond_f rfl ?_)
    refine g_ret ?_
    exact at_end1 rfl rfl [.blk r.X (refO x r)] (RTP.same x r 1) (fun w hw => hw.drop)
  cases q2
  rotate_left
  · have ee : turnE x ⟨1, name, s⟩ = 1 := by simp [turnE, eb]
    have et : turnD x ⟨1, name, s⟩ = x := by simp [turnD, turnsD, ee]
    rw [ee, et]
    repeat (first | refine g_seq ?_ | refine at_code ?_ | refine g_skip ?_ | refine g_block ?_ | refine g_exit rfl ?_ | refine g_cond_t rfl ?_ | refine g_cond_f rfl ?_)
    refine g_region ?_
    refine gl_boxA rfl rfl ?_; intro g3
    refine gl_f (s_assign rfl) rfl rfl rfl ?_
    refine gl_nil ?_
    repeat (first | refine g_seq ?_ | refine at_code ?_ | refine g_skip ?_ | refine g_block ?_ | refine g_exit rfl ?_ | refine g_cond_t rfl ?_ | refine g_cond_f rfl ?_)
    refine g_region ?_
    refine gl_f (by first | exact s_fieldAddr rfl (by rfl) (by infer_instance) (by decide) | exact s_fieldAddr_o rfl (by assumption) (by rfl) (by infer_instance) (by decide)) rfl rfl rfl ?_
    refine gl_r (by first | exact s_load_blk rfl (by repeat first|exact .del|apply Upd.there) (by rfl) | exact s_load1 rfl (fun w hw => peekB hw (by assumption) (by rfl))) rfl rfl rfl ?_
    refine gl_f (s_len_str rfl) rfl rfl rfl ?_
    refine gl_f ((s_lss rfl rfl).eq (congrArg Value.bool hq1.symm)) rfl rfl rfl ?_
    refine gl_f (s_move rfl) rfl rfl rfl ?_
    (first | refine gl_guard_no rfl rfl rfl rfl rfl rfl rfl ?_ | refine gl_guard_un rfl rfl rfl rfl rfl rfl ?_ | (refine gl_guard_yes rfl rfl rfl ?_; refine gl_f (by first | exact s_fieldAddr rfl (by rfl) (by infer_instance) (by decide) | exact s_fieldAddr_o rfl (by assumption) (by rfl) (by infer_instance) (by decide)) rfl rfl rfl ?_))
    (first | refine gl_guard_no rfl rfl rfl rfl rfl rfl rfl ?_ | refine gl_guard_un rfl rfl rfl rfl rfl rfl ?_ | (refine gl_guard_yes rfl rfl rfl ?_; refine gl_r (by first | exact s_load_blk rfl (by repeat first|exact .del|apply Upd.there) (by rfl) | exact s_load1 rfl (fun w hw => peekB hw (by assumption) (by rfl))) rfl rfl rfl ?_))
    (first | refine gl_guard_no rfl rfl rfl rfl rfl rfl rfl ?_ | refine gl_guard_un rfl rfl rfl rfl rfl rfl ?_ | (refine gl_guard_yes rfl rfl rfl ?_; refine gl_f (s_len_str rfl) rfl rfl rfl ?_))
    (first | refine gl_guard_no rfl rfl rfl rfl rfl rfl rfl ?_ | refine gl_guard_un rfl rfl rfl rfl rfl rfl ?_ | (refine gl_guard_yes rfl rfl rfl ?_; refine gl_f ((s_gtr rfl rfl).eq (congrArg Value.bool hq2.symm)) rfl rfl rfl ?_))
    refine gl_f (by first | exact s_pick_t rfl rfl | exact s_pick_f rfl rfl) rfl rfl rfl ?_
    refine gl_nil ?_
    repeat (first | refine g_seq ?_ | refine at_code ?_ | refine g_skip ?_ | refine g_block ?_ | refine g_exit rfl ?_ | refine g_cond_t rfl ?_ | refine g_cond_f rfl ?_)
    repeat (first | refine g_seq ?_ | refine at_code ?_ | refine g_skip ?_ | refine g_block ?_ | refine g_exit rfl ?_ | refine g_cond_t rfl ?_ | refine g_cond_f rfl ?_)
    refine g_region ?_
    refine gl_f (s_assign rfl) rfl rfl rfl ?_
    refine gl_nil ?_
    repeat (first | refine g_seq ?_ | refine at_code ?_ | refine g_skip ?_ | refine g_block ?_ | refine g_exit rfl ?_ | refine g_cond_t rfl ?_ | refine g_cond_f rfl ?_)
    refine g_ret ?_
    exact at_end1 rfl rfl [.blk r.X (refO x r)] (RTP.same x r 1) (fun w hw => hw.drop)
  simp only [Bool.or_false] at eb
  repeat (first | refine g_seq ?_ | refine at_code ?_ | refine g_skip ?_ | refine g_block ?_ | refine g_exit rfl ?_ | refine g_cond_t rfl ?_ | refine g_cond_f rfl ?_)
  refine g_region ?_
  refine gl_boxA rfl rfl ?_; intro g3
  refine gl_f (s_assign rfl) rfl rfl rfl ?_
  refine gl_nil ?_
  repeat (first | refine g_seq ?_ | refine at_code ?_ | refine g_skip ?_ | refine g_block ?_ | refine g_exit rfl ?_ | refine g_cond_t rfl ?_ | refine g_cond_f rfl ?_)
  refine g_region ?_
  refine gl_f (by first | exact s_fieldAddr rfl (by rfl) (by infer_instance) (by decide) | exact s_fieldAddr_o rfl (by assumption) (by rfl) (by infer_instance) (by decide)) rfl rfl rfl ?_
  refine gl_r (by first | exact s_load_blk rfl (by repeat first|exact .del|apply Upd.there) (by rfl) | exact s_load1 rfl (fun w hw => peekB hw (by assumption) (by rfl))) rfl rfl rfl ?_
  refine gl_f (s_len_str rfl) rfl rfl rfl ?_
  refine gl_f ((s_lss rfl rfl).eq (congrArg Value.bool hq1.symm)) rfl rfl rfl ?_
  refine gl_f (s_move rfl) rfl rfl rfl ?_
  (first | refine gl_guard_no rfl rfl rfl rfl rfl rfl rfl ?_ | refine gl_guard_un rfl rfl rfl rfl rfl rfl ?_ | (refine gl_guard_yes rfl rfl rfl ?_; refine gl_f (by first | exact s_fieldAddr rfl (by rfl) (by infer_instance) (by decide) | exact s_fieldAddr_o rfl (by assumption) (by rfl) (by infer_instance) (by decide)) rfl rfl rfl ?_))
  (first | refine gl_guard_no rfl rfl rfl rfl rfl rfl rfl ?_ | refine gl_guard_un rfl rfl rfl rfl rfl rfl ?_ | (refine gl_guard_yes rfl rfl rfl ?_; refine gl_r (by first | exact s_load_blk rfl (by repeat first|exact .del|apply Upd.there) (by rfl) | exact s_load1 rfl (fun w hw => peekB hw (by assumption) (by rfl))) rfl rfl rfl ?_))
  (first | refine gl_guard_no rfl rfl rfl rfl rfl rfl rfl ?_ | refine gl_guard_un rfl rfl rfl rfl rfl rfl ?_ | (refine gl_guard_yes rfl rfl rfl ?_; refine gl_f (s_len_str rfl) rfl rfl rfl ?_))
  (first | refine gl_guard_no rfl rfl rfl rfl rfl rfl rfl ?_ | refine gl_guard_un rfl rfl rfl rfl rfl rfl ?_ | (refine gl_guard_yes rfl rfl rfl ?_; refine gl_f ((s_gtr rfl rfl).eq (congrArg Value.bool hq2.symm)) rfl rfl rfl ?_))
  refine gl_f (by first | exact s_pick_t rfl rfl | exact s_pick_f rfl rfl) rfl rfl rfl ?_
  refine gl_nil ?_
  repeat (first | refine g_seq ?_ | refine at_code ?_ | refine g_skip ?_ | refine g_block ?_ | refine g_exit rfl ?_ | refine g_cond_t rfl ?_ | refine g_cond_f rfl ?_)
  obtain ⟨q3, hq3⟩ : ∃ q, q = offD x := ⟨_, rfl⟩
  cases q3
  rotate_left
  · have ee : turnE x ⟨1, name, s⟩ = 8 := by simp [turnE, eb, ← hq3]
    have et : turnD x ⟨1, name, s⟩ = x := by simp [turnD, turnsD, ee]
    rw [ee, et]
    repeat (first | refine g_seq ?_ | refine at_code ?_ | refine g_skip ?_ | refine g_block ?_ | refine g_exit rfl ?_ | refine g_cond_t rfl ?_ | refine g_cond_f rfl ?_)
    refine g_region ?_
    refine gl_f (s_move rfl) rfl rfl rfl ?_
    refine gl_callp rfl (rOff_ct x r) (fun h hh ⟨bs, hb⟩ => Sat.blk hb (by repeat first|exact .del|apply Upd.there)) rfl ?_; rw [← hq3]
    refine gl_nil ?_
    repeat (first | refine g_seq ?_ | refine at_code ?_ | refine g_skip ?_ | refine g_block ?_ | refine g_exit rfl ?_ | refine g_cond_t rfl ?_ | refine g_cond_f rfl ?_)
    repeat (first | refine g_seq ?_ | refine at_code ?_ | refine g_skip ?_ | refine g_block ?_ | refine g_exit rfl ?_ | refine g_cond_t rfl ?_ | refine g_cond_f rfl ?_)
    refine g_region ?_
    refine gl_f (s_assign rfl) rfl rfl rfl ?_
    refine gl_nil ?_
    repeat (first | refine g_seq ?_ | refine at_code ?_ | refine g_skip ?_ | refine g_block ?_ | refine g_exit rfl ?_ | refine g_cond_t rfl ?_ | refine g_cond_f rfl ?_)
    refine g_ret ?_
    exact at_end1 rfl rfl [.blk r.X (refO x r)] (RTP.same x r 8) (fun w hw => hw.drop)
  repeat (first | refine g_seq ?_ | refine at_code ?_ | refine g_skip ?_ | refine g_block ?_ | refine g_exit rfl ?_ | refine g_cond_t rfl ?_ | refine g_cond_f rfl ?_)
  refine g_region ?_
  refine gl_f (s_move rfl) rfl rfl rfl ?_
  refine gl_callp rfl (rOff_ct x r) (fun h hh ⟨bs, hb⟩ => Sat.blk hb (by repeat first|exact .del|apply Upd.there)) rfl ?_; rw [← hq3]
  refine gl_nil ?_
  repeat (first | refine g_seq ?_ | refine at_code ?_ | refine g_skip ?_ | refine g_block ?_ | refine g_exit rfl ?_ | refine g_cond_t rfl ?_ | refine g_cond_f rfl ?_)
  obtain ⟨q4, hq4⟩ : ∃ q, q = (getL x.seen name).isSome := ⟨_, rfl⟩
  repeat (first | refine g_seq ?_ | refine at_code ?_ | refine g_skip ?_ | refine g_block ?_ | refine g_exit rfl ?_ | refine g_cond_t rfl ?_ | refine g_cond_f rfl ?_)
  refine g_draw [3, 5] [.blk g3 (.cells #[.int .i64 1, B name, B s] 95), .blk r.X (refO x r)] 12 rfl ?_
  refine ga_free 0 rfl (s_move rfl) rfl rfl rfl (by kernel_rfl) ?_
  refine ga_free 1 rfl (s_nilCheck rfl) rfl rfl rfl (by kernel_rfl) ?_
  refine ga_free 2 rfl (by first | exact s_fieldAddr rfl (by rfl) (by infer_instance) (by decide) | exact s_fieldAddr_o rfl (by assumption) (by rfl) (by infer_instance) (by decide)) rfl rfl rfl (by kernel_rfl) ?_
  (first | refine ga_read_k 3 rfl (by first | exact .head _ | exact .tail _ (.head _) | exact .tail _ (.tail _ (.head _)) | exact .tail _ (.tail _ (.tail _ (.head _)))) (s_load_blk rfl .del (by rfl)) (by (first | exact fun _ h => h | (repeat first | exact sub_nil | refine sub_cons (by repeat first | exact List.Mem.head _ | apply List.Mem.tail) ?_))) rfl rfl rfl (by kernel_rfl) ?_ | refine ga_readF 3 rfl (s_load1 rfl (fun w hw => peekB hw (by assumption) (by rfl))) (by (first | exact fun _ h => h | (repeat first | exact sub_nil | refine sub_cons (by repeat first | exact List.Mem.head _ | apply List.Mem.tail) ?_))) rfl rfl rfl (by kernel_rfl) ?_)
  refine ga_free 4 rfl (by first | exact s_fieldAddr rfl (by rfl) (by infer_instance) (by decide) | exact s_fieldAddr_o rfl (by assumption) (by rfl) (by infer_instance) (by decide)) rfl rfl rfl (by kernel_rfl) ?_
  (first | refine ga_read_k 5 rfl (by first | exact .head _ | exact .tail _ (.head _) | exact .tail _ (.tail _ (.head _)) | exact .tail _ (.tail _ (.tail _ (.head _)))) (s_load_blk rfl .del (by rfl)) (by (first | exact fun _ h => h | (repeat first | exact sub_nil | refine sub_cons (by repeat first | exact List.Mem.head _ | apply List.Mem.tail) ?_))) rfl rfl rfl (by kernel_rfl) ?_ | refine ga_readF 5 rfl (s_load1 rfl (fun w hw => peekB hw (by assumption) (by rfl))) (by (first | exact fun _ h => h | (repeat first | exact sub_nil | refine sub_cons (by repeat first | exact List.Mem.head _ | apply List.Mem.tail) ?_))) rfl rfl rfl (by kernel_rfl) ?_)
  refine ga_one 6 rfl (by kernel_rfl) ?_
  refine gl_callp rfl (Get_ct x.seen name r.sa r.sc (by omega)) (fun h hh _ => hr.seen.le hh) rfl ?_; rw [← hq4]
  refine gl_nil ?_
  refine at_ga (.inl (by kernel_rfl)) ?_
  refine ga_free 7 rfl (s_move rfl) rfl rfl rfl (by kernel_rfl) ?_
  refine ga_free 8 rfl (s_extract rfl rfl) rfl rfl rfl (by kernel_rfl) ?_
  refine ga_free 9 rfl (s_extract rfl rfl) rfl rfl rfl (by kernel_rfl) ?_
  refine ga_free 10 rfl (s_assign rfl) rfl rfl rfl (by kernel_rfl) ?_
  refine ga_free 11 rfl (s_assign rfl) rfl rfl rfl (by kernel_rfl) ?_
  refine ga_done (by kernel_rfl) ?_
  repeat (first | refine g_seq ?_ | refine at_code ?_ | refine g_skip ?_ | refine g_block ?_ | refine g_exit rfl ?_ | refine g_cond_t rfl ?_ | refine g_cond_f rfl ?_)
  repeat (first | refine g_seq ?_ | refine at_code ?_ | refine g_skip ?_ | refine g_block ?_ | refine g_exit rfl ?_ | refine g_cond_t rfl ?_ | refine g_cond_f rfl ?_)
  refine g_region ?_
  refine gl_f (by first | exact s_fieldAddr rfl (by rfl) (by infer_instance) (by decide) | exact s_fieldAddr_o rfl (by assumption) (by rfl) (by infer_instance) (by decide)) rfl rfl rfl ?_
  refine gl_r (by first | exact s_load_blk rfl (by repeat first|exact .del|apply Upd.there) (by rfl) | exact s_load1 rfl (fun w hw => peekB hw (by assumption) (by rfl))) rfl rfl rfl ?_
  refine gl_f (s_eql rfl rfl) rfl rfl rfl ?_
  refine gl_f (s_move rfl) rfl rfl rfl ?_
  (first | refine gl_guard_no rfl rfl rfl rfl rfl rfl rfl ?_ | refine gl_guard_un rfl rfl rfl rfl rfl rfl ?_ | (refine gl_guard_yes rfl rfl rfl ?_; refine gl_f (s_move rfl) rfl rfl rfl ?_))
  (first | refine gl_guard_no rfl rfl rfl rfl rfl rfl rfl ?_ | refine gl_guard_un rfl rfl rfl rfl rfl rfl ?_ | (refine gl_guard_yes rfl rfl rfl ?_; refine gl_f (s_not rfl) rfl rfl rfl ?_))
  refine gl_f (by first | exact s_pick_t rfl rfl | exact s_pick_f rfl rfl) rfl rfl rfl ?_
  refine gl_nil ?_
  repeat (first | refine g_seq ?_ | refine at_code ?_ | refine g_skip ?_ | refine g_block ?_ | refine g_exit rfl ?_ | refine g_cond_t rfl ?_ | refine g_cond_f rfl ?_)
  obtain ⟨q7, hq7⟩ : ∃ q, q = decide (s = []) := ⟨_, rfl⟩
  cases q7
  rotate_left
  · have hs0 := of_decide_eq_true hq7.symm
    have ee : turnE x ⟨1, name, s⟩ = 0 := by simp [turnE, eb, ← hq3, hs0]
    have et : turnD x ⟨1, name, s⟩ = x := by simp [turnD, turnsD, hs0]
    rw [ee, et]
    repeat (first | refine g_seq ?_ | refine at_code ?_ | refine g_skip ?_ | refine g_block ?_ | refine g_exit rfl ?_ | refine g_cond_t rfl ?_ | refine g_cond_f rfl ?_)
    refine g_region ?_
    refine gl_f (by first | exact s_fieldAddr rfl (by rfl) (by infer_instance) (by decide) | exact s_fieldAddr_o rfl (by assumption) (by rfl) (by infer_instance) (by decide)) rfl rfl rfl ?_
    refine gl_r (by first | exact s_load_blk rfl (by repeat first|exact .del|apply Upd.there) (by rfl) | exact s_load1 rfl (fun w hw => peekB hw (by assumption) (by rfl))) rfl rfl rfl ?_
    refine gl_f (s_eql rfl rfl) rfl rfl rfl ?_
    refine gl_f (s_move rfl) rfl rfl rfl ?_
    (first | refine gl_guard_no rfl rfl rfl rfl rfl rfl rfl ?_ | refine gl_guard_un rfl rfl rfl rfl rfl rfl ?_ | (refine gl_guard_yes rfl rfl rfl ?_; refine gl_f (by first | exact s_fieldAddr rfl (by rfl) (by infer_instance) (by decide) | exact s_fieldAddr_o rfl (by assumption) (by rfl) (by infer_instance) (by decide)) rfl rfl rfl ?_))
    (first | refine gl_guard_no rfl rfl rfl rfl rfl rfl rfl ?_ | refine gl_guard_un rfl rfl rfl rfl rfl rfl ?_ | (refine gl_guard_yes rfl rfl rfl ?_; refine gl_r (by first | exact s_load_blk rfl (by repeat first|exact .del|apply Upd.there) (by rfl) | exact s_load1 rfl (fun w hw => peekB hw (by assumption) (by rfl))) rfl rfl rfl ?_))
    (first | refine gl_guard_no rfl rfl rfl rfl rfl rfl rfl ?_ | refine gl_guard_un rfl rfl rfl rfl rfl rfl ?_ | (refine gl_guard_yes rfl rfl rfl ?_; refine gl_f ((s_eql_str (l' := []) rfl rfl).eq (congrArg Value.bool hq7.symm)) rfl rfl rfl ?_))
    refine gl_f (by first | exact s_pick_t rfl rfl | exact s_pick_f rfl rfl) rfl rfl rfl ?_
    refine gl_nil ?_
    repeat (first | refine g_seq ?_ | refine at_code ?_ | refine g_skip ?_ | refine g_block ?_ | refine g_exit rfl ?_ | refine g_cond_t rfl ?_ | refine g_cond_f rfl ?_)
    repeat (first | refine g_seq ?_ | refine at_code ?_ | refine g_skip ?_ | refine g_block ?_ | refine g_exit rfl ?_ | refine g_cond_t rfl ?_ | refine g_cond_f rfl ?_)
    refine g_region ?_
    refine gl_f (s_assign rfl) rfl rfl rfl ?_
    refine gl_nil ?_
    repeat (first | refine g_seq ?_ | refine at_code ?_ | refine g_skip ?_ | refine g_block ?_ | refine g_exit rfl ?_ | refine g_cond_t rfl ?_ | refine g_cond_f rfl ?_)
    refine g_ret ?_
    exact at_end1 rfl rfl [.blk r.X (refO x r)] (RTP.same x r 0) (fun w hw => hw.drop)
  have hs0 := of_decide_eq_false hq7.symm
  have hst : stepsC ⟨1, name, s⟩ ≠ 0 := by simp [stepsC, hs0]
  repeat (first | refine g_seq ?_ | refine at_code ?_ | refine g_skip ?_ | refine g_block ?_ | refine g_exit rfl ?_ | refine g_cond_t rfl ?_ | refine g_cond_f rfl ?_)
  refine g_region ?_
  refine gl_f (by first | exact s_fieldAddr rfl (by rfl) (by infer_instance) (by decide) | exact s_fieldAddr_o rfl (by assumption) (by rfl) (by infer_instance) (by decide)) rfl rfl rfl ?_
  refine gl_r (by first | exact s_load_blk rfl (by repeat first|exact .del|apply Upd.there) (by rfl) | exact s_load1 rfl (fun w hw => peekB hw (by assumption) (by rfl))) rfl rfl rfl ?_
  refine gl_f (s_eql rfl rfl) rfl rfl rfl ?_
  refine gl_f (s_move rfl) rfl rfl rfl ?_
  (first | refine gl_guard_no rfl rfl rfl rfl rfl rfl rfl ?_ | refine gl_guard_un rfl rfl rfl rfl rfl rfl ?_ | (refine gl_guard_yes rfl rfl rfl ?_; refine gl_f (by first | exact s_fieldAddr rfl (by rfl) (by infer_instance) (by decide) | exact s_fieldAddr_o rfl (by assumption) (by rfl) (by infer_instance) (by decide)) rfl rfl rfl ?_))
  (first | refine gl_guard_no rfl rfl rfl rfl rfl rfl rfl ?_ | refine gl_guard_un rfl rfl rfl rfl rfl rfl ?_ | (refine gl_guard_yes rfl rfl rfl ?_; refine gl_r (by first | exact s_load_blk rfl (by repeat first|exact .del|apply Upd.there) (by rfl) | exact s_load1 rfl (fun w hw => peekB hw (by assumption) (by rfl))) rfl rfl rfl ?_))
  (first | refine gl_guard_no rfl rfl rfl rfl rfl rfl rfl ?_ | refine gl_guard_un rfl rfl rfl rfl rfl rfl ?_ | (refine gl_guard_yes rfl rfl rfl ?_; refine gl_f ((s_eql_str (l' := []) rfl rfl).eq (congrArg Value.bool hq7.symm)) rfl rfl rfl ?_))
  refine gl_f (by first | exact s_pick_t rfl rfl | exact s_pick_f rfl rfl) rfl rfl rfl ?_
  refine gl_nil ?_
  repeat (first | refine g_seq ?_ | refine at_code ?_ | refine g_skip ?_ | refine g_block ?_ | refine g_exit rfl ?_ | refine g_cond_t rfl ?_ | refine g_cond_f rfl ?_)
  have hgl : ((getL x.seen name).getD []).length ≤ usedL x.seen := by have := used_without hI.seen name; omega
  obtain ⟨l, hle⟩ : ∃ l, l = doneL x.seen ⟨1, name, s⟩ (stepsC ⟨1, name, s⟩) := ⟨_, rfl⟩
  have hll := done_len x.seen ⟨1, name, s⟩ (stepsC ⟨1, name, s⟩)
  have hul := used_done_add hI.seen ⟨1, name, s⟩ (stepsC ⟨1, name, s⟩)
  simp only at hul
  rw [← hle] at hll hul
  repeat (first | refine g_seq ?_ | refine at_code ?_ | refine g_skip ?_ | refine g_block ?_ | refine g_exit rfl ?_ | refine g_cond_t rfl ?_ | refine g_cond_f rfl ?_)
  refine g_draw [3, 4, 5] [.blk g3 (.cells #[.int .i64 1, B name, B s] 95), .blk r.X (refO x r)] 9 rfl ?_
  refine ga_free 0 rfl (s_move rfl) rfl rfl rfl (by kernel_rfl) ?_
  refine ga_free 1 rfl (s_nilCheck rfl) rfl rfl rfl (by kernel_rfl) ?_
  refine ga_free 2 rfl (by first | exact s_fieldAddr rfl (by rfl) (by infer_instance) (by decide) | exact s_fieldAddr_o rfl (by assumption) (by rfl) (by infer_instance) (by decide)) rfl rfl rfl (by kernel_rfl) ?_
  (first | refine ga_read_k 3 rfl (by first | exact .head _ | exact .tail _ (.head _) | exact .tail _ (.tail _ (.head _)) | exact .tail _ (.tail _ (.tail _ (.head _)))) (s_load_blk rfl .del (by rfl)) (by (first | exact fun _ h => h | (repeat first | exact sub_nil | refine sub_cons (by repeat first | exact List.Mem.head _ | apply List.Mem.tail) ?_))) rfl rfl rfl (by kernel_rfl) ?_ | refine ga_readF 3 rfl (s_load1 rfl (fun w hw => peekB hw (by assumption) (by rfl))) (by (first | exact fun _ h => h | (repeat first | exact sub_nil | refine sub_cons (by repeat first | exact List.Mem.head _ | apply List.Mem.tail) ?_))) rfl rfl rfl (by kernel_rfl) ?_)
  (first | refine ga_read_k 4 rfl (by first | exact .head _ | exact .tail _ (.head _) | exact .tail _ (.tail _ (.head _)) | exact .tail _ (.tail _ (.tail _ (.head _)))) (s_load_blkW rfl .del (by rfl)) (by (first | exact fun _ h => h | (repeat first | exact sub_nil | refine sub_cons (by repeat first | exact List.Mem.head _ | apply List.Mem.tail) ?_))) rfl rfl rfl (by kernel_rfl) ?_ | refine ga_read_k 4 rfl (by first | exact .head _ | exact .tail _ (.head _) | exact .tail _ (.tail _ (.head _)) | exact .tail _ (.tail _ (.tail _ (.head _)))) (s_load_blkN rfl .del (by rfl)) (by (first | exact fun _ h => h | (repeat first | exact sub_nil | refine sub_cons (by repeat first | exact List.Mem.head _ | apply List.Mem.tail) ?_))) rfl rfl rfl (by kernel_rfl) ?_ | refine ga_readF 4 rfl (s_loadN rfl (fun w hw => peekBN hw (by assumption)) (by rfl)) (by (first | exact fun _ h => h | (repeat first | exact sub_nil | refine sub_cons (by repeat first | exact List.Mem.head _ | apply List.Mem.tail) ?_))) rfl rfl rfl (by kernel_rfl) ?_)
  (first | refine ga_read_k 5 rfl (by first | exact .head _ | exact .tail _ (.head _) | exact .tail _ (.tail _ (.head _)) | exact .tail _ (.tail _ (.tail _ (.head _)))) (s_load_blkW rfl .del (by rfl)) (by (first | exact fun _ h => h | (repeat first | exact sub_nil | refine sub_cons (by repeat first | exact List.Mem.head _ | apply List.Mem.tail) ?_))) rfl rfl rfl (by kernel_rfl) ?_ | refine ga_read_k 5 rfl (by first | exact .head _ | exact .tail _ (.head _) | exact .tail _ (.tail _ (.head _)) | exact .tail _ (.tail _ (.tail _ (.head _)))) (s_load_blkN rfl .del (by rfl)) (by (first | exact fun _ h => h | (repeat first | exact sub_nil | refine sub_cons (by repeat first | exact List.Mem.head _ | apply List.Mem.tail) ?_))) rfl rfl rfl (by kernel_rfl) ?_ | refine ga_readF 5 rfl (s_loadN rfl (fun w hw => peekBN hw (by assumption)) (by rfl)) (by (first | exact fun _ h => h | (repeat first | exact sub_nil | refine sub_cons (by repeat first | exact List.Mem.head _ | apply List.Mem.tail) ?_))) rfl rfl rfl (by kernel_rfl) ?_)
  refine ga_one 6 rfl (by kernel_rfl) ?_
  refine gl_callp rfl (Steps_ct ⟨1, name, s⟩) (fun _ _ _ => trivial) rfl ?_
  refine gl_nil ?_
  refine at_ga (.inr (by exact keeps_of (by (first | exact fun _ h => h | (repeat first | exact sub_nil | refine sub_cons (by repeat first | exact List.Mem.head _ | apply List.Mem.tail) ?_))))) ?_
  refine ga_one 7 rfl (by kernel_rfl) ?_
  refine gl_call _ rfl (Done_ct x.seen ⟨1, name, s⟩ (stepsC ⟨1, name, s⟩) r.sa r.sc (by omega) (by simp) (Nat.le_refl _) (by simp only; omega)) (fun w hw => hw) (fun h hh _ => hr.seen.le hh) rfl ?_; rintro v A (⟨h9, _⟩ | ⟨_, sa, sc, rfl, rfl⟩); exact absurd h9 hst; rw [← hle]
  refine gl_nil ?_
  refine at_ga (.inr (by exact keeps_of (by (first | exact fun _ h => h | (repeat first | exact sub_nil | refine sub_cons (by repeat first | exact List.Mem.head _ | apply List.Mem.tail) ?_))))) ?_
  refine ga_free 8 rfl (s_assign rfl) rfl rfl rfl (by kernel_rfl) ?_
  refine ga_done (by kernel_rfl) ?_
  repeat (first | refine g_seq ?_ | refine at_code ?_ | refine g_skip ?_ | refine g_block ?_ | refine g_exit rfl ?_ | refine g_cond_t rfl ?_ | refine g_cond_f rfl ?_)
  repeat (first | refine g_seq ?_ | refine at_code ?_ | refine g_skip ?_ | refine g_block ?_ | refine g_exit rfl ?_ | refine g_cond_t rfl ?_ | refine g_cond_f rfl ?_)
  refine g_region ?_
  refine gl_f (by first | exact s_fieldAddr rfl (by rfl) (by infer_instance) (by decide) | exact s_fieldAddr_o rfl (by assumption) (by rfl) (by infer_instance) (by decide)) rfl rfl rfl ?_
  refine gl_r (by first | exact s_load_blk rfl (by repeat first|exact .del|apply Upd.there) (by rfl) | exact s_load1 rfl (fun w hw => peekB hw (by assumption) (by rfl))) rfl rfl rfl ?_
  refine gl_f (s_eql rfl rfl) rfl rfl rfl ?_
  refine gl_nil ?_
  repeat (first | refine g_seq ?_ | refine at_code ?_ | refine g_skip ?_ | refine g_block ?_ | refine g_exit rfl ?_ | refine g_cond_t rfl ?_ | refine g_cond_f rfl ?_)
  obtain ⟨q9, hq9⟩ : ∃ q, q = decide (x.cap < (usedL l : Nat)) := ⟨_, rfl⟩
  have ef : fullC x ⟨1, name, s⟩ = q9 := by rw [fullC, hq9, hle]; rfl
  cases q9
  rotate_left
  · have ee : turnE x ⟨1, name, s⟩ = 7 := by simp [turnE, eb, ← hq3, ef, hs0]
    have et : turnD x ⟨1, name, s⟩ = x := by simp [turnD, turnsD, ee]
    rw [ee, et]
    repeat (first | refine g_seq ?_ | refine at_code ?_ | refine g_skip ?_ | refine g_block ?_ | refine g_exit rfl ?_ | refine g_cond_t rfl ?_ | refine g_cond_f rfl ?_)
    refine g_draw0 [5] 7 rfl ?_
    refine ga_free 0 rfl (s_move rfl) rfl rfl rfl (by kernel_rfl) ?_
    refine ga_free 2 rfl (s_move rfl) rfl rfl rfl (by kernel_rfl) ?_
    refine ga_free 3 rfl (s_nilCheck rfl) rfl rfl rfl (by kernel_rfl) ?_
    refine ga_free 4 rfl (by first | exact s_fieldAddr rfl (by rfl) (by infer_instance) (by decide) | exact s_fieldAddr_o rfl (by assumption) (by rfl) (by infer_instance) (by decide)) rfl rfl rfl (by kernel_rfl) ?_
    (first | refine ga_read 5 rfl (by repeat first|exact .del|apply Upd.there) (s_load_blk rfl .del (by rfl)) rfl rfl rfl (by kernel_rfl) ?_ | refine ga_readF 5 rfl (s_load1 rfl (fun w hw => peekB hw (by assumption) (by rfl))) (by (first | exact fun _ h => h | (repeat first | exact sub_nil | refine sub_cons (by repeat first | exact List.Mem.head _ | apply List.Mem.tail) ?_))) rfl rfl rfl (by kernel_rfl) ?_)
    refine ga_one 1 rfl (by kernel_rfl) ?_
    refine gl_callp rfl (rUsed_ct l sa sc (by omega) (by omega)) (fun h hh ⟨bs, hb⟩ => Sat.rd (a := sa) hb (by repeat first|exact .del|apply Upd.there)) rfl ?_
    refine gl_nil ?_
    refine at_ga (.inr (by exact keeps_of (by (first | exact fun _ h => h | (repeat first | exact sub_nil | refine sub_cons (by repeat first | exact List.Mem.head _ | apply List.Mem.tail) ?_))))) ?_
    refine ga_free 6 rfl ((s_gtr rfl rfl).eq (congrArg Value.bool hq9.symm)) rfl rfl rfl (by kernel_rfl) ?_
    refine ga_done (by kernel_rfl) ?_
    repeat (first | refine g_seq ?_ | refine at_code ?_ | refine g_skip ?_ | refine g_block ?_ | refine g_exit rfl ?_ | refine g_cond_t rfl ?_ | refine g_cond_f rfl ?_)
    repeat (first | refine g_seq ?_ | refine at_code ?_ | refine g_skip ?_ | refine g_block ?_ | refine g_exit rfl ?_ | refine g_cond_t rfl ?_ | refine g_cond_f rfl ?_)
    refine g_region ?_
    refine gl_f (s_assign rfl) rfl rfl rfl ?_
    refine gl_nil ?_
    repeat (first | refine g_seq ?_ | refine at_code ?_ | refine g_skip ?_ | refine g_block ?_ | refine g_exit rfl ?_ | refine g_cond_t rfl ?_ | refine g_cond_f rfl ?_)
    refine g_ret ?_
    exact at_end1 rfl rfl [.blk r.X (refO x r)] (RTP.same x r 7) (fun w hw => Hp.left (R := [_, _]) (hw.perm (perm_up (by repeat first|exact .del|apply Upd.there) (.refl _))))
  have ht : turnsD x ⟨1, name, s⟩ = true := turnsD_iff.2 ⟨eb, hq3.symm, (by simp), (by simp [hs0]), ef⟩
  have ee : turnE x ⟨1, name, s⟩ = 0 := by simp [turnE, eb, ← hq3, ef, hs0]
  have et : turnD x ⟨1, name, s⟩ = spendD { x with seen := l, pend := x.pend ++ [⟨1, name, s⟩] } := by rw [turnD, if_pos ht, turnX, hle]
  have ho : x.fused = true → 1 ≤ x.left := fun hf => by
    have := hq3.symm
    simp only [offD, hf, Bool.true_and, decide_eq_false_iff_not] at this; omega
  rw [ee, et]
  repeat (first | refine g_seq ?_ | refine at_code ?_ | refine g_skip ?_ | refine g_block ?_ | refine g_exit rfl ?_ | refine g_cond_t rfl ?_ | refine g_cond_f rfl ?_)
  refine g_draw0 [5] 7 rfl ?_
  refine ga_free 0 rfl (s_move rfl) rfl rfl rfl (by kernel_rfl) ?_
  refine ga_free 2 rfl (s_move rfl) rfl rfl rfl (by kernel_rfl) ?_
  refine ga_free 3 rfl (s_nilCheck rfl) rfl rfl rfl (by kernel_rfl) ?_
  refine ga_free 4 rfl (by first | exact s_fieldAddr rfl (by rfl) (by infer_instance) (by decide) | exact s_fieldAddr_o rfl (by assumption) (by rfl) (by infer_instance) (by decide)) rfl rfl rfl (by kernel_rfl) ?_
  (first | refine ga_read 5 rfl (by repeat first|exact .del|apply Upd.there) (s_load_blk rfl .del (by rfl)) rfl rfl rfl (by kernel_rfl) ?_ | refine ga_readF 5 rfl (s_load1 rfl (fun w hw => peekB hw (by assumption) (by rfl))) (by (first | exact fun _ h => h | (repeat first | exact sub_nil | refine sub_cons (by repeat first | exact List.Mem.head _ | apply List.Mem.tail) ?_))) rfl rfl rfl (by kernel_rfl) ?_)
  refine ga_one 1 rfl (by kernel_rfl) ?_
  refine gl_callp rfl (rUsed_ct l sa sc (by omega) (by omega)) (fun h hh ⟨bs, hb⟩ => Sat.rd (a := sa) hb (by repeat first|exact .del|apply Upd.there)) rfl ?_
  refine gl_nil ?_
  refine at_ga (.inr (by exact keeps_of (by (first | exact fun _ h => h | (repeat first | exact sub_nil | refine sub_cons (by repeat first | exact List.Mem.head _ | apply List.Mem.tail) ?_))))) ?_
  refine ga_free 6 rfl ((s_gtr rfl rfl).eq (congrArg Value.bool hq9.symm)) rfl rfl rfl (by kernel_rfl) ?_
  refine ga_done (by kernel_rfl) ?_
  repeat (first | refine g_seq ?_ | refine at_code ?_ | refine g_skip ?_ | refine g_block ?_ | refine g_exit rfl ?_ | refine g_cond_t rfl ?_ | refine g_cond_f rfl ?_)
  have elen : (x.pend ++ [(⟨1, name, s⟩ : Cl)]).length = x.pend.length + 1 := by simp
  repeat (first | refine g_seq ?_ | refine at_code ?_ | refine g_skip ?_ | refine g_block ?_ | refine g_exit rfl ?_ | refine g_cond_t rfl ?_ | refine g_cond_f rfl ?_)
  refine g_region ?_
  refine gl_f (s_move rfl) rfl rfl rfl ?_
  refine gl_f (s_move rfl) rfl rfl rfl ?_
  refine gl_f (s_nilCheck rfl) rfl rfl rfl ?_
  refine gl_f (by first | exact s_fieldAddr rfl (by rfl) (by infer_instance) (by decide) | exact s_fieldAddr_o rfl (by assumption) (by rfl) (by infer_instance) (by decide)) rfl rfl rfl ?_
  (first | refine gl_store_blkC (pre := [_]) (post := [_, _, _, _]) rfl rfl (by repeat first|exact .here|apply Upd.there) (by rfl) (by rfl) (by rfl) ?_ | refine gl_store_blk rfl rfl (by repeat first|exact .here|apply Upd.there) (by rfl) (by (intro q hq; simp [Value.cells] at hq; first | (subst hq; rfl) | (rcases hq with rfl | rfl | rfl | rfl | rfl | rfl | rfl | rfl <;> rfl) | (rcases hq with rfl | rfl | rfl | rfl | rfl | rfl | rfl <;> rfl) | (rcases hq with rfl | rfl | rfl | rfl | rfl | rfl <;> rfl) | (rcases hq with rfl | rfl | rfl | rfl | rfl <;> rfl) | (rcases hq with rfl | rfl | rfl | rfl <;> rfl) | (rcases hq with rfl | rfl | rfl <;> rfl) | (rcases hq with rfl | rfl <;> rfl))) (by rfl) ?_)
  refine gl_nil ?_
  repeat (first | refine g_seq ?_ | refine at_code ?_ | refine g_skip ?_ | refine g_block ?_ | refine g_exit rfl ?_ | refine g_cond_t rfl ?_ | refine g_cond_f rfl ?_)
  refine g_draw [5, 7] [.blk r.X (.cells #[.int .i64 x.cap, .slice sa l.length sc, .slice r.la x.lasts.length r.lc, .slice r.pa x.pend.length r.pc, .bool x.fused, .int .i64 x.left] 75), .blk g3 (.cells #[.int .i64 1, B name, B s] 95)] 13 rfl ?_
  refine ga_free 0 rfl (s_move rfl) rfl rfl rfl (by kernel_rfl) ?_
  refine ga_free 2 rfl (s_move rfl) rfl rfl rfl (by kernel_rfl) ?_
  refine ga_free 3 rfl (s_nilCheck rfl) rfl rfl rfl (by kernel_rfl) ?_
  refine ga_free 4 rfl (by first | exact s_fieldAddr rfl (by rfl) (by infer_instance) (by decide) | exact s_fieldAddr_o rfl (by assumption) (by rfl) (by infer_instance) (by decide)) rfl rfl rfl (by kernel_rfl) ?_
  (first | refine ga_read_k 5 rfl (by first | exact .head _ | exact .tail _ (.head _) | exact .tail _ (.tail _ (.head _)) | exact .tail _ (.tail _ (.tail _ (.head _)))) (s_load_blk rfl .del (by rfl)) (by (first | exact fun _ h => h | (repeat first | exact sub_nil | refine sub_cons (by repeat first | exact List.Mem.head _ | apply List.Mem.tail) ?_))) rfl rfl rfl (by kernel_rfl) ?_ | refine ga_readF 5 rfl (s_load1 rfl (fun w hw => peekB hw (by assumption) (by rfl))) (by (first | exact fun _ h => h | (repeat first | exact sub_nil | refine sub_cons (by repeat first | exact List.Mem.head _ | apply List.Mem.tail) ?_))) rfl rfl rfl (by kernel_rfl) ?_)
  (first | refine ga_read_k 7 rfl (by first | exact .head _ | exact .tail _ (.head _) | exact .tail _ (.tail _ (.head _)) | exact .tail _ (.tail _ (.tail _ (.head _)))) (s_load_blkW rfl .del (by rfl)) (by (first | exact fun _ h => h | (repeat first | exact sub_nil | refine sub_cons (by repeat first | exact List.Mem.head _ | apply List.Mem.tail) ?_))) rfl rfl rfl (by kernel_rfl) ?_ | refine ga_read_k 7 rfl (by first | exact .head _ | exact .tail _ (.head _) | exact .tail _ (.tail _ (.head _)) | exact .tail _ (.tail _ (.tail _ (.head _)))) (s_load_blkN rfl .del (by rfl)) (by (first | exact fun _ h => h | (repeat first | exact sub_nil | refine sub_cons (by repeat first | exact List.Mem.head _ | apply List.Mem.tail) ?_))) rfl rfl rfl (by kernel_rfl) ?_ | refine ga_readF 7 rfl (s_loadN rfl (fun w hw => peekBN hw (by assumption)) (by rfl)) (by (first | exact fun _ h => h | (repeat first | exact sub_nil | refine sub_cons (by repeat first | exact List.Mem.head _ | apply List.Mem.tail) ?_))) rfl rfl rfl (by kernel_rfl) ?_)
  refine ga_two 1 8 rfl rfl (by kernel_rfl) ?_ ?_
  refine gl_buildSlice0 rfl ?_; intro a78
  refine gl_nil ?_
  refine at_ga (.inr (by exact keeps_of (by (first | exact fun _ h => h | (repeat first | exact sub_nil | refine sub_cons (by repeat first | exact List.Mem.head _ | apply List.Mem.tail) ?_))))) ?_
  refine ga_two 6 8 rfl rfl (by kernel_rfl) ?_ ?_
  refine gl_append rfl rfl (fun a' c' => by first | exact .here | exact .there .here | exact .there (.there .here)) (fun w hw => hr.pend.le hw.keep) (rcV_len _) rfl rfl (rcV_one _) (by show (_ + _) * 40 ≤ _; omega) (by omega) rfl ?_; intro a6 c6 hc6; rw [Nat.zero_add, List.nil_append]
  refine gl_nil ?_
  refine at_ga (.inr (by exact keeps_of (by (first | exact fun _ h => h | (repeat first | exact sub_nil | refine sub_cons (by repeat first | exact List.Mem.head _ | apply List.Mem.tail) ?_))))) ?_
  refine ga_one 8 rfl (by kernel_rfl) ?_
  refine gl_buildSliceU rfl rfl rfl rfl rfl rfl (xs := rcV [⟨1, name, s⟩]) rfl rfl ?_; intro a8 ha8
  refine gl_nil ?_
  refine at_ga (.inr (by exact keeps_of (by (first | exact fun _ h => h | (repeat first | exact sub_nil | refine sub_cons (by repeat first | exact List.Mem.head _ | apply List.Mem.tail) ?_))))) ?_
  refine ga_one 9 rfl (by kernel_rfl) ?_
  refine gl_append rfl rfl (fun a' c' => by first | exact .here | exact .there .here | exact .there (.there .here)) (fun w hw => (hw.ownN (by repeat first|exact .del|apply Upd.there)).2.2.1) rfl rfl rfl (rcV_one _) (by show (_ + 1) * 40 ≤ _; omega) (by omega) rfl ?_; intro a9 c9 hc9
  refine gl_nil ?_
  refine at_ga (.inr (by exact keeps_of (by (first | exact fun _ h => h | (repeat first | exact sub_nil | refine sub_cons (by repeat first | exact List.Mem.head _ | apply List.Mem.tail) ?_))))) ?_
  refine ga_free 10 rfl (s_nilCheck rfl) rfl rfl rfl (by kernel_rfl) ?_
  refine ga_free 11 rfl (by first | exact s_fieldAddr rfl (by rfl) (by infer_instance) (by decide) | exact s_fieldAddr_o rfl (by assumption) (by rfl) (by infer_instance) (by decide)) rfl rfl rfl (by kernel_rfl) ?_
  refine ga_one 12 rfl (by kernel_rfl) ?_
  (first | refine gl_store_blkC (pre := [_, _, _]) (post := [_, _]) rfl rfl (by repeat first|exact .here|apply Upd.there) (by rfl) (by rfl) (by rfl) ?_ | refine gl_store_blk rfl rfl (by repeat first|exact .here|apply Upd.there) (by rfl) (by (intro q hq; simp [Value.cells] at hq; first | (subst hq; rfl) | (rcases hq with rfl | rfl | rfl | rfl | rfl | rfl | rfl | rfl <;> rfl) | (rcases hq with rfl | rfl | rfl | rfl | rfl | rfl | rfl <;> rfl) | (rcases hq with rfl | rfl | rfl | rfl | rfl | rfl <;> rfl) | (rcases hq with rfl | rfl | rfl | rfl | rfl <;> rfl) | (rcases hq with rfl | rfl | rfl | rfl <;> rfl) | (rcases hq with rfl | rfl | rfl <;> rfl) | (rcases hq with rfl | rfl <;> rfl))) (by rfl) ?_)
  refine gl_nil ?_
  refine at_ga (.inl (by kernel_rfl)) ?_
  refine ga_done (by kernel_rfl) ?_
  rotate_left 1
  refine gl_buildSliceU rfl rfl rfl rfl rfl rfl (xs := rcV [⟨1, name, s⟩]) rfl rfl ?_; intro a8 ha8
  refine gl_nil ?_
  refine at_ga (.inr (by exact keeps_of (by (first | exact fun _ h => h | (repeat first | exact sub_nil | refine sub_cons (by repeat first | exact List.Mem.head _ | apply List.Mem.tail) ?_))))) ?_
  refine ga_one 6 rfl (by kernel_rfl) ?_
  refine gl_append rfl rfl (fun a' c' => by first | exact .here | exact .there .here | exact .there (.there .here)) (fun w hw => hr.pend.le hw.keep) (rcV_len _) rfl rfl (rcV_one _) (by show (_ + _) * 40 ≤ _; omega) (by omega) rfl ?_; intro a6 c6 hc6; rw [Nat.zero_add, List.nil_append]
  refine gl_nil ?_
  refine at_ga (.inr (by exact keeps_of (by (first | exact fun _ h => h | (repeat first | exact sub_nil | refine sub_cons (by repeat first | exact List.Mem.head _ | apply List.Mem.tail) ?_))))) ?_
  refine ga_one 9 rfl (by kernel_rfl) ?_
  refine gl_append rfl rfl (fun a' c' => by first | exact .here | exact .there .here | exact .there (.there .here)) (fun w hw => (hw.ownN (by repeat first|exact .del|apply Upd.there)).2.2.1) rfl rfl rfl (rcV_one _) (by show (_ + 1) * 40 ≤ _; omega) (by omega) rfl ?_; intro a9 c9 hc9
  refine gl_nil ?_
  refine at_ga (.inr (by exact keeps_of (by (first | exact fun _ h => h | (repeat first | exact sub_nil | refine sub_cons (by repeat first | exact List.Mem.head _ | apply List.Mem.tail) ?_))))) ?_
  refine ga_free 10 rfl (s_nilCheck rfl) rfl rfl rfl (by kernel_rfl) ?_
  refine ga_free 11 rfl (by first | exact s_fieldAddr rfl (by rfl) (by infer_instance) (by decide) | exact s_fieldAddr_o rfl (by assumption) (by rfl) (by infer_instance) (by decide)) rfl rfl rfl (by kernel_rfl) ?_
  refine ga_one 12 rfl (by kernel_rfl) ?_
  (first | refine gl_store_blkC (pre := [_, _, _]) (post := [_, _]) rfl rfl (by repeat first|exact .here|apply Upd.there) (by rfl) (by rfl) (by rfl) ?_ | refine gl_store_blk rfl rfl (by repeat first|exact .here|apply Upd.there) (by rfl) (by (intro q hq; simp [Value.cells] at hq; first | (subst hq; rfl) | (rcases hq with rfl | rfl | rfl | rfl | rfl | rfl | rfl | rfl <;> rfl) | (rcases hq with rfl | rfl | rfl | rfl | rfl | rfl | rfl <;> rfl) | (rcases hq with rfl | rfl | rfl | rfl | rfl | rfl <;> rfl) | (rcases hq with rfl | rfl | rfl | rfl | rfl <;> rfl) | (rcases hq with rfl | rfl | rfl | rfl <;> rfl) | (rcases hq with rfl | rfl | rfl <;> rfl) | (rcases hq with rfl | rfl <;> rfl))) (by rfl) ?_)
  refine gl_nil ?_
  refine at_ga (.inl (by kernel_rfl)) ?_
  refine ga_done (by kernel_rfl) ?_
  rotate_left 1
  refine gl_buildSliceU rfl rfl rfl rfl rfl rfl (xs := rcV [⟨1, name, s⟩]) rfl rfl ?_; intro a8 ha8
  refine gl_nil ?_
  refine at_ga (.inr (by exact keeps_of (by (first | exact fun _ h => h | (repeat first | exact sub_nil | refine sub_cons (by repeat first | exact List.Mem.head _ | apply List.Mem.tail) ?_))))) ?_
  refine ga_one 1 rfl (by kernel_rfl) ?_
  refine gl_buildSlice0 rfl ?_; intro a78
  refine gl_nil ?_
  refine at_ga (.inr (by exact keeps_of (by (first | exact fun _ h => h | (repeat first | exact sub_nil | refine sub_cons (by repeat first | exact List.Mem.head _ | apply List.Mem.tail) ?_))))) ?_
  refine ga_one 6 rfl (by kernel_rfl) ?_
  refine gl_append rfl rfl (fun a' c' => by first | exact .here | exact .there .here | exact .there (.there .here)) (fun w hw => hr.pend.le hw.keep) (rcV_len _) rfl rfl (rcV_one _) (by show (_ + _) * 40 ≤ _; omega) (by omega) rfl ?_; intro a6 c6 hc6; rw [Nat.zero_add, List.nil_append]
  refine gl_nil ?_
  refine at_ga (.inr (by exact keeps_of (by (first | exact fun _ h => h | (repeat first | exact sub_nil | refine sub_cons (by repeat first | exact List.Mem.head _ | apply List.Mem.tail) ?_))))) ?_
  refine ga_one 9 rfl (by kernel_rfl) ?_
  refine gl_append rfl rfl (fun a' c' => by first | exact .here | exact .there .here | exact .there (.there .here)) (fun w hw => (hw.ownN (by repeat first|exact .del|apply Upd.there)).2.2.1) rfl rfl rfl (rcV_one _) (by show (_ + 1) * 40 ≤ _; omega) (by omega) rfl ?_; intro a9 c9 hc9
  refine gl_nil ?_
  refine at_ga (.inr (by exact keeps_of (by (first | exact fun _ h => h | (repeat first | exact sub_nil | refine sub_cons (by repeat first | exact List.Mem.head _ | apply List.Mem.tail) ?_))))) ?_
  refine ga_free 10 rfl (s_nilCheck rfl) rfl rfl rfl (by kernel_rfl) ?_
  refine ga_free 11 rfl (by first | exact s_fieldAddr rfl (by rfl) (by infer_instance) (by decide) | exact s_fieldAddr_o rfl (by assumption) (by rfl) (by infer_instance) (by decide)) rfl rfl rfl (by kernel_rfl) ?_
  refine ga_one 12 rfl (by kernel_rfl) ?_
  (first | refine gl_store_blkC (pre := [_, _, _]) (post := [_, _]) rfl rfl (by repeat first|exact .here|apply Upd.there) (by rfl) (by rfl) (by rfl) ?_ | refine gl_store_blk rfl rfl (by repeat first|exact .here|apply Upd.there) (by rfl) (by (intro q hq; simp [Value.cells] at hq; first | (subst hq; rfl) | (rcases hq with rfl | rfl | rfl | rfl | rfl | rfl | rfl | rfl <;> rfl) | (rcases hq with rfl | rfl | rfl | rfl | rfl | rfl | rfl <;> rfl) | (rcases hq with rfl | rfl | rfl | rfl | rfl | rfl <;> rfl) | (rcases hq with rfl | rfl | rfl | rfl | rfl <;> rfl) | (rcases hq with rfl | rfl | rfl | rfl <;> rfl) | (rcases hq with rfl | rfl | rfl <;> rfl) | (rcases hq with rfl | rfl <;> rfl))) (by rfl) ?_)
  refine gl_nil ?_
  refine at_ga (.inl (by kernel_rfl)) ?_
  refine ga_done (by kernel_rfl) ?_
  rotate_left 1
  all_goals (repeat (first | refine g_seq ?_ | refine at_code ?_ | refine g_skip ?_ | refine g_block ?_ | refine g_exit rfl ?_ | refine g_cond_t rfl ?_ | refine g_cond_f rfl ?_))
  all_goals (rw [← elen, ← rcV_append])
  all_goals (
    repeat (first | refine g_seq ?_ | refine at_code ?_ | refine g_skip ?_ | refine g_block ?_ | refine g_exit rfl ?_ | refine g_cond_t rfl ?_ | refine g_cond_f rfl ?_)
    refine g_region ?_
    refine gl_f (s_move rfl) rfl rfl rfl ?_
    refine gl_call _ rfl (rSpend_ct { x with seen := l, pend := x.pend ++ [⟨1, name, s⟩] } ⟨r.X, sa, sc, r.la, r.lc, a9, c9⟩ (fun h => by have := ho h; simp only; omega)) (fun w hw => hw.perm (perm_up (by repeat first|exact .del|apply Upd.there) (.refl _))) (fun _ _ _ => trivial) rfl ?_; rintro v A ⟨rfl, rfl⟩
    refine gl_nil ?_
    repeat (first | refine g_seq ?_ | refine at_code ?_ | refine g_skip ?_ | refine g_block ?_ | refine g_exit rfl ?_ | refine g_cond_t rfl ?_ | refine g_cond_f rfl ?_))
  all_goals (
    repeat (first | refine g_seq ?_ | refine at_code ?_ | refine g_skip ?_ | refine g_block ?_ | refine g_exit rfl ?_ | refine g_cond_t rfl ?_ | refine g_cond_f rfl ?_)
    refine g_region ?_
    refine gl_f (s_assign rfl) rfl rfl rfl ?_
    refine gl_nil ?_
    repeat (first | refine g_seq ?_ | refine at_code ?_ | refine g_skip ?_ | refine g_block ?_ | refine g_exit rfl ?_ | refine g_cond_t rfl ?_ | refine g_cond_f rfl ?_))
  all_goals (
    refine g_ret ?_
    refine at_end1 rfl rfl [.blk r.X (refO (spendD { x with seen := l, pend := x.pend ++ [⟨1, name, s⟩] }) ⟨r.X, sa, sc, r.la, r.lc, a9, c9⟩), OwnF sa l sc, OwnR a9 (x.pend ++ [⟨1, name, s⟩]) c9] ⟨rfl, ⟨r.X, sa, sc, r.la, r.lc, a9, c9⟩, [OwnF sa l sc, OwnR a9 (x.pend ++ [⟨1, name, s⟩]) c9], rfl, rfl, fun h f ⟨bs, hb⟩ => (RFacts.spend _ _ _).2 ⟨Sat.rd (a := sa) hb (by repeat first|exact .del|apply Upd.there), f.lasts, Sat.rd (a := a9) hb (by repeat first|exact .del|apply Upd.there)⟩⟩ ?_
    intro w hw
    exact Hp.left (hw.perm (perm_up (by repeat first|exact .del|apply Upd.there) (perm_up (by repeat first|exact .del|apply Upd.there) (perm_up (by repeat first|exact .del|apply Upd.there) (.refl _))))))
set_option maxRecDepth 8000 in
set_option maxHeartbeats 4000000 in
theorem rTurnPut_ct (x : DM) (r : RA) (name s : Bs) (hI : Inv x) (hsm : Small x 1000000) (hn : name.length ≤ 9223372036854775807) (hs : s.length ≤ 4611686018427387903) : Ct Try.prog 59 [Ptr r.X, .agg #[.int .i64 2, B name, B s]] (RFacts x r) [.blk r.X (refO x r)] (RTP x (turnD x ⟨2, name, s⟩) r (turnE x ⟨2, name, s⟩)) := by
  have hcap := hI.cap
  have hus := hI.used
  have hleft := hI.left
  have h1 := hsm.seen
  have h2 := hsm.pend
  refine ct_enter 91 Try.func59 rfl rfl rfl ?_
  intro F hr
  obtain ⟨q1, hq1⟩ : ∃ q, q = decide ((name.length : Int) < 1) := ⟨_, rfl⟩
  obtain ⟨q2, hq2⟩ : ∃ q, q = decide (80 < (name.length : Int)) := ⟨_, rfl⟩
  have eb : badName name = (q1 || q2) := by
    rw [badName, hq1, hq2]; congr 1 <;> exact decide_eq_decide.2 (by omega)
  cases q1
  rotate_left
  · have ee : turnE x ⟨2, name, s⟩ = 1 := by simp [turnE, eb]
    have et : turnD x ⟨2, name, s⟩ = x := by simp [turnD, turnsD, ee]
    rw [ee, et]
    repeat (first | refine g_seq ?_ | refine at_code ?_ | refine g_skip ?_ | refine g_block ?_ | refine g_exit rfl ?_ | refine g_cond_t rfl ?_ | refine g_cond_f rfl ?_)
    refine g_region ?_
    refine gl_boxA rfl rfl ?_; intro g3
    refine gl_f (s_assign rfl) rfl rfl rfl ?_
    refine gl_nil ?_
    repeat (first | refine g_seq ?_ | refine at_code ?_ | refine g_skip ?_ | refine g_block ?_ | refine g_exit rfl ?_ | refine g_cond_t rfl ?_ | refine g_cond_f rfl ?_)
    refine g_region ?_
    refine gl_f (by first | exact s_fieldAddr rfl (by rfl) (by infer_instance) (by decide) | exact s_fieldAddr_o rfl (by assumption) (by rfl) (by infer_instance) (by decide)) rfl rfl rfl ?_
    refine gl_r (by first | exact s_load_blk rfl (by repeat first|exact .del|apply Upd.there) (by rfl) | exact s_load1 rfl (fun w hw => peekB hw (by assumption) (by rfl))) rfl rfl rfl ?_
    refine gl_f (s_len_str rfl) rfl rfl rfl ?_
    refine gl_f ((s_lss rfl rfl).eq (congrArg Value.bool hq1.symm)) rfl rfl rfl ?_
    refine gl_f (s_move rfl) rfl rfl rfl ?_
    (first | refine gl_guard_no rfl rfl rfl rfl rfl rfl rfl ?_ | refine gl_guard_un rfl rfl rfl rfl rfl rfl ?_ | (refine gl_guard_yes rfl rfl rfl ?_; refine gl_f (by first | exact s_fieldAddr rfl (by rfl) (by infer_instance) (by decide) | exact s_fieldAddr_o rfl (by assumption) (by rfl) (by infer_instance) (by decide)) rfl rfl rfl ?_))
    (first | refine gl_guard_no rfl rfl rfl rfl rfl rfl rfl ?_ | refine gl_guard_un rfl rfl rfl rfl rfl rfl ?_ | (refine gl_guard_yes rfl rfl rfl ?_; refine gl_r (by first | exact s_load_blk rfl (by repeat first|exact .del|apply Upd.there) (by rfl) | exact s_load1 rfl (fun w hw => peekB hw (by assumption) (by rfl))) rfl rfl rfl ?_))
    (first | refine gl_guard_no rfl rfl rfl rfl rfl rfl rfl ?_ | refine gl_guard_un rfl rfl rfl rfl rfl rfl ?_ | (refine gl_guard_yes rfl rfl rfl ?_; refine gl_f (s_len_str rfl) rfl rfl rfl ?_))
    (first | refine gl_guard_no rfl rfl rfl rfl rfl rfl rfl ?_ | refine gl_guard_un rfl rfl rfl rfl rfl rfl ?_ | (refine gl_guard_yes rfl rfl rfl ?_; refine gl_f (s_gtr rfl rfl) rfl rfl rfl ?_))
    refine gl_f (by first | exact s_pick_t rfl rfl | exact s_pick_f rfl rfl) rfl rfl rfl ?_
    refine gl_nil ?_
    repeat (first | refine g_seq ?_ | refine at_code ?_ | refine g_skip ?_ | refine g_block ?_ | refine g_exit rfl ?_ | refine g_cond_t rfl ?_ | refine g_cond_f rfl ?_)
    repeat (first | refine g_seq ?_ | refine at_code ?_ | refine g_skip ?_ | refine g_block ?_ | refine g_exit rfl ?_ | refine g_cond_t rfl ?_ | refine g_cond_f rfl ?_)
    refine g_region ?_
    refine gl_f (s_assign rfl) rfl rfl rfl ?_
    refine gl_nil ?_
    repeat (first | refine g_seq ?_ | refine at_code ?_ | refine g_skip ?_ | refine g_block ?_ | refine g_exit rfl ?_ | refine g_cond_t rfl ?_ | refine g_cond_f rfl ?_)
    refine g_ret ?_
    exact at_end1 rfl rfl [.blk r.X (refO x r)] (RTP.same x r 1) (fun w hw => hw.drop)
  cases q2
  rotate_left
  · have ee : turnE x ⟨2, name, s⟩ = 1 := by simp [turnE, eb]
    have et : turnD x ⟨2, name, s⟩ = x := by simp [turnD, turnsD, ee]
    rw [ee, et]
    repeat (first | refine g_seq ?_ | refine at_code ?_ | refine g_skip ?_ | refine g_block ?_ | refine g_exit rfl ?_ | refine g_cond_t rfl ?_ | refine g_cond_f rfl ?_)
    refine g_region ?_
    refine gl_boxA rfl rfl ?_; intro g3
    refine gl_f (s_assign rfl) rfl rfl rfl ?_
    refine gl_nil ?_
    repeat (first | refine g_seq ?_ | refine at_code ?_ | refine g_skip ?_ | refine g_block ?_ | refine g_exit rfl ?_ | refine g_cond_t rfl ?_ | refine g_cond_f rfl ?_)
    refine g_region ?_
    refine gl_f (by first | exact s_fieldAddr rfl (by rfl) (by infer_instance) (by decide) | exact s_fieldAddr_o rfl (by assumption) (by rfl) (by infer_instance) (by decide)) rfl rfl rfl ?_
    refine gl_r (by first | exact s_load_blk rfl (by repeat first|exact .del|apply Upd.there) (by rfl) | exact s_load1 rfl (fun w hw => peekB hw (by assumption) (by rfl))) rfl rfl rfl ?_
    refine gl_f (s_len_str rfl) rfl rfl rfl ?_
    refine gl_f ((s_lss rfl rfl).eq (congrArg Value.bool hq1.symm)) rfl rfl rfl ?_
    refine gl_f (s_move rfl) rfl rfl rfl ?_
    (first | refine gl_guard_no rfl rfl rfl rfl rfl rfl rfl ?_ | refine gl_guard_un rfl rfl rfl rfl rfl rfl ?_ | (refine gl_guard_yes rfl rfl rfl ?_; refine gl_f (by first | exact s_fieldAddr rfl (by rfl) (by infer_instance) (by decide) | exact s_fieldAddr_o rfl (by assumption) (by rfl) (by infer_instance) (by decide)) rfl rfl rfl ?_))
    (first | refine gl_guard_no rfl rfl rfl rfl rfl rfl rfl ?_ | refine gl_guard_un rfl rfl rfl rfl rfl rfl ?_ | (refine gl_guard_yes rfl rfl rfl ?_; refine gl_r (by first | exact s_load_blk rfl (by repeat first|exact .del|apply Upd.there) (by rfl) | exact s_load1 rfl (fun w hw => peekB hw (by assumption) (by rfl))) rfl rfl rfl ?_))
    (first | refine gl_guard_no rfl rfl rfl rfl rfl rfl rfl ?_ | refine gl_guard_un rfl rfl rfl rfl rfl rfl ?_ | (refine gl_guard_yes rfl rfl rfl ?_; refine gl_f (s_len_str rfl) rfl rfl rfl ?_))
    (first | refine gl_guard_no rfl rfl rfl rfl rfl rfl rfl ?_ | refine gl_guard_un rfl rfl rfl rfl rfl rfl ?_ | (refine gl_guard_yes rfl rfl rfl ?_; refine gl_f ((s_gtr rfl rfl).eq (congrArg Value.bool hq2.symm)) rfl rfl rfl ?_))
    refine gl_f (by first | exact s_pick_t rfl rfl | exact s_pick_f rfl rfl) rfl rfl rfl ?_
    refine gl_nil ?_
    repeat (first | refine g_seq ?_ | refine at_code ?_ | refine g_skip ?_ | refine g_block ?_ | refine g_exit rfl ?_ | refine g_cond_t rfl ?_ | refine g_cond_f rfl ?_)
    repeat (first | refine g_seq ?_ | refine at_code ?_ | refine g_skip ?_ | refine g_block ?_ | refine g_exit rfl ?_ | refine g_cond_t rfl ?_ | refine g_cond_f rfl ?_)
    refine g_region ?_
    refine gl_f (s_assign rfl) rfl rfl rfl ?_
    refine gl_nil ?_
    repeat (first | refine g_seq ?_ | refine at_code ?_ | refine g_skip ?_ | refine g_block ?_ | refine g_exit rfl ?_ | refine g_cond_t rfl ?_ | refine g_cond_f rfl ?_)
    refine g_ret ?_
    exact at_end1 rfl rfl [.blk r.X (refO x r)] (RTP.same x r 1) (fun w hw => hw.drop)
  simp only [Bool.or_false] at eb
  repeat (first | refine g_seq ?_ | refine at_code ?_ | refine g_skip ?_ | refine g_block ?_ | refine g_exit rfl ?_ | refine g_cond_t rfl ?_ | refine g_cond_f rfl ?_)
  refine g_region ?_
  refine gl_boxA rfl rfl ?_; intro g3
  refine gl_f (s_assign rfl) rfl rfl rfl ?_
  refine gl_nil ?_
  repeat (first | refine g_seq ?_ | refine at_code ?_ | refine g_skip ?_ | refine g_block ?_ | refine g_exit rfl ?_ | refine g_cond_t rfl ?_ | refine g_cond_f rfl ?_)
  refine g_region ?_
  refine gl_f (by first | exact s_fieldAddr rfl (by rfl) (by infer_instance) (by decide) | exact s_fieldAddr_o rfl (by assumption) (by rfl) (by infer_instance) (by decide)) rfl rfl rfl ?_
  refine gl_r (by first | exact s_load_blk rfl (by repeat first|exact .del|apply Upd.there) (by rfl) | exact s_load1 rfl (fun w hw => peekB hw (by assumption) (by rfl))) rfl rfl rfl ?_
  refine gl_f (s_len_str rfl) rfl rfl rfl ?_
  refine gl_f ((s_lss rfl rfl).eq (congrArg Value.bool hq1.symm)) rfl rfl rfl ?_
  refine gl_f (s_move rfl) rfl rfl rfl ?_
  (first | refine gl_guard_no rfl rfl rfl rfl rfl rfl rfl ?_ | refine gl_guard_un rfl rfl rfl rfl rfl rfl ?_ | (refine gl_guard_yes rfl rfl rfl ?_; refine gl_f (by first | exact s_fieldAddr rfl (by rfl) (by infer_instance) (by decide) | exact s_fieldAddr_o rfl (by assumption) (by rfl) (by infer_instance) (by decide)) rfl rfl rfl ?_))
  (first | refine gl_guard_no rfl rfl rfl rfl rfl rfl rfl ?_ | refine gl_guard_un rfl rfl rfl rfl rfl rfl ?_ | (refine gl_guard_yes rfl rfl rfl ?_; refine gl_r (by first | exact s_load_blk rfl (by repeat first|exact .del|apply Upd.there) (by rfl) | exact s_load1 rfl (fun w hw => peekB hw (by assumption) (by rfl))) rfl rfl rfl ?_))
  (first | refine gl_guard_no rfl rfl rfl rfl rfl rfl rfl ?_ | refine gl_guard_un rfl rfl rfl rfl rfl rfl ?_ | (refine gl_guard_yes rfl rfl rfl ?_; refine gl_f (s_len_str rfl) rfl rfl rfl ?_))
  (first | refine gl_guard_no rfl rfl rfl rfl rfl rfl rfl ?_ | refine gl_guard_un rfl rfl rfl rfl rfl rfl ?_ | (refine gl_guard_yes rfl rfl rfl ?_; refine gl_f ((s_gtr rfl rfl).eq (congrArg Value.bool hq2.symm)) rfl rfl rfl ?_))
  refine gl_f (by first | exact s_pick_t rfl rfl | exact s_pick_f rfl rfl) rfl rfl rfl ?_
  refine gl_nil ?_
  repeat (first | refine g_seq ?_ | refine at_code ?_ | refine g_skip ?_ | refine g_block ?_ | refine g_exit rfl ?_ | refine g_cond_t rfl ?_ | refine g_cond_f rfl ?_)
  obtain ⟨q3, hq3⟩ : ∃ q, q = offD x := ⟨_, rfl⟩
  cases q3
  rotate_left
  · have ee : turnE x ⟨2, name, s⟩ = 8 := by simp [turnE, eb, ← hq3]
    have et : turnD x ⟨2, name, s⟩ = x := by simp [turnD, turnsD, ee]
    rw [ee, et]
    repeat (first | refine g_seq ?_ | refine at_code ?_ | refine g_skip ?_ | refine g_block ?_ | refine g_exit rfl ?_ | refine g_cond_t rfl ?_ | refine g_cond_f rfl ?_)
    refine g_region ?_
    refine gl_f (s_move rfl) rfl rfl rfl ?_
    refine gl_callp rfl (rOff_ct x r) (fun h hh ⟨bs, hb⟩ => Sat.blk hb (by repeat first|exact .del|apply Upd.there)) rfl ?_; rw [← hq3]
    refine gl_nil ?_
    repeat (first | refine g_seq ?_ | refine at_code ?_ | refine g_skip ?_ | refine g_block ?_ | refine g_exit rfl ?_ | refine g_cond_t rfl ?_ | refine g_cond_f rfl ?_)
    repeat (first | refine g_seq ?_ | refine at_code ?_ | refine g_skip ?_ | refine g_block ?_ | refine g_exit rfl ?_ | refine g_cond_t rfl ?_ | refine g_cond_f rfl ?_)
    refine g_region ?_
    refine gl_f (s_assign rfl) rfl rfl rfl ?_
    refine gl_nil ?_
    repeat (first | refine g_seq ?_ | refine at_code ?_ | refine g_skip ?_ | refine g_block ?_ | refine g_exit rfl ?_ | refine g_cond_t rfl ?_ | refine g_cond_f rfl ?_)
    refine g_ret ?_
    exact at_end1 rfl rfl [.blk r.X (refO x r)] (RTP.same x r 8) (fun w hw => hw.drop)
  repeat (first | refine g_seq ?_ | refine at_code ?_ | refine g_skip ?_ | refine g_block ?_ | refine g_exit rfl ?_ | refine g_cond_t rfl ?_ | refine g_cond_f rfl ?_)
  refine g_region ?_
  refine gl_f (s_move rfl) rfl rfl rfl ?_
  refine gl_callp rfl (rOff_ct x r) (fun h hh ⟨bs, hb⟩ => Sat.blk hb (by repeat first|exact .del|apply Upd.there)) rfl ?_; rw [← hq3]
  refine gl_nil ?_
  repeat (first | refine g_seq ?_ | refine at_code ?_ | refine g_skip ?_ | refine g_block ?_ | refine g_exit rfl ?_ | refine g_cond_t rfl ?_ | refine g_cond_f rfl ?_)
  obtain ⟨q4, hq4⟩ : ∃ q, q = (getL x.seen name).isSome := ⟨_, rfl⟩
  repeat (first | refine g_seq ?_ | refine at_code ?_ | refine g_skip ?_ | refine g_block ?_ | refine g_exit rfl ?_ | refine g_cond_t rfl ?_ | refine g_cond_f rfl ?_)
  refine g_draw [3, 5] [.blk g3 (.cells #[.int .i64 2, B name, B s] 95), .blk r.X (refO x r)] 12 rfl ?_
  refine ga_free 0 rfl (s_move rfl) rfl rfl rfl (by kernel_rfl) ?_
  refine ga_free 1 rfl (s_nilCheck rfl) rfl rfl rfl (by kernel_rfl) ?_
  refine ga_free 2 rfl (by first | exact s_fieldAddr rfl (by rfl) (by infer_instance) (by decide) | exact s_fieldAddr_o rfl (by assumption) (by rfl) (by infer_instance) (by decide)) rfl rfl rfl (by kernel_rfl) ?_
  (first | refine ga_read_k 3 rfl (by first | exact .head _ | exact .tail _ (.head _) | exact .tail _ (.tail _ (.head _)) | exact .tail _ (.tail _ (.tail _ (.head _)))) (s_load_blk rfl .del (by rfl)) (by (first | exact fun _ h => h | (repeat first | exact sub_nil | refine sub_cons (by repeat first | exact List.Mem.head _ | apply List.Mem.tail) ?_))) rfl rfl rfl (by kernel_rfl) ?_ | refine ga_readF 3 rfl (s_load1 rfl (fun w hw => peekB hw (by assumption) (by rfl))) (by (first | exact fun _ h => h | (repeat first | exact sub_nil | refine sub_cons (by repeat first | exact List.Mem.head _ | apply List.Mem.tail) ?_))) rfl rfl rfl (by kernel_rfl) ?_)
  refine ga_free 4 rfl (by first | exact s_fieldAddr rfl (by rfl) (by infer_instance) (by decide) | exact s_fieldAddr_o rfl (by assumption) (by rfl) (by infer_instance) (by decide)) rfl rfl rfl (by kernel_rfl) ?_
  (first | refine ga_read_k 5 rfl (by first | exact .head _ | exact .tail _ (.head _) | exact .tail _ (.tail _ (.head _)) | exact .tail _ (.tail _ (.tail _ (.head _)))) (s_load_blk rfl .del (by rfl)) (by (first | exact fun _ h => h | (repeat first | exact sub_nil | refine sub_cons (by repeat first | exact List.Mem.head _ | apply List.Mem.tail) ?_))) rfl rfl rfl (by kernel_rfl) ?_ | refine ga_readF 5 rfl (s_load1 rfl (fun w hw => peekB hw (by assumption) (by rfl))) (by (first | exact fun _ h => h | (repeat first | exact sub_nil | refine sub_cons (by repeat first | exact List.Mem.head _ | apply List.Mem.tail) ?_))) rfl rfl rfl (by kernel_rfl) ?_)
  refine ga_one 6 rfl (by kernel_rfl) ?_
  refine gl_callp rfl (Get_ct x.seen name r.sa r.sc (by omega)) (fun h hh _ => hr.seen.le hh) rfl ?_; rw [← hq4]
  refine gl_nil ?_
  refine at_ga (.inl (by kernel_rfl)) ?_
  refine ga_free 7 rfl (s_move rfl) rfl rfl rfl (by kernel_rfl) ?_
  refine ga_free 8 rfl (s_extract rfl rfl) rfl rfl rfl (by kernel_rfl) ?_
  refine ga_free 9 rfl (s_extract rfl rfl) rfl rfl rfl (by kernel_rfl) ?_
  refine ga_free 10 rfl (s_assign rfl) rfl rfl rfl (by kernel_rfl) ?_
  refine ga_free 11 rfl (s_assign rfl) rfl rfl rfl (by kernel_rfl) ?_
  refine ga_done (by kernel_rfl) ?_
  repeat (first | refine g_seq ?_ | refine at_code ?_ | refine g_skip ?_ | refine g_block ?_ | refine g_exit rfl ?_ | refine g_cond_t rfl ?_ | refine g_cond_f rfl ?_)
  repeat (first | refine g_seq ?_ | refine at_code ?_ | refine g_skip ?_ | refine g_block ?_ | refine g_exit rfl ?_ | refine g_cond_t rfl ?_ | refine g_cond_f rfl ?_)
  refine g_region ?_
  refine gl_f (by first | exact s_fieldAddr rfl (by rfl) (by infer_instance) (by decide) | exact s_fieldAddr_o rfl (by assumption) (by rfl) (by infer_instance) (by decide)) rfl rfl rfl ?_
  refine gl_r (by first | exact s_load_blk rfl (by repeat first|exact .del|apply Upd.there) (by rfl) | exact s_load1 rfl (fun w hw => peekB hw (by assumption) (by rfl))) rfl rfl rfl ?_
  refine gl_f (s_eql rfl rfl) rfl rfl rfl ?_
  refine gl_f (s_move rfl) rfl rfl rfl ?_
  (first | refine gl_guard_no rfl rfl rfl rfl rfl rfl rfl ?_ | refine gl_guard_un rfl rfl rfl rfl rfl rfl ?_ | (refine gl_guard_yes rfl rfl rfl ?_; refine gl_f (s_move rfl) rfl rfl rfl ?_))
  (first | refine gl_guard_no rfl rfl rfl rfl rfl rfl rfl ?_ | refine gl_guard_un rfl rfl rfl rfl rfl rfl ?_ | (refine gl_guard_yes rfl rfl rfl ?_; refine gl_f (s_not rfl) rfl rfl rfl ?_))
  refine gl_f (by first | exact s_pick_t rfl rfl | exact s_pick_f rfl rfl) rfl rfl rfl ?_
  refine gl_nil ?_
  repeat (first | refine g_seq ?_ | refine at_code ?_ | refine g_skip ?_ | refine g_block ?_ | refine g_exit rfl ?_ | refine g_cond_t rfl ?_ | refine g_cond_f rfl ?_)
  have hst : stepsC ⟨2, name, s⟩ ≠ 0 := by simp [stepsC]
  repeat (first | refine g_seq ?_ | refine at_code ?_ | refine g_skip ?_ | refine g_block ?_ | refine g_exit rfl ?_ | refine g_cond_t rfl ?_ | refine g_cond_f rfl ?_)
  refine g_region ?_
  refine gl_f (by first | exact s_fieldAddr rfl (by rfl) (by infer_instance) (by decide) | exact s_fieldAddr_o rfl (by assumption) (by rfl) (by infer_instance) (by decide)) rfl rfl rfl ?_
  refine gl_r (by first | exact s_load_blk rfl (by repeat first|exact .del|apply Upd.there) (by rfl) | exact s_load1 rfl (fun w hw => peekB hw (by assumption) (by rfl))) rfl rfl rfl ?_
  refine gl_f (s_eql rfl rfl) rfl rfl rfl ?_
  refine gl_f (s_move rfl) rfl rfl rfl ?_
  (first | refine gl_guard_no rfl rfl rfl rfl rfl rfl rfl ?_ | refine gl_guard_un rfl rfl rfl rfl rfl rfl ?_ | (refine gl_guard_yes rfl rfl rfl ?_; refine gl_f (by first | exact s_fieldAddr rfl (by rfl) (by infer_instance) (by decide) | exact s_fieldAddr_o rfl (by assumption) (by rfl) (by infer_instance) (by decide)) rfl rfl rfl ?_))
  (first | refine gl_guard_no rfl rfl rfl rfl rfl rfl rfl ?_ | refine gl_guard_un rfl rfl rfl rfl rfl rfl ?_ | (refine gl_guard_yes rfl rfl rfl ?_; refine gl_r (by first | exact s_load_blk rfl (by repeat first|exact .del|apply Upd.there) (by rfl) | exact s_load1 rfl (fun w hw => peekB hw (by assumption) (by rfl))) rfl rfl rfl ?_))
  (first | refine gl_guard_no rfl rfl rfl rfl rfl rfl rfl ?_ | refine gl_guard_un rfl rfl rfl rfl rfl rfl ?_ | (refine gl_guard_yes rfl rfl rfl ?_; refine gl_f (s_eql_str rfl rfl) rfl rfl rfl ?_))
  refine gl_f (by first | exact s_pick_t rfl rfl | exact s_pick_f rfl rfl) rfl rfl rfl ?_
  refine gl_nil ?_
  repeat (first | refine g_seq ?_ | refine at_code ?_ | refine g_skip ?_ | refine g_block ?_ | refine g_exit rfl ?_ | refine g_cond_t rfl ?_ | refine g_cond_f rfl ?_)
  have hgl : ((getL x.seen name).getD []).length ≤ usedL x.seen := by have := used_without hI.seen name; omega
  obtain ⟨l, hle⟩ : ∃ l, l = doneL x.seen ⟨2, name, s⟩ (stepsC ⟨2, name, s⟩) := ⟨_, rfl⟩
  have hll := done_len x.seen ⟨2, name, s⟩ (stepsC ⟨2, name, s⟩)
  have hul := used_done_add hI.seen ⟨2, name, s⟩ (stepsC ⟨2, name, s⟩)
  simp only at hul
  rw [← hle] at hll hul
  repeat (first | refine g_seq ?_ | refine at_code ?_ | refine g_skip ?_ | refine g_block ?_ | refine g_exit rfl ?_ | refine g_cond_t rfl ?_ | refine g_cond_f rfl ?_)
  refine g_draw [3, 4, 5] [.blk g3 (.cells #[.int .i64 2, B name, B s] 95), .blk r.X (refO x r)] 9 rfl ?_
  refine ga_free 0 rfl (s_move rfl) rfl rfl rfl (by kernel_rfl) ?_
  refine ga_free 1 rfl (s_nilCheck rfl) rfl rfl rfl (by kernel_rfl) ?_
  refine ga_free 2 rfl (by first | exact s_fieldAddr rfl (by rfl) (by infer_instance) (by decide) | exact s_fieldAddr_o rfl (by assumption) (by rfl) (by infer_instance) (by decide)) rfl rfl rfl (by kernel_rfl) ?_
  (first | refine ga_read_k 3 rfl (by first | exact .head _ | exact .tail _ (.head _) | exact .tail _ (.tail _ (.head _)) | exact .tail _ (.tail _ (.tail _ (.head _)))) (s_load_blk rfl .del (by rfl)) (by (first | exact fun _ h => h | (repeat first | exact sub_nil | refine sub_cons (by repeat first | exact List.Mem.head _ | apply List.Mem.tail) ?_))) rfl rfl rfl (by kernel_rfl) ?_ | refine ga_readF 3 rfl (s_load1 rfl (fun w hw => peekB hw (by assumption) (by rfl))) (by (first | exact fun _ h => h | (repeat first | exact sub_nil | refine sub_cons (by repeat first | exact List.Mem.head _ | apply List.Mem.tail) ?_))) rfl rfl rfl (by kernel_rfl) ?_)
  (first | refine ga_read_k 4 rfl (by first | exact .head _ | exact .tail _ (.head _) | exact .tail _ (.tail _ (.head _)) | exact .tail _ (.tail _ (.tail _ (.head _)))) (s_load_blkW rfl .del (by rfl)) (by (first | exact fun _ h => h | (repeat first | exact sub_nil | refine sub_cons (by repeat first | exact List.Mem.head _ | apply List.Mem.tail) ?_))) rfl rfl rfl (by kernel_rfl) ?_ | refine ga_read_k 4 rfl (by first | exact .head _ | exact .tail _ (.head _) | exact .tail _ (.tail _ (.head _)) | exact .tail _ (.tail _ (.tail _ (.head _)))) (s_load_blkN rfl .del (by rfl)) (by (first | exact fun _ h => h | (repeat first | exact sub_nil | refine sub_cons (by repeat first | exact List.Mem.head _ | apply List.Mem.tail) ?_))) rfl rfl rfl (by kernel_rfl) ?_ | refine ga_readF 4 rfl (s_loadN rfl (fun w hw => peekBN hw (by assumption)) (by rfl)) (by (first | exact fun _ h => h | (repeat first | exact sub_nil | refine sub_cons (by repeat first | exact List.Mem.head _ | apply List.Mem.tail) ?_))) rfl rfl rfl (by kernel_rfl) ?_)
  (first | refine ga_read_k 5 rfl (by first | exact .head _ | exact .tail _ (.head _) | exact .tail _ (.tail _ (.head _)) | exact .tail _ (.tail _ (.tail _ (.head _)))) (s_load_blkW rfl .del (by rfl)) (by (first | exact fun _ h => h | (repeat first | exact sub_nil | refine sub_cons (by repeat first | exact List.Mem.head _ | apply List.Mem.tail) ?_))) rfl rfl rfl (by kernel_rfl) ?_ | refine ga_read_k 5 rfl (by first | exact .head _ | exact .tail _ (.head _) | exact .tail _ (.tail _ (.head _)) | exact .tail _ (.tail _ (.tail _ (.head _)))) (s_load_blkN rfl .del (by rfl)) (by (first | exact fun _ h => h | (repeat first | exact sub_nil | refine sub_cons (by repeat first | exact List.Mem.head _ | apply List.Mem.tail) ?_))) rfl rfl rfl (by kernel_rfl) ?_ | refine ga_readF 5 rfl (s_loadN rfl (fun w hw => peekBN hw (by assumption)) (by rfl)) (by (first | exact fun _ h => h | (repeat first | exact sub_nil | refine sub_cons (by repeat first | exact List.Mem.head _ | apply List.Mem.tail) ?_))) rfl rfl rfl (by kernel_rfl) ?_)
  refine ga_one 6 rfl (by kernel_rfl) ?_
  refine gl_callp rfl (Steps_ct ⟨2, name, s⟩) (fun _ _ _ => trivial) rfl ?_
  refine gl_nil ?_
  refine at_ga (.inr (by exact keeps_of (by (first | exact fun _ h => h | (repeat first | exact sub_nil | refine sub_cons (by repeat first | exact List.Mem.head _ | apply List.Mem.tail) ?_))))) ?_
  refine ga_one 7 rfl (by kernel_rfl) ?_
  refine gl_call _ rfl (Done_ct x.seen ⟨2, name, s⟩ (stepsC ⟨2, name, s⟩) r.sa r.sc (by omega) (by simp) (Nat.le_refl _) (by simp only; omega)) (fun w hw => hw) (fun h hh _ => hr.seen.le hh) rfl ?_; rintro v A (⟨h9, _⟩ | ⟨_, sa, sc, rfl, rfl⟩); exact absurd h9 hst; rw [← hle]
  refine gl_nil ?_
  refine at_ga (.inr (by exact keeps_of (by (first | exact fun _ h => h | (repeat first | exact sub_nil | refine sub_cons (by repeat first | exact List.Mem.head _ | apply List.Mem.tail) ?_))))) ?_
  refine ga_free 8 rfl (s_assign rfl) rfl rfl rfl (by kernel_rfl) ?_
  refine ga_done (by kernel_rfl) ?_
  repeat (first | refine g_seq ?_ | refine at_code ?_ | refine g_skip ?_ | refine g_block ?_ | refine g_exit rfl ?_ | refine g_cond_t rfl ?_ | refine g_cond_f rfl ?_)
  have e2 : withL x.seen name s = l := by rw [hle]; simp [doneL, stepsC]
  repeat (first | refine g_seq ?_ | refine at_code ?_ | refine g_skip ?_ | refine g_block ?_ | refine g_exit rfl ?_ | refine g_cond_t rfl ?_ | refine g_cond_f rfl ?_)
  refine g_region ?_
  refine gl_f (by first | exact s_fieldAddr rfl (by rfl) (by infer_instance) (by decide) | exact s_fieldAddr_o rfl (by assumption) (by rfl) (by infer_instance) (by decide)) rfl rfl rfl ?_
  refine gl_r (by first | exact s_load_blk rfl (by repeat first|exact .del|apply Upd.there) (by rfl) | exact s_load1 rfl (fun w hw => peekB hw (by assumption) (by rfl))) rfl rfl rfl ?_
  refine gl_f (s_eql rfl rfl) rfl rfl rfl ?_
  refine gl_nil ?_
  repeat (first | refine g_seq ?_ | refine at_code ?_ | refine g_skip ?_ | refine g_block ?_ | refine g_exit rfl ?_ | refine g_cond_t rfl ?_ | refine g_cond_f rfl ?_)
  refine g_draw [3, 5, 7] [.blk g3 (.cells #[.int .i64 2, B name, B s] 95), .blk r.X (refO x r)] 11 rfl ?_
  refine ga_free 0 rfl (s_move rfl) rfl rfl rfl (by kernel_rfl) ?_
  refine ga_free 1 rfl (s_nilCheck rfl) rfl rfl rfl (by kernel_rfl) ?_
  refine ga_free 2 rfl (by first | exact s_fieldAddr rfl (by rfl) (by infer_instance) (by decide) | exact s_fieldAddr_o rfl (by assumption) (by rfl) (by infer_instance) (by decide)) rfl rfl rfl (by kernel_rfl) ?_
  (first | refine ga_read_k 3 rfl (by first | exact .head _ | exact .tail _ (.head _) | exact .tail _ (.tail _ (.head _)) | exact .tail _ (.tail _ (.tail _ (.head _)))) (s_load_blk rfl .del (by rfl)) (by (first | exact fun _ h => h | (repeat first | exact sub_nil | refine sub_cons (by repeat first | exact List.Mem.head _ | apply List.Mem.tail) ?_))) rfl rfl rfl (by kernel_rfl) ?_ | refine ga_readF 3 rfl (s_load1 rfl (fun w hw => peekB hw (by assumption) (by rfl))) (by (first | exact fun _ h => h | (repeat first | exact sub_nil | refine sub_cons (by repeat first | exact List.Mem.head _ | apply List.Mem.tail) ?_))) rfl rfl rfl (by kernel_rfl) ?_)
  refine ga_free 4 rfl (by first | exact s_fieldAddr rfl (by rfl) (by infer_instance) (by decide) | exact s_fieldAddr_o rfl (by assumption) (by rfl) (by infer_instance) (by decide)) rfl rfl rfl (by kernel_rfl) ?_
  (first | refine ga_read_k 5 rfl (by first | exact .head _ | exact .tail _ (.head _) | exact .tail _ (.tail _ (.head _)) | exact .tail _ (.tail _ (.tail _ (.head _)))) (s_load_blk rfl .del (by rfl)) (by (first | exact fun _ h => h | (repeat first | exact sub_nil | refine sub_cons (by repeat first | exact List.Mem.head _ | apply List.Mem.tail) ?_))) rfl rfl rfl (by kernel_rfl) ?_ | refine ga_readF 5 rfl (s_load1 rfl (fun w hw => peekB hw (by assumption) (by rfl))) (by (first | exact fun _ h => h | (repeat first | exact sub_nil | refine sub_cons (by repeat first | exact List.Mem.head _ | apply List.Mem.tail) ?_))) rfl rfl rfl (by kernel_rfl) ?_)
  refine ga_free 6 rfl (by first | exact s_fieldAddr rfl (by rfl) (by infer_instance) (by decide) | exact s_fieldAddr_o rfl (by assumption) (by rfl) (by infer_instance) (by decide)) rfl rfl rfl (by kernel_rfl) ?_
  (first | refine ga_read_k 7 rfl (by first | exact .head _ | exact .tail _ (.head _) | exact .tail _ (.tail _ (.head _)) | exact .tail _ (.tail _ (.tail _ (.head _)))) (s_load_blk rfl .del (by rfl)) (by (first | exact fun _ h => h | (repeat first | exact sub_nil | refine sub_cons (by repeat first | exact List.Mem.head _ | apply List.Mem.tail) ?_))) rfl rfl rfl (by kernel_rfl) ?_ | refine ga_readF 7 rfl (s_load1 rfl (fun w hw => peekB hw (by assumption) (by rfl))) (by (first | exact fun _ h => h | (repeat first | exact sub_nil | refine sub_cons (by repeat first | exact List.Mem.head _ | apply List.Mem.tail) ?_))) rfl rfl rfl (by kernel_rfl) ?_)
  refine ga_free 8 rfl (s_build rfl (run_build_struct (places := [(0, 1), (1, 1)]) rfl (by intro f hf; simp at hf; rcases hf with rfl | rfl <;> rfl) rfl)) rfl rfl rfl (by kernel_rfl) ?_
  refine ga_one 9 rfl (by kernel_rfl) ?_
  refine gl_call _ rfl (with_ct x.seen name s r.sa r.sc (by omega)) (fun w hw => hw) (fun h hh _ => hr.seen.le hh) rfl ?_; rw [e2]; rintro v A ⟨sb, sd, rfl, rfl⟩
  refine gl_nil ?_
  refine at_ga (.inr (by exact keeps_of (by (first | exact fun _ h => h | (repeat first | exact sub_nil | refine sub_cons (by repeat first | exact List.Mem.head _ | apply List.Mem.tail) ?_))))) ?_
  refine ga_free 10 rfl (s_assign rfl) rfl rfl rfl (by kernel_rfl) ?_
  refine ga_done (by kernel_rfl) ?_
  repeat (first | refine g_seq ?_ | refine at_code ?_ | refine g_skip ?_ | refine g_block ?_ | refine g_exit rfl ?_ | refine g_cond_t rfl ?_ | refine g_cond_f rfl ?_)
  obtain ⟨q9, hq9⟩ : ∃ q, q = decide (x.cap < (usedL l : Nat)) := ⟨_, rfl⟩
  have ef : fullC x ⟨2, name, s⟩ = q9 := by rw [fullC, hq9, hle]; rfl
  cases q9
  rotate_left
  · have ee : turnE x ⟨2, name, s⟩ = 7 := by simp [turnE, eb, ← hq3, ef]
    have et : turnD x ⟨2, name, s⟩ = x := by simp [turnD, turnsD, ee]
    rw [ee, et]
    repeat (first | refine g_seq ?_ | refine at_code ?_ | refine g_skip ?_ | refine g_block ?_ | refine g_exit rfl ?_ | refine g_cond_t rfl ?_ | refine g_cond_f rfl ?_)
    refine g_draw0 [5] 7 rfl ?_
    refine ga_free 0 rfl (s_move rfl) rfl rfl rfl (by kernel_rfl) ?_
    refine ga_free 2 rfl (s_move rfl) rfl rfl rfl (by kernel_rfl) ?_
    refine ga_free 3 rfl (s_nilCheck rfl) rfl rfl rfl (by kernel_rfl) ?_
    refine ga_free 4 rfl (by first | exact s_fieldAddr rfl (by rfl) (by infer_instance) (by decide) | exact s_fieldAddr_o rfl (by assumption) (by rfl) (by infer_instance) (by decide)) rfl rfl rfl (by kernel_rfl) ?_
    (first | refine ga_read 5 rfl (by repeat first|exact .del|apply Upd.there) (s_load_blk rfl .del (by rfl)) rfl rfl rfl (by kernel_rfl) ?_ | refine ga_readF 5 rfl (s_load1 rfl (fun w hw => peekB hw (by assumption) (by rfl))) (by (first | exact fun _ h => h | (repeat first | exact sub_nil | refine sub_cons (by repeat first | exact List.Mem.head _ | apply List.Mem.tail) ?_))) rfl rfl rfl (by kernel_rfl) ?_)
    refine ga_one 1 rfl (by kernel_rfl) ?_
    refine gl_callp rfl (rUsed_ct l sb sd (by omega) (by omega)) (fun h hh ⟨bs, hb⟩ => Sat.rd (a := sb) hb (by repeat first|exact .del|apply Upd.there)) rfl ?_
    refine gl_nil ?_
    refine at_ga (.inr (by exact keeps_of (by (first | exact fun _ h => h | (repeat first | exact sub_nil | refine sub_cons (by repeat first | exact List.Mem.head _ | apply List.Mem.tail) ?_))))) ?_
    refine ga_free 6 rfl ((s_gtr rfl rfl).eq (congrArg Value.bool hq9.symm)) rfl rfl rfl (by kernel_rfl) ?_
    refine ga_done (by kernel_rfl) ?_
    repeat (first | refine g_seq ?_ | refine at_code ?_ | refine g_skip ?_ | refine g_block ?_ | refine g_exit rfl ?_ | refine g_cond_t rfl ?_ | refine g_cond_f rfl ?_)
    repeat (first | refine g_seq ?_ | refine at_code ?_ | refine g_skip ?_ | refine g_block ?_ | refine g_exit rfl ?_ | refine g_cond_t rfl ?_ | refine g_cond_f rfl ?_)
    refine g_region ?_
    refine gl_f (s_assign rfl) rfl rfl rfl ?_
    refine gl_nil ?_
    repeat (first | refine g_seq ?_ | refine at_code ?_ | refine g_skip ?_ | refine g_block ?_ | refine g_exit rfl ?_ | refine g_cond_t rfl ?_ | refine g_cond_f rfl ?_)
    refine g_ret ?_
    exact at_end1 rfl rfl [.blk r.X (refO x r)] (RTP.same x r 7) (fun w hw => Hp.left (R := [_, _, _]) (hw.perm (perm_up (by repeat first|exact .del|apply Upd.there) (.refl _))))
  have ht : turnsD x ⟨2, name, s⟩ = true := turnsD_iff.2 ⟨eb, hq3.symm, (by simp), (by simp), ef⟩
  have ee : turnE x ⟨2, name, s⟩ = 0 := by simp [turnE, eb, ← hq3, ef]
  have et : turnD x ⟨2, name, s⟩ = spendD { x with seen := l, pend := x.pend ++ [⟨2, name, s⟩] } := by rw [turnD, if_pos ht, turnX, hle]
  have ho : x.fused = true → 1 ≤ x.left := fun hf => by
    have := hq3.symm
    simp only [offD, hf, Bool.true_and, decide_eq_false_iff_not] at this; omega
  rw [ee, et]
  repeat (first | refine g_seq ?_ | refine at_code ?_ | refine g_skip ?_ | refine g_block ?_ | refine g_exit rfl ?_ | refine g_cond_t rfl ?_ | refine g_cond_f rfl ?_)
  refine g_draw0 [5] 7 rfl ?_
  refine ga_free 0 rfl (s_move rfl) rfl rfl rfl (by kernel_rfl) ?_
  refine ga_free 2 rfl (s_move rfl) rfl rfl rfl (by kernel_rfl) ?_
  refine ga_free 3 rfl (s_nilCheck rfl) rfl rfl rfl (by kernel_rfl) ?_
  refine ga_free 4 rfl (by first | exact s_fieldAddr rfl (by rfl) (by infer_instance) (by decide) | exact s_fieldAddr_o rfl (by assumption) (by rfl) (by infer_instance) (by decide)) rfl rfl rfl (by kernel_rfl) ?_
  (first | refine ga_read 5 rfl (by repeat first|exact .del|apply Upd.there) (s_load_blk rfl .del (by rfl)) rfl rfl rfl (by kernel_rfl) ?_ | refine ga_readF 5 rfl (s_load1 rfl (fun w hw => peekB hw (by assumption) (by rfl))) (by (first | exact fun _ h => h | (repeat first | exact sub_nil | refine sub_cons (by repeat first | exact List.Mem.head _ | apply List.Mem.tail) ?_))) rfl rfl rfl (by kernel_rfl) ?_)
  refine ga_one 1 rfl (by kernel_rfl) ?_
  refine gl_callp rfl (rUsed_ct l sb sd (by omega) (by omega)) (fun h hh ⟨bs, hb⟩ => Sat.rd (a := sb) hb (by repeat first|exact .del|apply Upd.there)) rfl ?_
  refine gl_nil ?_
  refine at_ga (.inr (by exact keeps_of (by (first | exact fun _ h => h | (repeat first | exact sub_nil | refine sub_cons (by repeat first | exact List.Mem.head _ | apply List.Mem.tail) ?_))))) ?_
  refine ga_free 6 rfl ((s_gtr rfl rfl).eq (congrArg Value.bool hq9.symm)) rfl rfl rfl (by kernel_rfl) ?_
  refine ga_done (by kernel_rfl) ?_
  repeat (first | refine g_seq ?_ | refine at_code ?_ | refine g_skip ?_ | refine g_block ?_ | refine g_exit rfl ?_ | refine g_cond_t rfl ?_ | refine g_cond_f rfl ?_)
  have elen : (x.pend ++ [(⟨2, name, s⟩ : Cl)]).length = x.pend.length + 1 := by simp
  repeat (first | refine g_seq ?_ | refine at_code ?_ | refine g_skip ?_ | refine g_block ?_ | refine g_exit rfl ?_ | refine g_cond_t rfl ?_ | refine g_cond_f rfl ?_)
  refine g_region ?_
  refine gl_f (s_move rfl) rfl rfl rfl ?_
  refine gl_f (s_move rfl) rfl rfl rfl ?_
  refine gl_f (s_nilCheck rfl) rfl rfl rfl ?_
  refine gl_f (by first | exact s_fieldAddr rfl (by rfl) (by infer_instance) (by decide) | exact s_fieldAddr_o rfl (by assumption) (by rfl) (by infer_instance) (by decide)) rfl rfl rfl ?_
  (first | refine gl_store_blkC (pre := [_]) (post := [_, _, _, _]) rfl rfl (by repeat first|exact .here|apply Upd.there) (by rfl) (by rfl) (by rfl) ?_ | refine gl_store_blk rfl rfl (by repeat first|exact .here|apply Upd.there) (by rfl) (by (intro q hq; simp [Value.cells] at hq; first | (subst hq; rfl) | (rcases hq with rfl | rfl | rfl | rfl | rfl | rfl | rfl | rfl <;> rfl) | (rcases hq with rfl | rfl | rfl | rfl | rfl | rfl | rfl <;> rfl) | (rcases hq with rfl | rfl | rfl | rfl | rfl | rfl <;> rfl) | (rcases hq with rfl | rfl | rfl | rfl | rfl <;> rfl) | (rcases hq with rfl | rfl | rfl | rfl <;> rfl) | (rcases hq with rfl | rfl | rfl <;> rfl) | (rcases hq with rfl | rfl <;> rfl))) (by rfl) ?_)
  refine gl_nil ?_
  repeat (first | refine g_seq ?_ | refine at_code ?_ | refine g_skip ?_ | refine g_block ?_ | refine g_exit rfl ?_ | refine g_cond_t rfl ?_ | refine g_cond_f rfl ?_)
  refine g_draw [5, 7] [.blk r.X (.cells #[.int .i64 x.cap, .slice sb l.length sd, .slice r.la x.lasts.length r.lc, .slice r.pa x.pend.length r.pc, .bool x.fused, .int .i64 x.left] 75), .blk g3 (.cells #[.int .i64 2, B name, B s] 95)] 13 rfl ?_
  refine ga_free 0 rfl (s_move rfl) rfl rfl rfl (by kernel_rfl) ?_
  refine ga_free 2 rfl (s_move rfl) rfl rfl rfl (by kernel_rfl) ?_
  refine ga_free 3 rfl (s_nilCheck rfl) rfl rfl rfl (by kernel_rfl) ?_
  refine ga_free 4 rfl (by first | exact s_fieldAddr rfl (by rfl) (by infer_instance) (by decide) | exact s_fieldAddr_o rfl (by assumption) (by rfl) (by infer_instance) (by decide)) rfl rfl rfl (by kernel_rfl) ?_
  (first | refine ga_read_k 5 rfl (by first | exact .head _ | exact .tail _ (.head _) | exact .tail _ (.tail _ (.head _)) | exact .tail _ (.tail _ (.tail _ (.head _)))) (s_load_blk rfl .del (by rfl)) (by (first | exact fun _ h => h | (repeat first | exact sub_nil | refine sub_cons (by repeat first | exact List.Mem.head _ | apply List.Mem.tail) ?_))) rfl rfl rfl (by kernel_rfl) ?_ | refine ga_readF 5 rfl (s_load1 rfl (fun w hw => peekB hw (by assumption) (by rfl))) (by (first | exact fun _ h => h | (repeat first | exact sub_nil | refine sub_cons (by repeat first | exact List.Mem.head _ | apply List.Mem.tail) ?_))) rfl rfl rfl (by kernel_rfl) ?_)
  (first | refine ga_read_k 7 rfl (by first | exact .head _ | exact .tail _ (.head _) | exact .tail _ (.tail _ (.head _)) | exact .tail _ (.tail _ (.tail _ (.head _)))) (s_load_blkW rfl .del (by rfl)) (by (first | exact fun _ h => h | (repeat first | exact sub_nil | refine sub_cons (by repeat first | exact List.Mem.head _ | apply List.Mem.tail) ?_))) rfl rfl rfl (by kernel_rfl) ?_ | refine ga_read_k 7 rfl (by first | exact .head _ | exact .tail _ (.head _) | exact .tail _ (.tail _ (.head _)) | exact .tail _ (.tail _ (.tail _ (.head _)))) (s_load_blkN rfl .del (by rfl)) (by (first | exact fun _ h => h | (repeat first | exact sub_nil | refine sub_cons (by repeat first | exact List.Mem.head _ | apply List.Mem.tail) ?_))) rfl rfl rfl (by kernel_rfl) ?_ | refine ga_readF 7 rfl (s_loadN rfl (fun w hw => peekBN hw (by assumption)) (by rfl)) (by (first | exact fun _ h => h | (repeat first | exact sub_nil | refine sub_cons (by repeat first | exact List.Mem.head _ | apply List.Mem.tail) ?_))) rfl rfl rfl (by kernel_rfl) ?_)
  refine ga_two 1 8 rfl rfl (by kernel_rfl) ?_ ?_
  refine gl_buildSlice0 rfl ?_; intro a78
  refine gl_nil ?_
  refine at_ga (.inr (by exact keeps_of (by (first | exact fun _ h => h | (repeat first | exact sub_nil | refine sub_cons (by repeat first | exact List.Mem.head _ | apply List.Mem.tail) ?_))))) ?_
  refine ga_two 6 8 rfl rfl (by kernel_rfl) ?_ ?_
  refine gl_append rfl rfl (fun a' c' => by first | exact .here | exact .there .here | exact .there (.there .here)) (fun w hw => hr.pend.le hw.keep) (rcV_len _) rfl rfl (rcV_one _) (by show (_ + _) * 40 ≤ _; omega) (by omega) rfl ?_; intro a6 c6 hc6; rw [Nat.zero_add, List.nil_append]
  refine gl_nil ?_
  refine at_ga (.inr (by exact keeps_of (by (first | exact fun _ h => h | (repeat first | exact sub_nil | refine sub_cons (by repeat first | exact List.Mem.head _ | apply List.Mem.tail) ?_))))) ?_
  refine ga_one 8 rfl (by kernel_rfl) ?_
  refine gl_buildSliceU rfl rfl rfl rfl rfl rfl (xs := rcV [⟨2, name, s⟩]) rfl rfl ?_; intro a8 ha8
  refine gl_nil ?_
  refine at_ga (.inr (by exact keeps_of (by (first | exact fun _ h => h | (repeat first | exact sub_nil | refine sub_cons (by repeat first | exact List.Mem.head _ | apply List.Mem.tail) ?_))))) ?_
  refine ga_one 9 rfl (by kernel_rfl) ?_
  refine gl_append rfl rfl (fun a' c' => by first | exact .here | exact .there .here | exact .there (.there .here)) (fun w hw => (hw.ownN (by repeat first|exact .del|apply Upd.there)).2.2.1) rfl rfl rfl (rcV_one _) (by show (_ + 1) * 40 ≤ _; omega) (by omega) rfl ?_; intro a9 c9 hc9
  refine gl_nil ?_
  refine at_ga (.inr (by exact keeps_of (by (first | exact fun _ h => h | (repeat first | exact sub_nil | refine sub_cons (by repeat first | exact List.Mem.head _ | apply List.Mem.tail) ?_))))) ?_
  refine ga_free 10 rfl (s_nilCheck rfl) rfl rfl rfl (by kernel_rfl) ?_
  refine ga_free 11 rfl (by first | exact s_fieldAddr rfl (by rfl) (by infer_instance) (by decide) | exact s_fieldAddr_o rfl (by assumption) (by rfl) (by infer_instance) (by decide)) rfl rfl rfl (by kernel_rfl) ?_
  refine ga_one 12 rfl (by kernel_rfl) ?_
  (first | refine gl_store_blkC (pre := [_, _, _]) (post := [_, _]) rfl rfl (by repeat first|exact .here|apply Upd.there) (by rfl) (by rfl) (by rfl) ?_ | refine gl_store_blk rfl rfl (by repeat first|exact .here|apply Upd.there) (by rfl) (by (intro q hq; simp [Value.cells] at hq; first | (subst hq; rfl) | (rcases hq with rfl | rfl | rfl | rfl | rfl | rfl | rfl | rfl <;> rfl) | (rcases hq with rfl | rfl | rfl | rfl | rfl | rfl | rfl <;> rfl) | (rcases hq with rfl | rfl | rfl | rfl | rfl | rfl <;> rfl) | (rcases hq with rfl | rfl | rfl | rfl | rfl <;> rfl) | (rcases hq with rfl | rfl | rfl | rfl <;> rfl) | (rcases hq with rfl | rfl | rfl <;> rfl) | (rcases hq with rfl | rfl <;> rfl))) (by rfl) ?_)
  refine gl_nil ?_
  refine at_ga (.inl (by kernel_rfl)) ?_
  refine ga_done (by kernel_rfl) ?_
  rotate_left 1
  refine gl_buildSliceU rfl rfl rfl rfl rfl rfl (xs := rcV [⟨2, name, s⟩]) rfl rfl ?_; intro a8 ha8
  refine gl_nil ?_
  refine at_ga (.inr (by exact keeps_of (by (first | exact fun _ h => h | (repeat first | exact sub_nil | refine sub_cons (by repeat first | exact List.Mem.head _ | apply List.Mem.tail) ?_))))) ?_
  refine ga_one 6 rfl (by kernel_rfl) ?_
  refine gl_append rfl rfl (fun a' c' => by first | exact .here | exact .there .here | exact .there (.there .here)) (fun w hw => hr.pend.le hw.keep) (rcV_len _) rfl rfl (rcV_one _) (by show (_ + _) * 40 ≤ _; omega) (by omega) rfl ?_; intro a6 c6 hc6; rw [Nat.zero_add, List.nil_append]
  refine gl_nil ?_
  refine at_ga (.inr (by exact keeps_of (by (first | exact fun _ h => h | (repeat first | exact sub_nil | refine sub_cons (by repeat first | exact List.Mem.head _ | apply List.Mem.tail) ?_))))) ?_
  refine ga_one 9 rfl (by kernel_rfl) ?_
  refine gl_append rfl rfl (fun a' c' => by first | exact .here | exact .there .here | exact .there (.there .here)) (fun w hw => (hw.ownN (by repeat first|exact .del|apply Upd.there)).2.2.1) rfl rfl rfl (rcV_one _) (by show (_ + 1) * 40 ≤ _; omega) (by omega) rfl ?_; intro a9 c9 hc9
  refine gl_nil ?_
  refine at_ga (.inr (by exact keeps_of (by (first | exact fun _ h => h | (repeat first | exact sub_nil | refine sub_cons (by repeat first | exact List.Mem.head _ | apply List.Mem.tail) ?_))))) ?_
  refine ga_free 10 rfl (s_nilCheck rfl) rfl rfl rfl (by kernel_rfl) ?_
  refine ga_free 11 rfl (by first | exact s_fieldAddr rfl (by rfl) (by infer_instance) (by decide) | exact s_fieldAddr_o rfl (by assumption) (by rfl) (by infer_instance) (by decide)) rfl rfl rfl (by kernel_rfl) ?_
  refine ga_one 12 rfl (by kernel_rfl) ?_
  (first | refine gl_store_blkC (pre := [_, _, _]) (post := [_, _]) rfl rfl (by repeat first|exact .here|apply Upd.there) (by rfl) (by rfl) (by rfl) ?_ | refine gl_store_blk rfl rfl (by repeat first|exact .here|apply Upd.there) (by rfl) (by (intro q hq; simp [Value.cells] at hq; first | (subst hq; rfl) | (rcases hq with rfl | rfl | rfl | rfl | rfl | rfl | rfl | rfl <;> rfl) | (rcases hq with rfl | rfl | rfl | rfl | rfl | rfl | rfl <;> rfl) | (rcases hq with rfl | rfl | rfl | rfl | rfl | rfl <;> rfl) | (rcases hq with rfl | rfl | rfl | rfl | rfl <;> rfl) | (rcases hq with rfl | rfl | rfl | rfl <;> rfl) | (rcases hq with rfl | rfl | rfl <;> rfl) | (rcases hq with rfl | rfl <;> rfl))) (by rfl) ?_)
  refine gl_nil ?_
  refine at_ga (.inl (by kernel_rfl)) ?_
  refine ga_done (by kernel_rfl) ?_
  rotate_left 1
  refine gl_buildSliceU rfl rfl rfl rfl rfl rfl (xs := rcV [⟨2, name, s⟩]) rfl rfl ?_; intro a8 ha8
  refine gl_nil ?_
  refine at_ga (.inr (by exact keeps_of (by (first | exact fun _ h => h | (repeat first | exact sub_nil | refine sub_cons (by repeat first | exact List.Mem.head _ | apply List.Mem.tail) ?_))))) ?_
  refine ga_one 1 rfl (by kernel_rfl) ?_
  refine gl_buildSlice0 rfl ?_; intro a78
  refine gl_nil ?_
  refine at_ga (.inr (by exact keeps_of (by (first | exact fun _ h => h | (repeat first | exact sub_nil | refine sub_cons (by repeat first | exact List.Mem.head _ | apply List.Mem.tail) ?_))))) ?_
  refine ga_one 6 rfl (by kernel_rfl) ?_
  refine gl_append rfl rfl (fun a' c' => by first | exact .here | exact .there .here | exact .there (.there .here)) (fun w hw => hr.pend.le hw.keep) (rcV_len _) rfl rfl (rcV_one _) (by show (_ + _) * 40 ≤ _; omega) (by omega) rfl ?_; intro a6 c6 hc6; rw [Nat.zero_add, List.nil_append]
  refine gl_nil ?_
  refine at_ga (.inr (by exact keeps_of (by (first | exact fun _ h => h | (repeat first | exact sub_nil | refine sub_cons (by repeat first | exact List.Mem.head _ | apply List.Mem.tail) ?_))))) ?_
  refine ga_one 9 rfl (by kernel_rfl) ?_
  refine gl_append rfl rfl (fun a' c' => by first | exact .here | exact .there .here | exact .there (.there .here)) (fun w hw => (hw.ownN (by repeat first|exact .del|apply Upd.there)).2.2.1) rfl rfl rfl (rcV_one _) (by show (_ + 1) * 40 ≤ _; omega) (by omega) rfl ?_; intro a9 c9 hc9
  refine gl_nil ?_
  refine at_ga (.inr (by exact keeps_of (by (first | exact fun _ h => h | (repeat first | exact sub_nil | refine sub_cons (by repeat first | exact List.Mem.head _ | apply List.Mem.tail) ?_))))) ?_
  refine ga_free 10 rfl (s_nilCheck rfl) rfl rfl rfl (by kernel_rfl) ?_
  refine ga_free 11 rfl (by first | exact s_fieldAddr rfl (by rfl) (by infer_instance) (by decide) | exact s_fieldAddr_o rfl (by assumption) (by rfl) (by infer_instance) (by decide)) rfl rfl rfl (by kernel_rfl) ?_
  refine ga_one 12 rfl (by kernel_rfl) ?_
  (first | refine gl_store_blkC (pre := [_, _, _]) (post := [_, _]) rfl rfl (by repeat first|exact .here|apply Upd.there) (by rfl) (by rfl) (by rfl) ?_ | refine gl_store_blk rfl rfl (by repeat first|exact .here|apply Upd.there) (by rfl) (by (intro q hq; simp [Value.cells] at hq; first | (subst hq; rfl) | (rcases hq with rfl | rfl | rfl | rfl | rfl | rfl | rfl | rfl <;> rfl) | (rcases hq with rfl | rfl | rfl | rfl | rfl | rfl | rfl <;> rfl) | (rcases hq with rfl | rfl | rfl | rfl | rfl | rfl <;> rfl) | (rcases hq with rfl | rfl | rfl | rfl | rfl <;> rfl) | (rcases hq with rfl | rfl | rfl | rfl <;> rfl) | (rcases hq with rfl | rfl | rfl <;> rfl) | (rcases hq with rfl | rfl <;> rfl))) (by rfl) ?_)
  refine gl_nil ?_
  refine at_ga (.inl (by kernel_rfl)) ?_
  refine ga_done (by kernel_rfl) ?_
  rotate_left 1
  all_goals (repeat (first | refine g_seq ?_ | refine at_code ?_ | refine g_skip ?_ | refine g_block ?_ | refine g_exit rfl ?_ | refine g_cond_t rfl ?_ | refine g_cond_f rfl ?_))
  all_goals (rw [← elen, ← rcV_append])
  all_goals (
    repeat (first | refine g_seq ?_ | refine at_code ?_ | refine g_skip ?_ | refine g_block ?_ | refine g_exit rfl ?_ | refine g_cond_t rfl ?_ | refine g_cond_f rfl ?_)
    refine g_region ?_
    refine gl_f (s_move rfl) rfl rfl rfl ?_
    refine gl_call _ rfl (rSpend_ct { x with seen := l, pend := x.pend ++ [⟨2, name, s⟩] } ⟨r.X, sb, sd, r.la, r.lc, a9, c9⟩ (fun h => by have := ho h; simp only; omega)) (fun w hw => hw.perm (perm_up (by repeat first|exact .del|apply Upd.there) (.refl _))) (fun _ _ _ => trivial) rfl ?_; rintro v A ⟨rfl, rfl⟩
    refine gl_nil ?_
    repeat (first | refine g_seq ?_ | refine at_code ?_ | refine g_skip ?_ | refine g_block ?_ | refine g_exit rfl ?_ | refine g_cond_t rfl ?_ | refine g_cond_f rfl ?_))
  all_goals (
    repeat (first | refine g_seq ?_ | refine at_code ?_ | refine g_skip ?_ | refine g_block ?_ | refine g_exit rfl ?_ | refine g_cond_t rfl ?_ | refine g_cond_f rfl ?_)
    refine g_region ?_
    refine gl_f (s_assign rfl) rfl rfl rfl ?_
    refine gl_nil ?_
    repeat (first | refine g_seq ?_ | refine at_code ?_ | refine g_skip ?_ | refine g_block ?_ | refine g_exit rfl ?_ | refine g_cond_t rfl ?_ | refine g_cond_f rfl ?_))
  all_goals (
    refine g_ret ?_
    refine at_end1 rfl rfl [.blk r.X (refO (spendD { x with seen := l, pend := x.pend ++ [⟨2, name, s⟩] }) ⟨r.X, sb, sd, r.la, r.lc, a9, c9⟩), OwnF sb l sd, OwnR a9 (x.pend ++ [⟨2, name, s⟩]) c9] ⟨rfl, ⟨r.X, sb, sd, r.la, r.lc, a9, c9⟩, [OwnF sb l sd, OwnR a9 (x.pend ++ [⟨2, name, s⟩]) c9], rfl, rfl, fun h f ⟨bs, hb⟩ => (RFacts.spend _ _ _).2 ⟨Sat.rd (a := sb) hb (by repeat first|exact .del|apply Upd.there), f.lasts, Sat.rd (a := a9) hb (by repeat first|exact .del|apply Upd.there)⟩⟩ ?_
    intro w hw
    exact Hp.left (hw.perm (perm_up (by repeat first|exact .del|apply Upd.there) (perm_up (by repeat first|exact .del|apply Upd.there) (perm_up (by repeat first|exact .del|apply Upd.there) (.refl _))))))
set_option maxRecDepth 8000 in
set_option maxHeartbeats 4000000 in
theorem rTurnDrop_ct (x : DM) (r : RA) (name s : Bs) (hI : Inv x) (hsm : Small x 1000000) (hn : name.length ≤ 9223372036854775807) (hs : s.length ≤ 4611686018427387903) : Ct Try.prog 59 [Ptr r.X, .agg #[.int .i64 3, B name, B s]] (RFacts x r) [.blk r.X (refO x r)] (RTP x (turnD x ⟨3, name, s⟩) r (turnE x ⟨3, name, s⟩)) := by
  have hcap := hI.cap
  have hus := hI.used
  have hleft := hI.left
  have h1 := hsm.seen
  have h2 := hsm.pend
  refine ct_enter 91 Try.func59 rfl rfl rfl ?_
  intro F hr
  obtain ⟨q1, hq1⟩ : ∃ q, q = decide ((name.length : Int) < 1) := ⟨_, rfl⟩
  obtain ⟨q2, hq2⟩ : ∃ q, q = decide (80 < (name.length : Int)) := ⟨_, rfl⟩
  have eb : badName name = (q1 || q2) := by
    rw [badName, hq1, hq2]; congr 1 <;> exact decide_eq_decide.2 (by omega)
  cases q1
  rotate_left
  · have ee : turnE x ⟨3, name, s⟩ = 1 := by simp [turnE, eb]
    have et : turnD x ⟨3, name, s⟩ = x := by simp [turnD, turnsD, ee]
    rw [ee, et]
    repeat (first | refine g_seq ?_ | refine at_code ?_ | refine g_skip ?_ | refine g_block ?_ | refine g_exit rfl ?_ | refine g_cond_t rfl ?_ | refine g_cond_f rfl ?_)
    refine g_region ?_
    refine gl_boxA rfl rfl ?_; intro g3
    refine gl_f (s_assign rfl) rfl rfl rfl ?_
    refine gl_nil ?_
    repeat (first | refine g_seq ?_ | refine at_code ?_ | refine g_skip ?_ | refine g_block ?_ | refine g_exit rfl ?_ | refine g_cond_t rfl ?_ | refine g_cond_f rfl ?_)
    refine g_region ?_
    refine gl_f (by first | exact s_fieldAddr rfl (by rfl) (by infer_instance) (by decide) | exact s_fieldAddr_o rfl (by assumption) (by rfl) (by infer_instance) (by decide)) rfl rfl rfl ?_
    refine gl_r (by first | exact s_load_blk rfl (by repeat first|exact .del|apply Upd.there) (by rfl) | exact s_load1 rfl (fun w hw => peekB hw (by assumption) (by rfl))) rfl rfl rfl ?_
    refine gl_f (s_len_str rfl) rfl rfl rfl ?_
    refine gl_f ((s_lss rfl rfl).eq (congrArg Value.bool hq1.symm)) rfl rfl rfl ?_
    refine gl_f (s_move rfl) rfl rfl rfl ?_
    (first | refine gl_guard_no rfl rfl rfl rfl rfl rfl rfl ?_ | refine gl_guard_un rfl rfl rfl rfl rfl rfl ?_ | (refine gl_guard_yes rfl rfl rfl ?_; refine gl_f (by first | exact s_fieldAddr rfl (by rfl) (by infer_instance) (by decide) | exact s_fieldAddr_o rfl (by assumption) (by rfl) (by infer_instance) (by decide)) rfl rfl rfl ?_))
    (first | refine gl_guard_no rfl rfl rfl rfl rfl rfl rfl ?_ | refine gl_guard_un rfl rfl rfl rfl rfl rfl ?_ | (refine gl_guard_yes rfl rfl rfl ?_; refine gl_r (by first | exact s_load_blk rfl (by repeat first|exact .del|apply Upd.there) (by rfl) | exact s_load1 rfl (fun w hw => peekB hw (by assumption) (by rfl))) rfl rfl rfl ?_))
    (first | refine gl_guard_no rfl rfl rfl rfl rfl rfl rfl ?_ | refine gl_guard_un rfl rfl rfl rfl rfl rfl ?_ | (refine gl_guard_yes rfl rfl rfl ?_; refine gl_f (s_len_str rfl) rfl rfl rfl ?_))
    (first | refine gl_guard_no rfl rfl rfl rfl rfl rfl rfl ?_ | refine gl_guard_un rfl rfl rfl rfl rfl rfl ?_ | (refine gl_guard_yes rfl rfl rfl ?_; refine gl_f (s_gtr rfl rfl) rfl rfl rfl ?_))
    refine gl_f (by first | exact s_pick_t rfl rfl | exact s_pick_f rfl rfl) rfl rfl rfl ?_
    refine gl_nil ?_
    repeat (first | refine g_seq ?_ | refine at_code ?_ | refine g_skip ?_ | refine g_block ?_ | refine g_exit rfl ?_ | refine g_cond_t rfl ?_ | refine g_cond_f rfl ?_)
    repeat (first | refine g_seq ?_ | refine at_code ?_ | refine g_skip ?_ | refine g_block ?_ | refine g_exit rfl ?_ | refine g_cond_t rfl ?_ | refine g_cond_f rfl ?_)
    refine g_region ?_
    refine gl_f (s_assign rfl) rfl rfl rfl ?_
    refine gl_nil ?_
    repeat (first | refine g_seq ?_ | refine at_code ?_ | refine g_skip ?_ | refine g_block ?_ | refine g_exit rfl ?_ | refine g_cond_t rfl ?_ | refine g_cond_f rfl ?_)
    refine g_ret ?_
    exact at_end1 rfl rfl [.blk r.X (refO x r)] (RTP.same x r 1) (fun w hw => hw.drop)
  cases q2
  rotate_left
  · have ee : turnE x ⟨3, name, s⟩ = 1 := by simp [turnE, eb]
    have et : turnD x ⟨3, name, s⟩ = x := by simp [turnD, turnsD, ee]
    rw [ee, et]
    repeat (first | refine g_seq ?_ | refine at_code ?_ | refine g_skip ?_ | refine g_block ?_ | refine g_exit rfl ?_ | refine g_cond_t rfl ?_ | refine g_cond_f rfl ?_)
    refine g_region ?_
    refine gl_boxA rfl rfl ?_; intro g3
    refine gl_f (s_assign rfl) rfl rfl rfl ?_
    refine gl_nil ?_
    repeat (first | refine g_seq ?_ | refine at_code ?_ | refine g_skip ?_ | refine g_block ?_ | refine g_exit rfl ?_ | refine g_cond_t rfl ?_ | refine g_cond_f rfl ?_)
    refine g_region ?_
    refine gl_f (by first | exact s_fieldAddr rfl (by rfl) (by infer_instance) (by decide) | exact s_fieldAddr_o rfl (by assumption) (by rfl) (by infer_instance) (by decide)) rfl rfl rfl ?_
    refine gl_r (by first | exact s_load_blk rfl (by repeat first|exact .del|apply Upd.there) (by rfl) | exact s_load1 rfl (fun w hw => peekB hw (by assumption) (by rfl))) rfl rfl rfl ?_
    refine gl_f (s_len_str rfl) rfl rfl rfl ?_
    refine gl_f ((s_lss rfl rfl).eq (congrArg Value.bool hq1.symm)) rfl rfl rfl ?_
    refine gl_f (s_move rfl) rfl rfl rfl ?_
    (first | refine gl_guard_no rfl rfl rfl rfl rfl rfl rfl ?_ | refine gl_guard_un rfl rfl rfl rfl rfl rfl ?_ | (refine gl_guard_yes rfl rfl rfl ?_; refine gl_f (by first | exact s_fieldAddr rfl (by rfl) (by infer_instance) (by decide) | exact s_fieldAddr_o rfl (by assumption) (by rfl) (by infer_instance) (by decide)) rfl rfl rfl ?_))
    (first | refine gl_guard_no rfl rfl rfl rfl rfl rfl rfl ?_ | refine gl_guard_un rfl rfl rfl rfl rfl rfl ?_ | (refine gl_guard_yes rfl rfl rfl ?_; refine gl_r (by first | exact s_load_blk rfl (by repeat first|exact .del|apply Upd.there) (by rfl) | exact s_load1 rfl (fun w hw => peekB hw (by assumption) (by rfl))) rfl rfl rfl ?_))
    (first | refine gl_guard_no rfl rfl rfl rfl rfl rfl rfl ?_ | refine gl_guard_un rfl rfl rfl rfl rfl rfl ?_ | (refine gl_guard_yes rfl rfl rfl ?_; refine gl_f (s_len_str rfl) rfl rfl rfl ?_))
    (first | refine gl_guard_no rfl rfl rfl rfl rfl rfl rfl ?_ | refine gl_guard_un rfl rfl rfl rfl rfl rfl ?_ | (refine gl_guard_yes rfl rfl rfl ?_; refine gl_f ((s_gtr rfl rfl).eq (congrArg Value.bool hq2.symm)) rfl rfl rfl ?_))
    refine gl_f (by first | exact s_pick_t rfl rfl | exact s_pick_f rfl rfl) rfl rfl rfl ?_
    refine gl_nil ?_
    repeat (first | refine g_seq ?_ | refine at_code ?_ | refine g_skip ?_ | refine g_block ?_ | refine g_exit rfl ?_ | refine g_cond_t rfl ?_ | refine g_cond_f rfl ?_)
    repeat (first | refine g_seq ?_ | refine at_code ?_ | refine g_skip ?_ | refine g_block ?_ | refine g_exit rfl ?_ | refine g_cond_t rfl ?_ | refine g_cond_f rfl ?_)
    refine g_region ?_
    refine gl_f (s_assign rfl) rfl rfl rfl ?_
    refine gl_nil ?_
    repeat (first | refine g_seq ?_ | refine at_code ?_ | refine g_skip ?_ | refine g_block ?_ | refine g_exit rfl ?_ | refine g_cond_t rfl ?_ | refine g_cond_f rfl ?_)
    refine g_ret ?_
    exact at_end1 rfl rfl [.blk r.X (refO x r)] (RTP.same x r 1) (fun w hw => hw.drop)
  simp only [Bool.or_false] at eb
  repeat (first | refine g_seq ?_ | refine at_code ?_ | refine g_skip ?_ | refine g_block ?_ | refine g_exit rfl ?_ | refine g_cond_t rfl ?_ | refine g_cond_f rfl ?_)
  refine g_region ?_
  refine gl_boxA rfl rfl ?_; intro g3
  refine gl_f (s_assign rfl) rfl rfl rfl ?_
  refine gl_nil ?_
  repeat (first | refine g_seq ?_ | refine at_code ?_ | refine g_skip ?_ | refine g_block ?_ | refine g_exit rfl ?_ | refine g_cond_t rfl ?_ | refine g_cond_f rfl ?_)
  refine g_region ?_
  refine gl_f (by first | exact s_fieldAddr rfl (by rfl) (by infer_instance) (by decide) | exact s_fieldAddr_o rfl (by assumption) (by rfl) (by infer_instance) (by decide)) rfl rfl rfl ?_
  refine gl_r (by first | exact s_load_blk rfl (by repeat first|exact .del|apply Upd.there) (by rfl) | exact s_load1 rfl (fun w hw => peekB hw (by assumption) (by rfl))) rfl rfl rfl ?_
  refine gl_f (s_len_str rfl) rfl rfl rfl ?_
  refine gl_f ((s_lss rfl rfl).eq (congrArg Value.bool hq1.symm)) rfl rfl rfl ?_
  refine gl_f (s_move rfl) rfl rfl rfl ?_
  (first | refine gl_guard_no rfl rfl rfl rfl rfl rfl rfl ?_ | refine gl_guard_un rfl rfl rfl rfl rfl rfl ?_ | (refine gl_guard_yes rfl rfl rfl ?_; refine gl_f (by first | exact s_fieldAddr rfl (by rfl) (by infer_instance) (by decide) | exact s_fieldAddr_o rfl (by assumption) (by rfl) (by infer_instance) (by decide)) rfl rfl rfl ?_))
  (first | refine gl_guard_no rfl rfl rfl rfl rfl rfl rfl ?_ | refine gl_guard_un rfl rfl rfl rfl rfl rfl ?_ | (refine gl_guard_yes rfl rfl rfl ?_; refine gl_r (by first | exact s_load_blk rfl (by repeat first|exact .del|apply Upd.there) (by rfl) | exact s_load1 rfl (fun w hw => peekB hw (by assumption) (by rfl))) rfl rfl rfl ?_))
  (first | refine gl_guard_no rfl rfl rfl rfl rfl rfl rfl ?_ | refine gl_guard_un rfl rfl rfl rfl rfl rfl ?_ | (refine gl_guard_yes rfl rfl rfl ?_; refine gl_f (s_len_str rfl) rfl rfl rfl ?_))
  (first | refine gl_guard_no rfl rfl rfl rfl rfl rfl rfl ?_ | refine gl_guard_un rfl rfl rfl rfl rfl rfl ?_ | (refine gl_guard_yes rfl rfl rfl ?_; refine gl_f ((s_gtr rfl rfl).eq (congrArg Value.bool hq2.symm)) rfl rfl rfl ?_))
  refine gl_f (by first | exact s_pick_t rfl rfl | exact s_pick_f rfl rfl) rfl rfl rfl ?_
  refine gl_nil ?_
  repeat (first | refine g_seq ?_ | refine at_code ?_ | refine g_skip ?_ | refine g_block ?_ | refine g_exit rfl ?_ | refine g_cond_t rfl ?_ | refine g_cond_f rfl ?_)
  obtain ⟨q3, hq3⟩ : ∃ q, q = offD x := ⟨_, rfl⟩
  cases q3
  rotate_left
  · have ee : turnE x ⟨3, name, s⟩ = 8 := by simp [turnE, eb, ← hq3]
    have et : turnD x ⟨3, name, s⟩ = x := by simp [turnD, turnsD, ee]
    rw [ee, et]
    repeat (first | refine g_seq ?_ | refine at_code ?_ | refine g_skip ?_ | refine g_block ?_ | refine g_exit rfl ?_ | refine g_cond_t rfl ?_ | refine g_cond_f rfl ?_)
    refine g_region ?_
    refine gl_f (s_move rfl) rfl rfl rfl ?_
    refine gl_callp rfl (rOff_ct x r) (fun h hh ⟨bs, hb⟩ => Sat.blk hb (by repeat first|exact .del|apply Upd.there)) rfl ?_; rw [← hq3]
    refine gl_nil ?_
    repeat (first | refine g_seq ?_ | refine at_code ?_ | refine g_skip ?_ | refine g_block ?_ | refine g_exit rfl ?_ | refine g_cond_t rfl ?_ | refine g_cond_f rfl ?_)
    repeat (first | refine g_seq ?_ | refine at_code ?_ | refine g_skip ?_ | refine g_block ?_ | refine g_exit rfl ?_ | refine g_cond_t rfl ?_ | refine g_cond_f rfl ?_)
    refine g_region ?_
    refine gl_f (s_assign rfl) rfl rfl rfl ?_
    refine gl_nil ?_
    repeat (first | refine g_seq ?_ | refine at_code ?_ | refine g_skip ?_ | refine g_block ?_ | refine g_exit rfl ?_ | refine g_cond_t rfl ?_ | refine g_cond_f rfl ?_)
    refine g_ret ?_
    exact at_end1 rfl rfl [.blk r.X (refO x r)] (RTP.same x r 8) (fun w hw => hw.drop)
  repeat (first | refine g_seq ?_ | refine at_code ?_ | refine g_skip ?_ | refine g_block ?_ | refine g_exit rfl ?_ | refine g_cond_t rfl ?_ | refine g_cond_f rfl ?_)
  refine g_region ?_
  refine gl_f (s_move rfl) rfl rfl rfl ?_
  refine gl_callp rfl (rOff_ct x r) (fun h hh ⟨bs, hb⟩ => Sat.blk hb (by repeat first|exact .del|apply Upd.there)) rfl ?_; rw [← hq3]
  refine gl_nil ?_
  repeat (first | refine g_seq ?_ | refine at_code ?_ | refine g_skip ?_ | refine g_block ?_ | refine g_exit rfl ?_ | refine g_cond_t rfl ?_ | refine g_cond_f rfl ?_)
  obtain ⟨q4, hq4⟩ : ∃ q, q = (getL x.seen name).isSome := ⟨_, rfl⟩
  cases q4
  · have hno : getL x.seen name = none := by cases h : getL x.seen name; rfl; rw [h] at hq4; cases hq4
    have ee : turnE x ⟨3, name, s⟩ = 6 := by simp [turnE, eb, ← hq3, hno]
    have et : turnD x ⟨3, name, s⟩ = x := by simp [turnD, turnsD, ee]
    rw [ee, et]
    repeat (first | refine g_seq ?_ | refine at_code ?_ | refine g_skip ?_ | refine g_block ?_ | refine g_exit rfl ?_ | refine g_cond_t rfl ?_ | refine g_cond_f rfl ?_)
    refine g_draw [3, 5] [.blk g3 (.cells #[.int .i64 3, B name, B s] 95), .blk r.X (refO x r)] 12 rfl ?_
    refine ga_free 0 rfl (s_move rfl) rfl rfl rfl (by kernel_rfl) ?_
    refine ga_free 1 rfl (s_nilCheck rfl) rfl rfl rfl (by kernel_rfl) ?_
    refine ga_free 2 rfl (by first | exact s_fieldAddr rfl (by rfl) (by infer_instance) (by decide) | exact s_fieldAddr_o rfl (by assumption) (by rfl) (by infer_instance) (by decide)) rfl rfl rfl (by kernel_rfl) ?_
    (first | refine ga_read_k 3 rfl (by first | exact .head _ | exact .tail _ (.head _) | exact .tail _ (.tail _ (.head _)) | exact .tail _ (.tail _ (.tail _ (.head _)))) (s_load_blk rfl .del (by rfl)) (by (first | exact fun _ h => h | (repeat first | exact sub_nil | refine sub_cons (by repeat first | exact List.Mem.head _ | apply List.Mem.tail) ?_))) rfl rfl rfl (by kernel_rfl) ?_ | refine ga_readF 3 rfl (s_load1 rfl (fun w hw => peekB hw (by assumption) (by rfl))) (by (first | exact fun _ h => h | (repeat first | exact sub_nil | refine sub_cons (by repeat first | exact List.Mem.head _ | apply List.Mem.tail) ?_))) rfl rfl rfl (by kernel_rfl) ?_)
    refine ga_free 4 rfl (by first | exact s_fieldAddr rfl (by rfl) (by infer_instance) (by decide) | exact s_fieldAddr_o rfl (by assumption) (by rfl) (by infer_instance) (by decide)) rfl rfl rfl (by kernel_rfl) ?_
    (first | refine ga_read_k 5 rfl (by first | exact .head _ | exact .tail _ (.head _) | exact .tail _ (.tail _ (.head _)) | exact .tail _ (.tail _ (.tail _ (.head _)))) (s_load_blk rfl .del (by rfl)) (by (first | exact fun _ h => h | (repeat first | exact sub_nil | refine sub_cons (by repeat first | exact List.Mem.head _ | apply List.Mem.tail) ?_))) rfl rfl rfl (by kernel_rfl) ?_ | refine ga_readF 5 rfl (s_load1 rfl (fun w hw => peekB hw (by assumption) (by rfl))) (by (first | exact fun _ h => h | (repeat first | exact sub_nil | refine sub_cons (by repeat first | exact List.Mem.head _ | apply List.Mem.tail) ?_))) rfl rfl rfl (by kernel_rfl) ?_)
    refine ga_one 6 rfl (by kernel_rfl) ?_
    refine gl_callp rfl (Get_ct x.seen name r.sa r.sc (by omega)) (fun h hh _ => hr.seen.le hh) rfl ?_; rw [← hq4]
    refine gl_nil ?_
    refine at_ga (.inl (by kernel_rfl)) ?_
    refine ga_free 7 rfl (s_move rfl) rfl rfl rfl (by kernel_rfl) ?_
    refine ga_free 8 rfl (s_extract rfl rfl) rfl rfl rfl (by kernel_rfl) ?_
    refine ga_free 9 rfl (s_extract rfl rfl) rfl rfl rfl (by kernel_rfl) ?_
    refine ga_free 10 rfl (s_assign rfl) rfl rfl rfl (by kernel_rfl) ?_
    refine ga_free 11 rfl (s_assign rfl) rfl rfl rfl (by kernel_rfl) ?_
    refine ga_done (by kernel_rfl) ?_
    repeat (first | refine g_seq ?_ | refine at_code ?_ | refine g_skip ?_ | refine g_block ?_ | refine g_exit rfl ?_ | refine g_cond_t rfl ?_ | refine g_cond_f rfl ?_)
    repeat (first | refine g_seq ?_ | refine at_code ?_ | refine g_skip ?_ | refine g_block ?_ | refine g_exit rfl ?_ | refine g_cond_t rfl ?_ | refine g_cond_f rfl ?_)
    refine g_region ?_
    refine gl_f (by first | exact s_fieldAddr rfl (by rfl) (by infer_instance) (by decide) | exact s_fieldAddr_o rfl (by assumption) (by rfl) (by infer_instance) (by decide)) rfl rfl rfl ?_
    refine gl_r (by first | exact s_load_blk rfl (by repeat first|exact .del|apply Upd.there) (by rfl) | exact s_load1 rfl (fun w hw => peekB hw (by assumption) (by rfl))) rfl rfl rfl ?_
    refine gl_f (s_eql rfl rfl) rfl rfl rfl ?_
    refine gl_f (s_move rfl) rfl rfl rfl ?_
    (first | refine gl_guard_no rfl rfl rfl rfl rfl rfl rfl ?_ | refine gl_guard_un rfl rfl rfl rfl rfl rfl ?_ | (refine gl_guard_yes rfl rfl rfl ?_; refine gl_f (s_move rfl) rfl rfl rfl ?_))
    (first | refine gl_guard_no rfl rfl rfl rfl rfl rfl rfl ?_ | refine gl_guard_un rfl rfl rfl rfl rfl rfl ?_ | (refine gl_guard_yes rfl rfl rfl ?_; refine gl_f (s_not rfl) rfl rfl rfl ?_))
    refine gl_f (by first | exact s_pick_t rfl rfl | exact s_pick_f rfl rfl) rfl rfl rfl ?_
    refine gl_nil ?_
    repeat (first | refine g_seq ?_ | refine at_code ?_ | refine g_skip ?_ | refine g_block ?_ | refine g_exit rfl ?_ | refine g_cond_t rfl ?_ | refine g_cond_f rfl ?_)
    refine g_region ?_
    refine gl_f (s_assign rfl) rfl rfl rfl ?_
    refine gl_nil ?_
    repeat (first | refine g_seq ?_ | refine at_code ?_ | refine g_skip ?_ | refine g_block ?_ | refine g_exit rfl ?_ | refine g_cond_t rfl ?_ | refine g_cond_f rfl ?_)
    refine g_ret ?_
    exact at_end1 rfl rfl [.blk r.X (refO x r)] (RTP.same x r 6) (fun w hw => hw.drop)
  have hyes : getL x.seen name ≠ none := by intro h; rw [h] at hq4; cases hq4
  repeat (first | refine g_seq ?_ | refine at_code ?_ | refine g_skip ?_ | refine g_block ?_ | refine g_exit rfl ?_ | refine g_cond_t rfl ?_ | refine g_cond_f rfl ?_)
  refine g_draw [3, 5] [.blk g3 (.cells #[.int .i64 3, B name, B s] 95), .blk r.X (refO x r)] 12 rfl ?_
  refine ga_free 0 rfl (s_move rfl) rfl rfl rfl (by kernel_rfl) ?_
  refine ga_free 1 rfl (s_nilCheck rfl) rfl rfl rfl (by kernel_rfl) ?_
  refine ga_free 2 rfl (by first | exact s_fieldAddr rfl (by rfl) (by infer_instance) (by decide) | exact s_fieldAddr_o rfl (by assumption) (by rfl) (by infer_instance) (by decide)) rfl rfl rfl (by kernel_rfl) ?_
  (first | refine ga_read_k 3 rfl (by first | exact .head _ | exact .tail _ (.head _) | exact .tail _ (.tail _ (.head _)) | exact .tail _ (.tail _ (.tail _ (.head _)))) (s_load_blk rfl .del (by rfl)) (by (first | exact fun _ h => h | (repeat first | exact sub_nil | refine sub_cons (by repeat first | exact List.Mem.head _ | apply List.Mem.tail) ?_))) rfl rfl rfl (by kernel_rfl) ?_ | refine ga_readF 3 rfl (s_load1 rfl (fun w hw => peekB hw (by assumption) (by rfl))) (by (first | exact fun _ h => h | (repeat first | exact sub_nil | refine sub_cons (by repeat first | exact List.Mem.head _ | apply List.Mem.tail) ?_))) rfl rfl rfl (by kernel_rfl) ?_)
  refine ga_free 4 rfl (by first | exact s_fieldAddr rfl (by rfl) (by infer_instance) (by decide) | exact s_fieldAddr_o rfl (by assumption) (by rfl) (by infer_instance) (by decide)) rfl rfl rfl (by kernel_rfl) ?_
  (first | refine ga_read_k 5 rfl (by first | exact .head _ | exact .tail _ (.head _) | exact .tail _ (.tail _ (.head _)) | exact .tail _ (.tail _ (.tail _ (.head _)))) (s_load_blk rfl .del (by rfl)) (by (first | exact fun _ h => h | (repeat first | exact sub_nil | refine sub_cons (by repeat first | exact List.Mem.head _ | apply List.Mem.tail) ?_))) rfl rfl rfl (by kernel_rfl) ?_ | refine ga_readF 5 rfl (s_load1 rfl (fun w hw => peekB hw (by assumption) (by rfl))) (by (first | exact fun _ h => h | (repeat first | exact sub_nil | refine sub_cons (by repeat first | exact List.Mem.head _ | apply List.Mem.tail) ?_))) rfl rfl rfl (by kernel_rfl) ?_)
  refine ga_one 6 rfl (by kernel_rfl) ?_
  refine gl_callp rfl (Get_ct x.seen name r.sa r.sc (by omega)) (fun h hh _ => hr.seen.le hh) rfl ?_; rw [← hq4]
  refine gl_nil ?_
  refine at_ga (.inl (by kernel_rfl)) ?_
  refine ga_free 7 rfl (s_move rfl) rfl rfl rfl (by kernel_rfl) ?_
  refine ga_free 8 rfl (s_extract rfl rfl) rfl rfl rfl (by kernel_rfl) ?_
  refine ga_free 9 rfl (s_extract rfl rfl) rfl rfl rfl (by kernel_rfl) ?_
  refine ga_free 10 rfl (s_assign rfl) rfl rfl rfl (by kernel_rfl) ?_
  refine ga_free 11 rfl (s_assign rfl) rfl rfl rfl (by kernel_rfl) ?_
  refine ga_done (by kernel_rfl) ?_
  repeat (first | refine g_seq ?_ | refine at_code ?_ | refine g_skip ?_ | refine g_block ?_ | refine g_exit rfl ?_ | refine g_cond_t rfl ?_ | refine g_cond_f rfl ?_)
  repeat (first | refine g_seq ?_ | refine at_code ?_ | refine g_skip ?_ | refine g_block ?_ | refine g_exit rfl ?_ | refine g_cond_t rfl ?_ | refine g_cond_f rfl ?_)
  refine g_region ?_
  refine gl_f (by first | exact s_fieldAddr rfl (by rfl) (by infer_instance) (by decide) | exact s_fieldAddr_o rfl (by assumption) (by rfl) (by infer_instance) (by decide)) rfl rfl rfl ?_
  refine gl_r (by first | exact s_load_blk rfl (by repeat first|exact .del|apply Upd.there) (by rfl) | exact s_load1 rfl (fun w hw => peekB hw (by assumption) (by rfl))) rfl rfl rfl ?_
  refine gl_f (s_eql rfl rfl) rfl rfl rfl ?_
  refine gl_f (s_move rfl) rfl rfl rfl ?_
  (first | refine gl_guard_no rfl rfl rfl rfl rfl rfl rfl ?_ | refine gl_guard_un rfl rfl rfl rfl rfl rfl ?_ | (refine gl_guard_yes rfl rfl rfl ?_; refine gl_f (s_move rfl) rfl rfl rfl ?_))
  (first | refine gl_guard_no rfl rfl rfl rfl rfl rfl rfl ?_ | refine gl_guard_un rfl rfl rfl rfl rfl rfl ?_ | (refine gl_guard_yes rfl rfl rfl ?_; refine gl_f (s_not rfl) rfl rfl rfl ?_))
  refine gl_f (by first | exact s_pick_t rfl rfl | exact s_pick_f rfl rfl) rfl rfl rfl ?_
  refine gl_nil ?_
  repeat (first | refine g_seq ?_ | refine at_code ?_ | refine g_skip ?_ | refine g_block ?_ | refine g_exit rfl ?_ | refine g_cond_t rfl ?_ | refine g_cond_f rfl ?_)
  have hst : stepsC ⟨3, name, s⟩ ≠ 0 := by simp [stepsC]
  repeat (first | refine g_seq ?_ | refine at_code ?_ | refine g_skip ?_ | refine g_block ?_ | refine g_exit rfl ?_ | refine g_cond_t rfl ?_ | refine g_cond_f rfl ?_)
  refine g_region ?_
  refine gl_f (by first | exact s_fieldAddr rfl (by rfl) (by infer_instance) (by decide) | exact s_fieldAddr_o rfl (by assumption) (by rfl) (by infer_instance) (by decide)) rfl rfl rfl ?_
  refine gl_r (by first | exact s_load_blk rfl (by repeat first|exact .del|apply Upd.there) (by rfl) | exact s_load1 rfl (fun w hw => peekB hw (by assumption) (by rfl))) rfl rfl rfl ?_
  refine gl_f (s_eql rfl rfl) rfl rfl rfl ?_
  refine gl_f (s_move rfl) rfl rfl rfl ?_
  (first | refine gl_guard_no rfl rfl rfl rfl rfl rfl rfl ?_ | refine gl_guard_un rfl rfl rfl rfl rfl rfl ?_ | (refine gl_guard_yes rfl rfl rfl ?_; refine gl_f (by first | exact s_fieldAddr rfl (by rfl) (by infer_instance) (by decide) | exact s_fieldAddr_o rfl (by assumption) (by rfl) (by infer_instance) (by decide)) rfl rfl rfl ?_))
  (first | refine gl_guard_no rfl rfl rfl rfl rfl rfl rfl ?_ | refine gl_guard_un rfl rfl rfl rfl rfl rfl ?_ | (refine gl_guard_yes rfl rfl rfl ?_; refine gl_r (by first | exact s_load_blk rfl (by repeat first|exact .del|apply Upd.there) (by rfl) | exact s_load1 rfl (fun w hw => peekB hw (by assumption) (by rfl))) rfl rfl rfl ?_))
  (first | refine gl_guard_no rfl rfl rfl rfl rfl rfl rfl ?_ | refine gl_guard_un rfl rfl rfl rfl rfl rfl ?_ | (refine gl_guard_yes rfl rfl rfl ?_; refine gl_f (s_eql_str rfl rfl) rfl rfl rfl ?_))
  refine gl_f (by first | exact s_pick_t rfl rfl | exact s_pick_f rfl rfl) rfl rfl rfl ?_
  refine gl_nil ?_
  repeat (first | refine g_seq ?_ | refine at_code ?_ | refine g_skip ?_ | refine g_block ?_ | refine g_exit rfl ?_ | refine g_cond_t rfl ?_ | refine g_cond_f rfl ?_)
  have hgl : ((getL x.seen name).getD []).length ≤ usedL x.seen := by have := used_without hI.seen name; omega
  obtain ⟨l, hle⟩ : ∃ l, l = doneL x.seen ⟨3, name, s⟩ (stepsC ⟨3, name, s⟩) := ⟨_, rfl⟩
  have hll := done_len x.seen ⟨3, name, s⟩ (stepsC ⟨3, name, s⟩)
  have hul := used_done_add hI.seen ⟨3, name, s⟩ (stepsC ⟨3, name, s⟩)
  simp only at hul
  rw [← hle] at hll hul
  repeat (first | refine g_seq ?_ | refine at_code ?_ | refine g_skip ?_ | refine g_block ?_ | refine g_exit rfl ?_ | refine g_cond_t rfl ?_ | refine g_cond_f rfl ?_)
  refine g_draw [3, 4, 5] [.blk g3 (.cells #[.int .i64 3, B name, B s] 95), .blk r.X (refO x r)] 9 rfl ?_
  refine ga_free 0 rfl (s_move rfl) rfl rfl rfl (by kernel_rfl) ?_
  refine ga_free 1 rfl (s_nilCheck rfl) rfl rfl rfl (by kernel_rfl) ?_
  refine ga_free 2 rfl (by first | exact s_fieldAddr rfl (by rfl) (by infer_instance) (by decide) | exact s_fieldAddr_o rfl (by assumption) (by rfl) (by infer_instance) (by decide)) rfl rfl rfl (by kernel_rfl) ?_
  (first | refine ga_read_k 3 rfl (by first | exact .head _ | exact .tail _ (.head _) | exact .tail _ (.tail _ (.head _)) | exact .tail _ (.tail _ (.tail _ (.head _)))) (s_load_blk rfl .del (by rfl)) (by (first | exact fun _ h => h | (repeat first | exact sub_nil | refine sub_cons (by repeat first | exact List.Mem.head _ | apply List.Mem.tail) ?_))) rfl rfl rfl (by kernel_rfl) ?_ | refine ga_readF 3 rfl (s_load1 rfl (fun w hw => peekB hw (by assumption) (by rfl))) (by (first | exact fun _ h => h | (repeat first | exact sub_nil | refine sub_cons (by repeat first | exact List.Mem.head _ | apply List.Mem.tail) ?_))) rfl rfl rfl (by kernel_rfl) ?_)
  (first | refine ga_read_k 4 rfl (by first | exact .head _ | exact .tail _ (.head _) | exact .tail _ (.tail _ (.head _)) | exact .tail _ (.tail _ (.tail _ (.head _)))) (s_load_blkW rfl .del (by rfl)) (by (first | exact fun _ h => h | (repeat first | exact sub_nil | refine sub_cons (by repeat first | exact List.Mem.head _ | apply List.Mem.tail) ?_))) rfl rfl rfl (by kernel_rfl) ?_ | refine ga_read_k 4 rfl (by first | exact .head _ | exact .tail _ (.head _) | exact .tail _ (.tail _ (.head _)) | exact .tail _ (.tail _ (.tail _ (.head _)))) (s_load_blkN rfl .del (by rfl)) (by (first | exact fun _ h => h | (repeat first | exact sub_nil | refine sub_cons (by repeat first | exact List.Mem.head _ | apply List.Mem.tail) ?_))) rfl rfl rfl (by kernel_rfl) ?_ | refine ga_readF 4 rfl (s_loadN rfl (fun w hw => peekBN hw (by assumption)) (by rfl)) (by (first | exact fun _ h => h | (repeat first | exact sub_nil | refine sub_cons (by repeat first | exact List.Mem.head _ | apply List.Mem.tail) ?_))) rfl rfl rfl (by kernel_rfl) ?_)
  (first | refine ga_read_k 5 rfl (by first | exact .head _ | exact .tail _ (.head _) | exact .tail _ (.tail _ (.head _)) | exact .tail _ (.tail _ (.tail _ (.head _)))) (s_load_blkW rfl .del (by rfl)) (by (first | exact fun _ h => h | (repeat first | exact sub_nil | refine sub_cons (by repeat first | exact List.Mem.head _ | apply List.Mem.tail) ?_))) rfl rfl rfl (by kernel_rfl) ?_ | refine ga_read_k 5 rfl (by first | exact .head _ | exact .tail _ (.head _) | exact .tail _ (.tail _ (.head _)) | exact .tail _ (.tail _ (.tail _ (.head _)))) (s_load_blkN rfl .del (by rfl)) (by (first | exact fun _ h => h | (repeat first | exact sub_nil | refine sub_cons (by repeat first | exact List.Mem.head _ | apply List.Mem.tail) ?_))) rfl rfl rfl (by kernel_rfl) ?_ | refine ga_readF 5 rfl (s_loadN rfl (fun w hw => peekBN hw (by assumption)) (by rfl)) (by (first | exact fun _ h => h | (repeat first | exact sub_nil | refine sub_cons (by repeat first | exact List.Mem.head _ | apply List.Mem.tail) ?_))) rfl rfl rfl (by kernel_rfl) ?_)
  refine ga_one 6 rfl (by kernel_rfl) ?_
  refine gl_callp rfl (Steps_ct ⟨3, name, s⟩) (fun _ _ _ => trivial) rfl ?_
  refine gl_nil ?_
  refine at_ga (.inr (by exact keeps_of (by (first | exact fun _ h => h | (repeat first | exact sub_nil | refine sub_cons (by repeat first | exact List.Mem.head _ | apply List.Mem.tail) ?_))))) ?_
  refine ga_one 7 rfl (by kernel_rfl) ?_
  refine gl_call _ rfl (Done_ct x.seen ⟨3, name, s⟩ (stepsC ⟨3, name, s⟩) r.sa r.sc (by omega) (by simp) (Nat.le_refl _) (by simp only; omega)) (fun w hw => hw) (fun h hh _ => hr.seen.le hh) rfl ?_; rintro v A (⟨h9, _⟩ | ⟨_, sa, sc, rfl, rfl⟩); exact absurd h9 hst; rw [← hle]
  refine gl_nil ?_
  refine at_ga (.inr (by exact keeps_of (by (first | exact fun _ h => h | (repeat first | exact sub_nil | refine sub_cons (by repeat first | exact List.Mem.head _ | apply List.Mem.tail) ?_))))) ?_
  refine ga_free 8 rfl (s_assign rfl) rfl rfl rfl (by kernel_rfl) ?_
  refine ga_done (by kernel_rfl) ?_
  repeat (first | refine g_seq ?_ | refine at_code ?_ | refine g_skip ?_ | refine g_block ?_ | refine g_exit rfl ?_ | refine g_cond_t rfl ?_ | refine g_cond_f rfl ?_)
  repeat (first | refine g_seq ?_ | refine at_code ?_ | refine g_skip ?_ | refine g_block ?_ | refine g_exit rfl ?_ | refine g_cond_t rfl ?_ | refine g_cond_f rfl ?_)
  refine g_region ?_
  refine gl_f (by first | exact s_fieldAddr rfl (by rfl) (by infer_instance) (by decide) | exact s_fieldAddr_o rfl (by assumption) (by rfl) (by infer_instance) (by decide)) rfl rfl rfl ?_
  refine gl_r (by first | exact s_load_blk rfl (by repeat first|exact .del|apply Upd.there) (by rfl) | exact s_load1 rfl (fun w hw => peekB hw (by assumption) (by rfl))) rfl rfl rfl ?_
  refine gl_f (s_eql rfl rfl) rfl rfl rfl ?_
  refine gl_nil ?_
  repeat (first | refine g_seq ?_ | refine at_code ?_ | refine g_skip ?_ | refine g_block ?_ | refine g_exit rfl ?_ | refine g_cond_t rfl ?_ | refine g_cond_f rfl ?_)
  obtain ⟨q9, hq9⟩ : ∃ q, q = decide (x.cap < (usedL l : Nat)) := ⟨_, rfl⟩
  have ef : fullC x ⟨3, name, s⟩ = q9 := by rw [fullC, hq9, hle]; rfl
  cases q9
  rotate_left
  · have ee : turnE x ⟨3, name, s⟩ = 7 := by simp [turnE, eb, ← hq3, ef, hyes]
    have et : turnD x ⟨3, name, s⟩ = x := by simp [turnD, turnsD, ee]
    rw [ee, et]
    repeat (first | refine g_seq ?_ | refine at_code ?_ | refine g_skip ?_ | refine g_block ?_ | refine g_exit rfl ?_ | refine g_cond_t rfl ?_ | refine g_cond_f rfl ?_)
    refine g_draw0 [5] 7 rfl ?_
    refine ga_free 0 rfl (s_move rfl) rfl rfl rfl (by kernel_rfl) ?_
    refine ga_free 2 rfl (s_move rfl) rfl rfl rfl (by kernel_rfl) ?_
    refine ga_free 3 rfl (s_nilCheck rfl) rfl rfl rfl (by kernel_rfl) ?_
    refine ga_free 4 rfl (by first | exact s_fieldAddr rfl (by rfl) (by infer_instance) (by decide) | exact s_fieldAddr_o rfl (by assumption) (by rfl) (by infer_instance) (by decide)) rfl rfl rfl (by kernel_rfl) ?_
    (first | refine ga_read 5 rfl (by repeat first|exact .del|apply Upd.there) (s_load_blk rfl .del (by rfl)) rfl rfl rfl (by kernel_rfl) ?_ | refine ga_readF 5 rfl (s_load1 rfl (fun w hw => peekB hw (by assumption) (by rfl))) (by (first | exact fun _ h => h | (repeat first | exact sub_nil | refine sub_cons (by repeat first | exact List.Mem.head _ | apply List.Mem.tail) ?_))) rfl rfl rfl (by kernel_rfl) ?_)
    refine ga_one 1 rfl (by kernel_rfl) ?_
    refine gl_callp rfl (rUsed_ct l sa sc (by omega) (by omega)) (fun h hh ⟨bs, hb⟩ => Sat.rd (a := sa) hb (by repeat first|exact .del|apply Upd.there)) rfl ?_
    refine gl_nil ?_
    refine at_ga (.inr (by exact keeps_of (by (first | exact fun _ h => h | (repeat first | exact sub_nil | refine sub_cons (by repeat first | exact List.Mem.head _ | apply List.Mem.tail) ?_))))) ?_
    refine ga_free 6 rfl ((s_gtr rfl rfl).eq (congrArg Value.bool hq9.symm)) rfl rfl rfl (by kernel_rfl) ?_
    refine ga_done (by kernel_rfl) ?_
    repeat (first | refine g_seq ?_ | refine at_code ?_ | refine g_skip ?_ | refine g_block ?_ | refine g_exit rfl ?_ | refine g_cond_t rfl ?_ | refine g_cond_f rfl ?_)
    repeat (first | refine g_seq ?_ | refine at_code ?_ | refine g_skip ?_ | refine g_block ?_ | refine g_exit rfl ?_ | refine g_cond_t rfl ?_ | refine g_cond_f rfl ?_)
    refine g_region ?_
    refine gl_f (s_assign rfl) rfl rfl rfl ?_
    refine gl_nil ?_
    repeat (first | refine g_seq ?_ | refine at_code ?_ | refine g_skip ?_ | refine g_block ?_ | refine g_exit rfl ?_ | refine g_cond_t rfl ?_ | refine g_cond_f rfl ?_)
    refine g_ret ?_
    exact at_end1 rfl rfl [.blk r.X (refO x r)] (RTP.same x r 7) (fun w hw => Hp.left (R := [_, _]) (hw.perm (perm_up (by repeat first|exact .del|apply Upd.there) (.refl _))))
  have ht : turnsD x ⟨3, name, s⟩ = true := turnsD_iff.2 ⟨eb, hq3.symm, (by simp [hyes]), (by simp), ef⟩
  have ee : turnE x ⟨3, name, s⟩ = 0 := by simp [turnE, eb, ← hq3, ef, hyes]
  have et : turnD x ⟨3, name, s⟩ = spendD { x with seen := l, pend := x.pend ++ [⟨3, name, s⟩] } := by rw [turnD, if_pos ht, turnX, hle]
  have ho : x.fused = true → 1 ≤ x.left := fun hf => by
    have := hq3.symm
    simp only [offD, hf, Bool.true_and, decide_eq_false_iff_not] at this; omega
  rw [ee, et]
  repeat (first | refine g_seq ?_ | refine at_code ?_ | refine g_skip ?_ | refine g_block ?_ | refine g_exit rfl ?_ | refine g_cond_t rfl ?_ | refine g_cond_f rfl ?_)
  refine g_draw0 [5] 7 rfl ?_
  refine ga_free 0 rfl (s_move rfl) rfl rfl rfl (by kernel_rfl) ?_
  refine ga_free 2 rfl (s_move rfl) rfl rfl rfl (by kernel_rfl) ?_
  refine ga_free 3 rfl (s_nilCheck rfl) rfl rfl rfl (by kernel_rfl) ?_
  refine ga_free 4 rfl (by first | exact s_fieldAddr rfl (by rfl) (by infer_instance) (by decide) | exact s_fieldAddr_o rfl (by assumption) (by rfl) (by infer_instance) (by decide)) rfl rfl rfl (by kernel_rfl) ?_
  (first | refine ga_read 5 rfl (by repeat first|exact .del|apply Upd.there) (s_load_blk rfl .del (by rfl)) rfl rfl rfl (by kernel_rfl) ?_ | refine ga_readF 5 rfl (s_load1 rfl (fun w hw => peekB hw (by assumption) (by rfl))) (by (first | exact fun _ h => h | (repeat first | exact sub_nil | refine sub_cons (by repeat first | exact List.Mem.head _ | apply List.Mem.tail) ?_))) rfl rfl rfl (by kernel_rfl) ?_)
  refine ga_one 1 rfl (by kernel_rfl) ?_
  refine gl_callp rfl (rUsed_ct l sa sc (by omega) (by omega)) (fun h hh ⟨bs, hb⟩ => Sat.rd (a := sa) hb (by repeat first|exact .del|apply Upd.there)) rfl ?_
  refine gl_nil ?_
  refine at_ga (.inr (by exact keeps_of (by (first | exact fun _ h => h | (repeat first | exact sub_nil | refine sub_cons (by repeat first | exact List.Mem.head _ | apply List.Mem.tail) ?_))))) ?_
  refine ga_free 6 rfl ((s_gtr rfl rfl).eq (congrArg Value.bool hq9.symm)) rfl rfl rfl (by kernel_rfl) ?_
  refine ga_done (by kernel_rfl) ?_
  repeat (first | refine g_seq ?_ | refine at_code ?_ | refine g_skip ?_ | refine g_block ?_ | refine g_exit rfl ?_ | refine g_cond_t rfl ?_ | refine g_cond_f rfl ?_)
  have elen : (x.pend ++ [(⟨3, name, s⟩ : Cl)]).length = x.pend.length + 1 := by simp
  repeat (first | refine g_seq ?_ | refine at_code ?_ | refine g_skip ?_ | refine g_block ?_ | refine g_exit rfl ?_ | refine g_cond_t rfl ?_ | refine g_cond_f rfl ?_)
  refine g_region ?_
  refine gl_f (s_move rfl) rfl rfl rfl ?_
  refine gl_f (s_move rfl) rfl rfl rfl ?_
  refine gl_f (s_nilCheck rfl) rfl rfl rfl ?_
  refine gl_f (by first | exact s_fieldAddr rfl (by rfl) (by infer_instance) (by decide) | exact s_fieldAddr_o rfl (by assumption) (by rfl) (by infer_instance) (by decide)) rfl rfl rfl ?_
  (first | refine gl_store_blkC (pre := [_]) (post := [_, _, _, _]) rfl rfl (by repeat first|exact .here|apply Upd.there) (by rfl) (by rfl) (by rfl) ?_ | refine gl_store_blk rfl rfl (by repeat first|exact .here|apply Upd.there) (by rfl) (by (intro q hq; simp [Value.cells] at hq; first | (subst hq; rfl) | (rcases hq with rfl | rfl | rfl | rfl | rfl | rfl | rfl | rfl <;> rfl) | (rcases hq with rfl | rfl | rfl | rfl | rfl | rfl | rfl <;> rfl) | (rcases hq with rfl | rfl | rfl | rfl | rfl | rfl <;> rfl) | (rcases hq with rfl | rfl | rfl | rfl | rfl <;> rfl) | (rcases hq with rfl | rfl | rfl | rfl <;> rfl) | (rcases hq with rfl | rfl | rfl <;> rfl) | (rcases hq with rfl | rfl <;> rfl))) (by rfl) ?_)
  refine gl_nil ?_
  repeat (first | refine g_seq ?_ | refine at_code ?_ | refine g_skip ?_ | refine g_block ?_ | refine g_exit rfl ?_ | refine g_cond_t rfl ?_ | refine g_cond_f rfl ?_)
  refine g_draw [5, 7] [.blk r.X (.cells #[.int .i64 x.cap, .slice sa l.length sc, .slice r.la x.lasts.length r.lc, .slice r.pa x.pend.length r.pc, .bool x.fused, .int .i64 x.left] 75), .blk g3 (.cells #[.int .i64 3, B name, B s] 95)] 13 rfl ?_
  refine ga_free 0 rfl (s_move rfl) rfl rfl rfl (by kernel_rfl) ?_
  refine ga_free 2 rfl (s_move rfl) rfl rfl rfl (by kernel_rfl) ?_
  refine ga_free 3 rfl (s_nilCheck rfl) rfl rfl rfl (by kernel_rfl) ?_
  refine ga_free 4 rfl (by first | exact s_fieldAddr rfl (by rfl) (by infer_instance) (by decide) | exact s_fieldAddr_o rfl (by assumption) (by rfl) (by infer_instance) (by decide)) rfl rfl rfl (by kernel_rfl) ?_
  (first | refine ga_read_k 5 rfl (by first | exact .head _ | exact .tail _ (.head _) | exact .tail _ (.tail _ (.head _)) | exact .tail _ (.tail _ (.tail _ (.head _)))) (s_load_blk rfl .del (by rfl)) (by (first | exact fun _ h => h | (repeat first | exact sub_nil | refine sub_cons (by repeat first | exact List.Mem.head _ | apply List.Mem.tail) ?_))) rfl rfl rfl (by kernel_rfl) ?_ | refine ga_readF 5 rfl (s_load1 rfl (fun w hw => peekB hw (by assumption) (by rfl))) (by (first | exact fun _ h => h | (repeat first | exact sub_nil | refine sub_cons (by repeat first | exact List.Mem.head _ | apply List.Mem.tail) ?_))) rfl rfl rfl (by kernel_rfl) ?_)
  (first | refine ga_read_k 7 rfl (by first | exact .head _ | exact .tail _ (.head _) | exact .tail _ (.tail _ (.head _)) | exact .tail _ (.tail _ (.tail _ (.head _)))) (s_load_blkW rfl .del (by rfl)) (by (first | exact fun _ h => h | (repeat first | exact sub_nil | refine sub_cons (by repeat first | exact List.Mem.head _ | apply List.Mem.tail) ?_))) rfl rfl rfl (by kernel_rfl) ?_ | refine ga_read_k 7 rfl (by first | exact .head _ | exact .tail _ (.head _) | exact .tail _ (.tail _ (.head _)) | exact .tail _ (.tail _ (.tail _ (.head _)))) (s_load_blkN rfl .del (by rfl)) (by (first | exact fun _ h => h | (repeat first | exact sub_nil | refine sub_cons (by repeat first | exact List.Mem.head _ | apply List.Mem.tail) ?_))) rfl rfl rfl (by kernel_rfl) ?_ | refine ga_readF 7 rfl (s_loadN rfl (fun w hw => peekBN hw (by assumption)) (by rfl)) (by (first | exact fun _ h => h | (repeat first | exact sub_nil | refine sub_cons (by repeat first | exact List.Mem.head _ | apply List.Mem.tail) ?_))) rfl rfl rfl (by kernel_rfl) ?_)
  refine ga_two 1 8 rfl rfl (by kernel_rfl) ?_ ?_
  refine gl_buildSlice0 rfl ?_; intro a78
  refine gl_nil ?_
  refine at_ga (.inr (by exact keeps_of (by (first | exact fun _ h => h | (repeat first | exact sub_nil | refine sub_cons (by repeat first | exact List.Mem.head _ | apply List.Mem.tail) ?_))))) ?_
  refine ga_two 6 8 rfl rfl (by kernel_rfl) ?_ ?_
  refine gl_append rfl rfl (fun a' c' => by first | exact .here | exact .there .here | exact .there (.there .here)) (fun w hw => hr.pend.le hw.keep) (rcV_len _) rfl rfl (rcV_one _) (by show (_ + _) * 40 ≤ _; omega) (by omega) rfl ?_; intro a6 c6 hc6; rw [Nat.zero_add, List.nil_append]
  refine gl_nil ?_
  refine at_ga (.inr (by exact keeps_of (by (first | exact fun _ h => h | (repeat first | exact sub_nil | refine sub_cons (by repeat first | exact List.Mem.head _ | apply List.Mem.tail) ?_))))) ?_
  refine ga_one 8 rfl (by kernel_rfl) ?_
  refine gl_buildSliceU rfl rfl rfl rfl rfl rfl (xs := rcV [⟨3, name, s⟩]) rfl rfl ?_; intro a8 ha8
  refine gl_nil ?_
  refine at_ga (.inr (by exact keeps_of (by (first | exact fun _ h => h | (repeat first | exact sub_nil | refine sub_cons (by repeat first | exact List.Mem.head _ | apply List.Mem.tail) ?_))))) ?_
  refine ga_one 9 rfl (by kernel_rfl) ?_
  refine gl_append rfl rfl (fun a' c' => by first | exact .here | exact .there .here | exact .there (.there .here)) (fun w hw => (hw.ownN (by repeat first|exact .del|apply Upd.there)).2.2.1) rfl rfl rfl (rcV_one _) (by show (_ + 1) * 40 ≤ _; omega) (by omega) rfl ?_; intro a9 c9 hc9
  refine gl_nil ?_
  refine at_ga (.inr (by exact keeps_of (by (first | exact fun _ h => h | (repeat first | exact sub_nil | refine sub_cons (by repeat first | exact List.Mem.head _ | apply List.Mem.tail) ?_))))) ?_
  refine ga_free 10 rfl (s_nilCheck rfl) rfl rfl rfl (by kernel_rfl) ?_
  refine ga_free 11 rfl (by first | exact s_fieldAddr rfl (by rfl) (by infer_instance) (by decide) | exact s_fieldAddr_o rfl (by assumption) (by rfl) (by infer_instance) (by decide)) rfl rfl rfl (by kernel_rfl) ?_
  refine ga_one 12 rfl (by kernel_rfl) ?_
  (first | refine gl_store_blkC (pre := [_, _, _]) (post := [_, _]) rfl rfl (by repeat first|exact .here|apply Upd.there) (by rfl) (by rfl) (by rfl) ?_ | refine gl_store_blk rfl rfl (by repeat first|exact .here|apply Upd.there) (by rfl) (by (intro q hq; simp [Value.cells] at hq; first | (subst hq; rfl) | (rcases hq with rfl | rfl | rfl | rfl | rfl | rfl | rfl | rfl <;> rfl) | (rcases hq with rfl | rfl | rfl | rfl | rfl | rfl | rfl <;> rfl) | (rcases hq with rfl | rfl | rfl | rfl | rfl | rfl <;> rfl) | (rcases hq with rfl | rfl | rfl | rfl | rfl <;> rfl) | (rcases hq with rfl | rfl | rfl | rfl <;> rfl) | (rcases hq with rfl | rfl | rfl <;> rfl) | (rcases hq with rfl | rfl <;> rfl))) (by rfl) ?_)
  refine gl_nil ?_
  refine at_ga (.inl (by kernel_rfl)) ?_
  refine ga_done (by kernel_rfl) ?_
  rotate_left 1
  refine gl_buildSliceU rfl rfl rfl rfl rfl rfl (xs := rcV [⟨3, name, s⟩]) rfl rfl ?_; intro a8 ha8
  refine gl_nil ?_
  refine at_ga (.inr (by exact keeps_of (by (first | exact fun _ h => h | (repeat first | exact sub_nil | refine sub_cons (by repeat first | exact List.Mem.head _ | apply List.Mem.tail) ?_))))) ?_
  refine ga_one 6 rfl (by kernel_rfl) ?_
  refine gl_append rfl rfl (fun a' c' => by first | exact .here | exact .there .here | exact .there (.there .here)) (fun w hw => hr.pend.le hw.keep) (rcV_len _) rfl rfl (rcV_one _) (by show (_ + _) * 40 ≤ _; omega) (by omega) rfl ?_; intro a6 c6 hc6; rw [Nat.zero_add, List.nil_append]
  refine gl_nil ?_
  refine at_ga (.inr (by exact keeps_of (by (first | exact fun _ h => h | (repeat first | exact sub_nil | refine sub_cons (by repeat first | exact List.Mem.head _ | apply List.Mem.tail) ?_))))) ?_
  refine ga_one 9 rfl (by kernel_rfl) ?_
  refine gl_append rfl rfl (fun a' c' => by first | exact .here | exact .there .here | exact .there (.there .here)) (fun w hw => (hw.ownN (by repeat first|exact .del|apply Upd.there)).2.2.1) rfl rfl rfl (rcV_one _) (by show (_ + 1) * 40 ≤ _; omega) (by omega) rfl ?_; intro a9 c9 hc9
  refine gl_nil ?_
  refine at_ga (.inr (by exact keeps_of (by (first | exact fun _ h => h | (repeat first | exact sub_nil | refine sub_cons (by repeat first | exact List.Mem.head _ | apply List.Mem.tail) ?_))))) ?_
  refine ga_free 10 rfl (s_nilCheck rfl) rfl rfl rfl (by kernel_rfl) ?_
  refine ga_free 11 rfl (by first | exact s_fieldAddr rfl (by rfl) (by infer_instance) (by decide) | exact s_fieldAddr_o rfl (by assumption) (by rfl) (by infer_instance) (by decide)) rfl rfl rfl (by kernel_rfl) ?_
  refine ga_one 12 rfl (by kernel_rfl) ?_
  (first | refine gl_store_blkC (pre := [_, _, _]) (post := [_, _]) rfl rfl (by repeat first|exact .here|apply Upd.there) (by rfl) (by rfl) (by rfl) ?_ | refine gl_store_blk rfl rfl (by repeat first|exact .here|apply Upd.there) (by rfl) (by (intro q hq; simp [Value.cells] at hq; first | (subst hq; rfl) | (rcases hq with rfl | rfl | rfl | rfl | rfl | rfl | rfl | rfl <;> rfl) | (rcases hq with rfl | rfl | rfl | rfl | rfl | rfl | rfl <;> rfl) | (rcases hq with rfl | rfl | rfl | rfl | rfl | rfl <;> rfl) | (rcases hq with rfl | rfl | rfl | rfl | rfl <;> rfl) | (rcases hq with rfl | rfl | rfl | rfl <;> rfl) | (rcases hq with rfl | rfl | rfl <;> rfl) | (rcases hq with rfl | rfl <;> rfl))) (by rfl) ?_)
  refine gl_nil ?_
  refine at_ga (.inl (by kernel_rfl)) ?_
  refine ga_done (by kernel_rfl) ?_
  rotate_left 1
  refine gl_buildSliceU rfl rfl rfl rfl rfl rfl (xs := rcV [⟨3, name, s⟩]) rfl rfl ?_; intro a8 ha8
  refine gl_nil ?_
  refine at_ga (.inr (by exact keeps_of (by (first | exact fun _ h => h | (repeat first | exact sub_nil | refine sub_cons (by repeat first | exact List.Mem.head _ | apply List.Mem.tail) ?_))))) ?_
  refine ga_one 1 rfl (by kernel_rfl) ?_
  refine gl_buildSlice0 rfl ?_; intro a78
  refine gl_nil ?_
  refine at_ga (.inr (by exact keeps_of (by (first | exact fun _ h => h | (repeat first | exact sub_nil | refine sub_cons (by repeat first | exact List.Mem.head _ | apply List.Mem.tail) ?_))))) ?_
  refine ga_one 6 rfl (by kernel_rfl) ?_
  refine gl_append rfl rfl (fun a' c' => by first | exact .here | exact .there .here | exact .there (.there .here)) (fun w hw => hr.pend.le hw.keep) (rcV_len _) rfl rfl (rcV_one _) (by show (_ + _) * 40 ≤ _; omega) (by omega) rfl ?_; intro a6 c6 hc6; rw [Nat.zero_add, List.nil_append]
  refine gl_nil ?_
  refine at_ga (.inr (by exact keeps_of (by (first | exact fun _ h => h | (repeat first | exact sub_nil | refine sub_cons (by repeat first | exact List.Mem.head _ | apply List.Mem.tail) ?_))))) ?_
  refine ga_one 9 rfl (by kernel_rfl) ?_
  refine gl_append rfl rfl (fun a' c' => by first | exact .here | exact .there .here | exact .there (.there .here)) (fun w hw => (hw.ownN (by repeat first|exact .del|apply Upd.there)).2.2.1) rfl rfl rfl (rcV_one _) (by show (_ + 1) * 40 ≤ _; omega) (by omega) rfl ?_; intro a9 c9 hc9
  refine gl_nil ?_
  refine at_ga (.inr (by exact keeps_of (by (first | exact fun _ h => h | (repeat first | exact sub_nil | refine sub_cons (by repeat first | exact List.Mem.head _ | apply List.Mem.tail) ?_))))) ?_
  refine ga_free 10 rfl (s_nilCheck rfl) rfl rfl rfl (by kernel_rfl) ?_
  refine ga_free 11 rfl (by first | exact s_fieldAddr rfl (by rfl) (by infer_instance) (by decide) | exact s_fieldAddr_o rfl (by assumption) (by rfl) (by infer_instance) (by decide)) rfl rfl rfl (by kernel_rfl) ?_
  refine ga_one 12 rfl (by kernel_rfl) ?_
  (first | refine gl_store_blkC (pre := [_, _, _]) (post := [_, _]) rfl rfl (by repeat first|exact .here|apply Upd.there) (by rfl) (by rfl) (by rfl) ?_ | refine gl_store_blk rfl rfl (by repeat first|exact .here|apply Upd.there) (by rfl) (by (intro q hq; simp [Value.cells] at hq; first | (subst hq; rfl) | (rcases hq with rfl | rfl | rfl | rfl | rfl | rfl | rfl | rfl <;> rfl) | (rcases hq with rfl | rfl | rfl | rfl | rfl | rfl | rfl <;> rfl) | (rcases hq with rfl | rfl | rfl | rfl | rfl | rfl <;> rfl) | (rcases hq with rfl | rfl | rfl | rfl | rfl <;> rfl) | (rcases hq with rfl | rfl | rfl | rfl <;> rfl) | (rcases hq with rfl | rfl | rfl <;> rfl) | (rcases hq with rfl | rfl <;> rfl))) (by rfl) ?_)
  refine gl_nil ?_
  refine at_ga (.inl (by kernel_rfl)) ?_
  refine ga_done (by kernel_rfl) ?_
  rotate_left 1
  all_goals (repeat (first | refine g_seq ?_ | refine at_code ?_ | refine g_skip ?_ | refine g_block ?_ | refine g_exit rfl ?_ | refine g_cond_t rfl ?_ | refine g_cond_f rfl ?_))
  all_goals (rw [← elen, ← rcV_append])
  all_goals (
    repeat (first | refine g_seq ?_ | refine at_code ?_ | refine g_skip ?_ | refine g_block ?_ | refine g_exit rfl ?_ | refine g_cond_t rfl ?_ | refine g_cond_f rfl ?_)
    refine g_region ?_
    refine gl_f (s_move rfl) rfl rfl rfl ?_
    refine gl_call _ rfl (rSpend_ct { x with seen := l, pend := x.pend ++ [⟨3, name, s⟩] } ⟨r.X, sa, sc, r.la, r.lc, a9, c9⟩ (fun h => by have := ho h; simp only; omega)) (fun w hw => hw.perm (perm_up (by repeat first|exact .del|apply Upd.there) (.refl _))) (fun _ _ _ => trivial) rfl ?_; rintro v A ⟨rfl, rfl⟩
    refine gl_nil ?_
    repeat (first | refine g_seq ?_ | refine at_code ?_ | refine g_skip ?_ | refine g_block ?_ | refine g_exit rfl ?_ | refine g_cond_t rfl ?_ | refine g_cond_f rfl ?_))
  all_goals (
    repeat (first | refine g_seq ?_ | refine at_code ?_ | refine g_skip ?_ | refine g_block ?_ | refine g_exit rfl ?_ | refine g_cond_t rfl ?_ | refine g_cond_f rfl ?_)
    refine g_region ?_
    refine gl_f (s_assign rfl) rfl rfl rfl ?_
    refine gl_nil ?_
    repeat (first | refine g_seq ?_ | refine at_code ?_ | refine g_skip ?_ | refine g_block ?_ | refine g_exit rfl ?_ | refine g_cond_t rfl ?_ | refine g_cond_f rfl ?_))
  all_goals (
    refine g_ret ?_
    refine at_end1 rfl rfl [.blk r.X (refO (spendD { x with seen := l, pend := x.pend ++ [⟨3, name, s⟩] }) ⟨r.X, sa, sc, r.la, r.lc, a9, c9⟩), OwnF sa l sc, OwnR a9 (x.pend ++ [⟨3, name, s⟩]) c9] ⟨rfl, ⟨r.X, sa, sc, r.la, r.lc, a9, c9⟩, [OwnF sa l sc, OwnR a9 (x.pend ++ [⟨3, name, s⟩]) c9], rfl, rfl, fun h f ⟨bs, hb⟩ => (RFacts.spend _ _ _).2 ⟨Sat.rd (a := sa) hb (by repeat first|exact .del|apply Upd.there), f.lasts, Sat.rd (a := a9) hb (by repeat first|exact .del|apply Upd.there)⟩⟩ ?_
    intro w hw
    exact Hp.left (hw.perm (perm_up (by repeat first|exact .del|apply Upd.there) (perm_up (by repeat first|exact .del|apply Upd.there) (perm_up (by repeat first|exact .del|apply Upd.there) (.refl _))))))
end Go.Proofs.Ytolgclfbllcjhaa
