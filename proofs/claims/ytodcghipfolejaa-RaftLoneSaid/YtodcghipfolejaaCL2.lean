/- The laws: what they call. -/
import Derived.Test.YtodcghipfolejaaCL1
import Derived.Test.YtodcghipfolejaaCLMath
namespace Go.Proofs.Ytodcghipfolejaa.Rf
open Go Go.Sl
set_option linter.unusedVariables false
set_option linter.unusedSimpArgs false
-- ARR

instance : HBld Try.prog 82 #[{ name := "Term", type := 27, offset := 0, embedded := false, tag := "", pkgPath := "", byteOffset := 0 }, { name := "Vote", type := 3, offset := 1, embedded := false, tag := "", pkgPath := "", byteOffset := 8 }, { name := "Life", type := 27, offset := 2, embedded := false, tag := "", pkgPath := "", byteOffset := 16 }] [(0, 1), (1, 1), (2, 1)] := ⟨Try.underlying82, by kernel_rfl, by kernel_rfl⟩
instance : HBld Try.prog 47 #[{ name := "Base", type := 27, offset := 0, embedded := false, tag := "", pkgPath := "", byteOffset := 0 }, { name := "BaseTerm", type := 27, offset := 1, embedded := false, tag := "", pkgPath := "", byteOffset := 8 }, { name := "BaseConf", type := 22, offset := 2, embedded := false, tag := "", pkgPath := "", byteOffset := 16 }, { name := "L", type := 45, offset := 3, embedded := false, tag := "", pkgPath := "", byteOffset := 40 }] [(0, 1), (1, 1), (2, 1), (3, 1)] := ⟨Try.underlying47, by kernel_rfl, by kernel_rfl⟩
instance : HBld Try.prog 65 #[{ name := "Term", type := 27, offset := 0, embedded := false, tag := "", pkgPath := "", byteOffset := 0 }, { name := "Kind", type := 3, offset := 1, embedded := false, tag := "", pkgPath := "", byteOffset := 8 }, { name := "Data", type := 9, offset := 2, embedded := false, tag := "", pkgPath := "", byteOffset := 16 }] [(0, 1), (1, 1), (2, 1)] := ⟨Try.underlying65, by kernel_rfl, by kernel_rfl⟩
instance : HBld Try.prog 100 #[{ name := "Kind", type := 3, offset := 0, embedded := false, tag := "", pkgPath := "", byteOffset := 0 }, { name := "Message", type := 98, offset := 1, embedded := false, tag := "", pkgPath := "", byteOffset := 8 }, { name := "Entry", type := 65, offset := 14, embedded := false, tag := "", pkgPath := "", byteOffset := 152 }, { name := "Index", type := 27, offset := 17, embedded := false, tag := "", pkgPath := "", byteOffset := 184 }, { name := "Image", type := 9, offset := 18, embedded := false, tag := "", pkgPath := "", byteOffset := 192 }] [(0, 1), (1, 13), (14, 3), (17, 1), (18, 1)] := ⟨Try.underlying100, by kernel_rfl, by kernel_rfl⟩
theorem Ct.mono {f : FuncId} {args : List Value} {Pre : Heap → Prop} {C : List As} {Post Post' : Value → List As → Prop} (h : Ct Try.prog f args Pre C Post) (k : ∀ v A, Post v A → ∃ A', Post' v A' ∧ ∀ (F : Snap) (w : World), Hp F w A → Hp F w A') : Ct Try.prog f args Pre C Post' := by
  intro w bs hs hn hp
  refine (h w bs hs hn hp).mono ?_
  rintro e W' ⟨v, A, rfl, hP, hh⟩
  obtain ⟨A', h1, h2⟩ := k v A hP
  exact ⟨v, A', rfl, h1, h2 _ _ hh⟩
theorem New_ok (id : Int) (h : Hd) (g : LM) (img : Bs) (tout : Int) (hc : g.conf.length ≤ 1000000) (hl : g.l.length ≤ 1000000) (hb : badNew id tout = false) : Ct Try.prog 64 [.int .i64 id, .agg #[.int .u64 h.term, .int .i64 h.vote, .int .u64 h.c], g.v, B img, .int .i64 tout] g.ok [] (fun v A => ∃ a, v = .tuple #[rsV (newP id h g img tout) a, .int .i64 0] ∧ A = OwnS (newP id h g img tout) a) := by
  refine Ct.mono (New_ct id h g img tout hc hl) ?_
  rintro v A (⟨h1, _⟩ | ⟨_, a, rfl, rfl⟩)
  · rw [hb] at h1; cases h1
  · exact ⟨_, ⟨a, rfl, rfl⟩, fun _ _ h => h⟩
/-- a tick, a proposal -/
def eTick : EV := ⟨1, MM0, 0, 0, [], 0, []⟩
def eProp (d : Bs) : EV := ⟨3, MM0, 0, 3, d, 0, []⟩
/-- a step that sends nothing -/
def StN (p' : RP) (e : Int) (v : Value) (A : List As) : Prop := ∃ a' oa oc, v = .tuple #[rsV p' a', .slice oa 0 oc, .int .i64 e] ∧ A = OwnS p' a'
theorem StP.n {p' : RP} {e : Int} {v : Value} {A : List As} (h : StP p' [] e v A) : ∃ A', StN p' e v A' ∧ ∀ (F : Snap) (w : World), Hp F w A → Hp F w A' := by
  obtain ⟨a', outs, oa, oc, Z, rfl, ho, rfl, _⟩ := h
  have ho2 : outs = [] := by simpa using ho
  subst ho2
  exact ⟨_, ⟨a', oa, oc, rfl, rfl⟩, fun _ _ h => Hp.left h⟩
theorem StepTick_ct (p p' : RP) (a : RA) (hf : PFit p) (ht : p.ticks < 4611686018427387904) (hl : p.l.length ≤ 99999) (hp : tickP p = p' ∧ tickM p = []) : Ct Try.prog 67 [rsV p a, evA eTick] (fun h => RRd h p a ∧ True) [] (StN p' 0) := by
  have h1 := Step_of p a eTick 1 87 p' [] 0 hf rfl (by decide) (by kernel_rfl) (fun _ => True) (fun _ _ _ h => h) (fun X d e1 e2 => by
    have := tick_ct X d (evC eTick).toArray (by rw [e1]; exact hf) (by rw [e1]; exact ht) (by rw [e1]; exact hl) (by rw [e2]; decide)
    rw [e1, hp.1, hp.2] at this
    exact this)
  rw [if_pos rfl, if_pos rfl] at h1
  exact Ct.mono h1 (fun _ _ h => h.n)
theorem StepProp_ct (p p' : RP) (a : RA) (d : Bs) (E : Int) (hf : PFit p) (hl : p.l.length ≤ 99999) (hE : propE p 3 d = E) (hp : (E = 0 ∧ propP p 3 d = p' ∧ propM p 3 d = []) ∨ (E ≠ 0 ∧ p' = p)) : Ct Try.prog 67 [rsV p a, evA (eProp d)] (fun h => RRd h p a ∧ True) [] (StN p' E) := by
  have h1 := Step_of p a (eProp d) 3 89 (propP p 3 d) (propM p 3 d) E hf rfl (by decide) (by kernel_rfl) (fun _ => True) (fun _ _ _ h => h) (fun X dd e1 e2 => by
    have := propose_ct X dd (eProp d) (by rw [e1]; exact hf) (by rw [e1]; exact hl) (by rw [e2]; decide)
    rw [e1] at this
    rw [← hE]
    exact this)
  rcases hp with ⟨h0, h2, h3⟩ | ⟨h0, rfl⟩
  · rw [if_pos h0, if_pos h0, h2, h3] at h1
    exact Ct.mono h1 (fun _ _ h => h.n)
  · rw [if_neg h0, if_neg h0] at h1
    exact Ct.mono h1 (fun _ _ h => h.n)
abbrev gOne (n : Int) (a : Option Addr) (c : Nat) : LM := ⟨0, 0, [n], [], a, c, none, 0⟩
theorem newP_S0 (n w : Int) (a : Option Addr) (c : Nat) : newP n ⟨0, 0, 0⟩ (gOne n a c) [] w = S0 n w 0 := rfl
set_option maxRecDepth 16000 in
set_option maxHeartbeats 4000000 in
theorem ralive_ct : Pu Try.prog 63 [] (fun _ => True) (.bool true) := by
  refine ct_enter 73 Try.func63 rfl rfl rfl ?_
  intro F _
  repeat (first | refine g_seq ?_ | refine at_code ?_ | refine g_skip ?_ | refine g_block ?_ | refine g_exit rfl ?_ | refine g_cond_t rfl ?_ | refine g_cond_f rfl ?_)
  refine g_region ?_
  refine gl_f (s_assign rfl) rfl rfl rfl ?_
  refine gl_nil ?_
  repeat (first | refine g_seq ?_ | refine at_code ?_ | refine g_skip ?_ | refine g_block ?_ | refine g_exit rfl ?_ | refine g_cond_t rfl ?_ | refine g_cond_f rfl ?_)
  refine g_region ?_
  refine gl_f ((s_bld (cells := #[.int .u64 0, .int .i64 0, .int .u64 0]) rfl (by kernel_rfl))) rfl rfl rfl ?_
  refine gl_buildSliceU rfl rfl rfl rfl rfl rfl (xs := intsV [1]) rfl rfl ?_; intro a1 ha1
  refine gl_f ((s_bld (cells := #[.int .u64 0, .int .u64 0, .slice a1 1 1, .slice none 0 0]) rfl (by kernel_rfl)).eq (v' := (gOne 1 a1 1).v) rfl) rfl rfl rfl ?_
  refine gl_call _ rfl (New_ok 1 ⟨0, 0, 0⟩ (gOne 1 a1 1) [] 1 (by show 1 ≤ _; decide) (by show 0 ≤ _; decide) (by decide)) (fun w hw => hw) (fun h hh ⟨bs, hb⟩ => ⟨Sat.rd hb (by repeat first|exact .del|apply Upd.there), RdS.nil _ _⟩) rfl ?_; rw [newP_S0]; rintro v A ⟨a3, rfl, rfl⟩
  refine gl_f (s_move rfl) rfl rfl rfl ?_
  refine gl_f (s_extract rfl rfl) rfl rfl rfl ?_
  refine gl_f (s_extract rfl rfl) rfl rfl rfl ?_
  refine gl_allocA rfl ?_; intro g1
  (first | refine gl_store_blkW rfl rfl (by repeat first|exact .here|apply Upd.there) (by rfl) (by rfl) (by (intro q hq; simp [Value.cells] at hq; first | (subst hq; rfl) | (rcases hq with rfl | rfl | rfl | rfl | rfl | rfl | rfl | rfl <;> rfl) | (rcases hq with rfl | rfl | rfl | rfl | rfl | rfl | rfl | rfl | rfl | rfl | rfl | rfl | rfl | rfl | rfl | rfl | rfl | rfl | rfl | rfl <;> rfl))) ?_ | refine gl_store_blk rfl rfl (by repeat first|exact .here|apply Upd.there) (by rfl) (by (intro q hq; simp [Value.cells] at hq; first | (subst hq; rfl) | (rcases hq with rfl | rfl | rfl | rfl | rfl | rfl | rfl | rfl <;> rfl) | (rcases hq with rfl | rfl | rfl | rfl | rfl | rfl | rfl | rfl | rfl | rfl | rfl | rfl | rfl | rfl | rfl | rfl | rfl | rfl | rfl | rfl <;> rfl))) (by rfl) ?_)
  refine gl_f (s_assign rfl) rfl rfl rfl ?_
  refine gl_nil ?_
  repeat (first | refine g_seq ?_ | refine at_code ?_ | refine g_skip ?_ | refine g_block ?_ | refine g_exit rfl ?_ | refine g_cond_t rfl ?_ | refine g_cond_f rfl ?_)
  repeat (first | refine g_seq ?_ | refine at_code ?_ | refine g_skip ?_ | refine g_block ?_ | refine g_exit rfl ?_ | refine g_cond_t rfl ?_ | refine g_cond_f rfl ?_)
  refine g_region ?_
  refine gl_f (s_move rfl) rfl rfl rfl ?_
  refine gl_f ((s_neq rfl rfl).eq (v' := .bool false) rfl) rfl rfl rfl ?_
  refine gl_nil ?_
  repeat (first | refine g_seq ?_ | refine at_code ?_ | refine g_skip ?_ | refine g_block ?_ | refine g_exit rfl ?_ | refine g_cond_t rfl ?_ | refine g_cond_f rfl ?_)
  repeat (first | refine g_seq ?_ | refine at_code ?_ | refine g_skip ?_ | refine g_block ?_ | refine g_exit rfl ?_ | refine g_cond_t rfl ?_ | refine g_cond_f rfl ?_)
  refine g_region ?_
  refine gl_r ((s_load_blkW rfl (by repeat first|exact .del|apply Upd.there) (by rfl)).eq (v' := rsV (S0 1 1 0) a3) rfl) rfl rfl rfl ?_
  refine gl_f ((s_bld (cells := (evC eTick).toArray) rfl (by kernel_rfl)).eq (v' := evA eTick) rfl) rfl rfl rfl ?_
  refine gl_call _ rfl (StepTick_ct (S0 1 1 0) (SL 1 1 []) a3 (S0_fit (by decide)) (by decide) (by decide) (tick_stand (by decide) (by decide))) (fun w hw => hw) (fun h hh ⟨bs, hb⟩ => ⟨⟨Sat.rd (a := a3.ca) hb (by repeat first|exact .del|apply Upd.there), Sat.rd (a := a3.la) hb (by repeat first|exact .del|apply Upd.there), Sat.rd (a := a3.va) hb (by repeat first|exact .del|apply Upd.there), Sat.rd (a := a3.pa) hb (by repeat first|exact .del|apply Upd.there)⟩, trivial⟩) rfl ?_; rintro v A ⟨a4, oa, oc, rfl, rfl⟩
  refine gl_f (s_move rfl) rfl rfl rfl ?_
  refine gl_f (s_extract rfl rfl) rfl rfl rfl ?_
  refine gl_f (s_extract rfl rfl) rfl rfl rfl ?_
  refine gl_f (s_extract rfl rfl) rfl rfl rfl ?_
  (first | refine gl_store_blkW rfl rfl (by repeat first|exact .here|apply Upd.there) (by rfl) (by rfl) (by (intro q hq; simp [Value.cells] at hq; first | (subst hq; rfl) | (rcases hq with rfl | rfl | rfl | rfl | rfl | rfl | rfl | rfl <;> rfl) | (rcases hq with rfl | rfl | rfl | rfl | rfl | rfl | rfl | rfl | rfl | rfl | rfl | rfl | rfl | rfl | rfl | rfl | rfl | rfl | rfl | rfl <;> rfl))) ?_ | refine gl_store_blk rfl rfl (by repeat first|exact .here|apply Upd.there) (by rfl) (by (intro q hq; simp [Value.cells] at hq; first | (subst hq; rfl) | (rcases hq with rfl | rfl | rfl | rfl | rfl | rfl | rfl | rfl <;> rfl) | (rcases hq with rfl | rfl | rfl | rfl | rfl | rfl | rfl | rfl | rfl | rfl | rfl | rfl | rfl | rfl | rfl | rfl | rfl | rfl | rfl | rfl <;> rfl))) (by rfl) ?_)
  refine gl_f (s_assign rfl) rfl rfl rfl ?_
  refine gl_f (s_assign rfl) rfl rfl rfl ?_
  refine gl_nil ?_
  repeat (first | refine g_seq ?_ | refine at_code ?_ | refine g_skip ?_ | refine g_block ?_ | refine g_exit rfl ?_ | refine g_cond_t rfl ?_ | refine g_cond_f rfl ?_)
  repeat (first | refine g_seq ?_ | refine at_code ?_ | refine g_skip ?_ | refine g_block ?_ | refine g_exit rfl ?_ | refine g_cond_t rfl ?_ | refine g_cond_f rfl ?_)
  refine g_region ?_
  refine gl_f (s_move rfl) rfl rfl rfl ?_
  refine gl_f ((s_neq rfl rfl).eq (v' := .bool false) rfl) rfl rfl rfl ?_
  refine gl_f (s_move rfl) rfl rfl rfl ?_
  (first | refine gl_guard_no rfl rfl rfl rfl rfl rfl rfl ?_ | refine gl_guard_un rfl rfl rfl rfl rfl rfl ?_ | (refine gl_guard_yes rfl rfl rfl ?_; refine gl_f (s_move rfl) rfl rfl rfl ?_))
  (first | refine gl_guard_no rfl rfl rfl rfl rfl rfl rfl ?_ | refine gl_guard_un rfl rfl rfl rfl rfl rfl ?_ | (refine gl_guard_yes rfl rfl rfl ?_; refine gl_f (s_len_sl rfl) rfl rfl rfl ?_))
  (first | refine gl_guard_no rfl rfl rfl rfl rfl rfl rfl ?_ | refine gl_guard_un rfl rfl rfl rfl rfl rfl ?_ | (refine gl_guard_yes rfl rfl rfl ?_; refine gl_f ((s_neq rfl rfl).eq (v' := .bool false) rfl) rfl rfl rfl ?_))
  refine gl_f (by first | exact s_pick_t rfl rfl | exact s_pick_f rfl rfl) rfl rfl rfl ?_
  refine gl_f (s_move rfl) rfl rfl rfl ?_
  (first | refine gl_guard_no rfl rfl rfl rfl rfl rfl rfl ?_ | refine gl_guard_un rfl rfl rfl rfl rfl rfl ?_ | (refine gl_guard_yes rfl rfl rfl ?_; refine gl_f (by first | exact s_fieldAddr rfl (by rfl) (by infer_instance) (by decide) | exact s_fieldAddr_o rfl (by assumption) (by rfl) (by infer_instance) (by decide)) rfl rfl rfl ?_))
  (first | refine gl_guard_no rfl rfl rfl rfl rfl rfl rfl ?_ | refine gl_guard_un rfl rfl rfl rfl rfl rfl ?_ | (refine gl_guard_yes rfl rfl rfl ?_; refine gl_r (by first | exact s_load_blk rfl (by repeat first|exact .del|apply Upd.there) a18_3 | exact s_load1 rfl (fun w hw => peekB hw (by assumption) a18_3)) rfl rfl rfl ?_))
  (first | refine gl_guard_no rfl rfl rfl rfl rfl rfl rfl ?_ | refine gl_guard_un rfl rfl rfl rfl rfl rfl ?_ | (refine gl_guard_yes rfl rfl rfl ?_; refine gl_f ((s_neq rfl rfl).eq (v' := .bool false) rfl) rfl rfl rfl ?_))
  refine gl_f (by first | exact s_pick_t rfl rfl | exact s_pick_f rfl rfl) rfl rfl rfl ?_
  refine gl_f (s_move rfl) rfl rfl rfl ?_
  (first | refine gl_guard_no rfl rfl rfl rfl rfl rfl rfl ?_ | refine gl_guard_un rfl rfl rfl rfl rfl rfl ?_ | (refine gl_guard_yes rfl rfl rfl ?_; refine gl_f (by first | exact s_fieldAddr rfl (by rfl) (by infer_instance) (by decide) | exact s_fieldAddr_o rfl (by assumption) (by rfl) (by infer_instance) (by decide)) rfl rfl rfl ?_))
  (first | refine gl_guard_no rfl rfl rfl rfl rfl rfl rfl ?_ | refine gl_guard_un rfl rfl rfl rfl rfl rfl ?_ | (refine gl_guard_yes rfl rfl rfl ?_; refine gl_r (by first | exact s_load_blk rfl (by repeat first|exact .del|apply Upd.there) a18_1 | exact s_load1 rfl (fun w hw => peekB hw (by assumption) a18_1)) rfl rfl rfl ?_))
  (first | refine gl_guard_no rfl rfl rfl rfl rfl rfl rfl ?_ | refine gl_guard_un rfl rfl rfl rfl rfl rfl ?_ | (refine gl_guard_yes rfl rfl rfl ?_; refine gl_f ((s_neq rfl rfl).eq (v' := .bool false) rfl) rfl rfl rfl ?_))
  refine gl_f (by first | exact s_pick_t rfl rfl | exact s_pick_f rfl rfl) rfl rfl rfl ?_
  refine gl_f (s_move rfl) rfl rfl rfl ?_
  (first | refine gl_guard_no rfl rfl rfl rfl rfl rfl rfl ?_ | refine gl_guard_un rfl rfl rfl rfl rfl rfl ?_ | (refine gl_guard_yes rfl rfl rfl ?_; refine gl_f (by first | exact s_fieldAddr rfl (by rfl) (by infer_instance) (by decide) | exact s_fieldAddr_o rfl (by assumption) (by rfl) (by infer_instance) (by decide)) rfl rfl rfl ?_))
  (first | refine gl_guard_no rfl rfl rfl rfl rfl rfl rfl ?_ | refine gl_guard_un rfl rfl rfl rfl rfl rfl ?_ | (refine gl_guard_yes rfl rfl rfl ?_; refine gl_r (by first | exact s_load_blk rfl (by repeat first|exact .del|apply Upd.there) a18_10 | exact s_load1 rfl (fun w hw => peekB hw (by assumption) a18_10)) rfl rfl rfl ?_))
  (first | refine gl_guard_no rfl rfl rfl rfl rfl rfl rfl ?_ | refine gl_guard_un rfl rfl rfl rfl rfl rfl ?_ | (refine gl_guard_yes rfl rfl rfl ?_; refine gl_f ((s_neq rfl rfl).eq (v' := .bool false) rfl) rfl rfl rfl ?_))
  refine gl_f (by first | exact s_pick_t rfl rfl | exact s_pick_f rfl rfl) rfl rfl rfl ?_
  refine gl_nil ?_
  repeat (first | refine g_seq ?_ | refine at_code ?_ | refine g_skip ?_ | refine g_block ?_ | refine g_exit rfl ?_ | refine g_cond_t rfl ?_ | refine g_cond_f rfl ?_)
  repeat (first | refine g_seq ?_ | refine at_code ?_ | refine g_skip ?_ | refine g_block ?_ | refine g_exit rfl ?_ | refine g_cond_t rfl ?_ | refine g_cond_f rfl ?_)
  refine g_region ?_
  refine gl_r ((s_load_blkW rfl (by repeat first|exact .del|apply Upd.there) (by rfl)).eq (v' := rsV (SL 1 1 []) a4) rfl) rfl rfl rfl ?_
  refine gl_f ((s_bld (cells := #[.int .u64 0, .int .i64 3, B [120]]) rfl (by kernel_rfl))) rfl rfl rfl ?_
  refine gl_f ((s_bld (cells := (evC (eProp [120])).toArray) rfl (by kernel_rfl)).eq (v' := evA (eProp [120])) rfl) rfl rfl rfl ?_
  refine gl_call _ rfl (StepProp_ct (SL 1 1 []) (SL 1 1 [[120]]) a4 [120] 0 (SL_fit [] (by decide) (fun _ h => nomatch h)) (by decide) (prop_ok [] [120] (by decide) (by decide) (by decide)).1 (.inl ⟨rfl, (prop_ok [] [120] (by decide) (by decide) (by decide)).2⟩)) (fun w hw => hw) (fun h hh ⟨bs, hb⟩ => ⟨⟨Sat.rd (a := a4.ca) hb (by repeat first|exact .del|apply Upd.there), Sat.rd (a := a4.la) hb (by repeat first|exact .del|apply Upd.there), Sat.rd (a := a4.va) hb (by repeat first|exact .del|apply Upd.there), Sat.rd (a := a4.pa) hb (by repeat first|exact .del|apply Upd.there)⟩, trivial⟩) rfl ?_; rintro v A ⟨a7, oa7, oc7, rfl, rfl⟩
  refine gl_f (s_move rfl) rfl rfl rfl ?_
  refine gl_f (s_extract rfl rfl) rfl rfl rfl ?_
  refine gl_f (s_extract rfl rfl) rfl rfl rfl ?_
  refine gl_f (s_extract rfl rfl) rfl rfl rfl ?_
  (first | refine gl_store_blkW rfl rfl (by repeat first|exact .here|apply Upd.there) (by rfl) (by rfl) (by (intro q hq; simp [Value.cells] at hq; first | (subst hq; rfl) | (rcases hq with rfl | rfl | rfl | rfl | rfl | rfl | rfl | rfl <;> rfl) | (rcases hq with rfl | rfl | rfl | rfl | rfl | rfl | rfl | rfl | rfl | rfl | rfl | rfl | rfl | rfl | rfl | rfl | rfl | rfl | rfl | rfl <;> rfl))) ?_ | refine gl_store_blk rfl rfl (by repeat first|exact .here|apply Upd.there) (by rfl) (by (intro q hq; simp [Value.cells] at hq; first | (subst hq; rfl) | (rcases hq with rfl | rfl | rfl | rfl | rfl | rfl | rfl | rfl <;> rfl) | (rcases hq with rfl | rfl | rfl | rfl | rfl | rfl | rfl | rfl | rfl | rfl | rfl | rfl | rfl | rfl | rfl | rfl | rfl | rfl | rfl | rfl <;> rfl))) (by rfl) ?_)
  refine gl_f (s_assign rfl) rfl rfl rfl ?_
  refine gl_nil ?_
  repeat (first | refine g_seq ?_ | refine at_code ?_ | refine g_skip ?_ | refine g_block ?_ | refine g_exit rfl ?_ | refine g_cond_t rfl ?_ | refine g_cond_f rfl ?_)
  refine g_ownN (a := a7.la) (by repeat first|exact .del|apply Upd.there) (fun _ _ hx => ?_)
  have hs7 := hx (by decide)
  repeat (first | refine g_seq ?_ | refine at_code ?_ | refine g_skip ?_ | refine g_block ?_ | refine g_exit rfl ?_ | refine g_cond_t rfl ?_ | refine g_cond_f rfl ?_)
  refine g_region ?_
  refine gl_f (s_move rfl) rfl rfl rfl ?_
  refine gl_f ((s_eql rfl rfl).eq (v' := .bool true) rfl) rfl rfl rfl ?_
  refine gl_f (s_move rfl) rfl rfl rfl ?_
  (first | refine gl_guard_no rfl rfl rfl rfl rfl rfl rfl ?_ | refine gl_guard_un rfl rfl rfl rfl rfl rfl ?_ | (refine gl_guard_yes rfl rfl rfl ?_; refine gl_f (by first | exact s_fieldAddr rfl (by rfl) (by infer_instance) (by decide) | exact s_fieldAddr_o rfl (by assumption) (by rfl) (by infer_instance) (by decide)) rfl rfl rfl ?_))
  (first | refine gl_guard_no rfl rfl rfl rfl rfl rfl rfl ?_ | refine gl_guard_un rfl rfl rfl rfl rfl rfl ?_ | (refine gl_guard_yes rfl rfl rfl ?_; refine gl_r (by first | exact s_load_blk rfl (by repeat first|exact .del|apply Upd.there) a18_10 | exact s_load1 rfl (fun w hw => peekB hw (by assumption) a18_10)) rfl rfl rfl ?_))
  (first | refine gl_guard_no rfl rfl rfl rfl rfl rfl rfl ?_ | refine gl_guard_un rfl rfl rfl rfl rfl rfl ?_ | (refine gl_guard_yes rfl rfl rfl ?_; refine gl_f ((s_eql rfl rfl).eq (v' := .bool true) rfl) rfl rfl rfl ?_))
  refine gl_f (by first | exact s_pick_t rfl rfl | exact s_pick_f rfl rfl) rfl rfl rfl ?_
  refine gl_f (s_move rfl) rfl rfl rfl ?_
  (first | refine gl_guard_no rfl rfl rfl rfl rfl rfl rfl ?_ | refine gl_guard_un rfl rfl rfl rfl rfl rfl ?_ | (refine gl_guard_yes rfl rfl rfl ?_; refine gl_f (by first | exact s_fieldAddr rfl (by rfl) (by infer_instance) (by decide) | exact s_fieldAddr_o rfl (by assumption) (by rfl) (by infer_instance) (by decide)) rfl rfl rfl ?_))
  (first | refine gl_guard_no rfl rfl rfl rfl rfl rfl rfl ?_ | refine gl_guard_un rfl rfl rfl rfl rfl rfl ?_ | (refine gl_guard_yes rfl rfl rfl ?_; refine gl_f (by first | exact s_fieldAddr rfl (by rfl) (by infer_instance) (by decide) | exact s_fieldAddr_o rfl (by assumption) (by rfl) (by infer_instance) (by decide)) rfl rfl rfl ?_))
  (first | refine gl_guard_no rfl rfl rfl rfl rfl rfl rfl ?_ | refine gl_guard_un rfl rfl rfl rfl rfl rfl ?_ | (refine gl_guard_yes rfl rfl rfl ?_; refine gl_r (by first | exact s_load_blk rfl (by repeat first|exact .del|apply Upd.there) a18_8 | exact s_load1 rfl (fun w hw => peekB hw (by assumption) a18_8)) rfl rfl rfl ?_))
  (first | refine gl_guard_no rfl rfl rfl rfl rfl rfl rfl ?_ | refine gl_guard_un rfl rfl rfl rfl rfl rfl ?_ | (refine gl_guard_yes rfl rfl rfl ?_; refine gl_f (s_len_sl rfl) rfl rfl rfl ?_))
  (first | refine gl_guard_no rfl rfl rfl rfl rfl rfl rfl ?_ | refine gl_guard_un rfl rfl rfl rfl rfl rfl ?_ | (refine gl_guard_yes rfl rfl rfl ?_; refine gl_f ((s_eql rfl rfl).eq (v' := .bool true) rfl) rfl rfl rfl ?_))
  refine gl_f (by first | exact s_pick_t rfl rfl | exact s_pick_f rfl rfl) rfl rfl rfl ?_
  refine gl_f (s_move rfl) rfl rfl rfl ?_
  (first | refine gl_guard_no rfl rfl rfl rfl rfl rfl rfl ?_ | refine gl_guard_un rfl rfl rfl rfl rfl rfl ?_ | (refine gl_guard_yes rfl rfl rfl ?_; refine gl_f (by first | exact s_fieldAddr rfl (by rfl) (by infer_instance) (by decide) | exact s_fieldAddr_o rfl (by assumption) (by rfl) (by infer_instance) (by decide)) rfl rfl rfl ?_))
  (first | refine gl_guard_no rfl rfl rfl rfl rfl rfl rfl ?_ | refine gl_guard_un rfl rfl rfl rfl rfl rfl ?_ | (refine gl_guard_yes rfl rfl rfl ?_; refine gl_f (by first | exact s_fieldAddr rfl (by rfl) (by infer_instance) (by decide) | exact s_fieldAddr_o rfl (by assumption) (by rfl) (by infer_instance) (by decide)) rfl rfl rfl ?_))
  (first | refine gl_guard_no rfl rfl rfl rfl rfl rfl rfl ?_ | refine gl_guard_un rfl rfl rfl rfl rfl rfl ?_ | (refine gl_guard_yes rfl rfl rfl ?_; refine gl_r (by first | exact s_load_blk rfl (by repeat first|exact .del|apply Upd.there) a18_8 | exact s_load1 rfl (fun w hw => peekB hw (by assumption) a18_8)) rfl rfl rfl ?_))
  (first | refine gl_guard_no rfl rfl rfl rfl rfl rfl rfl ?_ | refine gl_guard_un rfl rfl rfl rfl rfl rfl ?_ | (refine gl_guard_yes rfl rfl rfl ?_; refine gl_f (s_indexAddr rfl hs7 rfl (by decide)) rfl rfl rfl ?_))
  (first | refine gl_guard_no rfl rfl rfl rfl rfl rfl rfl ?_ | refine gl_guard_un rfl rfl rfl rfl rfl rfl ?_ | (refine gl_guard_yes rfl rfl rfl ?_; refine gl_r (s_loadN (cs := entC (1, 3, [120])) rfl (fun w hw => rdE_own (a := a7.la) (i := 1) (l := [(1, 1, []), (1, 3, [120])]) hw (by repeat first|exact .del|apply Upd.there) rfl (by decide)) rfl) rfl rfl rfl ?_))
  (first | refine gl_guard_no rfl rfl rfl rfl rfl rfl rfl ?_ | refine gl_guard_un rfl rfl rfl rfl rfl rfl ?_ | (refine gl_guard_yes rfl rfl rfl ?_; refine gl_f (s_bld (cells := #[.int .u64 1, .int .i64 3, B [120]]) rfl (by kernel_rfl)) rfl rfl rfl ?_))
  (first | refine gl_guard_no rfl rfl rfl rfl rfl rfl rfl ?_ | refine gl_guard_un rfl rfl rfl rfl rfl rfl ?_ | (refine gl_guard_yes rfl rfl rfl ?_; refine gl_f ((s_eql_struct rfl rfl (by exact EqF.int (by decide) rfl rfl (EqF.int (by decide) rfl rfl (EqF.str (by decide) rfl rfl EqF.nil)))).eq (v' := .bool true) (by simp)) rfl rfl rfl ?_))
  refine gl_f (by first | exact s_pick_t rfl rfl | exact s_pick_f rfl rfl) rfl rfl rfl ?_
  refine gl_f (s_assign rfl) rfl rfl rfl ?_
  refine gl_nil ?_
  repeat (first | refine g_seq ?_ | refine at_code ?_ | refine g_skip ?_ | refine g_block ?_ | refine g_exit rfl ?_ | refine g_cond_t rfl ?_ | refine g_cond_f rfl ?_)
  refine g_ret ?_
  exact at_end1 rfl rfl [] ⟨rfl, rfl⟩ (fun _ h => h.dropAll)
end Go.Proofs.Ytodcghipfolejaa.Rf
