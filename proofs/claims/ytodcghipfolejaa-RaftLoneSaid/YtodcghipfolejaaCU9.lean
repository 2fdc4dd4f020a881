/- Tail: members: the walk over a range over a function. -/
import Derived.Test.YtodcghipfolejaaCU8
namespace Go.Proofs.Ytodcghipfolejaa
open Go Go.Sl Go.RowKit
set_option linter.unusedVariables false
set_option linter.unusedSimpArgs false

/-- the iterator's value, and the two boxes it holds -/
def BackP (g : LM) (i : Int) (v : Value) (A : List As) : Prop := ∃ bi bg, v = .func (.func 111) #[] #[Ptr bi, Ptr bg] ∧ A = [.blk bi (.cells #[.int .u64 i] 27), .blk bg (.cells (gcells g) 47)]
theorem not_more {pre : List Yd} {x : Yd} (h : ∀ y ∈ pre, isC y.1.2 = false) (hx : isC x.1.2 = false) : ∀ y ∈ pre ++ [x], isC y.1.2 = false := fun y hy => by
  rw [List.mem_append] at hy
  rcases hy with hy | hy
  · exact h y hy
  · simp at hy; subst hy; exact hx
theorem with_end {F : Fence} {n : Nat} {P : Program} {Q : Exit → Act → World → Prop} {c : Code} {a : Act} {w : World} (X : (Exit → Act → World → Prop) → Prop) (hX : X Q) (h : X Q → c.wpIn F n P Q a w) : c.wpIn F n P Q a w := h hX
theorem back_ct (g : LM) (i : Int) : Ct Try.prog 94 [g.v, .int .u64 i] (fun _ => True) [] (BackP g i) := by
  refine ct_enter 6 Try.func94 rfl rfl rfl ?_
  intro F hF
  repeat (first | refine g_seq ?_ | refine at_code ?_ | refine g_skip ?_ | refine g_block ?_ | refine g_exit rfl ?_ | refine g_cond_t rfl ?_ | refine g_cond_f rfl ?_)
  refine g_region ?_
  refine gl_boxA rfl rfl ?_; intro g2
  refine gl_box rfl rfl ?_; intro g3
  refine gl_f (s_assign rfl) rfl rfl rfl ?_
  refine gl_nil ?_
  repeat (first | refine g_seq ?_ | refine at_code ?_ | refine g_skip ?_ | refine g_block ?_ | refine g_exit rfl ?_ | refine g_cond_t rfl ?_ | refine g_cond_f rfl ?_)
  refine g_region ?_
  refine gl_f (s_makeFunc rfl rfl) rfl rfl rfl ?_
  refine gl_f (s_assign rfl) rfl rfl rfl ?_
  refine gl_nil ?_
  repeat (first | refine g_seq ?_ | refine at_code ?_ | refine g_skip ?_ | refine g_block ?_ | refine g_exit rfl ?_ | refine g_cond_t rfl ?_ | refine g_cond_f rfl ?_)
  refine g_ret ?_
  exact at_end1 rfl rfl _ ⟨_, _, rfl, rfl⟩ (fun w hw => hw)
theorem conf_down {g : LM} {m : Nat} : ∀ {k : Nat}, k ≤ m → (∀ j, j < k → isC (backAt g m j).2 = false) → confN g m = confN g (m - k)
  | 0, _, _ => rfl
  | k + 1, hk, h => by
    rw [conf_down (k := k) (by omega) (fun j hj => h j (by omega))]
    have h1 := h k (by omega)
    rw [backAt] at h1
    simp only at h1
    rw [show m - k = (m - (k + 1)) + 1 by omega, confN, if_neg]
    rw [show m - (k + 1) = m - k - 1 by omega, h1]; simp
theorem conf_hit {g : LM} {m k : Nat} (hk : k < m) (h : ∀ j, j < k → isC (backAt g m j).2 = false) (h1 : isC (backAt g m k).2 = true) : confN g m = (readL (backAt g m k).2.2.2, (backAt g m k).1) := by
  rw [conf_down (Nat.le_of_lt hk) h]
  rw [backAt] at h1 ⊢
  simp only at h1 ⊢
  rw [show m - k = (m - k - 1) + 1 by omega, confN, if_pos (by simpa using h1)]
  refine Prod.ext (by simp) ?_
  simp only
  omega
theorem back_all {g : LM} {hd : g.dat} {m k : Nat} {p : Yd → Prop} (h : ∀ x ∈ backL g hd m k, p x) : ∀ j, j < k → p (backE g hd m j) := fun j hj => h _ (by rw [backL, List.mem_map]; exact ⟨j, by simpa using hj, rfl⟩)
theorem conf_none {g : LM} {hd : g.dat} {i : Int} (h : ∀ x ∈ backL g hd (backN g i) (backN g i), isC x.1.2 = false) : confAt g i = (g.conf, g.base) := by
  rw [confAt]
  have := conf_down (g := g) (m := backN g i) (Nat.le_refl _) (fun j hj => back_all h j hj)
  rw [Nat.sub_self] at this
  exact this
theorem conf_some {g : LM} {hd : g.dat} {i : Int} {k : Nat} (hk : k ≤ backN g i) {q : List Yd} {x : Yd} (he : q ++ [x] = backL g hd (backN g i) k) (hq : ∀ y ∈ q, isC y.1.2 = false) (hx : isC x.1.2 = true) : confAt g i = (readL x.1.2.2.2, x.1.1) := by
  have hl := congrArg List.length he
  rw [backL_length] at hl
  simp at hl
  obtain ⟨k', rfl⟩ : ∃ k', k = k' + 1 := ⟨q.length, hl.symm⟩
  rw [backL_succ] at he
  have h2 := List.append_inj' he rfl
  obtain ⟨rfl, h3⟩ := h2
  have h4 : x = backE g hd (backN g i) k' := by simpa using h3
  subst h4
  exact conf_hit hk (fun j hj => back_all hq j hj) hx
def memH (b6 b7 : Nat) (a : Option Addr) (l : List Int) (c : Nat) (at_ : Int) : List As := [.blk b6 (.cells #[.slice a l.length c] 22), .blk b7 (.cells #[.int .u64 at_] 27), OwnC a l c]
def MemP (r : List Int × Int) (v : Value) (A : List As) : Prop := ∃ a c, v = .tuple #[.slice a r.1.length c, .int .u64 r.2] ∧ A = [OwnC a r.1 c]
set_option maxRecDepth 8000 in
set_option maxHeartbeats 4000000 in
theorem tailMembers_ct (g : LM) (i : Int) (hf : g.fit) (hd : g.dat) (hi : 0 ≤ i ∧ i ≤ 18446744073709551615) : Ct Try.prog 80 [g.v, .int .u64 i] (fun h => RdS h g.ca (intsV g.conf) ∧ RdS h g.la (enV g.l)) [] (MemP (confAt g i)) := by
  intro w0 bs hs hnd hpre
  have hbs : bs = [] := hs
  subst hbs
  rw [hpBut_nil] at hpre
  refine (callsIn_wide (n := 5)).1 (callsIn_of_wp_marks Try.func80 rfl trivial ?_ rfl)
  have hrc : RdS (snap w0).heap g.ca (intsV g.conf) := by rw [snap_heap]; exact hpre.1
  have hre : RdS (snap w0).heap g.la (enV g.l) := by rw [snap_heap]; exact hpre.2
  refine (?_ : GN none 5 Try.prog 37 _ _ (argLoc 0 [g.v, .int .u64 i]) (snap w0) []) _ _ (fits_enter 37 _ rfl) (hp_snap w0)
  refine gn_seq ?_
  refine gn_plain ?_
  repeat (first | refine g_seq ?_ | refine at_code ?_ | refine g_skip ?_ | refine g_block ?_ | refine g_exit rfl ?_ | refine g_cond_t rfl ?_ | refine g_cond_f rfl ?_)
  refine g_region ?_
  refine gl_boxA rfl rfl ?_; intro g2
  refine gl_f (s_assign rfl) rfl rfl rfl ?_
  refine gl_f (s_assign rfl) rfl rfl rfl ?_
  refine gl_nil ?_
  repeat (first | refine g_seq ?_ | refine at_code ?_ | refine g_skip ?_ | refine g_block ?_ | refine g_exit rfl ?_ | refine g_cond_t rfl ?_ | refine g_cond_f rfl ?_)
  refine at_gn ?_
  refine gn_scope ?_
  have h4 := hf.cl
  refine gn_cutE (ι := Nat × Nat × Option Addr × Nat) (fun x => [(1, .int .u64 i), (2, Ptr g2), (6, Ptr x.1), (7, Ptr x.2.1)]) (fun x => [.blk x.1 (.cells #[.slice x.2.2.1 g.conf.length x.2.2.2] 22), .blk x.2.1 (.cells #[.int .u64 g.base] 27), OwnC x.2.2.1 g.conf x.2.2.2, .blk g2 (.cells (gcells g) 47)]) ?_ ?_
  · repeat (first | refine g_seq ?_ | refine at_code ?_ | refine g_skip ?_ | refine g_block ?_ | refine g_exit rfl ?_ | refine g_cond_t rfl ?_ | refine g_cond_f rfl ?_)
    refine g_draw0 ([1, 4], [0, 1, 3, 0, 8, 0, 0, 103, 255], [2, 5, 6, 7, 8]) 9 rfl ?_
    refine ga_free 0 rfl (by first | exact s_fieldAddr rfl (by rfl) (by infer_instance) (by decide) | exact s_fieldAddr_o rfl (by assumption) (by rfl) (by infer_instance) (by decide)) rfl rfl rfl (by kernel_rfl) ?_
    (first | refine ga_read 1 rfl (by repeat first|exact .del|apply Upd.there) (s_load_blk rfl .del (by rfl)) rfl rfl rfl (by kernel_rfl) ?_ | refine ga_readF 1 rfl (s_load1 rfl (fun w hw => peekB hw (by assumption) (by rfl))) (by (first | exact fun _ h => h | (repeat first | exact sub_nil | refine sub_cons (by repeat first | exact List.Mem.head _ | apply List.Mem.tail) ?_))) rfl rfl rfl (by kernel_rfl) ?_)
    refine ga_free 3 rfl (by first | exact s_fieldAddr rfl (by rfl) (by infer_instance) (by decide) | exact s_fieldAddr_o rfl (by assumption) (by rfl) (by infer_instance) (by decide)) rfl rfl rfl (by kernel_rfl) ?_
    (first | refine ga_read 4 rfl (by repeat first|exact .del|apply Upd.there) (s_load_blk rfl .del (by rfl)) rfl rfl rfl (by kernel_rfl) ?_ | refine ga_readF 4 rfl (s_load1 rfl (fun w hw => peekB hw (by assumption) (by rfl))) (by (first | exact fun _ h => h | (repeat first | exact sub_nil | refine sub_cons (by repeat first | exact List.Mem.head _ | apply List.Mem.tail) ?_))) rfl rfl rfl (by kernel_rfl) ?_)
    refine ga_three 2 5 6 rfl rfl rfl (by kernel_rfl) ?_ ?_ ?_
    refine gl_call _ rfl (CloneI_ct _ _ _ (by omega)) (fun w hw => hw) (fun h hh hb => by first | trivial | (first | exact RdS.le (by assumption) hh | (obtain ⟨bs, hb⟩ := hb; exact Sat.rd hb ((by repeat first|exact .del|apply Upd.there)))) | (refine ⟨?_, ?_⟩ <;> (first | exact RdS.le (by assumption) hh | (obtain ⟨bs, hb⟩ := hb; exact Sat.rd hb ((by repeat first|exact .del|apply Upd.there))))) | (refine ⟨?_, ?_, ?_⟩ <;> (first | exact RdS.le (by assumption) hh | (obtain ⟨bs, hb⟩ := hb; exact Sat.rd hb ((by repeat first|exact .del|apply Upd.there)))))) rfl ?_; rintro v A ⟨a14, c14, rfl, rfl⟩
    refine gl_nil ?_
    refine at_ga (.inr (by exact keeps_of (by (first | exact fun _ h => h | (repeat first | exact sub_nil | refine sub_cons (by repeat first | exact List.Mem.head _ | apply List.Mem.tail) ?_))))) ?_
    refine ga_two 5 6 rfl rfl (by kernel_rfl) ?_ ?_
    refine gl_alloc rfl ?_; intro g6
    refine gl_nil ?_
    refine at_ga (.inr (by exact keeps_of (by (first | exact fun _ h => h | (repeat first | exact sub_nil | refine sub_cons (by repeat first | exact List.Mem.head _ | apply List.Mem.tail) ?_))))) ?_
    refine ga_one 6 rfl (by kernel_rfl) ?_
    refine gl_alloc rfl ?_; intro g7
    refine gl_nil ?_
    refine at_ga (.inr (by exact keeps_of (by (first | exact fun _ h => h | (repeat first | exact sub_nil | refine sub_cons (by repeat first | exact List.Mem.head _ | apply List.Mem.tail) ?_))))) ?_
    refine ga_one 7 rfl (by kernel_rfl) ?_
    (first | refine gl_store_blkC (pre := []) (post := []) rfl rfl (by repeat first|exact .here|apply Upd.there) (by rfl) (by rfl) (by rfl) ?_ | refine gl_store_blk rfl rfl (by repeat first|exact .here|apply Upd.there) (by rfl) (by (intro q hq; simp [Value.cells] at hq; first | (subst hq; rfl) | (rcases hq with rfl | rfl | rfl | rfl | rfl | rfl | rfl | rfl <;> rfl) | (rcases hq with rfl | rfl | rfl | rfl | rfl | rfl | rfl | rfl | rfl | rfl | rfl | rfl | rfl | rfl | rfl | rfl | rfl | rfl | rfl | rfl <;> rfl))) (by rfl) ?_)
    refine gl_nil ?_
    refine at_ga (.inr (by exact keeps_of (by (first | exact fun _ h => h | (repeat first | exact sub_nil | refine sub_cons (by repeat first | exact List.Mem.head _ | apply List.Mem.tail) ?_))))) ?_
    refine ga_one 8 rfl (by kernel_rfl) ?_
    (first | refine gl_store_blkC (pre := []) (post := []) rfl rfl (by repeat first|exact .here|apply Upd.there) (by rfl) (by rfl) (by rfl) ?_ | refine gl_store_blk rfl rfl (by repeat first|exact .here|apply Upd.there) (by rfl) (by (intro q hq; simp [Value.cells] at hq; first | (subst hq; rfl) | (rcases hq with rfl | rfl | rfl | rfl | rfl | rfl | rfl | rfl <;> rfl) | (rcases hq with rfl | rfl | rfl | rfl | rfl | rfl | rfl | rfl | rfl | rfl | rfl | rfl | rfl | rfl | rfl | rfl | rfl | rfl | rfl | rfl <;> rfl))) (by rfl) ?_)
    refine gl_nil ?_
    refine at_ga (.inl (by kernel_rfl)) ?_
    refine ga_done (by kernel_rfl) ?_
    rotate_left 1
    refine gl_alloc rfl ?_; intro g7
    refine gl_nil ?_
    refine at_ga (.inr (by exact keeps_of (by (first | exact fun _ h => h | (repeat first | exact sub_nil | refine sub_cons (by repeat first | exact List.Mem.head _ | apply List.Mem.tail) ?_))))) ?_
    refine ga_one 5 rfl (by kernel_rfl) ?_
    refine gl_alloc rfl ?_; intro g6
    refine gl_nil ?_
    refine at_ga (.inr (by exact keeps_of (by (first | exact fun _ h => h | (repeat first | exact sub_nil | refine sub_cons (by repeat first | exact List.Mem.head _ | apply List.Mem.tail) ?_))))) ?_
    refine ga_one 7 rfl (by kernel_rfl) ?_
    (first | refine gl_store_blkC (pre := []) (post := []) rfl rfl (by repeat first|exact .here|apply Upd.there) (by rfl) (by rfl) (by rfl) ?_ | refine gl_store_blk rfl rfl (by repeat first|exact .here|apply Upd.there) (by rfl) (by (intro q hq; simp [Value.cells] at hq; first | (subst hq; rfl) | (rcases hq with rfl | rfl | rfl | rfl | rfl | rfl | rfl | rfl <;> rfl) | (rcases hq with rfl | rfl | rfl | rfl | rfl | rfl | rfl | rfl | rfl | rfl | rfl | rfl | rfl | rfl | rfl | rfl | rfl | rfl | rfl | rfl <;> rfl))) (by rfl) ?_)
    refine gl_nil ?_
    refine at_ga (.inr (by exact keeps_of (by (first | exact fun _ h => h | (repeat first | exact sub_nil | refine sub_cons (by repeat first | exact List.Mem.head _ | apply List.Mem.tail) ?_))))) ?_
    refine ga_one 8 rfl (by kernel_rfl) ?_
    (first | refine gl_store_blkC (pre := []) (post := []) rfl rfl (by repeat first|exact .here|apply Upd.there) (by rfl) (by rfl) (by rfl) ?_ | refine gl_store_blk rfl rfl (by repeat first|exact .here|apply Upd.there) (by rfl) (by (intro q hq; simp [Value.cells] at hq; first | (subst hq; rfl) | (rcases hq with rfl | rfl | rfl | rfl | rfl | rfl | rfl | rfl <;> rfl) | (rcases hq with rfl | rfl | rfl | rfl | rfl | rfl | rfl | rfl | rfl | rfl | rfl | rfl | rfl | rfl | rfl | rfl | rfl | rfl | rfl | rfl <;> rfl))) (by rfl) ?_)
    refine gl_nil ?_
    refine at_ga (.inl (by kernel_rfl)) ?_
    refine ga_done (by kernel_rfl) ?_
    rotate_left 1
    refine gl_alloc rfl ?_; intro g6
    refine gl_nil ?_
    refine at_ga (.inr (by exact keeps_of (by (first | exact fun _ h => h | (repeat first | exact sub_nil | refine sub_cons (by repeat first | exact List.Mem.head _ | apply List.Mem.tail) ?_))))) ?_
    refine ga_two 2 6 rfl rfl (by kernel_rfl) ?_ ?_
    refine gl_call _ rfl (CloneI_ct _ _ _ (by omega)) (fun w hw => hw) (fun h hh hb => by first | trivial | (first | exact RdS.le (by assumption) hh | (obtain ⟨bs, hb⟩ := hb; exact Sat.rd hb ((by repeat first|exact .del|apply Upd.there)))) | (refine ⟨?_, ?_⟩ <;> (first | exact RdS.le (by assumption) hh | (obtain ⟨bs, hb⟩ := hb; exact Sat.rd hb ((by repeat first|exact .del|apply Upd.there))))) | (refine ⟨?_, ?_, ?_⟩ <;> (first | exact RdS.le (by assumption) hh | (obtain ⟨bs, hb⟩ := hb; exact Sat.rd hb ((by repeat first|exact .del|apply Upd.there)))))) rfl ?_; rintro v A ⟨a14, c14, rfl, rfl⟩
    refine gl_nil ?_
    refine at_ga (.inr (by exact keeps_of (by (first | exact fun _ h => h | (repeat first | exact sub_nil | refine sub_cons (by repeat first | exact List.Mem.head _ | apply List.Mem.tail) ?_))))) ?_
    refine ga_one 6 rfl (by kernel_rfl) ?_
    refine gl_alloc rfl ?_; intro g7
    refine gl_nil ?_
    refine at_ga (.inr (by exact keeps_of (by (first | exact fun _ h => h | (repeat first | exact sub_nil | refine sub_cons (by repeat first | exact List.Mem.head _ | apply List.Mem.tail) ?_))))) ?_
    refine ga_one 7 rfl (by kernel_rfl) ?_
    (first | refine gl_store_blkC (pre := []) (post := []) rfl rfl (by repeat first|exact .here|apply Upd.there) (by rfl) (by rfl) (by rfl) ?_ | refine gl_store_blk rfl rfl (by repeat first|exact .here|apply Upd.there) (by rfl) (by (intro q hq; simp [Value.cells] at hq; first | (subst hq; rfl) | (rcases hq with rfl | rfl | rfl | rfl | rfl | rfl | rfl | rfl <;> rfl) | (rcases hq with rfl | rfl | rfl | rfl | rfl | rfl | rfl | rfl | rfl | rfl | rfl | rfl | rfl | rfl | rfl | rfl | rfl | rfl | rfl | rfl <;> rfl))) (by rfl) ?_)
    refine gl_nil ?_
    refine at_ga (.inr (by exact keeps_of (by (first | exact fun _ h => h | (repeat first | exact sub_nil | refine sub_cons (by repeat first | exact List.Mem.head _ | apply List.Mem.tail) ?_))))) ?_
    refine ga_one 8 rfl (by kernel_rfl) ?_
    (first | refine gl_store_blkC (pre := []) (post := []) rfl rfl (by repeat first|exact .here|apply Upd.there) (by rfl) (by rfl) (by rfl) ?_ | refine gl_store_blk rfl rfl (by repeat first|exact .here|apply Upd.there) (by rfl) (by (intro q hq; simp [Value.cells] at hq; first | (subst hq; rfl) | (rcases hq with rfl | rfl | rfl | rfl | rfl | rfl | rfl | rfl <;> rfl) | (rcases hq with rfl | rfl | rfl | rfl | rfl | rfl | rfl | rfl | rfl | rfl | rfl | rfl | rfl | rfl | rfl | rfl | rfl | rfl | rfl | rfl <;> rfl))) (by rfl) ?_)
    refine gl_nil ?_
    refine at_ga (.inl (by kernel_rfl)) ?_
    refine ga_done (by kernel_rfl) ?_
    rotate_left 1
    refine gl_alloc rfl ?_; intro g7
    refine gl_nil ?_
    refine at_ga (.inr (by exact keeps_of (by (first | exact fun _ h => h | (repeat first | exact sub_nil | refine sub_cons (by repeat first | exact List.Mem.head _ | apply List.Mem.tail) ?_))))) ?_
    refine ga_one 2 rfl (by kernel_rfl) ?_
    refine gl_call _ rfl (CloneI_ct _ _ _ (by omega)) (fun w hw => hw) (fun h hh hb => by first | trivial | (first | exact RdS.le (by assumption) hh | (obtain ⟨bs, hb⟩ := hb; exact Sat.rd hb ((by repeat first|exact .del|apply Upd.there)))) | (refine ⟨?_, ?_⟩ <;> (first | exact RdS.le (by assumption) hh | (obtain ⟨bs, hb⟩ := hb; exact Sat.rd hb ((by repeat first|exact .del|apply Upd.there))))) | (refine ⟨?_, ?_, ?_⟩ <;> (first | exact RdS.le (by assumption) hh | (obtain ⟨bs, hb⟩ := hb; exact Sat.rd hb ((by repeat first|exact .del|apply Upd.there)))))) rfl ?_; rintro v A ⟨a14, c14, rfl, rfl⟩
    refine gl_nil ?_
    refine at_ga (.inr (by exact keeps_of (by (first | exact fun _ h => h | (repeat first | exact sub_nil | refine sub_cons (by repeat first | exact List.Mem.head _ | apply List.Mem.tail) ?_))))) ?_
    refine ga_one 7 rfl (by kernel_rfl) ?_
    (first | refine gl_store_blkC (pre := []) (post := []) rfl rfl (by repeat first|exact .here|apply Upd.there) (by rfl) (by rfl) (by rfl) ?_ | refine gl_store_blk rfl rfl (by repeat first|exact .here|apply Upd.there) (by rfl) (by (intro q hq; simp [Value.cells] at hq; first | (subst hq; rfl) | (rcases hq with rfl | rfl | rfl | rfl | rfl | rfl | rfl | rfl <;> rfl) | (rcases hq with rfl | rfl | rfl | rfl | rfl | rfl | rfl | rfl | rfl | rfl | rfl | rfl | rfl | rfl | rfl | rfl | rfl | rfl | rfl | rfl <;> rfl))) (by rfl) ?_)
    refine gl_nil ?_
    refine at_ga (.inr (by exact keeps_of (by (first | exact fun _ h => h | (repeat first | exact sub_nil | refine sub_cons (by repeat first | exact List.Mem.head _ | apply List.Mem.tail) ?_))))) ?_
    refine ga_one 8 rfl (by kernel_rfl) ?_
    (first | refine gl_store_blkC (pre := []) (post := []) rfl rfl (by repeat first|exact .here|apply Upd.there) (by rfl) (by rfl) (by rfl) ?_ | refine gl_store_blk rfl rfl (by repeat first|exact .here|apply Upd.there) (by rfl) (by (intro q hq; simp [Value.cells] at hq; first | (subst hq; rfl) | (rcases hq with rfl | rfl | rfl | rfl | rfl | rfl | rfl | rfl <;> rfl) | (rcases hq with rfl | rfl | rfl | rfl | rfl | rfl | rfl | rfl | rfl | rfl | rfl | rfl | rfl | rfl | rfl | rfl | rfl | rfl | rfl | rfl <;> rfl))) (by rfl) ?_)
    refine gl_nil ?_
    refine at_ga (.inl (by kernel_rfl)) ?_
    refine ga_done (by kernel_rfl) ?_
    rotate_left 1
    refine gl_alloc rfl ?_; intro g7
    refine gl_nil ?_
    refine at_ga (.inr (by exact keeps_of (by (first | exact fun _ h => h | (repeat first | exact sub_nil | refine sub_cons (by repeat first | exact List.Mem.head _ | apply List.Mem.tail) ?_))))) ?_
    refine ga_two 2 5 rfl rfl (by kernel_rfl) ?_ ?_
    refine gl_call _ rfl (CloneI_ct _ _ _ (by omega)) (fun w hw => hw) (fun h hh hb => by first | trivial | (first | exact RdS.le (by assumption) hh | (obtain ⟨bs, hb⟩ := hb; exact Sat.rd hb ((by repeat first|exact .del|apply Upd.there)))) | (refine ⟨?_, ?_⟩ <;> (first | exact RdS.le (by assumption) hh | (obtain ⟨bs, hb⟩ := hb; exact Sat.rd hb ((by repeat first|exact .del|apply Upd.there))))) | (refine ⟨?_, ?_, ?_⟩ <;> (first | exact RdS.le (by assumption) hh | (obtain ⟨bs, hb⟩ := hb; exact Sat.rd hb ((by repeat first|exact .del|apply Upd.there)))))) rfl ?_; rintro v A ⟨a14, c14, rfl, rfl⟩
    refine gl_nil ?_
    refine at_ga (.inr (by exact keeps_of (by (first | exact fun _ h => h | (repeat first | exact sub_nil | refine sub_cons (by repeat first | exact List.Mem.head _ | apply List.Mem.tail) ?_))))) ?_
    refine ga_one 5 rfl (by kernel_rfl) ?_
    refine gl_alloc rfl ?_; intro g6
    refine gl_nil ?_
    refine at_ga (.inr (by exact keeps_of (by (first | exact fun _ h => h | (repeat first | exact sub_nil | refine sub_cons (by repeat first | exact List.Mem.head _ | apply List.Mem.tail) ?_))))) ?_
    refine ga_one 7 rfl (by kernel_rfl) ?_
    (first | refine gl_store_blkC (pre := []) (post := []) rfl rfl (by repeat first|exact .here|apply Upd.there) (by rfl) (by rfl) (by rfl) ?_ | refine gl_store_blk rfl rfl (by repeat first|exact .here|apply Upd.there) (by rfl) (by (intro q hq; simp [Value.cells] at hq; first | (subst hq; rfl) | (rcases hq with rfl | rfl | rfl | rfl | rfl | rfl | rfl | rfl <;> rfl) | (rcases hq with rfl | rfl | rfl | rfl | rfl | rfl | rfl | rfl | rfl | rfl | rfl | rfl | rfl | rfl | rfl | rfl | rfl | rfl | rfl | rfl <;> rfl))) (by rfl) ?_)
    refine gl_nil ?_
    refine at_ga (.inr (by exact keeps_of (by (first | exact fun _ h => h | (repeat first | exact sub_nil | refine sub_cons (by repeat first | exact List.Mem.head _ | apply List.Mem.tail) ?_))))) ?_
    refine ga_one 8 rfl (by kernel_rfl) ?_
    (first | refine gl_store_blkC (pre := []) (post := []) rfl rfl (by repeat first|exact .here|apply Upd.there) (by rfl) (by rfl) (by rfl) ?_ | refine gl_store_blk rfl rfl (by repeat first|exact .here|apply Upd.there) (by rfl) (by (intro q hq; simp [Value.cells] at hq; first | (subst hq; rfl) | (rcases hq with rfl | rfl | rfl | rfl | rfl | rfl | rfl | rfl <;> rfl) | (rcases hq with rfl | rfl | rfl | rfl | rfl | rfl | rfl | rfl | rfl | rfl | rfl | rfl | rfl | rfl | rfl | rfl | rfl | rfl | rfl | rfl <;> rfl))) (by rfl) ?_)
    refine gl_nil ?_
    refine at_ga (.inl (by kernel_rfl)) ?_
    refine ga_done (by kernel_rfl) ?_
    rotate_left 1
    refine gl_alloc rfl ?_; intro g6
    refine gl_nil ?_
    refine at_ga (.inr (by exact keeps_of (by (first | exact fun _ h => h | (repeat first | exact sub_nil | refine sub_cons (by repeat first | exact List.Mem.head _ | apply List.Mem.tail) ?_))))) ?_
    refine ga_one 2 rfl (by kernel_rfl) ?_
    refine gl_call _ rfl (CloneI_ct _ _ _ (by omega)) (fun w hw => hw) (fun h hh hb => by first | trivial | (first | exact RdS.le (by assumption) hh | (obtain ⟨bs, hb⟩ := hb; exact Sat.rd hb ((by repeat first|exact .del|apply Upd.there)))) | (refine ⟨?_, ?_⟩ <;> (first | exact RdS.le (by assumption) hh | (obtain ⟨bs, hb⟩ := hb; exact Sat.rd hb ((by repeat first|exact .del|apply Upd.there))))) | (refine ⟨?_, ?_, ?_⟩ <;> (first | exact RdS.le (by assumption) hh | (obtain ⟨bs, hb⟩ := hb; exact Sat.rd hb ((by repeat first|exact .del|apply Upd.there)))))) rfl ?_; rintro v A ⟨a14, c14, rfl, rfl⟩
    refine gl_nil ?_
    refine at_ga (.inr (by exact keeps_of (by (first | exact fun _ h => h | (repeat first | exact sub_nil | refine sub_cons (by repeat first | exact List.Mem.head _ | apply List.Mem.tail) ?_))))) ?_
    refine ga_one 7 rfl (by kernel_rfl) ?_
    (first | refine gl_store_blkC (pre := []) (post := []) rfl rfl (by repeat first|exact .here|apply Upd.there) (by rfl) (by rfl) (by rfl) ?_ | refine gl_store_blk rfl rfl (by repeat first|exact .here|apply Upd.there) (by rfl) (by (intro q hq; simp [Value.cells] at hq; first | (subst hq; rfl) | (rcases hq with rfl | rfl | rfl | rfl | rfl | rfl | rfl | rfl <;> rfl) | (rcases hq with rfl | rfl | rfl | rfl | rfl | rfl | rfl | rfl | rfl | rfl | rfl | rfl | rfl | rfl | rfl | rfl | rfl | rfl | rfl | rfl <;> rfl))) (by rfl) ?_)
    refine gl_nil ?_
    refine at_ga (.inr (by exact keeps_of (by (first | exact fun _ h => h | (repeat first | exact sub_nil | refine sub_cons (by repeat first | exact List.Mem.head _ | apply List.Mem.tail) ?_))))) ?_
    refine ga_one 8 rfl (by kernel_rfl) ?_
    (first | refine gl_store_blkC (pre := []) (post := []) rfl rfl (by repeat first|exact .here|apply Upd.there) (by rfl) (by rfl) (by rfl) ?_ | refine gl_store_blk rfl rfl (by repeat first|exact .here|apply Upd.there) (by rfl) (by (intro q hq; simp [Value.cells] at hq; first | (subst hq; rfl) | (rcases hq with rfl | rfl | rfl | rfl | rfl | rfl | rfl | rfl <;> rfl) | (rcases hq with rfl | rfl | rfl | rfl | rfl | rfl | rfl | rfl | rfl | rfl | rfl | rfl | rfl | rfl | rfl | rfl | rfl | rfl | rfl | rfl <;> rfl))) (by rfl) ?_)
    refine gl_nil ?_
    refine at_ga (.inl (by kernel_rfl)) ?_
    refine ga_done (by kernel_rfl) ?_
    rotate_left 1
    all_goals (repeat (first | refine g_seq ?_ | refine at_code ?_ | refine g_skip ?_ | refine g_block ?_ | refine g_exit rfl ?_ | refine g_cond_t rfl ?_ | refine g_cond_f rfl ?_))
    all_goals exact at_cutE (_, _, _, _) (by (repeat (first | exact Sub.nil _ | refine Sub.cons rfl ?_))) (fun w hw => hw.perm (perm_up (by repeat first|exact .del|apply Upd.there) (perm_up (by repeat first|exact .del|apply Upd.there) (perm_up (by repeat first|exact .del|apply Upd.there) (perm_up (by repeat first|exact .del|apply Upd.there) (.refl _))))))
  rintro ⟨b6, b7, ca, cc⟩
  refine gn_seq ?_
  refine gn_label ?_
  refine at_gn ?_
  refine gn_seq ?_
  refine gn_seq ?_
  refine gn_plain ?_
  repeat (first | refine g_seq ?_ | refine at_code ?_ | refine g_skip ?_ | refine g_block ?_ | refine g_exit rfl ?_ | refine g_cond_t rfl ?_ | refine g_cond_f rfl ?_)
  refine g_region ?_
  refine gl_r (by first | exact s_load_blkW rfl (by repeat first|exact .del|apply Upd.there) (by rfl) | exact s_load_blkN rfl (by repeat first|exact .del|apply Upd.there) (by rfl) | exact s_loadN rfl (fun w hw => peekBN hw (by assumption)) (by rfl)) rfl rfl rfl ?_
  refine gl_f (s_move rfl) rfl rfl rfl ?_
  refine gl_call _ rfl (back_ct g i) (fun w hw => hw) (fun _ _ _ => trivial) rfl ?_; rintro v A ⟨bi, bg, rfl, rfl⟩
  refine gl_nil ?_
  repeat (first | refine g_seq ?_ | refine at_code ?_ | refine g_skip ?_ | refine g_block ?_ | refine g_exit rfl ?_ | refine g_cond_t rfl ?_ | refine g_cond_f rfl ?_)
  refine at_gn ?_
  refine gn_block ?_
  intro a w1 hfa hw1
  have hfa' := hfa.sub (L' := [(6, Ptr b6), (7, Ptr b7), (19, .func (.func 111) #[] #[Ptr bi, Ptr bg])]) (by (repeat (first | exact Sub.nil _ | refine Sub.cons rfl ?_)))
  have hw2 : Hp (snap w0) w1 ([.blk b6 (.cells #[.slice ca g.conf.length cc] 22), .blk b7 (.cells #[.int .u64 g.base] 27), OwnC ca g.conf cc] ++ [.blk bi (.cells #[.int .u64 i] 27), .blk bg (.cells (gcells g) 47)]) := (hw1.perm (perm_up (by repeat first|exact .del|apply Upd.there) (perm_up (by repeat first|exact .del|apply Upd.there) (perm_up (by repeat first|exact .del|apply Upd.there) (perm_up (by repeat first|exact .del|apply Upd.there) (perm_up (by repeat first|exact .del|apply Upd.there) (.refl _))))))).left (R := [_])
  obtain ⟨bc, br, hsc, hsr, hnd2, hfr⟩ := hp_split hw2
  have hF0 : Hp (snapBut w1 bc) w1 _ := Hp.start hsc (List.nodup_append.1 hnd2).1
  have hle := but_le hw2 hfr
  have hBi := but_blk hsr hnd2 (b := bi) (o := .cells #[.int .u64 i] 27) (by simp)
  have hBg := but_blk hsr hnd2 (b := bg) (o := .cells (gcells g) 47) (by simp)
  have hBlt : ∀ b, ((snapBut w1 bc).heap b).isSome = true → b < w1.heap.size := but_lt
  have hback0 : ∀ W' A, Hp (snapBut w1 bc) W' A → Hp (snap w0) W' A := fun W' A k => (Hp.back hw2 hsc hsr hnd2 hfr k).left (R := [_, _])
  obtain ⟨F1, hF1⟩ : ∃ F, F = snapBut w1 bc := ⟨_, rfl⟩
  rw [← hF1] at hF0 hle hBi hBg hBlt hback0
  have hre1 : RdS F1.heap g.la (enV g.l) := hre.le hle
  obtain ⟨m, hm⟩ : ∃ m, m = backN g i := ⟨_, rfl⟩
  refine with_end (fun Q => ∀ (D : Nat) (W : World) (r : List Int × Int) (ra : Option Addr) (rc : Nat), w1.heap.size ≤ D → r = confAt g i → Hp F1 W (memH b6 b7 ra r.1 rc r.2) → W.heap[D]? = some (.deferred (some [])) → Q .normal { a with defers := { target := .collected D, args := #[] } :: a.defers } W) ?_ (fun hend => ?_)
  · intro D W r ra rc hD hr hwW hK
    obtain ⟨bs, hs, hst, hback⟩ := hp_round hwW
    have hDn : D ∉ bs := fun hb => by
      obtain ⟨o, h5, h6⟩ := hs.cells rfl D hb
      have h5' : W.heap[D]? = some o := h5
      rw [hK] at h5'; cases h5'; cases h6
    have hKb : (snapBut W bs).heap D = some (.deferred (some [])) := by simp [snapBut, hpBut, hDn, hK]
    rw [adD_fits hfa' _]
    refine wpIn_seq ?_
    refine draw_adD (Hk := memH b6 b7 ra r.1 rc r.2) (K := fun a' w' => Fits 37 [(4, .slice ra r.1.length rc), (5, .int .u64 r.2)] a' ∧ Hp (snapBut W bs) w' (memH b6 b7 ra r.1 rc r.2)) [_] ([0, 1], [], []) (nn := 4) rfl ?_ ?_ (hfa'.sub (L' := [(6, Ptr b6), (7, Ptr b7)]) (by (repeat (first | exact Sub.nil _ | refine Sub.cons rfl ?_)))) hst
    · unfold memH
      (first | refine ga_read 0 rfl (by repeat first|exact .del|apply Upd.there) (s_load_blk rfl .del (by rfl)) rfl rfl rfl (by kernel_rfl) ?_ | refine ga_readF 0 rfl (s_load1 rfl (fun w hw => peekB hw (by assumption) (by rfl))) (by (first | exact fun _ h => h | (repeat first | exact sub_nil | refine sub_cons (by repeat first | exact List.Mem.head _ | apply List.Mem.tail) ?_))) rfl rfl rfl (by kernel_rfl) ?_)
      (first | refine ga_read 1 rfl (by repeat first|exact .del|apply Upd.there) (s_load_blk rfl .del (by rfl)) rfl rfl rfl (by kernel_rfl) ?_ | refine ga_readF 1 rfl (s_load1 rfl (fun w hw => peekB hw (by assumption) (by rfl))) (by (first | exact fun _ h => h | (repeat first | exact sub_nil | refine sub_cons (by repeat first | exact List.Mem.head _ | apply List.Mem.tail) ?_))) rfl rfl rfl (by kernel_rfl) ?_)
      refine ga_free 2 rfl (s_assign rfl) rfl rfl rfl (by kernel_rfl) ?_
      refine ga_free 3 rfl (s_assign rfl) rfl rfl rfl (by kernel_rfl) ?_
      refine ga_done (by kernel_rfl) ?_
      exact at_cut (by (repeat (first | exact Sub.nil _ | refine Sub.cons rfl ?_))) (fun w hw => hw)
    · rintro a9 w9 ⟨hf9, hw9⟩
      have hK9 : w9.heap[D]? = some (.deferred (some [])) := hw9.keep D _ hKb
      have hw8 := hp_grown (hback _ _ hw9) rfl hBlt (grownBy_putObj' w9 D (.deferred none)) (fun r e => by cases e; exact ⟨hD, _, hK9, rfl⟩)
      refine wpIn_ret ?_
      have hb := (leaves_mark (n := 5) (P := Try.prog) (fn := Try.f80) (R := fun e w' => ∃ v A, e = .returned v ∧ MemP (confAt g i) v A ∧ Hp (snapBut w0 []) w' A) (a := adD [{ target := .collected D, args := #[] }] a9) (w := w9) (D := D) (ds := []) (by show a9.defers ++ _ = _; rw [hf9.defers]; rfl) rfl hK9 ⟨_, results_tmp2 rfl _ _ _, _, [OwnC ra r.1 rc], rfl, ⟨ra, rc, by rw [← hr, show (adD _ a9).tmps.getD 4 undef = .slice ra r.1.length rc from hf9.eval (x := .tmp 4) rfl, show (adD _ a9).tmps.getD 5 undef = .int .u64 r.2 from hf9.eval (x := .tmp 5) rfl], by rw [← hr]⟩, (hback0 _ _ hw8).drop.drop⟩).2
      exact hb
  refine wpIn_rangeFunc_ownH (F := Fence.wide) (encs := encD) (Kp := KpG F1.heap) (S := fun ys => ys = backL g hd (backN g i) (backN g i)) (Sp := fun pre => ∃ k, k ≤ backN g i ∧ pre = backL g hd (backN g i) k) (N := backN g i) (w0 := w1) rfl (by decide) (hfa'.eval (x := .tmp 19) rfl) trivial (fun _ _ => rfl) (back_stops g i hf hd hi bi bg w1 F1.heap hF0.keep hBi hBg hre1 4) (fun h k x => k (h x)) (fun W l o o' hl hlo _ _ hle b ob hb => (World.putObj_heap_other (by have := hBlt b (by rw [hb]; rfl); omega)).trans (hle b ob hb)) (Below.refl _ w1) (fun x => rfl)
    (fun pre W => Hp F1 W (memH b6 b7 ca g.conf cc g.base) ∧ ∀ x ∈ pre, isC x.1.2 = false)
    (fun c pre W => c = .exit 0 ∧ ∃ q x, pre = q ++ [x] ∧ (∀ y ∈ q, isC y.1.2 = false) ∧ isC x.1.2 = true ∧ ∃ ra rc, Hp F1 W (memH b6 b7 ra (readL x.1.2.2.2) rc x.1.1))
    (fun s W W' row hs hg hr => ⟨hp_grown hs.1 rfl hBlt hg hr, hs.2⟩)
    (fun c s W W' row hs hg hr => ⟨hs.1, by obtain ⟨_, q, x, h5, h6, h7, ra, rc, h8⟩ := hs; exact ⟨q, x, h5, h6, h7, ra, rc, hp_grown h8 rfl hBlt hg hr⟩⟩)
    ⟨hF0, by simp⟩
    (fun x a' W => ∃ b9, Fits 37 [(8, .int .u64 x.1.1), (9, Ptr b9), (6, Ptr b6), (7, Ptr b7)] a' ∧ Hp F1 W (.blk b9 (.cells (entC x.1.2).toArray 65) :: memH b6 b7 ca g.conf cc g.base))
    (fun x a' s W W' row hs hg hr => by obtain ⟨b9, h5, h6⟩ := hs; exact ⟨b9, h5, hp_grown h6 rfl hBlt hg hr⟩)
    ?_ ?_ ?_ ?_
  · intro l pre x W K hI hK
    obtain ⟨bs, hs, hst, hback⟩ := hp_round hI.1
    refine (?_ : GN (some l) 3 Try.prog 37 _ _ [(21, entV x.1.2), (20, .int .u64 x.1.1), (6, Ptr b6), (7, Ptr b7), (19, .func (.func 111) #[] #[Ptr bi, Ptr bg])] (snapBut W bs) _) _ W (by simpa [encD, encY] using fits_round2 (p := 20) (q := 21) hfa' rfl rfl (.int .u64 x.1.1) (entV x.1.2)) hst
    refine gn_seq ?_
    refine gn_region (.inr (by intro o ho c; simp at ho; rcases ho with rfl; simp)) ?_
    refine gl_f (s_assign rfl) rfl rfl rfl ?_
    refine gl_nil ?_
    refine at_gn ?_
    refine gn_region (.inr (by intro o ho c; simp at ho; rcases ho with rfl | rfl <;> simp)) ?_
    refine gl_allocA rfl ?_; intro g9
    (first | refine gl_store_blkW rfl rfl (by repeat first|exact .here|apply Upd.there) (by rfl) (by rfl) (by (intro q hq; simp [Value.cells] at hq; first | (subst hq; rfl) | (rcases hq with rfl | rfl | rfl | rfl | rfl | rfl | rfl | rfl <;> rfl) | (rcases hq with rfl | rfl | rfl | rfl | rfl | rfl | rfl | rfl | rfl | rfl | rfl | rfl | rfl | rfl | rfl | rfl | rfl | rfl | rfl | rfl <;> rfl))) ?_ | refine gl_store_blk rfl rfl (by repeat first|exact .here|apply Upd.there) (by rfl) (by (intro q hq; simp [Value.cells] at hq; first | (subst hq; rfl) | (rcases hq with rfl | rfl | rfl | rfl | rfl | rfl | rfl | rfl <;> rfl) | (rcases hq with rfl | rfl | rfl | rfl | rfl | rfl | rfl | rfl | rfl | rfl | rfl | rfl | rfl | rfl | rfl | rfl | rfl | rfl | rfl | rfl <;> rfl))) (by rfl) ?_)
    refine gl_nil ?_
    unfold At
    intro a' W' hf' hw'
    exact hK a' W' (hp_keeps hs rfl hw' (fun b hb => by rw [hs.blks] at hb; simp only [List.flatMap_cons, List.mem_append]; exact .inr hb) _) (fun _ => (hback _ _ hw').keep) ⟨hback _ _ hw'.drop, hI.2⟩ ⟨_, hf'.sub (by (repeat (first | exact Sub.nil _ | refine Sub.cons rfl ?_))), hback _ _ hw'⟩
  · intro l pre x a' W hl hrec hI hA hlen
    obtain ⟨b9, hf9, hw9⟩ := hA
    obtain ⟨bs, hs, hst, hback⟩ := hp_round hw9
    refine (?_ : GN (some l) 3 Try.prog 37 _ _ _ (snapBut W bs) _) a' W hf9 hst
    refine gn_block ?_
    refine gn_seq ?_
    refine gn_seq ?_
    refine gn_region (.inr (by intro o ho c; simp at ho; rcases ho with rfl | rfl | rfl <;> simp)) ?_
    refine gl_f (by first | exact s_fieldAddr rfl (by rfl) (by infer_instance) (by decide) | exact s_fieldAddr_o rfl (by assumption) (by rfl) (by infer_instance) (by decide)) rfl rfl rfl ?_
    refine gl_r (by first | exact s_load_blk rfl (by repeat first|exact .del|apply Upd.there) (by rfl) | exact s_load1 rfl (fun w hw => peekB hw (by assumption) (by rfl))) rfl rfl rfl ?_
    refine gl_f (s_neq rfl rfl) rfl rfl rfl ?_
    refine gl_nil ?_
    refine at_gn ?_
    refine gn_cond rfl (fun h => ?_) (fun h => ?_)
    · refine gn_exit ?_
      unfold At
      intro a2 w2 hf2 hw2
      change _ ∧ _ ∧ _
      exact ⟨hp_keeps hs rfl hw2 (fun b hb => by rw [hs.blks] at hb; exact hb) _, fun _ => (hback _ _ hw2).keep, hback _ _ hw2.drop, not_more hI.2 (by rw [isC]; simp at h; simp [h])⟩
    · refine gn_skip ?_
      refine at_gn ?_
      refine gn_seq ?_
      refine gn_region (.inr (by intro o ho c; simp at ho; rcases ho with rfl | rfl | rfl | rfl | rfl | rfl | rfl | rfl <;> simp)) ?_
      refine gl_f (by first | exact s_fieldAddr rfl (by rfl) (by infer_instance) (by decide) | exact s_fieldAddr_o rfl (by assumption) (by rfl) (by infer_instance) (by decide)) rfl rfl rfl ?_
      refine gl_r (by first | exact s_load_blk rfl (by repeat first|exact .del|apply Upd.there) (by rfl) | exact s_load1 rfl (fun w hw => peekB hw (by assumption) (by rfl))) rfl rfl rfl ?_
      refine gl_call _ rfl (Read_ct x.1.2.2.2 (Nat.le_trans x.2 (by decide))) (fun w hw => hw) (fun _ _ _ => trivial) rfl ?_; rintro v A ⟨ra, rc, rfl, rfl⟩
      refine gl_f (s_move rfl) rfl rfl rfl ?_
      refine gl_f (s_extract rfl rfl) rfl rfl rfl ?_
      refine gl_f (s_extract rfl rfl) rfl rfl rfl ?_
      refine gl_f (s_assign rfl) rfl rfl rfl ?_
      refine gl_f (s_assign rfl) rfl rfl rfl ?_
      refine gl_nil ?_
      refine at_gn ?_
      refine gn_seq ?_
      refine gn_region (.inr (by intro o ho c; simp at ho; rcases ho with rfl | rfl <;> simp)) ?_
      refine gl_f (s_move rfl) rfl rfl rfl ?_
      refine gl_f ((s_eql rfl rfl).eq (congrArg Value.bool (readE_ok x.1.2.2.2))) rfl rfl rfl ?_
      refine gl_nil ?_
      refine at_gn ?_
      refine gn_cond rfl (fun h2 => ?_) (fun h2 => ?_)
      · refine gn_seq ?_
        refine gn_region (.inr (by intro o ho c; simp at ho; rcases ho with rfl | rfl | rfl | rfl <;> simp)) ?_
        refine gl_f (s_move rfl) rfl rfl rfl ?_
        refine gl_f (s_move rfl) rfl rfl rfl ?_
        (first | refine gl_store_blkC (pre := []) (post := []) rfl rfl (by repeat first|exact .here|apply Upd.there) (by rfl) (by rfl) (by rfl) ?_ | refine gl_store_blk rfl rfl (by repeat first|exact .here|apply Upd.there) (by rfl) (by (intro q hq; simp [Value.cells] at hq; first | (subst hq; rfl) | (rcases hq with rfl | rfl | rfl | rfl | rfl | rfl | rfl | rfl <;> rfl) | (rcases hq with rfl | rfl | rfl | rfl | rfl | rfl | rfl | rfl | rfl | rfl | rfl | rfl | rfl | rfl | rfl | rfl | rfl | rfl | rfl | rfl <;> rfl))) (by rfl) ?_)
        (first | refine gl_store_blkC (pre := []) (post := []) rfl rfl (by repeat first|exact .here|apply Upd.there) (by rfl) (by rfl) (by rfl) ?_ | refine gl_store_blk rfl rfl (by repeat first|exact .here|apply Upd.there) (by rfl) (by (intro q hq; simp [Value.cells] at hq; first | (subst hq; rfl) | (rcases hq with rfl | rfl | rfl | rfl | rfl | rfl | rfl | rfl <;> rfl) | (rcases hq with rfl | rfl | rfl | rfl | rfl | rfl | rfl | rfl | rfl | rfl | rfl | rfl | rfl | rfl | rfl | rfl | rfl | rfl | rfl | rfl <;> rfl))) (by rfl) ?_)
        refine gl_nil ?_
        refine at_gn ?_
        refine gn_exit ?_
        unfold At
        intro a2 w2 hf2 hw2
        change _ ∧ _ ∧ _
        refine ⟨hp_keeps hs rfl hw2 (fun b hb => by rw [hs.blks] at hb; simp only [memH, List.flatMap_cons, List.mem_append, blks_blk] at hb ⊢; exact .inr hb) _, rfl, pre, x, rfl, hI.2, by rw [isC, h2]; simp at h; simp [h], ra, rc, ?_⟩
        exact ((hback _ _ hw2).perm (H' := memH b6 b7 ra (readL x.1.2.2.2) rc x.1.1 ++ [_, _]) (perm_up (by repeat first|exact .del|apply Upd.there) (perm_up (by repeat first|exact .del|apply Upd.there) (perm_up (by repeat first|exact .del|apply Upd.there) (.refl _))))).left
      · refine gn_skip ?_
        unfold At
        intro a2 w2 hf2 hw2
        change _ ∧ _ ∧ _
        exact ⟨hp_keeps hs rfl hw2 (fun b hb => by rw [hs.blks] at hb; simp only [List.cons_append, List.nil_append, List.flatMap_cons, List.mem_append] at hb ⊢; exact .inr hb) _, fun _ => (hback _ _ hw2).keep, hback _ _ hw2.drop.drop, not_more hI.2 (by rw [isC, h2]; simp)⟩
  · intro D xs W hD hxs hI hK
    subst hxs
    have hr := conf_none hI.2
    exact hend D W _ ca cc hD hr.symm hI.1 hK
  · intro D c pre W hD hpre2 hIx hK
    obtain ⟨k, hk, rfl⟩ := hpre2
    obtain ⟨rfl, q, x, he, hq, hx, ra, rc, hwW⟩ := hIx
    have hr := conf_some hk he.symm hq hx
    exact wpIn_exit (hend D W _ ra rc hD hr.symm hwW hK)
end Go.Proofs.Ytodcghipfolejaa
