/- A mind's calls: stand, tick. -/
import Derived.Test.YtodcghipfolejaaCR6
namespace Go.Proofs.Ytodcghipfolejaa.Rf
open Go Go.Sl
set_option linter.unusedVariables false
set_option linter.unusedSimpArgs false
-- ARR

theorem g_cutE {P : Program} {N : Nat} {c : Code} {K R : Kont} {E : List (Nat × Kont)} {L : Lcs} {F : Snap} {H : List As} {ι : Type} (L' : ι → Lcs) (H' : ι → List As) (h1 : G P N c (fun a w => ∃ i, Fits N (L' i) a ∧ Hp F w (H' i)) E R L F H) (h2 : ∀ i, At N K (L' i) F (H' i)) : G P N c K E R L F H := by
  unfold G at h1 ⊢
  unfold At at h2
  intro a w hf hw
  exact Code.wp_mono (fun e a w q => by
    cases e with
    | normal => obtain ⟨i, h3, h4⟩ := q; exact h2 i a w h3 h4
    | _ => exact q) (h1 a w hf hw)
theorem pf_stand1 {p : RP} (h : PFit p) (ht : p.term < 4611686018427387904) : PFit (stand1 p) := ⟨h.base, h.len, h.cl, h.dat, h.img, (by show [p.id].length ≤ _; simp), Nat.zero_le _, fun q hq => (by cases hq), ⟨Int.le_refl _, (by show (0 : Int) ≤ _; omega)⟩, (by have := h.term; show 0 ≤ p.term + 1 ∧ p.term + 1 ≤ _; omega), h.commit⟩
def voteK (p : RP) (k : Nat) : List MP := (((confL p).take k).filter fun n => decide (n ≠ p.id)).map (voteM (stand1 p))
theorem voteK_all (p : RP) : voteK p (confL p).length = ((confL p).filter fun n => decide (n ≠ p.id)).map (voteM (stand1 p)) := by rw [voteK, List.take_length]
theorem voteK_succ {p : RP} {k : Nat} (hk : k < (confL p).length) : voteK p (k + 1) = voteK p k ++ (if (confL p).getD k 0 = p.id then [] else [voteM (stand1 p) ((confL p).getD k 0)]) := by
  rw [voteK, voteK, takeI hk, List.filter_append, List.map_append]
  congr 1
  by_cases h : (confL p).getD k 0 = p.id
  · rw [if_pos h]; simp only [List.filter_cons, List.filter_nil]; rw [if_neg (by simp only [ne_eq, decide_not]; rw [decide_eq_true h]; decide)]; rfl
  · rw [if_neg h]; simp only [List.filter_cons, List.filter_nil]; rw [if_pos (by simpa using h)]; rfl
structure VI (p : RP) (k : Nat) (ms : List MM) : Prop where
  le : k ≤ (confL p).length
  me : ms.map MM.p = voteK p k
  len : ms.length ≤ k
  ok : ∀ h, ∀ m ∈ ms, MOk h m
set_option maxRecDepth 8000 in
set_option maxHeartbeats 4000000 in
theorem stand_ct (X : Nat) (d : MD) (hf : PFit d.p) (ht : d.p.term < 4611686018427387904) (hl : d.p.l.length ≤ 99999) (ho : d.outs.length ≤ 1000000) : Ct Try.prog 101 [Ptr X] (fun _ => True) (mdH X d) (MdP X d (standP d.p) (standM d.p) (.tuple #[])) := by
  obtain ⟨p, a, outs, oa0, oc0⟩ := d
  simp only at hf ht hl ho
  have h0 := hf.term
  have hf1 := pf_stand1 hf ht
  have hcn : (confL p).length ≤ 1000000 := hf.cn (lastI p.g)
  refine ct_enter 94 Try.func101 rfl rfl rfl ?_
  intro F _
  refine g_ownN (a := a.la) (by repeat first|exact .del|apply Upd.there) (fun _ hcap _ => ?_)
  repeat (first | refine g_seq ?_ | refine at_code ?_ | refine g_skip ?_ | refine g_block ?_ | refine g_exit rfl ?_ | refine g_cond_t rfl ?_ | refine g_cond_f rfl ?_)
  refine g_region ?_
  refine gl_f (s_move rfl) rfl rfl rfl ?_
  refine gl_f (s_nilCheck rfl) rfl rfl rfl ?_
  refine gl_f (by first | exact s_fieldAddr rfl (by rfl) (by infer_instance) (by decide) | exact s_fieldAddr_o rfl (by assumption) (by rfl) (by infer_instance) (by decide)) rfl rfl rfl ?_
  refine gl_f (by first | exact s_fieldAddr rfl (by rfl) (by infer_instance) (by decide) | exact s_fieldAddr_o rfl (by assumption) (by rfl) (by infer_instance) (by decide)) rfl rfl rfl ?_
  refine gl_r (by first | exact s_load_blk rfl (by repeat first|exact .del|apply Upd.there) a19_1 | exact s_load1 rfl (fun w hw => peekB hw (by assumption) a19_1)) rfl rfl rfl ?_
  refine gl_f ((s_add_u64 rfl rfl (by show 0 ≤ p.term + 1 ∧ p.term + 1 ≤ 18446744073709551615; omega)).eq (v' := .int .u64 (p.term + 1)) rfl) rfl rfl rfl ?_
  refine gl_f (s_nilCheck rfl) rfl rfl rfl ?_
  refine gl_f (by first | exact s_fieldAddr rfl (by rfl) (by infer_instance) (by decide) | exact s_fieldAddr_o rfl (by assumption) (by rfl) (by infer_instance) (by decide)) rfl rfl rfl ?_
  refine gl_f (by first | exact s_fieldAddr rfl (by rfl) (by infer_instance) (by decide) | exact s_fieldAddr_o rfl (by assumption) (by rfl) (by infer_instance) (by decide)) rfl rfl rfl ?_
  (first | refine gl_store_blkC (pre := [_]) (post := [_, _, _, _, _, _, _, _, _, _, _, _, _, _, _, _, _]) rfl rfl (by repeat first|exact .here|apply Upd.there) (by rfl) (by rfl) (by rfl) ?_ | refine gl_store_blk rfl rfl (by repeat first|exact .here|apply Upd.there) (by rfl) (by (intro q hq; simp [Value.cells] at hq; first | (subst hq; rfl) | (rcases hq with rfl | rfl | rfl | rfl | rfl | rfl | rfl | rfl <;> rfl) | (rcases hq with rfl | rfl | rfl | rfl | rfl | rfl | rfl | rfl | rfl | rfl | rfl | rfl | rfl | rfl | rfl | rfl | rfl | rfl | rfl | rfl <;> rfl))) (by rfl) ?_)
  refine gl_nil ?_
  repeat (first | refine g_seq ?_ | refine at_code ?_ | refine g_skip ?_ | refine g_block ?_ | refine g_exit rfl ?_ | refine g_cond_t rfl ?_ | refine g_cond_f rfl ?_)
  refine g_cutE (ι := Option Addr) (fun _ => [(0, Ptr X)]) (fun va => mdH X ⟨stand1 p, { a with va := va, vc := 1, pa := none, pc := 0 }, outs, oa0, oc0⟩) ?_ (fun va => ?_)
  · repeat (first | refine g_seq ?_ | refine at_code ?_ | refine g_skip ?_ | refine g_block ?_ | refine g_exit rfl ?_ | refine g_cond_t rfl ?_ | refine g_cond_f rfl ?_)
    refine g_draw ([10, 15], [0, 0, 0, 0, 0, 0, 0, 64, 192, 448, 960, 0, 2048, 6144, 14336, 30720, 63488, 65473, 196545, 458689, 982977, 2031555, 4128707, 8323011, 16711619, 33488839, 67043271, 134152135, 268369863, 536870863, 1073741775, 2147483599, 4294967247, 8589934559, 17179869151, 34359738335, 68719476703, 137438953471, 274877906943, 549755813887, 1099511627775], [16, 20, 24, 28, 32, 36, 40]) [.blk X (mdO ⟨{ p with term := p.term + 1 }, a, outs, oa0, oc0⟩)] 41 rfl ?_
    refine ga_free 0 rfl (s_move rfl) rfl rfl rfl (by kernel_rfl) ?_
    refine ga_free 1 rfl (s_move rfl) rfl rfl rfl (by kernel_rfl) ?_
    refine ga_free 2 rfl (s_move rfl) rfl rfl rfl (by kernel_rfl) ?_
    refine ga_free 3 rfl (s_move rfl) rfl rfl rfl (by kernel_rfl) ?_
    refine ga_free 4 rfl (s_move rfl) rfl rfl rfl (by kernel_rfl) ?_
    refine ga_free 5 rfl (s_move rfl) rfl rfl rfl (by kernel_rfl) ?_
    refine ga_free 6 rfl (s_move rfl) rfl rfl rfl (by kernel_rfl) ?_
    refine ga_free 7 rfl (s_nilCheck rfl) rfl rfl rfl (by kernel_rfl) ?_
    refine ga_free 8 rfl (by first | exact s_fieldAddr rfl (by rfl) (by infer_instance) (by decide) | exact s_fieldAddr_o rfl (by assumption) (by rfl) (by infer_instance) (by decide)) rfl rfl rfl (by kernel_rfl) ?_
    refine ga_free 9 rfl (by first | exact s_fieldAddr rfl (by rfl) (by infer_instance) (by decide) | exact s_fieldAddr_o rfl (by assumption) (by rfl) (by infer_instance) (by decide)) rfl rfl rfl (by kernel_rfl) ?_
    (first | refine ga_read_k 10 rfl (by first | exact .head _ | exact .tail _ (.head _) | exact .tail _ (.tail _ (.head _)) | exact .tail _ (.tail _ (.tail _ (.head _)))) (s_load_blk rfl .del a19_0) (by (first | exact fun _ h => h | (repeat first | exact sub_nil | refine sub_cons (by repeat first | exact List.Mem.head _ | apply List.Mem.tail) ?_))) rfl rfl rfl (by kernel_rfl) ?_ | refine ga_readF 10 rfl (s_load1 rfl (fun w hw => peekB hw (by assumption) a19_0)) (by (first | exact fun _ h => h | (repeat first | exact sub_nil | refine sub_cons (by repeat first | exact List.Mem.head _ | apply List.Mem.tail) ?_))) rfl rfl rfl (by kernel_rfl) ?_)
    refine ga_free 11 rfl (s_move rfl) rfl rfl rfl (by kernel_rfl) ?_
    refine ga_free 12 rfl (s_nilCheck rfl) rfl rfl rfl (by kernel_rfl) ?_
    refine ga_free 13 rfl (by first | exact s_fieldAddr rfl (by rfl) (by infer_instance) (by decide) | exact s_fieldAddr_o rfl (by assumption) (by rfl) (by infer_instance) (by decide)) rfl rfl rfl (by kernel_rfl) ?_
    refine ga_free 14 rfl (by first | exact s_fieldAddr rfl (by rfl) (by infer_instance) (by decide) | exact s_fieldAddr_o rfl (by assumption) (by rfl) (by infer_instance) (by decide)) rfl rfl rfl (by kernel_rfl) ?_
    (first | refine ga_read_k 15 rfl (by first | exact .head _ | exact .tail _ (.head _) | exact .tail _ (.tail _ (.head _)) | exact .tail _ (.tail _ (.tail _ (.head _)))) (s_load_blk rfl .del a19_0) (by (first | exact fun _ h => h | (repeat first | exact sub_nil | refine sub_cons (by repeat first | exact List.Mem.head _ | apply List.Mem.tail) ?_))) rfl rfl rfl (by kernel_rfl) ?_ | refine ga_readF 15 rfl (s_load1 rfl (fun w hw => peekB hw (by assumption) a19_0)) (by (first | exact fun _ h => h | (repeat first | exact sub_nil | refine sub_cons (by repeat first | exact List.Mem.head _ | apply List.Mem.tail) ?_))) rfl rfl rfl (by kernel_rfl) ?_)
    refine ga_free 17 rfl (s_nilCheck rfl) rfl rfl rfl (by kernel_rfl) ?_
    refine ga_free 18 rfl (by first | exact s_fieldAddr rfl (by rfl) (by infer_instance) (by decide) | exact s_fieldAddr_o rfl (by assumption) (by rfl) (by infer_instance) (by decide)) rfl rfl rfl (by kernel_rfl) ?_
    refine ga_free 19 rfl (by first | exact s_fieldAddr rfl (by rfl) (by infer_instance) (by decide) | exact s_fieldAddr_o rfl (by assumption) (by rfl) (by infer_instance) (by decide)) rfl rfl rfl (by kernel_rfl) ?_
    refine ga_two 16 20 rfl rfl (by kernel_rfl) ?_ ?_
    refine gl_buildSliceU rfl rfl rfl rfl rfl rfl (xs := intsV [p.id]) rfl rfl ?_; intro a32 ha32
    refine gl_nil ?_
    refine at_ga (.inr (by exact keeps_of (by (first | exact fun _ h => h | (repeat first | exact sub_nil | refine sub_cons (by repeat first | exact List.Mem.head _ | apply List.Mem.tail) ?_))))) ?_
    refine ga_one 20 rfl (by kernel_rfl) ?_
    (first | refine gl_store_blkC (pre := [_, _]) (post := [_, _, _, _, _, _, _, _, _, _, _, _, _, _, _, _]) rfl rfl (by repeat first|exact .here|apply Upd.there) (by rfl) (by rfl) (by rfl) ?_ | refine gl_store_blk rfl rfl (by repeat first|exact .here|apply Upd.there) (by rfl) (by (intro q hq; simp [Value.cells] at hq; first | (subst hq; rfl) | (rcases hq with rfl | rfl | rfl | rfl | rfl | rfl | rfl | rfl <;> rfl) | (rcases hq with rfl | rfl | rfl | rfl | rfl | rfl | rfl | rfl | rfl | rfl | rfl | rfl | rfl | rfl | rfl | rfl | rfl | rfl | rfl | rfl <;> rfl))) (by rfl) ?_)
    refine gl_nil ?_
    refine at_ga (.inl (by kernel_rfl)) ?_
    refine ga_free 21 rfl (s_nilCheck rfl) rfl rfl rfl (by kernel_rfl) ?_
    refine ga_free 22 rfl (by first | exact s_fieldAddr rfl (by rfl) (by infer_instance) (by decide) | exact s_fieldAddr_o rfl (by assumption) (by rfl) (by infer_instance) (by decide)) rfl rfl rfl (by kernel_rfl) ?_
    refine ga_free 23 rfl (by first | exact s_fieldAddr rfl (by rfl) (by infer_instance) (by decide) | exact s_fieldAddr_o rfl (by assumption) (by rfl) (by infer_instance) (by decide)) rfl rfl rfl (by kernel_rfl) ?_
    refine ga_one 24 rfl (by kernel_rfl) ?_
    (first | refine gl_store_blkC (pre := [_, _, _]) (post := [_, _, _, _, _, _, _, _, _, _, _, _, _, _, _]) rfl rfl (by repeat first|exact .here|apply Upd.there) (by rfl) (by rfl) (by rfl) ?_ | refine gl_store_blk rfl rfl (by repeat first|exact .here|apply Upd.there) (by rfl) (by (intro q hq; simp [Value.cells] at hq; first | (subst hq; rfl) | (rcases hq with rfl | rfl | rfl | rfl | rfl | rfl | rfl | rfl <;> rfl) | (rcases hq with rfl | rfl | rfl | rfl | rfl | rfl | rfl | rfl | rfl | rfl | rfl | rfl | rfl | rfl | rfl | rfl | rfl | rfl | rfl | rfl <;> rfl))) (by rfl) ?_)
    refine gl_nil ?_
    refine at_ga (.inl (by kernel_rfl)) ?_
    refine ga_free 25 rfl (s_nilCheck rfl) rfl rfl rfl (by kernel_rfl) ?_
    refine ga_free 26 rfl (by first | exact s_fieldAddr rfl (by rfl) (by infer_instance) (by decide) | exact s_fieldAddr_o rfl (by assumption) (by rfl) (by infer_instance) (by decide)) rfl rfl rfl (by kernel_rfl) ?_
    refine ga_free 27 rfl (by first | exact s_fieldAddr rfl (by rfl) (by infer_instance) (by decide) | exact s_fieldAddr_o rfl (by assumption) (by rfl) (by infer_instance) (by decide)) rfl rfl rfl (by kernel_rfl) ?_
    refine ga_one 28 rfl (by kernel_rfl) ?_
    (first | refine gl_store_blkC (pre := [_, _, _, _]) (post := [_, _, _, _, _, _, _, _, _, _, _, _, _, _]) rfl rfl (by repeat first|exact .here|apply Upd.there) (by rfl) (by rfl) (by rfl) ?_ | refine gl_store_blk rfl rfl (by repeat first|exact .here|apply Upd.there) (by rfl) (by (intro q hq; simp [Value.cells] at hq; first | (subst hq; rfl) | (rcases hq with rfl | rfl | rfl | rfl | rfl | rfl | rfl | rfl <;> rfl) | (rcases hq with rfl | rfl | rfl | rfl | rfl | rfl | rfl | rfl | rfl | rfl | rfl | rfl | rfl | rfl | rfl | rfl | rfl | rfl | rfl | rfl <;> rfl))) (by rfl) ?_)
    refine gl_nil ?_
    refine at_ga (.inl (by kernel_rfl)) ?_
    refine ga_free 29 rfl (s_nilCheck rfl) rfl rfl rfl (by kernel_rfl) ?_
    refine ga_free 30 rfl (by first | exact s_fieldAddr rfl (by rfl) (by infer_instance) (by decide) | exact s_fieldAddr_o rfl (by assumption) (by rfl) (by infer_instance) (by decide)) rfl rfl rfl (by kernel_rfl) ?_
    refine ga_free 31 rfl (by first | exact s_fieldAddr rfl (by rfl) (by infer_instance) (by decide) | exact s_fieldAddr_o rfl (by assumption) (by rfl) (by infer_instance) (by decide)) rfl rfl rfl (by kernel_rfl) ?_
    refine ga_one 32 rfl (by kernel_rfl) ?_
    (first | refine gl_store_blkC (pre := [_, _, _, _, _, _, _, _, _, _, _, _, _]) (post := [_, _, _, _, _]) rfl rfl (by repeat first|exact .here|apply Upd.there) (by rfl) (by rfl) (by rfl) ?_ | refine gl_store_blk rfl rfl (by repeat first|exact .here|apply Upd.there) (by rfl) (by (intro q hq; simp [Value.cells] at hq; first | (subst hq; rfl) | (rcases hq with rfl | rfl | rfl | rfl | rfl | rfl | rfl | rfl <;> rfl) | (rcases hq with rfl | rfl | rfl | rfl | rfl | rfl | rfl | rfl | rfl | rfl | rfl | rfl | rfl | rfl | rfl | rfl | rfl | rfl | rfl | rfl <;> rfl))) (by rfl) ?_)
    refine gl_nil ?_
    refine at_ga (.inl (by kernel_rfl)) ?_
    refine ga_free 33 rfl (s_nilCheck rfl) rfl rfl rfl (by kernel_rfl) ?_
    refine ga_free 34 rfl (by first | exact s_fieldAddr rfl (by rfl) (by infer_instance) (by decide) | exact s_fieldAddr_o rfl (by assumption) (by rfl) (by infer_instance) (by decide)) rfl rfl rfl (by kernel_rfl) ?_
    refine ga_free 35 rfl (by first | exact s_fieldAddr rfl (by rfl) (by infer_instance) (by decide) | exact s_fieldAddr_o rfl (by assumption) (by rfl) (by infer_instance) (by decide)) rfl rfl rfl (by kernel_rfl) ?_
    refine ga_one 36 rfl (by kernel_rfl) ?_
    (first | refine gl_store_blkC (pre := [_, _, _, _, _, _, _, _, _, _, _, _, _, _]) (post := [_, _, _, _]) rfl rfl (by repeat first|exact .here|apply Upd.there) (by rfl) (by rfl) (by rfl) ?_ | refine gl_store_blk rfl rfl (by repeat first|exact .here|apply Upd.there) (by rfl) (by (intro q hq; simp [Value.cells] at hq; first | (subst hq; rfl) | (rcases hq with rfl | rfl | rfl | rfl | rfl | rfl | rfl | rfl <;> rfl) | (rcases hq with rfl | rfl | rfl | rfl | rfl | rfl | rfl | rfl | rfl | rfl | rfl | rfl | rfl | rfl | rfl | rfl | rfl | rfl | rfl | rfl <;> rfl))) (by rfl) ?_)
    refine gl_nil ?_
    refine at_ga (.inl (by kernel_rfl)) ?_
    refine ga_free 37 rfl (s_nilCheck rfl) rfl rfl rfl (by kernel_rfl) ?_
    refine ga_free 38 rfl (by first | exact s_fieldAddr rfl (by rfl) (by infer_instance) (by decide) | exact s_fieldAddr_o rfl (by assumption) (by rfl) (by infer_instance) (by decide)) rfl rfl rfl (by kernel_rfl) ?_
    refine ga_free 39 rfl (by first | exact s_fieldAddr rfl (by rfl) (by infer_instance) (by decide) | exact s_fieldAddr_o rfl (by assumption) (by rfl) (by infer_instance) (by decide)) rfl rfl rfl (by kernel_rfl) ?_
    refine ga_one 40 rfl (by kernel_rfl) ?_
    (first | refine gl_store_blkC (pre := [_, _, _, _, _, _, _, _, _, _, _]) (post := [_, _, _, _, _, _, _]) rfl rfl (by repeat first|exact .here|apply Upd.there) (by rfl) (by rfl) (by rfl) ?_ | refine gl_store_blk rfl rfl (by repeat first|exact .here|apply Upd.there) (by rfl) (by (intro q hq; simp [Value.cells] at hq; first | (subst hq; rfl) | (rcases hq with rfl | rfl | rfl | rfl | rfl | rfl | rfl | rfl <;> rfl) | (rcases hq with rfl | rfl | rfl | rfl | rfl | rfl | rfl | rfl | rfl | rfl | rfl | rfl | rfl | rfl | rfl | rfl | rfl | rfl | rfl | rfl <;> rfl))) (by rfl) ?_)
    refine gl_nil ?_
    refine at_ga (.inl (by kernel_rfl)) ?_
    refine ga_done (by kernel_rfl) ?_
    rotate_left 1
    (first | refine gl_store_blkC (pre := [_, _]) (post := [_, _, _, _, _, _, _, _, _, _, _, _, _, _, _, _]) rfl rfl (by repeat first|exact .here|apply Upd.there) (by rfl) (by rfl) (by rfl) ?_ | refine gl_store_blk rfl rfl (by repeat first|exact .here|apply Upd.there) (by rfl) (by (intro q hq; simp [Value.cells] at hq; first | (subst hq; rfl) | (rcases hq with rfl | rfl | rfl | rfl | rfl | rfl | rfl | rfl <;> rfl) | (rcases hq with rfl | rfl | rfl | rfl | rfl | rfl | rfl | rfl | rfl | rfl | rfl | rfl | rfl | rfl | rfl | rfl | rfl | rfl | rfl | rfl <;> rfl))) (by rfl) ?_)
    refine gl_nil ?_
    refine at_ga (.inl (by kernel_rfl)) ?_
    refine ga_free 21 rfl (s_nilCheck rfl) rfl rfl rfl (by kernel_rfl) ?_
    refine ga_free 22 rfl (by first | exact s_fieldAddr rfl (by rfl) (by infer_instance) (by decide) | exact s_fieldAddr_o rfl (by assumption) (by rfl) (by infer_instance) (by decide)) rfl rfl rfl (by kernel_rfl) ?_
    refine ga_free 23 rfl (by first | exact s_fieldAddr rfl (by rfl) (by infer_instance) (by decide) | exact s_fieldAddr_o rfl (by assumption) (by rfl) (by infer_instance) (by decide)) rfl rfl rfl (by kernel_rfl) ?_
    refine ga_two 16 24 rfl rfl (by kernel_rfl) ?_ ?_
    refine gl_buildSliceU rfl rfl rfl rfl rfl rfl (xs := intsV [p.id]) rfl rfl ?_; intro a32 ha32
    refine gl_nil ?_
    refine at_ga (.inl (by kernel_rfl)) ?_
    refine ga_one 24 rfl (by kernel_rfl) ?_
    (first | refine gl_store_blkC (pre := [_, _, _]) (post := [_, _, _, _, _, _, _, _, _, _, _, _, _, _, _]) rfl rfl (by repeat first|exact .here|apply Upd.there) (by rfl) (by rfl) (by rfl) ?_ | refine gl_store_blk rfl rfl (by repeat first|exact .here|apply Upd.there) (by rfl) (by (intro q hq; simp [Value.cells] at hq; first | (subst hq; rfl) | (rcases hq with rfl | rfl | rfl | rfl | rfl | rfl | rfl | rfl <;> rfl) | (rcases hq with rfl | rfl | rfl | rfl | rfl | rfl | rfl | rfl | rfl | rfl | rfl | rfl | rfl | rfl | rfl | rfl | rfl | rfl | rfl | rfl <;> rfl))) (by rfl) ?_)
    refine gl_nil ?_
    refine at_ga (.inl (by kernel_rfl)) ?_
    refine ga_free 25 rfl (s_nilCheck rfl) rfl rfl rfl (by kernel_rfl) ?_
    refine ga_free 26 rfl (by first | exact s_fieldAddr rfl (by rfl) (by infer_instance) (by decide) | exact s_fieldAddr_o rfl (by assumption) (by rfl) (by infer_instance) (by decide)) rfl rfl rfl (by kernel_rfl) ?_
    refine ga_free 27 rfl (by first | exact s_fieldAddr rfl (by rfl) (by infer_instance) (by decide) | exact s_fieldAddr_o rfl (by assumption) (by rfl) (by infer_instance) (by decide)) rfl rfl rfl (by kernel_rfl) ?_
    refine ga_one 28 rfl (by kernel_rfl) ?_
    (first | refine gl_store_blkC (pre := [_, _, _, _]) (post := [_, _, _, _, _, _, _, _, _, _, _, _, _, _]) rfl rfl (by repeat first|exact .here|apply Upd.there) (by rfl) (by rfl) (by rfl) ?_ | refine gl_store_blk rfl rfl (by repeat first|exact .here|apply Upd.there) (by rfl) (by (intro q hq; simp [Value.cells] at hq; first | (subst hq; rfl) | (rcases hq with rfl | rfl | rfl | rfl | rfl | rfl | rfl | rfl <;> rfl) | (rcases hq with rfl | rfl | rfl | rfl | rfl | rfl | rfl | rfl | rfl | rfl | rfl | rfl | rfl | rfl | rfl | rfl | rfl | rfl | rfl | rfl <;> rfl))) (by rfl) ?_)
    refine gl_nil ?_
    refine at_ga (.inl (by kernel_rfl)) ?_
    refine ga_free 29 rfl (s_nilCheck rfl) rfl rfl rfl (by kernel_rfl) ?_
    refine ga_free 30 rfl (by first | exact s_fieldAddr rfl (by rfl) (by infer_instance) (by decide) | exact s_fieldAddr_o rfl (by assumption) (by rfl) (by infer_instance) (by decide)) rfl rfl rfl (by kernel_rfl) ?_
    refine ga_free 31 rfl (by first | exact s_fieldAddr rfl (by rfl) (by infer_instance) (by decide) | exact s_fieldAddr_o rfl (by assumption) (by rfl) (by infer_instance) (by decide)) rfl rfl rfl (by kernel_rfl) ?_
    refine ga_one 32 rfl (by kernel_rfl) ?_
    (first | refine gl_store_blkC (pre := [_, _, _, _, _, _, _, _, _, _, _, _, _]) (post := [_, _, _, _, _]) rfl rfl (by repeat first|exact .here|apply Upd.there) (by rfl) (by rfl) (by rfl) ?_ | refine gl_store_blk rfl rfl (by repeat first|exact .here|apply Upd.there) (by rfl) (by (intro q hq; simp [Value.cells] at hq; first | (subst hq; rfl) | (rcases hq with rfl | rfl | rfl | rfl | rfl | rfl | rfl | rfl <;> rfl) | (rcases hq with rfl | rfl | rfl | rfl | rfl | rfl | rfl | rfl | rfl | rfl | rfl | rfl | rfl | rfl | rfl | rfl | rfl | rfl | rfl | rfl <;> rfl))) (by rfl) ?_)
    refine gl_nil ?_
    refine at_ga (.inl (by kernel_rfl)) ?_
    refine ga_free 33 rfl (s_nilCheck rfl) rfl rfl rfl (by kernel_rfl) ?_
    refine ga_free 34 rfl (by first | exact s_fieldAddr rfl (by rfl) (by infer_instance) (by decide) | exact s_fieldAddr_o rfl (by assumption) (by rfl) (by infer_instance) (by decide)) rfl rfl rfl (by kernel_rfl) ?_
    refine ga_free 35 rfl (by first | exact s_fieldAddr rfl (by rfl) (by infer_instance) (by decide) | exact s_fieldAddr_o rfl (by assumption) (by rfl) (by infer_instance) (by decide)) rfl rfl rfl (by kernel_rfl) ?_
    refine ga_one 36 rfl (by kernel_rfl) ?_
    (first | refine gl_store_blkC (pre := [_, _, _, _, _, _, _, _, _, _, _, _, _, _]) (post := [_, _, _, _]) rfl rfl (by repeat first|exact .here|apply Upd.there) (by rfl) (by rfl) (by rfl) ?_ | refine gl_store_blk rfl rfl (by repeat first|exact .here|apply Upd.there) (by rfl) (by (intro q hq; simp [Value.cells] at hq; first | (subst hq; rfl) | (rcases hq with rfl | rfl | rfl | rfl | rfl | rfl | rfl | rfl <;> rfl) | (rcases hq with rfl | rfl | rfl | rfl | rfl | rfl | rfl | rfl | rfl | rfl | rfl | rfl | rfl | rfl | rfl | rfl | rfl | rfl | rfl | rfl <;> rfl))) (by rfl) ?_)
    refine gl_nil ?_
    refine at_ga (.inl (by kernel_rfl)) ?_
    refine ga_free 37 rfl (s_nilCheck rfl) rfl rfl rfl (by kernel_rfl) ?_
    refine ga_free 38 rfl (by first | exact s_fieldAddr rfl (by rfl) (by infer_instance) (by decide) | exact s_fieldAddr_o rfl (by assumption) (by rfl) (by infer_instance) (by decide)) rfl rfl rfl (by kernel_rfl) ?_
    refine ga_free 39 rfl (by first | exact s_fieldAddr rfl (by rfl) (by infer_instance) (by decide) | exact s_fieldAddr_o rfl (by assumption) (by rfl) (by infer_instance) (by decide)) rfl rfl rfl (by kernel_rfl) ?_
    refine ga_one 40 rfl (by kernel_rfl) ?_
    (first | refine gl_store_blkC (pre := [_, _, _, _, _, _, _, _, _, _, _]) (post := [_, _, _, _, _, _, _]) rfl rfl (by repeat first|exact .here|apply Upd.there) (by rfl) (by rfl) (by rfl) ?_ | refine gl_store_blk rfl rfl (by repeat first|exact .here|apply Upd.there) (by rfl) (by (intro q hq; simp [Value.cells] at hq; first | (subst hq; rfl) | (rcases hq with rfl | rfl | rfl | rfl | rfl | rfl | rfl | rfl <;> rfl) | (rcases hq with rfl | rfl | rfl | rfl | rfl | rfl | rfl | rfl | rfl | rfl | rfl | rfl | rfl | rfl | rfl | rfl | rfl | rfl | rfl | rfl <;> rfl))) (by rfl) ?_)
    refine gl_nil ?_
    refine at_ga (.inl (by kernel_rfl)) ?_
    refine ga_done (by kernel_rfl) ?_
    rotate_left 1
    (first | refine gl_store_blkC (pre := [_, _, _]) (post := [_, _, _, _, _, _, _, _, _, _, _, _, _, _, _]) rfl rfl (by repeat first|exact .here|apply Upd.there) (by rfl) (by rfl) (by rfl) ?_ | refine gl_store_blk rfl rfl (by repeat first|exact .here|apply Upd.there) (by rfl) (by (intro q hq; simp [Value.cells] at hq; first | (subst hq; rfl) | (rcases hq with rfl | rfl | rfl | rfl | rfl | rfl | rfl | rfl <;> rfl) | (rcases hq with rfl | rfl | rfl | rfl | rfl | rfl | rfl | rfl | rfl | rfl | rfl | rfl | rfl | rfl | rfl | rfl | rfl | rfl | rfl | rfl <;> rfl))) (by rfl) ?_)
    refine gl_nil ?_
    refine at_ga (.inl (by kernel_rfl)) ?_
    refine ga_free 25 rfl (s_nilCheck rfl) rfl rfl rfl (by kernel_rfl) ?_
    refine ga_free 26 rfl (by first | exact s_fieldAddr rfl (by rfl) (by infer_instance) (by decide) | exact s_fieldAddr_o rfl (by assumption) (by rfl) (by infer_instance) (by decide)) rfl rfl rfl (by kernel_rfl) ?_
    refine ga_free 27 rfl (by first | exact s_fieldAddr rfl (by rfl) (by infer_instance) (by decide) | exact s_fieldAddr_o rfl (by assumption) (by rfl) (by infer_instance) (by decide)) rfl rfl rfl (by kernel_rfl) ?_
    refine ga_two 16 28 rfl rfl (by kernel_rfl) ?_ ?_
    refine gl_buildSliceU rfl rfl rfl rfl rfl rfl (xs := intsV [p.id]) rfl rfl ?_; intro a32 ha32
    refine gl_nil ?_
    refine at_ga (.inl (by kernel_rfl)) ?_
    refine ga_one 28 rfl (by kernel_rfl) ?_
    (first | refine gl_store_blkC (pre := [_, _, _, _]) (post := [_, _, _, _, _, _, _, _, _, _, _, _, _, _]) rfl rfl (by repeat first|exact .here|apply Upd.there) (by rfl) (by rfl) (by rfl) ?_ | refine gl_store_blk rfl rfl (by repeat first|exact .here|apply Upd.there) (by rfl) (by (intro q hq; simp [Value.cells] at hq; first | (subst hq; rfl) | (rcases hq with rfl | rfl | rfl | rfl | rfl | rfl | rfl | rfl <;> rfl) | (rcases hq with rfl | rfl | rfl | rfl | rfl | rfl | rfl | rfl | rfl | rfl | rfl | rfl | rfl | rfl | rfl | rfl | rfl | rfl | rfl | rfl <;> rfl))) (by rfl) ?_)
    refine gl_nil ?_
    refine at_ga (.inl (by kernel_rfl)) ?_
    refine ga_free 29 rfl (s_nilCheck rfl) rfl rfl rfl (by kernel_rfl) ?_
    refine ga_free 30 rfl (by first | exact s_fieldAddr rfl (by rfl) (by infer_instance) (by decide) | exact s_fieldAddr_o rfl (by assumption) (by rfl) (by infer_instance) (by decide)) rfl rfl rfl (by kernel_rfl) ?_
    refine ga_free 31 rfl (by first | exact s_fieldAddr rfl (by rfl) (by infer_instance) (by decide) | exact s_fieldAddr_o rfl (by assumption) (by rfl) (by infer_instance) (by decide)) rfl rfl rfl (by kernel_rfl) ?_
    refine ga_one 32 rfl (by kernel_rfl) ?_
    (first | refine gl_store_blkC (pre := [_, _, _, _, _, _, _, _, _, _, _, _, _]) (post := [_, _, _, _, _]) rfl rfl (by repeat first|exact .here|apply Upd.there) (by rfl) (by rfl) (by rfl) ?_ | refine gl_store_blk rfl rfl (by repeat first|exact .here|apply Upd.there) (by rfl) (by (intro q hq; simp [Value.cells] at hq; first | (subst hq; rfl) | (rcases hq with rfl | rfl | rfl | rfl | rfl | rfl | rfl | rfl <;> rfl) | (rcases hq with rfl | rfl | rfl | rfl | rfl | rfl | rfl | rfl | rfl | rfl | rfl | rfl | rfl | rfl | rfl | rfl | rfl | rfl | rfl | rfl <;> rfl))) (by rfl) ?_)
    refine gl_nil ?_
    refine at_ga (.inl (by kernel_rfl)) ?_
    refine ga_free 33 rfl (s_nilCheck rfl) rfl rfl rfl (by kernel_rfl) ?_
    refine ga_free 34 rfl (by first | exact s_fieldAddr rfl (by rfl) (by infer_instance) (by decide) | exact s_fieldAddr_o rfl (by assumption) (by rfl) (by infer_instance) (by decide)) rfl rfl rfl (by kernel_rfl) ?_
    refine ga_free 35 rfl (by first | exact s_fieldAddr rfl (by rfl) (by infer_instance) (by decide) | exact s_fieldAddr_o rfl (by assumption) (by rfl) (by infer_instance) (by decide)) rfl rfl rfl (by kernel_rfl) ?_
    refine ga_one 36 rfl (by kernel_rfl) ?_
    (first | refine gl_store_blkC (pre := [_, _, _, _, _, _, _, _, _, _, _, _, _, _]) (post := [_, _, _, _]) rfl rfl (by repeat first|exact .here|apply Upd.there) (by rfl) (by rfl) (by rfl) ?_ | refine gl_store_blk rfl rfl (by repeat first|exact .here|apply Upd.there) (by rfl) (by (intro q hq; simp [Value.cells] at hq; first | (subst hq; rfl) | (rcases hq with rfl | rfl | rfl | rfl | rfl | rfl | rfl | rfl <;> rfl) | (rcases hq with rfl | rfl | rfl | rfl | rfl | rfl | rfl | rfl | rfl | rfl | rfl | rfl | rfl | rfl | rfl | rfl | rfl | rfl | rfl | rfl <;> rfl))) (by rfl) ?_)
    refine gl_nil ?_
    refine at_ga (.inl (by kernel_rfl)) ?_
    refine ga_free 37 rfl (s_nilCheck rfl) rfl rfl rfl (by kernel_rfl) ?_
    refine ga_free 38 rfl (by first | exact s_fieldAddr rfl (by rfl) (by infer_instance) (by decide) | exact s_fieldAddr_o rfl (by assumption) (by rfl) (by infer_instance) (by decide)) rfl rfl rfl (by kernel_rfl) ?_
    refine ga_free 39 rfl (by first | exact s_fieldAddr rfl (by rfl) (by infer_instance) (by decide) | exact s_fieldAddr_o rfl (by assumption) (by rfl) (by infer_instance) (by decide)) rfl rfl rfl (by kernel_rfl) ?_
    refine ga_one 40 rfl (by kernel_rfl) ?_
    (first | refine gl_store_blkC (pre := [_, _, _, _, _, _, _, _, _, _, _]) (post := [_, _, _, _, _, _, _]) rfl rfl (by repeat first|exact .here|apply Upd.there) (by rfl) (by rfl) (by rfl) ?_ | refine gl_store_blk rfl rfl (by repeat first|exact .here|apply Upd.there) (by rfl) (by (intro q hq; simp [Value.cells] at hq; first | (subst hq; rfl) | (rcases hq with rfl | rfl | rfl | rfl | rfl | rfl | rfl | rfl <;> rfl) | (rcases hq with rfl | rfl | rfl | rfl | rfl | rfl | rfl | rfl | rfl | rfl | rfl | rfl | rfl | rfl | rfl | rfl | rfl | rfl | rfl | rfl <;> rfl))) (by rfl) ?_)
    refine gl_nil ?_
    refine at_ga (.inl (by kernel_rfl)) ?_
    refine ga_done (by kernel_rfl) ?_
    rotate_left 1
    (first | refine gl_store_blkC (pre := [_, _, _, _]) (post := [_, _, _, _, _, _, _, _, _, _, _, _, _, _]) rfl rfl (by repeat first|exact .here|apply Upd.there) (by rfl) (by rfl) (by rfl) ?_ | refine gl_store_blk rfl rfl (by repeat first|exact .here|apply Upd.there) (by rfl) (by (intro q hq; simp [Value.cells] at hq; first | (subst hq; rfl) | (rcases hq with rfl | rfl | rfl | rfl | rfl | rfl | rfl | rfl <;> rfl) | (rcases hq with rfl | rfl | rfl | rfl | rfl | rfl | rfl | rfl | rfl | rfl | rfl | rfl | rfl | rfl | rfl | rfl | rfl | rfl | rfl | rfl <;> rfl))) (by rfl) ?_)
    refine gl_nil ?_
    refine at_ga (.inl (by kernel_rfl)) ?_
    refine ga_one 16 rfl (by kernel_rfl) ?_
    refine gl_buildSliceU rfl rfl rfl rfl rfl rfl (xs := intsV [p.id]) rfl rfl ?_; intro a32 ha32
    refine gl_nil ?_
    refine at_ga (.inl (by kernel_rfl)) ?_
    refine ga_free 29 rfl (s_nilCheck rfl) rfl rfl rfl (by kernel_rfl) ?_
    refine ga_free 30 rfl (by first | exact s_fieldAddr rfl (by rfl) (by infer_instance) (by decide) | exact s_fieldAddr_o rfl (by assumption) (by rfl) (by infer_instance) (by decide)) rfl rfl rfl (by kernel_rfl) ?_
    refine ga_free 31 rfl (by first | exact s_fieldAddr rfl (by rfl) (by infer_instance) (by decide) | exact s_fieldAddr_o rfl (by assumption) (by rfl) (by infer_instance) (by decide)) rfl rfl rfl (by kernel_rfl) ?_
    refine ga_one 32 rfl (by kernel_rfl) ?_
    (first | refine gl_store_blkC (pre := [_, _, _, _, _, _, _, _, _, _, _, _, _]) (post := [_, _, _, _, _]) rfl rfl (by repeat first|exact .here|apply Upd.there) (by rfl) (by rfl) (by rfl) ?_ | refine gl_store_blk rfl rfl (by repeat first|exact .here|apply Upd.there) (by rfl) (by (intro q hq; simp [Value.cells] at hq; first | (subst hq; rfl) | (rcases hq with rfl | rfl | rfl | rfl | rfl | rfl | rfl | rfl <;> rfl) | (rcases hq with rfl | rfl | rfl | rfl | rfl | rfl | rfl | rfl | rfl | rfl | rfl | rfl | rfl | rfl | rfl | rfl | rfl | rfl | rfl | rfl <;> rfl))) (by rfl) ?_)
    refine gl_nil ?_
    refine at_ga (.inl (by kernel_rfl)) ?_
    refine ga_free 33 rfl (s_nilCheck rfl) rfl rfl rfl (by kernel_rfl) ?_
    refine ga_free 34 rfl (by first | exact s_fieldAddr rfl (by rfl) (by infer_instance) (by decide) | exact s_fieldAddr_o rfl (by assumption) (by rfl) (by infer_instance) (by decide)) rfl rfl rfl (by kernel_rfl) ?_
    refine ga_free 35 rfl (by first | exact s_fieldAddr rfl (by rfl) (by infer_instance) (by decide) | exact s_fieldAddr_o rfl (by assumption) (by rfl) (by infer_instance) (by decide)) rfl rfl rfl (by kernel_rfl) ?_
    refine ga_one 36 rfl (by kernel_rfl) ?_
    (first | refine gl_store_blkC (pre := [_, _, _, _, _, _, _, _, _, _, _, _, _, _]) (post := [_, _, _, _]) rfl rfl (by repeat first|exact .here|apply Upd.there) (by rfl) (by rfl) (by rfl) ?_ | refine gl_store_blk rfl rfl (by repeat first|exact .here|apply Upd.there) (by rfl) (by (intro q hq; simp [Value.cells] at hq; first | (subst hq; rfl) | (rcases hq with rfl | rfl | rfl | rfl | rfl | rfl | rfl | rfl <;> rfl) | (rcases hq with rfl | rfl | rfl | rfl | rfl | rfl | rfl | rfl | rfl | rfl | rfl | rfl | rfl | rfl | rfl | rfl | rfl | rfl | rfl | rfl <;> rfl))) (by rfl) ?_)
    refine gl_nil ?_
    refine at_ga (.inl (by kernel_rfl)) ?_
    refine ga_free 37 rfl (s_nilCheck rfl) rfl rfl rfl (by kernel_rfl) ?_
    refine ga_free 38 rfl (by first | exact s_fieldAddr rfl (by rfl) (by infer_instance) (by decide) | exact s_fieldAddr_o rfl (by assumption) (by rfl) (by infer_instance) (by decide)) rfl rfl rfl (by kernel_rfl) ?_
    refine ga_free 39 rfl (by first | exact s_fieldAddr rfl (by rfl) (by infer_instance) (by decide) | exact s_fieldAddr_o rfl (by assumption) (by rfl) (by infer_instance) (by decide)) rfl rfl rfl (by kernel_rfl) ?_
    refine ga_one 40 rfl (by kernel_rfl) ?_
    (first | refine gl_store_blkC (pre := [_, _, _, _, _, _, _, _, _, _, _]) (post := [_, _, _, _, _, _, _]) rfl rfl (by repeat first|exact .here|apply Upd.there) (by rfl) (by rfl) (by rfl) ?_ | refine gl_store_blk rfl rfl (by repeat first|exact .here|apply Upd.there) (by rfl) (by (intro q hq; simp [Value.cells] at hq; first | (subst hq; rfl) | (rcases hq with rfl | rfl | rfl | rfl | rfl | rfl | rfl | rfl <;> rfl) | (rcases hq with rfl | rfl | rfl | rfl | rfl | rfl | rfl | rfl | rfl | rfl | rfl | rfl | rfl | rfl | rfl | rfl | rfl | rfl | rfl | rfl <;> rfl))) (by rfl) ?_)
    refine gl_nil ?_
    refine at_ga (.inl (by kernel_rfl)) ?_
    refine ga_done (by kernel_rfl) ?_
    rotate_left 1
    all_goals (repeat (first | refine g_seq ?_ | refine at_code ?_ | refine g_skip ?_ | refine g_block ?_ | refine g_exit rfl ?_ | refine g_cond_t rfl ?_ | refine g_cond_f rfl ?_))
    all_goals
      refine g_end_own 121 4 ?_
      exact at_cutE a32 (by (repeat (first | exact Sub.nil _ | refine Sub.cons rfl ?_))) (fun w hw => Hp.left (R := [OwnC a.va p.votes a.vc, OwnP a.pa p.peers a.pc]) (hw.perm (perm_up (by repeat first|exact .del|apply Upd.there) (perm_up (by repeat first|exact .del|apply Upd.there) (perm_up (by repeat first|exact .del|apply Upd.there) (perm_up (by repeat first|exact .del|apply Upd.there) (perm_up (by repeat first|exact .del|apply Upd.there) (perm_up (by repeat first|exact .del|apply Upd.there) (.refl _)))))))))
  have hcap1 : (stand1 p).l.length ≤ ({ a with va := va, vc := 1, pa := none, pc := 0 } : RA).lc := hcap
  generalize ha1 : ({ a with va := va, vc := 1, pa := none, pc := 0 } : RA) = a1 at hcap1 ⊢
  have hva : a1.va = va := by rw [← ha1]
  have hvc : a1.vc = 1 := by rw [← ha1]
  repeat (first | refine g_seq ?_ | refine at_code ?_ | refine g_skip ?_ | refine g_block ?_ | refine g_exit rfl ?_ | refine g_cond_t rfl ?_ | refine g_cond_f rfl ?_)
  repeat (first | refine g_seq ?_ | refine at_code ?_ | refine g_skip ?_ | refine g_block ?_ | refine g_exit rfl ?_ | refine g_cond_t rfl ?_ | refine g_cond_f rfl ?_)
  refine g_region ?_
  refine gl_f (s_move rfl) rfl rfl rfl ?_
  refine gl_f (s_nilCheck rfl) rfl rfl rfl ?_
  refine gl_f (by first | exact s_fieldAddr rfl (by rfl) (by infer_instance) (by decide) | exact s_fieldAddr_o rfl (by assumption) (by rfl) (by infer_instance) (by decide)) rfl rfl rfl ?_
  refine gl_r ((s_load_blkN rfl (by repeat first|exact .del|apply Upd.there) (by rfl)).eq (v' := rsV (stand1 p) a1) rfl) rfl rfl rfl ?_
  refine gl_call _ rfl (Members_ct (stand1 p) a1 hf1 hcap1) (fun w hw => hw) (fun h hh ⟨bs, hb⟩ => ⟨Sat.rd (a := a1.ca) hb (by repeat first|exact .del|apply Upd.there), Sat.rd (a := a1.la) hb (by repeat first|exact .del|apply Upd.there)⟩) rfl ?_; rw [show confL (stand1 p) = confL p from rfl]; rintro v A ⟨ca, cc, rfl, rfl⟩
  refine gl_f (s_assign rfl) rfl rfl rfl ?_
  refine gl_nil ?_
  repeat (first | refine g_seq ?_ | refine at_code ?_ | refine g_skip ?_ | refine g_block ?_ | refine g_exit rfl ?_ | refine g_cond_t rfl ?_ | refine g_cond_f rfl ?_)
  obtain ⟨q, hq⟩ : ∃ q, q = wins (stand1 p) := ⟨_, rfl⟩
  refine g_ownN (a := ca) (by repeat first|exact .del|apply Upd.there) (fun _ _ hca => ?_)
  repeat (first | refine g_seq ?_ | refine at_code ?_ | refine g_skip ?_ | refine g_block ?_ | refine g_exit rfl ?_ | refine g_cond_t rfl ?_ | refine g_cond_f rfl ?_)
  refine g_region ?_
  refine gl_f (s_move rfl) rfl rfl rfl ?_
  refine gl_f (s_move rfl) rfl rfl rfl ?_
  refine gl_f (s_nilCheck rfl) rfl rfl rfl ?_
  refine gl_f (by first | exact s_fieldAddr rfl (by rfl) (by infer_instance) (by decide) | exact s_fieldAddr_o rfl (by assumption) (by rfl) (by infer_instance) (by decide)) rfl rfl rfl ?_
  refine gl_f (by first | exact s_fieldAddr rfl (by rfl) (by infer_instance) (by decide) | exact s_fieldAddr_o rfl (by assumption) (by rfl) (by infer_instance) (by decide)) rfl rfl rfl ?_
  refine gl_r (by first | exact s_load_blk rfl (by repeat first|exact .del|apply Upd.there) a19_13 | exact s_load1 rfl (fun w hw => peekB hw (by assumption) a19_13)) rfl rfl rfl ?_
  refine gl_callp rfl (Most_ct (confL p) [p.id] ca a1.va cc a1.vc (by omega) (by simp)) (fun h hh ⟨bs, hb⟩ => ⟨Sat.rd (a := ca) hb (by repeat first|exact .del|apply Upd.there), Sat.rd (a := a1.va) hb (by repeat first|exact .del|apply Upd.there)⟩) rfl ?_; rw [show mostB (confL p) [p.id] = q from hq.symm]
  refine gl_nil ?_
  repeat (first | refine g_seq ?_ | refine at_code ?_ | refine g_skip ?_ | refine g_block ?_ | refine g_exit rfl ?_ | refine g_cond_t rfl ?_ | refine g_cond_f rfl ?_)
  cases q
  rotate_left
  · have e1 : standP p = leadP (stand1 p) := if_pos hq.symm
    have e2 : standM p = leadM (stand1 p) := if_pos hq.symm
    simp only [e1, e2]
    repeat (first | refine g_seq ?_ | refine at_code ?_ | refine g_skip ?_ | refine g_block ?_ | refine g_exit rfl ?_ | refine g_cond_t rfl ?_ | refine g_cond_f rfl ?_)
    repeat (first | refine g_seq ?_ | refine at_code ?_ | refine g_skip ?_ | refine g_block ?_ | refine g_exit rfl ?_ | refine g_cond_t rfl ?_ | refine g_cond_f rfl ?_)
    refine g_region ?_
    refine gl_f (s_move rfl) rfl rfl rfl ?_
    refine gl_call [OwnC ca (confL p) cc] rfl (lead_ct X ⟨stand1 p, a1, outs, oa0, oc0⟩ hf1 hl ho) (fun w hw => hw.perm (perm_up (by repeat first|exact .del|apply Upd.there) (perm_up (by repeat first|exact .del|apply Upd.there) (perm_up (by repeat first|exact .del|apply Upd.there) (perm_up (by repeat first|exact .del|apply Upd.there) (perm_up (by repeat first|exact .del|apply Upd.there) (perm_up (by repeat first|exact .del|apply Upd.there) (.refl _)))))))) (fun _ _ _ => trivial) rfl ?_; rintro v A ⟨rfl, d2, Z2, e2, o2, rfl, f2⟩
    refine gl_nil ?_
    repeat (first | refine g_seq ?_ | refine at_code ?_ | refine g_skip ?_ | refine g_block ?_ | refine g_exit rfl ?_ | refine g_cond_t rfl ?_ | refine g_cond_f rfl ?_)
    refine g_ret ?_
    exact at_end0 rfl (mdH X d2 ++ Z2) ⟨rfl, d2, Z2, e2, o2, rfl, f2⟩ (fun w hw => Hp.left hw)
  have e1 : standP p = stand1 p := if_neg (by rw [← hq]; decide)
  have e2 : standM p = voteK p (confL p).length := by rw [voteK_all]; exact if_neg (by rw [← hq]; decide)
  simp only [e1, e2]
  repeat (first | refine g_seq ?_ | refine at_code ?_ | refine g_skip ?_ | refine g_block ?_ | refine g_exit rfl ?_ | refine g_cond_t rfl ?_ | refine g_cond_f rfl ?_)
  repeat (first | refine g_seq ?_ | refine at_code ?_ | refine g_skip ?_ | refine g_block ?_ | refine g_exit rfl ?_ | refine g_cond_t rfl ?_ | refine g_cond_f rfl ?_)
  refine g_region ?_
  refine gl_f (s_move rfl) rfl rfl rfl ?_
  refine gl_f (s_nilCheck rfl) rfl rfl rfl ?_
  refine gl_f (by first | exact s_fieldAddr rfl (by rfl) (by infer_instance) (by decide) | exact s_fieldAddr_o rfl (by assumption) (by rfl) (by infer_instance) (by decide)) rfl rfl rfl ?_
  refine gl_f (by first | exact s_fieldAddr rfl (by rfl) (by infer_instance) (by decide) | exact s_fieldAddr_o rfl (by assumption) (by rfl) (by infer_instance) (by decide)) rfl rfl rfl ?_
  refine gl_r ((s_load_blkN rfl (by repeat first|exact .del|apply Upd.there) (by rfl)).eq (v' := ((stand1 p).lm a1).v) rfl) rfl rfl rfl ?_
  refine gl_callp rfl (Last_ct ((stand1 p).lm a1) (hf1.fit a1 hcap1)) (fun h hh ⟨bs, hb⟩ => Sat.rd (a := a1.la) hb (by repeat first|exact .del|apply Upd.there)) rfl ?_; rw [show lastI ((stand1 p).lm a1) = lastI p.g from rfl, show lastT ((stand1 p).lm a1) = lastT p.g from rfl]
  refine gl_f (s_move rfl) rfl rfl rfl ?_
  refine gl_f (s_extract rfl rfl) rfl rfl rfl ?_
  refine gl_f (s_extract rfl rfl) rfl rfl rfl ?_
  refine gl_f (s_assign rfl) rfl rfl rfl ?_
  refine gl_f (s_assign rfl) rfl rfl rfl ?_
  refine gl_nil ?_
  repeat (first | refine g_seq ?_ | refine at_code ?_ | refine g_skip ?_ | refine g_block ?_ | refine g_exit rfl ?_ | refine g_cond_t rfl ?_ | refine g_cond_f rfl ?_)
  repeat (first | refine g_seq ?_ | refine at_code ?_ | refine g_skip ?_ | refine g_block ?_ | refine g_exit rfl ?_ | refine g_cond_t rfl ?_ | refine g_cond_f rfl ?_)
  refine g_region ?_
  refine gl_f (s_move rfl) rfl rfl rfl ?_
  refine gl_f (s_len_sl rfl) rfl rfl rfl ?_
  refine gl_f (s_move rfl) rfl rfl rfl ?_
  refine gl_nil ?_
  repeat (first | refine g_seq ?_ | refine at_code ?_ | refine g_skip ?_ | refine g_block ?_ | refine g_exit rfl ?_ | refine g_cond_t rfl ?_ | refine g_cond_f rfl ?_)
  refine g_loop (ι := Nat × List MM × Option Addr × Nat) (fun i => VI p i.1 i.2.1) (fun i => [(0, Ptr X), (3, .int .u64 (lastI p.g)), (4, .int .u64 (lastT p.g)), (74, .slice ca (confL p).length cc), (75, .int .i64 ((confL p).length : Nat)), (76, .int .i64 (i.1 : Nat))]) (fun i => OwnC ca (confL p) cc :: mdH X ⟨stand1 p, a1, outs ++ i.2.1, i.2.2.1, i.2.2.2⟩) (fun i => (confL p).length - i.1) (0, [], oa0, oc0) ⟨Nat.zero_le _, rfl, Nat.le_refl _, fun h m hm => by cases hm⟩ ?_ ?_ ?_
  · (repeat (first | exact Sub.nil _ | refine Sub.cons rfl ?_))
  · intro w hw
    simp only [List.append_nil]
    exact hw
  rintro ⟨k, ms, oa, oc⟩ hI
  obtain ⟨hk, hms, hln, hok⟩ := hI
  simp only at hk hms hln hok
  repeat (first | refine g_seq ?_ | refine at_code ?_ | refine g_skip ?_ | refine g_block ?_ | refine g_exit rfl ?_ | refine g_cond_t rfl ?_ | refine g_cond_f rfl ?_)
  refine g_region ?_
  refine gl_f (s_lss rfl rfl) rfl rfl rfl ?_
  refine gl_nil ?_
  repeat (first | refine g_seq ?_ | refine at_code ?_ | refine g_skip ?_ | refine g_block ?_ | refine g_exit rfl ?_ | refine g_cond_t rfl ?_ | refine g_cond_f rfl ?_)
  refine g_cond rfl (fun h => ?_) (fun h => ?_)
  rotate_left
  · have hkl : k = (confL p).length := by simp at h; omega
    rw [hkl] at hms
    repeat (first | refine g_seq ?_ | refine at_code ?_ | refine g_skip ?_ | refine g_block ?_ | refine g_exit rfl ?_ | refine g_cond_t rfl ?_ | refine g_cond_f rfl ?_)
    exact at_end0 rfl (mdH X ⟨stand1 p, a1, outs ++ ms, oa, oc⟩ ++ []) ⟨rfl, ⟨stand1 p, a1, outs ++ ms, oa, oc⟩, [], rfl, by rw [List.map_append, hms], rfl, fun h f _ m hm => by
      rcases List.mem_append.1 hm with hm | hm
      · exact f m hm
      · exact hok h m hm⟩ (fun w hw => hw.drop)
  have hkl : k < (confL p).length := by simp at h; omega
  have hkk : ((k, ms, oa, oc) : Nat × List MM × Option Addr × Nat).1 < (confL p).length := hkl
  have hsome : ∃ ad, ca = some ad := hca (by omega)
  have hsu := voteK_succ hkl
  obtain ⟨n, hne⟩ : ∃ n, n = (confL p).getD k 0 := ⟨_, rfl⟩
  rw [← hne] at hsu
  obtain ⟨q, hq⟩ : ∃ q, q = decide (n = p.id) := ⟨_, rfl⟩
  repeat (first | refine g_seq ?_ | refine at_code ?_ | refine g_skip ?_ | refine g_block ?_ | refine g_exit rfl ?_ | refine g_cond_t rfl ?_ | refine g_cond_f rfl ?_)
  repeat (first | refine g_seq ?_ | refine at_code ?_ | refine g_skip ?_ | refine g_block ?_ | refine g_exit rfl ?_ | refine g_cond_t rfl ?_ | refine g_cond_f rfl ?_)
  refine g_region ?_
  refine gl_f (s_indexAddr rfl (by assumption) rfl (by omega)) rfl rfl rfl ?_
  refine gl_r (s_load1 (v := .int .i64 n) rfl (fun w hw => by rw [hne]; exact rdN_own (a := ca) hw (by repeat first|exact .del|apply Upd.there) (i := k) (by simp only; omega) hkl)) rfl rfl rfl ?_
  refine gl_f (s_assign rfl) rfl rfl rfl ?_
  refine gl_nil ?_
  repeat (first | refine g_seq ?_ | refine at_code ?_ | refine g_skip ?_ | refine g_block ?_ | refine g_exit rfl ?_ | refine g_cond_t rfl ?_ | refine g_cond_f rfl ?_)
  repeat (first | refine g_seq ?_ | refine at_code ?_ | refine g_skip ?_ | refine g_block ?_ | refine g_exit rfl ?_ | refine g_cond_t rfl ?_ | refine g_cond_f rfl ?_)
  refine g_region ?_
  refine gl_f (s_move rfl) rfl rfl rfl ?_
  refine gl_f (s_move rfl) rfl rfl rfl ?_
  refine gl_f (s_nilCheck rfl) rfl rfl rfl ?_
  refine gl_f (by first | exact s_fieldAddr rfl (by rfl) (by infer_instance) (by decide) | exact s_fieldAddr_o rfl (by assumption) (by rfl) (by infer_instance) (by decide)) rfl rfl rfl ?_
  refine gl_f (by first | exact s_fieldAddr rfl (by rfl) (by infer_instance) (by decide) | exact s_fieldAddr_o rfl (by assumption) (by rfl) (by infer_instance) (by decide)) rfl rfl rfl ?_
  refine gl_r (by first | exact s_load_blk rfl (by repeat first|exact .del|apply Upd.there) a19_0 | exact s_load1 rfl (fun w hw => peekB hw (by assumption) a19_0)) rfl rfl rfl ?_
  refine gl_f ((s_neq rfl rfl).eq (v' := .bool (!q)) (by rw [hq]; rfl)) rfl rfl rfl ?_
  refine gl_nil ?_
  repeat (first | refine g_seq ?_ | refine at_code ?_ | refine g_skip ?_ | refine g_block ?_ | refine g_exit rfl ?_ | refine g_cond_t rfl ?_ | refine g_cond_f rfl ?_)
  cases q
  rotate_left
  · rw [if_pos (of_decide_eq_true hq.symm), List.append_nil] at hsu
    repeat (first | refine g_seq ?_ | refine at_code ?_ | refine g_skip ?_ | refine g_block ?_ | refine g_exit rfl ?_ | refine g_cond_t rfl ?_ | refine g_cond_f rfl ?_)
    repeat (first | refine g_seq ?_ | refine at_code ?_ | refine g_skip ?_ | refine g_block ?_ | refine g_exit rfl ?_ | refine g_cond_t rfl ?_ | refine g_cond_f rfl ?_)
    refine g_region ?_
    refine gl_f (s_add_i64 rfl rfl (by omega)) rfl rfl rfl ?_
    refine gl_f (s_move rfl) rfl rfl rfl ?_
    refine gl_nil ?_
    repeat (first | refine g_seq ?_ | refine at_code ?_ | refine g_skip ?_ | refine g_block ?_ | refine g_exit rfl ?_ | refine g_cond_t rfl ?_ | refine g_cond_f rfl ?_)
    refine at_next (k + 1, ms, oa, oc) ⟨by simp only; omega, by simp only; rw [hsu]; exact hms, by simp only; omega, hok⟩ (by simp only; omega) ?_ ?_
    · (repeat (first | exact Sub.nil _ | refine Sub.cons rfl ?_))
    · intro w hw; exact hw
  rw [if_neg (of_decide_eq_false hq.symm)] at hsu
  repeat (first | refine g_seq ?_ | refine at_code ?_ | refine g_skip ?_ | refine g_block ?_ | refine g_exit rfl ?_ | refine g_cond_t rfl ?_ | refine g_cond_f rfl ?_)
  repeat (first | refine g_seq ?_ | refine at_code ?_ | refine g_skip ?_ | refine g_block ?_ | refine g_exit rfl ?_ | refine g_cond_t rfl ?_ | refine g_cond_f rfl ?_)
  refine g_region ?_
  refine gl_f (s_move rfl) rfl rfl rfl ?_
  refine gl_f (s_move rfl) rfl rfl rfl ?_
  refine gl_f (s_move rfl) rfl rfl rfl ?_
  refine gl_f (s_move rfl) rfl rfl rfl ?_
  refine gl_f ((s_bld (cells := (mmC ⟨{ voteM (stand1 p) n with frm := 0, to := 0, term := 0 }, none, 0, none, 0⟩).toArray) rfl (by kernel_rfl)).eq (v' := mmA ⟨{ voteM (stand1 p) n with frm := 0, to := 0, term := 0 }, none, 0, none, 0⟩) rfl) rfl rfl rfl ?_
  refine gl_call [OwnC ca (confL p) cc] rfl (say_ct X ⟨stand1 p, a1, outs ++ ms, oa, oc⟩ n ⟨{ voteM (stand1 p) n with frm := 0, to := 0, term := 0 }, none, 0, none, 0⟩ (by simp only [List.length_append]; omega)) (fun w hw => hw.perm (perm_up (by repeat first|exact .del|apply Upd.there) (perm_up (by repeat first|exact .del|apply Upd.there) (perm_up (by repeat first|exact .del|apply Upd.there) (perm_up (by repeat first|exact .del|apply Upd.there) (perm_up (by repeat first|exact .del|apply Upd.there) (perm_up (by repeat first|exact .del|apply Upd.there) (.refl _)))))))) (fun _ _ _ => trivial) rfl ?_; rintro v A ⟨rfl, oa1, oc1, rfl⟩
  refine gl_nil ?_
  repeat (first | refine g_seq ?_ | refine at_code ?_ | refine g_skip ?_ | refine g_block ?_ | refine g_exit rfl ?_ | refine g_cond_t rfl ?_ | refine g_cond_f rfl ?_)
  repeat (first | refine g_seq ?_ | refine at_code ?_ | refine g_skip ?_ | refine g_block ?_ | refine g_exit rfl ?_ | refine g_cond_t rfl ?_ | refine g_cond_f rfl ?_)
  refine g_region ?_
  refine gl_f (s_add_i64 rfl rfl (by omega)) rfl rfl rfl ?_
  refine gl_f (s_move rfl) rfl rfl rfl ?_
  refine gl_nil ?_
  repeat (first | refine g_seq ?_ | refine at_code ?_ | refine g_skip ?_ | refine g_block ?_ | refine g_exit rfl ?_ | refine g_cond_t rfl ?_ | refine g_cond_f rfl ?_)
  refine at_next (k + 1, ms ++ [⟨voteM (stand1 p) n, none, 0, none, 0⟩], oa1, oc1) ⟨by simp only; omega, by simp only; rw [hsu, List.map_append, hms]; rfl, by simp only [List.length_append, List.length_singleton]; omega, fun h m hm => ?_⟩ (by simp only; omega) ?_ ?_
  · rcases List.mem_append.1 hm with hm | hm
    · exact hok h m hm
    · rw [List.mem_singleton.1 hm]; exact ⟨RdS.nil _ _, RdS.nil _ _, Nat.le_refl _⟩
  · (repeat (first | exact Sub.nil _ | refine Sub.cons rfl ?_))
  · intro w hw
    simp only
    rw [← List.append_assoc]
    exact hw.perm (perm_up (by repeat first|exact .del|apply Upd.there) (.refl _))
end Go.Proofs.Ytodcghipfolejaa.Rf
