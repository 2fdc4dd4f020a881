/- Tail: Conf, ConfAt, Compact. -/
import Derived.Test.YtodcghipfolejaaU9
namespace Go.Proofs.Ytodcghipfolejaa
open Go Go.Sl
set_option linter.unusedVariables false
set_option linter.unusedSimpArgs false

theorem lastI_rng {g : LM} (hf : g.fit) : 0 ≤ lastI g ∧ lastI g ≤ 18446744073709551615 := by
  have h1 := hf.lo
  have h2 := hf.hi
  have h3 := hf.len
  unfold lastI; omega
theorem Conf_ct (g : LM) (hf : g.fit) (hd : g.dat) : Ct Try.prog 54 [g.v] g.ok [] (MemP (confAt g (lastI g))) := by
  refine ct_enter 10 Try.func54 rfl rfl rfl ?_
  intro F hr
  repeat (first | refine g_seq ?_ | refine at_code ?_ | refine g_skip ?_ | refine g_block ?_ | refine g_exit rfl ?_ | refine g_cond_t rfl ?_ | refine g_cond_f rfl ?_)
  refine g_region ?_
  refine gl_boxA rfl rfl ?_; intro g1
  refine gl_f (s_assign rfl) rfl rfl rfl ?_
  refine gl_f (s_assign rfl) rfl rfl rfl ?_
  refine gl_nil ?_
  repeat (first | refine g_seq ?_ | refine at_code ?_ | refine g_skip ?_ | refine g_block ?_ | refine g_exit rfl ?_ | refine g_cond_t rfl ?_ | refine g_cond_f rfl ?_)
  refine g_draw0 [0, 1] 8 rfl ?_
  refine ga_read 0 rfl (by repeat first|exact .del|apply Upd.there) (by first | exact s_load_blkW rfl .del (by rfl) | exact s_load_blkN rfl .del (by rfl)) rfl rfl rfl (by kernel_rfl) ?_
  refine ga_read 1 rfl (by repeat first|exact .del|apply Upd.there) (by first | exact s_load_blkW rfl .del (by rfl) | exact s_load_blkN rfl .del (by rfl)) rfl rfl rfl (by kernel_rfl) ?_
  refine ga_one 2 rfl (by kernel_rfl) ?_
  refine gl_callp rfl (end_ct g hf) (fun _ _ _ => trivial) rfl ?_
  refine gl_nil ?_
  refine at_ga (.inr (by exact keeps_of (by (first | exact fun _ h => h | (repeat first | exact sub_nil | refine sub_cons (by repeat first | exact List.Mem.head _ | apply List.Mem.tail) ?_))))) ?_
  refine ga_one 3 rfl (by kernel_rfl) ?_
  refine gl_call _ rfl (tailMembers_ct g (lastI g) hf hd (lastI_rng hf)) (fun w hw => hw) (fun h hh _ => hr.le hh) rfl ?_; rintro v A ⟨a, c, rfl, rfl⟩
  refine gl_nil ?_
  refine at_ga (.inr (by exact keeps_of (by (first | exact fun _ h => h | (repeat first | exact sub_nil | refine sub_cons (by repeat first | exact List.Mem.head _ | apply List.Mem.tail) ?_))))) ?_
  refine ga_free 4 rfl (s_extract rfl rfl) rfl rfl rfl (by kernel_rfl) ?_
  refine ga_free 5 rfl (s_extract rfl rfl) rfl rfl rfl (by kernel_rfl) ?_
  refine ga_free 6 rfl (s_assign rfl) rfl rfl rfl (by kernel_rfl) ?_
  refine ga_free 7 rfl (s_assign rfl) rfl rfl rfl (by kernel_rfl) ?_
  refine ga_done (by kernel_rfl) ?_
  repeat (first | refine g_seq ?_ | refine at_code ?_ | refine g_skip ?_ | refine g_block ?_ | refine g_exit rfl ?_ | refine g_cond_t rfl ?_ | refine g_cond_f rfl ?_)
  refine g_ret ?_
  exact at_end2 rfl rfl rfl [OwnC a (confAt g (lastI g)).1 c] ⟨a, c, rfl, rfl⟩ (fun w hw => Hp.left (R := [_]) hw)
theorem ConfAt_ct (g : LM) (i : Int) (hf : g.fit) (hd : g.dat) (hi : 0 ≤ i ∧ i ≤ 18446744073709551615) : Ct Try.prog 50 [g.v, .int .u64 i] g.ok [] (LsP (confAt g i).1) := by
  refine ct_enter 14 Try.func50 rfl rfl rfl ?_
  intro F hr
  repeat (first | refine g_seq ?_ | refine at_code ?_ | refine g_skip ?_ | refine g_block ?_ | refine g_exit rfl ?_ | refine g_cond_t rfl ?_ | refine g_cond_f rfl ?_)
  refine g_region ?_
  refine gl_boxA rfl rfl ?_; intro g2
  refine gl_f (s_assign rfl) rfl rfl rfl ?_
  refine gl_nil ?_
  repeat (first | refine g_seq ?_ | refine at_code ?_ | refine g_skip ?_ | refine g_block ?_ | refine g_exit rfl ?_ | refine g_cond_t rfl ?_ | refine g_cond_f rfl ?_)
  refine g_region ?_
  refine gl_r (by first | exact s_load_blkW rfl (by repeat first|exact .del|apply Upd.there) (by rfl) | exact s_load_blkN rfl (by repeat first|exact .del|apply Upd.there) (by rfl)) rfl rfl rfl ?_
  refine gl_f (s_move rfl) rfl rfl rfl ?_
  refine gl_call _ rfl (tailMembers_ct g i hf hd hi) (fun w hw => hw) (fun h hh _ => hr.le hh) rfl ?_; rintro v A ⟨a, c, rfl, rfl⟩
  refine gl_f (s_move rfl) rfl rfl rfl ?_
  refine gl_f (s_extract rfl rfl) rfl rfl rfl ?_
  refine gl_f (s_extract rfl rfl) rfl rfl rfl ?_
  refine gl_f (s_assign rfl) rfl rfl rfl ?_
  refine gl_f (s_assign rfl) rfl rfl rfl ?_
  refine gl_nil ?_
  repeat (first | refine g_seq ?_ | refine at_code ?_ | refine g_skip ?_ | refine g_block ?_ | refine g_exit rfl ?_ | refine g_cond_t rfl ?_ | refine g_cond_f rfl ?_)
  repeat (first | refine g_seq ?_ | refine at_code ?_ | refine g_skip ?_ | refine g_block ?_ | refine g_exit rfl ?_ | refine g_cond_t rfl ?_ | refine g_cond_f rfl ?_)
  refine g_region ?_
  refine gl_f (s_move rfl) rfl rfl rfl ?_
  refine gl_f (s_assign rfl) rfl rfl rfl ?_
  refine gl_nil ?_
  repeat (first | refine g_seq ?_ | refine at_code ?_ | refine g_skip ?_ | refine g_block ?_ | refine g_exit rfl ?_ | refine g_cond_t rfl ?_ | refine g_cond_f rfl ?_)
  refine g_ret ?_
  exact at_end1 rfl rfl [OwnC a (confAt g i).1 c] ⟨a, c, rfl, rfl⟩ (fun w hw => Hp.left (R := [_]) hw)
/-- what the program's compacting gives: a log of the call's own -/
def CmpP (g : LM) (i : Int) (v : Value) (A : List As) : Prop := (hasL g i = false ∧ ∃ ca cc la lc, v = .tuple #[LM.v ⟨g.base, g.bt, g.conf, g.l, ca, cc, la, lc⟩, .bool false] ∧ A = OwnG ⟨g.base, g.bt, g.conf, g.l, ca, cc, la, lc⟩) ∨
  (hasL g i = true ∧ ∃ ca cc la lc, v = .tuple #[LM.v ⟨i, termV g i, (confAt g i).1, g.l.drop (i - g.base).toNat, ca, cc, la, lc⟩, .bool true] ∧ A = OwnG ⟨i, termV g i, (confAt g i).1, g.l.drop (i - g.base).toNat, ca, cc, la, lc⟩)
set_option maxRecDepth 4000 in
set_option maxHeartbeats 4000000 in
theorem Compact_ct (g : LM) (i : Int) (hf : g.fit) (hd : g.dat) (hi : 0 ≤ i ∧ i ≤ 18446744073709551615) : Ct Try.prog 41 [g.v, .int .u64 i] g.ok [] (CmpP g i) := by
  have h1 := hf.lo
  have h2 := hf.hi
  have h3 := hf.len
  have h3c := hf.cl
  refine ct_enter 32 Try.func41 rfl rfl rfl ?_
  intro F hr
  repeat (first | refine g_seq ?_ | refine at_code ?_ | refine g_skip ?_ | refine g_block ?_ | refine g_exit rfl ?_ | refine g_cond_t rfl ?_ | refine g_cond_f rfl ?_)
  refine g_region ?_
  refine gl_boxA rfl rfl ?_; intro g2
  refine gl_allocA rfl ?_; intro g4
  refine gl_f (s_assign rfl) rfl rfl rfl ?_
  refine gl_nil ?_
  repeat (first | refine g_seq ?_ | refine at_code ?_ | refine g_skip ?_ | refine g_block ?_ | refine g_exit rfl ?_ | refine g_cond_t rfl ?_ | refine g_cond_f rfl ?_)
  repeat (first | refine g_seq ?_ | refine at_code ?_ | refine g_skip ?_ | refine g_block ?_ | refine g_exit rfl ?_ | refine g_cond_t rfl ?_ | refine g_cond_f rfl ?_)
  refine g_region ?_
  refine gl_r (by first | exact s_load_blkW rfl (by repeat first|exact .del|apply Upd.there) (by rfl) | exact s_load_blkN rfl (by repeat first|exact .del|apply Upd.there) (by rfl)) rfl rfl rfl ?_
  refine gl_call _ rfl (clone_ct g (by omega) (by omega)) (fun w hw => hw) (fun h hh _ => hr.le hh) rfl ?_; rintro v A ⟨ca, cc, la, lc, rfl, rfl⟩
  (first | refine gl_store_blkW rfl rfl (by repeat first|exact .here|apply Upd.there) (by rfl) (by rfl) (by (intro q hq; simp [Value.cells] at hq; first | (subst hq; rfl) | (rcases hq with rfl | rfl | rfl | rfl | rfl | rfl | rfl | rfl <;> rfl) | (rcases hq with rfl | rfl | rfl | rfl | rfl | rfl | rfl <;> rfl) | (rcases hq with rfl | rfl | rfl | rfl | rfl | rfl <;> rfl) | (rcases hq with rfl | rfl | rfl | rfl | rfl <;> rfl) | (rcases hq with rfl | rfl | rfl | rfl <;> rfl) | (rcases hq with rfl | rfl | rfl <;> rfl) | (rcases hq with rfl | rfl <;> rfl))) ?_ | refine gl_store_blk rfl rfl (by repeat first|exact .here|apply Upd.there) (by rfl) (by (intro q hq; simp [Value.cells] at hq; first | (subst hq; rfl) | (rcases hq with rfl | rfl | rfl | rfl | rfl | rfl | rfl | rfl <;> rfl) | (rcases hq with rfl | rfl | rfl | rfl | rfl | rfl | rfl <;> rfl) | (rcases hq with rfl | rfl | rfl | rfl | rfl | rfl <;> rfl) | (rcases hq with rfl | rfl | rfl | rfl | rfl <;> rfl) | (rcases hq with rfl | rfl | rfl | rfl <;> rfl) | (rcases hq with rfl | rfl | rfl <;> rfl) | (rcases hq with rfl | rfl <;> rfl))) (by rfl) ?_)
  refine gl_nil ?_
  repeat (first | refine g_seq ?_ | refine at_code ?_ | refine g_skip ?_ | refine g_block ?_ | refine g_exit rfl ?_ | refine g_cond_t rfl ?_ | refine g_cond_f rfl ?_)
  refine g_pull (H' := [OwnL la g.l lc, OwnC ca g.conf cc, blkG g4 0 0 none 0 0 none 0 0, blkG g2 g.base g.bt ca g.conf.length cc la g.l.length lc]) (fun w hw => hw) ?_
  repeat (first | refine g_seq ?_ | refine at_code ?_ | refine g_skip ?_ | refine g_block ?_ | refine g_exit rfl ?_ | refine g_cond_t rfl ?_ | refine g_cond_f rfl ?_)
  refine g_ownN .del (fun _ hcap _ => ?_)
  have hf1 : (⟨g.base, g.bt, g.conf, g.l, ca, cc, la, lc⟩ : LM).fit := ⟨h1, h2, h3, h3c, hcap⟩
  have hd1 : (⟨g.base, g.bt, g.conf, g.l, ca, cc, la, lc⟩ : LM).dat := hd
  have ht1 : ∀ i, termV (⟨g.base, g.bt, g.conf, g.l, ca, cc, la, lc⟩ : LM) i = termV g i := fun i => rfl
  have hh1 : ∀ i, hasL (⟨g.base, g.bt, g.conf, g.l, ca, cc, la, lc⟩ : LM) i = hasL g i := fun i => rfl
  have hc1n : ∀ n, confN (⟨g.base, g.bt, g.conf, g.l, ca, cc, la, lc⟩ : LM) n = confN g n := fun n => by
    induction n with
    | zero => rfl
    | succ n ih => simp only [confN]; rw [ih]
  have hc1 : ∀ i, confAt (⟨g.base, g.bt, g.conf, g.l, ca, cc, la, lc⟩ : LM) i = confAt g i := fun i => hc1n _
  repeat (first | refine g_seq ?_ | refine at_code ?_ | refine g_skip ?_ | refine g_block ?_ | refine g_exit rfl ?_ | refine g_cond_t rfl ?_ | refine g_cond_f rfl ?_)
  repeat (first | refine g_seq ?_ | refine at_code ?_ | refine g_skip ?_ | refine g_block ?_ | refine g_exit rfl ?_ | refine g_cond_t rfl ?_ | refine g_cond_f rfl ?_)
  refine g_region ?_
  refine gl_r (by first | exact s_load_blkW rfl (by repeat first|exact .del|apply Upd.there) (by rfl) | exact s_load_blkN rfl (by repeat first|exact .del|apply Upd.there) (by rfl)) rfl rfl rfl ?_
  refine gl_f (s_move rfl) rfl rfl rfl ?_
  refine gl_callp rfl (Term_ct ⟨g.base, g.bt, g.conf, g.l, ca, cc, la, lc⟩ i hf1 hi) (fun h hh ⟨bs, hb⟩ => Sat.rd (a := la) hb (by repeat first|exact .del|apply Upd.there)) rfl ?_; rw [ht1, hh1]
  refine gl_f (s_move rfl) rfl rfl rfl ?_
  refine gl_f (s_extract rfl rfl) rfl rfl rfl ?_
  refine gl_f (s_extract rfl rfl) rfl rfl rfl ?_
  refine gl_f (s_assign rfl) rfl rfl rfl ?_
  refine gl_f (s_assign rfl) rfl rfl rfl ?_
  refine gl_nil ?_
  repeat (first | refine g_seq ?_ | refine at_code ?_ | refine g_skip ?_ | refine g_block ?_ | refine g_exit rfl ?_ | refine g_cond_t rfl ?_ | refine g_cond_f rfl ?_)
  obtain ⟨q, hq⟩ : ∃ q, q = hasL g i := ⟨_, rfl⟩
  rw [← hq]
  cases q
  · repeat (first | refine g_seq ?_ | refine at_code ?_ | refine g_skip ?_ | refine g_block ?_ | refine g_exit rfl ?_ | refine g_cond_t rfl ?_ | refine g_cond_f rfl ?_)
    refine g_region ?_
    refine gl_f (s_move rfl) rfl rfl rfl ?_
    refine gl_f (s_not rfl) rfl rfl rfl ?_
    refine gl_nil ?_
    repeat (first | refine g_seq ?_ | refine at_code ?_ | refine g_skip ?_ | refine g_block ?_ | refine g_exit rfl ?_ | refine g_cond_t rfl ?_ | refine g_cond_f rfl ?_)
    refine g_region ?_
    refine gl_r (by first | exact s_load_blkW rfl (by repeat first|exact .del|apply Upd.there) (by rfl) | exact s_load_blkN rfl (by repeat first|exact .del|apply Upd.there) (by rfl)) rfl rfl rfl ?_
    (first | refine gl_store_blkW rfl rfl (by repeat first|exact .here|apply Upd.there) (by rfl) (by rfl) (by (intro q hq; simp [Value.cells] at hq; first | (subst hq; rfl) | (rcases hq with rfl | rfl | rfl | rfl | rfl | rfl | rfl | rfl <;> rfl) | (rcases hq with rfl | rfl | rfl | rfl | rfl | rfl | rfl <;> rfl) | (rcases hq with rfl | rfl | rfl | rfl | rfl | rfl <;> rfl) | (rcases hq with rfl | rfl | rfl | rfl | rfl <;> rfl) | (rcases hq with rfl | rfl | rfl | rfl <;> rfl) | (rcases hq with rfl | rfl | rfl <;> rfl) | (rcases hq with rfl | rfl <;> rfl))) ?_ | refine gl_store_blk rfl rfl (by repeat first|exact .here|apply Upd.there) (by rfl) (by (intro q hq; simp [Value.cells] at hq; first | (subst hq; rfl) | (rcases hq with rfl | rfl | rfl | rfl | rfl | rfl | rfl | rfl <;> rfl) | (rcases hq with rfl | rfl | rfl | rfl | rfl | rfl | rfl <;> rfl) | (rcases hq with rfl | rfl | rfl | rfl | rfl | rfl <;> rfl) | (rcases hq with rfl | rfl | rfl | rfl | rfl <;> rfl) | (rcases hq with rfl | rfl | rfl | rfl <;> rfl) | (rcases hq with rfl | rfl | rfl <;> rfl) | (rcases hq with rfl | rfl <;> rfl))) (by rfl) ?_)
    refine gl_f (s_assign rfl) rfl rfl rfl ?_
    refine gl_nil ?_
    repeat (first | refine g_seq ?_ | refine at_code ?_ | refine g_skip ?_ | refine g_block ?_ | refine g_exit rfl ?_ | refine g_cond_t rfl ?_ | refine g_cond_f rfl ?_)
    refine g_ret ?_
    exact at_endB1 rfl rfl rfl (by repeat first|exact .del|apply Upd.there) rfl _ (.inl ⟨hq.symm, ca, cc, la, lc, rfl, rfl⟩) (fun w hw => Hp.left (A := OwnG ⟨g.base, g.bt, g.conf, g.l, ca, cc, la, lc⟩) (R := [_, _]) hw)
  · repeat (first | refine g_seq ?_ | refine at_code ?_ | refine g_skip ?_ | refine g_block ?_ | refine g_exit rfl ?_ | refine g_cond_t rfl ?_ | refine g_cond_f rfl ?_)
    refine g_region ?_
    refine gl_f (s_move rfl) rfl rfl rfl ?_
    refine gl_f (s_not rfl) rfl rfl rfl ?_
    refine gl_nil ?_
    repeat (first | refine g_seq ?_ | refine at_code ?_ | refine g_skip ?_ | refine g_block ?_ | refine g_exit rfl ?_ | refine g_cond_t rfl ?_ | refine g_cond_f rfl ?_)
    have hhp := hq.symm
    simp only [hasL, Bool.and_eq_true, decide_eq_true_eq] at hhp
    obtain ⟨k, hk⟩ : ∃ k, k = (i - g.base).toNat := ⟨_, rfl⟩
    have hlen : (g.l.drop k).length = g.l.length - k := by rw [List.length_drop]
    repeat (first | refine g_seq ?_ | refine at_code ?_ | refine g_skip ?_ | refine g_block ?_ | refine g_exit rfl ?_ | refine g_cond_t rfl ?_ | refine g_cond_f rfl ?_)
    refine g_draw [2, 6, 9] [blkG g2 g.base g.bt ca g.conf.length cc la g.l.length lc] 15 rfl ?_
    refine ga_free 0 rfl (s_move rfl) rfl rfl rfl (by kernel_rfl) ?_
    refine ga_free 1 rfl (s_move rfl) rfl rfl rfl (by kernel_rfl) ?_
    (first | refine ga_read_k 2 rfl (by first | exact .head _ | exact .tail _ (.head _) | exact .tail _ (.tail _ (.head _)) | exact .tail _ (.tail _ (.tail _ (.head _)))) (s_load_blkW rfl .del (by rfl)) (by (first | exact fun _ h => h | (repeat first | exact sub_nil | refine sub_cons (by repeat first | exact List.Mem.head _ | apply List.Mem.tail) ?_))) rfl rfl rfl (by kernel_rfl) ?_ | refine ga_read_k 2 rfl (by first | exact .head _ | exact .tail _ (.head _) | exact .tail _ (.tail _ (.head _)) | exact .tail _ (.tail _ (.tail _ (.head _)))) (s_load_blkN rfl .del (by rfl)) (by (first | exact fun _ h => h | (repeat first | exact sub_nil | refine sub_cons (by repeat first | exact List.Mem.head _ | apply List.Mem.tail) ?_))) rfl rfl rfl (by kernel_rfl) ?_)
    refine ga_free 3 rfl (s_move rfl) rfl rfl rfl (by kernel_rfl) ?_
    refine ga_free 5 rfl (by first | exact s_fieldAddr rfl (by rfl) (by infer_instance) (by decide) | exact s_fieldAddr_o rfl (by assumption) (by rfl) (by infer_instance) (by decide)) rfl rfl rfl (by kernel_rfl) ?_
    refine ga_read_k 6 rfl (by first | exact .head _ | exact .tail _ (.head _) | exact .tail _ (.tail _ (.head _)) | exact .tail _ (.tail _ (.tail _ (.head _)))) (s_load_blk rfl .del (by rfl)) (by (first | exact fun _ h => h | (repeat first | exact sub_nil | refine sub_cons (by repeat first | exact List.Mem.head _ | apply List.Mem.tail) ?_))) rfl rfl rfl (by kernel_rfl) ?_
    refine ga_free 7 rfl (s_move rfl) rfl rfl rfl (by kernel_rfl) ?_
    refine ga_free 8 rfl (by first | exact s_fieldAddr rfl (by rfl) (by infer_instance) (by decide) | exact s_fieldAddr_o rfl (by assumption) (by rfl) (by infer_instance) (by decide)) rfl rfl rfl (by kernel_rfl) ?_
    refine ga_read_k 9 rfl (by first | exact .head _ | exact .tail _ (.head _) | exact .tail _ (.tail _ (.head _)) | exact .tail _ (.tail _ (.tail _ (.head _)))) (s_load_blk rfl .del (by rfl)) (by (first | exact fun _ h => h | (repeat first | exact sub_nil | refine sub_cons (by repeat first | exact List.Mem.head _ | apply List.Mem.tail) ?_))) rfl rfl rfl (by kernel_rfl) ?_
    refine ga_free 10 rfl (s_sub_u64 rfl rfl (by omega)) rfl rfl rfl (by kernel_rfl) ?_
    refine ga_free 11 rfl ((s_slice_sl rfl rfl rfl (by omega)).eq (v' := .slice (cutA la lc k 3) (g.l.drop k).length (lc - k)) (by rw [hlen, hk]; rfl)) rfl rfl rfl (by kernel_rfl) ?_
    refine ga_one 4 rfl (by kernel_rfl) ?_
    refine gl_call _ rfl (ConfAt_ct ⟨g.base, g.bt, g.conf, g.l, ca, cc, la, lc⟩ i hf1 hd1 hi) (fun w hw => hw) (fun h hh ⟨bs, hb⟩ => ⟨Sat.rd (a := ca) hb (by repeat first|exact .del|apply Upd.there), Sat.rd (a := la) hb (by repeat first|exact .del|apply Upd.there)⟩) rfl ?_; rw [hc1]; rintro v A ⟨ra, rc, rfl, rfl⟩
    refine gl_nil ?_
    refine at_ga (.inr (by exact keeps_of (by (first | exact fun _ h => h | (repeat first | exact sub_nil | refine sub_cons (by repeat first | exact List.Mem.head _ | apply List.Mem.tail) ?_))))) ?_
    refine ga_free 12 rfl (s_build rfl (v := .agg #[.int .u64 i, .int .u64 (termV g i), .slice ra (confAt g i).1.length rc, .slice (cutA la lc k 3) (g.l.drop k).length (lc - k)]) (run_build_struct (places := [(0, 1), (1, 1), (2, 1), (3, 1)]) rfl (by intro f hf; simp at hf; rcases hf with rfl | rfl | rfl | rfl <;> rfl) rfl)) rfl rfl rfl (by kernel_rfl) ?_
    refine ga_one 13 rfl (by kernel_rfl) ?_
    (first | refine gl_store_blkW rfl rfl (by repeat first|exact .here|apply Upd.there) (by rfl) (by rfl) (by (intro q hq; simp [Value.cells] at hq; first | (subst hq; rfl) | (rcases hq with rfl | rfl | rfl | rfl | rfl | rfl | rfl | rfl <;> rfl) | (rcases hq with rfl | rfl | rfl | rfl | rfl | rfl | rfl <;> rfl) | (rcases hq with rfl | rfl | rfl | rfl | rfl | rfl <;> rfl) | (rcases hq with rfl | rfl | rfl | rfl | rfl <;> rfl) | (rcases hq with rfl | rfl | rfl | rfl <;> rfl) | (rcases hq with rfl | rfl | rfl <;> rfl) | (rcases hq with rfl | rfl <;> rfl))) ?_ | refine gl_store_blk rfl rfl (by repeat first|exact .here|apply Upd.there) (by rfl) (by (intro q hq; simp [Value.cells] at hq; first | (subst hq; rfl) | (rcases hq with rfl | rfl | rfl | rfl | rfl | rfl | rfl | rfl <;> rfl) | (rcases hq with rfl | rfl | rfl | rfl | rfl | rfl | rfl <;> rfl) | (rcases hq with rfl | rfl | rfl | rfl | rfl | rfl <;> rfl) | (rcases hq with rfl | rfl | rfl | rfl | rfl <;> rfl) | (rcases hq with rfl | rfl | rfl | rfl <;> rfl) | (rcases hq with rfl | rfl | rfl <;> rfl) | (rcases hq with rfl | rfl <;> rfl))) (by rfl) ?_)
    refine gl_nil ?_
    refine at_ga (.inl (by kernel_rfl)) ?_
    refine ga_free 14 rfl (s_assign rfl) rfl rfl rfl (by kernel_rfl) ?_
    refine ga_done (by kernel_rfl) ?_
    repeat (first | refine g_seq ?_ | refine at_code ?_ | refine g_skip ?_ | refine g_block ?_ | refine g_exit rfl ?_ | refine g_cond_t rfl ?_ | refine g_cond_f rfl ?_)
    refine g_ret ?_
    · exact at_endB1 rfl rfl rfl (by repeat first|exact .del|apply Upd.there) rfl _ (.inr ⟨hq.symm, ra, rc, cutA la lc k 3, lc - k, by rw [← hk], by rw [← hk]⟩) (fun w hw => by
        have h5 := (hw.front (x := OwnL la g.l lc) (by repeat first|exact .del|apply Upd.there)).dropOwn (lo := k) .here (by omega)
        rw [← enV_drop, ← hlen] at h5
        exact Hp.left (R := [_, _, _]) h5)
end Go.Proofs.Ytodcghipfolejaa
