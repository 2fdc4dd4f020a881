/- The program's disk: who turns it. -/
import Derived.Test.YtolgclfbllcjhaaLD5
namespace Go.Proofs.Ytolgclfbllcjhaa
open Go Go.Sl
set_option linter.unusedVariables false
set_option linter.unusedSimpArgs false

def DoP (m : Nat) (l : List Fl) (v : Value) (A : List As) : Prop := v = .tuple #[] ∧ ∃ es' cs', A = [.blk m (.map es' cs')] ∧ MapOk .string es' cs' (fsV l)
theorem DoAdd_ct (m : Nat) (es : Array MapEntry) (cs : Nat) (l : List Fl) (p : PC) (k : Nat) (hm : MapOk .string es cs (fsV l)) (hs : Srt l) (hk : p.c.kind = 1) (hk0 : k ≠ 0) (hks : k ≤ p.c.s.length) (hsz : ((getL l p.c.name).getD []).length + p.c.s.length ≤ 9223372036854775807) :
    Ct Try.prog 58 [.map (some m), .int .i64 (k : Nat), Ptr p.bn, Ptr p.bs] (fun h => PcOk h p) [.blk m (.map es cs)] (DoP m (doneL l p.c k)) := by
  have e : doneL l p.c k = withL l p.c.name ((getL l p.c.name).getD [] ++ p.c.s.take k) := by simp [doneL, hk0, hk]
  rw [e]
  refine ct_enter 13 Try.func58 rfl rfl rfl ?_
  intro F hp
  have hn := hp.n
  have hs' := hp.s (.inl hk)
  have hg := fs_get hs p.c.name
  obtain ⟨o, ho⟩ : ∃ o, o = (getL l p.c.name).map B := ⟨_, rfl⟩
  rw [← ho] at hg
  have eo : o.getD (B []) = B ((getL l p.c.name).getD []) := by rw [ho]; cases getL l p.c.name <;> rfl
  repeat (first | refine g_seq ?_ | refine at_code ?_ | refine g_skip ?_ | refine g_block ?_ | refine g_exit rfl ?_ | refine g_cond_t rfl ?_ | refine g_cond_f rfl ?_)
  refine g_draw0 [1, 2, 3] 8 rfl ?_
  refine ga_free 0 rfl (s_move rfl) rfl rfl rfl (by kernel_rfl) ?_
  (first | refine ga_read 1 rfl (by repeat first|exact .del|apply Upd.there) (s_load_blk rfl .del (by rfl)) rfl rfl rfl (by kernel_rfl) ?_ | refine ga_readF 1 rfl (s_load1 rfl (fun w hw => peekB hw (by assumption) (by rfl))) (by (first | exact fun _ h => h | (repeat first | exact sub_nil | refine sub_cons (by repeat first | exact List.Mem.head _ | apply List.Mem.tail) ?_))) rfl rfl rfl (by kernel_rfl) ?_)
  refine ga_read 2 rfl (by repeat first|exact .del|apply Upd.there) ((s_look (key := B p.c.name) (o := o) (zv := B []) (c := false) rfl rfl .del hm trivial hg).eq eo) rfl rfl rfl (by kernel_rfl) ?_
  (first | refine ga_read 3 rfl (by repeat first|exact .del|apply Upd.there) (s_load_blk rfl .del (by rfl)) rfl rfl rfl (by kernel_rfl) ?_ | refine ga_readF 3 rfl (s_load1 rfl (fun w hw => peekB hw (by assumption) (by rfl))) (by (first | exact fun _ h => h | (repeat first | exact sub_nil | refine sub_cons (by repeat first | exact List.Mem.head _ | apply List.Mem.tail) ?_))) rfl rfl rfl (by kernel_rfl) ?_)
  refine ga_free 4 rfl (s_move rfl) rfl rfl rfl (by kernel_rfl) ?_
  refine ga_free 5 rfl ((s_slice_str rfl rfl rfl (by omega)).eq (v' := B (p.c.s.take k)) (by simp)) rfl rfl rfl (by kernel_rfl) ?_
  refine ga_free 6 rfl (s_add_str rfl rfl (by rw [List.length_take]; omega)) rfl rfl rfl (by kernel_rfl) ?_
  refine ga_one 7 rfl (by kernel_rfl) ?_
  refine gl_mapUpd rfl rfl rfl hm trivial (fun es' cs' => .here) ?_; intro es' cs' hall
  refine gl_nil ?_
  refine at_ga (.inl (by kernel_rfl)) ?_
  refine ga_done (by kernel_rfl) ?_
  repeat (first | refine g_seq ?_ | refine at_code ?_ | refine g_skip ?_ | refine g_block ?_ | refine g_exit rfl ?_ | refine g_cond_t rfl ?_ | refine g_cond_f rfl ?_)
  exact at_end0 rfl [_] ⟨rfl, es', cs', rfl, hall _ (fs_put hs _ _)⟩ (fun _ h => h)
theorem DoPut_ct (m : Nat) (es : Array MapEntry) (cs : Nat) (l : List Fl) (p : PC) (k : Nat) (hm : MapOk .string es cs (fsV l)) (hs : Srt l) (hk : p.c.kind = 2) (hk0 : k ≠ 0) :
    Ct Try.prog 56 [.map (some m), .int .i64 (k : Nat), Ptr p.bs, Ptr p.bn] (fun h => PcOk h p) [.blk m (.map es cs)] (DoP m (doneL l p.c k)) := by
  have e : doneL l p.c k = withL l p.c.name p.c.s := by simp [doneL, hk0, hk]
  rw [e]
  refine ct_enter 9 Try.func56 rfl rfl rfl ?_
  intro F hp
  have hn := hp.n
  have hs' := hp.s (.inr hk)
  repeat (first | refine g_seq ?_ | refine at_code ?_ | refine g_skip ?_ | refine g_block ?_ | refine g_exit rfl ?_ | refine g_cond_t rfl ?_ | refine g_cond_f rfl ?_)
  refine g_region ?_
  refine gl_f (s_move rfl) rfl rfl rfl ?_
  refine gl_r (by first | exact s_load_blk rfl (by repeat first|exact .del|apply Upd.there) (by rfl) | exact s_load1 rfl (fun w hw => peekB hw (by assumption) (by rfl))) rfl rfl rfl ?_
  refine gl_r (by first | exact s_load_blk rfl (by repeat first|exact .del|apply Upd.there) (by rfl) | exact s_load1 rfl (fun w hw => peekB hw (by assumption) (by rfl))) rfl rfl rfl ?_
  refine gl_mapUpd rfl rfl rfl hm trivial (fun es' cs' => .here) ?_; intro es' cs' hall
  refine gl_nil ?_
  repeat (first | refine g_seq ?_ | refine at_code ?_ | refine g_skip ?_ | refine g_block ?_ | refine g_exit rfl ?_ | refine g_cond_t rfl ?_ | refine g_cond_f rfl ?_)
  exact at_end0 rfl [_] ⟨rfl, es', cs', rfl, hall _ (fs_put hs _ _)⟩ (fun _ h => h)
theorem DoDrop_ct (m : Nat) (es : Array MapEntry) (cs : Nat) (l : List Fl) (p : PC) (k : Nat) (hm : MapOk .string es cs (fsV l)) (hs : Srt l) (hk : p.c.kind = 3) (hk0 : k ≠ 0) :
    Ct Try.prog 55 [.map (some m), .int .i64 (k : Nat), Ptr p.bn] (fun h => PcOk h p) [.blk m (.map es cs)] (DoP m (doneL l p.c k)) := by
  have e : doneL l p.c k = withoutL l p.c.name := by simp [doneL, hk0, hk]
  rw [e]
  refine ct_enter 7 Try.func55 rfl rfl rfl ?_
  intro F hp
  have hn := hp.n
  repeat (first | refine g_seq ?_ | refine at_code ?_ | refine g_skip ?_ | refine g_block ?_ | refine g_exit rfl ?_ | refine g_cond_t rfl ?_ | refine g_cond_f rfl ?_)
  refine g_region ?_
  refine gl_f (s_move rfl) rfl rfl rfl ?_
  refine gl_r (by first | exact s_load_blk rfl (by repeat first|exact .del|apply Upd.there) (by rfl) | exact s_load1 rfl (fun w hw => peekB hw (by assumption) (by rfl))) rfl rfl rfl ?_
  refine gl_delete0 rfl rfl hm trivial (fun es' => .here) ?_; intro es' hall
  refine gl_nil ?_
  repeat (first | refine g_seq ?_ | refine at_code ?_ | refine g_skip ?_ | refine g_block ?_ | refine g_exit rfl ?_ | refine g_cond_t rfl ?_ | refine g_cond_f rfl ?_)
  exact at_end0 rfl [_] ⟨rfl, es', cs, rfl, hall _ (fs_del hs _)⟩ (fun _ h => h)
theorem spendD_dsk (x : DM) (a : DA) : dskO (spendD x) a = .cells #[.int .i64 x.cap, .map (some a.ms), .map (some a.ml), .slice a.pa a.pl.length a.pc, .bool x.fused, .int .i64 (if x.fused = true then x.left - 1 else x.left)] 84 := by
  unfold spendD; split <;> rename_i h <;> simp [h]
theorem Spend_ct (x : DM) (a : DA) (hl : x.fused = true → -9223372036854775808 < x.left ∧ x.left ≤ 9223372036854775807) : Ct Try.prog 53 [Ptr a.D] (fun _ => True) [.blk a.D (dskO x a)] (fun v A => v = .tuple #[] ∧ A = [.blk a.D (dskO (spendD x) a)]) := by
  refine ct_enter 13 Try.func53 rfl rfl rfl ?_
  intro F _
  rw [spendD_dsk]
  obtain ⟨q1, hq1⟩ : ∃ q, q = x.fused := ⟨_, rfl⟩
  rw [dskO, ← hq1]
  cases q1
  · repeat (first | refine g_seq ?_ | refine at_code ?_ | refine g_skip ?_ | refine g_block ?_ | refine g_exit rfl ?_ | refine g_cond_t rfl ?_ | refine g_cond_f rfl ?_)
    refine g_region ?_
    refine gl_f (s_move rfl) rfl rfl rfl ?_
    refine gl_f (s_nilCheck rfl) rfl rfl rfl ?_
    refine gl_f (by first | exact s_fieldAddr rfl (by rfl) (by infer_instance) (by decide) | exact s_fieldAddr_o rfl (by assumption) (by rfl) (by infer_instance) (by decide)) rfl rfl rfl ?_
    refine gl_r (by first | exact s_load_blk rfl (by repeat first|exact .del|apply Upd.there) (by rfl) | exact s_load1 rfl (fun w hw => peekB hw (by assumption) (by rfl))) rfl rfl rfl ?_
    refine gl_nil ?_
    repeat (first | refine g_seq ?_ | refine at_code ?_ | refine g_skip ?_ | refine g_block ?_ | refine g_exit rfl ?_ | refine g_cond_t rfl ?_ | refine g_cond_f rfl ?_)
    exact at_end0 rfl [_] ⟨rfl, rfl⟩ (fun _ h => h)
  · have hl := hl hq1.symm
    repeat (first | refine g_seq ?_ | refine at_code ?_ | refine g_skip ?_ | refine g_block ?_ | refine g_exit rfl ?_ | refine g_cond_t rfl ?_ | refine g_cond_f rfl ?_)
    refine g_region ?_
    refine gl_f (s_move rfl) rfl rfl rfl ?_
    refine gl_f (s_nilCheck rfl) rfl rfl rfl ?_
    refine gl_f (by first | exact s_fieldAddr rfl (by rfl) (by infer_instance) (by decide) | exact s_fieldAddr_o rfl (by assumption) (by rfl) (by infer_instance) (by decide)) rfl rfl rfl ?_
    refine gl_r (by first | exact s_load_blk rfl (by repeat first|exact .del|apply Upd.there) (by rfl) | exact s_load1 rfl (fun w hw => peekB hw (by assumption) (by rfl))) rfl rfl rfl ?_
    refine gl_nil ?_
    repeat (first | refine g_seq ?_ | refine at_code ?_ | refine g_skip ?_ | refine g_block ?_ | refine g_exit rfl ?_ | refine g_cond_t rfl ?_ | refine g_cond_f rfl ?_)
    refine g_region ?_
    refine gl_f (s_move rfl) rfl rfl rfl ?_
    refine gl_f (s_nilCheck rfl) rfl rfl rfl ?_
    refine gl_f (by first | exact s_fieldAddr rfl (by rfl) (by infer_instance) (by decide) | exact s_fieldAddr_o rfl (by assumption) (by rfl) (by infer_instance) (by decide)) rfl rfl rfl ?_
    refine gl_r (by first | exact s_load_blk rfl (by repeat first|exact .del|apply Upd.there) (by rfl) | exact s_load1 rfl (fun w hw => peekB hw (by assumption) (by rfl))) rfl rfl rfl ?_
    refine gl_f (s_sub_i64 rfl rfl (by omega)) rfl rfl rfl ?_
    refine gl_f (s_nilCheck rfl) rfl rfl rfl ?_
    refine gl_f (by first | exact s_fieldAddr rfl (by rfl) (by infer_instance) (by decide) | exact s_fieldAddr_o rfl (by assumption) (by rfl) (by infer_instance) (by decide)) rfl rfl rfl ?_
    (first | refine gl_store_blkC (pre := [_, _, _, _, _]) (post := []) rfl rfl (by repeat first|exact .here|apply Upd.there) (by rfl) (by rfl) (by rfl) ?_ | refine gl_store_blk rfl rfl (by repeat first|exact .here|apply Upd.there) (by rfl) (by (intro q hq; simp [Value.cells] at hq; first | (subst hq; rfl) | (rcases hq with rfl | rfl | rfl | rfl | rfl | rfl | rfl | rfl <;> rfl) | (rcases hq with rfl | rfl | rfl | rfl | rfl | rfl | rfl <;> rfl) | (rcases hq with rfl | rfl | rfl | rfl | rfl | rfl <;> rfl) | (rcases hq with rfl | rfl | rfl | rfl | rfl <;> rfl) | (rcases hq with rfl | rfl | rfl | rfl <;> rfl) | (rcases hq with rfl | rfl | rfl <;> rfl) | (rcases hq with rfl | rfl <;> rfl))) (by rfl) ?_)
    refine gl_nil ?_
    repeat (first | refine g_seq ?_ | refine at_code ?_ | refine g_skip ?_ | refine g_block ?_ | refine g_exit rfl ?_ | refine g_cond_t rfl ?_ | refine g_cond_f rfl ?_)
    exact at_end0 rfl [_] ⟨rfl, rfl⟩ (fun _ h => h)
theorem pcV_append (a b : List PC) : pcV (a ++ b) = pcV a ++ pcV b := List.flatMap_append
theorem pcV_one (l : List PC) : ∀ q ∈ pcV l, q.oneCell' = true := rec_one (C := pcC) pcC_one l
theorem spend_seen (x : DM) : (spendD x).seen = x.seen ∧ (spendD x).lasts = x.lasts ∧ (spendD x).pend = x.pend ∧ (spendD x).cap = x.cap := by unfold spendD; split <;> exact ⟨rfl, rfl, rfl, rfl⟩
theorem DOk.spend {x : DM} {a : DA} (h : DOk x a) : DOk (spendD x) a := by
  obtain ⟨e1, e2, e3, _⟩ := spend_seen x
  exact ⟨by rw [e1]; exact h.seen, by rw [e2]; exact h.lasts, by rw [e3]; exact h.pl⟩
def TurnP (x : DM) (a : DA) (p : PC) (v : Value) (A : List As) : Prop := v = .int .i64 0 ∧ ∃ a' : DA, a'.D = a.D ∧ a'.pl = a.pl ++ [p] ∧ A = dskH (turnX x p.c) a' ∧ DOk (turnX x p.c) a'
set_option maxRecDepth 8000 in
set_option maxHeartbeats 2000000 in
theorem turnAdd_ct (x : DM) (a : DA) (p : PC) (hI : Inv x) (hok : DOk x a) (hk : p.c.kind = 1) (hst : stepsC p.c ≠ 0) (ho : offD x = false) (hpl : a.pl.length ≤ 1000000) (hsz : ((getL x.seen p.c.name).getD []).length + p.c.s.length ≤ 9223372036854775807) :
    Ct Try.prog 54 [Ptr a.D, .agg #[.int .i64 (stepsC p.c : Nat), .func (.func 58) #[] #[Ptr p.bn, Ptr p.bs]]] (fun h => PcOk h p) (dskH x a) (TurnP x a p) := by
  have hfl := off_left ho
  have hleft := hI.left
  have hsc : p.c.kind = 1 → stepsC p.c = p.c.s.length := fun h => by simp [stepsC, h]
  have hfn : fnV p = .func (.func 58) #[] #[Ptr p.bn, Ptr p.bs] := by simp [fnV, hk]
  have hxs : [.int .i64 (stepsC p.c : Nat), .func (.func 58) #[] #[Ptr p.bn, Ptr p.bs]] = pcV [p] := by
    show _ = pcC p ++ []
    rw [pcC, hfn]; rfl
  refine ct_enter 26 Try.func54 rfl rfl rfl ?_
  intro F hp
  repeat (first | refine g_seq ?_ | refine at_code ?_ | refine g_skip ?_ | refine g_block ?_ | refine g_exit rfl ?_ | refine g_cond_t rfl ?_ | refine g_cond_f rfl ?_)
  refine g_region ?_
  refine gl_boxA rfl rfl ?_; intro g3
  refine gl_f (s_assign rfl) rfl rfl rfl ?_
  refine gl_nil ?_
  repeat (first | refine g_seq ?_ | refine at_code ?_ | refine g_skip ?_ | refine g_block ?_ | refine g_exit rfl ?_ | refine g_cond_t rfl ?_ | refine g_cond_f rfl ?_)
  refine g_draw [1, 5, 7] [.blk g3 (.cells #[.int .i64 (stepsC p.c : Nat), .func (.func 58) #[] #[Ptr p.bn, Ptr p.bs]] 89), .blk a.D (dskO x a)] 9 rfl ?_
  refine ga_free 0 rfl (by first | exact s_fieldAddr rfl (by rfl) (by infer_instance) (by decide) | exact s_fieldAddr_o rfl (by assumption) (by rfl) (by infer_instance) (by decide)) rfl rfl rfl (by kernel_rfl) ?_
  (first | refine ga_read_k 1 rfl (by first | exact .head _ | exact .tail _ (.head _) | exact .tail _ (.tail _ (.head _)) | exact .tail _ (.tail _ (.tail _ (.head _)))) (s_load_blk rfl .del (by rfl)) (by (first | exact fun _ h => h | (repeat first | exact sub_nil | refine sub_cons (by repeat first | exact List.Mem.head _ | apply List.Mem.tail) ?_))) rfl rfl rfl (by kernel_rfl) ?_ | refine ga_readF 1 rfl (s_load1 rfl (fun w hw => peekB hw (by assumption) (by rfl))) (by (first | exact fun _ h => h | (repeat first | exact sub_nil | refine sub_cons (by repeat first | exact List.Mem.head _ | apply List.Mem.tail) ?_))) rfl rfl rfl (by kernel_rfl) ?_)
  refine ga_free 2 rfl (s_move rfl) rfl rfl rfl (by kernel_rfl) ?_
  refine ga_free 3 rfl (s_nilCheck rfl) rfl rfl rfl (by kernel_rfl) ?_
  refine ga_free 4 rfl (by first | exact s_fieldAddr rfl (by rfl) (by infer_instance) (by decide) | exact s_fieldAddr_o rfl (by assumption) (by rfl) (by infer_instance) (by decide)) rfl rfl rfl (by kernel_rfl) ?_
  (first | refine ga_read_k 5 rfl (by first | exact .head _ | exact .tail _ (.head _) | exact .tail _ (.tail _ (.head _)) | exact .tail _ (.tail _ (.tail _ (.head _)))) (s_load_blk rfl .del (by rfl)) (by (first | exact fun _ h => h | (repeat first | exact sub_nil | refine sub_cons (by repeat first | exact List.Mem.head _ | apply List.Mem.tail) ?_))) rfl rfl rfl (by kernel_rfl) ?_ | refine ga_readF 5 rfl (s_load1 rfl (fun w hw => peekB hw (by assumption) (by rfl))) (by (first | exact fun _ h => h | (repeat first | exact sub_nil | refine sub_cons (by repeat first | exact List.Mem.head _ | apply List.Mem.tail) ?_))) rfl rfl rfl (by kernel_rfl) ?_)
  refine ga_free 6 rfl (by first | exact s_fieldAddr rfl (by rfl) (by infer_instance) (by decide) | exact s_fieldAddr_o rfl (by assumption) (by rfl) (by infer_instance) (by decide)) rfl rfl rfl (by kernel_rfl) ?_
  (first | refine ga_read_k 7 rfl (by first | exact .head _ | exact .tail _ (.head _) | exact .tail _ (.tail _ (.head _)) | exact .tail _ (.tail _ (.tail _ (.head _)))) (s_load_blk rfl .del (by rfl)) (by (first | exact fun _ h => h | (repeat first | exact sub_nil | refine sub_cons (by repeat first | exact List.Mem.head _ | apply List.Mem.tail) ?_))) rfl rfl rfl (by kernel_rfl) ?_ | refine ga_readF 7 rfl (s_load1 rfl (fun w hw => peekB hw (by assumption) (by rfl))) (by (first | exact fun _ h => h | (repeat first | exact sub_nil | refine sub_cons (by repeat first | exact List.Mem.head _ | apply List.Mem.tail) ?_))) rfl rfl rfl (by kernel_rfl) ?_)
  refine ga_one 8 rfl (by kernel_rfl) ?_
  refine gl_callv _ rfl rfl (ps := []) (qs := [Ptr p.bn, Ptr p.bs]) rfl (DoAdd_ct a.ms a.es a.cs x.seen p (stepsC p.c) hok.seen hI.seen hk hst (by rw [hsc hk]; exact Nat.le_refl _) hsz) (fun w hw => hw.perm (perm_up (by repeat first|exact .del|apply Upd.there) (.refl _))) (fun h hh _ => hp.le hh) rfl ?_; rintro v A ⟨rfl, es', cs', rfl, hm'⟩
  refine gl_nil ?_
  refine at_ga (.inl (by kernel_rfl)) ?_
  refine ga_done (by kernel_rfl) ?_
  repeat (first | refine g_seq ?_ | refine at_code ?_ | refine g_skip ?_ | refine g_block ?_ | refine g_exit rfl ?_ | refine g_cond_t rfl ?_ | refine g_cond_f rfl ?_)
  repeat (first | refine g_seq ?_ | refine at_code ?_ | refine g_skip ?_ | refine g_block ?_ | refine g_exit rfl ?_ | refine g_cond_t rfl ?_ | refine g_cond_f rfl ?_)
  refine g_draw [4, 5] [.blk g3 (.cells #[.int .i64 (stepsC p.c : Nat), .func (.func 58) #[] #[Ptr p.bn, Ptr p.bs]] 89), .blk a.D (dskO x a)] 11 rfl ?_
  refine ga_free 0 rfl (s_move rfl) rfl rfl rfl (by kernel_rfl) ?_
  refine ga_free 1 rfl (s_move rfl) rfl rfl rfl (by kernel_rfl) ?_
  refine ga_free 2 rfl (s_nilCheck rfl) rfl rfl rfl (by kernel_rfl) ?_
  refine ga_free 3 rfl (by first | exact s_fieldAddr rfl (by rfl) (by infer_instance) (by decide) | exact s_fieldAddr_o rfl (by assumption) (by rfl) (by infer_instance) (by decide)) rfl rfl rfl (by kernel_rfl) ?_
  (first | refine ga_read_k 4 rfl (by first | exact .head _ | exact .tail _ (.head _) | exact .tail _ (.tail _ (.head _)) | exact .tail _ (.tail _ (.tail _ (.head _)))) (s_load_blk rfl .del (by rfl)) (by (first | exact fun _ h => h | (repeat first | exact sub_nil | refine sub_cons (by repeat first | exact List.Mem.head _ | apply List.Mem.tail) ?_))) rfl rfl rfl (by kernel_rfl) ?_ | refine ga_readF 4 rfl (s_load1 rfl (fun w hw => peekB hw (by assumption) (by rfl))) (by (first | exact fun _ h => h | (repeat first | exact sub_nil | refine sub_cons (by repeat first | exact List.Mem.head _ | apply List.Mem.tail) ?_))) rfl rfl rfl (by kernel_rfl) ?_)
  (first | refine ga_read_k 5 rfl (by first | exact .head _ | exact .tail _ (.head _) | exact .tail _ (.tail _ (.head _)) | exact .tail _ (.tail _ (.tail _ (.head _)))) (s_load_blkW rfl .del (by rfl)) (by (first | exact fun _ h => h | (repeat first | exact sub_nil | refine sub_cons (by repeat first | exact List.Mem.head _ | apply List.Mem.tail) ?_))) rfl rfl rfl (by kernel_rfl) ?_ | refine ga_read_k 5 rfl (by first | exact .head _ | exact .tail _ (.head _) | exact .tail _ (.tail _ (.head _)) | exact .tail _ (.tail _ (.tail _ (.head _)))) (s_load_blkN rfl .del (by rfl)) (by (first | exact fun _ h => h | (repeat first | exact sub_nil | refine sub_cons (by repeat first | exact List.Mem.head _ | apply List.Mem.tail) ?_))) rfl rfl rfl (by kernel_rfl) ?_ | refine ga_readF 5 rfl (s_loadN rfl (fun w hw => peekBN hw (by assumption)) (by rfl)) (by (first | exact fun _ h => h | (repeat first | exact sub_nil | refine sub_cons (by repeat first | exact List.Mem.head _ | apply List.Mem.tail) ?_))) rfl rfl rfl (by kernel_rfl) ?_)
  refine ga_one 6 rfl (by kernel_rfl) ?_
  refine gl_buildSliceU rfl rfl rfl rfl rfl rfl (xs := pcV [p]) (by rw [← hxs]; rfl) rfl ?_; intro a6 ha6
  refine gl_nil ?_
  refine at_ga (.inr (by exact keeps_of (by (first | exact fun _ h => h | (repeat first | exact sub_nil | refine sub_cons (by repeat first | exact List.Mem.head _ | apply List.Mem.tail) ?_))))) ?_
  refine ga_one 7 rfl (by kernel_rfl) ?_
  refine gl_append rfl rfl (fun a' c' => by first | exact .there .here | exact .there (.there .here) | exact .there (.there (.there .here)) | exact .there (.there (.there (.there .here))) | exact .there (.there (.there (.there (.there .here))))) (fun w hw => (hw.ownN (by repeat first|exact .del|apply Upd.there)).2.2.1) rfl rfl rfl (pcV_one _) (by show (_ + 1) * 16 ≤ _; omega) (by omega) rfl ?_; intro a7 c7 hc7
  refine gl_nil ?_
  refine at_ga (.inr (by exact keeps_of (by (first | exact fun _ h => h | (repeat first | exact sub_nil | refine sub_cons (by repeat first | exact List.Mem.head _ | apply List.Mem.tail) ?_))))) ?_
  refine ga_free 8 rfl (s_nilCheck rfl) rfl rfl rfl (by kernel_rfl) ?_
  refine ga_free 9 rfl (by first | exact s_fieldAddr rfl (by rfl) (by infer_instance) (by decide) | exact s_fieldAddr_o rfl (by assumption) (by rfl) (by infer_instance) (by decide)) rfl rfl rfl (by kernel_rfl) ?_
  refine ga_one 10 rfl (by kernel_rfl) ?_
  (first | refine gl_store_blkC (pre := [_, _, _]) (post := [_, _]) rfl rfl (by repeat first|exact .here|apply Upd.there) (by rfl) (by rfl) (by rfl) ?_ | refine gl_store_blk rfl rfl (by repeat first|exact .here|apply Upd.there) (by rfl) (by (intro q hq; simp [Value.cells] at hq; first | (subst hq; rfl) | (rcases hq with rfl | rfl | rfl | rfl | rfl | rfl | rfl | rfl <;> rfl) | (rcases hq with rfl | rfl | rfl | rfl | rfl | rfl | rfl <;> rfl) | (rcases hq with rfl | rfl | rfl | rfl | rfl | rfl <;> rfl) | (rcases hq with rfl | rfl | rfl | rfl | rfl <;> rfl) | (rcases hq with rfl | rfl | rfl | rfl <;> rfl) | (rcases hq with rfl | rfl | rfl <;> rfl) | (rcases hq with rfl | rfl <;> rfl))) (by rfl) ?_)
  refine gl_nil ?_
  refine at_ga (.inl (by kernel_rfl)) ?_
  refine ga_done (by kernel_rfl) ?_
  repeat (first | refine g_seq ?_ | refine at_code ?_ | refine g_skip ?_ | refine g_block ?_ | refine g_exit rfl ?_ | refine g_cond_t rfl ?_ | refine g_cond_f rfl ?_)
  have elen : (a.pl ++ [p]).length = a.pl.length + 1 := by simp
  rw [← elen, ← pcV_append]
  repeat (first | refine g_seq ?_ | refine at_code ?_ | refine g_skip ?_ | refine g_block ?_ | refine g_exit rfl ?_ | refine g_cond_t rfl ?_ | refine g_cond_f rfl ?_)
  refine g_region ?_
  refine gl_f (s_move rfl) rfl rfl rfl ?_
  refine gl_call _ rfl (Spend_ct { x with seen := doneL x.seen p.c (stepsC p.c), pend := x.pend ++ [p.c] } ⟨a.D, a.ms, a.ml, es', cs', a.el, a.cl, a.pl ++ [p], a7, c7⟩ (fun h => by have := hfl h; simp only; omega)) (fun w hw => hw.perm (perm_up (by repeat first|exact .del|apply Upd.there) (.refl _))) (fun _ _ _ => trivial) rfl ?_; rintro v A ⟨rfl, rfl⟩
  refine gl_nil ?_
  repeat (first | refine g_seq ?_ | refine at_code ?_ | refine g_skip ?_ | refine g_block ?_ | refine g_exit rfl ?_ | refine g_cond_t rfl ?_ | refine g_cond_f rfl ?_)
  repeat (first | refine g_seq ?_ | refine at_code ?_ | refine g_skip ?_ | refine g_block ?_ | refine g_exit rfl ?_ | refine g_cond_t rfl ?_ | refine g_cond_f rfl ?_)
  refine g_region ?_
  refine gl_f (s_assign rfl) rfl rfl rfl ?_
  refine gl_nil ?_
  repeat (first | refine g_seq ?_ | refine at_code ?_ | refine g_skip ?_ | refine g_block ?_ | refine g_exit rfl ?_ | refine g_cond_t rfl ?_ | refine g_cond_f rfl ?_)
  refine g_ret ?_
  refine at_end1 rfl rfl (dskH (turnX x p.c) ⟨a.D, a.ms, a.ml, es', cs', a.el, a.cl, a.pl ++ [p], a7, c7⟩) ⟨rfl, ⟨a.D, a.ms, a.ml, es', cs', a.el, a.cl, a.pl ++ [p], a7, c7⟩, rfl, rfl, rfl, DOk.spend ⟨hm', hok.lasts, by simp only; rw [hok.pl]; simp⟩⟩ ?_
  intro w hw
  exact Hp.left (hw.perm (perm_up (by repeat first|exact .del|apply Upd.there) (perm_up (by repeat first|exact .del|apply Upd.there) (perm_up (by repeat first|exact .del|apply Upd.there) (perm_up (by repeat first|exact .del|apply Upd.there) (.refl _))))))
set_option maxRecDepth 8000 in
set_option maxHeartbeats 2000000 in
theorem turnPut_ct (x : DM) (a : DA) (p : PC) (hI : Inv x) (hok : DOk x a) (hk : p.c.kind = 2) (hst : stepsC p.c ≠ 0) (ho : offD x = false) (hpl : a.pl.length ≤ 1000000) (hsz : ((getL x.seen p.c.name).getD []).length + p.c.s.length ≤ 9223372036854775807) :
    Ct Try.prog 54 [Ptr a.D, .agg #[.int .i64 (stepsC p.c : Nat), .func (.func 56) #[] #[Ptr p.bs, Ptr p.bn]]] (fun h => PcOk h p) (dskH x a) (TurnP x a p) := by
  have hfl := off_left ho
  have hleft := hI.left
  have hsc : p.c.kind = 1 → stepsC p.c = p.c.s.length := fun h => by simp [stepsC, h]
  have hfn : fnV p = .func (.func 56) #[] #[Ptr p.bs, Ptr p.bn] := by simp [fnV, hk]
  have hxs : [.int .i64 (stepsC p.c : Nat), .func (.func 56) #[] #[Ptr p.bs, Ptr p.bn]] = pcV [p] := by
    show _ = pcC p ++ []
    rw [pcC, hfn]; rfl
  refine ct_enter 26 Try.func54 rfl rfl rfl ?_
  intro F hp
  repeat (first | refine g_seq ?_ | refine at_code ?_ | refine g_skip ?_ | refine g_block ?_ | refine g_exit rfl ?_ | refine g_cond_t rfl ?_ | refine g_cond_f rfl ?_)
  refine g_region ?_
  refine gl_boxA rfl rfl ?_; intro g3
  refine gl_f (s_assign rfl) rfl rfl rfl ?_
  refine gl_nil ?_
  repeat (first | refine g_seq ?_ | refine at_code ?_ | refine g_skip ?_ | refine g_block ?_ | refine g_exit rfl ?_ | refine g_cond_t rfl ?_ | refine g_cond_f rfl ?_)
  refine g_draw [1, 5, 7] [.blk g3 (.cells #[.int .i64 (stepsC p.c : Nat), .func (.func 56) #[] #[Ptr p.bs, Ptr p.bn]] 89), .blk a.D (dskO x a)] 9 rfl ?_
  refine ga_free 0 rfl (by first | exact s_fieldAddr rfl (by rfl) (by infer_instance) (by decide) | exact s_fieldAddr_o rfl (by assumption) (by rfl) (by infer_instance) (by decide)) rfl rfl rfl (by kernel_rfl) ?_
  (first | refine ga_read_k 1 rfl (by first | exact .head _ | exact .tail _ (.head _) | exact .tail _ (.tail _ (.head _)) | exact .tail _ (.tail _ (.tail _ (.head _)))) (s_load_blk rfl .del (by rfl)) (by (first | exact fun _ h => h | (repeat first | exact sub_nil | refine sub_cons (by repeat first | exact List.Mem.head _ | apply List.Mem.tail) ?_))) rfl rfl rfl (by kernel_rfl) ?_ | refine ga_readF 1 rfl (s_load1 rfl (fun w hw => peekB hw (by assumption) (by rfl))) (by (first | exact fun _ h => h | (repeat first | exact sub_nil | refine sub_cons (by repeat first | exact List.Mem.head _ | apply List.Mem.tail) ?_))) rfl rfl rfl (by kernel_rfl) ?_)
  refine ga_free 2 rfl (s_move rfl) rfl rfl rfl (by kernel_rfl) ?_
  refine ga_free 3 rfl (s_nilCheck rfl) rfl rfl rfl (by kernel_rfl) ?_
  refine ga_free 4 rfl (by first | exact s_fieldAddr rfl (by rfl) (by infer_instance) (by decide) | exact s_fieldAddr_o rfl (by assumption) (by rfl) (by infer_instance) (by decide)) rfl rfl rfl (by kernel_rfl) ?_
  (first | refine ga_read_k 5 rfl (by first | exact .head _ | exact .tail _ (.head _) | exact .tail _ (.tail _ (.head _)) | exact .tail _ (.tail _ (.tail _ (.head _)))) (s_load_blk rfl .del (by rfl)) (by (first | exact fun _ h => h | (repeat first | exact sub_nil | refine sub_cons (by repeat first | exact List.Mem.head _ | apply List.Mem.tail) ?_))) rfl rfl rfl (by kernel_rfl) ?_ | refine ga_readF 5 rfl (s_load1 rfl (fun w hw => peekB hw (by assumption) (by rfl))) (by (first | exact fun _ h => h | (repeat first | exact sub_nil | refine sub_cons (by repeat first | exact List.Mem.head _ | apply List.Mem.tail) ?_))) rfl rfl rfl (by kernel_rfl) ?_)
  refine ga_free 6 rfl (by first | exact s_fieldAddr rfl (by rfl) (by infer_instance) (by decide) | exact s_fieldAddr_o rfl (by assumption) (by rfl) (by infer_instance) (by decide)) rfl rfl rfl (by kernel_rfl) ?_
  (first | refine ga_read_k 7 rfl (by first | exact .head _ | exact .tail _ (.head _) | exact .tail _ (.tail _ (.head _)) | exact .tail _ (.tail _ (.tail _ (.head _)))) (s_load_blk rfl .del (by rfl)) (by (first | exact fun _ h => h | (repeat first | exact sub_nil | refine sub_cons (by repeat first | exact List.Mem.head _ | apply List.Mem.tail) ?_))) rfl rfl rfl (by kernel_rfl) ?_ | refine ga_readF 7 rfl (s_load1 rfl (fun w hw => peekB hw (by assumption) (by rfl))) (by (first | exact fun _ h => h | (repeat first | exact sub_nil | refine sub_cons (by repeat first | exact List.Mem.head _ | apply List.Mem.tail) ?_))) rfl rfl rfl (by kernel_rfl) ?_)
  refine ga_one 8 rfl (by kernel_rfl) ?_
  refine gl_callv _ rfl rfl (ps := []) (qs := [Ptr p.bs, Ptr p.bn]) rfl (DoPut_ct a.ms a.es a.cs x.seen p (stepsC p.c) hok.seen hI.seen hk hst) (fun w hw => hw.perm (perm_up (by repeat first|exact .del|apply Upd.there) (.refl _))) (fun h hh _ => hp.le hh) rfl ?_; rintro v A ⟨rfl, es', cs', rfl, hm'⟩
  refine gl_nil ?_
  refine at_ga (.inl (by kernel_rfl)) ?_
  refine ga_done (by kernel_rfl) ?_
  repeat (first | refine g_seq ?_ | refine at_code ?_ | refine g_skip ?_ | refine g_block ?_ | refine g_exit rfl ?_ | refine g_cond_t rfl ?_ | refine g_cond_f rfl ?_)
  repeat (first | refine g_seq ?_ | refine at_code ?_ | refine g_skip ?_ | refine g_block ?_ | refine g_exit rfl ?_ | refine g_cond_t rfl ?_ | refine g_cond_f rfl ?_)
  refine g_draw [4, 5] [.blk g3 (.cells #[.int .i64 (stepsC p.c : Nat), .func (.func 56) #[] #[Ptr p.bs, Ptr p.bn]] 89), .blk a.D (dskO x a)] 11 rfl ?_
  refine ga_free 0 rfl (s_move rfl) rfl rfl rfl (by kernel_rfl) ?_
  refine ga_free 1 rfl (s_move rfl) rfl rfl rfl (by kernel_rfl) ?_
  refine ga_free 2 rfl (s_nilCheck rfl) rfl rfl rfl (by kernel_rfl) ?_
  refine ga_free 3 rfl (by first | exact s_fieldAddr rfl (by rfl) (by infer_instance) (by decide) | exact s_fieldAddr_o rfl (by assumption) (by rfl) (by infer_instance) (by decide)) rfl rfl rfl (by kernel_rfl) ?_
  (first | refine ga_read_k 4 rfl (by first | exact .head _ | exact .tail _ (.head _) | exact .tail _ (.tail _ (.head _)) | exact .tail _ (.tail _ (.tail _ (.head _)))) (s_load_blk rfl .del (by rfl)) (by (first | exact fun _ h => h | (repeat first | exact sub_nil | refine sub_cons (by repeat first | exact List.Mem.head _ | apply List.Mem.tail) ?_))) rfl rfl rfl (by kernel_rfl) ?_ | refine ga_readF 4 rfl (s_load1 rfl (fun w hw => peekB hw (by assumption) (by rfl))) (by (first | exact fun _ h => h | (repeat first | exact sub_nil | refine sub_cons (by repeat first | exact List.Mem.head _ | apply List.Mem.tail) ?_))) rfl rfl rfl (by kernel_rfl) ?_)
  (first | refine ga_read_k 5 rfl (by first | exact .head _ | exact .tail _ (.head _) | exact .tail _ (.tail _ (.head _)) | exact .tail _ (.tail _ (.tail _ (.head _)))) (s_load_blkW rfl .del (by rfl)) (by (first | exact fun _ h => h | (repeat first | exact sub_nil | refine sub_cons (by repeat first | exact List.Mem.head _ | apply List.Mem.tail) ?_))) rfl rfl rfl (by kernel_rfl) ?_ | refine ga_read_k 5 rfl (by first | exact .head _ | exact .tail _ (.head _) | exact .tail _ (.tail _ (.head _)) | exact .tail _ (.tail _ (.tail _ (.head _)))) (s_load_blkN rfl .del (by rfl)) (by (first | exact fun _ h => h | (repeat first | exact sub_nil | refine sub_cons (by repeat first | exact List.Mem.head _ | apply List.Mem.tail) ?_))) rfl rfl rfl (by kernel_rfl) ?_ | refine ga_readF 5 rfl (s_loadN rfl (fun w hw => peekBN hw (by assumption)) (by rfl)) (by (first | exact fun _ h => h | (repeat first | exact sub_nil | refine sub_cons (by repeat first | exact List.Mem.head _ | apply List.Mem.tail) ?_))) rfl rfl rfl (by kernel_rfl) ?_)
  refine ga_one 6 rfl (by kernel_rfl) ?_
  refine gl_buildSliceU rfl rfl rfl rfl rfl rfl (xs := pcV [p]) (by rw [← hxs]; rfl) rfl ?_; intro a6 ha6
  refine gl_nil ?_
  refine at_ga (.inr (by exact keeps_of (by (first | exact fun _ h => h | (repeat first | exact sub_nil | refine sub_cons (by repeat first | exact List.Mem.head _ | apply List.Mem.tail) ?_))))) ?_
  refine ga_one 7 rfl (by kernel_rfl) ?_
  refine gl_append rfl rfl (fun a' c' => by first | exact .there .here | exact .there (.there .here) | exact .there (.there (.there .here)) | exact .there (.there (.there (.there .here))) | exact .there (.there (.there (.there (.there .here))))) (fun w hw => (hw.ownN (by repeat first|exact .del|apply Upd.there)).2.2.1) rfl rfl rfl (pcV_one _) (by show (_ + 1) * 16 ≤ _; omega) (by omega) rfl ?_; intro a7 c7 hc7
  refine gl_nil ?_
  refine at_ga (.inr (by exact keeps_of (by (first | exact fun _ h => h | (repeat first | exact sub_nil | refine sub_cons (by repeat first | exact List.Mem.head _ | apply List.Mem.tail) ?_))))) ?_
  refine ga_free 8 rfl (s_nilCheck rfl) rfl rfl rfl (by kernel_rfl) ?_
  refine ga_free 9 rfl (by first | exact s_fieldAddr rfl (by rfl) (by infer_instance) (by decide) | exact s_fieldAddr_o rfl (by assumption) (by rfl) (by infer_instance) (by decide)) rfl rfl rfl (by kernel_rfl) ?_
  refine ga_one 10 rfl (by kernel_rfl) ?_
  (first | refine gl_store_blkC (pre := [_, _, _]) (post := [_, _]) rfl rfl (by repeat first|exact .here|apply Upd.there) (by rfl) (by rfl) (by rfl) ?_ | refine gl_store_blk rfl rfl (by repeat first|exact .here|apply Upd.there) (by rfl) (by (intro q hq; simp [Value.cells] at hq; first | (subst hq; rfl) | (rcases hq with rfl | rfl | rfl | rfl | rfl | rfl | rfl | rfl <;> rfl) | (rcases hq with rfl | rfl | rfl | rfl | rfl | rfl | rfl <;> rfl) | (rcases hq with rfl | rfl | rfl | rfl | rfl | rfl <;> rfl) | (rcases hq with rfl | rfl | rfl | rfl | rfl <;> rfl) | (rcases hq with rfl | rfl | rfl | rfl <;> rfl) | (rcases hq with rfl | rfl | rfl <;> rfl) | (rcases hq with rfl | rfl <;> rfl))) (by rfl) ?_)
  refine gl_nil ?_
  refine at_ga (.inl (by kernel_rfl)) ?_
  refine ga_done (by kernel_rfl) ?_
  repeat (first | refine g_seq ?_ | refine at_code ?_ | refine g_skip ?_ | refine g_block ?_ | refine g_exit rfl ?_ | refine g_cond_t rfl ?_ | refine g_cond_f rfl ?_)
  have elen : (a.pl ++ [p]).length = a.pl.length + 1 := by simp
  rw [← elen, ← pcV_append]
  repeat (first | refine g_seq ?_ | refine at_code ?_ | refine g_skip ?_ | refine g_block ?_ | refine g_exit rfl ?_ | refine g_cond_t rfl ?_ | refine g_cond_f rfl ?_)
  refine g_region ?_
  refine gl_f (s_move rfl) rfl rfl rfl ?_
  refine gl_call _ rfl (Spend_ct { x with seen := doneL x.seen p.c (stepsC p.c), pend := x.pend ++ [p.c] } ⟨a.D, a.ms, a.ml, es', cs', a.el, a.cl, a.pl ++ [p], a7, c7⟩ (fun h => by have := hfl h; simp only; omega)) (fun w hw => hw.perm (perm_up (by repeat first|exact .del|apply Upd.there) (.refl _))) (fun _ _ _ => trivial) rfl ?_; rintro v A ⟨rfl, rfl⟩
  refine gl_nil ?_
  repeat (first | refine g_seq ?_ | refine at_code ?_ | refine g_skip ?_ | refine g_block ?_ | refine g_exit rfl ?_ | refine g_cond_t rfl ?_ | refine g_cond_f rfl ?_)
  repeat (first | refine g_seq ?_ | refine at_code ?_ | refine g_skip ?_ | refine g_block ?_ | refine g_exit rfl ?_ | refine g_cond_t rfl ?_ | refine g_cond_f rfl ?_)
  refine g_region ?_
  refine gl_f (s_assign rfl) rfl rfl rfl ?_
  refine gl_nil ?_
  repeat (first | refine g_seq ?_ | refine at_code ?_ | refine g_skip ?_ | refine g_block ?_ | refine g_exit rfl ?_ | refine g_cond_t rfl ?_ | refine g_cond_f rfl ?_)
  refine g_ret ?_
  refine at_end1 rfl rfl (dskH (turnX x p.c) ⟨a.D, a.ms, a.ml, es', cs', a.el, a.cl, a.pl ++ [p], a7, c7⟩) ⟨rfl, ⟨a.D, a.ms, a.ml, es', cs', a.el, a.cl, a.pl ++ [p], a7, c7⟩, rfl, rfl, rfl, DOk.spend ⟨hm', hok.lasts, by simp only; rw [hok.pl]; simp⟩⟩ ?_
  intro w hw
  exact Hp.left (hw.perm (perm_up (by repeat first|exact .del|apply Upd.there) (perm_up (by repeat first|exact .del|apply Upd.there) (perm_up (by repeat first|exact .del|apply Upd.there) (perm_up (by repeat first|exact .del|apply Upd.there) (.refl _))))))
set_option maxRecDepth 8000 in
set_option maxHeartbeats 2000000 in
theorem turnDrop_ct (x : DM) (a : DA) (p : PC) (hI : Inv x) (hok : DOk x a) (hk : p.c.kind = 3) (hst : stepsC p.c ≠ 0) (ho : offD x = false) (hpl : a.pl.length ≤ 1000000) (hsz : ((getL x.seen p.c.name).getD []).length + p.c.s.length ≤ 9223372036854775807) :
    Ct Try.prog 54 [Ptr a.D, .agg #[.int .i64 (stepsC p.c : Nat), .func (.func 55) #[] #[Ptr p.bn]]] (fun h => PcOk h p) (dskH x a) (TurnP x a p) := by
  have hfl := off_left ho
  have hleft := hI.left
  have hsc : p.c.kind = 1 → stepsC p.c = p.c.s.length := fun h => by simp [stepsC, h]
  have hfn : fnV p = .func (.func 55) #[] #[Ptr p.bn] := by simp [fnV, hk]
  have hxs : [.int .i64 (stepsC p.c : Nat), .func (.func 55) #[] #[Ptr p.bn]] = pcV [p] := by
    show _ = pcC p ++ []
    rw [pcC, hfn]; rfl
  refine ct_enter 26 Try.func54 rfl rfl rfl ?_
  intro F hp
  repeat (first | refine g_seq ?_ | refine at_code ?_ | refine g_skip ?_ | refine g_block ?_ | refine g_exit rfl ?_ | refine g_cond_t rfl ?_ | refine g_cond_f rfl ?_)
  refine g_region ?_
  refine gl_boxA rfl rfl ?_; intro g3
  refine gl_f (s_assign rfl) rfl rfl rfl ?_
  refine gl_nil ?_
  repeat (first | refine g_seq ?_ | refine at_code ?_ | refine g_skip ?_ | refine g_block ?_ | refine g_exit rfl ?_ | refine g_cond_t rfl ?_ | refine g_cond_f rfl ?_)
  refine g_draw [1, 5, 7] [.blk g3 (.cells #[.int .i64 (stepsC p.c : Nat), .func (.func 55) #[] #[Ptr p.bn]] 89), .blk a.D (dskO x a)] 9 rfl ?_
  refine ga_free 0 rfl (by first | exact s_fieldAddr rfl (by rfl) (by infer_instance) (by decide) | exact s_fieldAddr_o rfl (by assumption) (by rfl) (by infer_instance) (by decide)) rfl rfl rfl (by kernel_rfl) ?_
  (first | refine ga_read_k 1 rfl (by first | exact .head _ | exact .tail _ (.head _) | exact .tail _ (.tail _ (.head _)) | exact .tail _ (.tail _ (.tail _ (.head _)))) (s_load_blk rfl .del (by rfl)) (by (first | exact fun _ h => h | (repeat first | exact sub_nil | refine sub_cons (by repeat first | exact List.Mem.head _ | apply List.Mem.tail) ?_))) rfl rfl rfl (by kernel_rfl) ?_ | refine ga_readF 1 rfl (s_load1 rfl (fun w hw => peekB hw (by assumption) (by rfl))) (by (first | exact fun _ h => h | (repeat first | exact sub_nil | refine sub_cons (by repeat first | exact List.Mem.head _ | apply List.Mem.tail) ?_))) rfl rfl rfl (by kernel_rfl) ?_)
  refine ga_free 2 rfl (s_move rfl) rfl rfl rfl (by kernel_rfl) ?_
  refine ga_free 3 rfl (s_nilCheck rfl) rfl rfl rfl (by kernel_rfl) ?_
  refine ga_free 4 rfl (by first | exact s_fieldAddr rfl (by rfl) (by infer_instance) (by decide) | exact s_fieldAddr_o rfl (by assumption) (by rfl) (by infer_instance) (by decide)) rfl rfl rfl (by kernel_rfl) ?_
  (first | refine ga_read_k 5 rfl (by first | exact .head _ | exact .tail _ (.head _) | exact .tail _ (.tail _ (.head _)) | exact .tail _ (.tail _ (.tail _ (.head _)))) (s_load_blk rfl .del (by rfl)) (by (first | exact fun _ h => h | (repeat first | exact sub_nil | refine sub_cons (by repeat first | exact List.Mem.head _ | apply List.Mem.tail) ?_))) rfl rfl rfl (by kernel_rfl) ?_ | refine ga_readF 5 rfl (s_load1 rfl (fun w hw => peekB hw (by assumption) (by rfl))) (by (first | exact fun _ h => h | (repeat first | exact sub_nil | refine sub_cons (by repeat first | exact List.Mem.head _ | apply List.Mem.tail) ?_))) rfl rfl rfl (by kernel_rfl) ?_)
  refine ga_free 6 rfl (by first | exact s_fieldAddr rfl (by rfl) (by infer_instance) (by decide) | exact s_fieldAddr_o rfl (by assumption) (by rfl) (by infer_instance) (by decide)) rfl rfl rfl (by kernel_rfl) ?_
  (first | refine ga_read_k 7 rfl (by first | exact .head _ | exact .tail _ (.head _) | exact .tail _ (.tail _ (.head _)) | exact .tail _ (.tail _ (.tail _ (.head _)))) (s_load_blk rfl .del (by rfl)) (by (first | exact fun _ h => h | (repeat first | exact sub_nil | refine sub_cons (by repeat first | exact List.Mem.head _ | apply List.Mem.tail) ?_))) rfl rfl rfl (by kernel_rfl) ?_ | refine ga_readF 7 rfl (s_load1 rfl (fun w hw => peekB hw (by assumption) (by rfl))) (by (first | exact fun _ h => h | (repeat first | exact sub_nil | refine sub_cons (by repeat first | exact List.Mem.head _ | apply List.Mem.tail) ?_))) rfl rfl rfl (by kernel_rfl) ?_)
  refine ga_one 8 rfl (by kernel_rfl) ?_
  refine gl_callv _ rfl rfl (ps := []) (qs := [Ptr p.bn]) rfl (DoDrop_ct a.ms a.es a.cs x.seen p (stepsC p.c) hok.seen hI.seen hk hst) (fun w hw => hw.perm (perm_up (by repeat first|exact .del|apply Upd.there) (.refl _))) (fun h hh _ => hp.le hh) rfl ?_; rintro v A ⟨rfl, es', cs', rfl, hm'⟩
  refine gl_nil ?_
  refine at_ga (.inl (by kernel_rfl)) ?_
  refine ga_done (by kernel_rfl) ?_
  repeat (first | refine g_seq ?_ | refine at_code ?_ | refine g_skip ?_ | refine g_block ?_ | refine g_exit rfl ?_ | refine g_cond_t rfl ?_ | refine g_cond_f rfl ?_)
  repeat (first | refine g_seq ?_ | refine at_code ?_ | refine g_skip ?_ | refine g_block ?_ | refine g_exit rfl ?_ | refine g_cond_t rfl ?_ | refine g_cond_f rfl ?_)
  refine g_draw [4, 5] [.blk g3 (.cells #[.int .i64 (stepsC p.c : Nat), .func (.func 55) #[] #[Ptr p.bn]] 89), .blk a.D (dskO x a)] 11 rfl ?_
  refine ga_free 0 rfl (s_move rfl) rfl rfl rfl (by kernel_rfl) ?_
  refine ga_free 1 rfl (s_move rfl) rfl rfl rfl (by kernel_rfl) ?_
  refine ga_free 2 rfl (s_nilCheck rfl) rfl rfl rfl (by kernel_rfl) ?_
  refine ga_free 3 rfl (by first | exact s_fieldAddr rfl (by rfl) (by infer_instance) (by decide) | exact s_fieldAddr_o rfl (by assumption) (by rfl) (by infer_instance) (by decide)) rfl rfl rfl (by kernel_rfl) ?_
  (first | refine ga_read_k 4 rfl (by first | exact .head _ | exact .tail _ (.head _) | exact .tail _ (.tail _ (.head _)) | exact .tail _ (.tail _ (.tail _ (.head _)))) (s_load_blk rfl .del (by rfl)) (by (first | exact fun _ h => h | (repeat first | exact sub_nil | refine sub_cons (by repeat first | exact List.Mem.head _ | apply List.Mem.tail) ?_))) rfl rfl rfl (by kernel_rfl) ?_ | refine ga_readF 4 rfl (s_load1 rfl (fun w hw => peekB hw (by assumption) (by rfl))) (by (first | exact fun _ h => h | (repeat first | exact sub_nil | refine sub_cons (by repeat first | exact List.Mem.head _ | apply List.Mem.tail) ?_))) rfl rfl rfl (by kernel_rfl) ?_)
  (first | refine ga_read_k 5 rfl (by first | exact .head _ | exact .tail _ (.head _) | exact .tail _ (.tail _ (.head _)) | exact .tail _ (.tail _ (.tail _ (.head _)))) (s_load_blkW rfl .del (by rfl)) (by (first | exact fun _ h => h | (repeat first | exact sub_nil | refine sub_cons (by repeat first | exact List.Mem.head _ | apply List.Mem.tail) ?_))) rfl rfl rfl (by kernel_rfl) ?_ | refine ga_read_k 5 rfl (by first | exact .head _ | exact .tail _ (.head _) | exact .tail _ (.tail _ (.head _)) | exact .tail _ (.tail _ (.tail _ (.head _)))) (s_load_blkN rfl .del (by rfl)) (by (first | exact fun _ h => h | (repeat first | exact sub_nil | refine sub_cons (by repeat first | exact List.Mem.head _ | apply List.Mem.tail) ?_))) rfl rfl rfl (by kernel_rfl) ?_ | refine ga_readF 5 rfl (s_loadN rfl (fun w hw => peekBN hw (by assumption)) (by rfl)) (by (first | exact fun _ h => h | (repeat first | exact sub_nil | refine sub_cons (by repeat first | exact List.Mem.head _ | apply List.Mem.tail) ?_))) rfl rfl rfl (by kernel_rfl) ?_)
  refine ga_one 6 rfl (by kernel_rfl) ?_
  refine gl_buildSliceU rfl rfl rfl rfl rfl rfl (xs := pcV [p]) (by rw [← hxs]; rfl) rfl ?_; intro a6 ha6
  refine gl_nil ?_
  refine at_ga (.inr (by exact keeps_of (by (first | exact fun _ h => h | (repeat first | exact sub_nil | refine sub_cons (by repeat first | exact List.Mem.head _ | apply List.Mem.tail) ?_))))) ?_
  refine ga_one 7 rfl (by kernel_rfl) ?_
  refine gl_append rfl rfl (fun a' c' => by first | exact .there .here | exact .there (.there .here) | exact .there (.there (.there .here)) | exact .there (.there (.there (.there .here))) | exact .there (.there (.there (.there (.there .here))))) (fun w hw => (hw.ownN (by repeat first|exact .del|apply Upd.there)).2.2.1) rfl rfl rfl (pcV_one _) (by show (_ + 1) * 16 ≤ _; omega) (by omega) rfl ?_; intro a7 c7 hc7
  refine gl_nil ?_
  refine at_ga (.inr (by exact keeps_of (by (first | exact fun _ h => h | (repeat first | exact sub_nil | refine sub_cons (by repeat first | exact List.Mem.head _ | apply List.Mem.tail) ?_))))) ?_
  refine ga_free 8 rfl (s_nilCheck rfl) rfl rfl rfl (by kernel_rfl) ?_
  refine ga_free 9 rfl (by first | exact s_fieldAddr rfl (by rfl) (by infer_instance) (by decide) | exact s_fieldAddr_o rfl (by assumption) (by rfl) (by infer_instance) (by decide)) rfl rfl rfl (by kernel_rfl) ?_
  refine ga_one 10 rfl (by kernel_rfl) ?_
  (first | refine gl_store_blkC (pre := [_, _, _]) (post := [_, _]) rfl rfl (by repeat first|exact .here|apply Upd.there) (by rfl) (by rfl) (by rfl) ?_ | refine gl_store_blk rfl rfl (by repeat first|exact .here|apply Upd.there) (by rfl) (by (intro q hq; simp [Value.cells] at hq; first | (subst hq; rfl) | (rcases hq with rfl | rfl | rfl | rfl | rfl | rfl | rfl | rfl <;> rfl) | (rcases hq with rfl | rfl | rfl | rfl | rfl | rfl | rfl <;> rfl) | (rcases hq with rfl | rfl | rfl | rfl | rfl | rfl <;> rfl) | (rcases hq with rfl | rfl | rfl | rfl | rfl <;> rfl) | (rcases hq with rfl | rfl | rfl | rfl <;> rfl) | (rcases hq with rfl | rfl | rfl <;> rfl) | (rcases hq with rfl | rfl <;> rfl))) (by rfl) ?_)
  refine gl_nil ?_
  refine at_ga (.inl (by kernel_rfl)) ?_
  refine ga_done (by kernel_rfl) ?_
  repeat (first | refine g_seq ?_ | refine at_code ?_ | refine g_skip ?_ | refine g_block ?_ | refine g_exit rfl ?_ | refine g_cond_t rfl ?_ | refine g_cond_f rfl ?_)
  have elen : (a.pl ++ [p]).length = a.pl.length + 1 := by simp
  rw [← elen, ← pcV_append]
  repeat (first | refine g_seq ?_ | refine at_code ?_ | refine g_skip ?_ | refine g_block ?_ | refine g_exit rfl ?_ | refine g_cond_t rfl ?_ | refine g_cond_f rfl ?_)
  refine g_region ?_
  refine gl_f (s_move rfl) rfl rfl rfl ?_
  refine gl_call _ rfl (Spend_ct { x with seen := doneL x.seen p.c (stepsC p.c), pend := x.pend ++ [p.c] } ⟨a.D, a.ms, a.ml, es', cs', a.el, a.cl, a.pl ++ [p], a7, c7⟩ (fun h => by have := hfl h; simp only; omega)) (fun w hw => hw.perm (perm_up (by repeat first|exact .del|apply Upd.there) (.refl _))) (fun _ _ _ => trivial) rfl ?_; rintro v A ⟨rfl, rfl⟩
  refine gl_nil ?_
  repeat (first | refine g_seq ?_ | refine at_code ?_ | refine g_skip ?_ | refine g_block ?_ | refine g_exit rfl ?_ | refine g_cond_t rfl ?_ | refine g_cond_f rfl ?_)
  repeat (first | refine g_seq ?_ | refine at_code ?_ | refine g_skip ?_ | refine g_block ?_ | refine g_exit rfl ?_ | refine g_cond_t rfl ?_ | refine g_cond_f rfl ?_)
  refine g_region ?_
  refine gl_f (s_assign rfl) rfl rfl rfl ?_
  refine gl_nil ?_
  repeat (first | refine g_seq ?_ | refine at_code ?_ | refine g_skip ?_ | refine g_block ?_ | refine g_exit rfl ?_ | refine g_cond_t rfl ?_ | refine g_cond_f rfl ?_)
  refine g_ret ?_
  refine at_end1 rfl rfl (dskH (turnX x p.c) ⟨a.D, a.ms, a.ml, es', cs', a.el, a.cl, a.pl ++ [p], a7, c7⟩) ⟨rfl, ⟨a.D, a.ms, a.ml, es', cs', a.el, a.cl, a.pl ++ [p], a7, c7⟩, rfl, rfl, rfl, DOk.spend ⟨hm', hok.lasts, by simp only; rw [hok.pl]; simp⟩⟩ ?_
  intro w hw
  exact Hp.left (hw.perm (perm_up (by repeat first|exact .del|apply Upd.there) (perm_up (by repeat first|exact .del|apply Upd.there) (perm_up (by repeat first|exact .del|apply Upd.there) (perm_up (by repeat first|exact .del|apply Upd.there) (.refl _))))))
end Go.Proofs.Ytolgclfbllcjhaa
