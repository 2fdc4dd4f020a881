/- A disk, the program's beside the reference's: one call on both. -/
import Derived.Test.YtolgclfbllcjhaaMD8
namespace Go.Proofs.Ytolgclfbllcjhaa
open Go Go.Sl
set_option linter.unusedVariables false
set_option linter.unusedSimpArgs false

/-- what stays true of a disk that at most n calls have met -/
structure Wf (x : DM) (n : Nat) : Prop where
  inv : Inv x
  nm : ∀ f, f ∈ x.seen ∨ f ∈ x.lasts → f.1.length ≤ 80
  sz : x.lasts.length + x.pend.length ≤ n
theorem replay_len : ∀ (p : List Cl) (l : List Fl) (k : Nat), (replay l p k).length ≤ l.length + p.length
  | [], l, k => by simp [replay]
  | c :: p, l, k => by
    have h1 := done_len l c (min (stepsC c) k)
    have h2 := replay_len p (doneL l c (min (stepsC c) k)) (k - min (stepsC c) k)
    rw [replay, List.length_cons]; omega
theorem Wf.seen {x : DM} {n : Nat} (h : Wf x n) : x.seen.length ≤ n := by
  have h1 := h.inv.at_ (countD x) (Nat.le_refl _)
  have h2 := replay_len x.pend x.lasts (countD x)
  rw [h1] at h2
  have := h.sz; omega
theorem Wf.small {x : DM} {n : Nat} (h : Wf x n) (hn : n ≤ 1000000) : Small x 1000000 := by
  have h1 := h.seen
  have h2 := h.sz
  exact ⟨by omega, by omega, by omega⟩
theorem Wf.mono {x : DM} {n m : Nat} (h : Wf x n) (hm : n ≤ m) : Wf x m := ⟨h.inv, h.nm, Nat.le_trans h.sz hm⟩
theorem done_mem {l : List Fl} {c : Cl} {k : Nat} {f : Fl} (h : f ∈ doneL l c k) : f ∈ l ∨ f.1 = c.name := by
  have hw : ∀ n s, f ∈ withL l n s → f ∈ l ∨ f.1 = n := fun n s h => by
    rcases List.mem_cons.1 ((ins_perm _ _).mem_iff.1 h) with rfl | h
    · exact .inr rfl
    · exact .inl (List.mem_filter.1 h).1
  unfold doneL at h
  split at h
  · exact .inl h
  · split at h
    · exact hw _ _ h
    · split at h
      · exact hw _ _ h
      · exact .inl (List.mem_filter.1 h).1
theorem replay_mem : ∀ (p : List Cl) (l : List Fl) (k : Nat) (f : Fl), f ∈ replay l p k → f ∈ l ∨ ∃ c ∈ p, f.1 = c.name
  | [], l, k, f, h => .inl h
  | c :: p, l, k, f, h => by
    rw [replay] at h
    rcases replay_mem p _ _ f h with h | ⟨d, hd, e⟩
    · rcases done_mem h with h | h
      · exact .inl h
      · exact .inr ⟨c, .head _, h⟩
    · exact .inr ⟨d, .tail _ hd, e⟩
theorem bad_len {n : Bs} (h : badName n = false) : n.length ≤ 80 := by
  have := of_decide_eq_false (Bool.or_eq_false_iff.1 h).2
  omega
theorem wf_new {cap : Int} (h : badCap cap = false) : Wf (newD cap) 0 := ⟨newD_inv h, fun f hf => (by rcases hf with hf | hf <;> cases hf), Nat.le_refl _⟩
theorem wf_spend {x : DM} {n : Nat} (h : Wf x n) (ho : offD x = false) : Wf (spendD x) n := by
  obtain ⟨e1, e2, e3, _⟩ := spend_seen x
  exact ⟨spend_inv h.inv ho, by rw [e1, e2]; exact h.nm, by rw [e2, e3]; exact h.sz⟩
theorem wf_turn {x : DM} {n : Nat} (h : Wf x n) {c : Cl} (hk : c.kind = 1 ∨ c.kind = 2 ∨ (c.kind = 3 ∧ c.s = [])) : Wf (turnD x c) (n + 1) := by
  have hi := turn_inv h.inv hk
  by_cases ht : turnsD x c = true
  · obtain ⟨h1, _⟩ := turnsD_iff.1 ht
    have hb := bad_len h1
    have e : turnD x c = spendD { x with seen := doneL x.seen c (stepsC c), pend := x.pend ++ [c] } := by rw [turnD, if_pos ht, turnX]
    obtain ⟨e1, e2, e3, _⟩ := spend_seen { x with seen := doneL x.seen c (stepsC c), pend := x.pend ++ [c] }
    refine ⟨hi, fun f hf => ?_, ?_⟩
    · rw [e, e1, e2] at hf
      rcases hf with hf | hf
      · rcases done_mem hf with hf | hf
        · exact h.nm f (.inl hf)
        · rw [hf]; exact hb
      · exact h.nm f (.inr hf)
    · rw [e, e2, e3]
      have := h.sz
      simp only [List.length_append, List.length_cons, List.length_nil]; omega
  · have e : turnD x c = x := by rw [turnD, if_neg ht]
    rw [e]; exact h.mono (by omega)
theorem wf_sync {x : DM} {n : Nat} (h : Wf x n) : Wf (syncD x) n := by
  unfold syncD
  cases ho : offD x
  · have hs := h.seen
    rw [if_neg (by simp)]
    refine wf_spend ⟨⟨h.inv.cap, h.inv.seen, h.inv.seen, h.inv.used, fun k => h.inv.used, fun k _ => rfl, fun c hc => (by cases hc), h.inv.left⟩, fun f hf => h.nm f (.inl (hf.elim id id)), by simpa using hs⟩ ho
  · rw [if_pos rfl]; exact h
theorem wf_fuse {x : DM} {n : Nat} (h : Wf x n) {k : Int} (hk : -9223372036854775808 ≤ k ∧ k ≤ 9223372036854775807) : Wf (fuseD x k) n := ⟨⟨h.inv.cap, h.inv.seen, h.inv.lasts, h.inv.used, h.inv.all, h.inv.at_, h.inv.pend, hk⟩, h.nm, h.sz⟩
theorem wf_crash {x : DM} {n : Nat} (h : Wf x n) (k : Int) : Wf (crashD x k) n := by
  unfold crashD
  split
  · exact h
  · have hl := replay_len x.pend x.lasts k.toNat
    refine ⟨⟨h.inv.cap, srt_replay h.inv.lasts _ _, srt_replay h.inv.lasts _ _, h.inv.all _, fun j => h.inv.all _, fun j _ => rfl, fun c hc => (by cases hc), h.inv.left⟩, fun f hf => ?_, ?_⟩
    · have hf : f ∈ replay x.lasts x.pend k.toNat := hf.elim id id
      rcases replay_mem _ _ _ f hf with hf | ⟨c, hc, e⟩
      · exact h.nm f (.inr hf)
      · rw [e]; exact bad_len (h.inv.pend c hc).name
    · have := h.sz
      simp only [List.length_nil]; omega

/-- an act -/
theorem Ct.post_mono {P : Program} {f : FuncId} {args : List Value} {Pre : Heap → Prop} {C : List As} {Post Post' : Value → List As → Prop} (h : Ct P f args Pre C Post) (k : ∀ v A, Post v A → Post' v A) : Ct P f args Pre C Post' := fun w bs hs hn hp => (h w bs hs hn hp).mono fun e w' ⟨v, A, h1, h2, h3⟩ => ⟨v, A, h1, k v A h2, h3⟩
structure AM where
  kind : Int
  name : Bs
  s : Bs
  n : Int
abbrev amV (a : AM) : Value := .agg #[.int .i64 a.kind, B a.name, B a.s, .int .i64 a.n]
structure AmOk (a : AM) : Prop where
  name : a.name.length ≤ 9223372036854775807
  s : a.s.length ≤ 4611686018427387903
  n : -9223372036854775808 ≤ a.n ∧ a.n ≤ 9223372036854775807
def actD (x : DM) (a : AM) : DM :=
  if a.kind = 1 then turnD x ⟨1, a.name, a.s⟩
  else if a.kind = 2 then turnD x ⟨2, a.name, a.s⟩
  else if a.kind = 3 then turnD x ⟨3, a.name, []⟩
  else if a.kind = 4 then syncD x
  else if a.kind = 5 then x
  else if a.kind = 6 then fuseD x a.n
  else if a.kind = 7 then crashD x a.n
  else x
/-- what lies at rest for both -/
structure BF (x : DM) (a : DA) (r : RA) (h : Heap) : Prop where
  p : ∀ p ∈ a.pl, PcOk h p
  r : RFacts x r h
theorem BF.le {x : DM} {a : DA} {r : RA} {h h' : Heap} (f : BF x a r h) (l : Heap.le h h') : BF x a r h' := ⟨fun p hp => (f.p p hp).le l, f.r.le l⟩
abbrev bothH (x : DM) (a : DA) (r : RA) : List As := dskH x a ++ [.blk r.X (refO x r)]
def BP (x x' : DM) (a : DA) (r : RA) (v : Value) (A : List As) : Prop := v = .bool true ∧ ∃ a' r' Z, a'.D = a.D ∧ r'.X = r.X ∧ A = bothH x' a' r' ++ Z ∧ DOk x' a' ∧ ∀ h, BF x a r h → (∃ bs, Sat h Z bs) → BF x' a' r' h
theorem perm_act {α : Type} (X g : α) (D Z Z2 : List α) : (g :: ((X :: Z2) ++ (D ++ Z))).Perm (((D ++ [X]) ++ (Z ++ Z2)) ++ [g]) := by
  refine List.Perm.trans ?_ List.perm_append_comm
  show (g :: ((X :: Z2) ++ (D ++ Z))).Perm (g :: ((D ++ [X]) ++ (Z ++ Z2)))
  refine List.Perm.cons _ ?_
  refine List.perm_append_comm.trans ?_
  rw [List.append_assoc, List.append_assoc]
  exact List.Perm.append_left D (List.perm_middle)
theorem Sat.two {h : Heap} {A B : List As} (hs : ∃ bs, Sat h (A ++ B) bs) : (∃ bs, Sat h A bs) ∧ ∃ bs, Sat h B bs := by
  obtain ⟨bs, hs⟩ := hs
  obtain ⟨ba, bb, _, h1, h2⟩ := Sat.split hs
  exact ⟨⟨ba, h1⟩, bb, h2⟩
theorem both_done {x x' : DM} {a a' : DA} {r r' : RA} {Z Z2 : List As} (f : ∀ h, (∀ p ∈ a.pl, PcOk h p) → (∃ bs, Sat h Z bs) → ∀ p ∈ a'.pl, PcOk h p) (f2 : ∀ h, RFacts x r h → (∃ bs, Sat h Z2 bs) → RFacts x' r' h) : ∀ h, BF x a r h → (∃ bs, Sat h (Z ++ Z2) bs) → BF x' a' r' h := fun h hb hs => by
  obtain ⟨h1, h2⟩ := Sat.two hs
  exact ⟨f h hb.p h1, f2 h hb.r h2⟩
set_option maxRecDepth 8000 in
set_option maxHeartbeats 8000000 in
theorem act_ct (x : DM) (a : DA) (r : RA) (m : AM) (n : Nat) (hw0 : Wf x n) (hn : n ≤ 1000000) (hok : DOk x a) (hm : AmOk m) : Ct Try.prog 27 [Ptr a.D, Ptr r.X, amV m] (BF x a r) (bothH x a r) (BP x (actD x m) a r) := by
  have hI := hw0.inv
  have hsm := hw0.small hn
  have hpl : a.pl.length ≤ 1000000 := by have := hsm.pend; rw [hok.pl] at this; simpa using this
  obtain ⟨kind, name, s, k⟩ := m
  obtain ⟨hmn, hms, hmk⟩ := hm
  simp only at hmn hms hmk
  show Ct Try.prog 27 [Ptr a.D, Ptr r.X, .agg #[.int .i64 kind, B name, B s, .int .i64 k]] _ _ _
  refine ct_enter 109 Try.func27 rfl rfl rfl ?_
  intro F hF
  have hact : ∀ j, kind = j → actD x ⟨kind, name, s, k⟩ = actD x ⟨j, name, s, k⟩ := fun j h => by rw [h]
  obtain ⟨q1, hq1⟩ : ∃ q, q = decide (kind = 1) := ⟨_, rfl⟩
  obtain ⟨q2, hq2⟩ : ∃ q, q = decide (kind = 2) := ⟨_, rfl⟩
  obtain ⟨q3, hq3⟩ : ∃ q, q = decide (kind = 3) := ⟨_, rfl⟩
  obtain ⟨q4, hq4⟩ : ∃ q, q = decide (kind = 4) := ⟨_, rfl⟩
  obtain ⟨q5, hq5⟩ : ∃ q, q = decide (kind = 5) := ⟨_, rfl⟩
  obtain ⟨q6, hq6⟩ : ∃ q, q = decide (kind = 6) := ⟨_, rfl⟩
  obtain ⟨q7, hq7⟩ : ∃ q, q = decide (kind = 7) := ⟨_, rfl⟩
  repeat (first | refine g_seq ?_ | refine at_code ?_ | refine g_skip ?_ | refine g_block ?_ | refine g_exit rfl ?_ | refine g_cond_t rfl ?_ | refine g_cond_f rfl ?_)
  refine g_region ?_
  refine gl_boxA rfl rfl ?_; intro g5
  refine gl_f (s_assign rfl) rfl rfl rfl ?_
  refine gl_nil ?_
  repeat (first | refine g_seq ?_ | refine at_code ?_ | refine g_skip ?_ | refine g_block ?_ | refine g_exit rfl ?_ | refine g_cond_t rfl ?_ | refine g_cond_f rfl ?_)
  refine g_region ?_
  refine gl_f (by first | exact s_fieldAddr rfl (by rfl) (by infer_instance) (by decide) | exact s_fieldAddr_o rfl (by assumption) (by rfl) (by infer_instance) (by decide)) rfl rfl rfl ?_
  refine gl_r (by first | exact s_load_blk rfl (by repeat first|exact .del|apply Upd.there) (by rfl) | exact s_load1 rfl (fun w hw => peekB hw (by assumption) (by rfl))) rfl rfl rfl ?_
  refine gl_nil ?_
  repeat (first | refine g_seq ?_ | refine at_code ?_ | refine g_skip ?_ | refine g_block ?_ | refine g_exit rfl ?_ | refine g_cond_t rfl ?_ | refine g_cond_f rfl ?_)
  cases q1
  rotate_left
  · have hk : kind = 1 := of_decide_eq_true hq1.symm
    have ex : actD x ⟨kind, name, s, k⟩ = turnD x ⟨1, name, s⟩ := by
      simp only [actD]
      rw [if_pos hk]
    rw [ex]
    repeat (first | refine g_seq ?_ | refine at_code ?_ | refine g_skip ?_ | refine g_block ?_ | refine g_exit rfl ?_ | refine g_cond_t rfl ?_ | refine g_cond_f rfl ?_)
    refine g_region ?_
    refine gl_f ((s_eql rfl rfl).eq (congrArg Value.bool hq1.symm)) rfl rfl rfl ?_
    refine gl_f (s_assign rfl) rfl rfl rfl ?_
    refine gl_nil ?_
    repeat (first | refine g_seq ?_ | refine at_code ?_ | refine g_skip ?_ | refine g_block ?_ | refine g_exit rfl ?_ | refine g_cond_t rfl ?_ | refine g_cond_f rfl ?_)
    repeat (first | refine g_seq ?_ | refine at_code ?_ | refine g_skip ?_ | refine g_block ?_ | refine g_exit rfl ?_ | refine g_cond_t rfl ?_ | refine g_cond_f rfl ?_)
    refine g_draw [2, 4, 8, 10] [.blk g5 (.cells #[.int .i64 kind, B name, B s, .int .i64 k] 30)] 15 rfl ?_
    refine ga_free 0 rfl (s_move rfl) rfl rfl rfl (by kernel_rfl) ?_
    refine ga_free 1 rfl (by first | exact s_fieldAddr rfl (by rfl) (by infer_instance) (by decide) | exact s_fieldAddr_o rfl (by assumption) (by rfl) (by infer_instance) (by decide)) rfl rfl rfl (by kernel_rfl) ?_
    (first | refine ga_read_k 2 rfl (by first | exact .head _ | exact .tail _ (.head _) | exact .tail _ (.tail _ (.head _)) | exact .tail _ (.tail _ (.tail _ (.head _)))) (s_load_blk rfl .del (by rfl)) (by (first | exact fun _ h => h | (repeat first | exact sub_nil | refine sub_cons (by repeat first | exact List.Mem.head _ | apply List.Mem.tail) ?_))) rfl rfl rfl (by kernel_rfl) ?_ | refine ga_readF 2 rfl (s_load1 rfl (fun w hw => peekB hw (by assumption) (by rfl))) (by (first | exact fun _ h => h | (repeat first | exact sub_nil | refine sub_cons (by repeat first | exact List.Mem.head _ | apply List.Mem.tail) ?_))) rfl rfl rfl (by kernel_rfl) ?_)
    refine ga_free 3 rfl (by first | exact s_fieldAddr rfl (by rfl) (by infer_instance) (by decide) | exact s_fieldAddr_o rfl (by assumption) (by rfl) (by infer_instance) (by decide)) rfl rfl rfl (by kernel_rfl) ?_
    (first | refine ga_read_k 4 rfl (by first | exact .head _ | exact .tail _ (.head _) | exact .tail _ (.tail _ (.head _)) | exact .tail _ (.tail _ (.tail _ (.head _)))) (s_load_blk rfl .del (by rfl)) (by (first | exact fun _ h => h | (repeat first | exact sub_nil | refine sub_cons (by repeat first | exact List.Mem.head _ | apply List.Mem.tail) ?_))) rfl rfl rfl (by kernel_rfl) ?_ | refine ga_readF 4 rfl (s_load1 rfl (fun w hw => peekB hw (by assumption) (by rfl))) (by (first | exact fun _ h => h | (repeat first | exact sub_nil | refine sub_cons (by repeat first | exact List.Mem.head _ | apply List.Mem.tail) ?_))) rfl rfl rfl (by kernel_rfl) ?_)
    refine ga_free 6 rfl (s_move rfl) rfl rfl rfl (by kernel_rfl) ?_
    refine ga_free 7 rfl (by first | exact s_fieldAddr rfl (by rfl) (by infer_instance) (by decide) | exact s_fieldAddr_o rfl (by assumption) (by rfl) (by infer_instance) (by decide)) rfl rfl rfl (by kernel_rfl) ?_
    (first | refine ga_read_k 8 rfl (by first | exact .head _ | exact .tail _ (.head _) | exact .tail _ (.tail _ (.head _)) | exact .tail _ (.tail _ (.tail _ (.head _)))) (s_load_blk rfl .del (by rfl)) (by (first | exact fun _ h => h | (repeat first | exact sub_nil | refine sub_cons (by repeat first | exact List.Mem.head _ | apply List.Mem.tail) ?_))) rfl rfl rfl (by kernel_rfl) ?_ | refine ga_readF 8 rfl (s_load1 rfl (fun w hw => peekB hw (by assumption) (by rfl))) (by (first | exact fun _ h => h | (repeat first | exact sub_nil | refine sub_cons (by repeat first | exact List.Mem.head _ | apply List.Mem.tail) ?_))) rfl rfl rfl (by kernel_rfl) ?_)
    refine ga_free 9 rfl (by first | exact s_fieldAddr rfl (by rfl) (by infer_instance) (by decide) | exact s_fieldAddr_o rfl (by assumption) (by rfl) (by infer_instance) (by decide)) rfl rfl rfl (by kernel_rfl) ?_
    (first | refine ga_read_k 10 rfl (by first | exact .head _ | exact .tail _ (.head _) | exact .tail _ (.tail _ (.head _)) | exact .tail _ (.tail _ (.tail _ (.head _)))) (s_load_blk rfl .del (by rfl)) (by (first | exact fun _ h => h | (repeat first | exact sub_nil | refine sub_cons (by repeat first | exact List.Mem.head _ | apply List.Mem.tail) ?_))) rfl rfl rfl (by kernel_rfl) ?_ | refine ga_readF 10 rfl (s_load1 rfl (fun w hw => peekB hw (by assumption) (by rfl))) (by (first | exact fun _ h => h | (repeat first | exact sub_nil | refine sub_cons (by repeat first | exact List.Mem.head _ | apply List.Mem.tail) ?_))) rfl rfl rfl (by kernel_rfl) ?_)
    refine ga_free 11 rfl (s_build rfl (run_build_struct (places := [(0, 1), (1, 1), (2, 1)]) rfl (by intro f hf; simp at hf; rcases hf with rfl | rfl | rfl <;> rfl) rfl)) rfl rfl rfl (by kernel_rfl) ?_
    refine ga_one 5 rfl (by kernel_rfl) ?_
    refine gl_call [.blk g5 (.cells #[.int .i64 kind, B name, B s, .int .i64 k] 30), .blk r.X (refO x r)] rfl (Add_ct x a name s hI hok hpl hmn hms) (fun w hw => hw.perm (perm_up (by repeat first|exact .del|apply Upd.there) (perm_up (by repeat first|exact .del|apply Upd.there) (perm_up (by repeat first|exact .del|apply Upd.there) (perm_up (by repeat first|exact .del|apply Upd.there) (.refl _)))))) (fun _ _ _ => trivial) rfl ?_; rintro v A ⟨rfl, a', Z, e1, rfl, hok', f1⟩; refine gl_pull (H' := .blk g5 (.cells #[.int .i64 kind, B name, B s, .int .i64 k] 30) :: .blk r.X (refO x r) :: (dskH (turnD x ⟨1, name, s⟩) a' ++ Z)) (fun w hw => hw.perm List.perm_append_comm) ?_
    refine gl_nil ?_
    refine at_ga (.inr (by exact keeps_of (by (first | exact fun _ h => h | (repeat first | exact sub_nil | refine sub_cons (by repeat first | exact List.Mem.head _ | apply List.Mem.tail) ?_))))) ?_
    refine ga_one 12 rfl (by kernel_rfl) ?_
    refine gl_call (.blk g5 (.cells #[.int .i64 kind, B name, B s, .int .i64 k] 30) :: (dskH (turnD x ⟨1, name, s⟩) a' ++ Z)) rfl (rTurnAdd_ct x r name s hI hsm hmn hms) (fun w hw => hw.perm (perm_up (by repeat first|exact .del|apply Upd.there) (.refl _))) (fun h hh _ => hF.r.le hh) rfl ?_; rintro v A ⟨rfl, r', Z2, e3, rfl, f2⟩; refine gl_pull (H' := .blk g5 (.cells #[.int .i64 kind, B name, B s, .int .i64 k] 30) :: ((.blk r.X (refO (turnD x ⟨1, name, s⟩) r') :: Z2) ++ (dskH (turnD x ⟨1, name, s⟩) a' ++ Z))) (fun w hw => hw.perm List.perm_middle) ?_
    refine gl_nil ?_
    refine at_ga (.inr (by exact keeps_of (by (first | exact fun _ h => h | (repeat first | exact sub_nil | refine sub_cons (by repeat first | exact List.Mem.head _ | apply List.Mem.tail) ?_))))) ?_
    refine ga_free 13 rfl ((s_eql rfl rfl).eq (v' := .bool true) (by simp)) rfl rfl rfl (by kernel_rfl) ?_
    refine ga_free 14 rfl (s_assign rfl) rfl rfl rfl (by kernel_rfl) ?_
    refine ga_done (by kernel_rfl) ?_
    repeat (first | refine g_seq ?_ | refine at_code ?_ | refine g_skip ?_ | refine g_block ?_ | refine g_exit rfl ?_ | refine g_cond_t rfl ?_ | refine g_cond_f rfl ?_)
    refine g_ret ?_
    refine at_end1 rfl rfl (bothH (turnD x ⟨1, name, s⟩) a' r' ++ (Z ++ Z2)) ⟨rfl, a', r', Z ++ Z2, e1, e3, rfl, hok', both_done f1 f2⟩ (fun w hw => ?_)
    rw [← e3] at hw
    exact Hp.left (hw.perm (perm_act _ _ (dskH (turnD x ⟨1, name, s⟩) a') Z Z2))
  repeat (first | refine g_seq ?_ | refine at_code ?_ | refine g_skip ?_ | refine g_block ?_ | refine g_exit rfl ?_ | refine g_cond_t rfl ?_ | refine g_cond_f rfl ?_)
  refine g_region ?_
  refine gl_f ((s_eql rfl rfl).eq (congrArg Value.bool hq1.symm)) rfl rfl rfl ?_
  refine gl_f (s_assign rfl) rfl rfl rfl ?_
  refine gl_nil ?_
  repeat (first | refine g_seq ?_ | refine at_code ?_ | refine g_skip ?_ | refine g_block ?_ | refine g_exit rfl ?_ | refine g_cond_t rfl ?_ | refine g_cond_f rfl ?_)
  cases q2
  rotate_left
  · have hk : kind = 2 := of_decide_eq_true hq2.symm
    have n1 : ¬ kind = 1 := of_decide_eq_false hq1.symm
    have ex : actD x ⟨kind, name, s, k⟩ = turnD x ⟨2, name, s⟩ := by
      simp only [actD]
      rw [if_neg n1]; rw [if_pos hk]
    rw [ex]
    repeat (first | refine g_seq ?_ | refine at_code ?_ | refine g_skip ?_ | refine g_block ?_ | refine g_exit rfl ?_ | refine g_cond_t rfl ?_ | refine g_cond_f rfl ?_)
    refine g_region ?_
    refine gl_f ((s_eql rfl rfl).eq (congrArg Value.bool hq2.symm)) rfl rfl rfl ?_
    refine gl_f (s_assign rfl) rfl rfl rfl ?_
    refine gl_nil ?_
    repeat (first | refine g_seq ?_ | refine at_code ?_ | refine g_skip ?_ | refine g_block ?_ | refine g_exit rfl ?_ | refine g_cond_t rfl ?_ | refine g_cond_f rfl ?_)
    repeat (first | refine g_seq ?_ | refine at_code ?_ | refine g_skip ?_ | refine g_block ?_ | refine g_exit rfl ?_ | refine g_cond_t rfl ?_ | refine g_cond_f rfl ?_)
    refine g_draw [2, 4, 8, 10] [.blk g5 (.cells #[.int .i64 kind, B name, B s, .int .i64 k] 30)] 15 rfl ?_
    refine ga_free 0 rfl (s_move rfl) rfl rfl rfl (by kernel_rfl) ?_
    refine ga_free 1 rfl (by first | exact s_fieldAddr rfl (by rfl) (by infer_instance) (by decide) | exact s_fieldAddr_o rfl (by assumption) (by rfl) (by infer_instance) (by decide)) rfl rfl rfl (by kernel_rfl) ?_
    (first | refine ga_read_k 2 rfl (by first | exact .head _ | exact .tail _ (.head _) | exact .tail _ (.tail _ (.head _)) | exact .tail _ (.tail _ (.tail _ (.head _)))) (s_load_blk rfl .del (by rfl)) (by (first | exact fun _ h => h | (repeat first | exact sub_nil | refine sub_cons (by repeat first | exact List.Mem.head _ | apply List.Mem.tail) ?_))) rfl rfl rfl (by kernel_rfl) ?_ | refine ga_readF 2 rfl (s_load1 rfl (fun w hw => peekB hw (by assumption) (by rfl))) (by (first | exact fun _ h => h | (repeat first | exact sub_nil | refine sub_cons (by repeat first | exact List.Mem.head _ | apply List.Mem.tail) ?_))) rfl rfl rfl (by kernel_rfl) ?_)
    refine ga_free 3 rfl (by first | exact s_fieldAddr rfl (by rfl) (by infer_instance) (by decide) | exact s_fieldAddr_o rfl (by assumption) (by rfl) (by infer_instance) (by decide)) rfl rfl rfl (by kernel_rfl) ?_
    (first | refine ga_read_k 4 rfl (by first | exact .head _ | exact .tail _ (.head _) | exact .tail _ (.tail _ (.head _)) | exact .tail _ (.tail _ (.tail _ (.head _)))) (s_load_blk rfl .del (by rfl)) (by (first | exact fun _ h => h | (repeat first | exact sub_nil | refine sub_cons (by repeat first | exact List.Mem.head _ | apply List.Mem.tail) ?_))) rfl rfl rfl (by kernel_rfl) ?_ | refine ga_readF 4 rfl (s_load1 rfl (fun w hw => peekB hw (by assumption) (by rfl))) (by (first | exact fun _ h => h | (repeat first | exact sub_nil | refine sub_cons (by repeat first | exact List.Mem.head _ | apply List.Mem.tail) ?_))) rfl rfl rfl (by kernel_rfl) ?_)
    refine ga_free 6 rfl (s_move rfl) rfl rfl rfl (by kernel_rfl) ?_
    refine ga_free 7 rfl (by first | exact s_fieldAddr rfl (by rfl) (by infer_instance) (by decide) | exact s_fieldAddr_o rfl (by assumption) (by rfl) (by infer_instance) (by decide)) rfl rfl rfl (by kernel_rfl) ?_
    (first | refine ga_read_k 8 rfl (by first | exact .head _ | exact .tail _ (.head _) | exact .tail _ (.tail _ (.head _)) | exact .tail _ (.tail _ (.tail _ (.head _)))) (s_load_blk rfl .del (by rfl)) (by (first | exact fun _ h => h | (repeat first | exact sub_nil | refine sub_cons (by repeat first | exact List.Mem.head _ | apply List.Mem.tail) ?_))) rfl rfl rfl (by kernel_rfl) ?_ | refine ga_readF 8 rfl (s_load1 rfl (fun w hw => peekB hw (by assumption) (by rfl))) (by (first | exact fun _ h => h | (repeat first | exact sub_nil | refine sub_cons (by repeat first | exact List.Mem.head _ | apply List.Mem.tail) ?_))) rfl rfl rfl (by kernel_rfl) ?_)
    refine ga_free 9 rfl (by first | exact s_fieldAddr rfl (by rfl) (by infer_instance) (by decide) | exact s_fieldAddr_o rfl (by assumption) (by rfl) (by infer_instance) (by decide)) rfl rfl rfl (by kernel_rfl) ?_
    (first | refine ga_read_k 10 rfl (by first | exact .head _ | exact .tail _ (.head _) | exact .tail _ (.tail _ (.head _)) | exact .tail _ (.tail _ (.tail _ (.head _)))) (s_load_blk rfl .del (by rfl)) (by (first | exact fun _ h => h | (repeat first | exact sub_nil | refine sub_cons (by repeat first | exact List.Mem.head _ | apply List.Mem.tail) ?_))) rfl rfl rfl (by kernel_rfl) ?_ | refine ga_readF 10 rfl (s_load1 rfl (fun w hw => peekB hw (by assumption) (by rfl))) (by (first | exact fun _ h => h | (repeat first | exact sub_nil | refine sub_cons (by repeat first | exact List.Mem.head _ | apply List.Mem.tail) ?_))) rfl rfl rfl (by kernel_rfl) ?_)
    refine ga_free 11 rfl (s_build rfl (run_build_struct (places := [(0, 1), (1, 1), (2, 1)]) rfl (by intro f hf; simp at hf; rcases hf with rfl | rfl | rfl <;> rfl) rfl)) rfl rfl rfl (by kernel_rfl) ?_
    refine ga_one 5 rfl (by kernel_rfl) ?_
    refine gl_call [.blk g5 (.cells #[.int .i64 kind, B name, B s, .int .i64 k] 30), .blk r.X (refO x r)] rfl (Put_ct x a name s hI hok hpl hmn hms) (fun w hw => hw.perm (perm_up (by repeat first|exact .del|apply Upd.there) (perm_up (by repeat first|exact .del|apply Upd.there) (perm_up (by repeat first|exact .del|apply Upd.there) (perm_up (by repeat first|exact .del|apply Upd.there) (.refl _)))))) (fun _ _ _ => trivial) rfl ?_; rintro v A ⟨rfl, a', Z, e1, rfl, hok', f1⟩; refine gl_pull (H' := .blk g5 (.cells #[.int .i64 kind, B name, B s, .int .i64 k] 30) :: .blk r.X (refO x r) :: (dskH (turnD x ⟨2, name, s⟩) a' ++ Z)) (fun w hw => hw.perm List.perm_append_comm) ?_
    refine gl_nil ?_
    refine at_ga (.inr (by exact keeps_of (by (first | exact fun _ h => h | (repeat first | exact sub_nil | refine sub_cons (by repeat first | exact List.Mem.head _ | apply List.Mem.tail) ?_))))) ?_
    refine ga_one 12 rfl (by kernel_rfl) ?_
    refine gl_call (.blk g5 (.cells #[.int .i64 kind, B name, B s, .int .i64 k] 30) :: (dskH (turnD x ⟨2, name, s⟩) a' ++ Z)) rfl (rTurnPut_ct x r name s hI hsm hmn hms) (fun w hw => hw.perm (perm_up (by repeat first|exact .del|apply Upd.there) (.refl _))) (fun h hh _ => hF.r.le hh) rfl ?_; rintro v A ⟨rfl, r', Z2, e3, rfl, f2⟩; refine gl_pull (H' := .blk g5 (.cells #[.int .i64 kind, B name, B s, .int .i64 k] 30) :: ((.blk r.X (refO (turnD x ⟨2, name, s⟩) r') :: Z2) ++ (dskH (turnD x ⟨2, name, s⟩) a' ++ Z))) (fun w hw => hw.perm List.perm_middle) ?_
    refine gl_nil ?_
    refine at_ga (.inr (by exact keeps_of (by (first | exact fun _ h => h | (repeat first | exact sub_nil | refine sub_cons (by repeat first | exact List.Mem.head _ | apply List.Mem.tail) ?_))))) ?_
    refine ga_free 13 rfl ((s_eql rfl rfl).eq (v' := .bool true) (by simp)) rfl rfl rfl (by kernel_rfl) ?_
    refine ga_free 14 rfl (s_assign rfl) rfl rfl rfl (by kernel_rfl) ?_
    refine ga_done (by kernel_rfl) ?_
    repeat (first | refine g_seq ?_ | refine at_code ?_ | refine g_skip ?_ | refine g_block ?_ | refine g_exit rfl ?_ | refine g_cond_t rfl ?_ | refine g_cond_f rfl ?_)
    refine g_ret ?_
    refine at_end1 rfl rfl (bothH (turnD x ⟨2, name, s⟩) a' r' ++ (Z ++ Z2)) ⟨rfl, a', r', Z ++ Z2, e1, e3, rfl, hok', both_done f1 f2⟩ (fun w hw => ?_)
    rw [← e3] at hw
    exact Hp.left (hw.perm (perm_act _ _ (dskH (turnD x ⟨2, name, s⟩) a') Z Z2))
  repeat (first | refine g_seq ?_ | refine at_code ?_ | refine g_skip ?_ | refine g_block ?_ | refine g_exit rfl ?_ | refine g_cond_t rfl ?_ | refine g_cond_f rfl ?_)
  refine g_region ?_
  refine gl_f ((s_eql rfl rfl).eq (congrArg Value.bool hq2.symm)) rfl rfl rfl ?_
  refine gl_f (s_assign rfl) rfl rfl rfl ?_
  refine gl_nil ?_
  repeat (first | refine g_seq ?_ | refine at_code ?_ | refine g_skip ?_ | refine g_block ?_ | refine g_exit rfl ?_ | refine g_cond_t rfl ?_ | refine g_cond_f rfl ?_)
  cases q3
  rotate_left
  · have hk : kind = 3 := of_decide_eq_true hq3.symm
    have n1 : ¬ kind = 1 := of_decide_eq_false hq1.symm
    have n2 : ¬ kind = 2 := of_decide_eq_false hq2.symm
    have ex : actD x ⟨kind, name, s, k⟩ = turnD x ⟨3, name, []⟩ := by
      simp only [actD]
      rw [if_neg n1]; rw [if_neg n2]; rw [if_pos hk]
    rw [ex]
    repeat (first | refine g_seq ?_ | refine at_code ?_ | refine g_skip ?_ | refine g_block ?_ | refine g_exit rfl ?_ | refine g_cond_t rfl ?_ | refine g_cond_f rfl ?_)
    refine g_region ?_
    refine gl_f ((s_eql rfl rfl).eq (congrArg Value.bool hq3.symm)) rfl rfl rfl ?_
    refine gl_f (s_assign rfl) rfl rfl rfl ?_
    refine gl_nil ?_
    repeat (first | refine g_seq ?_ | refine at_code ?_ | refine g_skip ?_ | refine g_block ?_ | refine g_exit rfl ?_ | refine g_cond_t rfl ?_ | refine g_cond_f rfl ?_)
    repeat (first | refine g_seq ?_ | refine at_code ?_ | refine g_skip ?_ | refine g_block ?_ | refine g_exit rfl ?_ | refine g_cond_t rfl ?_ | refine g_cond_f rfl ?_)
    refine g_draw [2, 6] [.blk g5 (.cells #[.int .i64 kind, B name, B s, .int .i64 k] 30)] 11 rfl ?_
    refine ga_free 0 rfl (s_move rfl) rfl rfl rfl (by kernel_rfl) ?_
    refine ga_free 1 rfl (by first | exact s_fieldAddr rfl (by rfl) (by infer_instance) (by decide) | exact s_fieldAddr_o rfl (by assumption) (by rfl) (by infer_instance) (by decide)) rfl rfl rfl (by kernel_rfl) ?_
    (first | refine ga_read_k 2 rfl (by first | exact .head _ | exact .tail _ (.head _) | exact .tail _ (.tail _ (.head _)) | exact .tail _ (.tail _ (.tail _ (.head _)))) (s_load_blk rfl .del (by rfl)) (by (first | exact fun _ h => h | (repeat first | exact sub_nil | refine sub_cons (by repeat first | exact List.Mem.head _ | apply List.Mem.tail) ?_))) rfl rfl rfl (by kernel_rfl) ?_ | refine ga_readF 2 rfl (s_load1 rfl (fun w hw => peekB hw (by assumption) (by rfl))) (by (first | exact fun _ h => h | (repeat first | exact sub_nil | refine sub_cons (by repeat first | exact List.Mem.head _ | apply List.Mem.tail) ?_))) rfl rfl rfl (by kernel_rfl) ?_)
    refine ga_free 4 rfl (s_move rfl) rfl rfl rfl (by kernel_rfl) ?_
    refine ga_free 5 rfl (by first | exact s_fieldAddr rfl (by rfl) (by infer_instance) (by decide) | exact s_fieldAddr_o rfl (by assumption) (by rfl) (by infer_instance) (by decide)) rfl rfl rfl (by kernel_rfl) ?_
    (first | refine ga_read_k 6 rfl (by first | exact .head _ | exact .tail _ (.head _) | exact .tail _ (.tail _ (.head _)) | exact .tail _ (.tail _ (.tail _ (.head _)))) (s_load_blk rfl .del (by rfl)) (by (first | exact fun _ h => h | (repeat first | exact sub_nil | refine sub_cons (by repeat first | exact List.Mem.head _ | apply List.Mem.tail) ?_))) rfl rfl rfl (by kernel_rfl) ?_ | refine ga_readF 6 rfl (s_load1 rfl (fun w hw => peekB hw (by assumption) (by rfl))) (by (first | exact fun _ h => h | (repeat first | exact sub_nil | refine sub_cons (by repeat first | exact List.Mem.head _ | apply List.Mem.tail) ?_))) rfl rfl rfl (by kernel_rfl) ?_)
    refine ga_free 7 rfl (s_build rfl (run_build_struct (places := [(0, 1), (1, 1), (2, 1)]) rfl (by intro f hf; simp at hf; rcases hf with rfl | rfl | rfl <;> rfl) rfl)) rfl rfl rfl (by kernel_rfl) ?_
    refine ga_one 3 rfl (by kernel_rfl) ?_
    refine gl_call [.blk g5 (.cells #[.int .i64 kind, B name, B s, .int .i64 k] 30), .blk r.X (refO x r)] rfl (Drop_ct x a name hI hok hpl hmn) (fun w hw => hw.perm (perm_up (by repeat first|exact .del|apply Upd.there) (perm_up (by repeat first|exact .del|apply Upd.there) (perm_up (by repeat first|exact .del|apply Upd.there) (perm_up (by repeat first|exact .del|apply Upd.there) (.refl _)))))) (fun _ _ _ => trivial) rfl ?_; rintro v A ⟨rfl, a', Z, e1, rfl, hok', f1⟩; refine gl_pull (H' := .blk g5 (.cells #[.int .i64 kind, B name, B s, .int .i64 k] 30) :: .blk r.X (refO x r) :: (dskH (turnD x ⟨3, name, []⟩) a' ++ Z)) (fun w hw => hw.perm List.perm_append_comm) ?_
    refine gl_nil ?_
    refine at_ga (.inr (by exact keeps_of (by (first | exact fun _ h => h | (repeat first | exact sub_nil | refine sub_cons (by repeat first | exact List.Mem.head _ | apply List.Mem.tail) ?_))))) ?_
    refine ga_one 8 rfl (by kernel_rfl) ?_
    refine gl_call (.blk g5 (.cells #[.int .i64 kind, B name, B s, .int .i64 k] 30) :: (dskH (turnD x ⟨3, name, []⟩) a' ++ Z)) rfl (rTurnDrop_ct x r name [] hI hsm hmn (by simp)) (fun w hw => hw.perm (perm_up (by repeat first|exact .del|apply Upd.there) (.refl _))) (fun h hh _ => hF.r.le hh) rfl ?_; rintro v A ⟨rfl, r', Z2, e3, rfl, f2⟩; refine gl_pull (H' := .blk g5 (.cells #[.int .i64 kind, B name, B s, .int .i64 k] 30) :: ((.blk r.X (refO (turnD x ⟨3, name, []⟩) r') :: Z2) ++ (dskH (turnD x ⟨3, name, []⟩) a' ++ Z))) (fun w hw => hw.perm List.perm_middle) ?_
    refine gl_nil ?_
    refine at_ga (.inr (by exact keeps_of (by (first | exact fun _ h => h | (repeat first | exact sub_nil | refine sub_cons (by repeat first | exact List.Mem.head _ | apply List.Mem.tail) ?_))))) ?_
    refine ga_free 9 rfl ((s_eql rfl rfl).eq (v' := .bool true) (by simp)) rfl rfl rfl (by kernel_rfl) ?_
    refine ga_free 10 rfl (s_assign rfl) rfl rfl rfl (by kernel_rfl) ?_
    refine ga_done (by kernel_rfl) ?_
    repeat (first | refine g_seq ?_ | refine at_code ?_ | refine g_skip ?_ | refine g_block ?_ | refine g_exit rfl ?_ | refine g_cond_t rfl ?_ | refine g_cond_f rfl ?_)
    refine g_ret ?_
    refine at_end1 rfl rfl (bothH (turnD x ⟨3, name, []⟩) a' r' ++ (Z ++ Z2)) ⟨rfl, a', r', Z ++ Z2, e1, e3, rfl, hok', both_done f1 f2⟩ (fun w hw => ?_)
    rw [← e3] at hw
    exact Hp.left (hw.perm (perm_act _ _ (dskH (turnD x ⟨3, name, []⟩) a') Z Z2))
  repeat (first | refine g_seq ?_ | refine at_code ?_ | refine g_skip ?_ | refine g_block ?_ | refine g_exit rfl ?_ | refine g_cond_t rfl ?_ | refine g_cond_f rfl ?_)
  refine g_region ?_
  refine gl_f ((s_eql rfl rfl).eq (congrArg Value.bool hq3.symm)) rfl rfl rfl ?_
  refine gl_f (s_assign rfl) rfl rfl rfl ?_
  refine gl_nil ?_
  repeat (first | refine g_seq ?_ | refine at_code ?_ | refine g_skip ?_ | refine g_block ?_ | refine g_exit rfl ?_ | refine g_cond_t rfl ?_ | refine g_cond_f rfl ?_)
  cases q4
  rotate_left
  · have hk : kind = 4 := of_decide_eq_true hq4.symm
    have n1 : ¬ kind = 1 := of_decide_eq_false hq1.symm
    have n2 : ¬ kind = 2 := of_decide_eq_false hq2.symm
    have n3 : ¬ kind = 3 := of_decide_eq_false hq3.symm
    have ex : actD x ⟨kind, name, s, k⟩ = syncD x := by
      simp only [actD]
      rw [if_neg n1]; rw [if_neg n2]; rw [if_neg n3]; rw [if_pos hk]
    rw [ex]
    repeat (first | refine g_seq ?_ | refine at_code ?_ | refine g_skip ?_ | refine g_block ?_ | refine g_exit rfl ?_ | refine g_cond_t rfl ?_ | refine g_cond_f rfl ?_)
    refine g_region ?_
    refine gl_f ((s_eql rfl rfl).eq (congrArg Value.bool hq4.symm)) rfl rfl rfl ?_
    refine gl_f (s_assign rfl) rfl rfl rfl ?_
    refine gl_nil ?_
    repeat (first | refine g_seq ?_ | refine at_code ?_ | refine g_skip ?_ | refine g_block ?_ | refine g_exit rfl ?_ | refine g_cond_t rfl ?_ | refine g_cond_f rfl ?_)
    repeat (first | refine g_seq ?_ | refine at_code ?_ | refine g_skip ?_ | refine g_block ?_ | refine g_exit rfl ?_ | refine g_cond_t rfl ?_ | refine g_cond_f rfl ?_)
    refine g_region ?_
    refine gl_f (s_move rfl) rfl rfl rfl ?_
    refine gl_call [.blk g5 (.cells #[.int .i64 kind, B name, B s, .int .i64 k] 30), .blk r.X (refO x r)] rfl (Sync_ct x a hI hok) (fun w hw => hw.perm (perm_up (by repeat first|exact .del|apply Upd.there) (perm_up (by repeat first|exact .del|apply Upd.there) (perm_up (by repeat first|exact .del|apply Upd.there) (perm_up (by repeat first|exact .del|apply Upd.there) (.refl _)))))) (fun _ _ _ => trivial) rfl ?_; rintro v A ⟨rfl, a', Z, e1, rfl, hok', f1⟩; refine gl_pull (H' := .blk g5 (.cells #[.int .i64 kind, B name, B s, .int .i64 k] 30) :: .blk r.X (refO x r) :: (dskH (syncD x) a' ++ Z)) (fun w hw => hw.perm List.perm_append_comm) ?_
    refine gl_f (s_move rfl) rfl rfl rfl ?_
    refine gl_call (.blk g5 (.cells #[.int .i64 kind, B name, B s, .int .i64 k] 30) :: (dskH (syncD x) a' ++ Z)) rfl (rSync_ct x r hI) (fun w hw => hw.perm (perm_up (by repeat first|exact .del|apply Upd.there) (.refl _))) (fun h hh _ => hF.r.le hh) rfl ?_; rintro v A ⟨rfl, r', Z2, e3, rfl, f2⟩; refine gl_pull (H' := .blk g5 (.cells #[.int .i64 kind, B name, B s, .int .i64 k] 30) :: ((.blk r.X (refO (syncD x) r') :: Z2) ++ (dskH (syncD x) a' ++ Z))) (fun w hw => hw.perm List.perm_middle) ?_
    refine gl_f ((s_eql rfl rfl).eq (v' := .bool true) (by simp)) rfl rfl rfl ?_
    refine gl_f (s_assign rfl) rfl rfl rfl ?_
    refine gl_nil ?_
    repeat (first | refine g_seq ?_ | refine at_code ?_ | refine g_skip ?_ | refine g_block ?_ | refine g_exit rfl ?_ | refine g_cond_t rfl ?_ | refine g_cond_f rfl ?_)
    refine g_ret ?_
    refine at_end1 rfl rfl (bothH (syncD x) a' r' ++ (Z ++ Z2)) ⟨rfl, a', r', Z ++ Z2, e1, e3, rfl, hok', both_done f1 f2⟩ (fun w hw => ?_)
    rw [← e3] at hw
    exact Hp.left (hw.perm (perm_act _ _ (dskH (syncD x) a') Z Z2))
  repeat (first | refine g_seq ?_ | refine at_code ?_ | refine g_skip ?_ | refine g_block ?_ | refine g_exit rfl ?_ | refine g_cond_t rfl ?_ | refine g_cond_f rfl ?_)
  refine g_region ?_
  refine gl_f ((s_eql rfl rfl).eq (congrArg Value.bool hq4.symm)) rfl rfl rfl ?_
  refine gl_f (s_assign rfl) rfl rfl rfl ?_
  refine gl_nil ?_
  repeat (first | refine g_seq ?_ | refine at_code ?_ | refine g_skip ?_ | refine g_block ?_ | refine g_exit rfl ?_ | refine g_cond_t rfl ?_ | refine g_cond_f rfl ?_)
  cases q5
  rotate_left
  · have hk : kind = 5 := of_decide_eq_true hq5.symm
    have n1 : ¬ kind = 1 := of_decide_eq_false hq1.symm
    have n2 : ¬ kind = 2 := of_decide_eq_false hq2.symm
    have n3 : ¬ kind = 3 := of_decide_eq_false hq3.symm
    have n4 : ¬ kind = 4 := of_decide_eq_false hq4.symm
    have ex : actD x ⟨kind, name, s, k⟩ = x := by
      simp only [actD]
      rw [if_neg n1]; rw [if_neg n2]; rw [if_neg n3]; rw [if_neg n4]; rw [if_pos hk]
    rw [ex]
    repeat (first | refine g_seq ?_ | refine at_code ?_ | refine g_skip ?_ | refine g_block ?_ | refine g_exit rfl ?_ | refine g_cond_t rfl ?_ | refine g_cond_f rfl ?_)
    refine g_region ?_
    refine gl_f ((s_eql rfl rfl).eq (congrArg Value.bool hq5.symm)) rfl rfl rfl ?_
    refine gl_f (s_assign rfl) rfl rfl rfl ?_
    refine gl_nil ?_
    repeat (first | refine g_seq ?_ | refine at_code ?_ | refine g_skip ?_ | refine g_block ?_ | refine g_exit rfl ?_ | refine g_cond_t rfl ?_ | refine g_cond_f rfl ?_)
    repeat (first | refine g_seq ?_ | refine at_code ?_ | refine g_skip ?_ | refine g_block ?_ | refine g_exit rfl ?_ | refine g_cond_t rfl ?_ | refine g_cond_f rfl ?_)
    refine g_region ?_
    refine gl_f (s_move rfl) rfl rfl rfl ?_
    refine gl_f (by first | exact s_fieldAddr rfl (by rfl) (by infer_instance) (by decide) | exact s_fieldAddr_o rfl (by assumption) (by rfl) (by infer_instance) (by decide)) rfl rfl rfl ?_
    refine gl_r (by first | exact s_load_blk rfl (by repeat first|exact .del|apply Upd.there) (by rfl) | exact s_load1 rfl (fun w hw => peekB hw (by assumption) (by rfl))) rfl rfl rfl ?_
    refine gl_callp rfl (Read_ct x a name hok.seen hI.seen) (fun h hh ⟨bs, hb⟩ => ⟨Sat.blk hb (by repeat first|exact .del|apply Upd.there), Sat.blk hb (by repeat first|exact .del|apply Upd.there)⟩) rfl ?_
    refine gl_f (s_move rfl) rfl rfl rfl ?_
    refine gl_f (s_extract rfl rfl) rfl rfl rfl ?_
    refine gl_f (s_extract rfl rfl) rfl rfl rfl ?_
    refine gl_f (s_assign rfl) rfl rfl rfl ?_
    refine gl_f (s_assign rfl) rfl rfl rfl ?_
    refine gl_nil ?_
    repeat (first | refine g_seq ?_ | refine at_code ?_ | refine g_skip ?_ | refine g_block ?_ | refine g_exit rfl ?_ | refine g_cond_t rfl ?_ | refine g_cond_f rfl ?_)
    repeat (first | refine g_seq ?_ | refine at_code ?_ | refine g_skip ?_ | refine g_block ?_ | refine g_exit rfl ?_ | refine g_cond_t rfl ?_ | refine g_cond_f rfl ?_)
    refine g_region ?_
    refine gl_f (s_move rfl) rfl rfl rfl ?_
    refine gl_f (by first | exact s_fieldAddr rfl (by rfl) (by infer_instance) (by decide) | exact s_fieldAddr_o rfl (by assumption) (by rfl) (by infer_instance) (by decide)) rfl rfl rfl ?_
    refine gl_r (by first | exact s_load_blk rfl (by repeat first|exact .del|apply Upd.there) (by rfl) | exact s_load1 rfl (fun w hw => peekB hw (by assumption) (by rfl))) rfl rfl rfl ?_
    refine gl_callp rfl (rRead_ct x r name (Nat.le_trans hsm.seen (by decide))) (fun h hh ⟨bs, hb⟩ => ⟨Sat.blk hb (by repeat first|exact .del|apply Upd.there), hF.r.le hh⟩) rfl ?_
    refine gl_f (s_move rfl) rfl rfl rfl ?_
    refine gl_f (s_extract rfl rfl) rfl rfl rfl ?_
    refine gl_f (s_extract rfl rfl) rfl rfl rfl ?_
    refine gl_f (s_assign rfl) rfl rfl rfl ?_
    refine gl_f (s_assign rfl) rfl rfl rfl ?_
    refine gl_nil ?_
    repeat (first | refine g_seq ?_ | refine at_code ?_ | refine g_skip ?_ | refine g_block ?_ | refine g_exit rfl ?_ | refine g_cond_t rfl ?_ | refine g_cond_f rfl ?_)
    repeat (first | refine g_seq ?_ | refine at_code ?_ | refine g_skip ?_ | refine g_block ?_ | refine g_exit rfl ?_ | refine g_cond_t rfl ?_ | refine g_cond_f rfl ?_)
    refine g_region ?_
    refine gl_f (s_move rfl) rfl rfl rfl ?_
    refine gl_f (s_move rfl) rfl rfl rfl ?_
    refine gl_f ((s_eql_str rfl rfl).eq (v' := .bool true) (by simp)) rfl rfl rfl ?_
    refine gl_f (s_move rfl) rfl rfl rfl ?_
    (first | refine gl_guard_no rfl rfl rfl rfl rfl rfl rfl ?_ | refine gl_guard_un rfl rfl rfl rfl rfl rfl ?_ | (refine gl_guard_yes rfl rfl rfl ?_; refine gl_f (s_move rfl) rfl rfl rfl ?_))
    (first | refine gl_guard_no rfl rfl rfl rfl rfl rfl rfl ?_ | refine gl_guard_un rfl rfl rfl rfl rfl rfl ?_ | (refine gl_guard_yes rfl rfl rfl ?_; refine gl_f (s_move rfl) rfl rfl rfl ?_))
    (first | refine gl_guard_no rfl rfl rfl rfl rfl rfl rfl ?_ | refine gl_guard_un rfl rfl rfl rfl rfl rfl ?_ | (refine gl_guard_yes rfl rfl rfl ?_; refine gl_f ((s_eql rfl rfl).eq (v' := .bool true) (by simp)) rfl rfl rfl ?_))
    refine gl_f (by first | exact s_pick_t rfl rfl | exact s_pick_f rfl rfl) rfl rfl rfl ?_
    refine gl_f (s_assign rfl) rfl rfl rfl ?_
    refine gl_nil ?_
    repeat (first | refine g_seq ?_ | refine at_code ?_ | refine g_skip ?_ | refine g_block ?_ | refine g_exit rfl ?_ | refine g_cond_t rfl ?_ | refine g_cond_f rfl ?_)
    refine g_ret ?_
    exact at_end1 rfl rfl (bothH x a r ++ []) ⟨rfl, a, r, [], rfl, rfl, rfl, hok, fun h f _ => f⟩ (fun w hw => hw.drop)
  repeat (first | refine g_seq ?_ | refine at_code ?_ | refine g_skip ?_ | refine g_block ?_ | refine g_exit rfl ?_ | refine g_cond_t rfl ?_ | refine g_cond_f rfl ?_)
  refine g_region ?_
  refine gl_f ((s_eql rfl rfl).eq (congrArg Value.bool hq5.symm)) rfl rfl rfl ?_
  refine gl_f (s_assign rfl) rfl rfl rfl ?_
  refine gl_nil ?_
  repeat (first | refine g_seq ?_ | refine at_code ?_ | refine g_skip ?_ | refine g_block ?_ | refine g_exit rfl ?_ | refine g_cond_t rfl ?_ | refine g_cond_f rfl ?_)
  cases q6
  rotate_left
  · have hk : kind = 6 := of_decide_eq_true hq6.symm
    have n1 : ¬ kind = 1 := of_decide_eq_false hq1.symm
    have n2 : ¬ kind = 2 := of_decide_eq_false hq2.symm
    have n3 : ¬ kind = 3 := of_decide_eq_false hq3.symm
    have n4 : ¬ kind = 4 := of_decide_eq_false hq4.symm
    have n5 : ¬ kind = 5 := of_decide_eq_false hq5.symm
    have ex : actD x ⟨kind, name, s, k⟩ = fuseD x k := by
      simp only [actD]
      rw [if_neg n1]; rw [if_neg n2]; rw [if_neg n3]; rw [if_neg n4]; rw [if_neg n5]; rw [if_pos hk]
    rw [ex]
    repeat (first | refine g_seq ?_ | refine at_code ?_ | refine g_skip ?_ | refine g_block ?_ | refine g_exit rfl ?_ | refine g_cond_t rfl ?_ | refine g_cond_f rfl ?_)
    refine g_region ?_
    refine gl_f ((s_eql rfl rfl).eq (congrArg Value.bool hq6.symm)) rfl rfl rfl ?_
    refine gl_f (s_assign rfl) rfl rfl rfl ?_
    refine gl_nil ?_
    repeat (first | refine g_seq ?_ | refine at_code ?_ | refine g_skip ?_ | refine g_block ?_ | refine g_exit rfl ?_ | refine g_cond_t rfl ?_ | refine g_cond_f rfl ?_)
    repeat (first | refine g_seq ?_ | refine at_code ?_ | refine g_skip ?_ | refine g_block ?_ | refine g_exit rfl ?_ | refine g_cond_t rfl ?_ | refine g_cond_f rfl ?_)
    refine g_region ?_
    refine gl_f (s_move rfl) rfl rfl rfl ?_
    refine gl_f (by first | exact s_fieldAddr rfl (by rfl) (by infer_instance) (by decide) | exact s_fieldAddr_o rfl (by assumption) (by rfl) (by infer_instance) (by decide)) rfl rfl rfl ?_
    refine gl_r (by first | exact s_load_blk rfl (by repeat first|exact .del|apply Upd.there) (by rfl) | exact s_load1 rfl (fun w hw => peekB hw (by assumption) (by rfl))) rfl rfl rfl ?_
    refine gl_call [.blk g5 (.cells #[.int .i64 kind, B name, B s, .int .i64 k] 30), .blk r.X (refO x r)] rfl (Fuse_ct x a k hok) (fun w hw => hw.perm (perm_up (by repeat first|exact .del|apply Upd.there) (perm_up (by repeat first|exact .del|apply Upd.there) (perm_up (by repeat first|exact .del|apply Upd.there) (perm_up (by repeat first|exact .del|apply Upd.there) (.refl _)))))) (fun _ _ _ => trivial) rfl ?_; rintro v A ⟨rfl, rfl⟩
    refine gl_nil ?_
    repeat (first | refine g_seq ?_ | refine at_code ?_ | refine g_skip ?_ | refine g_block ?_ | refine g_exit rfl ?_ | refine g_cond_t rfl ?_ | refine g_cond_f rfl ?_)
    repeat (first | refine g_seq ?_ | refine at_code ?_ | refine g_skip ?_ | refine g_block ?_ | refine g_exit rfl ?_ | refine g_cond_t rfl ?_ | refine g_cond_f rfl ?_)
    refine g_region ?_
    refine gl_f (s_move rfl) rfl rfl rfl ?_
    refine gl_f (by first | exact s_fieldAddr rfl (by rfl) (by infer_instance) (by decide) | exact s_fieldAddr_o rfl (by assumption) (by rfl) (by infer_instance) (by decide)) rfl rfl rfl ?_
    refine gl_r (by first | exact s_load_blk rfl (by repeat first|exact .del|apply Upd.there) (by rfl) | exact s_load1 rfl (fun w hw => peekB hw (by assumption) (by rfl))) rfl rfl rfl ?_
    refine gl_call (dskH (fuseD x k) a ++ [.blk g5 (.cells #[.int .i64 kind, B name, B s, .int .i64 k] 30)]) rfl (rFuse_ct x r k) (fun w hw => hw.perm (perm_up (by repeat first|exact .del|apply Upd.there) (.refl _))) (fun _ _ _ => trivial) rfl ?_; rintro v A ⟨rfl, rfl⟩
    refine gl_nil ?_
    repeat (first | refine g_seq ?_ | refine at_code ?_ | refine g_skip ?_ | refine g_block ?_ | refine g_exit rfl ?_ | refine g_cond_t rfl ?_ | refine g_cond_f rfl ?_)
    repeat (first | refine g_seq ?_ | refine at_code ?_ | refine g_skip ?_ | refine g_block ?_ | refine g_exit rfl ?_ | refine g_cond_t rfl ?_ | refine g_cond_f rfl ?_)
    refine g_region ?_
    refine gl_f (s_assign rfl) rfl rfl rfl ?_
    refine gl_nil ?_
    repeat (first | refine g_seq ?_ | refine at_code ?_ | refine g_skip ?_ | refine g_block ?_ | refine g_exit rfl ?_ | refine g_cond_t rfl ?_ | refine g_cond_f rfl ?_)
    refine g_ret ?_
    exact at_end1 rfl rfl (bothH (fuseD x k) a r ++ []) ⟨rfl, a, r, [], rfl, rfl, rfl, ⟨hok.seen, hok.lasts, hok.pl⟩, fun h f _ => ⟨f.p, ⟨f.r.seen, f.r.lasts, f.r.pend⟩⟩⟩ (fun w hw => Hp.left (hw.perm (perm_up (by repeat first|exact .del|apply Upd.there) (perm_up (by repeat first|exact .del|apply Upd.there) (perm_up (by repeat first|exact .del|apply Upd.there) (perm_up (by repeat first|exact .del|apply Upd.there) (perm_up (by repeat first|exact .del|apply Upd.there) (.refl _))))))))
  repeat (first | refine g_seq ?_ | refine at_code ?_ | refine g_skip ?_ | refine g_block ?_ | refine g_exit rfl ?_ | refine g_cond_t rfl ?_ | refine g_cond_f rfl ?_)
  refine g_region ?_
  refine gl_f ((s_eql rfl rfl).eq (congrArg Value.bool hq6.symm)) rfl rfl rfl ?_
  refine gl_f (s_assign rfl) rfl rfl rfl ?_
  refine gl_nil ?_
  repeat (first | refine g_seq ?_ | refine at_code ?_ | refine g_skip ?_ | refine g_block ?_ | refine g_exit rfl ?_ | refine g_cond_t rfl ?_ | refine g_cond_f rfl ?_)
  cases q7
  rotate_left
  · have hk : kind = 7 := of_decide_eq_true hq7.symm
    have n1 : ¬ kind = 1 := of_decide_eq_false hq1.symm
    have n2 : ¬ kind = 2 := of_decide_eq_false hq2.symm
    have n3 : ¬ kind = 3 := of_decide_eq_false hq3.symm
    have n4 : ¬ kind = 4 := of_decide_eq_false hq4.symm
    have n5 : ¬ kind = 5 := of_decide_eq_false hq5.symm
    have n6 : ¬ kind = 6 := of_decide_eq_false hq6.symm
    have ex : actD x ⟨kind, name, s, k⟩ = crashD x k := by
      simp only [actD]
      rw [if_neg n1]; rw [if_neg n2]; rw [if_neg n3]; rw [if_neg n4]; rw [if_neg n5]; rw [if_neg n6]; rw [if_pos hk]
    rw [ex]
    repeat (first | refine g_seq ?_ | refine at_code ?_ | refine g_skip ?_ | refine g_block ?_ | refine g_exit rfl ?_ | refine g_cond_t rfl ?_ | refine g_cond_f rfl ?_)
    refine g_region ?_
    refine gl_f ((s_eql rfl rfl).eq (congrArg Value.bool hq7.symm)) rfl rfl rfl ?_
    refine gl_f (s_assign rfl) rfl rfl rfl ?_
    refine gl_nil ?_
    repeat (first | refine g_seq ?_ | refine at_code ?_ | refine g_skip ?_ | refine g_block ?_ | refine g_exit rfl ?_ | refine g_cond_t rfl ?_ | refine g_cond_f rfl ?_)
    repeat (first | refine g_seq ?_ | refine at_code ?_ | refine g_skip ?_ | refine g_block ?_ | refine g_exit rfl ?_ | refine g_cond_t rfl ?_ | refine g_cond_f rfl ?_)
    refine g_draw [2, 6] [.blk g5 (.cells #[.int .i64 kind, B name, B s, .int .i64 k] 30)] 10 rfl ?_
    refine ga_free 0 rfl (s_move rfl) rfl rfl rfl (by kernel_rfl) ?_
    refine ga_free 1 rfl (by first | exact s_fieldAddr rfl (by rfl) (by infer_instance) (by decide) | exact s_fieldAddr_o rfl (by assumption) (by rfl) (by infer_instance) (by decide)) rfl rfl rfl (by kernel_rfl) ?_
    (first | refine ga_read_k 2 rfl (by first | exact .head _ | exact .tail _ (.head _) | exact .tail _ (.tail _ (.head _)) | exact .tail _ (.tail _ (.tail _ (.head _)))) (s_load_blk rfl .del (by rfl)) (by (first | exact fun _ h => h | (repeat first | exact sub_nil | refine sub_cons (by repeat first | exact List.Mem.head _ | apply List.Mem.tail) ?_))) rfl rfl rfl (by kernel_rfl) ?_ | refine ga_readF 2 rfl (s_load1 rfl (fun w hw => peekB hw (by assumption) (by rfl))) (by (first | exact fun _ h => h | (repeat first | exact sub_nil | refine sub_cons (by repeat first | exact List.Mem.head _ | apply List.Mem.tail) ?_))) rfl rfl rfl (by kernel_rfl) ?_)
    refine ga_free 4 rfl (s_move rfl) rfl rfl rfl (by kernel_rfl) ?_
    refine ga_free 5 rfl (by first | exact s_fieldAddr rfl (by rfl) (by infer_instance) (by decide) | exact s_fieldAddr_o rfl (by assumption) (by rfl) (by infer_instance) (by decide)) rfl rfl rfl (by kernel_rfl) ?_
    (first | refine ga_read_k 6 rfl (by first | exact .head _ | exact .tail _ (.head _) | exact .tail _ (.tail _ (.head _)) | exact .tail _ (.tail _ (.tail _ (.head _)))) (s_load_blk rfl .del (by rfl)) (by (first | exact fun _ h => h | (repeat first | exact sub_nil | refine sub_cons (by repeat first | exact List.Mem.head _ | apply List.Mem.tail) ?_))) rfl rfl rfl (by kernel_rfl) ?_ | refine ga_readF 6 rfl (s_load1 rfl (fun w hw => peekB hw (by assumption) (by rfl))) (by (first | exact fun _ h => h | (repeat first | exact sub_nil | refine sub_cons (by repeat first | exact List.Mem.head _ | apply List.Mem.tail) ?_))) rfl rfl rfl (by kernel_rfl) ?_)
    refine ga_one 3 rfl (by kernel_rfl) ?_
    refine gl_call [.blk g5 (.cells #[.int .i64 kind, B name, B s, .int .i64 k] 30), .blk r.X (refO x r)] rfl (Ct.post_mono (Crash_ct x a k hI hok hpl hmk) (fun v A h => CrP.dp h)) (fun w hw => hw.perm (perm_up (by repeat first|exact .del|apply Upd.there) (perm_up (by repeat first|exact .del|apply Upd.there) (perm_up (by repeat first|exact .del|apply Upd.there) (perm_up (by repeat first|exact .del|apply Upd.there) (.refl _)))))) (fun h hh _ p hp => (hF.p p hp).le hh) rfl ?_; rintro v A ⟨rfl, a', Z, e1, rfl, hok', f1⟩; refine gl_pull (H' := .blk g5 (.cells #[.int .i64 kind, B name, B s, .int .i64 k] 30) :: .blk r.X (refO x r) :: (dskH (crashD x k) a' ++ Z)) (fun w hw => hw.perm List.perm_append_comm) ?_
    refine gl_nil ?_
    refine at_ga (.inr (by exact keeps_of (by (first | exact fun _ h => h | (repeat first | exact sub_nil | refine sub_cons (by repeat first | exact List.Mem.head _ | apply List.Mem.tail) ?_))))) ?_
    refine ga_one 7 rfl (by kernel_rfl) ?_
    refine gl_call (.blk g5 (.cells #[.int .i64 kind, B name, B s, .int .i64 k] 30) :: (dskH (crashD x k) a' ++ Z)) rfl (rCrash_ct x r k hI hsm hmk) (fun w hw => hw.perm (perm_up (by repeat first|exact .del|apply Upd.there) (.refl _))) (fun h hh _ => hF.r.le hh) rfl ?_; rintro v A ⟨rfl, r', Z2, e3, rfl, f2⟩; refine gl_pull (H' := .blk g5 (.cells #[.int .i64 kind, B name, B s, .int .i64 k] 30) :: ((.blk r.X (refO (crashD x k) r') :: Z2) ++ (dskH (crashD x k) a' ++ Z))) (fun w hw => hw.perm List.perm_middle) ?_
    refine gl_nil ?_
    refine at_ga (.inr (by exact keeps_of (by (first | exact fun _ h => h | (repeat first | exact sub_nil | refine sub_cons (by repeat first | exact List.Mem.head _ | apply List.Mem.tail) ?_))))) ?_
    refine ga_free 8 rfl ((s_eql rfl rfl).eq (v' := .bool true) (by simp)) rfl rfl rfl (by kernel_rfl) ?_
    refine ga_free 9 rfl (s_assign rfl) rfl rfl rfl (by kernel_rfl) ?_
    refine ga_done (by kernel_rfl) ?_
    repeat (first | refine g_seq ?_ | refine at_code ?_ | refine g_skip ?_ | refine g_block ?_ | refine g_exit rfl ?_ | refine g_cond_t rfl ?_ | refine g_cond_f rfl ?_)
    refine g_ret ?_
    refine at_end1 rfl rfl (bothH (crashD x k) a' r' ++ (Z ++ Z2)) ⟨rfl, a', r', Z ++ Z2, e1, e3, rfl, hok', both_done f1 f2⟩ (fun w hw => ?_)
    rw [← e3] at hw
    exact Hp.left (hw.perm (perm_act _ _ (dskH (crashD x k) a') Z Z2))
  repeat (first | refine g_seq ?_ | refine at_code ?_ | refine g_skip ?_ | refine g_block ?_ | refine g_exit rfl ?_ | refine g_cond_t rfl ?_ | refine g_cond_f rfl ?_)
  refine g_region ?_
  refine gl_f ((s_eql rfl rfl).eq (congrArg Value.bool hq7.symm)) rfl rfl rfl ?_
  refine gl_f (s_assign rfl) rfl rfl rfl ?_
  refine gl_nil ?_
  repeat (first | refine g_seq ?_ | refine at_code ?_ | refine g_skip ?_ | refine g_block ?_ | refine g_exit rfl ?_ | refine g_cond_t rfl ?_ | refine g_cond_f rfl ?_)
  have n1 : ¬ kind = 1 := of_decide_eq_false hq1.symm
  have n2 : ¬ kind = 2 := of_decide_eq_false hq2.symm
  have n3 : ¬ kind = 3 := of_decide_eq_false hq3.symm
  have n4 : ¬ kind = 4 := of_decide_eq_false hq4.symm
  have n5 : ¬ kind = 5 := of_decide_eq_false hq5.symm
  have n6 : ¬ kind = 6 := of_decide_eq_false hq6.symm
  have n7 : ¬ kind = 7 := of_decide_eq_false hq7.symm
  have ex : actD x ⟨kind, name, s, k⟩ = x := by
    simp only [actD]
    rw [if_neg n1]; rw [if_neg n2]; rw [if_neg n3]; rw [if_neg n4]; rw [if_neg n5]; rw [if_neg n6]; rw [if_neg n7]
  rw [ex]
  repeat (first | refine g_seq ?_ | refine at_code ?_ | refine g_skip ?_ | refine g_block ?_ | refine g_exit rfl ?_ | refine g_cond_t rfl ?_ | refine g_cond_f rfl ?_)
  refine g_region ?_
  refine gl_f (s_assign rfl) rfl rfl rfl ?_
  refine gl_nil ?_
  repeat (first | refine g_seq ?_ | refine at_code ?_ | refine g_skip ?_ | refine g_block ?_ | refine g_exit rfl ?_ | refine g_cond_t rfl ?_ | refine g_cond_f rfl ?_)
  refine g_ret ?_
  exact at_end1 rfl rfl (bothH x a r ++ []) ⟨rfl, a, r, [], rfl, rfl, rfl, hok, fun h f _ => f⟩ (fun w hw => hw.drop)
end Go.Proofs.Ytolgclfbllcjhaa
