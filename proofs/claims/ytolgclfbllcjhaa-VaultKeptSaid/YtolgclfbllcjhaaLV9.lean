/- The vault's program: Keep. -/
import Derived.Test.YtolgclfbllcjhaaLVLawB
namespace Go.Proofs.Ytolgclfbllcjhaa.Vt
open Go Go.Sl
set_option linter.unusedVariables false
set_option linter.unusedSimpArgs false

def kpX (ds : List Bs) (x : DM) : DM × Nat × Int := kpG ds x (allL x.seen) 0
theorem drop_get {l : List Bs} {k : Nat} (hk : k < l.length) : l.drop k = l.getD k [] :: l.drop (k + 1) := by
  rw [List.drop_eq_getElem_cons hk]; simp [hk]
theorem perm_keep {α : Type} (g o : α) (D Z1 Z : List α) : ((D ++ Z1) ++ (g :: o :: Z)).Perm (g :: (D ++ (o :: (Z1 ++ Z)))) := by
  rw [List.append_assoc]
  refine List.Perm.trans ((List.perm_middle (l₁ := Z1)).append_left D) ?_
  refine List.Perm.trans List.perm_middle ?_
  exact ((List.perm_middle (l₁ := Z1)).append_left D).cons g
set_option maxRecDepth 8000 in
set_option maxHeartbeats 2000000 in
theorem Keep_ct (x0 : DM) (a0 : DA) (V n0 : Nat) (ds : List Bs) (da : Option Addr) (dc : Nat) (hw0 : Wf x0 n0) (hn : n0 ≤ 400000) (hok0 : DOk x0 a0) (hds : ds.length ≤ 1000000000000) :
    Ct Try.prog 41 [Ptr V, .slice da ds.length dc] (fun h => h V = some (VO a0) ∧ RdS h da (stV ds)) (dskH x0 a0) (VP (kpX ds x0).1 a0 (.tuple #[.int .i64 ((kpX ds x0).2.1 : Nat), .int .i64 (kpX ds x0).2.2])) := by
  have hal := all_len x0.seen
  have hsl := hw0.seen
  obtain ⟨al, hale⟩ : ∃ al, al = allL x0.seen := ⟨_, rfl⟩
  have hkx : kpX ds x0 = kpG ds x0 al 0 := by rw [hale]; rfl
  rw [hkx]
  have hal' : al.length ≤ 400000 := by rw [hale]; omega
  refine ct_enter 44 Try.func41 rfl rfl rfl ?_
  intro F hF
  have hv := hF.1
  have hrd := hF.2
  repeat (first | refine g_seq ?_ | refine at_code ?_ | refine g_skip ?_ | refine g_block ?_ | refine g_exit rfl ?_ | refine g_cond_t rfl ?_ | refine g_cond_f rfl ?_)
  refine g_region ?_
  refine gl_f (s_assign rfl) rfl rfl rfl ?_
  refine gl_f (s_assign rfl) rfl rfl rfl ?_
  refine gl_nil ?_
  repeat (first | refine g_seq ?_ | refine at_code ?_ | refine g_skip ?_ | refine g_block ?_ | refine g_exit rfl ?_ | refine g_cond_t rfl ?_ | refine g_cond_f rfl ?_)
  refine g_region ?_
  refine gl_f (s_move rfl) rfl rfl rfl ?_
  refine gl_f (s_eql_ptr rfl rfl) rfl rfl rfl ?_
  refine gl_nil ?_
  repeat (first | refine g_seq ?_ | refine at_code ?_ | refine g_skip ?_ | refine g_block ?_ | refine g_exit rfl ?_ | refine g_cond_t rfl ?_ | refine g_cond_f rfl ?_)
  refine g_region ?_
  refine gl_f (s_assign rfl) rfl rfl rfl ?_
  refine gl_nil ?_
  repeat (first | refine g_seq ?_ | refine at_code ?_ | refine g_skip ?_ | refine g_block ?_ | refine g_exit rfl ?_ | refine g_cond_t rfl ?_ | refine g_cond_f rfl ?_)
  repeat (first | refine g_seq ?_ | refine at_code ?_ | refine g_skip ?_ | refine g_block ?_ | refine g_exit rfl ?_ | refine g_cond_t rfl ?_ | refine g_cond_f rfl ?_)
  refine g_region ?_
  refine gl_f (s_move rfl) rfl rfl rfl ?_
  refine gl_call _ rfl (All_ct x0 a0 V n0 hw0 (by omega) hok0) (fun w hw => hw) (fun h hh ⟨bs, hb⟩ => ⟨⟨Sat.blk hb (by repeat first|exact .del|apply Upd.there), Sat.blk hb (by repeat first|exact .del|apply Upd.there)⟩, hh _ _ hv⟩) rfl ?_; rw [← hale]; rintro v A ⟨na, nc, rfl, rfl⟩
  refine gl_f (s_len_sl rfl) rfl rfl rfl ?_
  refine gl_f (s_move rfl) rfl rfl rfl ?_
  refine gl_nil ?_
  repeat (first | refine g_seq ?_ | refine at_code ?_ | refine g_skip ?_ | refine g_block ?_ | refine g_exit rfl ?_ | refine g_cond_t rfl ?_ | refine g_cond_f rfl ?_)
  refine g_ownN (a := na) (by repeat first|exact .del|apply Upd.there) (fun _ _ hna => ?_)
  refine g_loop (ι := Nat × DM × DA × Nat × List As) (fun i => KI ds x0 a0 n0 i.1 i.2.1 i.2.2.1 i.2.2.2.1 i.2.2.2.2) (fun i => [(0, Ptr V), (1, .slice da ds.length dc), (6, .int .i64 (i.2.2.2.1 : Nat)), (13, .slice na al.length nc), (14, .int .i64 (al.length : Nat)), (15, .int .i64 (i.1 : Nat))]) (fun i => dskH i.2.1 i.2.2.1 ++ (OwnB na al nc :: i.2.2.2.2)) (fun i => al.length - i.1) (0, x0, a0, 0, []) ⟨Nat.zero_le _, Nat.le_refl _, rfl, hw0, hok0, rfl, fun h f _ => f⟩ ?_ ?_ ?_
  · (repeat (first | exact Sub.nil _ | refine Sub.cons rfl ?_))
  · intro w hw; exact hw.perm (perm_up (by repeat first|exact .del|apply Upd.there) (perm_up (by repeat first|exact .del|apply Upd.there) (perm_up (by repeat first|exact .del|apply Upd.there) (perm_up (by repeat first|exact .del|apply Upd.there) (perm_up (by repeat first|exact .del|apply Upd.there) (.refl _))))))
  rintro ⟨k, x, a, n, Z⟩ hK
  have hk := hK.kl
  have hnk := hK.nl
  have hgo := hK.go
  have hwf := hK.wf
  have hok := hK.ok
  have hD := hK.D
  have hpc := hK.pc
  rw [← hale] at hk hgo
  simp only at hk hnk hgo hwf hok hD hpc
  rw [hgo]
  repeat (first | refine g_seq ?_ | refine at_code ?_ | refine g_skip ?_ | refine g_block ?_ | refine g_exit rfl ?_ | refine g_cond_t rfl ?_ | refine g_cond_f rfl ?_)
  refine g_region ?_
  refine gl_f (s_lss rfl rfl) rfl rfl rfl ?_
  refine gl_nil ?_
  repeat (first | refine g_seq ?_ | refine at_code ?_ | refine g_skip ?_ | refine g_block ?_ | refine g_exit rfl ?_ | refine g_cond_t rfl ?_ | refine g_cond_f rfl ?_)
  refine g_cond rfl (fun h => ?_) (fun h => ?_)
  rotate_left
  · have hkl : k = al.length := by simp at h; omega
    have hd0 : al.drop k = [] := by rw [hkl, List.drop_length]
    rw [hd0]
    have hfin : ∀ h, (∀ p ∈ a0.pl, PcOk h p) → (∃ bs, Sat h (OwnB na al nc :: Z) bs) → ∀ p ∈ a.pl, PcOk h p := fun h f hs => hpc h f (by
      obtain ⟨bs, b1, b2, _, _, h2⟩ := hs
      exact ⟨b2, h2⟩)
    repeat (first | refine g_seq ?_ | refine at_code ?_ | refine g_skip ?_ | refine g_block ?_ | refine g_exit rfl ?_ | refine g_cond_t rfl ?_ | refine g_cond_f rfl ?_)
    by_cases h0 : n = 0
    · have e1 : kpG ds x [] n = (x, 0, 0) := by rw [kpG, if_pos h0]
      rw [e1]
      repeat (first | refine g_seq ?_ | refine at_code ?_ | refine g_skip ?_ | refine g_block ?_ | refine g_exit rfl ?_ | refine g_cond_t rfl ?_ | refine g_cond_f rfl ?_)
      refine g_region ?_
      refine gl_f (s_move rfl) rfl rfl rfl ?_
      refine gl_f ((s_eql rfl rfl).eq (v' := .bool true) (by simp [h0])) rfl rfl rfl ?_
      refine gl_nil ?_
      repeat (first | refine g_seq ?_ | refine at_code ?_ | refine g_skip ?_ | refine g_block ?_ | refine g_exit rfl ?_ | refine g_cond_t rfl ?_ | refine g_cond_f rfl ?_)
      repeat (first | refine g_seq ?_ | refine at_code ?_ | refine g_skip ?_ | refine g_block ?_ | refine g_exit rfl ?_ | refine g_cond_t rfl ?_ | refine g_cond_f rfl ?_)
      refine g_region ?_
      refine gl_f (s_assign rfl) rfl rfl rfl ?_
      refine gl_f (s_assign rfl) rfl rfl rfl ?_
      refine gl_nil ?_
      repeat (first | refine g_seq ?_ | refine at_code ?_ | refine g_skip ?_ | refine g_block ?_ | refine g_exit rfl ?_ | refine g_cond_t rfl ?_ | refine g_cond_f rfl ?_)
      refine g_ret ?_
      exact at_end2 rfl rfl rfl (dskH x a ++ (OwnB na al nc :: Z)) ⟨rfl, a, OwnB na al nc :: Z, hD, rfl, hok, hfin⟩ (fun w hw => hw)
    · have e1 : kpG ds x [] n = (syncD x, n, syncE x) := by rw [kpG, if_neg h0]
      rw [e1]
      repeat (first | refine g_seq ?_ | refine at_code ?_ | refine g_skip ?_ | refine g_block ?_ | refine g_exit rfl ?_ | refine g_cond_t rfl ?_ | refine g_cond_f rfl ?_)
      refine g_region ?_
      refine gl_f (s_move rfl) rfl rfl rfl ?_
      refine gl_f ((s_eql rfl rfl).eq (v' := .bool false) (by simp; omega)) rfl rfl rfl ?_
      refine gl_nil ?_
      repeat (first | refine g_seq ?_ | refine at_code ?_ | refine g_skip ?_ | refine g_block ?_ | refine g_exit rfl ?_ | refine g_cond_t rfl ?_ | refine g_cond_f rfl ?_)
      repeat (first | refine g_seq ?_ | refine at_code ?_ | refine g_skip ?_ | refine g_block ?_ | refine g_exit rfl ?_ | refine g_cond_t rfl ?_ | refine g_cond_f rfl ?_)
      refine g_region ?_
      refine gl_f (s_move rfl) rfl rfl rfl ?_
      refine gl_f (s_move rfl) rfl rfl rfl ?_
      refine gl_f (s_nilCheck rfl) rfl rfl rfl ?_
      refine gl_f (by first | exact s_fieldAddr rfl (by rfl) (by infer_instance) (by decide) | exact s_fieldAddr_o rfl (by assumption) (by rfl) (by infer_instance) (by decide)) rfl rfl rfl ?_
      refine gl_r (by first | exact s_load_blk rfl (by repeat first|exact .del|apply Upd.there) (by rfl) | exact s_load1 rfl (fun w hw => peekB hw (by assumption) (by rfl))) rfl rfl rfl ?_
      refine gl_call (OwnB na al nc :: Z) rfl (Ct.addr hD (Sync_ct x a hwf.inv hok)) (fun w hw => hw) (fun _ _ _ => trivial) rfl ?_; rintro v A ⟨rfl, a2, Z2, d2, rfl, hok2, f2⟩
      refine gl_f (s_assign rfl) rfl rfl rfl ?_
      refine gl_f (s_assign rfl) rfl rfl rfl ?_
      refine gl_nil ?_
      repeat (first | refine g_seq ?_ | refine at_code ?_ | refine g_skip ?_ | refine g_block ?_ | refine g_exit rfl ?_ | refine g_cond_t rfl ?_ | refine g_cond_f rfl ?_)
      refine g_ret ?_
      exact at_end2 rfl rfl rfl (dskH (syncD x) a2 ++ (Z2 ++ (OwnB na al nc :: Z))) ⟨rfl, a2, Z2 ++ (OwnB na al nc :: Z), d2.trans hD, rfl, hok2, fun h f hs => by
        obtain ⟨s2, s1⟩ := Sat.two hs
        exact f2 h (hfin h f s1) s2⟩ (fun w hw => by rwa [List.append_assoc] at hw)
  have hkl : k < al.length := by simp at h; omega
  have hnn : ((k, x, a, n, Z) : Nat × DM × DA × Nat × List As).snd.snd.snd.fst ≤ 400000 := by simp only; omega
  have hsome : ∃ ad, na = some ad := hna (by omega)
  obtain ⟨s, hs⟩ : ∃ s, s = al.getD k [] := ⟨_, rfl⟩
  have hdr := drop_get hkl
  rw [← hs] at hdr
  have hpk : ∀ {w : World} {H H' : List As}, Hp F w H → Upd H (OwnB na al nc) [] H' → PeekC (hp w) (addO na (k * 1)) [B s] := fun hw u => peek_own hw u (by simp) (fun j v hj => by
    match j, hj with
    | 0, hj => simp at hj; subst hj; rw [Nat.mul_one, hs]; simp [hkl])
  have hslen : s.length = 32 := (all_get (l := x0.seen) (by rw [hs, ← hale]; simp [hkl])).2
  have hnl : (nmB s).length = 65 := by
    have h1 := Dg.hexs_length s
    show (98 :: Dg.hexs s).length = 65
    rw [List.length_cons, h1, hslen]
  obtain ⟨q, hq⟩ : ∃ q, q = decide (s ∈ ds) := ⟨_, rfl⟩
  repeat (first | refine g_seq ?_ | refine at_code ?_ | refine g_skip ?_ | refine g_block ?_ | refine g_exit rfl ?_ | refine g_cond_t rfl ?_ | refine g_cond_f rfl ?_)
  repeat (first | refine g_seq ?_ | refine at_code ?_ | refine g_skip ?_ | refine g_block ?_ | refine g_exit rfl ?_ | refine g_cond_t rfl ?_ | refine g_cond_f rfl ?_)
  refine g_region ?_
  refine gl_f (s_indexAddr rfl (by assumption) rfl (by omega)) rfl rfl rfl ?_
  refine gl_r (s_load1 (v := B s) rfl (fun w hw => hpk hw (by repeat first|exact .del|apply Upd.there))) rfl rfl rfl ?_
  refine gl_alloc rfl ?_; intro g8
  (first | refine gl_store_blkC (pre := []) (post := []) rfl rfl (by repeat first|exact .here|apply Upd.there) (by rfl) (by rfl) (by rfl) ?_ | refine gl_store_blk rfl rfl (by repeat first|exact .here|apply Upd.there) (by rfl) (by (intro q hq; simp [Value.cells] at hq; first | (subst hq; rfl) | (rcases hq with rfl | rfl | rfl | rfl | rfl | rfl | rfl | rfl <;> rfl) | (rcases hq with rfl | rfl | rfl | rfl | rfl | rfl | rfl <;> rfl) | (rcases hq with rfl | rfl | rfl | rfl | rfl | rfl <;> rfl) | (rcases hq with rfl | rfl | rfl | rfl | rfl <;> rfl) | (rcases hq with rfl | rfl | rfl | rfl <;> rfl) | (rcases hq with rfl | rfl | rfl <;> rfl) | (rcases hq with rfl | rfl <;> rfl))) (by rfl) ?_)
  refine gl_nil ?_
  repeat (first | refine g_seq ?_ | refine at_code ?_ | refine g_skip ?_ | refine g_block ?_ | refine g_exit rfl ?_ | refine g_cond_t rfl ?_ | refine g_cond_f rfl ?_)
  repeat (first | refine g_seq ?_ | refine at_code ?_ | refine g_skip ?_ | refine g_block ?_ | refine g_exit rfl ?_ | refine g_cond_t rfl ?_ | refine g_cond_f rfl ?_)
  refine g_region ?_
  refine gl_f (s_move rfl) rfl rfl rfl ?_
  refine gl_f (s_makeFunc rfl rfl) rfl rfl rfl ?_
  refine gl_callp rfl (Contains_ct ds da dc s g8 hds) (fun h hh ⟨bs, hb⟩ => ⟨hrd.le hh, Sat.blk hb (by repeat first|exact .del|apply Upd.there)⟩) rfl ?_; rw [← hq]
  refine gl_nil ?_
  repeat (first | refine g_seq ?_ | refine at_code ?_ | refine g_skip ?_ | refine g_block ?_ | refine g_exit rfl ?_ | refine g_cond_t rfl ?_ | refine g_cond_f rfl ?_)
  cases q
  rotate_left
  · have hm : s ∈ ds := of_decide_eq_true hq.symm
    have e1 : kpG ds x (al.drop k) n = kpG ds x (al.drop (k + 1)) n := by rw [hdr, kpG, if_pos hm]
    repeat (first | refine g_seq ?_ | refine at_code ?_ | refine g_skip ?_ | refine g_block ?_ | refine g_exit rfl ?_ | refine g_cond_t rfl ?_ | refine g_cond_f rfl ?_)
    repeat (first | refine g_seq ?_ | refine at_code ?_ | refine g_skip ?_ | refine g_block ?_ | refine g_exit rfl ?_ | refine g_cond_t rfl ?_ | refine g_cond_f rfl ?_)
    refine g_region ?_
    refine gl_f (s_add_i64 rfl rfl (by omega)) rfl rfl rfl ?_
    refine gl_f (s_move rfl) rfl rfl rfl ?_
    refine gl_nil ?_
    repeat (first | refine g_seq ?_ | refine at_code ?_ | refine g_skip ?_ | refine g_block ?_ | refine g_exit rfl ?_ | refine g_cond_t rfl ?_ | refine g_cond_f rfl ?_)
    refine at_next (k + 1, x, a, n, .blk g8 (.cells #[B s] 9) :: Z) ⟨by simp only; rw [← hale]; omega, by simp only; omega, by simp only; rw [← hale, hgo]; exact e1, hwf, hok, hD, fun h f hs => hpc h f (by obtain ⟨bs, b1, b2, _, _, h2⟩ := hs; exact ⟨b2, h2⟩)⟩ (by simp only; omega) ?_ ?_
    · (repeat (first | exact Sub.nil _ | refine Sub.cons rfl ?_))
    · intro w hw; exact hw.perm (perm_up (by repeat first|exact .del|apply Upd.there) (perm_up (by repeat first|exact .del|apply Upd.there) (perm_up (by repeat first|exact .del|apply Upd.there) (perm_up (by repeat first|exact .del|apply Upd.there) (perm_up (by repeat first|exact .del|apply Upd.there) (.refl _))))))
  have hm : s ∉ ds := of_decide_eq_false hq.symm
  obtain ⟨e, he⟩ : ∃ e, e = turnE x (dC s) := ⟨_, rfl⟩
  have hpl := pl_len hwf (by omega) hok
  repeat (first | refine g_seq ?_ | refine at_code ?_ | refine g_skip ?_ | refine g_block ?_ | refine g_exit rfl ?_ | refine g_cond_t rfl ?_ | refine g_cond_f rfl ?_)
  refine g_draw [3, 4] [.blk g8 (.cells #[B s] 9)] 8 rfl ?_
  refine ga_free 0 rfl (s_move rfl) rfl rfl rfl (by kernel_rfl) ?_
  refine ga_free 1 rfl (s_nilCheck rfl) rfl rfl rfl (by kernel_rfl) ?_
  refine ga_free 2 rfl (by first | exact s_fieldAddr rfl (by rfl) (by infer_instance) (by decide) | exact s_fieldAddr_o rfl (by assumption) (by rfl) (by infer_instance) (by decide)) rfl rfl rfl (by kernel_rfl) ?_
  (first | refine ga_read_k 3 rfl (by first | exact .head _ | exact .tail _ (.head _) | exact .tail _ (.tail _ (.head _)) | exact .tail _ (.tail _ (.tail _ (.head _)))) (s_load_blk rfl .del (by rfl)) (by (first | exact fun _ h => h | (repeat first | exact sub_nil | refine sub_cons (by repeat first | exact List.Mem.head _ | apply List.Mem.tail) ?_))) rfl rfl rfl (by kernel_rfl) ?_ | refine ga_readF 3 rfl (s_load1 rfl (fun w hw => peekB hw (by assumption) (by rfl))) (by (first | exact fun _ h => h | (repeat first | exact sub_nil | refine sub_cons (by repeat first | exact List.Mem.head _ | apply List.Mem.tail) ?_))) rfl rfl rfl (by kernel_rfl) ?_)
  (first | refine ga_read_k 4 rfl (by first | exact .head _ | exact .tail _ (.head _) | exact .tail _ (.tail _ (.head _)) | exact .tail _ (.tail _ (.tail _ (.head _)))) (s_load_blk rfl .del (by rfl)) (by (first | exact fun _ h => h | (repeat first | exact sub_nil | refine sub_cons (by repeat first | exact List.Mem.head _ | apply List.Mem.tail) ?_))) rfl rfl rfl (by kernel_rfl) ?_ | refine ga_readF 4 rfl (s_load1 rfl (fun w hw => peekB hw (by assumption) (by rfl))) (by (first | exact fun _ h => h | (repeat first | exact sub_nil | refine sub_cons (by repeat first | exact List.Mem.head _ | apply List.Mem.tail) ?_))) rfl rfl rfl (by kernel_rfl) ?_)
  refine ga_one 5 rfl (by kernel_rfl) ?_
  refine gl_callp rfl (file_ct s (by omega)) (fun _ _ _ => trivial) rfl ?_
  refine gl_nil ?_
  refine at_ga (.inr (by exact keeps_of (by (first | exact fun _ h => h | (repeat first | exact sub_nil | refine sub_cons (by repeat first | exact List.Mem.head _ | apply List.Mem.tail) ?_))))) ?_
  refine ga_one 6 rfl (by kernel_rfl) ?_
  refine gl_call (.blk g8 (.cells #[B s] 9) :: OwnB na al nc :: Z) rfl (Ct.addr hD (Drop_ct x a (nmB s) hwf.inv hok hpl (by omega))) (fun w hw => hw.perm (perm_up (by repeat first|exact .del|apply Upd.there) (perm_up (by repeat first|exact .del|apply Upd.there) (perm_up (by repeat first|exact .del|apply Upd.there) (perm_up (by repeat first|exact .del|apply Upd.there) (.refl _)))))) (fun _ _ _ => trivial) rfl ?_; rw [show turnE x ⟨3, nmB s, []⟩ = e from he.symm]; rintro v A ⟨rfl, a1, Z1, d1, rfl, hok1, f1⟩; refine gl_pull (H' := .blk g8 (.cells #[B s] 9) :: (dskH (turnD x (dC s)) a1 ++ (OwnB na al nc :: (Z1 ++ Z)))) (fun w hw => hw.perm (perm_keep ..)) ?_
  refine gl_nil ?_
  refine at_ga (.inr (by exact keeps_of (by (first | exact fun _ h => h | (repeat first | exact sub_nil | refine sub_cons (by repeat first | exact List.Mem.head _ | apply List.Mem.tail) ?_))))) ?_
  refine ga_free 7 rfl (s_assign rfl) rfl rfl rfl (by kernel_rfl) ?_
  refine ga_done (by kernel_rfl) ?_
  repeat (first | refine g_seq ?_ | refine at_code ?_ | refine g_skip ?_ | refine g_block ?_ | refine g_exit rfl ?_ | refine g_cond_t rfl ?_ | refine g_cond_f rfl ?_)
  have hpc1 : ∀ h, (∀ p ∈ a0.pl, PcOk h p) → (∃ bs, Sat h (.blk g8 (.cells #[B s] 9) :: (Z1 ++ Z)) bs) → ∀ p ∈ a1.pl, PcOk h p := fun h f hs => by
    obtain ⟨bs, b1, b2, _, _, h2⟩ := hs
    obtain ⟨s1, s2⟩ := Sat.two ⟨b2, h2⟩
    exact f1 h (hpc h f s2) s1
  by_cases h0 : e = 0
  rotate_left
  · have e1 : kpG ds x (al.drop k) n = (x, n, e) := by rw [hdr, kpG, if_neg hm, if_pos (by rw [← he]; exact h0), ← he]
    have e2 : turnD x (dC s) = x := turnD_no (by rw [← he]; exact h0)
    rw [e1]
    replace hok1 : DOk (turnD x (dC s)) a1 := hok1
    rw [e2] at hok1
    repeat (first | refine g_seq ?_ | refine at_code ?_ | refine g_skip ?_ | refine g_block ?_ | refine g_exit rfl ?_ | refine g_cond_t rfl ?_ | refine g_cond_f rfl ?_)
    refine g_region ?_
    refine gl_f (s_move rfl) rfl rfl rfl ?_
    refine gl_f ((s_neq rfl rfl).eq (v' := .bool true) (by simp [h0])) rfl rfl rfl ?_
    refine gl_nil ?_
    repeat (first | refine g_seq ?_ | refine at_code ?_ | refine g_skip ?_ | refine g_block ?_ | refine g_exit rfl ?_ | refine g_cond_t rfl ?_ | refine g_cond_f rfl ?_)
    rw [e2]
    repeat (first | refine g_seq ?_ | refine at_code ?_ | refine g_skip ?_ | refine g_block ?_ | refine g_exit rfl ?_ | refine g_cond_t rfl ?_ | refine g_cond_f rfl ?_)
    refine g_region ?_
    refine gl_f (s_move rfl) rfl rfl rfl ?_
    refine gl_f (s_move rfl) rfl rfl rfl ?_
    refine gl_f (s_assign rfl) rfl rfl rfl ?_
    refine gl_f (s_assign rfl) rfl rfl rfl ?_
    refine gl_nil ?_
    repeat (first | refine g_seq ?_ | refine at_code ?_ | refine g_skip ?_ | refine g_block ?_ | refine g_exit rfl ?_ | refine g_cond_t rfl ?_ | refine g_cond_f rfl ?_)
    refine g_ret ?_
    exact at_end2 rfl rfl rfl (dskH x a1 ++ (OwnB na al nc :: .blk g8 (.cells #[B s] 9) :: (Z1 ++ Z))) ⟨rfl, a1, _, d1.trans hD, rfl, hok1, fun h f hs => by
      obtain ⟨bs, b1, b2, _, _, h2⟩ := hs
      exact hpc1 h f ⟨b2, h2⟩⟩ (fun w hw => hw.perm (perm_up (by repeat first|exact .del|apply Upd.there) (perm_up (by repeat first|exact .del|apply Upd.there) (perm_up (by repeat first|exact .del|apply Upd.there) (perm_up (by repeat first|exact .del|apply Upd.there) (perm_up (by repeat first|exact .del|apply Upd.there) (.refl _)))))))
  · have e1 : kpG ds x (al.drop k) n = kpG ds (turnD x (dC s)) (al.drop (k + 1)) (n + 1) := by rw [hdr, kpG, if_neg hm, if_neg (by rw [← he]; simp [h0])]
    have hw1 := wf_turn hwf (dC_k s)
    repeat (first | refine g_seq ?_ | refine at_code ?_ | refine g_skip ?_ | refine g_block ?_ | refine g_exit rfl ?_ | refine g_cond_t rfl ?_ | refine g_cond_f rfl ?_)
    refine g_region ?_
    refine gl_f (s_move rfl) rfl rfl rfl ?_
    refine gl_f ((s_neq rfl rfl).eq (v' := .bool false) (by simp [h0])) rfl rfl rfl ?_
    refine gl_nil ?_
    repeat (first | refine g_seq ?_ | refine at_code ?_ | refine g_skip ?_ | refine g_block ?_ | refine g_exit rfl ?_ | refine g_cond_t rfl ?_ | refine g_cond_f rfl ?_)
    repeat (first | refine g_seq ?_ | refine at_code ?_ | refine g_skip ?_ | refine g_block ?_ | refine g_exit rfl ?_ | refine g_cond_t rfl ?_ | refine g_cond_f rfl ?_)
    refine g_region ?_
    refine gl_f (s_move rfl) rfl rfl rfl ?_
    refine gl_f (s_add_i64 rfl rfl (by omega)) rfl rfl rfl ?_
    refine gl_f (s_assign rfl) rfl rfl rfl ?_
    refine gl_nil ?_
    repeat (first | refine g_seq ?_ | refine at_code ?_ | refine g_skip ?_ | refine g_block ?_ | refine g_exit rfl ?_ | refine g_cond_t rfl ?_ | refine g_cond_f rfl ?_)
    repeat (first | refine g_seq ?_ | refine at_code ?_ | refine g_skip ?_ | refine g_block ?_ | refine g_exit rfl ?_ | refine g_cond_t rfl ?_ | refine g_cond_f rfl ?_)
    refine g_region ?_
    refine gl_f (s_add_i64 rfl rfl (by omega)) rfl rfl rfl ?_
    refine gl_f (s_move rfl) rfl rfl rfl ?_
    refine gl_nil ?_
    repeat (first | refine g_seq ?_ | refine at_code ?_ | refine g_skip ?_ | refine g_block ?_ | refine g_exit rfl ?_ | refine g_cond_t rfl ?_ | refine g_cond_f rfl ?_)
    refine at_next (k + 1, turnD x (dC s), a1, n + 1, .blk g8 (.cells #[B s] 9) :: (Z1 ++ Z)) ⟨by simp only; rw [← hale]; omega, by simp only; omega, by simp only; rw [← hale, hgo]; exact e1, hw1, hok1, d1.trans hD, hpc1⟩ (by simp only; omega) ?_ ?_
    · (repeat (first | exact Sub.nil _ | refine Sub.cons rfl ?_))
    · intro w hw; exact hw.perm (perm_up (by repeat first|exact .del|apply Upd.there) (perm_up (by repeat first|exact .del|apply Upd.there) (perm_up (by repeat first|exact .del|apply Upd.there) (perm_up (by repeat first|exact .del|apply Upd.there) (perm_up (by repeat first|exact .del|apply Upd.there) (.refl _))))))
end Go.Proofs.Ytolgclfbllcjhaa.Vt
