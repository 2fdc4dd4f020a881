/- The disk's laws: what every right program answers. -/
import Derived.Test.YtolgclfbllcjhaaLD11
namespace Go.Proofs.Ytolgclfbllcjhaa
open Go Go.Sl
set_option linter.unusedVariables false
set_option linter.unusedSimpArgs false

abbrev cAa : Cl := ⟨1, [97], [120, 121, 122]⟩
abbrev cAb : Cl := ⟨1, [97], [117, 118]⟩
abbrev cPb : Cl := ⟨2, [98], [49]⟩
def x0 : DM := newD 9
def x1 : DM := turnD x0 cAa
def x2 : DM := syncD x1
def x3 : DM := turnD x2 cAb
def x4 : DM := turnD x3 cPb
def x5 : DM := crashD x4 1
theorem al0 : Wf x0 10 := (wf_new (by decide)).mono (by omega)
theorem al1 : Wf x1 10 := (wf_turn (wf_new (cap := 9) (by decide)) (.inl rfl)).mono (by omega)
theorem al2 : Wf x2 10 := wf_sync al1
theorem al2' : Wf x2 1 := wf_sync (wf_turn (wf_new (cap := 9) (by decide)) (.inl rfl))
theorem al3 : Wf x3 10 := (wf_turn al2' (.inl rfl)).mono (by omega)
theorem al3' : Wf x3 2 := wf_turn al2' (.inl rfl)
theorem al4 : Wf x4 10 := (wf_turn al3' (.inr (.inl rfl))).mono (by omega)
theorem al5 : Wf x5 10 := wf_crash al4 1
theorem ae1 : turnE x0 cAa = 0 := by decide +kernel
theorem ae2 : syncE x1 = 0 := by decide +kernel
theorem ae3 : turnE x2 cAb = 0 := by decide +kernel
theorem ae4 : turnE x3 cPb = 0 := by decide +kernel
theorem ae5 : countD x4 = 3 := by decide +kernel
theorem ae6 : crashE x4 1 = 0 := by decide +kernel
theorem ae7 : readS x5 [97] = [120, 121, 122, 117] ∧ readE x5 [97] = 0 ∧ x5.seen.length = 1 ∧ usedL x5.seen = 4 := by decide +kernel
theorem Ct.addr {P : Program} {f : FuncId} {D D' : Nat} {args : List Value} {Pre : Heap → Prop} {C : List As} {Post : Value → List As → Prop} (e : D' = D) (h : Ct P f (Ptr D' :: args) Pre C Post) : Ct P f (Ptr D :: args) Pre C Post := e ▸ h
theorem Pu.addr {P : Program} {f : FuncId} {D D' : Nat} {args : List Value} {Pre : Heap → Prop} {v : Value} (e : D' = D) (h : Pu P f (Ptr D' :: args) Pre v) : Pu P f (Ptr D :: args) Pre v := e ▸ h
theorem pl_len {x : DM} {a : DA} {n : Nat} (h : Wf x n) (hn : n ≤ 1000000) (hok : DOk x a) : a.pl.length ≤ 1000000 := by
  have := h.sz
  have h2 : x.pend.length = a.pl.length := by rw [hok.pl]; simp
  omega
theorem NewP.good {cap : Int} {v : Value} {A : List As} (h : NewP cap v A) (hc : badCap cap = false) : ∃ a : DA, a.pl = [] ∧ v = .tuple #[Ptr a.D, .int .i64 0] ∧ A = dskH (newD cap) a ∧ DOk (newD cap) a := by
  rcases h with ⟨h1, _⟩ | ⟨_, h⟩
  · rw [hc] at h1; cases h1
  · exact h
set_option maxRecDepth 16000 in
set_option maxHeartbeats 8000000 in
theorem alive_ct : Pu Try.prog 12 [] (fun _ => True) (.bool true) := by
  obtain ⟨ar1, ar2, ar3, ar4⟩ := ae7
  have hcap := al5.inv.cap
  have hus := al5.inv.used
  refine ct_enter 66 Try.func12 rfl rfl rfl ?_
  intro F _
  repeat (first | refine g_seq ?_ | refine at_code ?_ | refine g_skip ?_ | refine g_block ?_ | refine g_exit rfl ?_ | refine g_cond_t rfl ?_ | refine g_cond_f rfl ?_)
  refine g_region ?_
  refine gl_f (s_assign rfl) rfl rfl rfl ?_
  refine gl_nil ?_
  repeat (first | refine g_seq ?_ | refine at_code ?_ | refine g_skip ?_ | refine g_block ?_ | refine g_exit rfl ?_ | refine g_cond_t rfl ?_ | refine g_cond_f rfl ?_)
  refine g_region ?_
  refine gl_call _ rfl (New_ct 9) (fun w hw => hw) (fun _ _ _ => trivial) rfl ?_; intro v A h; obtain ⟨a0, hp0, rfl, rfl, hok0⟩ := h.good rfl
  refine gl_f (s_move rfl) rfl rfl rfl ?_
  refine gl_f (s_extract rfl rfl) rfl rfl rfl ?_
  refine gl_f (s_extract rfl rfl) rfl rfl rfl ?_
  refine gl_f (s_assign rfl) rfl rfl rfl ?_
  refine gl_f (s_assign rfl) rfl rfl rfl ?_
  refine gl_nil ?_
  repeat (first | refine g_seq ?_ | refine at_code ?_ | refine g_skip ?_ | refine g_block ?_ | refine g_exit rfl ?_ | refine g_cond_t rfl ?_ | refine g_cond_f rfl ?_)
  repeat (first | refine g_seq ?_ | refine at_code ?_ | refine g_skip ?_ | refine g_block ?_ | refine g_exit rfl ?_ | refine g_cond_t rfl ?_ | refine g_cond_f rfl ?_)
  refine g_region ?_
  refine gl_f (s_move rfl) rfl rfl rfl ?_
  refine gl_f (s_eql_ptr rfl rfl) rfl rfl rfl ?_
  refine gl_f (s_move rfl) rfl rfl rfl ?_
  (first | refine gl_guard_no rfl rfl rfl rfl rfl rfl rfl ?_ | refine gl_guard_un rfl rfl rfl rfl rfl rfl ?_ | (refine gl_guard_yes rfl rfl rfl ?_; refine gl_f (s_move rfl) rfl rfl rfl ?_))
  (first | refine gl_guard_no rfl rfl rfl rfl rfl rfl rfl ?_ | refine gl_guard_un rfl rfl rfl rfl rfl rfl ?_ | (refine gl_guard_yes rfl rfl rfl ?_; refine gl_f ((s_neq rfl rfl).eq (v' := .bool false) rfl) rfl rfl rfl ?_))
  refine gl_f (by first | exact s_pick_t rfl rfl | exact s_pick_f rfl rfl) rfl rfl rfl ?_
  refine gl_f (s_move rfl) rfl rfl rfl ?_
  (first | refine gl_guard_no rfl rfl rfl rfl rfl rfl rfl ?_ | refine gl_guard_un rfl rfl rfl rfl rfl rfl ?_ | (refine gl_guard_yes rfl rfl rfl ?_; refine gl_f (s_move rfl) rfl rfl rfl ?_))
  (first | refine gl_guard_no rfl rfl rfl rfl rfl rfl rfl ?_ | refine gl_guard_un rfl rfl rfl rfl rfl rfl ?_ | (refine gl_guard_yes rfl rfl rfl ?_; refine gl_call [] rfl (Add_ct x0 a0 [97] [120, 121, 122] al0.inv hok0 (pl_len al0 (by omega) hok0) (by decide) (by decide)) (fun w hw => hw) (fun _ _ _ => trivial) rfl ?_; rw [ae1]; rintro v A ⟨rfl, a1, Z1, d1, rfl, hok1, f1⟩; have c1 : a1.D = a0.D := d1))
  (first | refine gl_guard_no rfl rfl rfl rfl rfl rfl rfl ?_ | refine gl_guard_un rfl rfl rfl rfl rfl rfl ?_ | (refine gl_guard_yes rfl rfl rfl ?_; refine gl_f ((s_neq rfl rfl).eq (v' := .bool false) rfl) rfl rfl rfl ?_))
  refine gl_f (by first | exact s_pick_t rfl rfl | exact s_pick_f rfl rfl) rfl rfl rfl ?_
  refine gl_f (s_move rfl) rfl rfl rfl ?_
  (first | refine gl_guard_no rfl rfl rfl rfl rfl rfl rfl ?_ | refine gl_guard_un rfl rfl rfl rfl rfl rfl ?_ | (refine gl_guard_yes rfl rfl rfl ?_; refine gl_f (s_move rfl) rfl rfl rfl ?_))
  (first | refine gl_guard_no rfl rfl rfl rfl rfl rfl rfl ?_ | refine gl_guard_un rfl rfl rfl rfl rfl rfl ?_ | (refine gl_guard_yes rfl rfl rfl ?_; refine gl_call (Z1 ++ []) rfl (Ct.addr c1 (Sync_ct x1 a1 al1.inv hok1)) (fun w hw => hw) (fun _ _ _ => trivial) rfl ?_; rw [ae2]; rintro v A ⟨rfl, a2, Z2, d2, rfl, hok2, f2⟩; have c2 : a2.D = a0.D := d2.trans c1))
  (first | refine gl_guard_no rfl rfl rfl rfl rfl rfl rfl ?_ | refine gl_guard_un rfl rfl rfl rfl rfl rfl ?_ | (refine gl_guard_yes rfl rfl rfl ?_; refine gl_f ((s_neq rfl rfl).eq (v' := .bool false) rfl) rfl rfl rfl ?_))
  refine gl_f (by first | exact s_pick_t rfl rfl | exact s_pick_f rfl rfl) rfl rfl rfl ?_
  refine gl_f (s_move rfl) rfl rfl rfl ?_
  (first | refine gl_guard_no rfl rfl rfl rfl rfl rfl rfl ?_ | refine gl_guard_un rfl rfl rfl rfl rfl rfl ?_ | (refine gl_guard_yes rfl rfl rfl ?_; refine gl_f (s_move rfl) rfl rfl rfl ?_))
  (first | refine gl_guard_no rfl rfl rfl rfl rfl rfl rfl ?_ | refine gl_guard_un rfl rfl rfl rfl rfl rfl ?_ | (refine gl_guard_yes rfl rfl rfl ?_; refine gl_call (Z2 ++ (Z1 ++ [])) rfl (Ct.addr c2 (Add_ct x2 a2 [97] [117, 118] al2.inv hok2 (pl_len al2 (by omega) hok2) (by decide) (by decide))) (fun w hw => hw) (fun _ _ _ => trivial) rfl ?_; rw [ae3]; rintro v A ⟨rfl, a3, Z3, d3, rfl, hok3, f3⟩; have c3 : a3.D = a0.D := d3.trans c2))
  (first | refine gl_guard_no rfl rfl rfl rfl rfl rfl rfl ?_ | refine gl_guard_un rfl rfl rfl rfl rfl rfl ?_ | (refine gl_guard_yes rfl rfl rfl ?_; refine gl_f ((s_neq rfl rfl).eq (v' := .bool false) rfl) rfl rfl rfl ?_))
  refine gl_f (by first | exact s_pick_t rfl rfl | exact s_pick_f rfl rfl) rfl rfl rfl ?_
  refine gl_f (s_move rfl) rfl rfl rfl ?_
  (first | refine gl_guard_no rfl rfl rfl rfl rfl rfl rfl ?_ | refine gl_guard_un rfl rfl rfl rfl rfl rfl ?_ | (refine gl_guard_yes rfl rfl rfl ?_; refine gl_f (s_move rfl) rfl rfl rfl ?_))
  (first | refine gl_guard_no rfl rfl rfl rfl rfl rfl rfl ?_ | refine gl_guard_un rfl rfl rfl rfl rfl rfl ?_ | (refine gl_guard_yes rfl rfl rfl ?_; refine gl_call (Z3 ++ (Z2 ++ (Z1 ++ []))) rfl (Ct.addr c3 (Put_ct x3 a3 [98] [49] al3.inv hok3 (pl_len al3 (by omega) hok3) (by decide) (by decide))) (fun w hw => hw) (fun _ _ _ => trivial) rfl ?_; rw [ae4]; rintro v A ⟨rfl, a4, Z4, d4, rfl, hok4, f4⟩; have c4 : a4.D = a0.D := d4.trans c3))
  (first | refine gl_guard_no rfl rfl rfl rfl rfl rfl rfl ?_ | refine gl_guard_un rfl rfl rfl rfl rfl rfl ?_ | (refine gl_guard_yes rfl rfl rfl ?_; refine gl_f ((s_neq rfl rfl).eq (v' := .bool false) rfl) rfl rfl rfl ?_))
  refine gl_f (by first | exact s_pick_t rfl rfl | exact s_pick_f rfl rfl) rfl rfl rfl ?_
  refine gl_f (s_move rfl) rfl rfl rfl ?_
  (first | refine gl_guard_no rfl rfl rfl rfl rfl rfl rfl ?_ | refine gl_guard_un rfl rfl rfl rfl rfl rfl ?_ | (refine gl_guard_yes rfl rfl rfl ?_; refine gl_f (s_move rfl) rfl rfl rfl ?_))
  (first | refine gl_guard_no rfl rfl rfl rfl rfl rfl rfl ?_ | refine gl_guard_un rfl rfl rfl rfl rfl rfl ?_ | (refine gl_guard_yes rfl rfl rfl ?_; refine gl_callp rfl (Pu.addr c4 (Pending_ct x4 a4 al4.inv hok4.pl (Nat.le_trans (Nat.le_trans (Nat.le_add_left _ _) al4.sz) (by omega)))) (fun h hh ⟨bs, hb⟩ => ⟨Sat.blk hb (by repeat first|exact .del|apply Upd.there), Sat.rd (a := a4.pa) hb (by repeat first|exact .del|apply Upd.there)⟩) rfl ?_; rw [ae5]))
  (first | refine gl_guard_no rfl rfl rfl rfl rfl rfl rfl ?_ | refine gl_guard_un rfl rfl rfl rfl rfl rfl ?_ | (refine gl_guard_yes rfl rfl rfl ?_; refine gl_f ((s_neq rfl rfl).eq (v' := .bool false) rfl) rfl rfl rfl ?_))
  refine gl_f (by first | exact s_pick_t rfl rfl | exact s_pick_f rfl rfl) rfl rfl rfl ?_
  refine gl_f (s_move rfl) rfl rfl rfl ?_
  (first | refine gl_guard_no rfl rfl rfl rfl rfl rfl rfl ?_ | refine gl_guard_un rfl rfl rfl rfl rfl rfl ?_ | (refine gl_guard_yes rfl rfl rfl ?_; refine gl_f (s_move rfl) rfl rfl rfl ?_))
  (first | refine gl_guard_no rfl rfl rfl rfl rfl rfl rfl ?_ | refine gl_guard_un rfl rfl rfl rfl rfl rfl ?_ | (refine gl_guard_yes rfl rfl rfl ?_; refine gl_call (Z4 ++ (Z3 ++ (Z2 ++ (Z1 ++ [])))) rfl (Ct.addr c4 (Crash_ct x4 a4 1 al4.inv hok4 (pl_len al4 (by omega) hok4) (by omega))) (fun w hw => hw) (fun h hh hs => by obtain ⟨s4, hs⟩ := Sat.two hs; obtain ⟨s3, hs⟩ := Sat.two hs; obtain ⟨s2, hs⟩ := Sat.two hs; obtain ⟨s1, _⟩ := Sat.two hs; exact f4 h (f3 h (f2 h (f1 h (by rw [hp0]; simp) s1) s2) s3) s4) rfl ?_; rw [ae6]; rintro v A ⟨rfl, a5, d5, rfl, hok5, _⟩; have c5 : a5.D = a0.D := d5.trans c4))
  (first | refine gl_guard_no rfl rfl rfl rfl rfl rfl rfl ?_ | refine gl_guard_un rfl rfl rfl rfl rfl rfl ?_ | (refine gl_guard_yes rfl rfl rfl ?_; refine gl_f ((s_neq rfl rfl).eq (v' := .bool false) rfl) rfl rfl rfl ?_))
  refine gl_f (by first | exact s_pick_t rfl rfl | exact s_pick_f rfl rfl) rfl rfl rfl ?_
  refine gl_nil ?_
  repeat (first | refine g_seq ?_ | refine at_code ?_ | refine g_skip ?_ | refine g_block ?_ | refine g_exit rfl ?_ | refine g_cond_t rfl ?_ | refine g_cond_f rfl ?_)
  repeat (first | refine g_seq ?_ | refine at_code ?_ | refine g_skip ?_ | refine g_block ?_ | refine g_exit rfl ?_ | refine g_cond_t rfl ?_ | refine g_cond_f rfl ?_)
  refine g_region ?_
  refine gl_f (s_move rfl) rfl rfl rfl ?_
  refine gl_callp rfl (Pu.addr c5 (Read_ct x5 a5 [97] hok5.seen al5.inv.seen)) (fun h hh ⟨bs, hb⟩ => ⟨Sat.blk hb (by repeat first|exact .del|apply Upd.there), Sat.blk hb (by repeat first|exact .del|apply Upd.there)⟩) rfl ?_; rw [ar1, ar2]
  refine gl_f (s_move rfl) rfl rfl rfl ?_
  refine gl_f (s_extract rfl rfl) rfl rfl rfl ?_
  refine gl_f (s_extract rfl rfl) rfl rfl rfl ?_
  refine gl_f (s_assign rfl) rfl rfl rfl ?_
  refine gl_f (s_assign rfl) rfl rfl rfl ?_
  refine gl_nil ?_
  repeat (first | refine g_seq ?_ | refine at_code ?_ | refine g_skip ?_ | refine g_block ?_ | refine g_exit rfl ?_ | refine g_cond_t rfl ?_ | refine g_cond_f rfl ?_)
  repeat (first | refine g_seq ?_ | refine at_code ?_ | refine g_skip ?_ | refine g_block ?_ | refine g_exit rfl ?_ | refine g_cond_t rfl ?_ | refine g_cond_f rfl ?_)
  refine g_region ?_
  refine gl_f (s_move rfl) rfl rfl rfl ?_
  refine gl_f ((s_eql_str rfl rfl).eq (v' := .bool true) rfl) rfl rfl rfl ?_
  refine gl_f (s_move rfl) rfl rfl rfl ?_
  (first | refine gl_guard_no rfl rfl rfl rfl rfl rfl rfl ?_ | refine gl_guard_un rfl rfl rfl rfl rfl rfl ?_ | (refine gl_guard_yes rfl rfl rfl ?_; refine gl_f (s_move rfl) rfl rfl rfl ?_))
  (first | refine gl_guard_no rfl rfl rfl rfl rfl rfl rfl ?_ | refine gl_guard_un rfl rfl rfl rfl rfl rfl ?_ | (refine gl_guard_yes rfl rfl rfl ?_; refine gl_f ((s_eql rfl rfl).eq (v' := .bool true) rfl) rfl rfl rfl ?_))
  refine gl_f (by first | exact s_pick_t rfl rfl | exact s_pick_f rfl rfl) rfl rfl rfl ?_
  refine gl_f (s_move rfl) rfl rfl rfl ?_
  (first | refine gl_guard_no rfl rfl rfl rfl rfl rfl rfl ?_ | refine gl_guard_un rfl rfl rfl rfl rfl rfl ?_ | (refine gl_guard_yes rfl rfl rfl ?_; refine gl_f (s_move rfl) rfl rfl rfl ?_))
  (first | refine gl_guard_no rfl rfl rfl rfl rfl rfl rfl ?_ | refine gl_guard_un rfl rfl rfl rfl rfl rfl ?_ | (refine gl_guard_yes rfl rfl rfl ?_; refine gl_call _ rfl (Ct.addr c5 (Names_ct x5 a5 hok5.seen al5.inv.seen (fun f hf => al5.nm f (.inl hf)) (by rw [ar3]; omega))) (fun w hw => hw) (fun h hh ⟨bs, hb⟩ => ⟨Sat.blk hb (by repeat first|exact .del|apply Upd.there), Sat.blk hb (by repeat first|exact .del|apply Upd.there)⟩) rfl ?_; rintro v A ⟨na, nc, rfl, rfl⟩))
  (first | refine gl_guard_no rfl rfl rfl rfl rfl rfl rfl ?_ | refine gl_guard_un rfl rfl rfl rfl rfl rfl ?_ | (refine gl_guard_yes rfl rfl rfl ?_; refine gl_f (s_len_sl rfl) rfl rfl rfl ?_))
  (first | refine gl_guard_no rfl rfl rfl rfl rfl rfl rfl ?_ | refine gl_guard_un rfl rfl rfl rfl rfl rfl ?_ | (refine gl_guard_yes rfl rfl rfl ?_; refine gl_f ((s_eql rfl rfl).eq (v' := .bool true) (by rw [ar3]; rfl)) rfl rfl rfl ?_))
  refine gl_f (by first | exact s_pick_t rfl rfl | exact s_pick_f rfl rfl) rfl rfl rfl ?_
  refine gl_f (s_move rfl) rfl rfl rfl ?_
  (first | refine gl_guard_no rfl rfl rfl rfl rfl rfl rfl ?_ | refine gl_guard_un rfl rfl rfl rfl rfl rfl ?_ | (refine gl_guard_yes rfl rfl rfl ?_; refine gl_f (s_move rfl) rfl rfl rfl ?_))
  (first | refine gl_guard_no rfl rfl rfl rfl rfl rfl rfl ?_ | refine gl_guard_un rfl rfl rfl rfl rfl rfl ?_ | (refine gl_guard_yes rfl rfl rfl ?_; refine gl_callp rfl (Pu.addr c5 (Used_ct x5 a5 hok5.seen (by omega))) (fun h hh ⟨bs, hb⟩ => ⟨Sat.blk hb (by repeat first|exact .del|apply Upd.there), Sat.blk hb (by repeat first|exact .del|apply Upd.there)⟩) rfl ?_; rw [ar4]))
  (first | refine gl_guard_no rfl rfl rfl rfl rfl rfl rfl ?_ | refine gl_guard_un rfl rfl rfl rfl rfl rfl ?_ | (refine gl_guard_yes rfl rfl rfl ?_; refine gl_f ((s_eql rfl rfl).eq (v' := .bool true) rfl) rfl rfl rfl ?_))
  refine gl_f (by first | exact s_pick_t rfl rfl | exact s_pick_f rfl rfl) rfl rfl rfl ?_
  refine gl_f (s_assign rfl) rfl rfl rfl ?_
  refine gl_nil ?_
  repeat (first | refine g_seq ?_ | refine at_code ?_ | refine g_skip ?_ | refine g_block ?_ | refine g_exit rfl ?_ | refine g_cond_t rfl ?_ | refine g_cond_f rfl ?_)
  refine g_ret ?_
  exact at_end1 rfl rfl [] ⟨rfl, rfl⟩ (fun _ h => h.dropAll)
end Go.Proofs.Ytolgclfbllcjhaa
