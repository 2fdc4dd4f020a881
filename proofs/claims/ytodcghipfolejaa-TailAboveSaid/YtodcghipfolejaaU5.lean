/- The walk of the reference's merging. -/
import Derived.Test.YtodcghipfolejaaU4
namespace Go.Proofs.Ytodcghipfolejaa
open Go Go.Sl
set_option linter.unusedVariables false
set_option linter.unusedSimpArgs false

theorem ent_in {g : LM} {i : Int} (h : hasE g i = true) : entAt g i = g.l.getD (i - g.base - 1).toNat E0 := by rw [entAt, if_pos h]
theorem same_iff {g : LM} {prev : Int} {l : List Ent} {k : Nat} (hb : g.base ≤ prev) : same g prev l k = (hasE g (prev + 1 + (k : Int)) && decide ((entAt g (prev + 1 + (k : Int))).1 = (l.getD k E0).1)) := by
  have h1 : hasL g (prev + 1 + (k : Int)) = hasE g (prev + 1 + (k : Int)) := by
    rw [hasL_eq, decide_eq_false (by omega)]; rfl
  rw [same, h1]
  cases h2 : hasE g (prev + 1 + (k : Int))
  · rfl
  · have : termV g (prev + 1 + (k : Int)) = (entAt g (prev + 1 + (k : Int))).1 := by
      rw [termV, h1, h2, if_pos rfl, if_neg (by omega), ent_in h2]
    rw [this]
theorem beh_start {g : LM} {prev : Int} {l : List Ent} (hh : hasL g prev = true) : BehI g prev l 0 0 (g.l.take (prev - g.base).toNat) := by
  simp only [hasL, Bool.and_eq_true, decide_eq_true_eq] at hh
  exact ⟨fun _ => ⟨fun j hj => absurd hj (by omega), rfl, by omega⟩, fun h => absurd rfl h⟩
theorem beh_same {g : LM} {prev : Int} {l : List Ent} {k : Nat} {out : List Ent} (h : BehI g prev l k 0 out) (hb : g.base ≤ prev) (hs : same g prev l k = true) : BehI g prev l (k + 1) 0 (out ++ [entAt g (prev + 1 + (k : Int))]) := by
  obtain ⟨h1, h2, h3⟩ := h.zero rfl
  have hE : hasE g (prev + 1 + (k : Int)) = true := by rw [same_iff hb, Bool.and_eq_true] at hs; exact hs.1
  have e := ent_in hE
  simp only [hasE, Bool.and_eq_true, decide_eq_true_eq] at hE
  have ei : (prev + 1 + (k : Int) - g.base - 1).toNat = (prev - g.base).toNat + k := by omega
  rw [ei] at e
  refine ⟨fun _ => ⟨fun j hj => ?_, ?_, by omega⟩, fun h => absurd rfl h⟩
  · rcases Nat.lt_succ_iff_lt_or_eq.1 hj with h4 | rfl
    · exact h1 j h4
    · exact hs
  · have hlt : (prev - g.base).toNat + k < g.l.length := by omega
    rw [h2, e, ← Nat.add_assoc, List.take_succ_eq_append_getElem hlt]
    simp [hlt]
theorem drop_ent {l : List Ent} {k : Nat} (h : k < l.length) : l.drop k = l.getD k E0 :: l.drop (k + 1) := by
  rw [List.drop_eq_getElem_cons h]; simp [h]
theorem beh_diff {g : LM} {prev : Int} {l : List Ent} {k : Nat} {out : List Ent} (h : BehI g prev l k 0 out) (h0 : 0 ≤ prev) (hk : k < l.length) (hs : same g prev l k = false) : BehI g prev l (k + 1) (prev + 1 + (k : Int)) (out ++ [l.getD k E0]) := by
  obtain ⟨h1, h2, h3⟩ := h.zero rfl
  refine ⟨fun h => by omega, fun _ => ⟨k, by omega, rfl, firstD_at hk h1 hs, ?_⟩⟩
  rw [h2]
  congr 1
  have e : k + 1 - k = 1 := by omega
  rw [e, drop_ent hk]
  rfl
theorem beh_more {g : LM} {prev at_ : Int} {l : List Ent} {k : Nat} {out : List Ent} (h : BehI g prev l k at_ out) (ha : at_ ≠ 0) (hk : k < l.length) : BehI g prev l (k + 1) at_ (out ++ [l.getD k E0]) := by
  obtain ⟨k0, h1, h2, h3, h4⟩ := h.some ha
  refine ⟨fun h => absurd h ha, fun _ => ⟨k0, by omega, h2, h3, ?_⟩⟩
  rw [h4, List.append_assoc]
  congr 1
  have e : k + 1 - k0 = (k - k0) + 1 := by omega
  have hlt : k - k0 < (l.drop k0).length := by rw [List.length_drop]; omega
  rw [e, List.take_succ_eq_append_getElem hlt]
  congr 2
  have e2 : k0 + (k - k0) = k := by omega
  simp [List.getElem_drop, e2, hk]
theorem beh_len {g : LM} {prev at_ : Int} {l : List Ent} {k : Nat} {out : List Ent} (h : BehI g prev l k at_ out) (hk : k ≤ l.length) : out.length ≤ g.l.length + l.length := by
  by_cases ha : at_ = 0
  · obtain ⟨h1, h2, h3⟩ := h.zero ha
    rw [h2, List.length_take]; omega
  · obtain ⟨k0, h1, h2, h3, h4⟩ := h.some ha
    rw [h4, List.length_append, List.length_take, List.length_take, List.length_drop]; omega
theorem beh_end {g : LM} {prev term at_ : Int} {l : List Ent} {out : List Ent} (h : BehI g prev l l.length at_ out) (hok : (hasL g prev && decide (termV g prev = term)) = true) : mrgB g prev term l = if at_ = 0 then ⟨g.l, 0, true⟩ else ⟨out, at_, true⟩ := by
  rw [mrgB, if_neg (by rw [hok]; simp)]
  by_cases ha : at_ = 0
  · obtain ⟨h1, h2, h3⟩ := h.zero ha
    rw [if_pos (firstD_end h1), if_pos ha]
  · obtain ⟨k0, h1, h2, h3, h4⟩ := h.some ha
    rw [if_neg (by omega), if_neg ha, h3, h2, h4]
    congr 2
    exact (List.take_of_length_le (by rw [List.length_drop]; omega)).symm

abbrev blkG (b : Nat) (base bt : Int) (ca : Option Addr) (cn cc : Nat) (la : Option Addr) (ln lc : Nat) : As := .blk b (.cells #[.int .u64 base, .int .u64 bt, .slice ca cn cc, .slice la ln lc] 47)
set_option maxRecDepth 4000 in
set_option maxHeartbeats 4000000 in
theorem behind_ct (g : LM) (prev term : Int) (l : List Ent) (lb : Option Addr) (ld : Nat) (hf : g.fit) (hb : g.base ≤ prev) (hp : prev ≤ 18446744073709551615) (hl : l.length ≤ 1000000) : Ct Try.prog 75 [g.v, .int .u64 prev, .int .u64 term, .slice lb l.length ld] (fun h => RdS h g.la (enV g.l) ∧ RdS h lb (enV l)) [] (RefP g (mrgB g prev term l)) := by
  have h1 := hf.lo
  have h2 := hf.hi
  have h3 := hf.len
  refine ct_enter 114 Try.func75 rfl rfl rfl ?_
  intro F hr
  obtain ⟨hrd, hrl⟩ := hr
  repeat (first | refine g_seq ?_ | refine at_code ?_ | refine g_skip ?_ | refine g_block ?_ | refine g_exit rfl ?_ | refine g_cond_t rfl ?_ | refine g_cond_f rfl ?_)
  refine g_region ?_
  refine gl_boxA rfl rfl ?_; intro g4
  refine gl_allocA rfl ?_; intro g8
  refine gl_f (s_assign rfl) rfl rfl rfl ?_
  refine gl_f (s_assign rfl) rfl rfl rfl ?_
  refine gl_nil ?_
  repeat (first | refine g_seq ?_ | refine at_code ?_ | refine g_skip ?_ | refine g_block ?_ | refine g_exit rfl ?_ | refine g_cond_t rfl ?_ | refine g_cond_f rfl ?_)
  repeat (first | refine g_seq ?_ | refine at_code ?_ | refine g_skip ?_ | refine g_block ?_ | refine g_exit rfl ?_ | refine g_cond_t rfl ?_ | refine g_cond_f rfl ?_)
  refine g_region ?_
  refine gl_r (by first | exact s_load_blkW rfl (by repeat first|exact .del|apply Upd.there) (by rfl) | exact s_load_blkN rfl (by repeat first|exact .del|apply Upd.there) (by rfl)) rfl rfl rfl ?_
  refine gl_f (s_move rfl) rfl rfl rfl ?_
  refine gl_callp rfl (rTerm_ct g prev hf (by omega)) (fun h hh _ => hrd.le hh) rfl ?_
  refine gl_f (s_move rfl) rfl rfl rfl ?_
  refine gl_f (s_extract rfl rfl) rfl rfl rfl ?_
  refine gl_f (s_extract rfl rfl) rfl rfl rfl ?_
  refine gl_f (s_assign rfl) rfl rfl rfl ?_
  refine gl_f (s_assign rfl) rfl rfl rfl ?_
  refine gl_nil ?_
  repeat (first | refine g_seq ?_ | refine at_code ?_ | refine g_skip ?_ | refine g_block ?_ | refine g_exit rfl ?_ | refine g_cond_t rfl ?_ | refine g_cond_f rfl ?_)
  obtain ⟨q1, hq1⟩ : ∃ q, q = hasL g prev := ⟨_, rfl⟩
  obtain ⟨q2, hq2⟩ : ∃ q, q = decide (termV g prev = term) := ⟨_, rfl⟩
  rw [← hq1]
  refine g_cutK [(1, .int .u64 prev), (3, .slice lb l.length ld), (4, Ptr g4), (8, Ptr g8), (34, .bool (!(q1 && q2)))] [blkG g8 0 0 none 0 0 none 0 0, blkG g4 g.base g.bt g.ca g.conf.length g.cc g.la g.l.length g.lc] ?_ ?_
  · cases q1
    all_goals (
      repeat (first | refine g_seq ?_ | refine at_code ?_ | refine g_skip ?_ | refine g_block ?_ | refine g_exit rfl ?_ | refine g_cond_t rfl ?_ | refine g_cond_f rfl ?_)
      refine g_region ?_
      refine gl_f (s_move rfl) rfl rfl rfl ?_
      refine gl_f (s_not rfl) rfl rfl rfl ?_
      refine gl_f (s_move rfl) rfl rfl rfl ?_
      (first | refine gl_guard_no rfl rfl rfl rfl rfl rfl rfl ?_ | refine gl_guard_un rfl rfl rfl rfl rfl rfl ?_ | (refine gl_guard_yes rfl rfl rfl ?_; refine gl_f (s_move rfl) rfl rfl rfl ?_))
      (first | refine gl_guard_no rfl rfl rfl rfl rfl rfl rfl ?_ | refine gl_guard_un rfl rfl rfl rfl rfl rfl ?_ | (refine gl_guard_yes rfl rfl rfl ?_; refine gl_f (s_move rfl) rfl rfl rfl ?_))
      (first | refine gl_guard_no rfl rfl rfl rfl rfl rfl rfl ?_ | refine gl_guard_un rfl rfl rfl rfl rfl rfl ?_ | (refine gl_guard_yes rfl rfl rfl ?_; refine gl_f ((s_neq rfl rfl).eq (congrArg (fun q => Value.bool (!q)) hq2.symm)) rfl rfl rfl ?_))
      refine gl_f (by first | exact s_pick_t rfl rfl | exact s_pick_f rfl rfl) rfl rfl rfl ?_
      refine gl_nil ?_
      repeat (first | refine g_seq ?_ | refine at_code ?_ | refine g_skip ?_ | refine g_block ?_ | refine g_exit rfl ?_ | refine g_cond_t rfl ?_ | refine g_cond_f rfl ?_))
    all_goals exact at_cut (by (repeat (first | exact Sub.nil _ | refine Sub.cons rfl ?_))) (fun w hw => hw)
  · repeat (first | refine g_seq ?_ | refine at_code ?_ | refine g_skip ?_ | refine g_block ?_ | refine g_exit rfl ?_ | refine g_cond_t rfl ?_ | refine g_cond_f rfl ?_)
    refine g_cond rfl (fun h => ?_) (fun h => ?_)
    · have e : mrgB g prev term l = ⟨g.l, 0, false⟩ := by rw [mrgB, if_pos (by rw [← hq1, ← hq2]; cases q1 <;> cases q2 <;> first | rfl | cases h)]
      rw [e]
      repeat (first | refine g_seq ?_ | refine at_code ?_ | refine g_skip ?_ | refine g_block ?_ | refine g_exit rfl ?_ | refine g_cond_t rfl ?_ | refine g_cond_f rfl ?_)
      refine g_region ?_
      refine gl_r (by first | exact s_load_blkW rfl (by repeat first|exact .del|apply Upd.there) (by rfl) | exact s_load_blkN rfl (by repeat first|exact .del|apply Upd.there) (by rfl)) rfl rfl rfl ?_
      (first | refine gl_store_blkW rfl rfl (by repeat first|exact .here|apply Upd.there) (by rfl) (by rfl) (by (intro q hq; simp [Value.cells] at hq; first | (subst hq; rfl) | (rcases hq with rfl | rfl | rfl | rfl | rfl | rfl | rfl | rfl <;> rfl) | (rcases hq with rfl | rfl | rfl | rfl | rfl | rfl | rfl <;> rfl) | (rcases hq with rfl | rfl | rfl | rfl | rfl | rfl <;> rfl) | (rcases hq with rfl | rfl | rfl | rfl | rfl <;> rfl) | (rcases hq with rfl | rfl | rfl | rfl <;> rfl) | (rcases hq with rfl | rfl | rfl <;> rfl) | (rcases hq with rfl | rfl <;> rfl))) ?_ | refine gl_store_blk rfl rfl (by repeat first|exact .here|apply Upd.there) (by rfl) (by (intro q hq; simp [Value.cells] at hq; first | (subst hq; rfl) | (rcases hq with rfl | rfl | rfl | rfl | rfl | rfl | rfl | rfl <;> rfl) | (rcases hq with rfl | rfl | rfl | rfl | rfl | rfl | rfl <;> rfl) | (rcases hq with rfl | rfl | rfl | rfl | rfl | rfl <;> rfl) | (rcases hq with rfl | rfl | rfl | rfl | rfl <;> rfl) | (rcases hq with rfl | rfl | rfl | rfl <;> rfl) | (rcases hq with rfl | rfl | rfl <;> rfl) | (rcases hq with rfl | rfl <;> rfl))) (by rfl) ?_)
      refine gl_f (s_assign rfl) rfl rfl rfl ?_
      refine gl_f (s_assign rfl) rfl rfl rfl ?_
      refine gl_nil ?_
      repeat (first | refine g_seq ?_ | refine at_code ?_ | refine g_skip ?_ | refine g_block ?_ | refine g_exit rfl ?_ | refine g_cond_t rfl ?_ | refine g_cond_f rfl ?_)
      refine g_ret ?_
      exact at_endB2 rfl rfl rfl rfl .del rfl [] (.inl ⟨rfl, rfl, rfl⟩) (fun _ h => h.dropAll)
    · have hok : (hasL g prev && decide (termV g prev = term)) = true := by rw [← hq1, ← hq2]; cases q1 <;> cases q2 <;> first | rfl | cases h
      have hhp : hasL g prev = true := by rw [Bool.and_eq_true] at hok; exact hok.1
      have hhp2 := hhp
      simp only [hasL, Bool.and_eq_true, decide_eq_true_eq] at hhp2
      clear hq1 hq2 h
      repeat (first | refine g_seq ?_ | refine at_code ?_ | refine g_skip ?_ | refine g_block ?_ | refine g_exit rfl ?_ | refine g_cond_t rfl ?_ | refine g_cond_f rfl ?_)
      repeat (first | refine g_seq ?_ | refine at_code ?_ | refine g_skip ?_ | refine g_block ?_ | refine g_exit rfl ?_ | refine g_cond_t rfl ?_ | refine g_cond_f rfl ?_)
      refine g_region ?_
      refine gl_r (by first | exact s_load_blkW rfl (by repeat first|exact .del|apply Upd.there) (by rfl) | exact s_load_blkN rfl (by repeat first|exact .del|apply Upd.there) (by rfl)) rfl rfl rfl ?_
      refine gl_allocA rfl ?_; intro g13
      (first | refine gl_store_blkW rfl rfl (by repeat first|exact .here|apply Upd.there) (by rfl) (by rfl) (by (intro q hq; simp [Value.cells] at hq; first | (subst hq; rfl) | (rcases hq with rfl | rfl | rfl | rfl | rfl | rfl | rfl | rfl <;> rfl) | (rcases hq with rfl | rfl | rfl | rfl | rfl | rfl | rfl <;> rfl) | (rcases hq with rfl | rfl | rfl | rfl | rfl | rfl <;> rfl) | (rcases hq with rfl | rfl | rfl | rfl | rfl <;> rfl) | (rcases hq with rfl | rfl | rfl | rfl <;> rfl) | (rcases hq with rfl | rfl | rfl <;> rfl) | (rcases hq with rfl | rfl <;> rfl))) ?_ | refine gl_store_blk rfl rfl (by repeat first|exact .here|apply Upd.there) (by rfl) (by (intro q hq; simp [Value.cells] at hq; first | (subst hq; rfl) | (rcases hq with rfl | rfl | rfl | rfl | rfl | rfl | rfl | rfl <;> rfl) | (rcases hq with rfl | rfl | rfl | rfl | rfl | rfl | rfl <;> rfl) | (rcases hq with rfl | rfl | rfl | rfl | rfl | rfl <;> rfl) | (rcases hq with rfl | rfl | rfl | rfl | rfl <;> rfl) | (rcases hq with rfl | rfl | rfl | rfl <;> rfl) | (rcases hq with rfl | rfl | rfl <;> rfl) | (rcases hq with rfl | rfl <;> rfl))) (by rfl) ?_)
      refine gl_nil ?_
      repeat (first | refine g_seq ?_ | refine at_code ?_ | refine g_skip ?_ | refine g_block ?_ | refine g_exit rfl ?_ | refine g_cond_t rfl ?_ | refine g_cond_f rfl ?_)
      refine g_region ?_
      refine gl_f (by first | exact s_fieldAddr rfl (by rfl) (by infer_instance) (by decide) | exact s_fieldAddr_o rfl (by assumption) (by rfl) (by infer_instance) (by decide)) rfl rfl rfl ?_
      (first | refine gl_store_blkC (pre := [_, _, _]) (post := []) rfl rfl (by repeat first|exact .here|apply Upd.there) (by rfl) (by rfl) (by rfl) ?_ | refine gl_store_blk rfl rfl (by repeat first|exact .here|apply Upd.there) (by rfl) (by (intro q hq; simp [Value.cells] at hq; first | (subst hq; rfl) | (rcases hq with rfl | rfl | rfl | rfl | rfl | rfl | rfl | rfl <;> rfl) | (rcases hq with rfl | rfl | rfl | rfl | rfl | rfl | rfl <;> rfl) | (rcases hq with rfl | rfl | rfl | rfl | rfl | rfl <;> rfl) | (rcases hq with rfl | rfl | rfl | rfl | rfl <;> rfl) | (rcases hq with rfl | rfl | rfl | rfl <;> rfl) | (rcases hq with rfl | rfl | rfl <;> rfl) | (rcases hq with rfl | rfl <;> rfl))) (by rfl) ?_)
      refine gl_nil ?_
      repeat (first | refine g_seq ?_ | refine at_code ?_ | refine g_skip ?_ | refine g_block ?_ | refine g_exit rfl ?_ | refine g_cond_t rfl ?_ | refine g_cond_f rfl ?_)
      refine g_region ?_
      refine gl_f (s_assign rfl) rfl rfl rfl ?_
      refine gl_nil ?_
      repeat (first | refine g_seq ?_ | refine at_code ?_ | refine g_skip ?_ | refine g_block ?_ | refine g_exit rfl ?_ | refine g_cond_t rfl ?_ | refine g_cond_f rfl ?_)
      refine g_region ?_
      refine gl_f (by first | exact s_fieldAddr rfl (by rfl) (by infer_instance) (by decide) | exact s_fieldAddr_o rfl (by assumption) (by rfl) (by infer_instance) (by decide)) rfl rfl rfl ?_
      refine gl_r (s_load_blk rfl (by repeat first|exact .del|apply Upd.there) (by rfl)) rfl rfl rfl ?_
      refine gl_f (s_add_u64 rfl rfl (by omega)) rfl rfl rfl ?_
      refine gl_f (s_assign rfl) rfl rfl rfl ?_
      refine gl_nil ?_
      repeat (first | refine g_seq ?_ | refine at_code ?_ | refine g_skip ?_ | refine g_block ?_ | refine g_exit rfl ?_ | refine g_cond_t rfl ?_ | refine g_cond_f rfl ?_)
      refine g_own_nil 65 3 ?_
      refine g_loop (ι := Nat × Option Addr × Nat × Int) (fun i => i.1 ≤ (prev - g.base).toNat ∧ i.2.2.2 = g.base + 1 + (i.1 : Nat)) (fun i => [(1, .int .u64 prev), (3, .slice lb l.length ld), (4, Ptr g4), (8, Ptr g8), (13, Ptr g13), (14, .int .u64 0), (15, .int .u64 i.2.2.2)]) (fun i => [.own (.slice i.2.1 i.1 i.2.2.1) 65 3 (enV (g.l.take i.1)), blkG g13 g.base g.bt g.ca g.conf.length g.cc i.2.1 i.1 i.2.2.1, blkG g8 0 0 none 0 0 none 0 0, blkG g4 g.base g.bt g.ca g.conf.length g.cc g.la g.l.length g.lc]) (fun i => (prev - g.base).toNat - i.1) (0, none, 0, g.base + 1) (by simp) ?_ ?_ ?_
      · (repeat (first | exact Sub.nil _ | refine Sub.cons rfl ?_))
      · intro w hw; exact hw
      · rintro ⟨j, a, c, iz⟩ ⟨hj, hiz⟩
        simp only at hj hiz
        subst hiz
        have hjj : (j, a, c, g.base + 1 + (j : Int)).fst ≤ 1000000 := by show j ≤ _; omega
        repeat (first | refine g_seq ?_ | refine at_code ?_ | refine g_skip ?_ | refine g_block ?_ | refine g_exit rfl ?_ | refine g_cond_t rfl ?_ | refine g_cond_f rfl ?_)
        refine g_region ?_
        refine gl_f (s_move rfl) rfl rfl rfl ?_
        refine gl_f (s_move rfl) rfl rfl rfl ?_
        refine gl_f (s_leq rfl rfl) rfl rfl rfl ?_
        refine gl_nil ?_
        repeat (first | refine g_seq ?_ | refine at_code ?_ | refine g_skip ?_ | refine g_block ?_ | refine g_exit rfl ?_ | refine g_cond_t rfl ?_ | refine g_cond_f rfl ?_)
        refine g_cond rfl (fun h => ?_) (fun h => ?_)
        · have hj' : j < (prev - g.base).toNat := by have : g.base + 1 + (j : Int) ≤ prev := of_decide_eq_true h; omega
          have hE : hasE g (g.base + 1 + (j : Int)) = true := by simp only [hasE, Bool.and_eq_true, decide_eq_true_eq]; omega
          obtain ⟨e, he⟩ : ∃ e, e = entAt g (g.base + 1 + (j : Int)) := ⟨_, rfl⟩
          have hge : e = g.l.getD j E0 := by rw [he, ent_in hE]; congr 1; omega
          have ee := take_succ_ent (l := g.l) (k := j) (by omega)
          rw [← hge] at ee
          repeat (first | refine g_seq ?_ | refine at_code ?_ | refine g_skip ?_ | refine g_block ?_ | refine g_exit rfl ?_ | refine g_cond_t rfl ?_ | refine g_cond_f rfl ?_)
          refine g_region ?_
          refine gl_r (by first | exact s_load_blkW rfl (by repeat first|exact .del|apply Upd.there) (by rfl) | exact s_load_blkN rfl (by repeat first|exact .del|apply Upd.there) (by rfl)) rfl rfl rfl ?_
          refine gl_f (s_move rfl) rfl rfl rfl ?_
          refine gl_call _ rfl (Entry_ct g _ hf (by show 0 ≤ g.base + 1 + (j : Int) ∧ g.base + 1 + (j : Int) ≤ _; omega)) (fun w hw => hw) (fun h hh _ => hrd.le hh) rfl ?_; rintro v A ⟨rfl, rfl⟩
          refine gl_f (s_move rfl) rfl rfl rfl ?_
          refine gl_f (s_extract rfl rfl) rfl rfl rfl ?_
          refine gl_f (s_extract rfl rfl) rfl rfl rfl ?_
          refine gl_allocA rfl ?_; intro g16
          (first | refine gl_store_blkW rfl rfl (by repeat first|exact .here|apply Upd.there) (by rfl) (by rfl) (by (intro q hq; simp [Value.cells] at hq; first | (subst hq; rfl) | (rcases hq with rfl | rfl | rfl | rfl | rfl | rfl | rfl | rfl <;> rfl) | (rcases hq with rfl | rfl | rfl | rfl | rfl | rfl | rfl <;> rfl) | (rcases hq with rfl | rfl | rfl | rfl | rfl | rfl <;> rfl) | (rcases hq with rfl | rfl | rfl | rfl | rfl <;> rfl) | (rcases hq with rfl | rfl | rfl | rfl <;> rfl) | (rcases hq with rfl | rfl | rfl <;> rfl) | (rcases hq with rfl | rfl <;> rfl))) ?_ | refine gl_store_blk rfl rfl (by repeat first|exact .here|apply Upd.there) (by rfl) (by (intro q hq; simp [Value.cells] at hq; first | (subst hq; rfl) | (rcases hq with rfl | rfl | rfl | rfl | rfl | rfl | rfl | rfl <;> rfl) | (rcases hq with rfl | rfl | rfl | rfl | rfl | rfl | rfl <;> rfl) | (rcases hq with rfl | rfl | rfl | rfl | rfl | rfl <;> rfl) | (rcases hq with rfl | rfl | rfl | rfl | rfl <;> rfl) | (rcases hq with rfl | rfl | rfl | rfl <;> rfl) | (rcases hq with rfl | rfl | rfl <;> rfl) | (rcases hq with rfl | rfl <;> rfl))) (by rfl) ?_)
          refine gl_f (s_assign rfl) rfl rfl rfl ?_
          refine gl_nil ?_
          repeat (first | refine g_seq ?_ | refine at_code ?_ | refine g_skip ?_ | refine g_block ?_ | refine g_exit rfl ?_ | refine g_cond_t rfl ?_ | refine g_cond_f rfl ?_)
          have hee : entAt g (j, a, c, g.base + 1 + (j : Int)).2.2.2 = e := he.symm
          rw [hee]
          repeat (first | refine g_seq ?_ | refine at_code ?_ | refine g_skip ?_ | refine g_block ?_ | refine g_exit rfl ?_ | refine g_cond_t rfl ?_ | refine g_cond_f rfl ?_)
          refine g_region ?_
          refine gl_f (by first | exact s_fieldAddr rfl (by rfl) (by infer_instance) (by decide) | exact s_fieldAddr_o rfl (by assumption) (by rfl) (by infer_instance) (by decide)) rfl rfl rfl ?_
          refine gl_r (s_load_blk rfl (by repeat first|exact .del|apply Upd.there) (by rfl)) rfl rfl rfl ?_
          refine gl_r (by first | exact s_load_blkW rfl (by repeat first|exact .del|apply Upd.there) (by rfl) | exact s_load_blkN rfl (by repeat first|exact .del|apply Upd.there) (by rfl)) rfl rfl rfl ?_
          refine gl_buildSliceU rfl rfl rfl rfl rfl rfl (xs := enV [e]) rfl rfl ?_; intro a55 ha55
          refine gl_append rfl rfl (fun a' c' => .there (.there .here)) (fun w hw => (hw.ownN .del).2.2.1) rfl rfl rfl (enV_one _) (by show (_ + 1) * 32 ≤ _; omega) (by omega) rfl ?_; intro a56 c56 hc56
          refine gl_f (by first | exact s_fieldAddr rfl (by rfl) (by infer_instance) (by decide) | exact s_fieldAddr_o rfl (by assumption) (by rfl) (by infer_instance) (by decide)) rfl rfl rfl ?_
          (first | refine gl_store_blkC (pre := [_, _, _]) (post := []) rfl rfl (by repeat first|exact .here|apply Upd.there) (by rfl) (by rfl) (by rfl) ?_ | refine gl_store_blk rfl rfl (by repeat first|exact .here|apply Upd.there) (by rfl) (by (intro q hq; simp [Value.cells] at hq; first | (subst hq; rfl) | (rcases hq with rfl | rfl | rfl | rfl | rfl | rfl | rfl | rfl <;> rfl) | (rcases hq with rfl | rfl | rfl | rfl | rfl | rfl | rfl <;> rfl) | (rcases hq with rfl | rfl | rfl | rfl | rfl | rfl <;> rfl) | (rcases hq with rfl | rfl | rfl | rfl | rfl <;> rfl) | (rcases hq with rfl | rfl | rfl | rfl <;> rfl) | (rcases hq with rfl | rfl | rfl <;> rfl) | (rcases hq with rfl | rfl <;> rfl))) (by rfl) ?_)
          refine gl_nil ?_
          repeat (first | refine g_seq ?_ | refine at_code ?_ | refine g_skip ?_ | refine g_block ?_ | refine g_exit rfl ?_ | refine g_cond_t rfl ?_ | refine g_cond_f rfl ?_)
          repeat (first | refine g_seq ?_ | refine at_code ?_ | refine g_skip ?_ | refine g_block ?_ | refine g_exit rfl ?_ | refine g_cond_t rfl ?_ | refine g_cond_f rfl ?_)
          refine g_region ?_
          refine gl_f (s_move rfl) rfl rfl rfl ?_
          refine gl_f (s_add_u64 rfl rfl (by show 0 ≤ g.base + 1 + (j : Int) + 1 ∧ g.base + 1 + (j : Int) + 1 ≤ _; omega)) rfl rfl rfl ?_
          refine gl_f (s_assign rfl) rfl rfl rfl ?_
          refine gl_nil ?_
          repeat (first | refine g_seq ?_ | refine at_code ?_ | refine g_skip ?_ | refine g_block ?_ | refine g_exit rfl ?_ | refine g_cond_t rfl ?_ | refine g_cond_f rfl ?_)
          refine at_next (j + 1, a56, c56, g.base + 1 + (j : Int) + 1) (by simp only; omega) (by simp only; omega) ?_ ?_
          · (repeat (first | exact Sub.nil _ | refine Sub.cons rfl ?_))
          · intro w hw
            simp only
            rw [ee]
            exact hw.drop.drop
        · have hjp : j = (prev - g.base).toNat := by have : ¬ g.base + 1 + (j : Int) ≤ prev := of_decide_eq_false h; omega
          have hI0 := beh_start (l := l) hhp
          rw [← hjp] at hI0
          have hlj : (g.l.take j).length = j := by rw [List.length_take]; omega
          repeat (first | refine g_seq ?_ | refine at_code ?_ | refine g_skip ?_ | refine g_block ?_ | refine g_exit rfl ?_ | refine g_cond_t rfl ?_ | refine g_cond_f rfl ?_)
          repeat (first | refine g_seq ?_ | refine at_code ?_ | refine g_skip ?_ | refine g_block ?_ | refine g_exit rfl ?_ | refine g_cond_t rfl ?_ | refine g_cond_f rfl ?_)
          refine g_region ?_
          refine gl_f (s_assign rfl) rfl rfl rfl ?_
          refine gl_nil ?_
          repeat (first | refine g_seq ?_ | refine at_code ?_ | refine g_skip ?_ | refine g_block ?_ | refine g_exit rfl ?_ | refine g_cond_t rfl ?_ | refine g_cond_f rfl ?_)
          refine g_loop (ι := Nat × Int × List Ent × Option Addr × Nat) (fun i => i.1 ≤ l.length ∧ 0 ≤ i.2.1 ∧ BehI g prev l i.1 i.2.1 i.2.2.1) (fun i => [(1, .int .u64 prev), (3, .slice lb l.length ld), (4, Ptr g4), (8, Ptr g8), (13, Ptr g13), (14, .int .u64 i.2.1), (18, .int .i64 (i.1 : Nat))]) (fun i => [.own (.slice i.2.2.2.1 i.2.2.1.length i.2.2.2.2) 65 3 (enV i.2.2.1), blkG g13 g.base g.bt g.ca g.conf.length g.cc i.2.2.2.1 i.2.2.1.length i.2.2.2.2, blkG g8 0 0 none 0 0 none 0 0, blkG g4 g.base g.bt g.ca g.conf.length g.cc g.la g.l.length g.lc]) (fun i => l.length - i.1) (0, 0, g.l.take j, a, c) ⟨by simp, by simp, hI0⟩ ?_ ?_ ?_
          · (repeat (first | exact Sub.nil _ | refine Sub.cons rfl ?_))
          · intro w hw
            simp only
            rw [hlj]
            exact hw
          · rintro ⟨k, at_, out, a, c⟩ ⟨hk, hat, hI⟩
            simp only at hk hat hI
            have hol := beh_len hI hk
            have holl : (k, at_, out, a, c).2.2.1.length ≤ 2000000 := by show out.length ≤ _; omega
            repeat (first | refine g_seq ?_ | refine at_code ?_ | refine g_skip ?_ | refine g_block ?_ | refine g_exit rfl ?_ | refine g_cond_t rfl ?_ | refine g_cond_f rfl ?_)
            refine g_region ?_
            refine gl_f (s_move rfl) rfl rfl rfl ?_
            refine gl_f (s_move rfl) rfl rfl rfl ?_
            refine gl_f (s_len_sl rfl) rfl rfl rfl ?_
            refine gl_f (s_lss rfl rfl) rfl rfl rfl ?_
            refine gl_nil ?_
            repeat (first | refine g_seq ?_ | refine at_code ?_ | refine g_skip ?_ | refine g_block ?_ | refine g_exit rfl ?_ | refine g_cond_t rfl ?_ | refine g_cond_f rfl ?_)
            refine g_cond rfl (fun h => ?_) (fun h => ?_)
            · have hk' : k < l.length := by simp at h; omega
              have hsome := rdE_some hrl hk'
              obtain ⟨e, he⟩ : ∃ e, e = entAt g (prev + 1 + (k : Int)) := ⟨_, rfl⟩
              obtain ⟨q, hq⟩ : ∃ q, q = hasE g (prev + 1 + (k : Int)) := ⟨_, rfl⟩
              obtain ⟨q3, hq3⟩ : ∃ q, q = decide (e.1 = (l.getD k E0).1) := ⟨_, rfl⟩
              have hsm : same g prev l k = (q && q3) := by rw [same_iff hb, hq3, he, hq]
              repeat (first | refine g_seq ?_ | refine at_code ?_ | refine g_skip ?_ | refine g_block ?_ | refine g_exit rfl ?_ | refine g_cond_t rfl ?_ | refine g_cond_f rfl ?_)
              refine g_region ?_
              refine gl_f (s_move rfl) rfl rfl rfl ?_
              refine gl_f (s_add_u64 rfl rfl (by omega)) rfl rfl rfl ?_
              refine gl_f (s_move rfl) rfl rfl rfl ?_
              refine gl_f (s_conv_keep_u64 rfl (by omega)) rfl rfl rfl ?_
              refine gl_f (s_add_u64 rfl rfl (by omega)) rfl rfl rfl ?_
              refine gl_f (s_assign rfl) rfl rfl rfl ?_
              refine gl_nil ?_
              repeat (first | refine g_seq ?_ | refine at_code ?_ | refine g_skip ?_ | refine g_block ?_ | refine g_exit rfl ?_ | refine g_cond_t rfl ?_ | refine g_cond_f rfl ?_)
              repeat (first | refine g_seq ?_ | refine at_code ?_ | refine g_skip ?_ | refine g_block ?_ | refine g_exit rfl ?_ | refine g_cond_t rfl ?_ | refine g_cond_f rfl ?_)
              refine g_region ?_
              refine gl_r (by first | exact s_load_blkW rfl (by repeat first|exact .del|apply Upd.there) (by rfl) | exact s_load_blkN rfl (by repeat first|exact .del|apply Upd.there) (by rfl)) rfl rfl rfl ?_
              refine gl_f (s_move rfl) rfl rfl rfl ?_
              refine gl_call _ rfl (Entry_ct g _ hf (by omega)) (fun w hw => hw) (fun h hh _ => hrd.le hh) rfl ?_; rintro v A ⟨rfl, rfl⟩
              refine gl_f (s_move rfl) rfl rfl rfl ?_
              refine gl_f (s_extract rfl rfl) rfl rfl rfl ?_
              refine gl_f (s_extract rfl rfl) rfl rfl rfl ?_
              refine gl_allocA rfl ?_; intro g20
              (first | refine gl_store_blkW rfl rfl (by repeat first|exact .here|apply Upd.there) (by rfl) (by rfl) (by (intro q hq; simp [Value.cells] at hq; first | (subst hq; rfl) | (rcases hq with rfl | rfl | rfl | rfl | rfl | rfl | rfl | rfl <;> rfl) | (rcases hq with rfl | rfl | rfl | rfl | rfl | rfl | rfl <;> rfl) | (rcases hq with rfl | rfl | rfl | rfl | rfl | rfl <;> rfl) | (rcases hq with rfl | rfl | rfl | rfl | rfl <;> rfl) | (rcases hq with rfl | rfl | rfl | rfl <;> rfl) | (rcases hq with rfl | rfl | rfl <;> rfl) | (rcases hq with rfl | rfl <;> rfl))) ?_ | refine gl_store_blk rfl rfl (by repeat first|exact .here|apply Upd.there) (by rfl) (by (intro q hq; simp [Value.cells] at hq; first | (subst hq; rfl) | (rcases hq with rfl | rfl | rfl | rfl | rfl | rfl | rfl | rfl <;> rfl) | (rcases hq with rfl | rfl | rfl | rfl | rfl | rfl | rfl <;> rfl) | (rcases hq with rfl | rfl | rfl | rfl | rfl | rfl <;> rfl) | (rcases hq with rfl | rfl | rfl | rfl | rfl <;> rfl) | (rcases hq with rfl | rfl | rfl | rfl <;> rfl) | (rcases hq with rfl | rfl | rfl <;> rfl) | (rcases hq with rfl | rfl <;> rfl))) (by rfl) ?_)
              refine gl_f (s_assign rfl) rfl rfl rfl ?_
              refine gl_nil ?_
              repeat (first | refine g_seq ?_ | refine at_code ?_ | refine g_skip ?_ | refine g_block ?_ | refine g_exit rfl ?_ | refine g_cond_t rfl ?_ | refine g_cond_f rfl ?_)
              rw [← he, ← hq]
              by_cases ha : at_ = 0
              · subst ha
                cases hss : same g prev l k
                · -- it parts here
                  rw [hss] at hsm
                  have hI2 := beh_diff hI (by omega) hk' hss
                  have el : (out ++ [l.getD k E0]).length = out.length + 1 := by simp
                  refine g_cutK [(1, .int .u64 prev), (3, .slice lb l.length ld), (4, Ptr g4), (8, Ptr g8), (13, Ptr g13), (14, .int .u64 0), (18, .int .i64 (k : Nat)), (19, .int .u64 (prev + 1 + (k : Int))), (90, .bool true)] [.own (.slice a out.length c) 65 3 (enV out), blkG g13 g.base g.bt g.ca g.conf.length g.cc a out.length c, blkG g8 0 0 none 0 0 none 0 0, blkG g4 g.base g.bt g.ca g.conf.length g.cc g.la g.l.length g.lc] ?_ ?_
                  · cases q
                    · repeat (first | refine g_seq ?_ | refine at_code ?_ | refine g_skip ?_ | refine g_block ?_ | refine g_exit rfl ?_ | refine g_cond_t rfl ?_ | refine g_cond_f rfl ?_)
                      refine g_draw0 [7, 12] 16 rfl ?_
                      refine ga_free 0 rfl (s_move rfl) rfl rfl rfl (by kernel_rfl) ?_
                      refine ga_free 1 rfl ((s_eql rfl rfl).eq (v' := .bool true) rfl) rfl rfl rfl (by kernel_rfl) ?_
                      refine ga_free 2 rfl (s_move rfl) rfl rfl rfl (by kernel_rfl) ?_
                      (first | refine ga_skip 3 rfl rfl rfl rfl rfl rfl rfl rfl (by kernel_rfl) ?_ | refine ga_skip_un 3 rfl rfl rfl rfl rfl rfl rfl (by kernel_rfl) ?_ | refine ga_free_g 3 rfl (s_move rfl) rfl rfl rfl rfl rfl rfl (by kernel_rfl) ?_)
                      (first | refine ga_skip 4 rfl rfl rfl rfl rfl rfl rfl rfl (by kernel_rfl) ?_ | refine ga_skip_un 4 rfl rfl rfl rfl rfl rfl rfl (by kernel_rfl) ?_ | refine ga_free_g 4 rfl (s_not rfl) rfl rfl rfl rfl rfl rfl (by kernel_rfl) ?_)
                      (first | refine ga_skip 5 rfl rfl rfl rfl rfl rfl rfl rfl (by kernel_rfl) ?_ | refine ga_skip_un 5 rfl rfl rfl rfl rfl rfl rfl (by kernel_rfl) ?_ | refine ga_free_g 5 rfl (s_move rfl) rfl rfl rfl rfl rfl rfl (by kernel_rfl) ?_)
                      (first | refine ga_skip 6 rfl rfl rfl rfl rfl rfl rfl rfl (by kernel_rfl) ?_ | refine ga_skip_un 6 rfl rfl rfl rfl rfl rfl rfl (by kernel_rfl) ?_ | refine ga_free_g 6 rfl (by first | exact s_fieldAddr rfl (by rfl) (by infer_instance) (by decide) | exact s_fieldAddr_o rfl (by assumption) (by rfl) (by infer_instance) (by decide)) rfl rfl rfl rfl rfl rfl (by kernel_rfl) ?_)
                      (first | refine ga_skip 7 rfl rfl rfl rfl rfl rfl rfl rfl (by kernel_rfl) ?_ | refine ga_skip_un 7 rfl rfl rfl rfl rfl rfl rfl (by kernel_rfl) ?_ | refine ga_read_g 7 rfl (by repeat first|exact .del|apply Upd.there) (s_load_blk rfl .del (by rfl)) rfl rfl rfl rfl rfl rfl (by kernel_rfl) ?_)
                      (first | refine ga_skip 8 rfl rfl rfl rfl rfl rfl rfl rfl (by kernel_rfl) ?_ | refine ga_skip_un 8 rfl rfl rfl rfl rfl rfl rfl (by kernel_rfl) ?_ | refine ga_free_g 8 rfl (s_move rfl) rfl rfl rfl rfl rfl rfl (by kernel_rfl) ?_)
                      (first | refine ga_skip 9 rfl rfl rfl rfl rfl rfl rfl rfl (by kernel_rfl) ?_ | refine ga_skip_un 9 rfl rfl rfl rfl rfl rfl rfl (by kernel_rfl) ?_ | refine ga_free_g 9 rfl (s_move rfl) rfl rfl rfl rfl rfl rfl (by kernel_rfl) ?_)
                      (first | refine ga_skip 10 rfl rfl rfl rfl rfl rfl rfl rfl (by kernel_rfl) ?_ | refine ga_skip_un 10 rfl rfl rfl rfl rfl rfl rfl (by kernel_rfl) ?_ | refine ga_free_g 10 rfl (s_indexAddr rfl (by assumption) rfl (by omega)) rfl rfl rfl rfl rfl rfl (by kernel_rfl) ?_)
                      (first | refine ga_skip 11 rfl rfl rfl rfl rfl rfl rfl rfl (by kernel_rfl) ?_ | refine ga_skip_un 11 rfl rfl rfl rfl rfl rfl rfl (by kernel_rfl) ?_ | refine ga_free_g 11 rfl (by first | exact s_fieldAddr rfl (by rfl) (by infer_instance) (by decide) | exact s_fieldAddr_o rfl (by assumption) (by rfl) (by infer_instance) (by decide)) rfl rfl rfl rfl rfl rfl (by kernel_rfl) ?_)
                      (first | refine ga_skip 12 rfl rfl rfl rfl rfl rfl rfl rfl (by kernel_rfl) ?_ | refine ga_skip_un 12 rfl rfl rfl rfl rfl rfl rfl (by kernel_rfl) ?_ | refine ga_readF_g 12 rfl (s_load1 rfl (fun w hw => rdE0 hw hrl (i := k) (by omega) hk')) (by (first | exact fun _ h => h | (repeat first | exact sub_nil | refine sub_cons (by repeat first | exact List.Mem.head _ | apply List.Mem.tail) ?_))) rfl rfl rfl rfl rfl rfl (by kernel_rfl) ?_)
                      (first | refine ga_skip 13 rfl rfl rfl rfl rfl rfl rfl rfl (by kernel_rfl) ?_ | refine ga_skip_un 13 rfl rfl rfl rfl rfl rfl rfl (by kernel_rfl) ?_ | refine ga_free_g 13 rfl (s_neq rfl rfl) rfl rfl rfl rfl rfl rfl (by kernel_rfl) ?_)
                      (first | refine ga_skip 14 rfl rfl rfl rfl rfl rfl rfl rfl (by kernel_rfl) ?_ | refine ga_skip_un 14 rfl rfl rfl rfl rfl rfl rfl (by kernel_rfl) ?_ | refine ga_free_g 14 rfl (by first | exact s_pick_t rfl rfl | exact s_pick_f rfl rfl) rfl rfl rfl rfl rfl rfl (by kernel_rfl) ?_)
                      refine ga_free 15 rfl (by first | exact s_pick_t rfl rfl | exact s_pick_f rfl rfl) rfl rfl rfl (by kernel_rfl) ?_
                      refine ga_done (by kernel_rfl) ?_
                      repeat (first | refine g_seq ?_ | refine at_code ?_ | refine g_skip ?_ | refine g_block ?_ | refine g_exit rfl ?_ | refine g_cond_t rfl ?_ | refine g_cond_f rfl ?_)
                      exact at_cut (by (repeat (first | exact Sub.nil _ | refine Sub.cons rfl ?_))) (fun w hw => hw.drop)
                    · have hq3f : q3 = false := by cases q3 <;> first | rfl | cases hsm
                      repeat (first | refine g_seq ?_ | refine at_code ?_ | refine g_skip ?_ | refine g_block ?_ | refine g_exit rfl ?_ | refine g_cond_t rfl ?_ | refine g_cond_f rfl ?_)
                      refine g_draw0 [7, 12] 16 rfl ?_
                      refine ga_free 0 rfl (s_move rfl) rfl rfl rfl (by kernel_rfl) ?_
                      refine ga_free 1 rfl ((s_eql rfl rfl).eq (v' := .bool true) rfl) rfl rfl rfl (by kernel_rfl) ?_
                      refine ga_free 2 rfl (s_move rfl) rfl rfl rfl (by kernel_rfl) ?_
                      (first | refine ga_skip 3 rfl rfl rfl rfl rfl rfl rfl rfl (by kernel_rfl) ?_ | refine ga_skip_un 3 rfl rfl rfl rfl rfl rfl rfl (by kernel_rfl) ?_ | refine ga_free_g 3 rfl (s_move rfl) rfl rfl rfl rfl rfl rfl (by kernel_rfl) ?_)
                      (first | refine ga_skip 4 rfl rfl rfl rfl rfl rfl rfl rfl (by kernel_rfl) ?_ | refine ga_skip_un 4 rfl rfl rfl rfl rfl rfl rfl (by kernel_rfl) ?_ | refine ga_free_g 4 rfl (s_not rfl) rfl rfl rfl rfl rfl rfl (by kernel_rfl) ?_)
                      (first | refine ga_skip 5 rfl rfl rfl rfl rfl rfl rfl rfl (by kernel_rfl) ?_ | refine ga_skip_un 5 rfl rfl rfl rfl rfl rfl rfl (by kernel_rfl) ?_ | refine ga_free_g 5 rfl (s_move rfl) rfl rfl rfl rfl rfl rfl (by kernel_rfl) ?_)
                      (first | refine ga_skip 6 rfl rfl rfl rfl rfl rfl rfl rfl (by kernel_rfl) ?_ | refine ga_skip_un 6 rfl rfl rfl rfl rfl rfl rfl (by kernel_rfl) ?_ | refine ga_free_g 6 rfl (by first | exact s_fieldAddr rfl (by rfl) (by infer_instance) (by decide) | exact s_fieldAddr_o rfl (by assumption) (by rfl) (by infer_instance) (by decide)) rfl rfl rfl rfl rfl rfl (by kernel_rfl) ?_)
                      (first | refine ga_skip 7 rfl rfl rfl rfl rfl rfl rfl rfl (by kernel_rfl) ?_ | refine ga_skip_un 7 rfl rfl rfl rfl rfl rfl rfl (by kernel_rfl) ?_ | refine ga_read_g 7 rfl (by repeat first|exact .del|apply Upd.there) (s_load_blk rfl .del (by rfl)) rfl rfl rfl rfl rfl rfl (by kernel_rfl) ?_)
                      (first | refine ga_skip 8 rfl rfl rfl rfl rfl rfl rfl rfl (by kernel_rfl) ?_ | refine ga_skip_un 8 rfl rfl rfl rfl rfl rfl rfl (by kernel_rfl) ?_ | refine ga_free_g 8 rfl (s_move rfl) rfl rfl rfl rfl rfl rfl (by kernel_rfl) ?_)
                      (first | refine ga_skip 9 rfl rfl rfl rfl rfl rfl rfl rfl (by kernel_rfl) ?_ | refine ga_skip_un 9 rfl rfl rfl rfl rfl rfl rfl (by kernel_rfl) ?_ | refine ga_free_g 9 rfl (s_move rfl) rfl rfl rfl rfl rfl rfl (by kernel_rfl) ?_)
                      (first | refine ga_skip 10 rfl rfl rfl rfl rfl rfl rfl rfl (by kernel_rfl) ?_ | refine ga_skip_un 10 rfl rfl rfl rfl rfl rfl rfl (by kernel_rfl) ?_ | refine ga_free_g 10 rfl (s_indexAddr rfl (by assumption) rfl (by omega)) rfl rfl rfl rfl rfl rfl (by kernel_rfl) ?_)
                      (first | refine ga_skip 11 rfl rfl rfl rfl rfl rfl rfl rfl (by kernel_rfl) ?_ | refine ga_skip_un 11 rfl rfl rfl rfl rfl rfl rfl (by kernel_rfl) ?_ | refine ga_free_g 11 rfl (by first | exact s_fieldAddr rfl (by rfl) (by infer_instance) (by decide) | exact s_fieldAddr_o rfl (by assumption) (by rfl) (by infer_instance) (by decide)) rfl rfl rfl rfl rfl rfl (by kernel_rfl) ?_)
                      (first | refine ga_skip 12 rfl rfl rfl rfl rfl rfl rfl rfl (by kernel_rfl) ?_ | refine ga_skip_un 12 rfl rfl rfl rfl rfl rfl rfl (by kernel_rfl) ?_ | refine ga_readF_g 12 rfl (s_load1 rfl (fun w hw => rdE0 hw hrl (i := k) (by omega) hk')) (by (first | exact fun _ h => h | (repeat first | exact sub_nil | refine sub_cons (by repeat first | exact List.Mem.head _ | apply List.Mem.tail) ?_))) rfl rfl rfl rfl rfl rfl (by kernel_rfl) ?_)
                      (first | refine ga_skip 13 rfl rfl rfl rfl rfl rfl rfl rfl (by kernel_rfl) ?_ | refine ga_skip_un 13 rfl rfl rfl rfl rfl rfl rfl (by kernel_rfl) ?_ | refine ga_free_g 13 rfl ((s_neq rfl rfl).eq (v' := .bool true) (by rw [← hq3, hq3f]; rfl)) rfl rfl rfl rfl rfl rfl (by kernel_rfl) ?_)
                      (first | refine ga_skip 14 rfl rfl rfl rfl rfl rfl rfl rfl (by kernel_rfl) ?_ | refine ga_skip_un 14 rfl rfl rfl rfl rfl rfl rfl (by kernel_rfl) ?_ | refine ga_free_g 14 rfl (by first | exact s_pick_t rfl rfl | exact s_pick_f rfl rfl) rfl rfl rfl rfl rfl rfl (by kernel_rfl) ?_)
                      refine ga_free 15 rfl (by first | exact s_pick_t rfl rfl | exact s_pick_f rfl rfl) rfl rfl rfl (by kernel_rfl) ?_
                      refine ga_done (by kernel_rfl) ?_
                      repeat (first | refine g_seq ?_ | refine at_code ?_ | refine g_skip ?_ | refine g_block ?_ | refine g_exit rfl ?_ | refine g_cond_t rfl ?_ | refine g_cond_f rfl ?_)
                      exact at_cut (by (repeat (first | exact Sub.nil _ | refine Sub.cons rfl ?_))) (fun w hw => hw.drop)
                  · repeat (first | refine g_seq ?_ | refine at_code ?_ | refine g_skip ?_ | refine g_block ?_ | refine g_exit rfl ?_ | refine g_cond_t rfl ?_ | refine g_cond_f rfl ?_)
                    repeat (first | refine g_seq ?_ | refine at_code ?_ | refine g_skip ?_ | refine g_block ?_ | refine g_exit rfl ?_ | refine g_cond_t rfl ?_ | refine g_cond_f rfl ?_)
                    refine g_region ?_
                    refine gl_f (s_move rfl) rfl rfl rfl ?_
                    refine gl_f (s_assign rfl) rfl rfl rfl ?_
                    refine gl_nil ?_
                    repeat (first | refine g_seq ?_ | refine at_code ?_ | refine g_skip ?_ | refine g_block ?_ | refine g_exit rfl ?_ | refine g_cond_t rfl ?_ | refine g_cond_f rfl ?_)
                    repeat (first | refine g_seq ?_ | refine at_code ?_ | refine g_skip ?_ | refine g_block ?_ | refine g_exit rfl ?_ | refine g_cond_t rfl ?_ | refine g_cond_f rfl ?_)
                    refine g_region ?_
                    refine gl_f (s_move rfl) rfl rfl rfl ?_
                    refine gl_f ((s_eql rfl rfl).eq (v' := .bool false) (congrArg Value.bool (decide_eq_false (by omega)))) rfl rfl rfl ?_
                    refine gl_nil ?_
                    repeat (first | refine g_seq ?_ | refine at_code ?_ | refine g_skip ?_ | refine g_block ?_ | refine g_exit rfl ?_ | refine g_cond_t rfl ?_ | refine g_cond_f rfl ?_)
                    repeat (first | refine g_seq ?_ | refine at_code ?_ | refine g_skip ?_ | refine g_block ?_ | refine g_exit rfl ?_ | refine g_cond_t rfl ?_ | refine g_cond_f rfl ?_)
                    refine g_draw [1, 5] [blkG g13 g.base g.bt g.ca g.conf.length g.cc a out.length c] 10 rfl ?_
                    refine ga_free 0 rfl (by first | exact s_fieldAddr rfl (by rfl) (by infer_instance) (by decide) | exact s_fieldAddr_o rfl (by assumption) (by rfl) (by infer_instance) (by decide)) rfl rfl rfl (by kernel_rfl) ?_
                    refine ga_read_k 1 rfl (by first | exact .head _ | exact .tail _ (.head _) | exact .tail _ (.tail _ (.head _)) | exact .tail _ (.tail _ (.tail _ (.head _)))) (s_load_blk rfl .del (by rfl)) (by (first | exact fun _ h => h | (repeat first | exact sub_nil | refine sub_cons (by repeat first | exact List.Mem.head _ | apply List.Mem.tail) ?_))) rfl rfl rfl (by kernel_rfl) ?_
                    refine ga_free 2 rfl (s_move rfl) rfl rfl rfl (by kernel_rfl) ?_
                    refine ga_free 3 rfl (s_move rfl) rfl rfl rfl (by kernel_rfl) ?_
                    refine ga_free 4 rfl (s_indexAddr rfl (by assumption) rfl (by omega)) rfl rfl rfl (by kernel_rfl) ?_
                    refine ga_readF 5 rfl (s_loadN rfl (fun w hw => rdE hw hrl (i := k) (by omega) hk') rfl) (by (first | exact fun _ h => h | (repeat first | exact sub_nil | refine sub_cons (by repeat first | exact List.Mem.head _ | apply List.Mem.tail) ?_))) rfl rfl rfl (by kernel_rfl) ?_
                    refine ga_one 6 rfl (by kernel_rfl) ?_
                    refine gl_buildSliceU rfl rfl rfl rfl rfl rfl (xs := enV [l.getD k E0]) rfl rfl ?_; intro a106 ha106
                    refine gl_nil ?_
                    refine at_ga (.inr (by exact keeps_of (by (first | exact fun _ h => h | (repeat first | exact sub_nil | refine sub_cons (by repeat first | exact List.Mem.head _ | apply List.Mem.tail) ?_))))) ?_
                    refine ga_one 7 rfl (by kernel_rfl) ?_
                    refine gl_append rfl rfl (fun a' c' => .there .here) (fun w hw => (hw.ownN .del).2.2.1) rfl rfl rfl (enV_one _) (by show (_ + 1) * 32 ≤ _; omega) (by omega) rfl ?_; intro a107 c107 hc107
                    refine gl_nil ?_
                    refine at_ga (.inr (by exact keeps_of (by (first | exact fun _ h => h | (repeat first | exact sub_nil | refine sub_cons (by repeat first | exact List.Mem.head _ | apply List.Mem.tail) ?_))))) ?_
                    refine ga_free 8 rfl (by first | exact s_fieldAddr rfl (by rfl) (by infer_instance) (by decide) | exact s_fieldAddr_o rfl (by assumption) (by rfl) (by infer_instance) (by decide)) rfl rfl rfl (by kernel_rfl) ?_
                    refine ga_one 9 rfl (by kernel_rfl) ?_
                    (first | refine gl_store_blkC (pre := [_, _, _]) (post := []) rfl rfl (by repeat first|exact .here|apply Upd.there) (by rfl) (by rfl) (by rfl) ?_ | refine gl_store_blk rfl rfl (by repeat first|exact .here|apply Upd.there) (by rfl) (by (intro q hq; simp [Value.cells] at hq; first | (subst hq; rfl) | (rcases hq with rfl | rfl | rfl | rfl | rfl | rfl | rfl | rfl <;> rfl) | (rcases hq with rfl | rfl | rfl | rfl | rfl | rfl | rfl <;> rfl) | (rcases hq with rfl | rfl | rfl | rfl | rfl | rfl <;> rfl) | (rcases hq with rfl | rfl | rfl | rfl | rfl <;> rfl) | (rcases hq with rfl | rfl | rfl | rfl <;> rfl) | (rcases hq with rfl | rfl | rfl <;> rfl) | (rcases hq with rfl | rfl <;> rfl))) (by rfl) ?_)
                    refine gl_nil ?_
                    refine at_ga (.inl (by kernel_rfl)) ?_
                    refine ga_done (by kernel_rfl) ?_
                    repeat (first | refine g_seq ?_ | refine at_code ?_ | refine g_skip ?_ | refine g_block ?_ | refine g_exit rfl ?_ | refine g_cond_t rfl ?_ | refine g_cond_f rfl ?_)
                    repeat (first | refine g_seq ?_ | refine at_code ?_ | refine g_skip ?_ | refine g_block ?_ | refine g_exit rfl ?_ | refine g_cond_t rfl ?_ | refine g_cond_f rfl ?_)
                    refine g_region ?_
                    refine gl_f (s_move rfl) rfl rfl rfl ?_
                    refine gl_f (s_add_i64 rfl rfl (by omega)) rfl rfl rfl ?_
                    refine gl_f (s_assign rfl) rfl rfl rfl ?_
                    refine gl_nil ?_
                    repeat (first | refine g_seq ?_ | refine at_code ?_ | refine g_skip ?_ | refine g_block ?_ | refine g_exit rfl ?_ | refine g_cond_t rfl ?_ | refine g_cond_f rfl ?_)
                    refine at_next (k + 1, prev + 1 + (k : Int), out ++ [l.getD k E0], a107, c107) ⟨by simp only; omega, by simp only; omega, hI2⟩ (by simp only; omega) ?_ ?_
                    · (repeat (first | exact Sub.nil _ | refine Sub.cons rfl ?_))
                    · intro w hw
                      simp only
                      rw [el, enV_append]
                      exact hw.drop
                · -- alike
                  rw [hss] at hsm
                  have hqt : q = true ∧ q3 = true := by cases q <;> cases q3 <;> first | exact ⟨rfl, rfl⟩ | cases hsm
                  have hI2 := beh_same hI hb hss
                  rw [← he] at hI2
                  have el : (out ++ [e]).length = out.length + 1 := by simp
                  obtain ⟨rfl, hq3t⟩ := hqt
                  repeat (first | refine g_seq ?_ | refine at_code ?_ | refine g_skip ?_ | refine g_block ?_ | refine g_exit rfl ?_ | refine g_cond_t rfl ?_ | refine g_cond_f rfl ?_)
                  refine g_draw0 [7, 12] 16 rfl ?_
                  refine ga_free 0 rfl (s_move rfl) rfl rfl rfl (by kernel_rfl) ?_
                  refine ga_free 1 rfl ((s_eql rfl rfl).eq (v' := .bool true) rfl) rfl rfl rfl (by kernel_rfl) ?_
                  refine ga_free 2 rfl (s_move rfl) rfl rfl rfl (by kernel_rfl) ?_
                  (first | refine ga_skip 3 rfl rfl rfl rfl rfl rfl rfl rfl (by kernel_rfl) ?_ | refine ga_skip_un 3 rfl rfl rfl rfl rfl rfl rfl (by kernel_rfl) ?_ | refine ga_free_g 3 rfl (s_move rfl) rfl rfl rfl rfl rfl rfl (by kernel_rfl) ?_)
                  (first | refine ga_skip 4 rfl rfl rfl rfl rfl rfl rfl rfl (by kernel_rfl) ?_ | refine ga_skip_un 4 rfl rfl rfl rfl rfl rfl rfl (by kernel_rfl) ?_ | refine ga_free_g 4 rfl (s_not rfl) rfl rfl rfl rfl rfl rfl (by kernel_rfl) ?_)
                  (first | refine ga_skip 5 rfl rfl rfl rfl rfl rfl rfl rfl (by kernel_rfl) ?_ | refine ga_skip_un 5 rfl rfl rfl rfl rfl rfl rfl (by kernel_rfl) ?_ | refine ga_free_g 5 rfl (s_move rfl) rfl rfl rfl rfl rfl rfl (by kernel_rfl) ?_)
                  (first | refine ga_skip 6 rfl rfl rfl rfl rfl rfl rfl rfl (by kernel_rfl) ?_ | refine ga_skip_un 6 rfl rfl rfl rfl rfl rfl rfl (by kernel_rfl) ?_ | refine ga_free_g 6 rfl (by first | exact s_fieldAddr rfl (by rfl) (by infer_instance) (by decide) | exact s_fieldAddr_o rfl (by assumption) (by rfl) (by infer_instance) (by decide)) rfl rfl rfl rfl rfl rfl (by kernel_rfl) ?_)
                  (first | refine ga_skip 7 rfl rfl rfl rfl rfl rfl rfl rfl (by kernel_rfl) ?_ | refine ga_skip_un 7 rfl rfl rfl rfl rfl rfl rfl (by kernel_rfl) ?_ | refine ga_read_g 7 rfl (by repeat first|exact .del|apply Upd.there) (s_load_blk rfl .del (by rfl)) rfl rfl rfl rfl rfl rfl (by kernel_rfl) ?_)
                  (first | refine ga_skip 8 rfl rfl rfl rfl rfl rfl rfl rfl (by kernel_rfl) ?_ | refine ga_skip_un 8 rfl rfl rfl rfl rfl rfl rfl (by kernel_rfl) ?_ | refine ga_free_g 8 rfl (s_move rfl) rfl rfl rfl rfl rfl rfl (by kernel_rfl) ?_)
                  (first | refine ga_skip 9 rfl rfl rfl rfl rfl rfl rfl rfl (by kernel_rfl) ?_ | refine ga_skip_un 9 rfl rfl rfl rfl rfl rfl rfl (by kernel_rfl) ?_ | refine ga_free_g 9 rfl (s_move rfl) rfl rfl rfl rfl rfl rfl (by kernel_rfl) ?_)
                  (first | refine ga_skip 10 rfl rfl rfl rfl rfl rfl rfl rfl (by kernel_rfl) ?_ | refine ga_skip_un 10 rfl rfl rfl rfl rfl rfl rfl (by kernel_rfl) ?_ | refine ga_free_g 10 rfl (s_indexAddr rfl (by assumption) rfl (by omega)) rfl rfl rfl rfl rfl rfl (by kernel_rfl) ?_)
                  (first | refine ga_skip 11 rfl rfl rfl rfl rfl rfl rfl rfl (by kernel_rfl) ?_ | refine ga_skip_un 11 rfl rfl rfl rfl rfl rfl rfl (by kernel_rfl) ?_ | refine ga_free_g 11 rfl (by first | exact s_fieldAddr rfl (by rfl) (by infer_instance) (by decide) | exact s_fieldAddr_o rfl (by assumption) (by rfl) (by infer_instance) (by decide)) rfl rfl rfl rfl rfl rfl (by kernel_rfl) ?_)
                  (first | refine ga_skip 12 rfl rfl rfl rfl rfl rfl rfl rfl (by kernel_rfl) ?_ | refine ga_skip_un 12 rfl rfl rfl rfl rfl rfl rfl (by kernel_rfl) ?_ | refine ga_readF_g 12 rfl (s_load1 rfl (fun w hw => rdE0 hw hrl (i := k) (by omega) hk')) (by (first | exact fun _ h => h | (repeat first | exact sub_nil | refine sub_cons (by repeat first | exact List.Mem.head _ | apply List.Mem.tail) ?_))) rfl rfl rfl rfl rfl rfl (by kernel_rfl) ?_)
                  (first | refine ga_skip 13 rfl rfl rfl rfl rfl rfl rfl rfl (by kernel_rfl) ?_ | refine ga_skip_un 13 rfl rfl rfl rfl rfl rfl rfl (by kernel_rfl) ?_ | refine ga_free_g 13 rfl ((s_neq rfl rfl).eq (v' := .bool false) (by rw [← hq3, hq3t]; rfl)) rfl rfl rfl rfl rfl rfl (by kernel_rfl) ?_)
                  (first | refine ga_skip 14 rfl rfl rfl rfl rfl rfl rfl rfl (by kernel_rfl) ?_ | refine ga_skip_un 14 rfl rfl rfl rfl rfl rfl rfl (by kernel_rfl) ?_ | refine ga_free_g 14 rfl (by first | exact s_pick_t rfl rfl | exact s_pick_f rfl rfl) rfl rfl rfl rfl rfl rfl (by kernel_rfl) ?_)
                  refine ga_free 15 rfl (by first | exact s_pick_t rfl rfl | exact s_pick_f rfl rfl) rfl rfl rfl (by kernel_rfl) ?_
                  refine ga_done (by kernel_rfl) ?_
                  repeat (first | refine g_seq ?_ | refine at_code ?_ | refine g_skip ?_ | refine g_block ?_ | refine g_exit rfl ?_ | refine g_cond_t rfl ?_ | refine g_cond_f rfl ?_)
                  repeat (first | refine g_seq ?_ | refine at_code ?_ | refine g_skip ?_ | refine g_block ?_ | refine g_exit rfl ?_ | refine g_cond_t rfl ?_ | refine g_cond_f rfl ?_)
                  refine g_region ?_
                  refine gl_f (s_move rfl) rfl rfl rfl ?_
                  refine gl_f (s_eql rfl rfl) rfl rfl rfl ?_
                  refine gl_nil ?_
                  repeat (first | refine g_seq ?_ | refine at_code ?_ | refine g_skip ?_ | refine g_block ?_ | refine g_exit rfl ?_ | refine g_cond_t rfl ?_ | refine g_cond_f rfl ?_)
                  repeat (first | refine g_seq ?_ | refine at_code ?_ | refine g_skip ?_ | refine g_block ?_ | refine g_exit rfl ?_ | refine g_cond_t rfl ?_ | refine g_cond_f rfl ?_)
                  refine g_region ?_
                  refine gl_f (by first | exact s_fieldAddr rfl (by rfl) (by infer_instance) (by decide) | exact s_fieldAddr_o rfl (by assumption) (by rfl) (by infer_instance) (by decide)) rfl rfl rfl ?_
                  refine gl_r (s_load_blk rfl (by repeat first|exact .del|apply Upd.there) (by rfl)) rfl rfl rfl ?_
                  refine gl_r (by first | exact s_load_blkW rfl (by repeat first|exact .del|apply Upd.there) (by rfl) | exact s_load_blkN rfl (by repeat first|exact .del|apply Upd.there) (by rfl)) rfl rfl rfl ?_
                  refine gl_buildSliceU rfl rfl rfl rfl rfl rfl (xs := enV [e]) rfl rfl ?_; intro a97 ha97
                  refine gl_append rfl rfl (fun a' c' => .there (.there .here)) (fun w hw => (hw.ownN .del).2.2.1) rfl rfl rfl (enV_one _) (by show (_ + 1) * 32 ≤ _; omega) (by omega) rfl ?_; intro a98 c98 hc98
                  refine gl_f (by first | exact s_fieldAddr rfl (by rfl) (by infer_instance) (by decide) | exact s_fieldAddr_o rfl (by assumption) (by rfl) (by infer_instance) (by decide)) rfl rfl rfl ?_
                  (first | refine gl_store_blkC (pre := [_, _, _]) (post := []) rfl rfl (by repeat first|exact .here|apply Upd.there) (by rfl) (by rfl) (by rfl) ?_ | refine gl_store_blk rfl rfl (by repeat first|exact .here|apply Upd.there) (by rfl) (by (intro q hq; simp [Value.cells] at hq; first | (subst hq; rfl) | (rcases hq with rfl | rfl | rfl | rfl | rfl | rfl | rfl | rfl <;> rfl) | (rcases hq with rfl | rfl | rfl | rfl | rfl | rfl | rfl <;> rfl) | (rcases hq with rfl | rfl | rfl | rfl | rfl | rfl <;> rfl) | (rcases hq with rfl | rfl | rfl | rfl | rfl <;> rfl) | (rcases hq with rfl | rfl | rfl | rfl <;> rfl) | (rcases hq with rfl | rfl | rfl <;> rfl) | (rcases hq with rfl | rfl <;> rfl))) (by rfl) ?_)
                  refine gl_nil ?_
                  repeat (first | refine g_seq ?_ | refine at_code ?_ | refine g_skip ?_ | refine g_block ?_ | refine g_exit rfl ?_ | refine g_cond_t rfl ?_ | refine g_cond_f rfl ?_)
                  repeat (first | refine g_seq ?_ | refine at_code ?_ | refine g_skip ?_ | refine g_block ?_ | refine g_exit rfl ?_ | refine g_cond_t rfl ?_ | refine g_cond_f rfl ?_)
                  refine g_region ?_
                  refine gl_f (s_move rfl) rfl rfl rfl ?_
                  refine gl_f (s_add_i64 rfl rfl (by omega)) rfl rfl rfl ?_
                  refine gl_f (s_assign rfl) rfl rfl rfl ?_
                  refine gl_nil ?_
                  repeat (first | refine g_seq ?_ | refine at_code ?_ | refine g_skip ?_ | refine g_block ?_ | refine g_exit rfl ?_ | refine g_cond_t rfl ?_ | refine g_cond_f rfl ?_)
                  refine at_next (k + 1, 0, out ++ [e], a98, c98) ⟨by simp only; omega, by simp only; omega, hI2⟩ (by simp only; omega) ?_ ?_
                  · (repeat (first | exact Sub.nil _ | refine Sub.cons rfl ?_))
                  · intro w hw
                    simp only
                    rw [el, enV_append]
                    exact hw.drop.drop
              · have hI2 := beh_more hI ha hk'
                have el : (out ++ [l.getD k E0]).length = out.length + 1 := by simp
                repeat (first | refine g_seq ?_ | refine at_code ?_ | refine g_skip ?_ | refine g_block ?_ | refine g_exit rfl ?_ | refine g_cond_t rfl ?_ | refine g_cond_f rfl ?_)
                refine g_draw0 [7, 12] 16 rfl ?_
                refine ga_free 0 rfl (s_move rfl) rfl rfl rfl (by kernel_rfl) ?_
                refine ga_free 1 rfl ((s_eql rfl rfl).eq (v' := .bool false) (congrArg Value.bool (decide_eq_false ha))) rfl rfl rfl (by kernel_rfl) ?_
                refine ga_free 2 rfl (s_move rfl) rfl rfl rfl (by kernel_rfl) ?_
                (first | refine ga_skip 3 rfl rfl rfl rfl rfl rfl rfl rfl (by kernel_rfl) ?_ | refine ga_skip_un 3 rfl rfl rfl rfl rfl rfl rfl (by kernel_rfl) ?_ | refine ga_free_g 3 rfl (s_move rfl) rfl rfl rfl rfl rfl rfl (by kernel_rfl) ?_)
                (first | refine ga_skip 4 rfl rfl rfl rfl rfl rfl rfl rfl (by kernel_rfl) ?_ | refine ga_skip_un 4 rfl rfl rfl rfl rfl rfl rfl (by kernel_rfl) ?_ | refine ga_free_g 4 rfl (s_not rfl) rfl rfl rfl rfl rfl rfl (by kernel_rfl) ?_)
                (first | refine ga_skip 5 rfl rfl rfl rfl rfl rfl rfl rfl (by kernel_rfl) ?_ | refine ga_skip_un 5 rfl rfl rfl rfl rfl rfl rfl (by kernel_rfl) ?_ | refine ga_free_g 5 rfl (s_move rfl) rfl rfl rfl rfl rfl rfl (by kernel_rfl) ?_)
                (first | refine ga_skip 6 rfl rfl rfl rfl rfl rfl rfl rfl (by kernel_rfl) ?_ | refine ga_skip_un 6 rfl rfl rfl rfl rfl rfl rfl (by kernel_rfl) ?_ | refine ga_free_g 6 rfl (by first | exact s_fieldAddr rfl (by rfl) (by infer_instance) (by decide) | exact s_fieldAddr_o rfl (by assumption) (by rfl) (by infer_instance) (by decide)) rfl rfl rfl rfl rfl rfl (by kernel_rfl) ?_)
                (first | refine ga_skip 7 rfl rfl rfl rfl rfl rfl rfl rfl (by kernel_rfl) ?_ | refine ga_skip_un 7 rfl rfl rfl rfl rfl rfl rfl (by kernel_rfl) ?_ | refine ga_read_g 7 rfl (by repeat first|exact .del|apply Upd.there) (s_load_blk rfl .del (by rfl)) rfl rfl rfl rfl rfl rfl (by kernel_rfl) ?_)
                (first | refine ga_skip 8 rfl rfl rfl rfl rfl rfl rfl rfl (by kernel_rfl) ?_ | refine ga_skip_un 8 rfl rfl rfl rfl rfl rfl rfl (by kernel_rfl) ?_ | refine ga_free_g 8 rfl (s_move rfl) rfl rfl rfl rfl rfl rfl (by kernel_rfl) ?_)
                (first | refine ga_skip 9 rfl rfl rfl rfl rfl rfl rfl rfl (by kernel_rfl) ?_ | refine ga_skip_un 9 rfl rfl rfl rfl rfl rfl rfl (by kernel_rfl) ?_ | refine ga_free_g 9 rfl (s_move rfl) rfl rfl rfl rfl rfl rfl (by kernel_rfl) ?_)
                (first | refine ga_skip 10 rfl rfl rfl rfl rfl rfl rfl rfl (by kernel_rfl) ?_ | refine ga_skip_un 10 rfl rfl rfl rfl rfl rfl rfl (by kernel_rfl) ?_ | refine ga_free_g 10 rfl (s_indexAddr rfl (by assumption) rfl (by omega)) rfl rfl rfl rfl rfl rfl (by kernel_rfl) ?_)
                (first | refine ga_skip 11 rfl rfl rfl rfl rfl rfl rfl rfl (by kernel_rfl) ?_ | refine ga_skip_un 11 rfl rfl rfl rfl rfl rfl rfl (by kernel_rfl) ?_ | refine ga_free_g 11 rfl (by first | exact s_fieldAddr rfl (by rfl) (by infer_instance) (by decide) | exact s_fieldAddr_o rfl (by assumption) (by rfl) (by infer_instance) (by decide)) rfl rfl rfl rfl rfl rfl (by kernel_rfl) ?_)
                (first | refine ga_skip 12 rfl rfl rfl rfl rfl rfl rfl rfl (by kernel_rfl) ?_ | refine ga_skip_un 12 rfl rfl rfl rfl rfl rfl rfl (by kernel_rfl) ?_ | refine ga_readF_g 12 rfl (s_load1 rfl (fun w hw => rdE0 hw hrl (i := k) (by omega) hk')) (by (first | exact fun _ h => h | (repeat first | exact sub_nil | refine sub_cons (by repeat first | exact List.Mem.head _ | apply List.Mem.tail) ?_))) rfl rfl rfl rfl rfl rfl (by kernel_rfl) ?_)
                (first | refine ga_skip 13 rfl rfl rfl rfl rfl rfl rfl rfl (by kernel_rfl) ?_ | refine ga_skip_un 13 rfl rfl rfl rfl rfl rfl rfl (by kernel_rfl) ?_ | refine ga_free_g 13 rfl (s_neq rfl rfl) rfl rfl rfl rfl rfl rfl (by kernel_rfl) ?_)
                (first | refine ga_skip 14 rfl rfl rfl rfl rfl rfl rfl rfl (by kernel_rfl) ?_ | refine ga_skip_un 14 rfl rfl rfl rfl rfl rfl rfl (by kernel_rfl) ?_ | refine ga_free_g 14 rfl (by first | exact s_pick_t rfl rfl | exact s_pick_f rfl rfl) rfl rfl rfl rfl rfl rfl (by kernel_rfl) ?_)
                refine ga_free 15 rfl (by first | exact s_pick_t rfl rfl | exact s_pick_f rfl rfl) rfl rfl rfl (by kernel_rfl) ?_
                refine ga_done (by kernel_rfl) ?_
                repeat (first | refine g_seq ?_ | refine at_code ?_ | refine g_skip ?_ | refine g_block ?_ | refine g_exit rfl ?_ | refine g_cond_t rfl ?_ | refine g_cond_f rfl ?_)
                repeat (first | refine g_seq ?_ | refine at_code ?_ | refine g_skip ?_ | refine g_block ?_ | refine g_exit rfl ?_ | refine g_cond_t rfl ?_ | refine g_cond_f rfl ?_)
                refine g_region ?_
                refine gl_f (s_move rfl) rfl rfl rfl ?_
                refine gl_f ((s_eql rfl rfl).eq (v' := .bool false) (congrArg Value.bool (decide_eq_false ha))) rfl rfl rfl ?_
                refine gl_nil ?_
                repeat (first | refine g_seq ?_ | refine at_code ?_ | refine g_skip ?_ | refine g_block ?_ | refine g_exit rfl ?_ | refine g_cond_t rfl ?_ | refine g_cond_f rfl ?_)
                repeat (first | refine g_seq ?_ | refine at_code ?_ | refine g_skip ?_ | refine g_block ?_ | refine g_exit rfl ?_ | refine g_cond_t rfl ?_ | refine g_cond_f rfl ?_)
                refine g_draw [1, 5] [blkG g13 g.base g.bt g.ca g.conf.length g.cc a out.length c] 10 rfl ?_
                refine ga_free 0 rfl (by first | exact s_fieldAddr rfl (by rfl) (by infer_instance) (by decide) | exact s_fieldAddr_o rfl (by assumption) (by rfl) (by infer_instance) (by decide)) rfl rfl rfl (by kernel_rfl) ?_
                refine ga_read_k 1 rfl (by first | exact .head _ | exact .tail _ (.head _) | exact .tail _ (.tail _ (.head _)) | exact .tail _ (.tail _ (.tail _ (.head _)))) (s_load_blk rfl .del (by rfl)) (by (first | exact fun _ h => h | (repeat first | exact sub_nil | refine sub_cons (by repeat first | exact List.Mem.head _ | apply List.Mem.tail) ?_))) rfl rfl rfl (by kernel_rfl) ?_
                refine ga_free 2 rfl (s_move rfl) rfl rfl rfl (by kernel_rfl) ?_
                refine ga_free 3 rfl (s_move rfl) rfl rfl rfl (by kernel_rfl) ?_
                refine ga_free 4 rfl (s_indexAddr rfl (by assumption) rfl (by omega)) rfl rfl rfl (by kernel_rfl) ?_
                refine ga_readF 5 rfl (s_loadN rfl (fun w hw => rdE hw hrl (i := k) (by omega) hk') rfl) (by (first | exact fun _ h => h | (repeat first | exact sub_nil | refine sub_cons (by repeat first | exact List.Mem.head _ | apply List.Mem.tail) ?_))) rfl rfl rfl (by kernel_rfl) ?_
                refine ga_one 6 rfl (by kernel_rfl) ?_
                refine gl_buildSliceU rfl rfl rfl rfl rfl rfl (xs := enV [l.getD k E0]) rfl rfl ?_; intro a106 ha106
                refine gl_nil ?_
                refine at_ga (.inr (by exact keeps_of (by (first | exact fun _ h => h | (repeat first | exact sub_nil | refine sub_cons (by repeat first | exact List.Mem.head _ | apply List.Mem.tail) ?_))))) ?_
                refine ga_one 7 rfl (by kernel_rfl) ?_
                refine gl_append rfl rfl (fun a' c' => .there (.there .here)) (fun w hw => (hw.ownN .del).2.2.1) rfl rfl rfl (enV_one _) (by show (_ + 1) * 32 ≤ _; omega) (by omega) rfl ?_; intro a107 c107 hc107
                refine gl_nil ?_
                refine at_ga (.inr (by exact keeps_of (by (first | exact fun _ h => h | (repeat first | exact sub_nil | refine sub_cons (by repeat first | exact List.Mem.head _ | apply List.Mem.tail) ?_))))) ?_
                refine ga_free 8 rfl (by first | exact s_fieldAddr rfl (by rfl) (by infer_instance) (by decide) | exact s_fieldAddr_o rfl (by assumption) (by rfl) (by infer_instance) (by decide)) rfl rfl rfl (by kernel_rfl) ?_
                refine ga_one 9 rfl (by kernel_rfl) ?_
                (first | refine gl_store_blkC (pre := [_, _, _]) (post := []) rfl rfl (by repeat first|exact .here|apply Upd.there) (by rfl) (by rfl) (by rfl) ?_ | refine gl_store_blk rfl rfl (by repeat first|exact .here|apply Upd.there) (by rfl) (by (intro q hq; simp [Value.cells] at hq; first | (subst hq; rfl) | (rcases hq with rfl | rfl | rfl | rfl | rfl | rfl | rfl | rfl <;> rfl) | (rcases hq with rfl | rfl | rfl | rfl | rfl | rfl | rfl <;> rfl) | (rcases hq with rfl | rfl | rfl | rfl | rfl | rfl <;> rfl) | (rcases hq with rfl | rfl | rfl | rfl | rfl <;> rfl) | (rcases hq with rfl | rfl | rfl | rfl <;> rfl) | (rcases hq with rfl | rfl | rfl <;> rfl) | (rcases hq with rfl | rfl <;> rfl))) (by rfl) ?_)
                refine gl_nil ?_
                refine at_ga (.inl (by kernel_rfl)) ?_
                refine ga_done (by kernel_rfl) ?_
                repeat (first | refine g_seq ?_ | refine at_code ?_ | refine g_skip ?_ | refine g_block ?_ | refine g_exit rfl ?_ | refine g_cond_t rfl ?_ | refine g_cond_f rfl ?_)
                repeat (first | refine g_seq ?_ | refine at_code ?_ | refine g_skip ?_ | refine g_block ?_ | refine g_exit rfl ?_ | refine g_cond_t rfl ?_ | refine g_cond_f rfl ?_)
                refine g_region ?_
                refine gl_f (s_move rfl) rfl rfl rfl ?_
                refine gl_f (s_add_i64 rfl rfl (by omega)) rfl rfl rfl ?_
                refine gl_f (s_assign rfl) rfl rfl rfl ?_
                refine gl_nil ?_
                repeat (first | refine g_seq ?_ | refine at_code ?_ | refine g_skip ?_ | refine g_block ?_ | refine g_exit rfl ?_ | refine g_cond_t rfl ?_ | refine g_cond_f rfl ?_)
                refine at_next (k + 1, at_, out ++ [l.getD k E0], a107, c107) ⟨by simp only; omega, by simp only; omega, hI2⟩ (by simp only; omega) ?_ ?_
                · (repeat (first | exact Sub.nil _ | refine Sub.cons rfl ?_))
                · intro w hw
                  simp only
                  rw [el, enV_append]
                  exact hw.drop.drop
            · have hkl : k = l.length := by simp at h; omega
              subst hkl
              rw [beh_end hI hok]
              by_cases ha : at_ = 0
              · rw [if_pos ha]
                repeat (first | refine g_seq ?_ | refine at_code ?_ | refine g_skip ?_ | refine g_block ?_ | refine g_exit rfl ?_ | refine g_cond_t rfl ?_ | refine g_cond_f rfl ?_)
                repeat (first | refine g_seq ?_ | refine at_code ?_ | refine g_skip ?_ | refine g_block ?_ | refine g_exit rfl ?_ | refine g_cond_t rfl ?_ | refine g_cond_f rfl ?_)
                refine g_region ?_
                refine gl_f (s_move rfl) rfl rfl rfl ?_
                refine gl_f ((s_eql rfl rfl).eq (v' := .bool true) (congrArg Value.bool (decide_eq_true ha))) rfl rfl rfl ?_
                refine gl_nil ?_
                repeat (first | refine g_seq ?_ | refine at_code ?_ | refine g_skip ?_ | refine g_block ?_ | refine g_exit rfl ?_ | refine g_cond_t rfl ?_ | refine g_cond_f rfl ?_)
                repeat (first | refine g_seq ?_ | refine at_code ?_ | refine g_skip ?_ | refine g_block ?_ | refine g_exit rfl ?_ | refine g_cond_t rfl ?_ | refine g_cond_f rfl ?_)
                refine g_region ?_
                refine gl_r (by first | exact s_load_blkW rfl (by repeat first|exact .del|apply Upd.there) (by rfl) | exact s_load_blkN rfl (by repeat first|exact .del|apply Upd.there) (by rfl)) rfl rfl rfl ?_
                (first | refine gl_store_blkW rfl rfl (by repeat first|exact .here|apply Upd.there) (by rfl) (by rfl) (by (intro q hq; simp [Value.cells] at hq; first | (subst hq; rfl) | (rcases hq with rfl | rfl | rfl | rfl | rfl | rfl | rfl | rfl <;> rfl) | (rcases hq with rfl | rfl | rfl | rfl | rfl | rfl | rfl <;> rfl) | (rcases hq with rfl | rfl | rfl | rfl | rfl | rfl <;> rfl) | (rcases hq with rfl | rfl | rfl | rfl | rfl <;> rfl) | (rcases hq with rfl | rfl | rfl | rfl <;> rfl) | (rcases hq with rfl | rfl | rfl <;> rfl) | (rcases hq with rfl | rfl <;> rfl))) ?_ | refine gl_store_blk rfl rfl (by repeat first|exact .here|apply Upd.there) (by rfl) (by (intro q hq; simp [Value.cells] at hq; first | (subst hq; rfl) | (rcases hq with rfl | rfl | rfl | rfl | rfl | rfl | rfl | rfl <;> rfl) | (rcases hq with rfl | rfl | rfl | rfl | rfl | rfl | rfl <;> rfl) | (rcases hq with rfl | rfl | rfl | rfl | rfl | rfl <;> rfl) | (rcases hq with rfl | rfl | rfl | rfl | rfl <;> rfl) | (rcases hq with rfl | rfl | rfl | rfl <;> rfl) | (rcases hq with rfl | rfl | rfl <;> rfl) | (rcases hq with rfl | rfl <;> rfl))) (by rfl) ?_)
                refine gl_f (s_assign rfl) rfl rfl rfl ?_
                refine gl_f (s_assign rfl) rfl rfl rfl ?_
                refine gl_nil ?_
                repeat (first | refine g_seq ?_ | refine at_code ?_ | refine g_skip ?_ | refine g_block ?_ | refine g_exit rfl ?_ | refine g_cond_t rfl ?_ | refine g_cond_f rfl ?_)
                refine g_ret ?_
                exact at_endB2 rfl rfl rfl rfl (by repeat first|exact .del|apply Upd.there) rfl [] (.inl ⟨rfl, rfl, rfl⟩) (fun _ h => h.dropAll)
              · rw [if_neg ha]
                repeat (first | refine g_seq ?_ | refine at_code ?_ | refine g_skip ?_ | refine g_block ?_ | refine g_exit rfl ?_ | refine g_cond_t rfl ?_ | refine g_cond_f rfl ?_)
                repeat (first | refine g_seq ?_ | refine at_code ?_ | refine g_skip ?_ | refine g_block ?_ | refine g_exit rfl ?_ | refine g_cond_t rfl ?_ | refine g_cond_f rfl ?_)
                refine g_region ?_
                refine gl_f (s_move rfl) rfl rfl rfl ?_
                refine gl_f ((s_eql rfl rfl).eq (v' := .bool false) (congrArg Value.bool (decide_eq_false ha))) rfl rfl rfl ?_
                refine gl_nil ?_
                repeat (first | refine g_seq ?_ | refine at_code ?_ | refine g_skip ?_ | refine g_block ?_ | refine g_exit rfl ?_ | refine g_cond_t rfl ?_ | refine g_cond_f rfl ?_)
                repeat (first | refine g_seq ?_ | refine at_code ?_ | refine g_skip ?_ | refine g_block ?_ | refine g_exit rfl ?_ | refine g_cond_t rfl ?_ | refine g_cond_f rfl ?_)
                refine g_region ?_
                refine gl_r (by first | exact s_load_blkW rfl (by repeat first|exact .del|apply Upd.there) (by rfl) | exact s_load_blkN rfl (by repeat first|exact .del|apply Upd.there) (by rfl)) rfl rfl rfl ?_
                refine gl_f (s_move rfl) rfl rfl rfl ?_
                (first | refine gl_store_blkW rfl rfl (by repeat first|exact .here|apply Upd.there) (by rfl) (by rfl) (by (intro q hq; simp [Value.cells] at hq; first | (subst hq; rfl) | (rcases hq with rfl | rfl | rfl | rfl | rfl | rfl | rfl | rfl <;> rfl) | (rcases hq with rfl | rfl | rfl | rfl | rfl | rfl | rfl <;> rfl) | (rcases hq with rfl | rfl | rfl | rfl | rfl | rfl <;> rfl) | (rcases hq with rfl | rfl | rfl | rfl | rfl <;> rfl) | (rcases hq with rfl | rfl | rfl | rfl <;> rfl) | (rcases hq with rfl | rfl | rfl <;> rfl) | (rcases hq with rfl | rfl <;> rfl))) ?_ | refine gl_store_blk rfl rfl (by repeat first|exact .here|apply Upd.there) (by rfl) (by (intro q hq; simp [Value.cells] at hq; first | (subst hq; rfl) | (rcases hq with rfl | rfl | rfl | rfl | rfl | rfl | rfl | rfl <;> rfl) | (rcases hq with rfl | rfl | rfl | rfl | rfl | rfl | rfl <;> rfl) | (rcases hq with rfl | rfl | rfl | rfl | rfl | rfl <;> rfl) | (rcases hq with rfl | rfl | rfl | rfl | rfl <;> rfl) | (rcases hq with rfl | rfl | rfl | rfl <;> rfl) | (rcases hq with rfl | rfl | rfl <;> rfl) | (rcases hq with rfl | rfl <;> rfl))) (by rfl) ?_)
                refine gl_f (s_assign rfl) rfl rfl rfl ?_
                refine gl_f (s_assign rfl) rfl rfl rfl ?_
                refine gl_nil ?_
                repeat (first | refine g_seq ?_ | refine at_code ?_ | refine g_skip ?_ | refine g_block ?_ | refine g_exit rfl ?_ | refine g_cond_t rfl ?_ | refine g_cond_f rfl ?_)
                refine g_ret ?_
                exact at_endB2 rfl rfl rfl rfl (by repeat first|exact .del|apply Upd.there) rfl [OwnL a out c] (.inr ⟨a, c, rfl, rfl⟩) (fun w hw => Hp.left (R := [_, _, _]) hw)
end Go.Proofs.Ytodcghipfolejaa
