/- Tail: merging, against the reference. -/
import Derived.Test.YtodcghipfolejaaU13
namespace Go.Proofs.Ytodcghipfolejaa
open Go Go.Sl
set_option linter.unusedVariables false
set_option linter.unusedSimpArgs false

section
variable {x : As} {r ys : List As}
theorem d0 : Upd (x :: r) x [] (r) := .del
theorem d1 {y0 : As} : Upd (y0 :: x :: r) x [] (y0 :: r) := .there d0
theorem d2 {y0 y1 : As} : Upd (y0 :: y1 :: x :: r) x [] (y0 :: y1 :: r) := .there d1
theorem d3 {y0 y1 y2 : As} : Upd (y0 :: y1 :: y2 :: x :: r) x [] (y0 :: y1 :: y2 :: r) := .there d2
theorem d4 {y0 y1 y2 y3 : As} : Upd (y0 :: y1 :: y2 :: y3 :: x :: r) x [] (y0 :: y1 :: y2 :: y3 :: r) := .there d3
theorem d5 {y0 y1 y2 y3 y4 : As} : Upd (y0 :: y1 :: y2 :: y3 :: y4 :: x :: r) x [] (y0 :: y1 :: y2 :: y3 :: y4 :: r) := .there d4
theorem d6 {y0 y1 y2 y3 y4 y5 : As} : Upd (y0 :: y1 :: y2 :: y3 :: y4 :: y5 :: x :: r) x [] (y0 :: y1 :: y2 :: y3 :: y4 :: y5 :: r) := .there d5
theorem d7 {y0 y1 y2 y3 y4 y5 y6 : As} : Upd (y0 :: y1 :: y2 :: y3 :: y4 :: y5 :: y6 :: x :: r) x [] (y0 :: y1 :: y2 :: y3 :: y4 :: y5 :: y6 :: r) := .there d6
theorem d8 {y0 y1 y2 y3 y4 y5 y6 y7 : As} : Upd (y0 :: y1 :: y2 :: y3 :: y4 :: y5 :: y6 :: y7 :: x :: r) x [] (y0 :: y1 :: y2 :: y3 :: y4 :: y5 :: y6 :: y7 :: r) := .there d7
theorem d9 {y0 y1 y2 y3 y4 y5 y6 y7 y8 : As} : Upd (y0 :: y1 :: y2 :: y3 :: y4 :: y5 :: y6 :: y7 :: y8 :: x :: r) x [] (y0 :: y1 :: y2 :: y3 :: y4 :: y5 :: y6 :: y7 :: y8 :: r) := .there d8
end
theorem mrg_len (g : LM) (prev term : Int) (l : List Ent) : (mrgL g prev term l).l.length ≤ g.l.length + l.length := by
  have hB : ∀ p t m, (mrgB g p t m).l.length ≤ g.l.length + m.length := fun p t m => by
    unfold mrgB
    split
    · simp only; omega
    · split
      · simp only; omega
      · simp only [List.length_append, List.length_take, List.length_drop]; omega
  unfold mrgL
  split
  · have := hB g.base g.bt (l.drop (g.base - prev).toNat)
    rw [List.length_drop] at this; omega
  · exact hB prev term l
set_option maxRecDepth 8000 in
set_option maxHeartbeats 4000000 in
theorem TailMerges_ct (g : LM) (prev term : Int) (l : List Ent) (lb : Option Addr) (ld : Nat) (h0 : 0 ≤ g.base) (hcap : g.l.length ≤ g.lc) (hc : g.conf.length ≤ 9223372036854775807) (hl : g.l.length ≤ 9223372036854775807) (hp : 0 ≤ prev ∧ prev ≤ 18446744073709551615) (hll : l.length ≤ 9223372036854775807) (hld : l.length ≤ ld) : Pu Try.prog 9 [g.v, .int .u64 prev, .int .u64 term, .slice lb l.length ld] (fun h => g.ok h ∧ RdS h lb (enV l)) (.bool true) := by
  refine ct_enter 74 Try.func9 rfl rfl rfl ?_
  intro F hr0
  obtain ⟨hr, hrl⟩ := hr0
  repeat (first | refine g_seq ?_ | refine at_code ?_ | refine g_skip ?_ | refine g_block ?_ | refine g_exit rfl ?_ | refine g_cond_t rfl ?_ | refine g_cond_f rfl ?_)
  refine g_region ?_
  refine gl_boxA rfl rfl ?_; intro g4
  refine gl_f (s_assign rfl) rfl rfl rfl ?_
  refine gl_nil ?_
  repeat (first | refine g_seq ?_ | refine at_code ?_ | refine g_skip ?_ | refine g_block ?_ | refine g_exit rfl ?_ | refine g_cond_t rfl ?_ | refine g_cond_f rfl ?_)
  refine g_region ?_
  refine gl_callp rfl talive_ct (fun _ _ _ => trivial) rfl ?_
  refine gl_f (s_not rfl) rfl rfl rfl ?_
  refine gl_nil ?_
  repeat (first | refine g_seq ?_ | refine at_code ?_ | refine g_skip ?_ | refine g_block ?_ | refine g_exit rfl ?_ | refine g_cond_t rfl ?_ | refine g_cond_f rfl ?_)
  obtain ⟨q, hq⟩ : ∃ q, q = right60 g := ⟨_, rfl⟩
  obtain ⟨q2, hq2⟩ : ∃ q, q = decide (60 < (l.length : Int)) := ⟨_, rfl⟩
  by_cases hgo : q = true ∧ q2 = false
  · obtain ⟨rfl, rfl⟩ := hgo
    obtain ⟨hf, hl60⟩ := right60_spec hq.symm h0 hcap
    have h1 := hf.lo
    have h2 := hf.hi
    have h3 := hf.len
    have h4 := hf.cl
    have hl2 : l.length ≤ 60 := by have := of_decide_eq_false hq2.symm; omega
    repeat (first | refine g_seq ?_ | refine at_code ?_ | refine g_skip ?_ | refine g_block ?_ | refine g_exit rfl ?_ | refine g_cond_t rfl ?_ | refine g_cond_f rfl ?_)
    refine g_region ?_
    refine gl_r (by first | exact s_load_blkW rfl (by first | exact d0 | exact d1 | exact d2 | exact d3 | exact d4 | exact d5 | exact d6 | exact d7 | exact d8 | exact d9) (by rfl) | exact s_load_blkN rfl (by first | exact d0 | exact d1 | exact d2 | exact d3 | exact d4 | exact d5 | exact d6 | exact d7 | exact d8 | exact d9) (by rfl)) rfl rfl rfl ?_
    refine gl_callp rfl (right_ct g hc hl) (fun h hh _ => hr.le hh) rfl ?_; rw [← hq]
    refine gl_f (s_not rfl) rfl rfl rfl ?_
    refine gl_f (s_move rfl) rfl rfl rfl ?_
    (first | refine gl_guard_no rfl rfl rfl rfl rfl rfl rfl ?_ | refine gl_guard_un rfl rfl rfl rfl rfl rfl ?_ | (refine gl_guard_yes rfl rfl rfl ?_; refine gl_f (s_move rfl) rfl rfl rfl ?_))
    (first | refine gl_guard_no rfl rfl rfl rfl rfl rfl rfl ?_ | refine gl_guard_un rfl rfl rfl rfl rfl rfl ?_ | (refine gl_guard_yes rfl rfl rfl ?_; refine gl_f (s_len_sl rfl) rfl rfl rfl ?_))
    (first | refine gl_guard_no rfl rfl rfl rfl rfl rfl rfl ?_ | refine gl_guard_un rfl rfl rfl rfl rfl rfl ?_ | (refine gl_guard_yes rfl rfl rfl ?_; refine gl_f ((s_gtr rfl rfl).eq (congrArg Value.bool hq2.symm)) rfl rfl rfl ?_))
    refine gl_f (by first | exact s_pick_t rfl rfl | exact s_pick_f rfl rfl) rfl rfl rfl ?_
    refine gl_nil ?_
    repeat (first | refine g_seq ?_ | refine at_code ?_ | refine g_skip ?_ | refine g_block ?_ | refine g_exit rfl ?_ | refine g_cond_t rfl ?_ | refine g_cond_f rfl ?_)
    repeat (first | refine g_seq ?_ | refine at_code ?_ | refine g_skip ?_ | refine g_block ?_ | refine g_exit rfl ?_ | refine g_cond_t rfl ?_ | refine g_cond_f rfl ?_)
    refine g_region ?_
    refine gl_r (by first | exact s_load_blkW rfl (by first | exact d0 | exact d1 | exact d2 | exact d3 | exact d4 | exact d5 | exact d6 | exact d7 | exact d8 | exact d9) (by rfl) | exact s_load_blkN rfl (by first | exact d0 | exact d1 | exact d2 | exact d3 | exact d4 | exact d5 | exact d6 | exact d7 | exact d8 | exact d9) (by rfl)) rfl rfl rfl ?_
    refine gl_call _ rfl (twin_ct g (by omega) (by omega)) (fun w hw => hw) (fun h hh _ => hr.le hh) rfl ?_; rintro v A ⟨oca, occ, ola, olc, rfl, rfl⟩
    refine gl_buildSlice0 rfl ?_; intro a29
    refine gl_f (s_move rfl) rfl rfl rfl ?_
    refine gl_append rfl rfl (fun a' c' => .here) (fun w hw => hrl.le hw.keep) (enV_length _) rfl rfl (enV_one _) (by show (_ + _) * 32 ≤ _; omega) (by omega) rfl ?_; intro am cm hcm
    refine gl_allocA rfl ?_; intro g9
    (first | refine gl_store_blkW rfl rfl (by first | exact .here | exact .there .here | exact .there (.there .here) | exact .there (.there (.there .here)) | exact .there (.there (.there (.there .here))) | exact .there (.there (.there (.there (.there .here)))) | exact .there (.there (.there (.there (.there (.there .here))))) | exact .there (.there (.there (.there (.there (.there (.there .here)))))) | exact .there (.there (.there (.there (.there (.there (.there (.there .here))))))) | exact .there (.there (.there (.there (.there (.there (.there (.there (.there .here))))))))) (by rfl) (by rfl) (by (intro q hq; simp [Value.cells] at hq; first | (subst hq; rfl) | (rcases hq with rfl | rfl | rfl | rfl | rfl | rfl | rfl | rfl <;> rfl) | (rcases hq with rfl | rfl | rfl | rfl | rfl | rfl | rfl <;> rfl) | (rcases hq with rfl | rfl | rfl | rfl | rfl | rfl <;> rfl) | (rcases hq with rfl | rfl | rfl | rfl | rfl <;> rfl) | (rcases hq with rfl | rfl | rfl | rfl <;> rfl) | (rcases hq with rfl | rfl | rfl <;> rfl) | (rcases hq with rfl | rfl <;> rfl))) ?_ | refine gl_store_blk rfl rfl (by first | exact .here | exact .there .here | exact .there (.there .here) | exact .there (.there (.there .here)) | exact .there (.there (.there (.there .here))) | exact .there (.there (.there (.there (.there .here)))) | exact .there (.there (.there (.there (.there (.there .here))))) | exact .there (.there (.there (.there (.there (.there (.there .here)))))) | exact .there (.there (.there (.there (.there (.there (.there (.there .here))))))) | exact .there (.there (.there (.there (.there (.there (.there (.there (.there .here))))))))) (by rfl) (by (intro q hq; simp [Value.cells] at hq; first | (subst hq; rfl) | (rcases hq with rfl | rfl | rfl | rfl | rfl | rfl | rfl | rfl <;> rfl) | (rcases hq with rfl | rfl | rfl | rfl | rfl | rfl | rfl <;> rfl) | (rcases hq with rfl | rfl | rfl | rfl | rfl | rfl <;> rfl) | (rcases hq with rfl | rfl | rfl | rfl | rfl <;> rfl) | (rcases hq with rfl | rfl | rfl | rfl <;> rfl) | (rcases hq with rfl | rfl | rfl <;> rfl) | (rcases hq with rfl | rfl <;> rfl))) (by rfl) ?_)
    refine gl_f (s_assign rfl) rfl rfl rfl ?_
    refine gl_nil ?_
    repeat (first | refine g_seq ?_ | refine at_code ?_ | refine g_skip ?_ | refine g_block ?_ | refine g_exit rfl ?_ | refine g_cond_t rfl ?_ | refine g_cond_f rfl ?_)
    rw [Nat.zero_add, List.nil_append]
    refine g_weak (L' := [(1, .int .u64 prev), (2, .int .u64 term), (3, .slice lb l.length ld), (4, Ptr g4), (9, Ptr g9), (10, .slice am l.length cm)]) (H' := [blkG g9 g.base g.bt oca g.conf.length occ ola g.l.length olc, OwnL am l cm, OwnL ola g.l olc, OwnC oca g.conf occ, blkG g4 g.base g.bt g.ca g.conf.length g.cc g.la g.l.length g.lc]) (by (repeat (first | exact Sub.nil _ | refine Sub.cons rfl ?_))) (fun w hw => hw.perm (perm_up (by first | exact d0 | exact d1 | exact d2 | exact d3 | exact d4 | exact d5 | exact d6 | exact d7 | exact d8 | exact d9) (perm_up (by first | exact d0 | exact d1 | exact d2 | exact d3 | exact d4 | exact d5 | exact d6 | exact d7 | exact d8 | exact d9) (perm_up (by first | exact d0 | exact d1 | exact d2 | exact d3 | exact d4 | exact d5 | exact d6 | exact d7 | exact d8 | exact d9) (perm_up (by first | exact d0 | exact d1 | exact d2 | exact d3 | exact d4 | exact d5 | exact d6 | exact d7 | exact d8 | exact d9) (perm_up (by first | exact d0 | exact d1 | exact d2 | exact d3 | exact d4 | exact d5 | exact d6 | exact d7 | exact d8 | exact d9) (.refl _))))))) ?_
    refine g_ownN (a := ola) (by first | exact d0 | exact d1 | exact d2 | exact d3 | exact d4 | exact d5 | exact d6 | exact d7 | exact d8 | exact d9) (fun _ hoc _ => ?_)
    have hfo : (⟨g.base, g.bt, g.conf, g.l, oca, occ, ola, olc⟩ : LM).fit := ⟨h1, h2, h3, h4, hoc⟩
    obtain ⟨r, hrz⟩ : ∃ r, r = mrgL g prev term l := ⟨_, rfl⟩
    have hmo : mrgL (⟨g.base, g.bt, g.conf, g.l, oca, occ, ola, olc⟩ : LM) prev term l = r := by rw [hrz]; rfl
    repeat (first | refine g_seq ?_ | refine at_code ?_ | refine g_skip ?_ | refine g_block ?_ | refine g_exit rfl ?_ | refine g_cond_t rfl ?_ | refine g_cond_f rfl ?_)
    refine g_region ?_
    refine gl_r (by first | exact s_load_blkW rfl (by first | exact d0 | exact d1 | exact d2 | exact d3 | exact d4 | exact d5 | exact d6 | exact d7 | exact d8 | exact d9) (by rfl) | exact s_load_blkN rfl (by first | exact d0 | exact d1 | exact d2 | exact d3 | exact d4 | exact d5 | exact d6 | exact d7 | exact d8 | exact d9) (by rfl)) rfl rfl rfl ?_
    refine gl_f (s_move rfl) rfl rfl rfl ?_
    refine gl_f (s_move rfl) rfl rfl rfl ?_
    refine gl_f (s_move rfl) rfl rfl rfl ?_
    refine gl_call _ rfl (Merge_ct ⟨g.base, g.bt, g.conf, g.l, oca, occ, ola, olc⟩ prev term l am cm hfo hp (by omega) (by omega)) (fun w hw => hw) (fun h hh ⟨bs, hb⟩ => ⟨⟨Sat.rd (a := oca) hb (by first | exact d0 | exact d1 | exact d2 | exact d3 | exact d4 | exact d5 | exact d6 | exact d7 | exact d8 | exact d9), Sat.rd (a := ola) hb (by first | exact d0 | exact d1 | exact d2 | exact d3 | exact d4 | exact d5 | exact d6 | exact d7 | exact d8 | exact d9)⟩, Sat.rd (a := am) hb (by first | exact d0 | exact d1 | exact d2 | exact d3 | exact d4 | exact d5 | exact d6 | exact d7 | exact d8 | exact d9)⟩) rfl ?_; rw [hmo]; rintro v A ⟨ca1, cc1, la1, lc1, rfl, rfl⟩
    refine gl_f (s_move rfl) rfl rfl rfl ?_
    refine gl_f (s_extract rfl rfl) rfl rfl rfl ?_
    refine gl_f (s_extract rfl rfl) rfl rfl rfl ?_
    refine gl_f (s_extract rfl rfl) rfl rfl rfl ?_
    refine gl_allocA rfl ?_; intro g11
    (first | refine gl_store_blkW rfl rfl (by first | exact .here | exact .there .here | exact .there (.there .here) | exact .there (.there (.there .here)) | exact .there (.there (.there (.there .here))) | exact .there (.there (.there (.there (.there .here)))) | exact .there (.there (.there (.there (.there (.there .here))))) | exact .there (.there (.there (.there (.there (.there (.there .here)))))) | exact .there (.there (.there (.there (.there (.there (.there (.there .here))))))) | exact .there (.there (.there (.there (.there (.there (.there (.there (.there .here))))))))) (by rfl) (by rfl) (by (intro q hq; simp [Value.cells] at hq; first | (subst hq; rfl) | (rcases hq with rfl | rfl | rfl | rfl | rfl | rfl | rfl | rfl <;> rfl) | (rcases hq with rfl | rfl | rfl | rfl | rfl | rfl | rfl <;> rfl) | (rcases hq with rfl | rfl | rfl | rfl | rfl | rfl <;> rfl) | (rcases hq with rfl | rfl | rfl | rfl | rfl <;> rfl) | (rcases hq with rfl | rfl | rfl | rfl <;> rfl) | (rcases hq with rfl | rfl | rfl <;> rfl) | (rcases hq with rfl | rfl <;> rfl))) ?_ | refine gl_store_blk rfl rfl (by first | exact .here | exact .there .here | exact .there (.there .here) | exact .there (.there (.there .here)) | exact .there (.there (.there (.there .here))) | exact .there (.there (.there (.there (.there .here)))) | exact .there (.there (.there (.there (.there (.there .here))))) | exact .there (.there (.there (.there (.there (.there (.there .here)))))) | exact .there (.there (.there (.there (.there (.there (.there (.there .here))))))) | exact .there (.there (.there (.there (.there (.there (.there (.there (.there .here))))))))) (by rfl) (by (intro q hq; simp [Value.cells] at hq; first | (subst hq; rfl) | (rcases hq with rfl | rfl | rfl | rfl | rfl | rfl | rfl | rfl <;> rfl) | (rcases hq with rfl | rfl | rfl | rfl | rfl | rfl | rfl <;> rfl) | (rcases hq with rfl | rfl | rfl | rfl | rfl | rfl <;> rfl) | (rcases hq with rfl | rfl | rfl | rfl | rfl <;> rfl) | (rcases hq with rfl | rfl | rfl | rfl <;> rfl) | (rcases hq with rfl | rfl | rfl <;> rfl) | (rcases hq with rfl | rfl <;> rfl))) (by rfl) ?_)
    refine gl_f (s_assign rfl) rfl rfl rfl ?_
    refine gl_f (s_assign rfl) rfl rfl rfl ?_
    refine gl_nil ?_
    repeat (first | refine g_seq ?_ | refine at_code ?_ | refine g_skip ?_ | refine g_block ?_ | refine g_exit rfl ?_ | refine g_cond_t rfl ?_ | refine g_cond_f rfl ?_)
    repeat (first | refine g_seq ?_ | refine at_code ?_ | refine g_skip ?_ | refine g_block ?_ | refine g_exit rfl ?_ | refine g_cond_t rfl ?_ | refine g_cond_f rfl ?_)
    refine g_region ?_
    refine gl_r (by first | exact s_load_blkW rfl (by first | exact d0 | exact d1 | exact d2 | exact d3 | exact d4 | exact d5 | exact d6 | exact d7 | exact d8 | exact d9) (by rfl) | exact s_load_blkN rfl (by first | exact d0 | exact d1 | exact d2 | exact d3 | exact d4 | exact d5 | exact d6 | exact d7 | exact d8 | exact d9) (by rfl)) rfl rfl rfl ?_
    refine gl_f (s_move rfl) rfl rfl rfl ?_
    refine gl_f (s_move rfl) rfl rfl rfl ?_
    refine gl_f (s_move rfl) rfl rfl rfl ?_
    refine gl_call _ rfl (rMerge_ct g prev term l lb ld hf hp (by omega) hld) (fun w hw => hw) (fun h hh _ => ⟨hr.2.le hh, hrl.le hh⟩) rfl ?_; rw [← hrz]; rintro v A (⟨hrl2, rfl, rfl⟩ | ⟨la2, lc2, rfl, rfl⟩)
    all_goals (refine gl_f (s_move rfl) rfl rfl rfl ?_)
    all_goals (refine gl_f (s_extract rfl rfl) rfl rfl rfl ?_)
    all_goals (refine gl_f (s_extract rfl rfl) rfl rfl rfl ?_)
    all_goals (refine gl_f (s_extract rfl rfl) rfl rfl rfl ?_)
    all_goals (refine gl_allocA rfl ?_; intro g14)
    all_goals ((first | refine gl_store_blkW rfl rfl (by first | exact .here | exact .there .here | exact .there (.there .here) | exact .there (.there (.there .here)) | exact .there (.there (.there (.there .here))) | exact .there (.there (.there (.there (.there .here)))) | exact .there (.there (.there (.there (.there (.there .here))))) | exact .there (.there (.there (.there (.there (.there (.there .here)))))) | exact .there (.there (.there (.there (.there (.there (.there (.there .here))))))) | exact .there (.there (.there (.there (.there (.there (.there (.there (.there .here))))))))) (by rfl) (by rfl) (by (intro q hq; simp [Value.cells] at hq; first | (subst hq; rfl) | (rcases hq with rfl | rfl | rfl | rfl | rfl | rfl | rfl | rfl <;> rfl) | (rcases hq with rfl | rfl | rfl | rfl | rfl | rfl | rfl <;> rfl) | (rcases hq with rfl | rfl | rfl | rfl | rfl | rfl <;> rfl) | (rcases hq with rfl | rfl | rfl | rfl | rfl <;> rfl) | (rcases hq with rfl | rfl | rfl | rfl <;> rfl) | (rcases hq with rfl | rfl | rfl <;> rfl) | (rcases hq with rfl | rfl <;> rfl))) ?_ | refine gl_store_blk rfl rfl (by first | exact .here | exact .there .here | exact .there (.there .here) | exact .there (.there (.there .here)) | exact .there (.there (.there (.there .here))) | exact .there (.there (.there (.there (.there .here)))) | exact .there (.there (.there (.there (.there (.there .here))))) | exact .there (.there (.there (.there (.there (.there (.there .here)))))) | exact .there (.there (.there (.there (.there (.there (.there (.there .here))))))) | exact .there (.there (.there (.there (.there (.there (.there (.there (.there .here))))))))) (by rfl) (by (intro q hq; simp [Value.cells] at hq; first | (subst hq; rfl) | (rcases hq with rfl | rfl | rfl | rfl | rfl | rfl | rfl | rfl <;> rfl) | (rcases hq with rfl | rfl | rfl | rfl | rfl | rfl | rfl <;> rfl) | (rcases hq with rfl | rfl | rfl | rfl | rfl | rfl <;> rfl) | (rcases hq with rfl | rfl | rfl | rfl | rfl <;> rfl) | (rcases hq with rfl | rfl | rfl | rfl <;> rfl) | (rcases hq with rfl | rfl | rfl <;> rfl) | (rcases hq with rfl | rfl <;> rfl))) (by rfl) ?_))
    all_goals (refine gl_f (s_assign rfl) rfl rfl rfl ?_)
    all_goals (refine gl_f (s_assign rfl) rfl rfl rfl ?_)
    all_goals (refine gl_nil ?_)
    all_goals (repeat (first | refine g_seq ?_ | refine at_code ?_ | refine g_skip ?_ | refine g_block ?_ | refine g_exit rfl ?_ | refine g_cond_t rfl ?_ | refine g_cond_f rfl ?_))
    all_goals have hrn : r.l.length ≤ 1000120 := by rw [hrz]; have := mrg_len g prev term l; omega
    · have hsm : sameLg ⟨g.base, g.bt, g.conf, r.l, ca1, cc1, la1, lc1⟩ g = true := by simp [sameLg, hrl2]
      repeat (first | refine g_seq ?_ | refine at_code ?_ | refine g_skip ?_ | refine g_block ?_ | refine g_exit rfl ?_ | refine g_cond_t rfl ?_ | refine g_cond_f rfl ?_)
      refine g_region ?_
      refine gl_r (by first | exact s_load_blkW rfl (by first | exact d0 | exact d1 | exact d2 | exact d3 | exact d4 | exact d5 | exact d6 | exact d7 | exact d8 | exact d9) (by rfl) | exact s_load_blkN rfl (by first | exact d0 | exact d1 | exact d2 | exact d3 | exact d4 | exact d5 | exact d6 | exact d7 | exact d8 | exact d9) (by rfl)) rfl rfl rfl ?_
      refine gl_r (by first | exact s_load_blkW rfl (by first | exact d0 | exact d1 | exact d2 | exact d3 | exact d4 | exact d5 | exact d6 | exact d7 | exact d8 | exact d9) (by rfl) | exact s_load_blkN rfl (by first | exact d0 | exact d1 | exact d2 | exact d3 | exact d4 | exact d5 | exact d6 | exact d7 | exact d8 | exact d9) (by rfl)) rfl rfl rfl ?_
      refine gl_callp rfl (SameLogs_ct ⟨g.base, g.bt, g.conf, r.l, ca1, cc1, la1, lc1⟩ g (by simp only; omega) (by simp only; omega)) (fun h hh ⟨bs, hb⟩ => ⟨⟨Sat.rd (a := ca1) hb (by first | exact d0 | exact d1 | exact d2 | exact d3 | exact d4 | exact d5 | exact d6 | exact d7 | exact d8 | exact d9), Sat.rd (a := la1) hb (by first | exact d0 | exact d1 | exact d2 | exact d3 | exact d4 | exact d5 | exact d6 | exact d7 | exact d8 | exact d9)⟩, hr.le hh⟩) rfl ?_; rw [hsm]
      refine gl_f (s_not rfl) rfl rfl rfl ?_
      refine gl_f (s_move rfl) rfl rfl rfl ?_
      (first | refine gl_guard_no rfl rfl rfl rfl rfl rfl rfl ?_ | refine gl_guard_un rfl rfl rfl rfl rfl rfl ?_ | (refine gl_guard_yes rfl rfl rfl ?_; refine gl_f (s_move rfl) rfl rfl rfl ?_))
      (first | refine gl_guard_no rfl rfl rfl rfl rfl rfl rfl ?_ | refine gl_guard_un rfl rfl rfl rfl rfl rfl ?_ | (refine gl_guard_yes rfl rfl rfl ?_; refine gl_f (s_move rfl) rfl rfl rfl ?_))
      (first | refine gl_guard_no rfl rfl rfl rfl rfl rfl rfl ?_ | refine gl_guard_un rfl rfl rfl rfl rfl rfl ?_ | (refine gl_guard_yes rfl rfl rfl ?_; refine gl_f ((s_neq rfl rfl).eq (v' := .bool false) (by simp)) rfl rfl rfl ?_))
      refine gl_f (by first | exact s_pick_t rfl rfl | exact s_pick_f rfl rfl) rfl rfl rfl ?_
      refine gl_f (s_move rfl) rfl rfl rfl ?_
      (first | refine gl_guard_no rfl rfl rfl rfl rfl rfl rfl ?_ | refine gl_guard_un rfl rfl rfl rfl rfl rfl ?_ | (refine gl_guard_yes rfl rfl rfl ?_; refine gl_f (s_move rfl) rfl rfl rfl ?_))
      (first | refine gl_guard_no rfl rfl rfl rfl rfl rfl rfl ?_ | refine gl_guard_un rfl rfl rfl rfl rfl rfl ?_ | (refine gl_guard_yes rfl rfl rfl ?_; refine gl_f (s_move rfl) rfl rfl rfl ?_))
      (first | refine gl_guard_no rfl rfl rfl rfl rfl rfl rfl ?_ | refine gl_guard_un rfl rfl rfl rfl rfl rfl ?_ | (refine gl_guard_yes rfl rfl rfl ?_; refine gl_f ((s_neq_bool rfl rfl).eq (v' := .bool false) (by simp)) rfl rfl rfl ?_))
      refine gl_f (by first | exact s_pick_t rfl rfl | exact s_pick_f rfl rfl) rfl rfl rfl ?_
      refine gl_nil ?_
      repeat (first | refine g_seq ?_ | refine at_code ?_ | refine g_skip ?_ | refine g_block ?_ | refine g_exit rfl ?_ | refine g_cond_t rfl ?_ | refine g_cond_f rfl ?_)
      repeat (first | refine g_seq ?_ | refine at_code ?_ | refine g_skip ?_ | refine g_block ?_ | refine g_exit rfl ?_ | refine g_cond_t rfl ?_ | refine g_cond_f rfl ?_)
      refine g_region ?_
      refine gl_r (by first | exact s_load_blkW rfl (by first | exact d0 | exact d1 | exact d2 | exact d3 | exact d4 | exact d5 | exact d6 | exact d7 | exact d8 | exact d9) (by rfl) | exact s_load_blkN rfl (by first | exact d0 | exact d1 | exact d2 | exact d3 | exact d4 | exact d5 | exact d6 | exact d7 | exact d8 | exact d9) (by rfl)) rfl rfl rfl ?_
      refine gl_call _ rfl (spoil_ct ⟨g.base, g.bt, g.conf, r.l, ca1, cc1, la1, lc1⟩ (by simp only; omega) (by simp only; omega)) (fun w hw => hw.perm (perm_up (by first | exact d0 | exact d1 | exact d2 | exact d3 | exact d4 | exact d5 | exact d6 | exact d7 | exact d8 | exact d9) (perm_up (by first | exact d0 | exact d1 | exact d2 | exact d3 | exact d4 | exact d5 | exact d6 | exact d7 | exact d8 | exact d9) (.refl _)))) (fun _ _ _ => trivial) rfl ?_; rintro v A ⟨rfl, l', c', _, _, rfl⟩
      refine gl_nil ?_
      repeat (first | refine g_seq ?_ | refine at_code ?_ | refine g_skip ?_ | refine g_block ?_ | refine g_exit rfl ?_ | refine g_cond_t rfl ?_ | refine g_cond_f rfl ?_)
      repeat (first | refine g_seq ?_ | refine at_code ?_ | refine g_skip ?_ | refine g_block ?_ | refine g_exit rfl ?_ | refine g_cond_t rfl ?_ | refine g_cond_f rfl ?_)
      refine g_region ?_
      refine gl_r (by first | exact s_load_blkW rfl (by first | exact d0 | exact d1 | exact d2 | exact d3 | exact d4 | exact d5 | exact d6 | exact d7 | exact d8 | exact d9) (by rfl) | exact s_load_blkN rfl (by first | exact d0 | exact d1 | exact d2 | exact d3 | exact d4 | exact d5 | exact d6 | exact d7 | exact d8 | exact d9) (by rfl)) rfl rfl rfl ?_
      refine gl_r (by first | exact s_load_blkW rfl (by first | exact d0 | exact d1 | exact d2 | exact d3 | exact d4 | exact d5 | exact d6 | exact d7 | exact d8 | exact d9) (by rfl) | exact s_load_blkN rfl (by first | exact d0 | exact d1 | exact d2 | exact d3 | exact d4 | exact d5 | exact d6 | exact d7 | exact d8 | exact d9) (by rfl)) rfl rfl rfl ?_
      refine gl_callp rfl (SameLogs_ct ⟨g.base, g.bt, g.conf, g.l, oca, occ, ola, olc⟩ g (by simp only; omega) (by simp only; omega)) (fun h hh ⟨bs, hb⟩ => ⟨⟨Sat.rd (a := oca) hb (by first | exact d0 | exact d1 | exact d2 | exact d3 | exact d4 | exact d5 | exact d6 | exact d7 | exact d8 | exact d9), Sat.rd (a := ola) hb (by first | exact d0 | exact d1 | exact d2 | exact d3 | exact d4 | exact d5 | exact d6 | exact d7 | exact d8 | exact d9)⟩, hr.le hh⟩) rfl ?_; rw [sameLg_self]
      refine gl_f (s_move rfl) rfl rfl rfl ?_
      (first | refine gl_guard_no rfl rfl rfl rfl rfl rfl rfl ?_ | refine gl_guard_un rfl rfl rfl rfl rfl rfl ?_ | (refine gl_guard_yes rfl rfl rfl ?_; refine gl_f (s_move rfl) rfl rfl rfl ?_))
      (first | refine gl_guard_no rfl rfl rfl rfl rfl rfl rfl ?_ | refine gl_guard_un rfl rfl rfl rfl rfl rfl ?_ | (refine gl_guard_yes rfl rfl rfl ?_; refine gl_f (s_move rfl) rfl rfl rfl ?_))
      (first | refine gl_guard_no rfl rfl rfl rfl rfl rfl rfl ?_ | refine gl_guard_un rfl rfl rfl rfl rfl rfl ?_ | (refine gl_guard_yes rfl rfl rfl ?_; refine gl_callp rfl (SameEntries_ct l l am lb cm ld (by omega)) (fun h hh ⟨bs, hb⟩ => ⟨Sat.rd (a := am) hb (by first | exact d0 | exact d1 | exact d2 | exact d3 | exact d4 | exact d5 | exact d6 | exact d7 | exact d8 | exact d9), hrl.le hh⟩) rfl ?_; rw [show decide (l = l) = true from decide_eq_true rfl]))
      refine gl_f (by first | exact s_pick_t rfl rfl | exact s_pick_f rfl rfl) rfl rfl rfl ?_
      refine gl_f (s_assign rfl) rfl rfl rfl ?_
      refine gl_nil ?_
      repeat (first | refine g_seq ?_ | refine at_code ?_ | refine g_skip ?_ | refine g_block ?_ | refine g_exit rfl ?_ | refine g_cond_t rfl ?_ | refine g_cond_f rfl ?_)
      refine g_ret ?_
      exact at_end1 rfl rfl [] ⟨rfl, rfl⟩ (fun _ h => h.dropAll)
    · have hsm : sameLg ⟨g.base, g.bt, g.conf, r.l, ca1, cc1, la1, lc1⟩ { g with l := r.l, la := la2, lc := lc2 } = true := by simp [sameLg]
      repeat (first | refine g_seq ?_ | refine at_code ?_ | refine g_skip ?_ | refine g_block ?_ | refine g_exit rfl ?_ | refine g_cond_t rfl ?_ | refine g_cond_f rfl ?_)
      refine g_region ?_
      refine gl_r (by first | exact s_load_blkW rfl (by first | exact d0 | exact d1 | exact d2 | exact d3 | exact d4 | exact d5 | exact d6 | exact d7 | exact d8 | exact d9) (by rfl) | exact s_load_blkN rfl (by first | exact d0 | exact d1 | exact d2 | exact d3 | exact d4 | exact d5 | exact d6 | exact d7 | exact d8 | exact d9) (by rfl)) rfl rfl rfl ?_
      refine gl_r (by first | exact s_load_blkW rfl (by first | exact d0 | exact d1 | exact d2 | exact d3 | exact d4 | exact d5 | exact d6 | exact d7 | exact d8 | exact d9) (by rfl) | exact s_load_blkN rfl (by first | exact d0 | exact d1 | exact d2 | exact d3 | exact d4 | exact d5 | exact d6 | exact d7 | exact d8 | exact d9) (by rfl)) rfl rfl rfl ?_
      refine gl_callp rfl (SameLogs_ct ⟨g.base, g.bt, g.conf, r.l, ca1, cc1, la1, lc1⟩ { g with l := r.l, la := la2, lc := lc2 } (by simp only; omega) (by simp only; omega)) (fun h hh ⟨bs, hb⟩ => ⟨⟨Sat.rd (a := ca1) hb (by first | exact d0 | exact d1 | exact d2 | exact d3 | exact d4 | exact d5 | exact d6 | exact d7 | exact d8 | exact d9), Sat.rd (a := la1) hb (by first | exact d0 | exact d1 | exact d2 | exact d3 | exact d4 | exact d5 | exact d6 | exact d7 | exact d8 | exact d9)⟩, ⟨hr.1.le hh, Sat.rd (a := la2) hb (by first | exact d0 | exact d1 | exact d2 | exact d3 | exact d4 | exact d5 | exact d6 | exact d7 | exact d8 | exact d9)⟩⟩) rfl ?_; rw [hsm]
      refine gl_f (s_not rfl) rfl rfl rfl ?_
      refine gl_f (s_move rfl) rfl rfl rfl ?_
      (first | refine gl_guard_no rfl rfl rfl rfl rfl rfl rfl ?_ | refine gl_guard_un rfl rfl rfl rfl rfl rfl ?_ | (refine gl_guard_yes rfl rfl rfl ?_; refine gl_f (s_move rfl) rfl rfl rfl ?_))
      (first | refine gl_guard_no rfl rfl rfl rfl rfl rfl rfl ?_ | refine gl_guard_un rfl rfl rfl rfl rfl rfl ?_ | (refine gl_guard_yes rfl rfl rfl ?_; refine gl_f (s_move rfl) rfl rfl rfl ?_))
      (first | refine gl_guard_no rfl rfl rfl rfl rfl rfl rfl ?_ | refine gl_guard_un rfl rfl rfl rfl rfl rfl ?_ | (refine gl_guard_yes rfl rfl rfl ?_; refine gl_f ((s_neq rfl rfl).eq (v' := .bool false) (by simp)) rfl rfl rfl ?_))
      refine gl_f (by first | exact s_pick_t rfl rfl | exact s_pick_f rfl rfl) rfl rfl rfl ?_
      refine gl_f (s_move rfl) rfl rfl rfl ?_
      (first | refine gl_guard_no rfl rfl rfl rfl rfl rfl rfl ?_ | refine gl_guard_un rfl rfl rfl rfl rfl rfl ?_ | (refine gl_guard_yes rfl rfl rfl ?_; refine gl_f (s_move rfl) rfl rfl rfl ?_))
      (first | refine gl_guard_no rfl rfl rfl rfl rfl rfl rfl ?_ | refine gl_guard_un rfl rfl rfl rfl rfl rfl ?_ | (refine gl_guard_yes rfl rfl rfl ?_; refine gl_f (s_move rfl) rfl rfl rfl ?_))
      (first | refine gl_guard_no rfl rfl rfl rfl rfl rfl rfl ?_ | refine gl_guard_un rfl rfl rfl rfl rfl rfl ?_ | (refine gl_guard_yes rfl rfl rfl ?_; refine gl_f ((s_neq_bool rfl rfl).eq (v' := .bool false) (by simp)) rfl rfl rfl ?_))
      refine gl_f (by first | exact s_pick_t rfl rfl | exact s_pick_f rfl rfl) rfl rfl rfl ?_
      refine gl_nil ?_
      repeat (first | refine g_seq ?_ | refine at_code ?_ | refine g_skip ?_ | refine g_block ?_ | refine g_exit rfl ?_ | refine g_cond_t rfl ?_ | refine g_cond_f rfl ?_)
      repeat (first | refine g_seq ?_ | refine at_code ?_ | refine g_skip ?_ | refine g_block ?_ | refine g_exit rfl ?_ | refine g_cond_t rfl ?_ | refine g_cond_f rfl ?_)
      refine g_region ?_
      refine gl_r (by first | exact s_load_blkW rfl (by first | exact d0 | exact d1 | exact d2 | exact d3 | exact d4 | exact d5 | exact d6 | exact d7 | exact d8 | exact d9) (by rfl) | exact s_load_blkN rfl (by first | exact d0 | exact d1 | exact d2 | exact d3 | exact d4 | exact d5 | exact d6 | exact d7 | exact d8 | exact d9) (by rfl)) rfl rfl rfl ?_
      refine gl_call _ rfl (spoil_ct ⟨g.base, g.bt, g.conf, r.l, ca1, cc1, la1, lc1⟩ (by simp only; omega) (by simp only; omega)) (fun w hw => hw.perm (perm_up (by first | exact d0 | exact d1 | exact d2 | exact d3 | exact d4 | exact d5 | exact d6 | exact d7 | exact d8 | exact d9) (perm_up (by first | exact d0 | exact d1 | exact d2 | exact d3 | exact d4 | exact d5 | exact d6 | exact d7 | exact d8 | exact d9) (.refl _)))) (fun _ _ _ => trivial) rfl ?_; rintro v A ⟨rfl, l', c', _, _, rfl⟩
      refine gl_nil ?_
      repeat (first | refine g_seq ?_ | refine at_code ?_ | refine g_skip ?_ | refine g_block ?_ | refine g_exit rfl ?_ | refine g_cond_t rfl ?_ | refine g_cond_f rfl ?_)
      repeat (first | refine g_seq ?_ | refine at_code ?_ | refine g_skip ?_ | refine g_block ?_ | refine g_exit rfl ?_ | refine g_cond_t rfl ?_ | refine g_cond_f rfl ?_)
      refine g_region ?_
      refine gl_r (by first | exact s_load_blkW rfl (by first | exact d0 | exact d1 | exact d2 | exact d3 | exact d4 | exact d5 | exact d6 | exact d7 | exact d8 | exact d9) (by rfl) | exact s_load_blkN rfl (by first | exact d0 | exact d1 | exact d2 | exact d3 | exact d4 | exact d5 | exact d6 | exact d7 | exact d8 | exact d9) (by rfl)) rfl rfl rfl ?_
      refine gl_r (by first | exact s_load_blkW rfl (by first | exact d0 | exact d1 | exact d2 | exact d3 | exact d4 | exact d5 | exact d6 | exact d7 | exact d8 | exact d9) (by rfl) | exact s_load_blkN rfl (by first | exact d0 | exact d1 | exact d2 | exact d3 | exact d4 | exact d5 | exact d6 | exact d7 | exact d8 | exact d9) (by rfl)) rfl rfl rfl ?_
      refine gl_callp rfl (SameLogs_ct ⟨g.base, g.bt, g.conf, g.l, oca, occ, ola, olc⟩ g (by simp only; omega) (by simp only; omega)) (fun h hh ⟨bs, hb⟩ => ⟨⟨Sat.rd (a := oca) hb (by first | exact d0 | exact d1 | exact d2 | exact d3 | exact d4 | exact d5 | exact d6 | exact d7 | exact d8 | exact d9), Sat.rd (a := ola) hb (by first | exact d0 | exact d1 | exact d2 | exact d3 | exact d4 | exact d5 | exact d6 | exact d7 | exact d8 | exact d9)⟩, hr.le hh⟩) rfl ?_; rw [sameLg_self]
      refine gl_f (s_move rfl) rfl rfl rfl ?_
      (first | refine gl_guard_no rfl rfl rfl rfl rfl rfl rfl ?_ | refine gl_guard_un rfl rfl rfl rfl rfl rfl ?_ | (refine gl_guard_yes rfl rfl rfl ?_; refine gl_f (s_move rfl) rfl rfl rfl ?_))
      (first | refine gl_guard_no rfl rfl rfl rfl rfl rfl rfl ?_ | refine gl_guard_un rfl rfl rfl rfl rfl rfl ?_ | (refine gl_guard_yes rfl rfl rfl ?_; refine gl_f (s_move rfl) rfl rfl rfl ?_))
      (first | refine gl_guard_no rfl rfl rfl rfl rfl rfl rfl ?_ | refine gl_guard_un rfl rfl rfl rfl rfl rfl ?_ | (refine gl_guard_yes rfl rfl rfl ?_; refine gl_callp rfl (SameEntries_ct l l am lb cm ld (by omega)) (fun h hh ⟨bs, hb⟩ => ⟨Sat.rd (a := am) hb (by first | exact d0 | exact d1 | exact d2 | exact d3 | exact d4 | exact d5 | exact d6 | exact d7 | exact d8 | exact d9), hrl.le hh⟩) rfl ?_; rw [show decide (l = l) = true from decide_eq_true rfl]))
      refine gl_f (by first | exact s_pick_t rfl rfl | exact s_pick_f rfl rfl) rfl rfl rfl ?_
      refine gl_f (s_assign rfl) rfl rfl rfl ?_
      refine gl_nil ?_
      repeat (first | refine g_seq ?_ | refine at_code ?_ | refine g_skip ?_ | refine g_block ?_ | refine g_exit rfl ?_ | refine g_cond_t rfl ?_ | refine g_cond_f rfl ?_)
      refine g_ret ?_
      exact at_end1 rfl rfl [] ⟨rfl, rfl⟩ (fun _ h => h.dropAll)
  · have hgo2 : q = false ∨ q2 = true := by cases q <;> cases q2 <;> simp_all
    cases q
    · repeat (first | refine g_seq ?_ | refine at_code ?_ | refine g_skip ?_ | refine g_block ?_ | refine g_exit rfl ?_ | refine g_cond_t rfl ?_ | refine g_cond_f rfl ?_)
      refine g_region ?_
      refine gl_r (by first | exact s_load_blkW rfl (by first | exact d0 | exact d1 | exact d2 | exact d3 | exact d4 | exact d5 | exact d6 | exact d7 | exact d8 | exact d9) (by rfl) | exact s_load_blkN rfl (by first | exact d0 | exact d1 | exact d2 | exact d3 | exact d4 | exact d5 | exact d6 | exact d7 | exact d8 | exact d9) (by rfl)) rfl rfl rfl ?_
      refine gl_callp rfl (right_ct g hc hl) (fun h hh _ => hr.le hh) rfl ?_; rw [← hq]
      refine gl_f (s_not rfl) rfl rfl rfl ?_
      refine gl_f (s_move rfl) rfl rfl rfl ?_
      (first | refine gl_guard_no rfl rfl rfl rfl rfl rfl rfl ?_ | refine gl_guard_un rfl rfl rfl rfl rfl rfl ?_ | (refine gl_guard_yes rfl rfl rfl ?_; refine gl_f (s_move rfl) rfl rfl rfl ?_))
      (first | refine gl_guard_no rfl rfl rfl rfl rfl rfl rfl ?_ | refine gl_guard_un rfl rfl rfl rfl rfl rfl ?_ | (refine gl_guard_yes rfl rfl rfl ?_; refine gl_f (s_len_sl rfl) rfl rfl rfl ?_))
      (first | refine gl_guard_no rfl rfl rfl rfl rfl rfl rfl ?_ | refine gl_guard_un rfl rfl rfl rfl rfl rfl ?_ | (refine gl_guard_yes rfl rfl rfl ?_; refine gl_f ((s_gtr rfl rfl).eq (congrArg Value.bool hq2.symm)) rfl rfl rfl ?_))
      refine gl_f (by first | exact s_pick_t rfl rfl | exact s_pick_f rfl rfl) rfl rfl rfl ?_
      refine gl_nil ?_
      repeat (first | refine g_seq ?_ | refine at_code ?_ | refine g_skip ?_ | refine g_block ?_ | refine g_exit rfl ?_ | refine g_cond_t rfl ?_ | refine g_cond_f rfl ?_)
      repeat (first | refine g_seq ?_ | refine at_code ?_ | refine g_skip ?_ | refine g_block ?_ | refine g_exit rfl ?_ | refine g_cond_t rfl ?_ | refine g_cond_f rfl ?_)
      refine g_region ?_
      refine gl_f (s_assign rfl) rfl rfl rfl ?_
      refine gl_nil ?_
      repeat (first | refine g_seq ?_ | refine at_code ?_ | refine g_skip ?_ | refine g_block ?_ | refine g_exit rfl ?_ | refine g_cond_t rfl ?_ | refine g_cond_f rfl ?_)
      refine g_ret ?_
      exact at_end1 rfl rfl [] ⟨rfl, rfl⟩ (fun _ h => h.dropAll)
    · have hq3 : q2 = true := by rcases hgo2 with h | h; cases h; exact h
      subst hq3
      repeat (first | refine g_seq ?_ | refine at_code ?_ | refine g_skip ?_ | refine g_block ?_ | refine g_exit rfl ?_ | refine g_cond_t rfl ?_ | refine g_cond_f rfl ?_)
      refine g_region ?_
      refine gl_r (by first | exact s_load_blkW rfl (by first | exact d0 | exact d1 | exact d2 | exact d3 | exact d4 | exact d5 | exact d6 | exact d7 | exact d8 | exact d9) (by rfl) | exact s_load_blkN rfl (by first | exact d0 | exact d1 | exact d2 | exact d3 | exact d4 | exact d5 | exact d6 | exact d7 | exact d8 | exact d9) (by rfl)) rfl rfl rfl ?_
      refine gl_callp rfl (right_ct g hc hl) (fun h hh _ => hr.le hh) rfl ?_; rw [← hq]
      refine gl_f (s_not rfl) rfl rfl rfl ?_
      refine gl_f (s_move rfl) rfl rfl rfl ?_
      (first | refine gl_guard_no rfl rfl rfl rfl rfl rfl rfl ?_ | refine gl_guard_un rfl rfl rfl rfl rfl rfl ?_ | (refine gl_guard_yes rfl rfl rfl ?_; refine gl_f (s_move rfl) rfl rfl rfl ?_))
      (first | refine gl_guard_no rfl rfl rfl rfl rfl rfl rfl ?_ | refine gl_guard_un rfl rfl rfl rfl rfl rfl ?_ | (refine gl_guard_yes rfl rfl rfl ?_; refine gl_f (s_len_sl rfl) rfl rfl rfl ?_))
      (first | refine gl_guard_no rfl rfl rfl rfl rfl rfl rfl ?_ | refine gl_guard_un rfl rfl rfl rfl rfl rfl ?_ | (refine gl_guard_yes rfl rfl rfl ?_; refine gl_f ((s_gtr rfl rfl).eq (congrArg Value.bool hq2.symm)) rfl rfl rfl ?_))
      refine gl_f (by first | exact s_pick_t rfl rfl | exact s_pick_f rfl rfl) rfl rfl rfl ?_
      refine gl_nil ?_
      repeat (first | refine g_seq ?_ | refine at_code ?_ | refine g_skip ?_ | refine g_block ?_ | refine g_exit rfl ?_ | refine g_cond_t rfl ?_ | refine g_cond_f rfl ?_)
      repeat (first | refine g_seq ?_ | refine at_code ?_ | refine g_skip ?_ | refine g_block ?_ | refine g_exit rfl ?_ | refine g_cond_t rfl ?_ | refine g_cond_f rfl ?_)
      refine g_region ?_
      refine gl_f (s_assign rfl) rfl rfl rfl ?_
      refine gl_nil ?_
      repeat (first | refine g_seq ?_ | refine at_code ?_ | refine g_skip ?_ | refine g_block ?_ | refine g_exit rfl ?_ | refine g_cond_t rfl ?_ | refine g_cond_f rfl ?_)
      refine g_ret ?_
      exact at_end1 rfl rfl [] ⟨rfl, rfl⟩ (fun _ h => h.dropAll)
end Go.Proofs.Ytodcghipfolejaa
