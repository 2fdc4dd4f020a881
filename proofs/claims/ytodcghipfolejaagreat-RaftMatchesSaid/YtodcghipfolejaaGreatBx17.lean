import Derived.Test.YtodcghipfolejaaGreatBx15
import Derived.Test.YtodcghipfolejaaGreatBx9
import Derived.Test.YtodcghipfolejaaGreatBx16
import Derived.Test.YtodcghipfolejaaGreatBx1
import Derived.Carry
import Derived.ChangeSame
import Derived.OpenShut
import Derived.SizedLaws
import Derived.JoinedCond
import Derived.JoinedOf
import Derived.Deep.CondSized
import Derived.ChangeMaps5
import Derived.SliceStrings
import Derived.Test.YtodcghipfolejaaGreatBx6
import Derived.Test.YtodcghipfolejaaGreatBx14
/- RaftMatches: two logs agree; the walk. -/
namespace Go.Proofs.YtodcghipfolejaaGreat.Rf
open Go Go.Sl
set_option linter.unusedVariables false
set_option linter.unusedSimpArgs false
-- ARR

abbrev lgO (X : Nat) (g : LM) : As := .blk X (.cells #[.int .u64 g.base, .int .u64 g.bt, .slice g.ca g.conf.length g.cc, .slice g.la g.l.length g.lc] 46)
abbrev enO (X : Nat) (e : Ent) : As := .blk X (.cells #[.int .u64 e.1, .int .i64 e.2.1, B e.2.2] 51)
/-- of a size at which nothing runs over -/
structure Fit0 (g : LM) : Prop where
  lo : 0 ≤ g.base
  hi : g.base ≤ 4611686018427387904
  len : g.l.length ≤ 1000000
theorem rLast0_ct (g : LM) (hf : Fit0 g) : Pu Tryz.prog 21 [g.v] (fun _ => True) (.int .u64 (lastI g)) := by
  have h1 := hf.lo
  have h2 := hf.hi
  have h3 := hf.len
  refine ct_enter 10 Tryz.func21 rfl rfl rfl ?_
  intro F _
  repeat refine y_ ?_
  refine g_region ?_
  refine gl_boxA rfl rfl ?_; intro g1
  refine f_ (s_assign rfl) ?_
  refine gl_nil ?_
  repeat refine y_ ?_
  refine g_region ?_
  refine f_ z_1 ?_
  refine r_ (by first | exact s_load_blk rfl z_3 a4_0 | exact s_load1 rfl (fun w hw => peekB hw (by assumption) a4_0)) ?_
  refine f_ z_1 ?_
  refine r_ (by first | exact s_load_blk rfl z_3 a4_3 | exact s_load1 rfl (fun w hw => peekB hw (by assumption) a4_3)) ?_
  refine f_ (s_len_sl rfl) ?_
  refine f_ (s_conv_keep_u64 rfl (by omega)) ?_
  refine f_ (s_add_u64 rfl rfl (by omega)) ?_
  refine f_ (s_assign rfl) ?_
  refine gl_nil ?_
  repeat refine y_ ?_
  refine g_ret ?_
  exact at_end1 rfl rfl [] ⟨rfl, rfl⟩ (fun _ h => h.dropAll)
set_option maxRecDepth 4000 in
set_option maxHeartbeats 2000000 in
theorem Entry0_ct (g : LM) (i : Int) (hf : Fit0 g) (hi : 0 ≤ i ∧ i ≤ 18446744073709551615) : Ct Tryz.prog 23 [g.v, .int .u64 i] (fun h => RdS h g.la (enV g.l)) [] (EntP g i) := by
  have h1 := hf.lo
  have h2 := hf.hi
  have h3 := hf.len
  refine ct_enter 28 Tryz.func23 rfl rfl rfl ?_
  intro F hrd
  repeat refine y_ ?_
  refine g_region ?_
  refine gl_boxA rfl rfl ?_; intro g2
  refine gl_allocA rfl ?_; intro g4
  refine f_ (s_assign rfl) ?_
  refine gl_nil ?_
  repeat refine y_ ?_
  refine g_region ?_
  refine f_ (s_assign rfl) ?_
  refine gl_nil ?_
  repeat refine y_ ?_
  refine g_loop (ι := Nat) (fun k => k ≤ g.l.length ∧ ∀ j, j < k → g.base + 1 + (j : Int) ≠ i) (fun k => [(1, .int .u64 i), (2, Ptr g2), (4, Ptr g4), (6, .int .i64 (k : Nat))]) (fun k => [.blk g4 (.cells #[.int .u64 0, .int .i64 0, B []] 51), .blk g2 (.cells #[.int .u64 g.base, .int .u64 g.bt, .slice g.ca g.conf.length g.cc, .slice g.la g.l.length g.lc] 46)]) (fun k => g.l.length - k) 0 ⟨by omega, fun j hj => absurd hj (by omega)⟩ ?_ ?_ ?_
  · (repeat (first | exact Sub.nil _ | refine Sub.cons rfl ?_))
  · intro w hw; exact hw
  · rintro k ⟨hk, hno⟩
    repeat refine y_ ?_
    refine g_region ?_
    refine m_ ?_
    refine f_ z_1 ?_
    refine r_ (by first | exact s_load_blk rfl z_3 a4_3 | exact s_load1 rfl (fun w hw => peekB hw (by assumption) a4_3)) ?_
    refine f_ (s_len_sl rfl) ?_
    refine f_ (s_lss rfl rfl) ?_
    refine gl_nil ?_
    repeat refine y_ ?_
    refine g_cond rfl (fun h => ?_) (fun h => ?_)
    · have hk' : k < g.l.length := by simp at h; omega
      have hsome := rdE_some hrd hk'
      repeat refine y_ ?_
      refine g_region ?_
      refine f_ z_1 ?_
      refine r_ (by first | exact s_load_blk rfl z_3 a4_0 | exact s_load1 rfl (fun w hw => peekB hw (by assumption) a4_0)) ?_
      refine f_ (s_add_u64 rfl rfl (by omega)) ?_
      refine m_ ?_
      refine f_ (s_conv_keep_u64 rfl (by omega)) ?_
      refine f_ (s_add_u64 rfl rfl (by omega)) ?_
      refine m_ ?_
      refine f_ (s_eql rfl rfl) ?_
      refine gl_nil ?_
      repeat refine y_ ?_
      refine g_cond rfl (fun h2 => ?_) (fun h2 => ?_)
      · have h3 : g.base + 1 + (k : Int) = i := of_decide_eq_true h2
        have e1 : hasE g i = true := by simp only [hasE, Bool.and_eq_true, decide_eq_true_eq]; omega
        have e2 : entAt g i = g.l.getD k E0 := by rw [entAt, if_pos e1]; congr 1; omega
        repeat refine y_ ?_
        refine g_region ?_
        refine f_ z_1 ?_
        refine r_ (by first | exact s_load_blk rfl z_3 a4_3 | exact s_load1 rfl (fun w hw => peekB hw (by assumption) a4_3)) ?_
        refine m_ ?_
        refine f_ (s_indexAddr rfl (by assumption) rfl (by omega)) ?_
        refine r_ (s_loadN rfl (fun w hw => rdE hw hrd (i := k) (by omega) hk') rfl) ?_
        (first | refine gl_store_blkW rfl rfl z_7 z_10 z_10 z_2 ?_ | refine gl_store_blk rfl rfl z_7 z_10 z_2 z_10 ?_)
        refine f_ (s_assign rfl) ?_
        refine gl_nil ?_
        repeat refine y_ ?_
        refine g_ret ?_
        exact at_endB1 rfl rfl rfl z_3 rfl [] ⟨by rw [e1, e2], rfl⟩ (fun _ h => h.dropAll)
      · have h3 : ¬ g.base + 1 + (k : Int) = i := of_decide_eq_false h2
        repeat refine y_ ?_
        refine g_region ?_
        refine m_ ?_
        refine f_ (s_add_i64 rfl rfl (by omega)) ?_
        refine f_ (s_assign rfl) ?_
        refine gl_nil ?_
        repeat refine y_ ?_
        refine at_next (k + 1) ⟨by omega, fun j hj => ?_⟩ (by omega) ?_ ?_
        · rcases Nat.lt_succ_iff_lt_or_eq.1 hj with h4 | rfl
          · exact hno j h4
          · exact h3
        · (repeat (first | exact Sub.nil _ | refine Sub.cons rfl ?_))
        · intro w hw; exact hw
    · have hkl : k = g.l.length := by simp at h; omega
      have e1 : hasE g i = false := by
        apply Bool.eq_false_iff.2
        intro hb
        simp only [hasE, Bool.and_eq_true, decide_eq_true_eq] at hb
        exact hno (i - g.base - 1).toNat (by omega) (by omega)
      have e2 : entAt g i = E0 := by rw [entAt, if_neg (by rw [e1]; simp)]
      repeat refine y_ ?_
      refine g_region ?_
      refine f_ (s_build rfl (v := entV E0) (run_build_struct (places := [(0, 1), (1, 1), (2, 1)]) rfl (by intro f hf; simp at hf; rcases hf with rfl | rfl | rfl <;> rfl) rfl)) ?_
      (first | refine gl_store_blkW rfl rfl z_7 z_10 z_10 z_2 ?_ | refine gl_store_blk rfl rfl z_7 z_10 z_2 z_10 ?_)
      refine f_ (s_assign rfl) ?_
      refine gl_nil ?_
      repeat refine y_ ?_
      refine g_ret ?_
      exact at_endB1 rfl rfl rfl z_3 rfl [] ⟨by rw [e1, e2], rfl⟩ (fun _ h => h.dropAll)
def AgrH (ga gb : LM) : Prop := ∀ i, max ga.base gb.base < i → i ≤ min (lastI ga) (lastI gb) → (entAt ga i).1 = (entAt gb i).1 → ∀ k, max ga.base gb.base < k → k ≤ i → entAt ga k = entAt gb k
set_option maxRecDepth 16000 in
set_option maxHeartbeats 4000000 in
theorem agree_ct (ga gb : LM) (hfa : Fit0 ga) (hfb : Fit0 gb) (hH : AgrH ga gb) : Pu Tryz.prog 20 [ga.v, gb.v] (fun h => RdS h ga.la (enV ga.l) ∧ RdS h gb.la (enV gb.l)) (.bool true) := by
  have ha1 := hfa.lo
  have ha2 := hfa.hi
  have ha3 := hfa.len
  have hb1 := hfb.lo
  have hb2 := hfb.hi
  have hb3 := hfb.len
  have hla : 0 ≤ lastI ga ∧ lastI ga ≤ 18446744073709551615 := by unfold lastI; omega
  have hlb : 0 ≤ lastI gb ∧ lastI gb ≤ 18446744073709551615 := by unfold lastI; omega
  refine ct_enter 67 Tryz.func20 rfl rfl rfl ?_
  rintro F ⟨hra, hrb⟩
  obtain ⟨last, hlast⟩ : ∃ x, x = min (lastI ga) (lastI gb) := ⟨_, rfl⟩
  obtain ⟨low, hlow⟩ : ∃ x, x = max ga.base gb.base := ⟨_, rfl⟩
  have hl0 : 0 ≤ last ∧ last ≤ 18446744073709551615 := by omega
  unfold AgrH at hH
  rw [← hlast, ← hlow] at hH
  repeat refine y_ ?_
  refine g_region ?_
  refine gl_boxA rfl rfl ?_; intro g2
  refine gl_boxA rfl rfl ?_; intro g3
  refine f_ (s_assign rfl) ?_
  refine gl_nil ?_
  repeat refine y_ ?_
  refine g_draw0 ([0, 2], [0, 1, 0, 7, 15, 31], [1, 3]) 6 rfl ?_
  refine ga_read 0 rfl z_3 ((s_load_blkN rfl .del z_10).eq (v' := ga.v) rfl) rfl rfl rfl z_6 ?_
  refine ga_read 2 rfl z_3 ((s_load_blkN rfl .del z_10).eq (v' := gb.v) rfl) rfl rfl rfl z_6 ?_
  refine ga_one 1 rfl z_6 ?_
  refine gl_callp rfl (rLast0_ct ga hfa) (fun _ _ _ => trivial) rfl ?_
  refine gl_nil ?_
  refine at_ga (.inr (by exact keeps_of (by (first | exact fun _ h => h | (repeat first | exact sub_nil | refine sub_cons z_4 ?_))))) ?_
  refine ga_one 3 rfl z_6 ?_
  refine gl_callp rfl (rLast0_ct gb hfb) (fun _ _ _ => trivial) rfl ?_
  refine gl_nil ?_
  refine at_ga (.inl z_6) ?_
  refine w_ 4 rfl ((s_min2 rfl rfl).eq (v' := .int .u64 last) (by rw [hlast])) ?_
  refine w_ 5 rfl (s_assign rfl) ?_
  refine ga_done z_6 ?_
  repeat refine y_ ?_
  refine g_region ?_
  refine f_ z_1 ?_
  refine r_ (by first | exact s_load_blk rfl z_3 a4_0 | exact s_load1 rfl (fun w hw => peekB hw (by assumption) a4_0)) ?_
  refine f_ z_1 ?_
  refine r_ (by first | exact s_load_blk rfl z_3 a4_0 | exact s_load1 rfl (fun w hw => peekB hw (by assumption) a4_0)) ?_
  refine f_ ((s_max2 rfl rfl).eq (v' := .int .u64 low) (by rw [hlow])) ?_
  refine f_ (s_assign rfl) ?_
  refine gl_nil ?_
  repeat refine y_ ?_
  refine g_region ?_
  refine m_ ?_
  refine f_ (s_assign rfl) ?_
  refine gl_nil ?_
  repeat refine y_ ?_
  refine g_loop (ι := Int) (fun i => i ≤ last ∧ 0 ≤ i) (fun i => [(2, Ptr g2), (3, Ptr g3), (6, .int .u64 low), (7, .int .u64 i)]) (fun _ => [lgO g3 gb, lgO g2 ga]) (fun i => i.toNat) last ⟨Int.le_refl _, hl0.1⟩ ?_ ?_ ?_
  · (repeat (first | exact Sub.nil _ | refine Sub.cons rfl ?_))
  · intro w hw; exact hw
  rintro i ⟨hi1, hi0⟩
  repeat refine y_ ?_
  refine g_region ?_
  refine m_ ?_
  refine m_ ?_
  refine f_ (s_gtr rfl rfl) ?_
  refine gl_nil ?_
  repeat refine y_ ?_
  refine g_cond rfl (fun h => ?_) (fun h => ?_)
  rotate_left
  · repeat refine y_ ?_
    repeat refine y_ ?_
    refine g_region ?_
    refine f_ (s_assign rfl) ?_
    refine gl_nil ?_
    repeat refine y_ ?_
    refine g_ret ?_
    exact at_end1 rfl rfl [] ⟨rfl, rfl⟩ (fun _ h => h.dropAll)
  have hi : low < i := of_decide_eq_true h
  have hlow0 : 0 ≤ low := by omega
  obtain ⟨x, hx⟩ : ∃ x, x = entAt ga i := ⟨_, rfl⟩
  obtain ⟨y, hy⟩ : ∃ x, x = entAt gb i := ⟨_, rfl⟩
  obtain ⟨bx, hbx⟩ : ∃ x, x = hasE ga i := ⟨_, rfl⟩
  obtain ⟨by', hby⟩ : ∃ x, x = hasE gb i := ⟨_, rfl⟩
  obtain ⟨q, hq⟩ : ∃ q, q = decide (x.1 = y.1) := ⟨_, rfl⟩
  repeat refine y_ ?_
  refine g_region ?_
  refine r_ ((s_load_blkN rfl z_3 z_10).eq (v' := ga.v) rfl) ?_
  refine m_ ?_
  refine gl_call _ rfl (Entry0_ct ga i hfa (by omega)) (fun w hw => hw) (fun h hh _ => hra.le hh) rfl ?_; rintro v A ⟨rfl, rfl⟩; rw [← hx, ← hbx]
  refine m_ ?_
  refine f_ (s_extract rfl rfl) ?_
  refine f_ (s_extract rfl rfl) ?_
  refine gl_allocA rfl ?_; intro g8
  (first | refine gl_store_blkW rfl rfl z_7 z_10 z_10 z_2 ?_ | refine gl_store_blk rfl rfl z_7 z_10 z_2 z_10 ?_)
  refine f_ (s_assign rfl) ?_
  refine gl_nil ?_
  repeat refine y_ ?_
  refine g_region ?_
  refine r_ ((s_load_blkN rfl z_3 z_10).eq (v' := gb.v) rfl) ?_
  refine m_ ?_
  refine gl_call _ rfl (Entry0_ct gb i hfb (by omega)) (fun w hw => hw) (fun h hh _ => hrb.le hh) rfl ?_; rintro v A ⟨rfl, rfl⟩; rw [← hy, ← hby]
  refine m_ ?_
  refine f_ (s_extract rfl rfl) ?_
  refine f_ (s_extract rfl rfl) ?_
  refine gl_allocA rfl ?_; intro g10
  (first | refine gl_store_blkW rfl rfl z_7 z_10 z_10 z_2 ?_ | refine gl_store_blk rfl rfl z_7 z_10 z_2 z_10 ?_)
  refine f_ (s_assign rfl) ?_
  refine gl_nil ?_
  repeat refine y_ ?_
  refine g_region ?_
  refine f_ z_1 ?_
  refine r_ (by first | exact s_load_blk rfl z_3 a3_0 | exact s_load1 rfl (fun w hw => peekB hw (by assumption) a3_0)) ?_
  refine f_ z_1 ?_
  refine r_ (by first | exact s_load_blk rfl z_3 a3_0 | exact s_load1 rfl (fun w hw => peekB hw (by assumption) a3_0)) ?_
  refine f_ ((s_neq rfl rfl).eq (v' := .bool (!q)) (by rw [hq])) ?_
  refine gl_nil ?_
  repeat refine y_ ?_
  cases q
  · repeat refine y_ ?_
    repeat refine y_ ?_
    refine g_region ?_
    refine m_ ?_
    refine f_ ((s_sub_u64 rfl rfl (by omega))) ?_
    refine f_ (s_assign rfl) ?_
    refine gl_nil ?_
    repeat refine y_ ?_
    refine at_next (i - 1) ⟨by omega, by omega⟩ (by show (i - 1).toNat < i.toNat; omega) ?_ ?_
    · (repeat (first | exact Sub.nil _ | refine Sub.cons rfl ?_))
    · intro w hw; exact Hp.drop (x := enO g8 x) (Hp.drop (x := enO g10 y) (hw.perm (perm_up z_3 (perm_up z_3 (perm_up z_3 (perm_up z_3 (.refl _)))))))
  have hxy : x.1 = y.1 := of_decide_eq_true hq.symm
  repeat refine y_ ?_
  refine g_region ?_
  refine m_ ?_
  refine f_ (s_assign rfl) ?_
  refine gl_nil ?_
  repeat refine y_ ?_
  refine g_loop (ι := Int × Ent × Ent) (fun k => k.1 ≤ i ∧ 0 ≤ k.1) (fun k => [(2, Ptr g2), (3, Ptr g3), (6, .int .u64 low), (8, Ptr g8), (10, Ptr g10), (12, .int .u64 k.1)]) (fun k => [enO g10 k.2.2, enO g8 k.2.1, lgO g3 gb, lgO g2 ga]) (fun k => k.1.toNat) (i, x, y) ⟨Int.le_refl _, hi0⟩ ?_ ?_ ?_
  · (repeat (first | exact Sub.nil _ | refine Sub.cons rfl ?_))
  · intro w hw; exact hw
  rintro ⟨k, x1, y1⟩ ⟨hk1, hk0⟩
  simp only at hk1 hk0
  repeat refine y_ ?_
  refine g_region ?_
  refine m_ ?_
  refine m_ ?_
  refine f_ (s_gtr rfl rfl) ?_
  refine gl_nil ?_
  repeat refine y_ ?_
  refine g_cond rfl (fun h => ?_) (fun h => ?_)
  rotate_left
  · repeat refine y_ ?_
    repeat refine y_ ?_
    refine g_region ?_
    refine f_ (s_assign rfl) ?_
    refine gl_nil ?_
    repeat refine y_ ?_
    refine g_ret ?_
    exact at_end1 rfl rfl [] ⟨rfl, rfl⟩ (fun _ h => h.dropAll)
  have hk : low < k := of_decide_eq_true h
  obtain ⟨x2, hx2⟩ : ∃ x, x = entAt ga k := ⟨_, rfl⟩
  obtain ⟨y2, hy2⟩ : ∃ x, x = entAt gb k := ⟨_, rfl⟩
  obtain ⟨bx2, hbx2⟩ : ∃ x, x = hasE ga k := ⟨_, rfl⟩
  obtain ⟨by2, hby2⟩ : ∃ x, x = hasE gb k := ⟨_, rfl⟩
  have hxy2 : x2 = y2 := by rw [hx2, hy2]; exact hH i hi (by omega) (by rw [← hx, ← hy]; exact hxy) k hk hk1
  repeat refine y_ ?_
  refine g_region ?_
  refine r_ ((s_load_blkN rfl z_3 z_10).eq (v' := ga.v) rfl) ?_
  refine m_ ?_
  refine gl_call _ rfl (Entry0_ct ga k hfa (by omega)) (fun w hw => hw) (fun h hh _ => hra.le hh) rfl ?_; rintro v A ⟨rfl, rfl⟩; rw [← hx2, ← hbx2]
  refine m_ ?_
  refine f_ (s_extract rfl rfl) ?_
  refine f_ (s_extract rfl rfl) ?_
  (first | refine gl_store_blkW rfl rfl z_7 z_10 z_10 z_2 ?_ | refine gl_store_blk rfl rfl z_7 z_10 z_2 z_10 ?_)
  refine gl_nil ?_
  repeat refine y_ ?_
  refine g_region ?_
  refine r_ ((s_load_blkN rfl z_3 z_10).eq (v' := gb.v) rfl) ?_
  refine m_ ?_
  refine gl_call _ rfl (Entry0_ct gb k hfb (by omega)) (fun w hw => hw) (fun h hh _ => hrb.le hh) rfl ?_; rintro v A ⟨rfl, rfl⟩; rw [← hy2, ← hby2]
  refine m_ ?_
  refine f_ (s_extract rfl rfl) ?_
  refine f_ (s_extract rfl rfl) ?_
  (first | refine gl_store_blkW rfl rfl z_7 z_10 z_10 z_2 ?_ | refine gl_store_blk rfl rfl z_7 z_10 z_2 z_10 ?_)
  refine gl_nil ?_
  repeat refine y_ ?_
  refine g_region ?_
  refine r_ ((s_load_blkN rfl z_3 z_10).eq (v' := entV x2) rfl) ?_
  refine r_ ((s_load_blkN rfl z_3 z_10).eq (v' := entV y2) rfl) ?_
  refine f_ ((s_neq_struct rfl rfl (by exact EqF.int (by decide) rfl rfl (EqF.int (by decide) rfl rfl (EqF.str (by decide) rfl rfl EqF.nil)))).eq (v' := .bool false) (by rw [ent_eq, decide_eq_true hxy2]; rfl)) ?_
  refine gl_nil ?_
  repeat refine y_ ?_
  refine g_region ?_
  refine m_ ?_
  refine f_ ((s_sub_u64 rfl rfl (by omega))) ?_
  refine f_ (s_assign rfl) ?_
  refine gl_nil ?_
  repeat refine y_ ?_
  refine at_next (k - 1, x2, y2) ⟨by show k - 1 ≤ i; omega, by show 0 ≤ k - 1; omega⟩ (by show (k - 1).toNat < k.toNat; omega) ?_ ?_
  · (repeat (first | exact Sub.nil _ | refine Sub.cons rfl ?_))
  · intro w hw; exact hw.perm (perm_up z_3 (perm_up z_3 (perm_up z_3 (perm_up z_3 (.refl _)))))
end Go.Proofs.YtodcghipfolejaaGreat.Rf
/- RaftMatches: the walk. -/
namespace Go.Proofs.YtodcghipfolejaaGreat.Rf
open Go Go.Sl
set_option linter.unusedVariables false
set_option linter.unusedSimpArgs false
-- ARR

/-- a play, so many acts done, in memory -/
structure PlI (p : PlM) (k : Nat) (s : WS) (Z : List As) : Prop where
  kle : k ≤ p.acts.length
  w : s.w = wAt p.p k
  ok : ∀ h, (∃ bs, Sat h Z bs) → WS.ok h s
abbrev acAt (p : PlM) (k : Nat) : AcM := p.acts.getD k AcM0
theorem acAt_p (p : PlM) {k : Nat} (hk : k < p.acts.length) : p.p.acts.getD k ⟨0, 0, 0, false, [], MP0⟩ = (acAt p k).p := by
  show (p.acts.map AcM.p).getD k _ = (p.acts.getD k AcM0).p
  rw [List.getD_eq_getElem?_getD, List.getD_eq_getElem?_getD, List.getElem?_map, List.getElem?_eq_getElem hk]; rfl
theorem PlI.wat {p : PlM} {k : Nat} (hk : k < p.acts.length) : wAt p.p (k + 1) = (actP (wAt p.p k) (acAt p k).p).w := by
  rw [wAt, acAt_p p hk]
theorem PlI.step {p : PlM} {k : Nat} {s s' : WS} {Z Z' : List As} (h : PlI p k s Z) (hk : k < p.acts.length) (hw : s'.w = (actP (wAt p.p k) (acAt p k).p).w) (hZ : ∀ h, WS.ok h s → (∃ bs, Sat h Z' bs) → WS.ok h s') : PlI p (k + 1) s' (Z' ++ Z) :=
  ⟨hk, by rw [PlI.wat hk]; exact hw, fun h hs => by
    obtain ⟨s1, s2⟩ := Sat.two2 hs
    rename_i H
    exact hZ h (H.ok h s2) s1⟩
theorem PlI.begin_ {p : PlM} {s : WS} {Z : List As} (hw : s.w = beginP p.p) (hZ : ∀ h, (∃ bs, Sat h Z bs) → WS.ok h s) : PlI p 0 s Z := ⟨Nat.zero_le _, hw, hZ⟩
theorem PlI.wb {p : PlM} {k : Nat} {s : WS} {Z : List As} (h : PlI p k s Z) (hp : SmP p) : WB (2 * (k : Int)) s.w := by
  rw [h.w]
  exact wb_at (smP_small hp) k (by show k ≤ (p.acts.map AcM.p).length; rw [List.length_map]; exact h.kle)
theorem PlI.k800 {p : PlM} {k : Nat} {s : WS} {Z : List As} (h : PlI p k s Z) (hp : SmP p) : 0 ≤ 2 * (k : Int) ∧ 2 * (k : Int) ≤ 80000 := by
  have := h.kle; have := hp.1; omega
theorem PlI.len {p : PlM} {k : Nat} {s : WS} {Z : List As} (h : PlI p k s Z) (hp : SmP p) : s.ms.length = 5 := by
  have := (h.wb hp).len; simpa using this
theorem acAt_mem {p : PlM} {k : Nat} (hk : k < p.acts.length) : acAt p k ∈ p.acts := by
  show p.acts.getD k AcM0 ∈ _
  rw [List.getD_eq_getElem?_getD, List.getElem?_eq_getElem hk]; exact List.getElem_mem _
theorem acAt_data {p : PlM} (hp : SmP p) {k : Nat} (hk : k < p.acts.length) : (acAt p k).data.length ≤ 100000 := (hp.2 _ (acAt_mem hk)).data
/-- one of the minds -/
theorem PlI.mind {p : PlM} {k : Nat} {s : WS} {Z : List As} (h : PlI p k s Z) (hp : SmP p) {n : Int} (hn : 0 ≤ n ∧ n < 5) : (mi s n).1 = mindAt (wAt p.p k) n ∧ n.toNat < s.ms.length ∧ BI (2 * (k : Int)) (mi s n).1 := by
  have hl := h.len hp
  have e : (mi s n).1 = mindAt (wAt p.p k) n := by rw [mi_mind, h.w]
  refine ⟨e, by omega, ?_⟩
  rw [mi_mind]; exact (wb_mind (h.wb hp) hn).1
theorem PlI.rd {p : PlM} {k : Nat} {s : WS} {Z : List As} (h : PlI p k s Z) (hp : SmP p) {n : Int} (hn : 0 ≤ n ∧ n < 5) {hh : Heap} (hs : ∃ bs, Sat hh Z bs) : RRd hh (mi s n).1 (mi s n).2 := (h.ok hh hs).ms _ (mi_mem (h.mind hp hn).2.1)
theorem bi_lfit {K : Int} {p : RP} (h : BI K p) (hK : K ≤ 80000) (a : RA) : Fit0 (p.lm a) := by
  have h1 := h.base
  exact ⟨h1.1, by show p.base ≤ _; omega, by show p.l.length ≤ _; omega⟩
theorem lm_ent {p : RP} {a : RA} {i : Int} (h1 : p.base < i) (h2 : i ≤ lastI p.g) : entI p i = some (entAt (p.lm a) i) := by
  have h2' : i ≤ p.base + (p.l.length : Int) := h2
  have e : hasE (p.lm a) i = true := by
    unfold hasE
    rw [Bool.and_eq_true, decide_eq_true_eq, decide_eq_true_eq]
    exact ⟨h1, by show i - p.base ≤ (p.l.length : Int); omega⟩
  unfold entI entAt
  rw [if_pos h1, if_pos e]
  show p.l[(i - p.base - 1).toNat]? = some (p.l.getD (i - p.base - 1).toNat E0)
  rw [List.getD_eq_getElem?_getD, List.getElem?_eq_getElem (by omega)]; rfl
theorem agrH {C0 : List Int} {g : Gh} {w : WP} (W : WW C0 g w) {n k : Int} (hn : 0 ≤ n ∧ n < 5) (hk : 0 ≤ k ∧ k < 5) (a b : RA) : AgrH ((mindAt w n).lm a) ((mindAt w k).lm b) := by
  intro i h1 h2 ht j h3 h4
  have h1' : max (mindAt w n).base (mindAt w k).base < i := h1
  have h2' : i ≤ min (lastI (mindAt w n).g) (lastI (mindAt w k).g) := h2
  have h3' : max (mindAt w n).base (mindAt w k).base < j := h3
  obtain ⟨e, e1, e2⟩ := ww_match W hn hk (lm_ent (a := a) (by omega) (by omega)) (lm_ent (a := b) (by omega) (by omega)) ht j (by omega) (by omega) h4
  rw [lm_ent (a := a) (by omega) (by omega)] at e1
  rw [lm_ent (a := b) (by omega) (by omega)] at e2
  injection e1 with e1
  injection e2 with e2
  rw [e1, e2]
theorem rdMiL_own {F : Snap} {w : World} {H H' : List As} {a : Option Addr} {l : List Mi} {n c q i : Nat} {te : TypeId} {x : Mi} (hw : Hp F w H) (u : Upd H (.own (.slice a n c) te 18 (miV l)) [] H') (h : q = 18 * i + 5) (hi : i < l.length) (hx : x = l.getD i Mi0) : PeekC (hp w) (addO a q) [.int .u64 x.1.base, .int .u64 x.1.bt, .slice x.2.ca x.1.conf.length x.2.cc, .slice x.2.la x.1.l.length x.2.lc] := by
  subst hx
  refine rec_rd (C := miC) (hw.ownN u).2.2.1 miC_len Mi0 h hi (by simp) (fun k u hu => ?_)
  match k, hu with
  | 0, hu => simpa using hu
  | 1, hu => simpa using hu
  | 2, hu => simpa using hu
  | 3, hu => simpa using hu
set_option maxRecDepth 16000 in
set_option maxHeartbeats 8000000 in
theorem RaftMatches_ct (p : PlM) (hpc : p.acts.length ≤ p.pc) : Pu Tryz.prog 5 [plA p] (fun h => PlOk h p) (.bool true) := by
  refine ct_enter 67 Tryz.func5 rfl rfl rfl ?_
  intro F hok
  repeat refine y_ ?_
  refine g_region ?_
  refine gl_boxA rfl rfl ?_; intro g1
  refine f_ (s_assign rfl) ?_
  refine gl_nil ?_
  repeat refine y_ ?_
  refine g_region ?_
  refine gl_callp rfl ralive_ct (fun _ _ _ => trivial) rfl ?_
  refine f_ (s_not rfl) ?_
  refine m_ ?_
  (first|refine u_ ?_|(refine v_ ?_; refine r_ ((s_load_blkW rfl z_3 z_10).eq (v' := plA p) rfl) ?_))
  (first|refine u_ ?_|(refine v_ ?_; refine gl_call _ rfl (great_ct p hpc) (fun w hw => hw) (fun h hh _ => hok.le hh) rfl ?_; rintro v A ⟨⟨b, rfl, hb⟩, rfl⟩))
  refine f_ z_8 ?_
  refine gl_nil ?_
  repeat refine y_ ?_
  cases b
  rotate_left
  · repeat refine y_ ?_
    repeat refine y_ ?_
    refine g_region ?_
    refine gl_callp rfl ralive_ct (fun _ _ _ => trivial) rfl ?_
    refine f_ (s_assign rfl) ?_
    refine gl_nil ?_
    repeat refine y_ ?_
    refine g_ret ?_
    exact at_end1 rfl rfl [] ⟨rfl, rfl⟩ (fun _ h => h.dropAll)
  have hp : SmP p := hb rfl
  have hpl := smP_small hp
  obtain ⟨G, hG⟩ := ww_at hpl
  repeat refine y_ ?_
  refine g_region ?_
  refine r_ ((s_load_blkW rfl z_3 z_10).eq (v' := plA p) rfl) ?_
  refine gl_call [.blk g1 (.cells (plC p).toArray 25)] rfl (Begin_ct p) (fun w hw => hw) (fun _ _ _ => trivial) rfl ?_; rintro v A ⟨s0, Z0, rfl, hw0, rfl, hZ0⟩; refine gl_rot ?_
  refine m_ ?_
  refine f_ (s_extract rfl rfl) ?_
  refine f_ (s_extract rfl rfl) ?_
  refine gl_allocA rfl ?_; intro g3
  (first | refine gl_store_blkW rfl rfl z_7 z_10 z_10 z_2 ?_ | refine gl_store_blk rfl rfl z_7 z_10 z_2 z_10 ?_)
  refine f_ (s_assign rfl) ?_
  refine gl_nil ?_
  repeat refine y_ ?_
  refine g_region ?_
  refine m_ ?_
  refine f_ (s_not rfl) ?_
  refine gl_nil ?_
  repeat refine y_ ?_
  refine g_region ?_
  refine f_ (s_assign rfl) ?_
  refine gl_nil ?_
  repeat refine y_ ?_
  refine g_loop (ι := Nat × WS × List As) (fun x => PlI p x.1 x.2.1 x.2.2) (fun x => [(1, Ptr g1), (3, Ptr g3), (5, .int .i64 (x.1 : Nat))]) (fun x => wB g3 x.2.1 :: OwnMi x.2.1.ma x.2.1.ms x.2.1.mc :: .blk g1 (.cells (plC p).toArray 25) :: x.2.2) (fun x => p.acts.length - x.1) (0, s0, Z0 ++ []) (PlI.begin_ hw0 (fun h hs => hZ0 h (by rw [List.append_nil] at hs; exact hs))) ?_ ?_ ?_
  · (repeat (first | exact Sub.nil _ | refine Sub.cons rfl ?_))
  · intro w hw; exact hw.perm (perm_up z_3 (perm_up z_3 (perm_up z_3 (.refl _))))
  rintro ⟨k, s, Z⟩ hI
  repeat refine y_ ?_
  refine g_region ?_
  refine m_ ?_
  refine f_ z_1 ?_
  refine r_ z_9 ?_
  refine f_ (s_len_sl rfl) ?_
  refine f_ (s_lss rfl rfl) ?_
  refine gl_nil ?_
  repeat refine y_ ?_
  refine g_cond rfl (fun h => ?_) (fun h => ?_)
  rotate_left
  · repeat refine y_ ?_
    repeat refine y_ ?_
    refine g_region ?_
    refine f_ (s_assign rfl) ?_
    refine gl_nil ?_
    repeat refine y_ ?_
    refine g_ret ?_
    exact at_end1 rfl rfl [] ⟨rfl, rfl⟩ (fun _ h => h.dropAll)
  have hk : k < p.acts.length := by simp at h; omega
  have hsome := rdAc_some hok.rd hk
  obtain ⟨a, ha⟩ : ∃ a, a = p.acts.getD k AcM0 := ⟨_, rfl⟩
  have had : a.data.length ≤ 100000 := by rw [ha]; exact acAt_data hp hk
  have hwb := hI.wb hp
  have hK := hI.k800 hp
  have hI' := hI
  obtain ⟨r, hr⟩ : ∃ r, r = actP s.w a.p := ⟨_, rfl⟩
  have hrok : r.ok = true := by rw [hr]; exact (wb_act hwb hK.1 had).2
  have hrn : 0 ≤ r.n ∧ r.n < 5 := by rw [hr]; exact act_n hwb
  have hrw : r.w = (actP (wAt p.p k) (acAt p k).p).w := by
    have e : acAt p k = a := ha.symm
    rw [hr, e]
    have : s.w = wAt p.p k := hI.w
    rw [this]
  obtain ⟨n, hn⟩ : ∃ n, n = r.n := ⟨_, rfl⟩
  obtain ⟨ok, hoke⟩ : ∃ ok, ok = r.ok := ⟨_, rfl⟩
  rw [← hn] at hrn
  rw [← hoke] at hrok
  subst hrok
  repeat refine y_ ?_
  refine g_region ?_
  refine f_ z_1 ?_
  refine r_ z_9 ?_
  refine m_ ?_
  refine f_ (s_indexAddr rfl (by assumption) rfl (by omega)) ?_
  refine r_ ((s_loadN (cs := acC a) rfl (fun w hw => rdAc hw hok.rd (i := k) (by first | omega | (simp only; omega)) hk ha) rfl).eq (v' := acA a) rfl) ?_
  refine gl_call (.blk g1 (.cells (plC p).toArray 25) :: Z) rfl (Act_ct g3 s a _ hwb hK had) (fun w hw => hw) (fun h hh hs => hI'.ok h (sat_tail hs)) rfl ?_; rw [← hr]; rintro v A ⟨s', Z', rfl, hw', rfl, hZ'⟩; refine gl_rot ?_; rw [← hn, ← hoke]
  refine m_ ?_
  refine f_ (s_extract rfl rfl) ?_
  refine f_ (s_extract rfl rfl) ?_
  refine f_ (s_assign rfl) ?_
  refine f_ (s_assign rfl) ?_
  refine gl_nil ?_
  repeat refine y_ ?_
  refine g_region ?_
  refine m_ ?_
  refine f_ (s_not rfl) ?_
  refine gl_nil ?_
  repeat refine y_ ?_
  have hI1 : PlI p (k + 1) s' (Z' ++ Z) := hI.step hk (by rw [hw', hrw]) hZ'
  have hWW := (hG (k + 1) (by show k + 1 ≤ (p.acts.map AcM.p).length; rw [List.length_map]; exact hk)).1
  have hmn := hI1.mind hp hrn
  have hK1 := hI1.k800 hp
  repeat refine y_ ?_
  refine g_region ?_
  refine f_ (s_assign rfl) ?_
  refine gl_nil ?_
  repeat refine y_ ?_
  refine g_loop (ι := Nat) (fun j => j ≤ 5) (fun j => [(1, Ptr g1), (3, Ptr g3), (5, .int .i64 (k : Nat)), (6, .int .i64 n), (8, .int .i64 (j : Nat))]) (fun _ => wB g3 s' :: OwnMi s'.ma s'.ms s'.mc :: .blk g1 (.cells (plC p).toArray 25) :: (Z' ++ Z)) (fun j => 5 - j) 0 (Nat.zero_le _) ?_ ?_ ?_
  · (repeat (first | exact Sub.nil _ | refine Sub.cons rfl ?_))
  · intro w hw; exact hw.perm (perm_up z_3 (perm_up z_3 (perm_up z_3 (.refl _))))
  intro j hj
  obtain ⟨q, hq⟩ : ∃ q, q = decide ((j : Int) < 5) := ⟨_, rfl⟩
  cases q
  · repeat refine y_ ?_
    refine g_region ?_
    refine m_ ?_
    refine f_ ((s_lss rfl rfl).eq (congrArg Value.bool hq.symm)) ?_
    refine m_ ?_
    (first|refine u_ ?_|(refine v_ ?_; refine m_ ?_))
    (first|refine u_ ?_|(refine v_ ?_; refine f_ (s_geq rfl rfl) ?_))
    refine f_ z_8 ?_
    refine m_ ?_
    (first|refine u_ ?_|(refine v_ ?_; refine m_ ?_))
    (first|refine u_ ?_|(refine v_ ?_; refine f_ (s_lss rfl rfl) ?_))
    refine f_ z_8 ?_
    refine gl_nil ?_
    repeat refine y_ ?_
    refine g_region ?_
    refine m_ ?_
    refine f_ ((s_add_i64 rfl rfl (by omega)).eq (v' := .int .i64 ((k + 1 : Nat) : Int)) rfl) ?_
    refine f_ (s_assign rfl) ?_
    refine gl_nil ?_
    repeat refine y_ ?_
    refine at_next (k + 1, s', Z' ++ Z) hI1 (by show p.acts.length - (k + 1) < p.acts.length - k; omega) ?_ ?_
    · (repeat (first | exact Sub.nil _ | refine Sub.cons rfl ?_))
    · intro w hw; exact hw
  repeat refine y_ ?_
  refine g_region ?_
  refine m_ ?_
  refine f_ ((s_lss rfl rfl).eq (congrArg Value.bool hq.symm)) ?_
  refine m_ ?_
  (first|refine u_ ?_|(refine v_ ?_; refine m_ ?_))
  (first|refine u_ ?_|(refine v_ ?_; refine f_ ((s_geq rfl rfl).eq (v' := .bool true) (congrArg Value.bool (decide_eq_true hrn.1))) ?_))
  refine f_ z_8 ?_
  refine m_ ?_
  (first|refine u_ ?_|(refine v_ ?_; refine m_ ?_))
  (first|refine u_ ?_|(refine v_ ?_; refine f_ ((s_lss rfl rfl).eq (v' := .bool true) (congrArg Value.bool (decide_eq_true hrn.2))) ?_))
  refine f_ z_8 ?_
  refine gl_nil ?_
  repeat refine y_ ?_
  have hj5 : j < 5 := by have := of_decide_eq_true hq.symm; omega
  have hjr : (0 : Int) ≤ (j : Int) ∧ (j : Int) < 5 := by omega
  have hmj := hI1.mind hp hjr
  obtain ⟨x, hx⟩ : ∃ x, x = s'.ms.getD n.toNat Mi0 := ⟨_, rfl⟩
  obtain ⟨y, hy⟩ : ∃ x, x = s'.ms.getD j Mi0 := ⟨_, rfl⟩
  have hx' : mi s' n = x := hx.symm
  have hy' : mi s' (j : Int) = y := by rw [hy]; rfl
  rw [hx'] at hmn
  rw [hy'] at hmj
  have hlenn : n.toNat < s'.ms.length := hmn.2.1
  have hlenj : j < s'.ms.length := by have := hmj.2.1; omega
  have hrx : ∀ h, (∃ bs, Sat h (Z' ++ Z) bs) → RRd h x.1 x.2 := fun h hs => by have := hI1.rd hp hrn hs; rw [hx'] at this; exact this
  have hry : ∀ h, (∃ bs, Sat h (Z' ++ Z) bs) → RRd h y.1 y.2 := fun h hs => by have := hI1.rd hp hjr hs; rw [hy'] at this; exact this
  have hagr : AgrH (x.1.lm x.2) (y.1.lm y.2) := by rw [hmn.1, hmj.1]; exact agrH hWW hrn hjr x.2 y.2
  repeat refine y_ ?_
  refine g_ownN (a := s'.ma) z_3 (fun _ _ hma => ?_)
  have hmas : ∃ ad, s'.ma = some ad := hma (by omega)
  have hfx := bi_lfit hmn.2.2 hK1.2 x.2
  have hfy := bi_lfit hmj.2.2 hK1.2 y.2
  repeat refine y_ ?_
  refine g_draw ([1, 5, 7, 11], [0, 1, 0, 7, 15, 31, 0, 64, 0, 448, 960, 1984, 4095, 8191], [12]) [wB g3 s', OwnMi s'.ma s'.ms s'.mc] 14 rfl ?_
  refine w_ 0 rfl z_1 ?_
  (first | refine ga_read_k 1 rfl z_5 (s_load_blk rfl .del a2_0) (by (first | exact fun _ h => h | (repeat first | exact sub_nil | refine sub_cons z_4 ?_))) rfl rfl rfl z_6 ?_ | refine ga_readF 1 rfl (s_load1 rfl (fun w hw => peekB hw (by assumption) a2_0)) (by (first | exact fun _ h => h | (repeat first | exact sub_nil | refine sub_cons z_4 ?_))) rfl rfl rfl z_6 ?_)
  refine w_ 2 rfl (s_move rfl) ?_
  refine w_ 3 rfl (s_indexAddr rfl hmas rfl (by omega)) ?_
  refine w_ 4 rfl z_1 ?_
  refine ga_read_k 5 rfl z_5 ((s_loadN (cs := [.int .u64 x.1.base, .int .u64 x.1.bt, .slice x.2.ca x.1.conf.length x.2.cc, .slice x.2.la x.1.l.length x.2.lc]) rfl (fun w hw => rdMiL_own (a := s'.ma) hw .del (i := n.toNat) (by first | omega | (simp only; omega)) hlenn hx) rfl).eq (v' := (x.1.lm x.2).v) rfl) (by (first | exact fun _ h => h | (repeat first | exact sub_nil | refine sub_cons z_4 ?_))) rfl rfl rfl z_6 ?_
  refine w_ 6 rfl z_1 ?_
  (first | refine ga_read_k 7 rfl z_5 (s_load_blk rfl .del a2_0) (by (first | exact fun _ h => h | (repeat first | exact sub_nil | refine sub_cons z_4 ?_))) rfl rfl rfl z_6 ?_ | refine ga_readF 7 rfl (s_load1 rfl (fun w hw => peekB hw (by assumption) a2_0)) (by (first | exact fun _ h => h | (repeat first | exact sub_nil | refine sub_cons z_4 ?_))) rfl rfl rfl z_6 ?_)
  refine w_ 8 rfl (s_move rfl) ?_
  refine w_ 9 rfl (s_indexAddr rfl hmas rfl (by omega)) ?_
  refine w_ 10 rfl z_1 ?_
  refine ga_read_k 11 rfl z_5 ((s_loadN (cs := [.int .u64 y.1.base, .int .u64 y.1.bt, .slice y.2.ca y.1.conf.length y.2.cc, .slice y.2.la y.1.l.length y.2.lc]) rfl (fun w hw => rdMiL_own (a := s'.ma) hw .del (i := j) (by first | omega | (simp only; omega)) hlenj hy) rfl).eq (v' := (y.1.lm y.2).v) rfl) (by (first | exact fun _ h => h | (repeat first | exact sub_nil | refine sub_cons z_4 ?_))) rfl rfl rfl z_6 ?_
  refine ga_one 12 rfl z_6 ?_
  refine gl_callp rfl (agree_ct (x.1.lm x.2) (y.1.lm y.2) hfx hfy hagr) (fun h hh hs => ⟨(hrx h (sat_tail (sat_tail (sat_tail hs)))).rl, (hry h (sat_tail (sat_tail (sat_tail hs)))).rl⟩) rfl ?_
  refine gl_nil ?_
  refine at_ga (.inl z_6) ?_
  refine w_ 13 rfl (s_not rfl) ?_
  refine ga_done z_6 ?_
  repeat refine y_ ?_
  refine g_region ?_
  refine m_ ?_
  refine f_ ((s_add_i64 rfl rfl (by omega)).eq (v' := .int .i64 ((j + 1 : Nat) : Int)) rfl) ?_
  refine f_ (s_assign rfl) ?_
  refine gl_nil ?_
  repeat refine y_ ?_
  refine at_next (j + 1) (by omega) (by omega) ?_ ?_
  · (repeat (first | exact Sub.nil _ | refine Sub.cons rfl ?_))
  · intro w hw; exact hw
end Go.Proofs.YtodcghipfolejaaGreat.Rf
/- From a contract of the walk to a row of the second kind: a law that answers true and turns nothing of what was there. -/

namespace Go.Sl
open Go Go.RowKit Go.WideShapes Go.ChangeShapes Go.ChangeMaps
set_option linter.unusedVariables false
set_option linter.unusedSimpArgs false

theorem Hp.below {W w' : World} {A : List As} (h : Hp (snap W) w' A) : Below W.heap.size W w' := by
  have hk : ∀ k, k < W.heap.size → w'.heap[k]? = W.heap[k]? := fun k hk => by
    have e : W.heap[k]? = some W.heap[k] := Array.getElem?_eq_getElem hk
    rw [e]
    exact h.keep k _ (by show hpBut W [] k = _; rw [hpBut_nil]; exact e)
  refine ⟨h.os, h.tape, h.output, ?_, hk⟩
  rcases Nat.lt_or_ge w'.heap.size W.heap.size with hlt | hge
  · have h1 := hk w'.heap.size hlt
    rw [Array.getElem?_eq_getElem hlt] at h1
    simp at h1
  · exact hge

section
variable {H : Type} {enc : TypeId × Value → H} {P : Program}
theorem law_post {f : Func} {s : ChangeSpec} {apart fresh handsOn again : Bool} {W W' : World} {args : Array Value} {v : Value} {ds gs : List (DataW H)} {before pa pv : List MemPlace}
    (hW : DataW.Whole enc P f.params.toList s.vars apart W args.toList ds gs before)
    (hres : ∀ (b : Nat) (sp : Nat → Bool) (hd : Bool), DataW.TrodAll enc P W' b sp hd f.resultTypes.toList (v.resultList f.resultTypes.size) (s.fn H (ds ++ gs)).results [])
    (hargs : ∀ sp : Nat → Bool, (∀ p ∈ before, sp p.block = true) → DataW.TrodAll enc P W' 0 sp true f.params.toList args.toList (s.fn H (ds ++ gs)).args pa)
    (hvars : ∀ sp : Nat → Bool, (∀ p ∈ before, sp p.block = true) → DataW.TrodVars enc P W' sp s.vars (s.fn H (ds ++ gs)).vars pv)
    (hps : before = pa ++ pv) (hb : Below W.heap.size W W')
    (hok : ∀ (j : Nat) (t : TypeId) (r : Value), f.resultTypes[j]? = some t → (v.resultList f.resultTypes.size)[j]? = some r → Value.okWide P W' .any 0 t r) :
    s.post enc P f apart fresh handsOn again W args v W' := by
  have hlt : ∀ p ∈ before, p.block < W.heap.size := fun p hp => hW.lt p hp
  have hold : ∀ p ∈ before, (fun b => decide (b < W.heap.size)) p.block = true := fun p hp => by simpa using hlt p hp
  refine ⟨ds, gs, before, [], pa, pv, hW, hres _ _ _, hargs _ hold, hvars _ hold, World.keptBut_mono (fun p hp => ⟨hp, ?_⟩) (hb.frame (· ∈ before)), fun _ => ?_⟩
  · rw [hps, List.mem_append] at hp
    exact Or.inr hp
  · obtain ⟨_, _, _, _, _, hz, hn⟩ := hW
    refine ⟨hok, _, _, ([] ++ pa) ++ pv, ⟨[] ++ pa, pv, trodAll_append (hargs _ (fun _ _ => rfl)) (hres _ _ _), hvars _ (fun _ _ => rfl), rfl, ?_, ?_⟩, ?_⟩
    · intro b off hp
      have hin : MemPlace.cell b off ∈ before := by rw [hps]; simpa using hp
      rw [hb.frozen (hlt _ hin)]
      exact hz b off hin
    · intro ha
      have := hn ha
      rw [hps] at this
      simpa using this
    · intro p hp _
      rw [hps]
      simpa using hp

theorem trodAll_below (hl : laidOutB P = true) {W W' : World} (hb : Below W.heap.size W W') (sp : Nat → Bool) : ∀ {ts : List TypeId} {vs : List Value} {ds : List (DataW H)} {ps : List MemPlace},
    (ts.all fun t => P.readableRec t && decide (t < P.types.size)) = true → DataW.TrodAll enc P W 0 (fun _ => true) true ts vs ds ps → (∀ p ∈ ps, p.block < W.heap.size) → (∀ p ∈ ps, sp p.block = true) →
      DataW.TrodAll enc P W' 0 sp true ts vs ds ps
  | [], vs, ds, ps, _, h, _, _ => by
    obtain ⟨rfl, rfl, rfl⟩ := trodAll_nil h
    rfl
  | t :: ts, vs, ds, ps, hr, h, hlt, hs => by
    obtain ⟨v, vs', d, ds', p, q, rfl, rfl, rfl, h1, h2⟩ := trodAll_cons h
    simp only [List.all_cons, Bool.and_eq_true, decide_eq_true_eq] at hr
    refine ⟨p, q, WideElems.Trod_stays hl hr.1.1 hr.1.2 h1 (fun x hx => hb.same (hlt x (List.mem_append.2 (.inl hx)))) (fun x hx => hs x (List.mem_append.2 (.inl hx))), ?_, rfl⟩
    exact trodAll_below hl hb sp (by simpa using hr.2) h2 (fun x hx => hlt x (List.mem_append.2 (.inr hx))) (fun x hx => hs x (List.mem_append.2 (.inr hx)))

/-- THE STEP FROM A CONTRACT TO THE ROW -/
theorem law_true {f : FuncId} {fn : Func} {s : ChangeSpec} {fresh handsOn again : Bool} {W : World} {vs : List Value} {ds gs : List (DataW H)} {before : List MemPlace} {Pre : Heap → Prop} {t : TypeId}
    (hc : Pu P f vs Pre (.bool true)) (hpre : Pre (hp W)) (hvs : s.vars = [])
    (hW : DataW.Whole enc P fn.params.toList s.vars false W vs ds gs before) (hres : fn.resultTypes = #[t]) (ht : P.underlying t = some .bool)
    (hl : laidOutB P = true) (hr : (fn.params.toList.all fun t => P.readableRec t && decide (t < P.types.size)) = true)
    (hs : s.fn H (ds ++ gs) = { results := [.lit (.bool true)], args := ds }) :
    Calls P f vs.toArray W fun e W' => ∃ v, e = .returned v ∧ s.post enc P fn false fresh handsOn again W vs.toArray v W' := by
  refine (hc W [] rfl List.nodup_nil (by rw [hpBut_nil]; exact hpre)).mono ?_
  rintro e W' ⟨v, A, rfl, ⟨rfl, rfl⟩, hh⟩
  refine ⟨_, rfl, ?_⟩
  have hW' := hW
  have hlt := fun p hp => hW'.lt p hp
  obtain ⟨p, q, hA, hV, hpq, hfz, hnd⟩ := hW
  rw [hvs] at hV
  obtain ⟨rfl, rfl⟩ := trodVars_none hV
  have hb := Hp.below hh
  refine law_post (pa := p) (pv := []) (args := vs.toArray) (by simpa using hW') (fun b sp hd => ?_) (fun sp hsp => ?_) (fun sp hsp => ?_) hpq hb ?_
  · rw [hs, hres]
    exact trodAll_cons_mk (shut_bool ht true) trodAll_mk0
  · rw [hs]
    refine trodAll_below hl hb sp hr hA (fun x hx => hlt x ?_) (fun x hx => hsp x ?_) <;> (rw [hpq]; simpa using hx)
  · rw [hs, hvs]; rfl
  · exact ok_one hres rfl (okWide_bool_mk ht true)

/-! ### arguments opened -/
end
end Go.Sl
namespace Go.Sl
open Go Go.RowKit Go.WideShapes Go.ChangeShapes Go.ChangeMaps
set_option linter.unusedVariables false
set_option linter.unusedSimpArgs false

mutual
def bulkOf {H : Type} : DataW H → Nat
  | .lit (.string bytes) => bytes.length + 1
  | .lit _ => 1
  | .nil => 1
  | .ptr d => bulkOf d + 1
  | .slice elems spare => bulkAll elems + bulkAll spare + 1
  | .agg parts => bulkAll parts + 1
  | .iface _ d => bulkOf d + 1
  | .map entries => bulkEntries entries + 1
  | .held _ => 1
def bulkAll {H : Type} : List (DataW H) → Nat
  | [] => 0
  | d :: r => bulkOf d + bulkAll r
def bulkEntries {H : Type} : List (Lit × DataW H) → Nat
  | [] => 0
  | x :: r => bulkEntry x + bulkEntries r
def bulkEntry {H : Type} : Lit × DataW H → Nat
  | (.string bytes, d) => bytes.length + bulkOf d + 1
  | (_, d) => bulkOf d + 1
end
theorem bulkAll_sum {H : Type} (l : List (DataW H)) : bulkAll l = (l.map bulkOf).sum := by
  induction l with
  | nil => rfl
  | cons d r ih => simp only [bulkAll, List.map_cons, List.sum_cons, ih]

/-- every reading of a type is one of these -/
structure Shp (P : Program) (t : TypeId) {α : Type} (cells : α → List Value) (ok : Heap → α → Prop) (bulk : α → Nat) : Prop where
  h : ∀ {H : Type} (enc : TypeId × Value → H) (w : World) (base : Nat) (sp : Nat → Bool) (held : Bool) (fuel : Nat) (cs : List Value) (x : DataW H × List MemPlace), DataW.trod enc P w base sp held fuel t cs = some x → ∃ y, cs = cells y ∧ ok (hp w) y ∧ bulk y ≤ bulkOf x.1

section
variable {P : Program} {t e : TypeId} {k : IntKind}
theorem shp_int (ht : P.underlying t = some (.int k)) : Shp P t (fun n : Int => [.int k n]) (fun _ n => (Lit.int k n).wf = true) (fun _ => 1) := ⟨fun enc w base sp held fuel cs x h => by
  obtain ⟨n, rfl, rfl, hw⟩ := DataW.trod_int ht h
  exact ⟨n, rfl, hw, Nat.le_refl _⟩⟩
theorem shp_bool (ht : P.underlying t = some .bool) : Shp P t (fun b : Bool => [.bool b]) (fun _ _ => True) (fun _ => 1) := ⟨fun enc w base sp held fuel cs x h => by
  obtain ⟨n, rfl, rfl⟩ := DataW.trod_bool ht h
  exact ⟨n, rfl, trivial, Nat.le_refl _⟩⟩
theorem shp_string (ht : P.underlying t = some .string) : Shp P t (fun l : List UInt8 => [B l]) (fun _ l => l.length ≤ maxLen) (fun l => l.length + 1) := ⟨fun enc w base sp held fuel cs x h => by
  obtain ⟨s, rfl, rfl, hs⟩ := DataW.trod_string ht h
  exact ⟨s.data.toList, rfl, by rw [Array.length_toList]; exact hs, by simp [bulkOf]⟩⟩

/-- what a reading of a slice says -/
structure SlOk {α : Type} (cells : α → List Value) (ok : Heap → α → Prop) (h : Heap) (a : Option Addr) (ls : List α) (c : Nat) : Prop where
  le : ls.length ≤ c
  max : c ≤ maxLen
  rd : RdS h a (ls.flatMap cells)
  each : ∀ y ∈ ls, ok h y
theorem flat_get {α : Type} {cells : α → List Value} {n : Nat} (hn : ∀ y, (cells y).length = n) (hpos : 0 < n) : ∀ (ls : List α) (j : Nat) (u : Value), (ls.flatMap cells)[j]? = some u → ∃ y, ls[j / n]? = some y ∧ (cells y)[j % n]? = some u
  | [], j, u, h => by simp at h
  | x :: r, j, u, h => by
    rw [List.flatMap_cons] at h
    by_cases hj : j < n
    · rw [List.getElem?_append_left (by rw [hn]; exact hj)] at h
      refine ⟨x, ?_, ?_⟩
      · rw [Nat.div_eq_of_lt hj]; rfl
      · rw [Nat.mod_eq_of_lt hj]; exact h
    · rw [List.getElem?_append_right (by rw [hn]; omega), hn] at h
      obtain ⟨y, h1, h2⟩ := flat_get hn hpos r (j - n) u h
      refine ⟨y, ?_, ?_⟩
      · have : j / n = (j - n) / n + 1 := by
          conv => lhs; rw [show j = (j - n) + n by omega]
          rw [Nat.add_div_right _ hpos]
        rw [this]; simpa using h1
      · rw [Nat.mod_eq_sub_mod (by omega)]; exact h2
theorem slice_open {α : Type} {cells : α → List Value} {ok : Heap → α → Prop} {bulk : α → Nat} (ht : P.underlying t = some (.slice e)) (S : Shp P e cells ok bulk) {n : Nat} (hc : P.cellsOf e = n) (hn : ∀ y, (cells y).length = n) (hpos : 0 < n)
    {H : Type} {enc : TypeId × Value → H} {w : World} {base : Nat} {sp : Nat → Bool} {held : Bool} {fuel : Nat} {cs : List Value} {x : DataW H × List MemPlace} (h : DataW.trod enc P w base sp held fuel t cs = some x) :
    ∃ (a : Option Addr) (ls : List α) (c : Nat), cs = [.slice a ls.length c] ∧ SlOk cells ok (hp w) a ls c ∧ ((x.1 = .nil ∧ ls = []) ∨ ∃ elems spare, x.1 = .slice elems spare ∧ elems.length = ls.length) ∧ (ls.map bulk).sum + 1 ≤ bulkOf x.1 := by
  rcases DataW.trod_slice ht h with ⟨rfl, rfl⟩ | ⟨a, len, cap, elems, rest, m, _, rfl, rfl, hb, hl, hm, hlen, hel, _, _⟩
  · exact ⟨none, [], 0, rfl, ⟨Nat.le_refl _, Nat.zero_le _, RdS.nil _ _, by simp⟩, .inl ⟨rfl, rfl⟩, by simp [bulkOf]⟩
  · have key : ∀ (k : Nat), k ≤ len → ∃ ls : List α, ls.length = k ∧ (∀ i y, ls[i]? = some y → w.cells? base (a.add (i * n)) n = some (cells y) ∧ ok (hp w) y) ∧ (ls.map bulk).sum ≤ ((elems.take k).map (fun x => bulkOf x.1)).sum := by
      intro k
      induction k with
      | zero => intro _; exact ⟨[], rfl, by simp, by simp⟩
      | succ k ih =>
        intro hk
        obtain ⟨ls, h1, h2, h3⟩ := ih (by omega)
        have h4 := hel k (by omega)
        have hk' : k < elems.length := by omega
        rw [List.getElem?_eq_getElem hk', hc, Option.bind_eq_some_iff] at h4
        obtain ⟨cs, h5, h6⟩ := h4
        obtain ⟨y, rfl, h7, h8⟩ := S.h enc w base sp held m cs _ h6
        refine ⟨ls ++ [y], by simp [h1], fun i z hz => ?_, ?_⟩
        · by_cases hi : i < k
          · rw [List.getElem?_append_left (by omega)] at hz; exact h2 i z hz
          · rw [List.getElem?_append_right (by omega)] at hz
            have hi0 : i = k := by
              have := (List.getElem?_eq_some_iff.1 hz).1
              simp at this; omega
            subst hi0
            simp [h1] at hz; subst hz
            exact ⟨h5, h7⟩
        · rw [List.take_succ_eq_append_getElem hk']
          simp only [List.map_append, List.map_cons, List.map_nil, List.sum_append, List.sum_cons, List.sum_nil]
          omega
    obtain ⟨ls, h1, h2, h3⟩ := key len (Nat.le_refl _)
    subst h1
    refine ⟨some a, ls, cap, rfl, ⟨hl, hm, fun _ => ⟨a, rfl, fun j u hu => ?_⟩, fun y hy => ?_⟩, .inr ⟨_, _, rfl, by simp [hlen]⟩, ?_⟩
    · obtain ⟨y, h4, h5⟩ := flat_get hn hpos ls j u hu
      obtain ⟨h6, _⟩ := h2 _ _ h4
      have h7 := (World.cells?_some h6).2.2 (j % n) (Nat.mod_lt _ hpos)
      rw [cell?_hp]
      rw [h5, add_add] at h7
      have : j / n * n + j % n = j := by rw [Nat.mul_comm]; exact Nat.div_add_mod j n
      rw [this] at h7; exact h7
    · obtain ⟨i, hi⟩ := List.getElem?_of_mem hy
      exact (h2 i y hi).2
    · simp only [bulkOf, bulkAll_sum, List.map_map]
      rw [List.take_of_length_le (by omega)] at h3
      simp only [Function.comp_def]
      omega
theorem shp_slice {α : Type} {cells : α → List Value} {ok : Heap → α → Prop} {bulk : α → Nat} (ht : P.underlying t = some (.slice e)) (S : Shp P e cells ok bulk) {n : Nat} (hc : P.cellsOf e = n) (hn : ∀ y, (cells y).length = n) (hpos : 0 < n) :
    Shp P t (fun y : Option Addr × List α × Nat => [.slice y.1 y.2.1.length y.2.2]) (fun h y => SlOk cells ok h y.1 y.2.1 y.2.2) (fun y => (y.2.1.map bulk).sum + 1) := ⟨fun enc w base sp held fuel cs x h => by
  obtain ⟨a, ls, c, h1, h2, _, h3⟩ := slice_open ht S hc hn hpos h
  exact ⟨(a, ls, c), h1, h2, h3⟩⟩

/-- the fields of a struct, one behind the other -/
structure ShpF (P : Program) (fs : List Field) (off tot : Nat) {α : Type} (cells : α → List Value) (ok : Heap → α → Prop) (bulk : α → Nat) : Prop where
  h : ∀ {H : Type} (enc : TypeId × Value → H) (w : World) (base : Nat) (sp : Nat → Bool) (held : Bool) (n : Nat) (cs : List Value) (xs : List (DataW H × List MemPlace)), xs.length = fs.length → cs.length = tot →
    (∀ (i : Nat) (f : Field), fs[i]? = some f → DataW.trod enc P w base sp held n f.type ((cs.drop f.offset).take (P.cellsOf f.type)) = xs[i]?) → ∃ y, cs.drop off = cells y ∧ ok (hp w) y ∧ bulk y ≤ (xs.map fun x => bulkOf x.1).sum
theorem shpF_nil {tot : Nat} : ShpF P [] tot tot (fun _ : Unit => []) (fun _ _ => True) (fun _ => 0) := ⟨fun enc w base sp held n cs xs _ hl _ =>
  ⟨(), by rw [List.drop_of_length_le (by omega)], trivial, Nat.zero_le _⟩⟩
theorem shpF_cons {f : Field} {fs : List Field} {off off' tot k : Nat} {α β : Type} {c1 : α → List Value} {ok1 : Heap → α → Prop} {b1 : α → Nat} {c2 : β → List Value} {ok2 : Heap → β → Prop} {b2 : β → Nat}
    (S : Shp P f.type c1 ok1 b1) (ho : f.offset = off) (hk : P.cellsOf f.type = k) (ho2 : off' = off + k) (R : ShpF P fs off' tot c2 ok2 b2) :
    ShpF P (f :: fs) off tot (fun y : α × β => c1 y.1 ++ c2 y.2) (fun h y => ok1 h y.1 ∧ ok2 h y.2) (fun y => b1 y.1 + b2 y.2) := ⟨fun enc w base sp held n cs xs hl hcs hall => by
  cases xs with
  | nil => simp at hl
  | cons x xs =>
    have h0 := hall 0 f rfl
    rw [ho, hk] at h0
    obtain ⟨y, h1, h2, h3⟩ := S.h enc w base sp held n _ _ h0
    obtain ⟨z, h4, h5, h6⟩ := R.h enc w base sp held n cs xs (by simpa using hl) hcs (fun i g hg => by have := hall (i + 1) g (by simpa using hg); simpa using this)
    refine ⟨(y, z), ?_, ⟨h2, h5⟩, ?_⟩
    · simp only
      rw [← h1, ← h4, ho2, ← List.drop_drop, List.take_append_drop]
    · simp only [List.map_cons, List.sum_cons]; omega⟩
theorem shp_struct {fs : Array Field} {tot : Nat} {α : Type} {cells : α → List Value} {ok : Heap → α → Prop} {bulk : α → Nat} (ht : P.underlying t = some (.struct fs)) (hc : P.cellsOf t = tot) (R : ShpF P fs.toList 0 tot cells ok bulk) : Shp P t cells ok bulk := ⟨fun enc w base sp held fuel cs x h => by
  obtain ⟨xs, n, _, rfl, h1, h2, h3⟩ := DataW.trod_struct ht h
  obtain ⟨y, h4, h5, h6⟩ := R.h enc w base sp held n cs xs (by simpa using h2) (by rw [h1, hc]) (fun i f hf => h3 i f (by simpa using hf))
  refine ⟨y, by simpa using h4, h5, ?_⟩
  simp only [bulkOf, bulkAll_sum, List.map_map, Function.comp_def]
  omega⟩
/-- the same, in other words -/
theorem Shp.map {α β : Type} {c1 : α → List Value} {ok1 : Heap → α → Prop} {b1 : α → Nat} {c2 : β → List Value} {ok2 : Heap → β → Prop} {b2 : β → Nat} (S : Shp P t c1 ok1 b1) (f : α → β) (hc : ∀ y, c1 y = c2 (f y)) (ho : ∀ h y, ok1 h y → ok2 h (f y)) (hb : ∀ y, b2 (f y) ≤ b1 y) : Shp P t c2 ok2 b2 := ⟨fun enc w base sp held fuel cs x h => by
  obtain ⟨y, h1, h2, h3⟩ := S.h enc w base sp held fuel cs x h
  exact ⟨f y, by rw [h1, hc], ho _ _ h2, Nat.le_trans (hb y) h3⟩⟩

variable {H : Type} {enc : TypeId × Value → H} {w : World} {r : Reach} {b0 base : Nat} {sp : Nat → Bool} {held : Bool} {v : Value} {d : DataW H} {ps : List MemPlace}
theorem arg_struct {fs : Array Field} {α : Type} {cells : α → List Value} {ok : Heap → α → Prop} {bulk : α → Nat} (ht : P.underlying t = some (.struct fs)) (S : Shp P t cells ok bulk)
    (hval : Value.okWide P w r b0 t v) (hd : DataW.Trod enc P w base sp held t v d ps) :
    ∃ y : α, v = .agg (cells y).toArray ∧ ok (hp w) y ∧ bulk y ≤ bulkOf d := by
  obtain ⟨cs, rfl, _⟩ := okWide_struct ht hval
  obtain ⟨fuel, hf⟩ := hd
  obtain ⟨y, h1, h2, h3⟩ := S.h enc w base sp held fuel _ _ hf
  refine ⟨y, ?_, h2, h3⟩
  rw [← h1]; simp [Value.cells]
end
theorem flat_ints (l : List Int) : (l.flatMap fun n => [Value.int .i64 n]) = intsV l := by
  induction l with
  | nil => rfl
  | cons x r ih => rw [List.flatMap_cons, ih]; rfl
/-- every reading of a type, of bearable weight, is one of these -/
structure ShpW (P : Program) (t : TypeId) {α : Type} (cells : α → List Value) (ok : Heap → α → Prop) : Prop where
  h : ∀ {H : Type} (enc : TypeId × Value → H) (w : World) (base : Nat) (sp : Nat → Bool) (held : Bool) (fuel : Nat) (cs : List Value) (x : DataW H × List MemPlace), DataW.trod enc P w base sp held fuel t cs = some x → (x.1.weights P t).all (· ≤ reachBytes) = true → ∃ y, cs = cells y ∧ ok (hp w) y

section
variable {P : Program} {t e : TypeId} {k : IntKind}
theorem Shp.w {α : Type} {cells : α → List Value} {ok : Heap → α → Prop} {bulk : α → Nat} (S : Shp P t cells ok bulk) : ShpW P t cells ok := ⟨fun enc w base sp held fuel cs x h _ => by
  obtain ⟨y, h1, h2, _⟩ := S.h enc w base sp held fuel cs x h
  exact ⟨y, h1, h2⟩⟩
theorem ShpW.map {α β : Type} {c1 : α → List Value} {ok1 : Heap → α → Prop} {c2 : β → List Value} {ok2 : Heap → β → Prop} (S : ShpW P t c1 ok1) (f : α → β) (hc : ∀ y, c1 y = c2 (f y)) (ho : ∀ h y, ok1 h y → ok2 h (f y)) : ShpW P t c2 ok2 := ⟨fun enc w base sp held fuel cs x h hw => by
  obtain ⟨y, h1, h2⟩ := S.h enc w base sp held fuel cs x h hw
  exact ⟨f y, by rw [h1, hc], ho _ _ h2⟩⟩

variable {H : Type} {enc : TypeId × Value → H} {w : World} {r : Reach} {b0 base : Nat} {sp : Nat → Bool} {held : Bool} {v : Value} {d : DataW H} {ps : List MemPlace}
end
section
variable {P : Program} {t e : TypeId} {k : IntKind} {n : Nat}
def intOf : Value → Int
  | .int _ z => z
  | _ => 0
/-- an array of numbers -/
theorem shp_ints (ht : P.underlying t = some (.array n e)) (he : P.underlying e = some (.int k)) (hce : P.cellsOf e = 1) (hct : P.cellsOf t = n) :
    Shp P t (fun l : List Int => l.map (.int k)) (fun _ l => l.length = n ∧ ∀ z ∈ l, (Lit.int k z).wf = true) (fun _ => 0) := ⟨fun enc w base sp held fuel cs x h => by
  obtain ⟨xs, m, _, _, h1, h2, h3⟩ := DataW.trod_array ht h
  rw [hct] at h1
  have key : ∀ i (hi : i < cs.length), ∃ z, cs[i] = .int k z ∧ (Lit.int k z).wf = true := fun i hi => by
    have h4 := h3 i (by omega)
    rw [List.getElem?_eq_getElem (by omega), hce, Nat.mul_one] at h4
    obtain ⟨z, h5, _, h6⟩ := DataW.trod_int he h4
    refine ⟨z, ?_, h6⟩
    have h7 : (cs.drop i).take 1 = [cs[i]] := by rw [List.drop_eq_getElem_cons hi]; rfl
    rw [h7] at h5
    injection h5
  refine ⟨cs.map intOf, ?_, ⟨by simp [h1], fun z hz => ?_⟩, Nat.zero_le _⟩
  · apply List.ext_getElem (by simp)
    intro i hi _
    obtain ⟨z, h5, _⟩ := key i hi
    simp [h5, intOf]
  · obtain ⟨v, hv, rfl⟩ := List.mem_map.1 hz
    obtain ⟨i, hi, rfl⟩ := List.getElem_of_mem hv
    obtain ⟨z, h5, h6⟩ := key i hi
    rw [h5]; exact h6⟩
variable {H : Type} {enc : TypeId × Value → H} {w : World} {r : Reach} {b0 base : Nat} {sp : Nat → Bool} {held : Bool} {v : Value} {d : DataW H} {ps : List MemPlace}
end
end Go.Sl
/- What a log is, as an argument. -/
namespace Go.Proofs.YtodcghipfolejaaGreat
open Go Go.Sl Go.RowKit Go.WideShapes Go.ChangeShapes
set_option linter.unusedVariables false
set_option linter.unusedSimpArgs false

theorem shpEnt : Shp Tryz.prog 51 (fun e : Ent => entC e) (fun _ e => (Lit.int .u64 e.1).wf = true ∧ e.2.2.length ≤ maxLen) (fun e => e.2.2.length + 3) :=
  (shp_struct Tryz.underlying51 z_6 (shpF_cons (k := 1) (off' := 1) (shp_int (k := .u64) z_6) rfl z_6 rfl (shpF_cons (k := 1) (off' := 2) (shp_int (k := .i64) z_6) rfl z_6 rfl (shpF_cons (k := 1) (off' := 3) (shp_string z_6) rfl z_6 rfl shpF_nil)))).map (fun y => (y.1, y.2.1, y.2.2.1)) (fun y => rfl) (fun h y o => ⟨o.1, o.2.2.1⟩) (fun y => by simp only; omega)
end Go.Proofs.YtodcghipfolejaaGreat
/- A play, as an argument. -/
namespace Go.Proofs.YtodcghipfolejaaGreat.Rf
open Go Go.Sl Go.RowKit Go.WideShapes Go.ChangeShapes
set_option linter.unusedVariables false
set_option linter.unusedSimpArgs false

theorem shpMsg : Shp Tryz.prog 38 (fun m : MM => mmC m) (fun h m => MOk h m) (fun _ => 0) :=
  (shp_struct Tryz.underlying38 z_6
    (shpF_cons (k := 1) (off' := 1) (shp_int (k := .i64) z_6) rfl z_6 rfl
    (shpF_cons (k := 1) (off' := 2) (shp_int (k := .i64) z_6) rfl z_6 rfl
    (shpF_cons (k := 1) (off' := 3) (shp_int (k := .i64) z_6) rfl z_6 rfl
    (shpF_cons (k := 1) (off' := 4) (shp_int (k := .u64) z_6) rfl z_6 rfl
    (shpF_cons (k := 1) (off' := 5) (shp_int (k := .u64) z_6) rfl z_6 rfl
    (shpF_cons (k := 1) (off' := 6) (shp_int (k := .u64) z_6) rfl z_6 rfl
    (shpF_cons (k := 1) (off' := 7) (shp_int (k := .u64) z_6) rfl z_6 rfl
    (shpF_cons (k := 1) (off' := 8) (shp_bool z_6) rfl z_6 rfl
    (shpF_cons (k := 1) (off' := 9) (shp_slice (e := 51) z_6 shpEnt (n := 3) z_6 (fun _ => rfl) (by decide)) rfl z_6 rfl
    (shpF_cons (k := 1) (off' := 10) (shp_slice (e := 3) z_6 (shp_int (k := .i64) z_6) (n := 1) z_6 (fun _ => rfl) (by decide)) rfl z_6 rfl
    (shpF_cons (k := 1) (off' := 11) (shp_int (k := .i64) z_6) rfl z_6 rfl
    (shpF_cons (k := 1) (off' := 12) (shp_int (k := .i64) z_6) rfl z_6 rfl
    (shpF_cons (k := 1) (off' := 13) (shp_string z_6) rfl z_6 rfl shpF_nil)))))))))))))).map
    (fun y => (⟨⟨y.1, y.2.1, y.2.2.1, y.2.2.2.1, y.2.2.2.2.1, y.2.2.2.2.2.1, y.2.2.2.2.2.2.1, y.2.2.2.2.2.2.2.1, y.2.2.2.2.2.2.2.2.1.2.1, y.2.2.2.2.2.2.2.2.2.1.2.1, y.2.2.2.2.2.2.2.2.2.2.1, y.2.2.2.2.2.2.2.2.2.2.2.1, y.2.2.2.2.2.2.2.2.2.2.2.2.1⟩,
      y.2.2.2.2.2.2.2.2.1.1, y.2.2.2.2.2.2.2.2.1.2.2, y.2.2.2.2.2.2.2.2.2.1.1, y.2.2.2.2.2.2.2.2.2.1.2.2⟩ : MM)) (fun y => rfl)
    (fun h y o => by
      obtain ⟨_, _, _, _, _, _, _, _, o9, o10, _⟩ := o
      have h7 := o10.rd
      rw [flat_ints] at h7
      exact ⟨o9.rd, h7, o9.le⟩)
    (fun y => Nat.zero_le _)
theorem shpActA : Shp Tryz.prog 40 (fun a : AcM => acC a) (fun h a => MOk h a.m) (fun _ => 0) :=
  (shp_struct Tryz.underlying40 z_6
    (shpF_cons (k := 1) (off' := 1) (shp_int (k := .i64) z_6) rfl z_6 rfl
    (shpF_cons (k := 1) (off' := 2) (shp_int (k := .i64) z_6) rfl z_6 rfl
    (shpF_cons (k := 1) (off' := 3) (shp_int (k := .i64) z_6) rfl z_6 rfl
    (shpF_cons (k := 1) (off' := 4) (shp_bool z_6) rfl z_6 rfl
    (shpF_cons (k := 1) (off' := 5) (shp_string z_6) rfl z_6 rfl
    (shpF_cons (k := 13) (off' := 18) shpMsg rfl z_6 rfl shpF_nil))))))).map
    (fun y => (⟨y.1, y.2.1, y.2.2.1, y.2.2.2.1, y.2.2.2.2.1, y.2.2.2.2.2.1⟩ : AcM)) (fun y => rfl)
    (fun h y o => o.2.2.2.2.2.1)
    (fun y => Nat.zero_le _)
theorem five {l : List Int} (h : l.length = 5) : ∃ a b c d e, l = [a, b, c, d, e] := by
  match l, h with
  | [a, b, c, d, e], _ => exact ⟨a, b, c, d, e, rfl⟩
theorem shpPlay : Shp Tryz.prog 25 (fun p : PlM => plC p) (fun h p => PlOk h p ∧ p.acts.length ≤ p.pc) (fun _ => 0) := ⟨fun enc w base sp held fuel cs x h => by
  obtain ⟨y, h1, h2, _⟩ := (shp_struct Tryz.underlying25 z_6
    (shpF_cons (k := 1) (off' := 1) (shp_int (k := .i64) z_6) rfl z_6 rfl
    (shpF_cons (k := 5) (off' := 6) (shp_ints (n := 5) (e := 3) (k := .i64) z_6 z_6 z_6 z_6) rfl z_6 rfl
    (shpF_cons (k := 1) (off' := 7) (shp_slice (e := 40) z_6 shpActA (n := 18) z_6 (fun _ => rfl) (by decide)) rfl z_6 rfl shpF_nil)))).h enc w base sp held fuel cs x h
  obtain ⟨mem, tos, sl, u⟩ := y
  obtain ⟨_, o2, o3, _⟩ := h2
  obtain ⟨a, b, c, d, e, rfl⟩ := five o2.1
  exact ⟨⟨mem, a, b, c, d, e, sl.2.1, sl.1, sl.2.2⟩, h1, ⟨⟨o3.rd, fun x hx => o3.each x hx⟩, o3.le⟩, Nat.zero_le _⟩⟩
end Go.Proofs.YtodcghipfolejaaGreat.Rf
