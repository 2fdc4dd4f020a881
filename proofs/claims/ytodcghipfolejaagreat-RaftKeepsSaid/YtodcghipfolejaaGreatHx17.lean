import Derived.Test.YtodcghipfolejaaGreatHx15
import Derived.Test.YtodcghipfolejaaGreatHx9
import Derived.Test.YtodcghipfolejaaGreatHx16
import Derived.Test.YtodcghipfolejaaGreatHx1
import Derived.Carry
import Derived.ChangeSame
import Derived.OpenShut
import Derived.SizedLaws
import Derived.JoinedCond
import Derived.JoinedOf
import Derived.Deep.CondSized
import Derived.ChangeMaps5
import Derived.SliceStrings
import Derived.Test.YtodcghipfolejaaGreatHx6
import Derived.Test.YtodcghipfolejaaGreatHx14
/- RaftMatches: two logs agree; the walk. -/
namespace Go.Proofs.YtodcghipfolejaaGreat.Rf
open Go Go.Sl
set_option linter.unusedVariables false
set_option linter.unusedSimpArgs false
-- ARR

/-- of a size at which nothing runs over -/
structure Fit0 (g : LM) : Prop where
  lo : 0 ≤ g.base
  hi : g.base ≤ 4611686018427387904
  len : g.l.length ≤ 1000000
set_option maxRecDepth 4000 in
set_option maxHeartbeats 2000000 in
theorem Entry0_ct (g : LM) (i : Int) (hf : Fit0 g) (hi : 0 ≤ i ∧ i ≤ 18446744073709551615) : Ct Tryz.prog 23 [g.v, .int .u64 i] (fun h => RdS h g.la (enV g.l)) [] (EntP g i) := by
  have h1 := hf.lo
  have h2 := hf.hi
  have h3 := hf.len
  refine ct_enter 28 Tryz.func23 rfl rfl rfl ?_
  intro F hrd
  repeat refine y_ ?_
  refine g_region ?_
  refine gl_boxA rfl rfl ?_; intro g2
  refine gl_allocA rfl ?_; intro g4
  refine f_ (s_assign rfl) ?_
  refine gl_nil ?_
  repeat refine y_ ?_
  refine g_region ?_
  refine f_ (s_assign rfl) ?_
  refine gl_nil ?_
  repeat refine y_ ?_
  refine g_loop (ι := Nat) (fun k => k ≤ g.l.length ∧ ∀ j, j < k → g.base + 1 + (j : Int) ≠ i) (fun k => [(1, .int .u64 i), (2, Ptr g2), (4, Ptr g4), (6, .int .i64 (k : Nat))]) (fun k => [.blk g4 (.cells #[.int .u64 0, .int .i64 0, B []] 51), .blk g2 (.cells #[.int .u64 g.base, .int .u64 g.bt, .slice g.ca g.conf.length g.cc, .slice g.la g.l.length g.lc] 46)]) (fun k => g.l.length - k) 0 ⟨by omega, fun j hj => absurd hj (by omega)⟩ ?_ ?_ ?_
  · (repeat (first | exact Sub.nil _ | refine Sub.cons rfl ?_))
  · intro w hw; exact hw
  · rintro k ⟨hk, hno⟩
    repeat refine y_ ?_
    refine g_region ?_
    refine m_ ?_
    refine f_ z_1 ?_
    refine r_ (by first | exact s_load_blk rfl z_3 a4_3 | exact s_load1 rfl (fun w hw => peekB hw (by assumption) a4_3)) ?_
    refine f_ (s_len_sl rfl) ?_
    refine f_ (s_lss rfl rfl) ?_
    refine gl_nil ?_
    repeat refine y_ ?_
    refine g_cond rfl (fun h => ?_) (fun h => ?_)
    · have hk' : k < g.l.length := by simp at h; omega
      have hsome := rdE_some hrd hk'
      repeat refine y_ ?_
      refine g_region ?_
      refine f_ z_1 ?_
      refine r_ (by first | exact s_load_blk rfl z_3 a4_0 | exact s_load1 rfl (fun w hw => peekB hw (by assumption) a4_0)) ?_
      refine f_ (s_add_u64 rfl rfl (by omega)) ?_
      refine m_ ?_
      refine f_ (s_conv_keep_u64 rfl (by omega)) ?_
      refine f_ (s_add_u64 rfl rfl (by omega)) ?_
      refine m_ ?_
      refine f_ (s_eql rfl rfl) ?_
      refine gl_nil ?_
      repeat refine y_ ?_
      refine g_cond rfl (fun h2 => ?_) (fun h2 => ?_)
      · have h3 : g.base + 1 + (k : Int) = i := of_decide_eq_true h2
        have e1 : hasE g i = true := by simp only [hasE, Bool.and_eq_true, decide_eq_true_eq]; omega
        have e2 : entAt g i = g.l.getD k E0 := by rw [entAt, if_pos e1]; congr 1; omega
        repeat refine y_ ?_
        refine g_region ?_
        refine f_ z_1 ?_
        refine r_ (by first | exact s_load_blk rfl z_3 a4_3 | exact s_load1 rfl (fun w hw => peekB hw (by assumption) a4_3)) ?_
        refine m_ ?_
        refine f_ (s_indexAddr rfl (by assumption) rfl (by omega)) ?_
        refine r_ (s_loadN rfl (fun w hw => rdE hw hrd (i := k) (by omega) hk') rfl) ?_
        (first | refine gl_store_blkW rfl rfl z_6 z_10 z_10 z_2 ?_ | refine gl_store_blk rfl rfl z_6 z_10 z_2 z_10 ?_)
        refine f_ (s_assign rfl) ?_
        refine gl_nil ?_
        repeat refine y_ ?_
        refine g_ret ?_
        exact at_endB1 rfl rfl rfl z_3 rfl [] ⟨by rw [e1, e2], rfl⟩ (fun _ h => h.dropAll)
      · have h3 : ¬ g.base + 1 + (k : Int) = i := of_decide_eq_false h2
        repeat refine y_ ?_
        refine g_region ?_
        refine m_ ?_
        refine f_ (s_add_i64 rfl rfl (by omega)) ?_
        refine f_ (s_assign rfl) ?_
        refine gl_nil ?_
        repeat refine y_ ?_
        refine at_next (k + 1) ⟨by omega, fun j hj => ?_⟩ (by omega) ?_ ?_
        · rcases Nat.lt_succ_iff_lt_or_eq.1 hj with h4 | rfl
          · exact hno j h4
          · exact h3
        · (repeat (first | exact Sub.nil _ | refine Sub.cons rfl ?_))
        · intro w hw; exact hw
    · have hkl : k = g.l.length := by simp at h; omega
      have e1 : hasE g i = false := by
        apply Bool.eq_false_iff.2
        intro hb
        simp only [hasE, Bool.and_eq_true, decide_eq_true_eq] at hb
        exact hno (i - g.base - 1).toNat (by omega) (by omega)
      have e2 : entAt g i = E0 := by rw [entAt, if_neg (by rw [e1]; simp)]
      repeat refine y_ ?_
      refine g_region ?_
      refine f_ (s_build rfl (v := entV E0) (run_build_struct (places := [(0, 1), (1, 1), (2, 1)]) rfl (by intro f hf; simp at hf; rcases hf with rfl | rfl | rfl <;> rfl) rfl)) ?_
      (first | refine gl_store_blkW rfl rfl z_6 z_10 z_10 z_2 ?_ | refine gl_store_blk rfl rfl z_6 z_10 z_2 z_10 ?_)
      refine f_ (s_assign rfl) ?_
      refine gl_nil ?_
      repeat refine y_ ?_
      refine g_ret ?_
      exact at_endB1 rfl rfl rfl z_3 rfl [] ⟨by rw [e1, e2], rfl⟩ (fun _ h => h.dropAll)
end Go.Proofs.YtodcghipfolejaaGreat.Rf
/- RaftMatches: the walk. -/
namespace Go.Proofs.YtodcghipfolejaaGreat.Rf
open Go Go.Sl
set_option linter.unusedVariables false
set_option linter.unusedSimpArgs false
-- ARR

/-- a play, so many acts done, in memory -/
structure PlI (p : PlM) (k : Nat) (s : WS) (Z : List As) : Prop where
  kle : k ≤ p.acts.length
  w : s.w = wAt p.p k
  ok : ∀ h, (∃ bs, Sat h Z bs) → WS.ok h s
abbrev acAt (p : PlM) (k : Nat) : AcM := p.acts.getD k AcM0
theorem acAt_p (p : PlM) {k : Nat} (hk : k < p.acts.length) : p.p.acts.getD k ⟨0, 0, 0, false, [], MP0⟩ = (acAt p k).p := by
  show (p.acts.map AcM.p).getD k _ = (p.acts.getD k AcM0).p
  rw [List.getD_eq_getElem?_getD, List.getD_eq_getElem?_getD, List.getElem?_map, List.getElem?_eq_getElem hk]; rfl
theorem PlI.wat {p : PlM} {k : Nat} (hk : k < p.acts.length) : wAt p.p (k + 1) = (actP (wAt p.p k) (acAt p k).p).w := by
  rw [wAt, acAt_p p hk]
theorem PlI.step {p : PlM} {k : Nat} {s s' : WS} {Z Z' : List As} (h : PlI p k s Z) (hk : k < p.acts.length) (hw : s'.w = (actP (wAt p.p k) (acAt p k).p).w) (hZ : ∀ h, WS.ok h s → (∃ bs, Sat h Z' bs) → WS.ok h s') : PlI p (k + 1) s' (Z' ++ Z) :=
  ⟨hk, by rw [PlI.wat hk]; exact hw, fun h hs => by
    obtain ⟨s1, s2⟩ := Sat.two2 hs
    rename_i H
    exact hZ h (H.ok h s2) s1⟩
theorem PlI.begin_ {p : PlM} {s : WS} {Z : List As} (hw : s.w = beginP p.p) (hZ : ∀ h, (∃ bs, Sat h Z bs) → WS.ok h s) : PlI p 0 s Z := ⟨Nat.zero_le _, hw, hZ⟩
theorem PlI.wb {p : PlM} {k : Nat} {s : WS} {Z : List As} (h : PlI p k s Z) (hp : SmP p) : WB (2 * (k : Int)) s.w := by
  rw [h.w]
  exact wb_at (smP_small hp) k (by show k ≤ (p.acts.map AcM.p).length; rw [List.length_map]; exact h.kle)
theorem PlI.k800 {p : PlM} {k : Nat} {s : WS} {Z : List As} (h : PlI p k s Z) (hp : SmP p) : 0 ≤ 2 * (k : Int) ∧ 2 * (k : Int) ≤ 80000 := by
  have := h.kle; have := hp.1; omega
theorem PlI.len {p : PlM} {k : Nat} {s : WS} {Z : List As} (h : PlI p k s Z) (hp : SmP p) : s.ms.length = 5 := by
  have := (h.wb hp).len; simpa using this
theorem acAt_mem {p : PlM} {k : Nat} (hk : k < p.acts.length) : acAt p k ∈ p.acts := by
  show p.acts.getD k AcM0 ∈ _
  rw [List.getD_eq_getElem?_getD, List.getElem?_eq_getElem hk]; exact List.getElem_mem _
theorem acAt_data {p : PlM} (hp : SmP p) {k : Nat} (hk : k < p.acts.length) : (acAt p k).data.length ≤ 100000 := (hp.2 _ (acAt_mem hk)).data
/-- one of the minds -/
theorem PlI.mind {p : PlM} {k : Nat} {s : WS} {Z : List As} (h : PlI p k s Z) (hp : SmP p) {n : Int} (hn : 0 ≤ n ∧ n < 5) : (mi s n).1 = mindAt (wAt p.p k) n ∧ n.toNat < s.ms.length ∧ BI (2 * (k : Int)) (mi s n).1 := by
  have hl := h.len hp
  have e : (mi s n).1 = mindAt (wAt p.p k) n := by rw [mi_mind, h.w]
  refine ⟨e, by omega, ?_⟩
  rw [mi_mind]; exact (wb_mind (h.wb hp) hn).1
theorem PlI.rd {p : PlM} {k : Nat} {s : WS} {Z : List As} (h : PlI p k s Z) (hp : SmP p) {n : Int} (hn : 0 ≤ n ∧ n < 5) {hh : Heap} (hs : ∃ bs, Sat hh Z bs) : RRd hh (mi s n).1 (mi s n).2 := (h.ok hh hs).ms _ (mi_mem (h.mind hp hn).2.1)
theorem bi_lfit {K : Int} {p : RP} (h : BI K p) (hK : K ≤ 80000) (a : RA) : Fit0 (p.lm a) := by
  have h1 := h.base
  exact ⟨h1.1, by show p.base ≤ _; omega, by show p.l.length ≤ _; omega⟩
theorem lm_ent {p : RP} {a : RA} {i : Int} (h1 : p.base < i) (h2 : i ≤ lastI p.g) : entI p i = some (entAt (p.lm a) i) := by
  have h2' : i ≤ p.base + (p.l.length : Int) := h2
  have e : hasE (p.lm a) i = true := by
    unfold hasE
    rw [Bool.and_eq_true, decide_eq_true_eq, decide_eq_true_eq]
    exact ⟨h1, by show i - p.base ≤ (p.l.length : Int); omega⟩
  unfold entI entAt
  rw [if_pos h1, if_pos e]
  show p.l[(i - p.base - 1).toNat]? = some (p.l.getD (i - p.base - 1).toNat E0)
  rw [List.getD_eq_getElem?_getD, List.getElem?_eq_getElem (by omega)]; rfl
end Go.Proofs.YtodcghipfolejaaGreat.Rf
/- RaftElects: the walk. -/
namespace Go.Proofs.YtodcghipfolejaaGreat.Rf
open Go Go.Sl
set_option linter.unusedVariables false
set_option linter.unusedSimpArgs false
-- ARR

theorem pm2 {a b c d : As} {Z' Z : List As} : ((a :: b :: Z') ++ (c :: d :: Z)).Perm (a :: b :: c :: d :: (Z' ++ Z)) :=
  ((List.perm_middle.trans ((List.perm_middle).cons _)).cons _).cons _
/-- who led in which term, in memory -/
abbrev lvE (x : Int × Int) : KV := (.int .u64 x.1, .int .i64 x.2)
abbrev lvM (l : List (Int × Int)) : List KV := l.map lvE
abbrev kU : TypeDesc := .int .u64
abbrev LdX := List (Int × Int) × Array MapEntry × Nat
structure LdI (g : Gh) (x : LdX) : Prop where
  ok : MapOk kU x.2.1 x.2.2 (lvM x.1)
  win : ∀ y ∈ x.1, g.Win y.1 y.2 ∧ 1 ≤ y.2
theorem LdI.le {g g' : Gh} (h : Gle g g') {x : LdX} (k : LdI g x) : LdI g' x := ⟨k.ok, fun y hy => ⟨h.win _ _ (k.win y hy).1, (k.win y hy).2⟩⟩
theorem LdI.look {C0 : List Int} {g : Gh} (T : Tree C0 g) {x : LdX} (k : LdI g x) {t i : Int} (hw : g.Win t i) (hi : 1 ≤ i) : ∃ o l, GetV (lvM x.1) (.int .u64 t) o ∧ o.getD (.int .i64 0) = .int .i64 l ∧ (l = 0 ∨ l = i) ∧ ∀ es' cs', (∀ ms', PutV (lvM x.1) (.int .u64 t) (.int .i64 i) ms' → MapOk kU es' cs' ms') → ∃ m', LdI g (m', es', cs') := by
  by_cases h : ∃ j, (t, j) ∈ x.1
  · obtain ⟨j, hj⟩ := h
    have e : j = i := T.uniq _ _ _ (k.win _ hj).1 hw
    subst e
    have hm : lvE (t, j) ∈ lvM x.1 := List.mem_map.2 ⟨_, hj, rfl⟩
    refine ⟨some (.int .i64 j), j, hm, rfl, .inr rfl, fun es' cs' hall => ⟨x.1, hall _ (.inr ?_), k.win⟩⟩
    obtain ⟨a, b, hab⟩ := List.append_of_mem hm
    refine ⟨.int .i64 j, a ++ b, ?_, ?_⟩
    · rw [hab]; exact List.perm_middle
    · rw [hab]; exact List.perm_middle.symm
  · have hn : NoKey (lvM x.1) (.int .u64 t) := fun v hv => by
      obtain ⟨y, hy, e⟩ := List.mem_map.1 hv
      injection e with e1 e2
      injection e1 with _ e1
      obtain ⟨y1, y2⟩ := y
      simp only at e1
      subst e1
      exact h ⟨_, hy⟩
    refine ⟨none, 0, hn, rfl, .inl rfl, fun es' cs' hall => ⟨(t, i) :: x.1, hall _ (.inl ⟨hn, .refl _⟩), fun y hy => ?_⟩⟩
    rcases List.mem_cons.1 hy with rfl | hy
    · exact ⟨hw, hi⟩
    · exact k.win y hy
end Go.Proofs.YtodcghipfolejaaGreat.Rf
/- What is known to be committed: learn. -/
namespace Go.Proofs.YtodcghipfolejaaGreat.Rf
open Go Go.Sl
set_option linter.unusedVariables false
set_option linter.unusedSimpArgs false
-- ARR

instance : HBld Tryz.prog 70 #[{ name := "E", type := 51, offset := 0, embedded := false, tag := "", pkgPath := "", byteOffset := 0 }, { name := "Term", type := 34, offset := 3, embedded := false, tag := "", pkgPath := "", byteOffset := 32 }] [(0, 3), (3, 1)] := ⟨Tryz.underlying70, by kernel_rfl, by kernel_rfl⟩
abbrev knV (e : Ent) (t : Int) : Value := .agg #[.int .u64 e.1, .int .i64 e.2.1, B e.2.2, .int .u64 t]
abbrev knE (x : Int × Ent × Int) : KV := (.int .u64 x.1, knV x.2.1 x.2.2)
abbrev knM (l : List (Int × Ent × Int)) : List KV := l.map knE
abbrev KnX := List (Int × Ent × Int) × Array MapEntry × Nat
structure KnI (g : Gh) (x : KnX) : Prop where
  ok : MapOk kU x.2.1 x.2.2 (knM x.1)
  kn : ∀ y ∈ x.1, Kn g y.1 y.2.1 y.2.2
theorem KnI.le {g g' : Gh} (h : Gle g g') {x : KnX} (k : KnI g x) : KnI g' x := ⟨k.ok, fun y hy => (k.kn y hy).le h⟩
theorem KnI.look {g : Gh} {x : KnX} (k : KnI g x) (i : Int) : (∃ e t, GetV (knM x.1) (.int .u64 i) (some (knV e t)) ∧ Kn g i e t) ∨ (GetV (knM x.1) (.int .u64 i) none ∧ ∀ e t es' cs', Kn g i e t → (∀ ms', PutV (knM x.1) (.int .u64 i) (knV e t) ms' → MapOk kU es' cs' ms') → KnI g ((i, e, t) :: x.1, es', cs')) := by
  by_cases h : ∃ y ∈ x.1, y.1 = i
  · obtain ⟨⟨i', e, t⟩, hy, rfl⟩ := h
    exact .inl ⟨e, t, List.mem_map.2 ⟨_, hy, rfl⟩, k.kn _ hy⟩
  · have hn : NoKey (knM x.1) (.int .u64 i) := fun v hv => by
      obtain ⟨y, hy, e⟩ := List.mem_map.1 hv
      injection e with e1 e2
      injection e1 with _ e1
      exact h ⟨y, hy, e1⟩
    refine .inr ⟨hn, fun e t es' cs' hk hall => ⟨hall _ (.inl ⟨hn, .refl _⟩), fun y hy => ?_⟩⟩
    rcases List.mem_cons.1 hy with rfl | hy
    · exact hk
    · exact k.kn y hy
theorem ent_lm {p : RP} {a : RA} {i : Int} {e : Ent} (h : entI p i = some e) : entAt (p.lm a) i = e ∧ hasE (p.lm a) i = true := by
  have h1 := ent_some h
  have h2 : i ≤ p.base + (p.l.length : Int) := h1.2
  rw [lm_ent (a := a) h1.1 h1.2] at h
  injection h with h
  refine ⟨h, ?_⟩
  unfold hasE
  rw [Bool.and_eq_true, decide_eq_true_eq, decide_eq_true_eq]
  exact ⟨h1.1, by show i - p.base ≤ (p.l.length : Int); omega⟩
set_option maxRecDepth 16000 in
set_option maxHeartbeats 8000000 in
theorem learn_ct {C0 : List Int} {g : Gh} (T : Tree C0 g) (X : Nat) (x : Mi) (k0 : KnX) (hk : KnI g k0) (hf : Fit0 (x.1.lm x.2)) (hb : 0 ≤ x.1.base ∧ x.1.base ≤ x.1.commit ∧ x.1.commit ≤ 4611686018427387904)
    (hl : ∀ i, x.1.base < i → i ≤ x.1.commit → ∃ e, entI x.1 i = some e ∧ Kn g i e x.1.term) :
    Ct Tryz.prog 22 [.map (some X), rsV x.1 x.2] (fun h => RdS h x.2.la (enV x.1.l)) [.blk X (.map k0.2.1 k0.2.2)] (fun v A => v = .bool true ∧ ∃ k1, KnI g k1 ∧ A = [.blk X (.map k1.2.1 k1.2.2)]) := by
  refine ct_enter 50 Tryz.func22 rfl rfl rfl ?_
  intro F hr
  repeat refine y_ ?_
  refine g_region ?_
  refine gl_boxA rfl rfl ?_; intro g3
  refine f_ (s_assign rfl) ?_
  refine gl_nil ?_
  repeat refine y_ ?_
  refine g_region ?_
  refine f_ z_1 ?_
  refine f_ z_1 ?_
  refine r_ (by first | exact s_load_blk rfl z_3 a18_5 | exact s_load1 rfl (fun w hw => peekB hw (by assumption) a18_5)) ?_
  refine f_ (s_add_u64 rfl rfl (by omega)) ?_
  refine f_ (s_assign rfl) ?_
  refine gl_nil ?_
  repeat refine y_ ?_
  refine g_loop (ι := Int × KnX) (fun y => x.1.base < y.1 ∧ y.1 ≤ x.1.commit + 1 ∧ KnI g y.2) (fun y => [(0, .map (some X)), (3, Ptr g3), (5, .int .u64 y.1)]) (fun y => [.blk g3 (.cells (miC x).toArray 49), .blk X (.map y.2.2.1 y.2.2.2)]) (fun y => (x.1.commit + 1 - y.1).toNat) (x.1.base + 1, k0) ⟨by show x.1.base < x.1.base + 1; omega, by show x.1.base + 1 ≤ x.1.commit + 1; omega, hk⟩ ?_ ?_ ?_
  · (repeat (first | exact Sub.nil _ | refine Sub.cons rfl ?_))
  · intro w hw; exact hw.perm (perm_up z_3 (perm_up z_3 (.refl _)))
  rintro ⟨i, m, es, clock⟩ ⟨hi1, hi2, hK⟩
  simp only at hi1 hi2 hK
  repeat refine y_ ?_
  refine g_region ?_
  refine m_ ?_
  refine f_ z_1 ?_
  refine r_ (by first | exact s_load_blk rfl z_3 a18_10 | exact s_load1 rfl (fun w hw => peekB hw (by assumption) a18_10)) ?_
  refine f_ (s_leq rfl rfl) ?_
  refine gl_nil ?_
  repeat refine y_ ?_
  refine g_cond rfl (fun h => ?_) (fun h => ?_)
  rotate_left
  · repeat refine y_ ?_
    repeat refine y_ ?_
    refine g_region ?_
    refine f_ (s_assign rfl) ?_
    refine gl_nil ?_
    repeat refine y_ ?_
    refine g_ret ?_
    exact at_end1 rfl rfl [.blk X (.map es clock)] ⟨rfl, (m, es, clock), hK, rfl⟩ (fun _ h => h.drop)
  have hic : i ≤ x.1.commit := of_decide_eq_true h
  obtain ⟨e, he, hkn⟩ := hl i hi1 hic
  obtain ⟨ea, eh⟩ := ent_lm (a := x.2) he
  repeat refine y_ ?_
  refine g_region ?_
  refine f_ z_1 ?_
  refine r_ ((s_load_blkN rfl z_3 z_10).eq (v' := (x.1.lm x.2).v) rfl) ?_
  refine m_ ?_
  refine gl_call _ rfl (Entry0_ct (x.1.lm x.2) i hf (by omega)) (fun w hw => hw) (fun h hh _ => hr.le hh) rfl ?_; rintro v A ⟨rfl, rfl⟩; rw [ea, eh]
  refine m_ ?_
  refine f_ (s_extract rfl rfl) ?_
  refine f_ (s_extract rfl rfl) ?_
  refine gl_allocA rfl ?_; intro g6
  (first | refine gl_store_blkW rfl rfl z_6 z_10 z_10 z_2 ?_ | refine gl_store_blk rfl rfl z_6 z_10 z_2 z_10 ?_)
  refine f_ (s_assign rfl) ?_
  refine gl_nil ?_
  repeat refine y_ ?_
  refine g_region ?_
  refine m_ ?_
  refine f_ (s_not rfl) ?_
  refine gl_nil ?_
  repeat refine y_ ?_
  rcases hK.look i with ⟨e2, t2, ho, hk2⟩ | ⟨ho, hput⟩
  · have hee : e2 = e := kn_one T hk2 hkn
    repeat refine y_ ?_
    refine g_region ?_
    refine m_ ?_
    refine m_ ?_
    refine r_ ((s_look (key := .int .u64 i) (o := some (knV e2 t2)) (zv := knV E0 0) (c := true) rfl rfl z_3 hK.ok rfl ho).eq (v' := .tuple #[knV e2 t2, .bool true]) rfl) ?_
    refine m_ ?_
    refine f_ (s_extract rfl rfl) ?_
    refine f_ (s_extract rfl rfl) ?_
    refine gl_allocA rfl ?_; intro g8
    (first | refine gl_store_blkW rfl rfl z_6 z_10 z_10 z_2 ?_ | refine gl_store_blk rfl rfl z_6 z_10 z_2 z_10 ?_)
    refine f_ (s_assign rfl) ?_
    refine gl_nil ?_
    repeat refine y_ ?_
    refine g_region ?_
    refine m_ ?_
    refine m_ ?_
    (first|refine u_ ?_|(refine v_ ?_; refine f_ z_1 ?_))
    (first|refine u_ ?_|(refine v_ ?_; refine r_ ((s_load_blkN rfl z_3 z_10).eq (v' := entV e2) rfl) ?_))
    (first|refine u_ ?_|(refine v_ ?_; refine r_ ((s_load_blkN rfl z_3 z_10).eq (v' := entV e) rfl) ?_))
    (first|refine u_ ?_|(refine v_ ?_; refine f_ ((s_neq_struct rfl rfl (by exact EqF.int (by decide) rfl rfl (EqF.int (by decide) rfl rfl (EqF.str (by decide) rfl rfl EqF.nil)))).eq (v' := .bool false) (by rw [ent_eq, decide_eq_true hee]; rfl)) ?_))
    refine f_ z_8 ?_
    refine gl_nil ?_
    repeat refine y_ ?_
    refine g_region ?_
    refine m_ ?_
    refine f_ (s_not rfl) ?_
    refine gl_nil ?_
    repeat refine y_ ?_
    refine g_region ?_
    refine m_ ?_
    refine f_ (s_add_u64 rfl rfl (by omega)) ?_
    refine f_ (s_assign rfl) ?_
    refine gl_nil ?_
    repeat refine y_ ?_
    refine at_next (i + 1, m, es, clock) ⟨by show x.1.base < i + 1; omega, by show i + 1 ≤ x.1.commit + 1; omega, hK⟩ (by show (x.1.commit + 1 - (i + 1)).toNat < (x.1.commit + 1 - i).toNat; omega) ?_ ?_
    · (repeat (first | exact Sub.nil _ | refine Sub.cons rfl ?_))
    · intro w hw; exact hw.drop.drop
  · repeat refine y_ ?_
    refine g_region ?_
    refine m_ ?_
    refine m_ ?_
    refine r_ ((s_look (key := .int .u64 i) (o := none) (zv := knV E0 0) (c := true) rfl rfl z_3 hK.ok rfl ho).eq (v' := .tuple #[knV E0 0, .bool false]) rfl) ?_
    refine m_ ?_
    refine f_ (s_extract rfl rfl) ?_
    refine f_ (s_extract rfl rfl) ?_
    refine gl_allocA rfl ?_; intro g8
    (first | refine gl_store_blkW rfl rfl z_6 z_10 z_10 z_2 ?_ | refine gl_store_blk rfl rfl z_6 z_10 z_2 z_10 ?_)
    refine f_ (s_assign rfl) ?_
    refine gl_nil ?_
    repeat refine y_ ?_
    refine g_region ?_
    refine m_ ?_
    refine m_ ?_
    (first|refine u_ ?_|(refine v_ ?_; refine f_ z_1 ?_))
    (first|refine u_ ?_|(refine v_ ?_; refine r_ z_11 ?_))
    (first|refine u_ ?_|(refine v_ ?_; refine r_ z_11 ?_))
    (first|refine u_ ?_|(refine v_ ?_; refine f_ (s_neq_struct rfl rfl (by exact EqF.int (by decide) rfl rfl (EqF.int (by decide) rfl rfl (EqF.str (by decide) rfl rfl EqF.nil)))) ?_))
    refine f_ z_8 ?_
    refine gl_nil ?_
    repeat refine y_ ?_
    refine g_region ?_
    refine m_ ?_
    refine f_ (s_not rfl) ?_
    refine gl_nil ?_
    repeat refine y_ ?_
    refine g_region ?_
    refine m_ ?_
    refine m_ ?_
    refine r_ ((s_load_blkN rfl z_3 z_10).eq (v' := entV e) rfl) ?_
    refine f_ z_1 ?_
    refine r_ (by first | exact s_load_blk rfl z_3 a18_1 | exact s_load1 rfl (fun w hw => peekB hw (by assumption) a18_1)) ?_
    refine f_ ((s_bld (cells := #[.int .u64 e.1, .int .i64 e.2.1, B e.2.2, .int .u64 x.1.term]) rfl z_7).eq (v' := knV e x.1.term) rfl) ?_
    refine gl_mapUpd rfl rfl rfl hK.ok rfl (fun es' cs' => z_6) ?_; intro es' cs' hall
    refine gl_nil ?_
    repeat refine y_ ?_
    refine g_region ?_
    refine m_ ?_
    refine f_ (s_add_u64 rfl rfl (by omega)) ?_
    refine f_ (s_assign rfl) ?_
    refine gl_nil ?_
    repeat refine y_ ?_
    refine at_next (i + 1, (i, e, x.1.term) :: m, es', cs') ⟨by show x.1.base < i + 1; omega, by show i + 1 ≤ x.1.commit + 1; omega, hput e _ es' cs' hkn hall⟩ (by show (x.1.commit + 1 - (i + 1)).toNat < (x.1.commit + 1 - i).toNat; omega) ?_ ?_
    · (repeat (first | exact Sub.nil _ | refine Sub.cons rfl ?_))
    · intro w hw; exact hw.drop.drop
end Go.Proofs.YtodcghipfolejaaGreat.Rf
/- RaftKeeps: the walk. -/
namespace Go.Proofs.YtodcghipfolejaaGreat.Rf
open Go Go.Sl
set_option linter.unusedVariables false
set_option linter.unusedSimpArgs false
-- ARR

set_option maxRecDepth 16000 in
set_option maxHeartbeats 8000000 in
theorem RaftKeeps_ct (p : PlM) (hpc : p.acts.length ≤ p.pc) : Pu Tryz.prog 7 [plA p] (fun h => PlOk h p) (.bool true) := by
  refine ct_enter 118 Tryz.func7 rfl rfl rfl ?_
  intro F hok
  repeat refine y_ ?_
  refine g_region ?_
  refine gl_boxA rfl rfl ?_; intro g1
  refine f_ (s_assign rfl) ?_
  refine gl_nil ?_
  repeat refine y_ ?_
  refine g_region ?_
  refine gl_callp rfl ralive_ct (fun _ _ _ => trivial) rfl ?_
  refine f_ (s_not rfl) ?_
  refine m_ ?_
  (first|refine u_ ?_|(refine v_ ?_; refine r_ ((s_load_blkW rfl z_3 z_10).eq (v' := plA p) rfl) ?_))
  (first|refine u_ ?_|(refine v_ ?_; refine gl_call _ rfl (great_ct p hpc) (fun w hw => hw) (fun h hh _ => hok.le hh) rfl ?_; rintro v A ⟨⟨b, rfl, hb⟩, rfl⟩))
  refine f_ z_8 ?_
  refine gl_nil ?_
  repeat refine y_ ?_
  cases b
  rotate_left
  · repeat refine y_ ?_
    repeat refine y_ ?_
    refine g_region ?_
    refine gl_callp rfl ralive_ct (fun _ _ _ => trivial) rfl ?_
    refine f_ (s_assign rfl) ?_
    refine gl_nil ?_
    repeat refine y_ ?_
    refine g_ret ?_
    exact at_end1 rfl rfl [] ⟨rfl, rfl⟩ (fun _ h => h.dropAll)
  have hp : SmP p := hb rfl
  have hpl := smP_small hp
  obtain ⟨G, hG⟩ := ww_at hpl
  repeat refine y_ ?_
  refine g_region ?_
  refine r_ ((s_load_blkW rfl z_3 z_10).eq (v' := plA p) rfl) ?_
  refine gl_call [.blk g1 (.cells (plC p).toArray 25)] rfl (Begin_ct p) (fun w hw => hw) (fun _ _ _ => trivial) rfl ?_; rintro v A ⟨s0, Z0, rfl, hw0, rfl, hZ0⟩; refine gl_rot ?_
  refine m_ ?_
  refine f_ (s_extract rfl rfl) ?_
  refine f_ (s_extract rfl rfl) ?_
  refine gl_allocA rfl ?_; intro g3
  (first | refine gl_store_blkW rfl rfl z_6 z_10 z_10 z_2 ?_ | refine gl_store_blk rfl rfl z_6 z_10 z_2 z_10 ?_)
  refine f_ (s_assign rfl) ?_
  refine gl_nil ?_
  repeat refine y_ ?_
  refine g_region ?_
  refine m_ ?_
  refine f_ (s_not rfl) ?_
  refine gl_nil ?_
  repeat refine y_ ?_
  refine g_region ?_
  refine gl_makeMap rfl ?_; intro g30
  refine f_ (s_assign rfl) ?_
  refine gl_nil ?_
  repeat refine y_ ?_
  refine g_region ?_
  refine f_ (s_assign rfl) ?_
  refine gl_nil ?_
  repeat refine y_ ?_
  refine g_region ?_
  refine f_ (s_assign rfl) ?_
  refine gl_nil ?_
  repeat refine y_ ?_
  refine g_loop (ι := Nat × WS × List As × KnX × Int) (fun x => PlI p x.1 x.2.1 x.2.2.1 ∧ KnI (G x.1) x.2.2.2.1 ∧ 0 ≤ x.2.2.2.2 ∧ x.2.2.2.2 ≤ 80000) (fun x => [(1, Ptr g1), (3, Ptr g3), (5, .map (some g30)), (6, .int .u64 x.2.2.2.2), (7, .int .i64 (x.1 : Nat))]) (fun x => wB g3 x.2.1 :: OwnMi x.2.1.ma x.2.1.ms x.2.1.mc :: .blk g30 (.map x.2.2.2.1.2.1 x.2.2.2.1.2.2) :: .blk g1 (.cells (plC p).toArray 25) :: x.2.2.1) (fun x => p.acts.length - x.1) (0, s0, Z0 ++ [], ([], #[], 0), 0) ⟨PlI.begin_ hw0 (fun h hs => hZ0 h (by rw [List.append_nil] at hs; exact hs)), ⟨MapOk.empty _ _, (fun y hy => by cases hy)⟩, Int.le_refl _, (show (0 : Int) ≤ 80000 by decide)⟩ ?_ ?_ ?_
  · (repeat (first | exact Sub.nil _ | refine Sub.cons rfl ?_))
  · intro w hw; exact hw.perm (perm_up z_3 (perm_up z_3 (perm_up z_3 (perm_up z_3 (.refl _)))))
  rintro ⟨k, s, Z, ⟨m, es, clock⟩, gr⟩ ⟨hI, hL, hg0, hg1⟩
  simp only at hI hL hg0 hg1
  repeat refine y_ ?_
  refine g_region ?_
  refine m_ ?_
  refine f_ z_1 ?_
  refine r_ z_9 ?_
  refine f_ (s_len_sl rfl) ?_
  refine f_ (s_lss rfl rfl) ?_
  refine gl_nil ?_
  repeat refine y_ ?_
  refine g_cond rfl (fun h => ?_) (fun h => ?_)
  rotate_left
  · repeat refine y_ ?_
    repeat refine y_ ?_
    refine g_region ?_
    refine f_ (s_assign rfl) ?_
    refine gl_nil ?_
    repeat refine y_ ?_
    refine g_ret ?_
    exact at_end1 rfl rfl [] ⟨rfl, rfl⟩ (fun _ h => h.dropAll)
  have hk : k < p.acts.length := by simp at h; omega
  have hsome := rdAc_some hok.rd hk
  obtain ⟨a, ha⟩ : ∃ a, a = p.acts.getD k AcM0 := ⟨_, rfl⟩
  have had : a.data.length ≤ 100000 := by rw [ha]; exact acAt_data hp hk
  have hwb := hI.wb hp
  have hK := hI.k800 hp
  have hlen := hI.len hp
  obtain ⟨r, hr⟩ : ∃ r, r = actP s.w a.p := ⟨_, rfl⟩
  have hrok : r.ok = true := by rw [hr]; exact (wb_act hwb hK.1 had).2
  have hrn : 0 ≤ r.n ∧ r.n < 5 := by rw [hr]; exact act_n hwb
  have hrw : r.w = (actP (wAt p.p k) (acAt p k).p).w := by
    have e : acAt p k = a := ha.symm
    rw [hr, e]
    have : s.w = wAt p.p k := hI.w
    rw [this]
  have hup : a.kind ≠ 7 → (mindAt s.w r.n).commit ≤ (mindAt r.w r.n).commit := fun h7 => by
    have := act_up hwb hK.1 (a := a.p) had hrn
    rw [← hr] at this
    exact this.2.2 h7
  obtain ⟨n, hn⟩ : ∃ n, n = r.n := ⟨_, rfl⟩
  obtain ⟨ok, hoke⟩ : ∃ ok, ok = r.ok := ⟨_, rfl⟩
  rw [← hn] at hrn hup
  rw [← hoke] at hrok
  subst hrok
  repeat refine y_ ?_
  refine g_region ?_
  refine f_ z_1 ?_
  refine r_ z_9 ?_
  refine m_ ?_
  refine f_ (s_indexAddr rfl (by assumption) rfl (by omega)) ?_
  refine r_ ((s_loadN (cs := acC a) rfl (fun w hw => rdAc hw hok.rd (i := k) (by first | omega | (simp only; omega)) hk ha) rfl).eq (v' := acA a) rfl) ?_
  refine gl_call (.blk g30 (.map es clock) :: .blk g1 (.cells (plC p).toArray 25) :: Z) rfl (Act_ct g3 s a _ hwb hK had) (fun w hw => hw) (fun h hh hs => hI.ok h (sat_tail (sat_tail hs))) rfl ?_; rw [← hr]; rintro v A ⟨s', Z', rfl, hw', rfl, hZ'⟩; refine gl_pull (fun w hw => hw.perm pm2) ?_; rw [← hn, ← hoke]
  refine m_ ?_
  refine f_ (s_extract rfl rfl) ?_
  refine f_ (s_extract rfl rfl) ?_
  refine f_ (s_assign rfl) ?_
  refine f_ (s_assign rfl) ?_
  refine gl_nil ?_
  repeat refine y_ ?_
  have hI1 : PlI p (k + 1) s' (Z' ++ Z) := hI.step hk (by rw [hw', hrw]) hZ'
  have hG1 := hG (k + 1) (by show k + 1 ≤ (p.acts.map AcM.p).length; rw [List.length_map]; exact hk)
  have hWW := hG1.1
  have hL1 : KnI (G (k + 1)) (m, es, clock) := hL.le (hG1.2 k (Nat.le_succ k))
  have hT := ww_tree hWW
  have hlen1 := hI1.len hp
  have hmn := hI1.mind hp hrn
  have hK1 := hI1.k800 hp
  obtain ⟨y, hy⟩ : ∃ x, x = s'.ms.getD n.toNat Mi0 := ⟨_, rfl⟩
  have hy' : mi s' n = y := hy.symm
  rw [hy'] at hmn
  have hjy : n.toNat < s'.ms.length := hmn.2.1
  have hyp : mindAt r.w n = y.1 := by rw [← hw', ← mi_mind, mi, hy]
  have hkw := ww_known hWW hrn
  rw [← hmn.1] at hkw
  have hcom := hmn.2.2.commit
  have hry : ∀ h, (∃ bs, Sat h (Z' ++ Z) bs) → RRd h y.1 y.2 := fun h hs => by have := hI1.rd hp hrn hs; rw [hy'] at this; exact this
  have hlr : ∀ i, y.1.base < i → i ≤ y.1.commit → ∃ e, entI y.1 i = some e ∧ Kn (G (k + 1)) i e y.1.term := fun i h1 h2 => by
    rw [hmn.1] at h1 h2 ⊢
    exact ww_learn hWW hrn h1 h2
  repeat refine y_ ?_
  refine g_ownN (a := s'.ma) z_3 (fun _ _ hma => ?_)
  have hmas : ∃ ad, s'.ma = some ad := hma (by omega)
  have hfit := bi_lfit hmn.2.2 hK1.2 y.2
  repeat refine y_ ?_
  refine g_region ?_
  refine m_ ?_
  refine f_ (s_not rfl) ?_
  refine m_ ?_
  (first|refine u_ ?_|(refine v_ ?_; refine m_ ?_))
  (first|refine u_ ?_|(refine v_ ?_; refine f_ ((s_lss rfl rfl).eq (v' := .bool false) (congrArg Value.bool (decide_eq_false (by omega)))) ?_))
  refine f_ z_8 ?_
  refine m_ ?_
  (first|refine u_ ?_|(refine v_ ?_; refine m_ ?_))
  (first|refine u_ ?_|(refine v_ ?_; refine f_ ((s_geq rfl rfl).eq (v' := .bool false) (congrArg Value.bool (decide_eq_false (by omega)))) ?_))
  refine f_ z_8 ?_
  refine m_ ?_
  (first|refine u_ ?_|(refine v_ ?_; refine m_ ?_))
  (first|refine u_ ?_|(refine v_ ?_; refine f_ z_1 ?_))
  (first|refine u_ ?_|(refine v_ ?_; refine r_ (by first | exact s_load_blk rfl z_3 a2_0 | exact s_load1 rfl (fun w hw => peekB hw (by assumption) a2_0)) ?_))
  (first|refine u_ ?_|(refine v_ ?_; refine m_ ?_))
  (first|refine u_ ?_|(refine v_ ?_; refine f_ (s_indexAddr rfl hmas rfl (by omega)) ?_))
  (first|refine u_ ?_|(refine v_ ?_; refine r_ ((s_loadN (cs := miC y) rfl (fun w hw => rdMiX_own (a := s'.ma) hw z_3 (i := n.toNat) (by first | omega | (simp only; omega)) hjy hy) rfl).eq (v' := rsV y.1 y.2) rfl) ?_))
  (first|refine u_ ?_|(refine v_ ?_; refine gl_call (wB g3 s' :: OwnMi s'.ma s'.ms s'.mc :: .blk g1 (.cells (plC p).toArray 25) :: (Z' ++ Z)) rfl (learn_ct hT g30 y (m, es, clock) hL1 hfit ⟨hkw.1, hkw.2.1, by omega⟩ hlr) (fun w hw => hw.perm (perm_up z_3 (.refl _))) (fun h hh hs => (hry h (sat_tail (sat_tail (sat_tail hs)))).rl) rfl ?_; rintro v A ⟨rfl, ⟨m1, es1, cs1⟩, hk1, rfl⟩))
  (first|refine u_ ?_|(refine v_ ?_; refine f_ (s_not rfl) ?_))
  refine f_ z_8 ?_
  refine gl_nil ?_
  repeat refine y_ ?_
  refine g_region ?_
  refine f_ z_1 ?_
  refine r_ (by first | exact s_load_blk rfl z_3 a2_0 | exact s_load1 rfl (fun w hw => peekB hw (by assumption) a2_0)) ?_
  refine m_ ?_
  refine f_ (s_indexAddr rfl hmas rfl (by omega)) ?_
  refine r_ ((s_loadN (cs := miC y) rfl (fun w hw => rdMiX_own (a := s'.ma) hw z_3 (i := n.toNat) (by first | omega | (simp only; omega)) hjy hy) rfl).eq (v' := rsV y.1 y.2) rfl) ?_
  refine gl_allocA rfl ?_; intro g10
  (first | refine gl_store_blkW rfl rfl z_6 z_10 z_10 z_2 ?_ | refine gl_store_blk rfl rfl z_6 z_10 z_2 z_10 ?_)
  refine gl_nil ?_
  repeat refine y_ ?_
  obtain ⟨gr', hgr'⟩ : ∃ x, x = max gr y.1.commit := ⟨_, rfl⟩
  have hg0' : 0 ≤ gr' := by omega
  have hg1' : gr' ≤ 80000 := by omega
  repeat refine y_ ?_
  refine g_region ?_
  refine m_ ?_
  refine f_ z_1 ?_
  refine r_ (by first | exact s_load_blk rfl z_3 a18_10 | exact s_load1 rfl (fun w hw => peekB hw (by assumption) a18_10)) ?_
  refine f_ ((s_max2 rfl rfl).eq (v' := .int .u64 gr') (by rw [hgr'])) ?_
  refine f_ (s_assign rfl) ?_
  refine gl_nil ?_
  repeat refine y_ ?_
  obtain ⟨q5, hq5⟩ : ∃ q, q = decide (y.1.role = 2) := ⟨_, rfl⟩
  repeat refine y_ ?_
  refine g_region ?_
  refine f_ z_1 ?_
  refine r_ (by first | exact s_load_blk rfl z_3 a18_3 | exact s_load1 rfl (fun w hw => peekB hw (by assumption) a18_3)) ?_
  refine f_ ((s_neq rfl rfl).eq (v' := .bool (!q5)) (by rw [hq5])) ?_
  refine gl_nil ?_
  repeat refine y_ ?_
  cases q5
  · repeat refine y_ ?_
    repeat refine y_ ?_
    refine g_region ?_
    refine m_ ?_
    refine f_ ((s_add_i64 rfl rfl (by omega)).eq (v' := .int .i64 ((k + 1 : Nat) : Int)) rfl) ?_
    refine f_ (s_assign rfl) ?_
    refine gl_nil ?_
    repeat refine y_ ?_
    refine at_next (k + 1, s', Z' ++ Z, (m1, es1, cs1), gr') ⟨hI1, hk1, hg0', hg1'⟩ (by show p.acts.length - (k + 1) < p.acts.length - k; omega) ?_ ?_
    · (repeat (first | exact Sub.nil _ | refine Sub.cons rfl ?_))
    · intro w hw; exact Hp.drop (x := .blk g10 (.cells (miC y).toArray 49)) (hw.perm (perm_up z_3 (perm_up z_3 (perm_up z_3 (perm_up z_3 (perm_up z_3 (.refl _)))))))
  have hrole : (mindAt (wAt p.p (k + 1)) n).role = 2 := by rw [← hmn.1]; exact of_decide_eq_true hq5.symm
  have hlast : lastI y.1.g ≤ 80000 := by
    have := (bi_last hmn.2.2).2
    omega
  repeat refine y_ ?_
  refine g_region ?_
  refine f_ z_1 ?_
  refine f_ z_1 ?_
  refine r_ (by first | exact s_load_blk rfl z_3 a18_5 | exact s_load1 rfl (fun w hw => peekB hw (by assumption) a18_5)) ?_
  refine f_ (s_add_u64 rfl rfl (by omega)) ?_
  refine f_ (s_assign rfl) ?_
  refine gl_nil ?_
  repeat refine y_ ?_
  refine g_loop (ι := Int) (fun i => y.1.base < i) (fun i => [(1, Ptr g1), (3, Ptr g3), (5, .map (some g30)), (6, .int .u64 gr'), (7, .int .i64 (k : Nat)), (10, Ptr g10), (11, .int .u64 i)]) (fun _ => .blk g10 (.cells (miC y).toArray 49) :: wB g3 s' :: OwnMi s'.ma s'.ms s'.mc :: .blk g30 (.map es1 cs1) :: .blk g1 (.cells (plC p).toArray 25) :: (Z' ++ Z)) (fun i => (gr' + 1 - i).toNat) (y.1.base + 1) (by show y.1.base < y.1.base + 1; omega) ?_ ?_ ?_
  · (repeat (first | exact Sub.nil _ | refine Sub.cons rfl ?_))
  · intro w hw; exact hw.perm (perm_up z_3 (perm_up z_3 (perm_up z_3 (perm_up z_3 (perm_up z_3 (.refl _))))))
  intro i hi
  repeat refine y_ ?_
  refine g_region ?_
  refine m_ ?_
  refine m_ ?_
  refine f_ (s_leq rfl rfl) ?_
  refine gl_nil ?_
  repeat refine y_ ?_
  refine g_cond rfl (fun h => ?_) (fun h => ?_)
  rotate_left
  · repeat refine y_ ?_
    repeat refine y_ ?_
    refine g_region ?_
    refine m_ ?_
    refine f_ ((s_add_i64 rfl rfl (by omega)).eq (v' := .int .i64 ((k + 1 : Nat) : Int)) rfl) ?_
    refine f_ (s_assign rfl) ?_
    refine gl_nil ?_
    repeat refine y_ ?_
    refine at_next (k + 1, s', Z' ++ Z, (m1, es1, cs1), gr') ⟨hI1, hk1, hg0', hg1'⟩ (by show p.acts.length - (k + 1) < p.acts.length - k; omega) ?_ ?_
    · (repeat (first | exact Sub.nil _ | refine Sub.cons rfl ?_))
    · intro w hw; exact hw.drop
  have hig : i ≤ gr' := of_decide_eq_true h
  have hkb := hkw.1
  repeat refine y_ ?_
  rcases hk1.look i with ⟨e2, t2, ho, hk2⟩ | ⟨ho, hput⟩
  rotate_left
  · repeat refine y_ ?_
    refine g_region ?_
    refine m_ ?_
    refine m_ ?_
    refine r_ ((s_look (key := .int .u64 i) (o := none) (zv := knV E0 0) (c := true) rfl rfl z_3 hk1.ok rfl ho).eq (v' := .tuple #[knV E0 0, .bool false]) rfl) ?_
    refine m_ ?_
    refine f_ (s_extract rfl rfl) ?_
    refine f_ (s_extract rfl rfl) ?_
    refine gl_allocA rfl ?_; intro g12
    (first | refine gl_store_blkW rfl rfl z_6 z_10 z_10 z_2 ?_ | refine gl_store_blk rfl rfl z_6 z_10 z_2 z_10 ?_)
    refine f_ (s_assign rfl) ?_
    refine gl_nil ?_
    repeat refine y_ ?_
    refine g_region ?_
    refine m_ ?_
    refine f_ (s_not rfl) ?_
    refine m_ ?_
    (first|refine u_ ?_|(refine v_ ?_; refine f_ z_1 ?_))
    (first|refine u_ ?_|(refine v_ ?_; refine r_ (by first | exact s_load_blk rfl z_3 a4_3 | exact s_load1 rfl (fun w hw => peekB hw (by assumption) a4_3)) ?_))
    (first|refine u_ ?_|(refine v_ ?_; refine f_ z_1 ?_))
    (first|refine u_ ?_|(refine v_ ?_; refine r_ (by first | exact s_load_blk rfl z_3 a18_1 | exact s_load1 rfl (fun w hw => peekB hw (by assumption) a18_1)) ?_))
    (first|refine u_ ?_|(refine v_ ?_; refine f_ (s_geq rfl rfl) ?_))
    refine f_ z_8 ?_
    refine gl_nil ?_
    repeat refine y_ ?_
    refine g_region ?_
    refine m_ ?_
    refine f_ (s_add_u64 rfl rfl (by omega)) ?_
    refine f_ (s_assign rfl) ?_
    refine gl_nil ?_
    repeat refine y_ ?_
    refine at_next (i + 1) (by show y.1.base < i + 1; omega) (by show (gr' + 1 - (i + 1)).toNat < (gr' + 1 - i).toNat; omega) ?_ ?_
    · (repeat (first | exact Sub.nil _ | refine Sub.cons rfl ?_))
    · intro w hw; exact hw.drop
  obtain ⟨q6, hq6⟩ : ∃ q, q = decide (y.1.term ≤ t2) := ⟨_, rfl⟩
  repeat refine y_ ?_
  refine g_region ?_
  refine m_ ?_
  refine m_ ?_
  refine r_ ((s_look (key := .int .u64 i) (o := some (knV e2 t2)) (zv := knV E0 0) (c := true) rfl rfl z_3 hk1.ok rfl ho).eq (v' := .tuple #[knV e2 t2, .bool true]) rfl) ?_
  refine m_ ?_
  refine f_ (s_extract rfl rfl) ?_
  refine f_ (s_extract rfl rfl) ?_
  refine gl_allocA rfl ?_; intro g12
  (first | refine gl_store_blkW rfl rfl z_6 z_10 z_10 z_2 ?_ | refine gl_store_blk rfl rfl z_6 z_10 z_2 z_10 ?_)
  refine f_ (s_assign rfl) ?_
  refine gl_nil ?_
  repeat refine y_ ?_
  refine g_region ?_
  refine m_ ?_
  refine f_ (s_not rfl) ?_
  refine m_ ?_
  (first|refine u_ ?_|(refine v_ ?_; refine f_ z_1 ?_))
  (first|refine u_ ?_|(refine v_ ?_; refine r_ (by first | exact s_load_blk rfl z_3 a4_3 | exact s_load1 rfl (fun w hw => peekB hw (by assumption) a4_3)) ?_))
  (first|refine u_ ?_|(refine v_ ?_; refine f_ z_1 ?_))
  (first|refine u_ ?_|(refine v_ ?_; refine r_ (by first | exact s_load_blk rfl z_3 a18_1 | exact s_load1 rfl (fun w hw => peekB hw (by assumption) a18_1)) ?_))
  (first|refine u_ ?_|(refine v_ ?_; refine f_ ((s_geq rfl rfl).eq (congrArg Value.bool hq6.symm)) ?_))
  refine f_ z_8 ?_
  refine gl_nil ?_
  repeat refine y_ ?_
  cases q6
  rotate_left
  · repeat refine y_ ?_
    repeat refine y_ ?_
    refine g_region ?_
    refine m_ ?_
    refine f_ (s_add_u64 rfl rfl (by omega)) ?_
    refine f_ (s_assign rfl) ?_
    refine gl_nil ?_
    repeat refine y_ ?_
    refine at_next (i + 1) (by show y.1.base < i + 1; omega) (by show (gr' + 1 - (i + 1)).toNat < (gr' + 1 - i).toNat; omega) ?_ ?_
    · (repeat (first | exact Sub.nil _ | refine Sub.cons rfl ?_))
    · intro w hw; exact hw.drop
  have ht2 : t2 < y.1.term := by have := of_decide_eq_false hq6.symm; omega
  have hent : entI y.1 i = some e2 := by
    rw [hmn.1] at ht2 hi ⊢
    exact ww_keeps hWW hrn hrole hk2 ht2 hi
  obtain ⟨ea, eh⟩ := ent_lm (a := y.2) hent
  repeat refine y_ ?_
  refine g_region ?_
  refine f_ z_1 ?_
  refine r_ ((s_load_blkN rfl z_3 z_10).eq (v' := (y.1.lm y.2).v) rfl) ?_
  refine m_ ?_
  refine gl_call _ rfl (Entry0_ct (y.1.lm y.2) i hfit (by omega)) (fun w hw => hw) (fun h hh hs => (hry h (sat_tail (sat_tail (sat_tail (sat_tail (sat_tail (sat_tail hs))))))).rl) rfl ?_; rintro v A ⟨rfl, rfl⟩; rw [ea, eh]
  refine m_ ?_
  refine f_ (s_extract rfl rfl) ?_
  refine f_ (s_extract rfl rfl) ?_
  refine gl_allocA rfl ?_; intro g14
  (first | refine gl_store_blkW rfl rfl z_6 z_10 z_10 z_2 ?_ | refine gl_store_blk rfl rfl z_6 z_10 z_2 z_10 ?_)
  refine f_ (s_assign rfl) ?_
  refine gl_nil ?_
  repeat refine y_ ?_
  refine g_region ?_
  refine m_ ?_
  refine f_ (s_not rfl) ?_
  refine m_ ?_
  (first|refine u_ ?_|(refine v_ ?_; refine r_ ((s_load_blkN rfl z_3 z_10).eq (v' := entV e2) rfl) ?_))
  (first|refine u_ ?_|(refine v_ ?_; refine f_ z_1 ?_))
  (first|refine u_ ?_|(refine v_ ?_; refine r_ ((s_load_blkN rfl z_3 z_10).eq (v' := entV e2) rfl) ?_))
  (first|refine u_ ?_|(refine v_ ?_; refine f_ ((s_neq_struct rfl rfl (by exact EqF.int (by decide) rfl rfl (EqF.int (by decide) rfl rfl (EqF.str (by decide) rfl rfl EqF.nil)))).eq (v' := .bool false) (by rw [ent_eq, decide_eq_true rfl]; rfl)) ?_))
  refine f_ z_8 ?_
  refine gl_nil ?_
  repeat refine y_ ?_
  refine g_region ?_
  refine m_ ?_
  refine f_ (s_add_u64 rfl rfl (by omega)) ?_
  refine f_ (s_assign rfl) ?_
  refine gl_nil ?_
  repeat refine y_ ?_
  refine at_next (i + 1) (by show y.1.base < i + 1; omega) (by show (gr' + 1 - (i + 1)).toNat < (gr' + 1 - i).toNat; omega) ?_ ?_
  · (repeat (first | exact Sub.nil _ | refine Sub.cons rfl ?_))
  · intro w hw; exact hw.drop.drop
end Go.Proofs.YtodcghipfolejaaGreat.Rf
/- From a contract of the walk to a row of the second kind: a law that answers true and turns nothing of what was there. -/

namespace Go.Sl
open Go Go.RowKit Go.WideShapes Go.ChangeShapes Go.ChangeMaps
set_option linter.unusedVariables false
set_option linter.unusedSimpArgs false

theorem Hp.below {W w' : World} {A : List As} (h : Hp (snap W) w' A) : Below W.heap.size W w' := by
  have hk : ∀ k, k < W.heap.size → w'.heap[k]? = W.heap[k]? := fun k hk => by
    have e : W.heap[k]? = some W.heap[k] := Array.getElem?_eq_getElem hk
    rw [e]
    exact h.keep k _ (by show hpBut W [] k = _; rw [hpBut_nil]; exact e)
  refine ⟨h.os, h.tape, h.output, ?_, hk⟩
  rcases Nat.lt_or_ge w'.heap.size W.heap.size with hlt | hge
  · have h1 := hk w'.heap.size hlt
    rw [Array.getElem?_eq_getElem hlt] at h1
    simp at h1
  · exact hge

section
variable {H : Type} {enc : TypeId × Value → H} {P : Program}
theorem law_post {f : Func} {s : ChangeSpec} {apart fresh handsOn again : Bool} {W W' : World} {args : Array Value} {v : Value} {ds gs : List (DataW H)} {before pa pv : List MemPlace}
    (hW : DataW.Whole enc P f.params.toList s.vars apart W args.toList ds gs before)
    (hres : ∀ (b : Nat) (sp : Nat → Bool) (hd : Bool), DataW.TrodAll enc P W' b sp hd f.resultTypes.toList (v.resultList f.resultTypes.size) (s.fn H (ds ++ gs)).results [])
    (hargs : ∀ sp : Nat → Bool, (∀ p ∈ before, sp p.block = true) → DataW.TrodAll enc P W' 0 sp true f.params.toList args.toList (s.fn H (ds ++ gs)).args pa)
    (hvars : ∀ sp : Nat → Bool, (∀ p ∈ before, sp p.block = true) → DataW.TrodVars enc P W' sp s.vars (s.fn H (ds ++ gs)).vars pv)
    (hps : before = pa ++ pv) (hb : Below W.heap.size W W')
    (hok : ∀ (j : Nat) (t : TypeId) (r : Value), f.resultTypes[j]? = some t → (v.resultList f.resultTypes.size)[j]? = some r → Value.okWide P W' .any 0 t r) :
    s.post enc P f apart fresh handsOn again W args v W' := by
  have hlt : ∀ p ∈ before, p.block < W.heap.size := fun p hp => hW.lt p hp
  have hold : ∀ p ∈ before, (fun b => decide (b < W.heap.size)) p.block = true := fun p hp => by simpa using hlt p hp
  refine ⟨ds, gs, before, [], pa, pv, hW, hres _ _ _, hargs _ hold, hvars _ hold, World.keptBut_mono (fun p hp => ⟨hp, ?_⟩) (hb.frame (· ∈ before)), fun _ => ?_⟩
  · rw [hps, List.mem_append] at hp
    exact Or.inr hp
  · obtain ⟨_, _, _, _, _, hz, hn⟩ := hW
    refine ⟨hok, _, _, ([] ++ pa) ++ pv, ⟨[] ++ pa, pv, trodAll_append (hargs _ (fun _ _ => rfl)) (hres _ _ _), hvars _ (fun _ _ => rfl), rfl, ?_, ?_⟩, ?_⟩
    · intro b off hp
      have hin : MemPlace.cell b off ∈ before := by rw [hps]; simpa using hp
      rw [hb.frozen (hlt _ hin)]
      exact hz b off hin
    · intro ha
      have := hn ha
      rw [hps] at this
      simpa using this
    · intro p hp _
      rw [hps]
      simpa using hp

theorem trodAll_below (hl : laidOutB P = true) {W W' : World} (hb : Below W.heap.size W W') (sp : Nat → Bool) : ∀ {ts : List TypeId} {vs : List Value} {ds : List (DataW H)} {ps : List MemPlace},
    (ts.all fun t => P.readableRec t && decide (t < P.types.size)) = true → DataW.TrodAll enc P W 0 (fun _ => true) true ts vs ds ps → (∀ p ∈ ps, p.block < W.heap.size) → (∀ p ∈ ps, sp p.block = true) →
      DataW.TrodAll enc P W' 0 sp true ts vs ds ps
  | [], vs, ds, ps, _, h, _, _ => by
    obtain ⟨rfl, rfl, rfl⟩ := trodAll_nil h
    rfl
  | t :: ts, vs, ds, ps, hr, h, hlt, hs => by
    obtain ⟨v, vs', d, ds', p, q, rfl, rfl, rfl, h1, h2⟩ := trodAll_cons h
    simp only [List.all_cons, Bool.and_eq_true, decide_eq_true_eq] at hr
    refine ⟨p, q, WideElems.Trod_stays hl hr.1.1 hr.1.2 h1 (fun x hx => hb.same (hlt x (List.mem_append.2 (.inl hx)))) (fun x hx => hs x (List.mem_append.2 (.inl hx))), ?_, rfl⟩
    exact trodAll_below hl hb sp (by simpa using hr.2) h2 (fun x hx => hlt x (List.mem_append.2 (.inr hx))) (fun x hx => hs x (List.mem_append.2 (.inr hx)))

/-- THE STEP FROM A CONTRACT TO THE ROW -/
theorem law_true {f : FuncId} {fn : Func} {s : ChangeSpec} {fresh handsOn again : Bool} {W : World} {vs : List Value} {ds gs : List (DataW H)} {before : List MemPlace} {Pre : Heap → Prop} {t : TypeId}
    (hc : Pu P f vs Pre (.bool true)) (hpre : Pre (hp W)) (hvs : s.vars = [])
    (hW : DataW.Whole enc P fn.params.toList s.vars false W vs ds gs before) (hres : fn.resultTypes = #[t]) (ht : P.underlying t = some .bool)
    (hl : laidOutB P = true) (hr : (fn.params.toList.all fun t => P.readableRec t && decide (t < P.types.size)) = true)
    (hs : s.fn H (ds ++ gs) = { results := [.lit (.bool true)], args := ds }) :
    Calls P f vs.toArray W fun e W' => ∃ v, e = .returned v ∧ s.post enc P fn false fresh handsOn again W vs.toArray v W' := by
  refine (hc W [] rfl List.nodup_nil (by rw [hpBut_nil]; exact hpre)).mono ?_
  rintro e W' ⟨v, A, rfl, ⟨rfl, rfl⟩, hh⟩
  refine ⟨_, rfl, ?_⟩
  have hW' := hW
  have hlt := fun p hp => hW'.lt p hp
  obtain ⟨p, q, hA, hV, hpq, hfz, hnd⟩ := hW
  rw [hvs] at hV
  obtain ⟨rfl, rfl⟩ := trodVars_none hV
  have hb := Hp.below hh
  refine law_post (pa := p) (pv := []) (args := vs.toArray) (by simpa using hW') (fun b sp hd => ?_) (fun sp hsp => ?_) (fun sp hsp => ?_) hpq hb ?_
  · rw [hs, hres]
    exact trodAll_cons_mk (shut_bool ht true) trodAll_mk0
  · rw [hs]
    refine trodAll_below hl hb sp hr hA (fun x hx => hlt x ?_) (fun x hx => hsp x ?_) <;> (rw [hpq]; simpa using hx)
  · rw [hs, hvs]; rfl
  · exact ok_one hres rfl (okWide_bool_mk ht true)

/-! ### arguments opened -/
end
end Go.Sl
namespace Go.Sl
open Go Go.RowKit Go.WideShapes Go.ChangeShapes Go.ChangeMaps
set_option linter.unusedVariables false
set_option linter.unusedSimpArgs false

mutual
def bulkOf {H : Type} : DataW H → Nat
  | .lit (.string bytes) => bytes.length + 1
  | .lit _ => 1
  | .nil => 1
  | .ptr d => bulkOf d + 1
  | .slice elems spare => bulkAll elems + bulkAll spare + 1
  | .agg parts => bulkAll parts + 1
  | .iface _ d => bulkOf d + 1
  | .map entries => bulkEntries entries + 1
  | .held _ => 1
def bulkAll {H : Type} : List (DataW H) → Nat
  | [] => 0
  | d :: r => bulkOf d + bulkAll r
def bulkEntries {H : Type} : List (Lit × DataW H) → Nat
  | [] => 0
  | x :: r => bulkEntry x + bulkEntries r
def bulkEntry {H : Type} : Lit × DataW H → Nat
  | (.string bytes, d) => bytes.length + bulkOf d + 1
  | (_, d) => bulkOf d + 1
end
theorem bulkAll_sum {H : Type} (l : List (DataW H)) : bulkAll l = (l.map bulkOf).sum := by
  induction l with
  | nil => rfl
  | cons d r ih => simp only [bulkAll, List.map_cons, List.sum_cons, ih]

/-- every reading of a type is one of these -/
structure Shp (P : Program) (t : TypeId) {α : Type} (cells : α → List Value) (ok : Heap → α → Prop) (bulk : α → Nat) : Prop where
  h : ∀ {H : Type} (enc : TypeId × Value → H) (w : World) (base : Nat) (sp : Nat → Bool) (held : Bool) (fuel : Nat) (cs : List Value) (x : DataW H × List MemPlace), DataW.trod enc P w base sp held fuel t cs = some x → ∃ y, cs = cells y ∧ ok (hp w) y ∧ bulk y ≤ bulkOf x.1

section
variable {P : Program} {t e : TypeId} {k : IntKind}
theorem shp_int (ht : P.underlying t = some (.int k)) : Shp P t (fun n : Int => [.int k n]) (fun _ n => (Lit.int k n).wf = true) (fun _ => 1) := ⟨fun enc w base sp held fuel cs x h => by
  obtain ⟨n, rfl, rfl, hw⟩ := DataW.trod_int ht h
  exact ⟨n, rfl, hw, Nat.le_refl _⟩⟩
theorem shp_bool (ht : P.underlying t = some .bool) : Shp P t (fun b : Bool => [.bool b]) (fun _ _ => True) (fun _ => 1) := ⟨fun enc w base sp held fuel cs x h => by
  obtain ⟨n, rfl, rfl⟩ := DataW.trod_bool ht h
  exact ⟨n, rfl, trivial, Nat.le_refl _⟩⟩
theorem shp_string (ht : P.underlying t = some .string) : Shp P t (fun l : List UInt8 => [B l]) (fun _ l => l.length ≤ maxLen) (fun l => l.length + 1) := ⟨fun enc w base sp held fuel cs x h => by
  obtain ⟨s, rfl, rfl, hs⟩ := DataW.trod_string ht h
  exact ⟨s.data.toList, rfl, by rw [Array.length_toList]; exact hs, by simp [bulkOf]⟩⟩

/-- what a reading of a slice says -/
structure SlOk {α : Type} (cells : α → List Value) (ok : Heap → α → Prop) (h : Heap) (a : Option Addr) (ls : List α) (c : Nat) : Prop where
  le : ls.length ≤ c
  max : c ≤ maxLen
  rd : RdS h a (ls.flatMap cells)
  each : ∀ y ∈ ls, ok h y
theorem flat_get {α : Type} {cells : α → List Value} {n : Nat} (hn : ∀ y, (cells y).length = n) (hpos : 0 < n) : ∀ (ls : List α) (j : Nat) (u : Value), (ls.flatMap cells)[j]? = some u → ∃ y, ls[j / n]? = some y ∧ (cells y)[j % n]? = some u
  | [], j, u, h => by simp at h
  | x :: r, j, u, h => by
    rw [List.flatMap_cons] at h
    by_cases hj : j < n
    · rw [List.getElem?_append_left (by rw [hn]; exact hj)] at h
      refine ⟨x, ?_, ?_⟩
      · rw [Nat.div_eq_of_lt hj]; rfl
      · rw [Nat.mod_eq_of_lt hj]; exact h
    · rw [List.getElem?_append_right (by rw [hn]; omega), hn] at h
      obtain ⟨y, h1, h2⟩ := flat_get hn hpos r (j - n) u h
      refine ⟨y, ?_, ?_⟩
      · have : j / n = (j - n) / n + 1 := by
          conv => lhs; rw [show j = (j - n) + n by omega]
          rw [Nat.add_div_right _ hpos]
        rw [this]; simpa using h1
      · rw [Nat.mod_eq_sub_mod (by omega)]; exact h2
theorem slice_open {α : Type} {cells : α → List Value} {ok : Heap → α → Prop} {bulk : α → Nat} (ht : P.underlying t = some (.slice e)) (S : Shp P e cells ok bulk) {n : Nat} (hc : P.cellsOf e = n) (hn : ∀ y, (cells y).length = n) (hpos : 0 < n)
    {H : Type} {enc : TypeId × Value → H} {w : World} {base : Nat} {sp : Nat → Bool} {held : Bool} {fuel : Nat} {cs : List Value} {x : DataW H × List MemPlace} (h : DataW.trod enc P w base sp held fuel t cs = some x) :
    ∃ (a : Option Addr) (ls : List α) (c : Nat), cs = [.slice a ls.length c] ∧ SlOk cells ok (hp w) a ls c ∧ ((x.1 = .nil ∧ ls = []) ∨ ∃ elems spare, x.1 = .slice elems spare ∧ elems.length = ls.length) ∧ (ls.map bulk).sum + 1 ≤ bulkOf x.1 := by
  rcases DataW.trod_slice ht h with ⟨rfl, rfl⟩ | ⟨a, len, cap, elems, rest, m, _, rfl, rfl, hb, hl, hm, hlen, hel, _, _⟩
  · exact ⟨none, [], 0, rfl, ⟨Nat.le_refl _, Nat.zero_le _, RdS.nil _ _, by simp⟩, .inl ⟨rfl, rfl⟩, by simp [bulkOf]⟩
  · have key : ∀ (k : Nat), k ≤ len → ∃ ls : List α, ls.length = k ∧ (∀ i y, ls[i]? = some y → w.cells? base (a.add (i * n)) n = some (cells y) ∧ ok (hp w) y) ∧ (ls.map bulk).sum ≤ ((elems.take k).map (fun x => bulkOf x.1)).sum := by
      intro k
      induction k with
      | zero => intro _; exact ⟨[], rfl, by simp, by simp⟩
      | succ k ih =>
        intro hk
        obtain ⟨ls, h1, h2, h3⟩ := ih (by omega)
        have h4 := hel k (by omega)
        have hk' : k < elems.length := by omega
        rw [List.getElem?_eq_getElem hk', hc, Option.bind_eq_some_iff] at h4
        obtain ⟨cs, h5, h6⟩ := h4
        obtain ⟨y, rfl, h7, h8⟩ := S.h enc w base sp held m cs _ h6
        refine ⟨ls ++ [y], by simp [h1], fun i z hz => ?_, ?_⟩
        · by_cases hi : i < k
          · rw [List.getElem?_append_left (by omega)] at hz; exact h2 i z hz
          · rw [List.getElem?_append_right (by omega)] at hz
            have hi0 : i = k := by
              have := (List.getElem?_eq_some_iff.1 hz).1
              simp at this; omega
            subst hi0
            simp [h1] at hz; subst hz
            exact ⟨h5, h7⟩
        · rw [List.take_succ_eq_append_getElem hk']
          simp only [List.map_append, List.map_cons, List.map_nil, List.sum_append, List.sum_cons, List.sum_nil]
          omega
    obtain ⟨ls, h1, h2, h3⟩ := key len (Nat.le_refl _)
    subst h1
    refine ⟨some a, ls, cap, rfl, ⟨hl, hm, fun _ => ⟨a, rfl, fun j u hu => ?_⟩, fun y hy => ?_⟩, .inr ⟨_, _, rfl, by simp [hlen]⟩, ?_⟩
    · obtain ⟨y, h4, h5⟩ := flat_get hn hpos ls j u hu
      obtain ⟨h6, _⟩ := h2 _ _ h4
      have h7 := (World.cells?_some h6).2.2 (j % n) (Nat.mod_lt _ hpos)
      rw [cell?_hp]
      rw [h5, add_add] at h7
      have : j / n * n + j % n = j := by rw [Nat.mul_comm]; exact Nat.div_add_mod j n
      rw [this] at h7; exact h7
    · obtain ⟨i, hi⟩ := List.getElem?_of_mem hy
      exact (h2 i y hi).2
    · simp only [bulkOf, bulkAll_sum, List.map_map]
      rw [List.take_of_length_le (by omega)] at h3
      simp only [Function.comp_def]
      omega
theorem shp_slice {α : Type} {cells : α → List Value} {ok : Heap → α → Prop} {bulk : α → Nat} (ht : P.underlying t = some (.slice e)) (S : Shp P e cells ok bulk) {n : Nat} (hc : P.cellsOf e = n) (hn : ∀ y, (cells y).length = n) (hpos : 0 < n) :
    Shp P t (fun y : Option Addr × List α × Nat => [.slice y.1 y.2.1.length y.2.2]) (fun h y => SlOk cells ok h y.1 y.2.1 y.2.2) (fun y => (y.2.1.map bulk).sum + 1) := ⟨fun enc w base sp held fuel cs x h => by
  obtain ⟨a, ls, c, h1, h2, _, h3⟩ := slice_open ht S hc hn hpos h
  exact ⟨(a, ls, c), h1, h2, h3⟩⟩

/-- the fields of a struct, one behind the other -/
structure ShpF (P : Program) (fs : List Field) (off tot : Nat) {α : Type} (cells : α → List Value) (ok : Heap → α → Prop) (bulk : α → Nat) : Prop where
  h : ∀ {H : Type} (enc : TypeId × Value → H) (w : World) (base : Nat) (sp : Nat → Bool) (held : Bool) (n : Nat) (cs : List Value) (xs : List (DataW H × List MemPlace)), xs.length = fs.length → cs.length = tot →
    (∀ (i : Nat) (f : Field), fs[i]? = some f → DataW.trod enc P w base sp held n f.type ((cs.drop f.offset).take (P.cellsOf f.type)) = xs[i]?) → ∃ y, cs.drop off = cells y ∧ ok (hp w) y ∧ bulk y ≤ (xs.map fun x => bulkOf x.1).sum
theorem shpF_nil {tot : Nat} : ShpF P [] tot tot (fun _ : Unit => []) (fun _ _ => True) (fun _ => 0) := ⟨fun enc w base sp held n cs xs _ hl _ =>
  ⟨(), by rw [List.drop_of_length_le (by omega)], trivial, Nat.zero_le _⟩⟩
theorem shpF_cons {f : Field} {fs : List Field} {off off' tot k : Nat} {α β : Type} {c1 : α → List Value} {ok1 : Heap → α → Prop} {b1 : α → Nat} {c2 : β → List Value} {ok2 : Heap → β → Prop} {b2 : β → Nat}
    (S : Shp P f.type c1 ok1 b1) (ho : f.offset = off) (hk : P.cellsOf f.type = k) (ho2 : off' = off + k) (R : ShpF P fs off' tot c2 ok2 b2) :
    ShpF P (f :: fs) off tot (fun y : α × β => c1 y.1 ++ c2 y.2) (fun h y => ok1 h y.1 ∧ ok2 h y.2) (fun y => b1 y.1 + b2 y.2) := ⟨fun enc w base sp held n cs xs hl hcs hall => by
  cases xs with
  | nil => simp at hl
  | cons x xs =>
    have h0 := hall 0 f rfl
    rw [ho, hk] at h0
    obtain ⟨y, h1, h2, h3⟩ := S.h enc w base sp held n _ _ h0
    obtain ⟨z, h4, h5, h6⟩ := R.h enc w base sp held n cs xs (by simpa using hl) hcs (fun i g hg => by have := hall (i + 1) g (by simpa using hg); simpa using this)
    refine ⟨(y, z), ?_, ⟨h2, h5⟩, ?_⟩
    · simp only
      rw [← h1, ← h4, ho2, ← List.drop_drop, List.take_append_drop]
    · simp only [List.map_cons, List.sum_cons]; omega⟩
theorem shp_struct {fs : Array Field} {tot : Nat} {α : Type} {cells : α → List Value} {ok : Heap → α → Prop} {bulk : α → Nat} (ht : P.underlying t = some (.struct fs)) (hc : P.cellsOf t = tot) (R : ShpF P fs.toList 0 tot cells ok bulk) : Shp P t cells ok bulk := ⟨fun enc w base sp held fuel cs x h => by
  obtain ⟨xs, n, _, rfl, h1, h2, h3⟩ := DataW.trod_struct ht h
  obtain ⟨y, h4, h5, h6⟩ := R.h enc w base sp held n cs xs (by simpa using h2) (by rw [h1, hc]) (fun i f hf => h3 i f (by simpa using hf))
  refine ⟨y, by simpa using h4, h5, ?_⟩
  simp only [bulkOf, bulkAll_sum, List.map_map, Function.comp_def]
  omega⟩
/-- the same, in other words -/
theorem Shp.map {α β : Type} {c1 : α → List Value} {ok1 : Heap → α → Prop} {b1 : α → Nat} {c2 : β → List Value} {ok2 : Heap → β → Prop} {b2 : β → Nat} (S : Shp P t c1 ok1 b1) (f : α → β) (hc : ∀ y, c1 y = c2 (f y)) (ho : ∀ h y, ok1 h y → ok2 h (f y)) (hb : ∀ y, b2 (f y) ≤ b1 y) : Shp P t c2 ok2 b2 := ⟨fun enc w base sp held fuel cs x h => by
  obtain ⟨y, h1, h2, h3⟩ := S.h enc w base sp held fuel cs x h
  exact ⟨f y, by rw [h1, hc], ho _ _ h2, Nat.le_trans (hb y) h3⟩⟩

variable {H : Type} {enc : TypeId × Value → H} {w : World} {r : Reach} {b0 base : Nat} {sp : Nat → Bool} {held : Bool} {v : Value} {d : DataW H} {ps : List MemPlace}
theorem arg_struct {fs : Array Field} {α : Type} {cells : α → List Value} {ok : Heap → α → Prop} {bulk : α → Nat} (ht : P.underlying t = some (.struct fs)) (S : Shp P t cells ok bulk)
    (hval : Value.okWide P w r b0 t v) (hd : DataW.Trod enc P w base sp held t v d ps) :
    ∃ y : α, v = .agg (cells y).toArray ∧ ok (hp w) y ∧ bulk y ≤ bulkOf d := by
  obtain ⟨cs, rfl, _⟩ := okWide_struct ht hval
  obtain ⟨fuel, hf⟩ := hd
  obtain ⟨y, h1, h2, h3⟩ := S.h enc w base sp held fuel _ _ hf
  refine ⟨y, ?_, h2, h3⟩
  rw [← h1]; simp [Value.cells]
end
theorem flat_ints (l : List Int) : (l.flatMap fun n => [Value.int .i64 n]) = intsV l := by
  induction l with
  | nil => rfl
  | cons x r ih => rw [List.flatMap_cons, ih]; rfl
/-- every reading of a type, of bearable weight, is one of these -/
structure ShpW (P : Program) (t : TypeId) {α : Type} (cells : α → List Value) (ok : Heap → α → Prop) : Prop where
  h : ∀ {H : Type} (enc : TypeId × Value → H) (w : World) (base : Nat) (sp : Nat → Bool) (held : Bool) (fuel : Nat) (cs : List Value) (x : DataW H × List MemPlace), DataW.trod enc P w base sp held fuel t cs = some x → (x.1.weights P t).all (· ≤ reachBytes) = true → ∃ y, cs = cells y ∧ ok (hp w) y

section
variable {P : Program} {t e : TypeId} {k : IntKind}
theorem Shp.w {α : Type} {cells : α → List Value} {ok : Heap → α → Prop} {bulk : α → Nat} (S : Shp P t cells ok bulk) : ShpW P t cells ok := ⟨fun enc w base sp held fuel cs x h _ => by
  obtain ⟨y, h1, h2, _⟩ := S.h enc w base sp held fuel cs x h
  exact ⟨y, h1, h2⟩⟩
theorem ShpW.map {α β : Type} {c1 : α → List Value} {ok1 : Heap → α → Prop} {c2 : β → List Value} {ok2 : Heap → β → Prop} (S : ShpW P t c1 ok1) (f : α → β) (hc : ∀ y, c1 y = c2 (f y)) (ho : ∀ h y, ok1 h y → ok2 h (f y)) : ShpW P t c2 ok2 := ⟨fun enc w base sp held fuel cs x h hw => by
  obtain ⟨y, h1, h2⟩ := S.h enc w base sp held fuel cs x h hw
  exact ⟨f y, by rw [h1, hc], ho _ _ h2⟩⟩

variable {H : Type} {enc : TypeId × Value → H} {w : World} {r : Reach} {b0 base : Nat} {sp : Nat → Bool} {held : Bool} {v : Value} {d : DataW H} {ps : List MemPlace}
end
section
variable {P : Program} {t e : TypeId} {k : IntKind} {n : Nat}
def intOf : Value → Int
  | .int _ z => z
  | _ => 0
/-- an array of numbers -/
theorem shp_ints (ht : P.underlying t = some (.array n e)) (he : P.underlying e = some (.int k)) (hce : P.cellsOf e = 1) (hct : P.cellsOf t = n) :
    Shp P t (fun l : List Int => l.map (.int k)) (fun _ l => l.length = n ∧ ∀ z ∈ l, (Lit.int k z).wf = true) (fun _ => 0) := ⟨fun enc w base sp held fuel cs x h => by
  obtain ⟨xs, m, _, _, h1, h2, h3⟩ := DataW.trod_array ht h
  rw [hct] at h1
  have key : ∀ i (hi : i < cs.length), ∃ z, cs[i] = .int k z ∧ (Lit.int k z).wf = true := fun i hi => by
    have h4 := h3 i (by omega)
    rw [List.getElem?_eq_getElem (by omega), hce, Nat.mul_one] at h4
    obtain ⟨z, h5, _, h6⟩ := DataW.trod_int he h4
    refine ⟨z, ?_, h6⟩
    have h7 : (cs.drop i).take 1 = [cs[i]] := by rw [List.drop_eq_getElem_cons hi]; rfl
    rw [h7] at h5
    injection h5
  refine ⟨cs.map intOf, ?_, ⟨by simp [h1], fun z hz => ?_⟩, Nat.zero_le _⟩
  · apply List.ext_getElem (by simp)
    intro i hi _
    obtain ⟨z, h5, _⟩ := key i hi
    simp [h5, intOf]
  · obtain ⟨v, hv, rfl⟩ := List.mem_map.1 hz
    obtain ⟨i, hi, rfl⟩ := List.getElem_of_mem hv
    obtain ⟨z, h5, h6⟩ := key i hi
    rw [h5]; exact h6⟩
variable {H : Type} {enc : TypeId × Value → H} {w : World} {r : Reach} {b0 base : Nat} {sp : Nat → Bool} {held : Bool} {v : Value} {d : DataW H} {ps : List MemPlace}
end
end Go.Sl
/- What a log is, as an argument. -/
namespace Go.Proofs.YtodcghipfolejaaGreat
open Go Go.Sl Go.RowKit Go.WideShapes Go.ChangeShapes
set_option linter.unusedVariables false
set_option linter.unusedSimpArgs false

theorem shpEnt : Shp Tryz.prog 51 (fun e : Ent => entC e) (fun _ e => (Lit.int .u64 e.1).wf = true ∧ e.2.2.length ≤ maxLen) (fun e => e.2.2.length + 3) :=
  (shp_struct Tryz.underlying51 z_7 (shpF_cons (k := 1) (off' := 1) (shp_int (k := .u64) z_7) rfl z_7 rfl (shpF_cons (k := 1) (off' := 2) (shp_int (k := .i64) z_7) rfl z_7 rfl (shpF_cons (k := 1) (off' := 3) (shp_string z_7) rfl z_7 rfl shpF_nil)))).map (fun y => (y.1, y.2.1, y.2.2.1)) (fun y => rfl) (fun h y o => ⟨o.1, o.2.2.1⟩) (fun y => by simp only; omega)
end Go.Proofs.YtodcghipfolejaaGreat
/- A play, as an argument. -/
namespace Go.Proofs.YtodcghipfolejaaGreat.Rf
open Go Go.Sl Go.RowKit Go.WideShapes Go.ChangeShapes
set_option linter.unusedVariables false
set_option linter.unusedSimpArgs false

theorem shpMsg : Shp Tryz.prog 38 (fun m : MM => mmC m) (fun h m => MOk h m) (fun _ => 0) :=
  (shp_struct Tryz.underlying38 z_7
    (shpF_cons (k := 1) (off' := 1) (shp_int (k := .i64) z_7) rfl z_7 rfl
    (shpF_cons (k := 1) (off' := 2) (shp_int (k := .i64) z_7) rfl z_7 rfl
    (shpF_cons (k := 1) (off' := 3) (shp_int (k := .i64) z_7) rfl z_7 rfl
    (shpF_cons (k := 1) (off' := 4) (shp_int (k := .u64) z_7) rfl z_7 rfl
    (shpF_cons (k := 1) (off' := 5) (shp_int (k := .u64) z_7) rfl z_7 rfl
    (shpF_cons (k := 1) (off' := 6) (shp_int (k := .u64) z_7) rfl z_7 rfl
    (shpF_cons (k := 1) (off' := 7) (shp_int (k := .u64) z_7) rfl z_7 rfl
    (shpF_cons (k := 1) (off' := 8) (shp_bool z_7) rfl z_7 rfl
    (shpF_cons (k := 1) (off' := 9) (shp_slice (e := 51) z_7 shpEnt (n := 3) z_7 (fun _ => rfl) (by decide)) rfl z_7 rfl
    (shpF_cons (k := 1) (off' := 10) (shp_slice (e := 3) z_7 (shp_int (k := .i64) z_7) (n := 1) z_7 (fun _ => rfl) (by decide)) rfl z_7 rfl
    (shpF_cons (k := 1) (off' := 11) (shp_int (k := .i64) z_7) rfl z_7 rfl
    (shpF_cons (k := 1) (off' := 12) (shp_int (k := .i64) z_7) rfl z_7 rfl
    (shpF_cons (k := 1) (off' := 13) (shp_string z_7) rfl z_7 rfl shpF_nil)))))))))))))).map
    (fun y => (⟨⟨y.1, y.2.1, y.2.2.1, y.2.2.2.1, y.2.2.2.2.1, y.2.2.2.2.2.1, y.2.2.2.2.2.2.1, y.2.2.2.2.2.2.2.1, y.2.2.2.2.2.2.2.2.1.2.1, y.2.2.2.2.2.2.2.2.2.1.2.1, y.2.2.2.2.2.2.2.2.2.2.1, y.2.2.2.2.2.2.2.2.2.2.2.1, y.2.2.2.2.2.2.2.2.2.2.2.2.1⟩,
      y.2.2.2.2.2.2.2.2.1.1, y.2.2.2.2.2.2.2.2.1.2.2, y.2.2.2.2.2.2.2.2.2.1.1, y.2.2.2.2.2.2.2.2.2.1.2.2⟩ : MM)) (fun y => rfl)
    (fun h y o => by
      obtain ⟨_, _, _, _, _, _, _, _, o9, o10, _⟩ := o
      have h7 := o10.rd
      rw [flat_ints] at h7
      exact ⟨o9.rd, h7, o9.le⟩)
    (fun y => Nat.zero_le _)
theorem shpActA : Shp Tryz.prog 40 (fun a : AcM => acC a) (fun h a => MOk h a.m) (fun _ => 0) :=
  (shp_struct Tryz.underlying40 z_7
    (shpF_cons (k := 1) (off' := 1) (shp_int (k := .i64) z_7) rfl z_7 rfl
    (shpF_cons (k := 1) (off' := 2) (shp_int (k := .i64) z_7) rfl z_7 rfl
    (shpF_cons (k := 1) (off' := 3) (shp_int (k := .i64) z_7) rfl z_7 rfl
    (shpF_cons (k := 1) (off' := 4) (shp_bool z_7) rfl z_7 rfl
    (shpF_cons (k := 1) (off' := 5) (shp_string z_7) rfl z_7 rfl
    (shpF_cons (k := 13) (off' := 18) shpMsg rfl z_7 rfl shpF_nil))))))).map
    (fun y => (⟨y.1, y.2.1, y.2.2.1, y.2.2.2.1, y.2.2.2.2.1, y.2.2.2.2.2.1⟩ : AcM)) (fun y => rfl)
    (fun h y o => o.2.2.2.2.2.1)
    (fun y => Nat.zero_le _)
theorem five {l : List Int} (h : l.length = 5) : ∃ a b c d e, l = [a, b, c, d, e] := by
  match l, h with
  | [a, b, c, d, e], _ => exact ⟨a, b, c, d, e, rfl⟩
theorem shpPlay : Shp Tryz.prog 25 (fun p : PlM => plC p) (fun h p => PlOk h p ∧ p.acts.length ≤ p.pc) (fun _ => 0) := ⟨fun enc w base sp held fuel cs x h => by
  obtain ⟨y, h1, h2, _⟩ := (shp_struct Tryz.underlying25 z_7
    (shpF_cons (k := 1) (off' := 1) (shp_int (k := .i64) z_7) rfl z_7 rfl
    (shpF_cons (k := 5) (off' := 6) (shp_ints (n := 5) (e := 3) (k := .i64) z_7 z_7 z_7 z_7) rfl z_7 rfl
    (shpF_cons (k := 1) (off' := 7) (shp_slice (e := 40) z_7 shpActA (n := 18) z_7 (fun _ => rfl) (by decide)) rfl z_7 rfl shpF_nil)))).h enc w base sp held fuel cs x h
  obtain ⟨mem, tos, sl, u⟩ := y
  obtain ⟨_, o2, o3, _⟩ := h2
  obtain ⟨a, b, c, d, e, rfl⟩ := five o2.1
  exact ⟨⟨mem, a, b, c, d, e, sl.2.1, sl.1, sl.2.2⟩, h1, ⟨⟨o3.rd, fun x hx => o3.each x hx⟩, o3.le⟩, Nat.zero_le _⟩⟩
end Go.Proofs.YtodcghipfolejaaGreat.Rf
