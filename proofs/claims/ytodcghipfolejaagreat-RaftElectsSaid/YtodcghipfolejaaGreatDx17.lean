import Derived.Test.YtodcghipfolejaaGreatDx16
import Derived.Test.YtodcghipfolejaaGreatDx1
import Derived.Carry
import Derived.ChangeSame
import Derived.OpenShut
import Derived.SizedLaws
import Derived.JoinedCond
import Derived.JoinedOf
import Derived.Deep.CondSized
import Derived.ChangeMaps5
import Derived.SliceStrings
import Derived.Test.YtodcghipfolejaaGreatDx6
import Derived.Test.YtodcghipfolejaaGreatDx14
/- RaftElects: the walk. -/
namespace Go.Proofs.YtodcghipfolejaaGreat.Rf
open Go Go.Sl
set_option linter.unusedVariables false
set_option linter.unusedSimpArgs false
-- ARR

theorem pm3 {a b c d e : As} {Z' Z : List As} : ((a :: b :: Z') ++ (c :: d :: e :: Z)).Perm (a :: b :: c :: d :: e :: (Z' ++ Z)) :=
  ((List.perm_middle.trans ((List.perm_middle.trans ((List.perm_middle).cons _)).cons _)).cons _).cons _
theorem rdMiA_own {F : Snap} {w : World} {H H' : List As} {a : Option Addr} {l : List Mi} {n c : Nat} {te : TypeId} (hw : Hp F w H) (u : Upd H (.own (.slice a n c) te 18 (miV l)) [] H') : RdS (hp w) a (miV l) := (hw.ownN u).2.2.1
/-- who led in which term, in memory -/
abbrev lvE (x : Int × Int) : KV := (.int .u64 x.1, .int .i64 x.2)
abbrev lvM (l : List (Int × Int)) : List KV := l.map lvE
abbrev kU : TypeDesc := .int .u64
abbrev LdX := List (Int × Int) × Array MapEntry × Nat
structure LdI (g : Gh) (x : LdX) : Prop where
  ok : MapOk kU x.2.1 x.2.2 (lvM x.1)
  win : ∀ y ∈ x.1, g.Win y.1 y.2 ∧ 1 ≤ y.2
theorem LdI.le {g g' : Gh} (h : Gle g g') {x : LdX} (k : LdI g x) : LdI g' x := ⟨k.ok, fun y hy => ⟨h.win _ _ (k.win y hy).1, (k.win y hy).2⟩⟩
theorem LdI.look {C0 : List Int} {g : Gh} (T : Tree C0 g) {x : LdX} (k : LdI g x) {t i : Int} (hw : g.Win t i) (hi : 1 ≤ i) : ∃ o l, GetV (lvM x.1) (.int .u64 t) o ∧ o.getD (.int .i64 0) = .int .i64 l ∧ (l = 0 ∨ l = i) ∧ ∀ es' cs', (∀ ms', PutV (lvM x.1) (.int .u64 t) (.int .i64 i) ms' → MapOk kU es' cs' ms') → ∃ m', LdI g (m', es', cs') := by
  by_cases h : ∃ j, (t, j) ∈ x.1
  · obtain ⟨j, hj⟩ := h
    have e : j = i := T.uniq _ _ _ (k.win _ hj).1 hw
    subst e
    have hm : lvE (t, j) ∈ lvM x.1 := List.mem_map.2 ⟨_, hj, rfl⟩
    refine ⟨some (.int .i64 j), j, hm, rfl, .inr rfl, fun es' cs' hall => ⟨x.1, hall _ (.inr ?_), k.win⟩⟩
    obtain ⟨a, b, hab⟩ := List.append_of_mem hm
    refine ⟨.int .i64 j, a ++ b, ?_, ?_⟩
    · rw [hab]; exact List.perm_middle
    · rw [hab]; exact List.perm_middle.symm
  · have hn : NoKey (lvM x.1) (.int .u64 t) := fun v hv => by
      obtain ⟨y, hy, e⟩ := List.mem_map.1 hv
      injection e with e1 e2
      injection e1 with _ e1
      obtain ⟨y1, y2⟩ := y
      simp only at e1
      subst e1
      exact h ⟨_, hy⟩
    refine ⟨none, 0, hn, rfl, .inl rfl, fun es' cs' hall => ⟨(t, i) :: x.1, hall _ (.inl ⟨hn, .refl _⟩), fun y hy => ?_⟩⟩
    rcases List.mem_cons.1 hy with rfl | hy
    · exact ⟨hw, hi⟩
    · exact k.win y hy
set_option maxRecDepth 16000 in
set_option maxHeartbeats 8000000 in
theorem RaftElects_ct (p : PlM) (hpc : p.acts.length ≤ p.pc) : Pu Tryz.prog 4 [plA p] (fun h => PlOk h p) (.bool true) := by
  refine ct_enter 108 Tryz.func4 rfl rfl rfl ?_
  intro F hok
  repeat refine y_ ?_
  refine g_region ?_
  refine gl_boxA rfl rfl ?_; intro g1
  refine f_ (s_assign rfl) ?_
  refine gl_nil ?_
  repeat refine y_ ?_
  refine g_region ?_
  refine gl_callp rfl ralive_ct (fun _ _ _ => trivial) rfl ?_
  refine f_ (s_not rfl) ?_
  refine m_ ?_
  (first|refine u_ ?_|(refine v_ ?_; refine r_ ((s_load_blkW rfl z_3 z_10).eq (v' := plA p) rfl) ?_))
  (first|refine u_ ?_|(refine v_ ?_; refine gl_call _ rfl (great_ct p hpc) (fun w hw => hw) (fun h hh _ => hok.le hh) rfl ?_; rintro v A ⟨⟨b, rfl, hb⟩, rfl⟩))
  refine f_ z_8 ?_
  refine gl_nil ?_
  repeat refine y_ ?_
  cases b
  rotate_left
  · repeat refine y_ ?_
    repeat refine y_ ?_
    refine g_region ?_
    refine gl_callp rfl ralive_ct (fun _ _ _ => trivial) rfl ?_
    refine f_ (s_assign rfl) ?_
    refine gl_nil ?_
    repeat refine y_ ?_
    refine g_ret ?_
    exact at_end1 rfl rfl [] ⟨rfl, rfl⟩ (fun _ h => h.dropAll)
  have hp : SmP p := hb rfl
  have hpl := smP_small hp
  obtain ⟨G, hG⟩ := ww_at hpl
  repeat refine y_ ?_
  refine g_region ?_
  refine r_ ((s_load_blkW rfl z_3 z_10).eq (v' := plA p) rfl) ?_
  refine gl_call [.blk g1 (.cells (plC p).toArray 25)] rfl (Begin_ct p) (fun w hw => hw) (fun _ _ _ => trivial) rfl ?_; rintro v A ⟨s0, Z0, rfl, hw0, rfl, hZ0⟩; refine gl_rot ?_
  refine m_ ?_
  refine f_ (s_extract rfl rfl) ?_
  refine f_ (s_extract rfl rfl) ?_
  refine gl_allocA rfl ?_; intro g3
  (first | refine gl_store_blkW rfl rfl z_6 z_10 z_10 z_2 ?_ | refine gl_store_blk rfl rfl z_6 z_10 z_2 z_10 ?_)
  refine f_ (s_assign rfl) ?_
  refine gl_nil ?_
  repeat refine y_ ?_
  refine g_region ?_
  refine m_ ?_
  refine f_ (s_not rfl) ?_
  refine gl_nil ?_
  repeat refine y_ ?_
  refine g_region ?_
  refine gl_makeMap rfl ?_; intro g28
  refine f_ (s_assign rfl) ?_
  refine gl_nil ?_
  repeat refine y_ ?_
  refine g_region ?_
  refine f_ (s_assign rfl) ?_
  refine gl_nil ?_
  repeat refine y_ ?_
  refine g_loop (ι := Nat × WS × List As × LdX) (fun x => PlI p x.1 x.2.1 x.2.2.1 ∧ LdI (G x.1) x.2.2.2) (fun x => [(1, Ptr g1), (3, Ptr g3), (5, .map (some g28)), (6, .int .i64 (x.1 : Nat))]) (fun x => wB g3 x.2.1 :: OwnMi x.2.1.ma x.2.1.ms x.2.1.mc :: .blk g28 (.map x.2.2.2.2.1 x.2.2.2.2.2) :: .blk g1 (.cells (plC p).toArray 25) :: x.2.2.1) (fun x => p.acts.length - x.1) (0, s0, Z0 ++ [], [], #[], 0) ⟨PlI.begin_ hw0 (fun h hs => hZ0 h (by rw [List.append_nil] at hs; exact hs)), MapOk.empty _ _, (fun y hy => by cases hy)⟩ ?_ ?_ ?_
  · (repeat (first | exact Sub.nil _ | refine Sub.cons rfl ?_))
  · intro w hw; exact hw.perm (perm_up z_3 (perm_up z_3 (perm_up z_3 (perm_up z_3 (.refl _)))))
  rintro ⟨k, s, Z, m, es, clock⟩ ⟨hI, hL⟩
  simp only at hI hL
  repeat refine y_ ?_
  refine g_region ?_
  refine m_ ?_
  refine f_ z_1 ?_
  refine r_ z_9 ?_
  refine f_ (s_len_sl rfl) ?_
  refine f_ (s_lss rfl rfl) ?_
  refine gl_nil ?_
  repeat refine y_ ?_
  refine g_cond rfl (fun h => ?_) (fun h => ?_)
  rotate_left
  · repeat refine y_ ?_
    repeat refine y_ ?_
    refine g_region ?_
    refine f_ (s_assign rfl) ?_
    refine gl_nil ?_
    repeat refine y_ ?_
    refine g_ret ?_
    exact at_end1 rfl rfl [] ⟨rfl, rfl⟩ (fun _ h => h.dropAll)
  have hk : k < p.acts.length := by simp at h; omega
  have hsome := rdAc_some hok.rd hk
  obtain ⟨a, ha⟩ : ∃ a, a = p.acts.getD k AcM0 := ⟨_, rfl⟩
  have had : a.data.length ≤ 100000 := by rw [ha]; exact acAt_data hp hk
  have hwb := hI.wb hp
  have hK := hI.k800 hp
  have hlen := hI.len hp
  obtain ⟨r, hr⟩ : ∃ r, r = actP s.w a.p := ⟨_, rfl⟩
  have hrok : r.ok = true := by rw [hr]; exact (wb_act hwb hK.1 had).2
  have hrw : r.w = (actP (wAt p.p k) (acAt p k).p).w := by
    have e : acAt p k = a := ha.symm
    rw [hr, e]
    have : s.w = wAt p.p k := hI.w
    rw [this]
  have hup : ∀ n : Int, 0 ≤ n ∧ n < 5 → (mindAt s.w n).term ≤ (mindAt r.w n).term ∧ ((mindAt r.w n).term = (mindAt s.w n).term → (mindAt s.w n).vote ≠ 0 → (mindAt r.w n).vote = (mindAt s.w n).vote) := fun n hn => by
    have := act_up hwb hK.1 (a := a.p) had hn
    rw [← hr] at this
    exact ⟨this.1, this.2.1⟩
  obtain ⟨n, hn⟩ : ∃ n, n = r.n := ⟨_, rfl⟩
  obtain ⟨ok, hoke⟩ : ∃ ok, ok = r.ok := ⟨_, rfl⟩
  rw [← hoke] at hrok
  subst hrok
  repeat refine y_ ?_
  refine g_region ?_
  refine gl_buildSlice0 rfl ?_; intro a36
  refine f_ z_1 ?_
  refine r_ (by first | exact s_load_blk rfl z_3 a2_0 | exact s_load1 rfl (fun w hw => peekB hw (by assumption) a2_0)) ?_
  refine gl_append (sz := 18) rfl rfl (fun a' c' => z_6) (fun w hw => rdMiA_own (a := s.ma) (l := s.ms) hw z_3) (miV_len s.ms) rfl rfl (miV_one _) (by show (0 + s.ms.length) * 224 ≤ 140737488355328; omega) (by first | omega | (simp only; omega)) rfl ?_; intro a39 c39 hc39
  refine f_ ((s_assign rfl).eq (v' := .slice a39 s.ms.length c39) (by simp only [Nat.zero_add])) ?_
  refine gl_nil ?_
  repeat refine y_ ?_
  refine g_pull (H' := wB g3 s :: OwnMi s.ma s.ms s.mc :: OwnMi a39 s.ms c39 :: .blk g28 (.map es clock) :: .blk g1 (.cells (plC p).toArray 25) :: Z) (fun w hw => by simp only [Nat.zero_add, List.nil_append] at hw; exact hw.perm (perm_up z_3 (perm_up z_3 (.refl _)))) ?_
  repeat refine y_ ?_
  refine g_region ?_
  refine f_ z_1 ?_
  refine r_ z_9 ?_
  refine m_ ?_
  refine f_ (s_indexAddr rfl (by assumption) rfl (by omega)) ?_
  refine r_ ((s_loadN (cs := acC a) rfl (fun w hw => rdAc hw hok.rd (i := k) (by first | omega | (simp only; omega)) hk ha) rfl).eq (v' := acA a) rfl) ?_
  refine gl_call (OwnMi a39 s.ms c39 :: .blk g28 (.map es clock) :: .blk g1 (.cells (plC p).toArray 25) :: Z) rfl (Act_ct g3 s a _ hwb hK had) (fun w hw => hw) (fun h hh hs => hI.ok h (sat_tail (sat_tail (sat_tail hs)))) rfl ?_; rw [← hr]; rintro v A ⟨s', Z', rfl, hw', rfl, hZ'⟩; refine gl_pull (fun w hw => hw.perm pm3) ?_; rw [← hn, ← hoke]
  refine m_ ?_
  refine f_ (s_extract rfl rfl) ?_
  refine f_ (s_extract rfl rfl) ?_
  refine f_ (s_assign rfl) ?_
  refine f_ (s_assign rfl) ?_
  refine gl_nil ?_
  repeat refine y_ ?_
  refine g_region ?_
  refine m_ ?_
  refine f_ (s_not rfl) ?_
  refine gl_nil ?_
  repeat refine y_ ?_
  have hI1 : PlI p (k + 1) s' (Z' ++ Z) := hI.step hk (by rw [hw', hrw]) hZ'
  have hG1 := hG (k + 1) (by show k + 1 ≤ (p.acts.map AcM.p).length; rw [List.length_map]; exact hk)
  have hWW := hG1.1
  have hL1 : LdI (G (k + 1)) (m, es, clock) := hL.le (hG1.2 k (Nat.le_succ k))
  have hT := ww_tree hWW
  have hlen1 := hI1.len hp
  repeat refine y_ ?_
  refine g_region ?_
  refine f_ (s_assign rfl) ?_
  refine gl_nil ?_
  repeat refine y_ ?_
  refine g_loop (ι := Nat × LdX) (fun x => x.1 ≤ 5 ∧ LdI (G (k + 1)) x.2) (fun x => [(1, Ptr g1), (3, Ptr g3), (5, .map (some g28)), (6, .int .i64 (k : Nat)), (7, .slice a39 s.ms.length c39), (10, .int .i64 (x.1 : Nat))]) (fun x => wB g3 s' :: OwnMi s'.ma s'.ms s'.mc :: OwnMi a39 s.ms c39 :: .blk g28 (.map x.2.2.1 x.2.2.2) :: .blk g1 (.cells (plC p).toArray 25) :: (Z' ++ Z)) (fun x => 5 - x.1) (0, m, es, clock) ⟨Nat.zero_le _, hL1⟩ ?_ ?_ ?_
  · (repeat (first | exact Sub.nil _ | refine Sub.cons rfl ?_))
  · intro w hw; exact hw
  rintro ⟨j, m1, es1, clock1⟩ ⟨hj, hLj⟩
  simp only at hj hLj
  repeat refine y_ ?_
  refine g_region ?_
  refine m_ ?_
  refine f_ (s_lss rfl rfl) ?_
  refine gl_nil ?_
  repeat refine y_ ?_
  refine g_cond rfl (fun h => ?_) (fun h => ?_)
  rotate_left
  · repeat refine y_ ?_
    repeat refine y_ ?_
    refine g_region ?_
    refine m_ ?_
    refine f_ ((s_add_i64 rfl rfl (by omega)).eq (v' := .int .i64 ((k + 1 : Nat) : Int)) rfl) ?_
    refine f_ (s_assign rfl) ?_
    refine gl_nil ?_
    repeat refine y_ ?_
    refine at_next (k + 1, s', Z' ++ Z, m1, es1, clock1) ⟨hI1, hLj⟩ (by show p.acts.length - (k + 1) < p.acts.length - k; omega) ?_ ?_
    · (repeat (first | exact Sub.nil _ | refine Sub.cons rfl ?_))
    · intro w hw; exact Hp.drop (x := OwnMi a39 s.ms c39) (hw.perm (perm_up z_3 (perm_up z_3 (perm_up z_3 (.refl _)))))
  have hj5 : j < 5 := by simp at h; omega
  have hjr : (0 : Int) ≤ (j : Int) ∧ (j : Int) < 5 := by omega
  obtain ⟨x, hx⟩ : ∃ x, x = s.ms.getD j Mi0 := ⟨_, rfl⟩
  obtain ⟨y, hy⟩ : ∃ x, x = s'.ms.getD j Mi0 := ⟨_, rfl⟩
  have hxp : mindAt s.w (j : Int) = x.1 := by rw [← mi_mind, mi, hx]; rfl
  have hyp : mindAt r.w (j : Int) = y.1 := by rw [← hw', ← mi_mind, mi, hy]; rfl
  have hyk : mindAt (wAt p.p (k + 1)) (j : Int) = y.1 := by rw [← hyp, hrw, PlI.wat hk]
  have hu := hup j hjr
  rw [hxp, hyp] at hu
  have hjx : j < s.ms.length := by omega
  have hjy : j < s'.ms.length := by omega
  repeat refine y_ ?_
  refine g_ownN (a := s'.ma) z_3 (fun _ _ hma => ?_)
  refine g_ownN (a := a39) z_3 (fun _ _ hma2 => ?_)
  have hmas : ∃ ad, s'.ma = some ad := hma (by omega)
  have hmas2 : ∃ ad, a39 = some ad := hma2 (by omega)
  refine g_cutE (ι := Nat × Nat) (fun x => [(1, Ptr g1), (3, Ptr g3), (5, .map (some g28)), (6, .int .i64 (k : Nat)), (7, .slice a39 s.ms.length c39), (10, .int .i64 (j : Nat)), (11, Ptr x.1), (12, Ptr x.2)]) (fun z => .blk z.1 (.cells (miC x).toArray 49) :: .blk z.2 (.cells (miC y).toArray 49) :: wB g3 s' :: OwnMi s'.ma s'.ms s'.mc :: OwnMi a39 s.ms c39 :: .blk g28 (.map es1 clock1) :: .blk g1 (.cells (plC p).toArray 25) :: (Z' ++ Z)) ?_ (fun z => ?_)
  · repeat refine y_ ?_
    refine g_draw ([3], [0, 0, 3, 7, 0, 16, 0, 112, 240, 0, 0, 1551, 4095], [5, 8, 9, 10, 11, 12]) [OwnMi a39 s.ms c39] 13 rfl ?_
    refine w_ 0 rfl (s_move rfl) ?_
    refine w_ 1 rfl (s_move rfl) ?_
    refine w_ 2 rfl (s_indexAddr rfl hmas2 rfl (by omega)) ?_
    refine ga_read_k 3 rfl z_5 ((s_loadN (cs := miC x) rfl (fun w hw => rdMiX_own (a := a39) hw .del (i := j) (by first | omega | (simp only; omega)) hjx hx) rfl).eq (v' := rsV x.1 x.2) rfl) (by (first | exact fun _ h => h | (repeat first | exact sub_nil | refine sub_cons z_4 ?_))) rfl rfl rfl z_7 ?_
    refine w_ 4 rfl z_1 ?_
    refine w_ 6 rfl (s_move rfl) ?_
    refine ga_three 5 9 10 rfl rfl rfl z_7 ?_ ?_ ?_
    refine r_ (s_load_blk rfl z_3 z_10) ?_
    refine gl_nil ?_
    refine at_ga (.inr (by exact keeps_of (by (first | exact fun _ h => h | (repeat first | exact sub_nil | refine sub_cons z_4 ?_))))) ?_
    refine w_ 7 rfl (s_indexAddr rfl hmas rfl (by omega)) ?_
    refine ga_three 8 9 10 rfl rfl rfl z_7 ?_ ?_ ?_
    refine r_ ((s_loadN (cs := miC y) rfl (fun w hw => rdMiX_own (a := s'.ma) hw z_3 (i := j) (by first | omega | (simp only; omega)) hjy hy) rfl).eq (v' := rsV y.1 y.2) rfl) ?_
    refine gl_nil ?_
    refine at_ga (.inr (by exact keeps_of (by (first | exact fun _ h => h | (repeat first | exact sub_nil | refine sub_cons z_4 ?_))))) ?_
    refine ga_two 9 10 rfl rfl z_7 ?_ ?_
    refine gl_allocA rfl ?_; intro g11
    refine gl_nil ?_
    refine at_ga (.inr (by exact keeps_of (by (first | exact fun _ h => h | (repeat first | exact sub_nil | refine sub_cons z_4 ?_))))) ?_
    refine ga_one 10 rfl z_7 ?_
    refine gl_allocA rfl ?_; intro g12
    refine gl_nil ?_
    refine at_ga (.inr (by exact keeps_of (by (first | exact fun _ h => h | (repeat first | exact sub_nil | refine sub_cons z_4 ?_))))) ?_
    refine ga_one 11 rfl z_7 ?_
    (first | refine gl_store_blkW rfl rfl z_6 z_10 z_10 z_2 ?_ | refine gl_store_blk rfl rfl z_6 z_10 z_2 z_10 ?_)
    refine gl_nil ?_
    refine at_ga (.inl z_7) ?_
    refine ga_one 12 rfl z_7 ?_
    (first | refine gl_store_blkW rfl rfl z_6 z_10 z_10 z_2 ?_ | refine gl_store_blk rfl rfl z_6 z_10 z_2 z_10 ?_)
    refine gl_nil ?_
    refine at_ga (.inl z_7) ?_
    refine ga_done z_7 ?_
    rotate_left 1
    refine gl_allocA rfl ?_; intro g12
    refine gl_nil ?_
    refine at_ga (.inr (by exact keeps_of (by (first | exact fun _ h => h | (repeat first | exact sub_nil | refine sub_cons z_4 ?_))))) ?_
    refine ga_one 9 rfl z_7 ?_
    refine gl_allocA rfl ?_; intro g11
    refine gl_nil ?_
    refine at_ga (.inr (by exact keeps_of (by (first | exact fun _ h => h | (repeat first | exact sub_nil | refine sub_cons z_4 ?_))))) ?_
    refine ga_one 11 rfl z_7 ?_
    (first | refine gl_store_blkW rfl rfl z_6 z_10 z_10 z_2 ?_ | refine gl_store_blk rfl rfl z_6 z_10 z_2 z_10 ?_)
    refine gl_nil ?_
    refine at_ga (.inl z_7) ?_
    refine ga_one 12 rfl z_7 ?_
    (first | refine gl_store_blkW rfl rfl z_6 z_10 z_10 z_2 ?_ | refine gl_store_blk rfl rfl z_6 z_10 z_2 z_10 ?_)
    refine gl_nil ?_
    refine at_ga (.inl z_7) ?_
    refine ga_done z_7 ?_
    rotate_left 1
    refine gl_allocA rfl ?_; intro g11
    refine gl_nil ?_
    refine at_ga (.inr (by exact keeps_of (by (first | exact fun _ h => h | (repeat first | exact sub_nil | refine sub_cons z_4 ?_))))) ?_
    refine ga_two 8 10 rfl rfl z_7 ?_ ?_
    refine r_ ((s_loadN (cs := miC y) rfl (fun w hw => rdMiX_own (a := s'.ma) hw z_3 (i := j) (by first | omega | (simp only; omega)) hjy hy) rfl).eq (v' := rsV y.1 y.2) rfl) ?_
    refine gl_nil ?_
    refine at_ga (.inr (by exact keeps_of (by (first | exact fun _ h => h | (repeat first | exact sub_nil | refine sub_cons z_4 ?_))))) ?_
    refine ga_one 10 rfl z_7 ?_
    refine gl_allocA rfl ?_; intro g12
    refine gl_nil ?_
    refine at_ga (.inr (by exact keeps_of (by (first | exact fun _ h => h | (repeat first | exact sub_nil | refine sub_cons z_4 ?_))))) ?_
    refine ga_one 11 rfl z_7 ?_
    (first | refine gl_store_blkW rfl rfl z_6 z_10 z_10 z_2 ?_ | refine gl_store_blk rfl rfl z_6 z_10 z_2 z_10 ?_)
    refine gl_nil ?_
    refine at_ga (.inl z_7) ?_
    refine ga_one 12 rfl z_7 ?_
    (first | refine gl_store_blkW rfl rfl z_6 z_10 z_10 z_2 ?_ | refine gl_store_blk rfl rfl z_6 z_10 z_2 z_10 ?_)
    refine gl_nil ?_
    refine at_ga (.inl z_7) ?_
    refine ga_done z_7 ?_
    rotate_left 1
    refine gl_allocA rfl ?_; intro g12
    refine gl_nil ?_
    refine at_ga (.inr (by exact keeps_of (by (first | exact fun _ h => h | (repeat first | exact sub_nil | refine sub_cons z_4 ?_))))) ?_
    refine ga_two 8 11 rfl rfl z_7 ?_ ?_
    refine r_ ((s_loadN (cs := miC y) rfl (fun w hw => rdMiX_own (a := s'.ma) hw z_3 (i := j) (by first | omega | (simp only; omega)) hjy hy) rfl).eq (v' := rsV y.1 y.2) rfl) ?_
    refine gl_nil ?_
    refine at_ga (.inr (by exact keeps_of (by (first | exact fun _ h => h | (repeat first | exact sub_nil | refine sub_cons z_4 ?_))))) ?_
    refine ga_one 11 rfl z_7 ?_
    (first | refine gl_store_blkW rfl rfl z_6 z_10 z_10 z_2 ?_ | refine gl_store_blk rfl rfl z_6 z_10 z_2 z_10 ?_)
    refine gl_nil ?_
    refine at_ga (.inl z_7) ?_
    refine ga_one 12 rfl z_7 ?_
    (first | refine gl_store_blkW rfl rfl z_6 z_10 z_10 z_2 ?_ | refine gl_store_blk rfl rfl z_6 z_10 z_2 z_10 ?_)
    refine gl_nil ?_
    refine at_ga (.inl z_7) ?_
    refine ga_done z_7 ?_
    rotate_left 1
    (first | refine gl_store_blkW rfl rfl z_6 z_10 z_10 z_2 ?_ | refine gl_store_blk rfl rfl z_6 z_10 z_2 z_10 ?_)
    refine gl_nil ?_
    refine at_ga (.inl z_7) ?_
    refine ga_one 8 rfl z_7 ?_
    refine r_ ((s_loadN (cs := miC y) rfl (fun w hw => rdMiX_own (a := s'.ma) hw z_3 (i := j) (by first | omega | (simp only; omega)) hjy hy) rfl).eq (v' := rsV y.1 y.2) rfl) ?_
    refine gl_nil ?_
    refine at_ga (.inl z_7) ?_
    refine ga_one 12 rfl z_7 ?_
    (first | refine gl_store_blkW rfl rfl z_6 z_10 z_10 z_2 ?_ | refine gl_store_blk rfl rfl z_6 z_10 z_2 z_10 ?_)
    refine gl_nil ?_
    refine at_ga (.inl z_7) ?_
    refine ga_done z_7 ?_
    rotate_left 1
    refine gl_allocA rfl ?_; intro g12
    refine gl_nil ?_
    refine at_ga (.inr (by exact keeps_of (by (first | exact fun _ h => h | (repeat first | exact sub_nil | refine sub_cons z_4 ?_))))) ?_
    refine ga_two 8 9 rfl rfl z_7 ?_ ?_
    refine r_ ((s_loadN (cs := miC y) rfl (fun w hw => rdMiX_own (a := s'.ma) hw z_3 (i := j) (by first | omega | (simp only; omega)) hjy hy) rfl).eq (v' := rsV y.1 y.2) rfl) ?_
    refine gl_nil ?_
    refine at_ga (.inr (by exact keeps_of (by (first | exact fun _ h => h | (repeat first | exact sub_nil | refine sub_cons z_4 ?_))))) ?_
    refine ga_one 9 rfl z_7 ?_
    refine gl_allocA rfl ?_; intro g11
    refine gl_nil ?_
    refine at_ga (.inr (by exact keeps_of (by (first | exact fun _ h => h | (repeat first | exact sub_nil | refine sub_cons z_4 ?_))))) ?_
    refine ga_one 11 rfl z_7 ?_
    (first | refine gl_store_blkW rfl rfl z_6 z_10 z_10 z_2 ?_ | refine gl_store_blk rfl rfl z_6 z_10 z_2 z_10 ?_)
    refine gl_nil ?_
    refine at_ga (.inl z_7) ?_
    refine ga_one 12 rfl z_7 ?_
    (first | refine gl_store_blkW rfl rfl z_6 z_10 z_10 z_2 ?_ | refine gl_store_blk rfl rfl z_6 z_10 z_2 z_10 ?_)
    refine gl_nil ?_
    refine at_ga (.inl z_7) ?_
    refine ga_done z_7 ?_
    rotate_left 1
    refine gl_allocA rfl ?_; intro g11
    refine gl_nil ?_
    refine at_ga (.inr (by exact keeps_of (by (first | exact fun _ h => h | (repeat first | exact sub_nil | refine sub_cons z_4 ?_))))) ?_
    refine ga_two 8 11 rfl rfl z_7 ?_ ?_
    refine r_ ((s_loadN (cs := miC y) rfl (fun w hw => rdMiX_own (a := s'.ma) hw z_3 (i := j) (by first | omega | (simp only; omega)) hjy hy) rfl).eq (v' := rsV y.1 y.2) rfl) ?_
    refine gl_nil ?_
    refine at_ga (.inr (by exact keeps_of (by (first | exact fun _ h => h | (repeat first | exact sub_nil | refine sub_cons z_4 ?_))))) ?_
    refine ga_one 11 rfl z_7 ?_
    (first | refine gl_store_blkW rfl rfl z_6 z_10 z_10 z_2 ?_ | refine gl_store_blk rfl rfl z_6 z_10 z_2 z_10 ?_)
    refine gl_nil ?_
    refine at_ga (.inl z_7) ?_
    refine ga_one 12 rfl z_7 ?_
    (first | refine gl_store_blkW rfl rfl z_6 z_10 z_10 z_2 ?_ | refine gl_store_blk rfl rfl z_6 z_10 z_2 z_10 ?_)
    refine gl_nil ?_
    refine at_ga (.inl z_7) ?_
    refine ga_done z_7 ?_
    rotate_left 1
    (first | refine gl_store_blkW rfl rfl z_6 z_10 z_10 z_2 ?_ | refine gl_store_blk rfl rfl z_6 z_10 z_2 z_10 ?_)
    refine gl_nil ?_
    refine at_ga (.inl z_7) ?_
    refine ga_one 8 rfl z_7 ?_
    refine r_ ((s_loadN (cs := miC y) rfl (fun w hw => rdMiX_own (a := s'.ma) hw z_3 (i := j) (by first | omega | (simp only; omega)) hjy hy) rfl).eq (v' := rsV y.1 y.2) rfl) ?_
    refine gl_nil ?_
    refine at_ga (.inl z_7) ?_
    refine ga_one 12 rfl z_7 ?_
    (first | refine gl_store_blkW rfl rfl z_6 z_10 z_10 z_2 ?_ | refine gl_store_blk rfl rfl z_6 z_10 z_2 z_10 ?_)
    refine gl_nil ?_
    refine at_ga (.inl z_7) ?_
    refine ga_done z_7 ?_
    rotate_left 1
    refine gl_allocA rfl ?_; intro g11
    refine gl_nil ?_
    refine at_ga (.inr (by exact keeps_of (by (first | exact fun _ h => h | (repeat first | exact sub_nil | refine sub_cons z_4 ?_))))) ?_
    refine ga_two 5 10 rfl rfl z_7 ?_ ?_
    refine r_ (s_load_blk rfl z_3 z_10) ?_
    refine gl_nil ?_
    refine at_ga (.inr (by exact keeps_of (by (first | exact fun _ h => h | (repeat first | exact sub_nil | refine sub_cons z_4 ?_))))) ?_
    refine w_ 7 rfl (s_indexAddr rfl hmas rfl (by omega)) ?_
    refine ga_two 8 10 rfl rfl z_7 ?_ ?_
    refine r_ ((s_loadN (cs := miC y) rfl (fun w hw => rdMiX_own (a := s'.ma) hw z_3 (i := j) (by first | omega | (simp only; omega)) hjy hy) rfl).eq (v' := rsV y.1 y.2) rfl) ?_
    refine gl_nil ?_
    refine at_ga (.inr (by exact keeps_of (by (first | exact fun _ h => h | (repeat first | exact sub_nil | refine sub_cons z_4 ?_))))) ?_
    refine ga_one 10 rfl z_7 ?_
    refine gl_allocA rfl ?_; intro g12
    refine gl_nil ?_
    refine at_ga (.inr (by exact keeps_of (by (first | exact fun _ h => h | (repeat first | exact sub_nil | refine sub_cons z_4 ?_))))) ?_
    refine ga_one 11 rfl z_7 ?_
    (first | refine gl_store_blkW rfl rfl z_6 z_10 z_10 z_2 ?_ | refine gl_store_blk rfl rfl z_6 z_10 z_2 z_10 ?_)
    refine gl_nil ?_
    refine at_ga (.inl z_7) ?_
    refine ga_one 12 rfl z_7 ?_
    (first | refine gl_store_blkW rfl rfl z_6 z_10 z_10 z_2 ?_ | refine gl_store_blk rfl rfl z_6 z_10 z_2 z_10 ?_)
    refine gl_nil ?_
    refine at_ga (.inl z_7) ?_
    refine ga_done z_7 ?_
    rotate_left 1
    refine gl_allocA rfl ?_; intro g12
    refine gl_nil ?_
    refine at_ga (.inr (by exact keeps_of (by (first | exact fun _ h => h | (repeat first | exact sub_nil | refine sub_cons z_4 ?_))))) ?_
    refine ga_two 8 11 rfl rfl z_7 ?_ ?_
    refine r_ ((s_loadN (cs := miC y) rfl (fun w hw => rdMiX_own (a := s'.ma) hw z_3 (i := j) (by first | omega | (simp only; omega)) hjy hy) rfl).eq (v' := rsV y.1 y.2) rfl) ?_
    refine gl_nil ?_
    refine at_ga (.inr (by exact keeps_of (by (first | exact fun _ h => h | (repeat first | exact sub_nil | refine sub_cons z_4 ?_))))) ?_
    refine ga_one 11 rfl z_7 ?_
    (first | refine gl_store_blkW rfl rfl z_6 z_10 z_10 z_2 ?_ | refine gl_store_blk rfl rfl z_6 z_10 z_2 z_10 ?_)
    refine gl_nil ?_
    refine at_ga (.inl z_7) ?_
    refine ga_one 12 rfl z_7 ?_
    (first | refine gl_store_blkW rfl rfl z_6 z_10 z_10 z_2 ?_ | refine gl_store_blk rfl rfl z_6 z_10 z_2 z_10 ?_)
    refine gl_nil ?_
    refine at_ga (.inl z_7) ?_
    refine ga_done z_7 ?_
    rotate_left 1
    (first | refine gl_store_blkW rfl rfl z_6 z_10 z_10 z_2 ?_ | refine gl_store_blk rfl rfl z_6 z_10 z_2 z_10 ?_)
    refine gl_nil ?_
    refine at_ga (.inl z_7) ?_
    refine ga_one 8 rfl z_7 ?_
    refine r_ ((s_loadN (cs := miC y) rfl (fun w hw => rdMiX_own (a := s'.ma) hw z_3 (i := j) (by first | omega | (simp only; omega)) hjy hy) rfl).eq (v' := rsV y.1 y.2) rfl) ?_
    refine gl_nil ?_
    refine at_ga (.inl z_7) ?_
    refine ga_one 12 rfl z_7 ?_
    (first | refine gl_store_blkW rfl rfl z_6 z_10 z_10 z_2 ?_ | refine gl_store_blk rfl rfl z_6 z_10 z_2 z_10 ?_)
    refine gl_nil ?_
    refine at_ga (.inl z_7) ?_
    refine ga_done z_7 ?_
    rotate_left 1
    refine gl_allocA rfl ?_; intro g12
    refine gl_nil ?_
    refine at_ga (.inr (by exact keeps_of (by (first | exact fun _ h => h | (repeat first | exact sub_nil | refine sub_cons z_4 ?_))))) ?_
    refine ga_two 5 11 rfl rfl z_7 ?_ ?_
    refine r_ (s_load_blk rfl z_3 z_10) ?_
    refine gl_nil ?_
    refine at_ga (.inr (by exact keeps_of (by (first | exact fun _ h => h | (repeat first | exact sub_nil | refine sub_cons z_4 ?_))))) ?_
    refine w_ 7 rfl (s_indexAddr rfl hmas rfl (by omega)) ?_
    refine ga_two 8 11 rfl rfl z_7 ?_ ?_
    refine r_ ((s_loadN (cs := miC y) rfl (fun w hw => rdMiX_own (a := s'.ma) hw z_3 (i := j) (by first | omega | (simp only; omega)) hjy hy) rfl).eq (v' := rsV y.1 y.2) rfl) ?_
    refine gl_nil ?_
    refine at_ga (.inr (by exact keeps_of (by (first | exact fun _ h => h | (repeat first | exact sub_nil | refine sub_cons z_4 ?_))))) ?_
    refine ga_one 11 rfl z_7 ?_
    (first | refine gl_store_blkW rfl rfl z_6 z_10 z_10 z_2 ?_ | refine gl_store_blk rfl rfl z_6 z_10 z_2 z_10 ?_)
    refine gl_nil ?_
    refine at_ga (.inl z_7) ?_
    refine ga_one 12 rfl z_7 ?_
    (first | refine gl_store_blkW rfl rfl z_6 z_10 z_10 z_2 ?_ | refine gl_store_blk rfl rfl z_6 z_10 z_2 z_10 ?_)
    refine gl_nil ?_
    refine at_ga (.inl z_7) ?_
    refine ga_done z_7 ?_
    rotate_left 1
    (first | refine gl_store_blkW rfl rfl z_6 z_10 z_10 z_2 ?_ | refine gl_store_blk rfl rfl z_6 z_10 z_2 z_10 ?_)
    refine gl_nil ?_
    refine at_ga (.inl z_7) ?_
    refine ga_one 8 rfl z_7 ?_
    refine r_ ((s_loadN (cs := miC y) rfl (fun w hw => rdMiX_own (a := s'.ma) hw z_3 (i := j) (by first | omega | (simp only; omega)) hjy hy) rfl).eq (v' := rsV y.1 y.2) rfl) ?_
    refine gl_nil ?_
    refine at_ga (.inl z_7) ?_
    refine ga_one 12 rfl z_7 ?_
    (first | refine gl_store_blkW rfl rfl z_6 z_10 z_10 z_2 ?_ | refine gl_store_blk rfl rfl z_6 z_10 z_2 z_10 ?_)
    refine gl_nil ?_
    refine at_ga (.inl z_7) ?_
    refine ga_done z_7 ?_
    rotate_left 1
    (first | refine gl_store_blkW rfl rfl z_6 z_10 z_10 z_2 ?_ | refine gl_store_blk rfl rfl z_6 z_10 z_2 z_10 ?_)
    refine gl_nil ?_
    refine at_ga (.inl z_7) ?_
    refine ga_one 5 rfl z_7 ?_
    refine r_ (s_load_blk rfl z_3 z_10) ?_
    refine gl_nil ?_
    refine at_ga (.inl z_7) ?_
    refine w_ 7 rfl (s_indexAddr rfl hmas rfl (by omega)) ?_
    refine ga_one 8 rfl z_7 ?_
    refine r_ ((s_loadN (cs := miC y) rfl (fun w hw => rdMiX_own (a := s'.ma) hw z_3 (i := j) (by first | omega | (simp only; omega)) hjy hy) rfl).eq (v' := rsV y.1 y.2) rfl) ?_
    refine gl_nil ?_
    refine at_ga (.inl z_7) ?_
    refine ga_one 12 rfl z_7 ?_
    (first | refine gl_store_blkW rfl rfl z_6 z_10 z_10 z_2 ?_ | refine gl_store_blk rfl rfl z_6 z_10 z_2 z_10 ?_)
    refine gl_nil ?_
    refine at_ga (.inl z_7) ?_
    refine ga_done z_7 ?_
    rotate_left 1
    refine gl_allocA rfl ?_; intro g12
    refine gl_nil ?_
    refine at_ga (.inr (by exact keeps_of (by (first | exact fun _ h => h | (repeat first | exact sub_nil | refine sub_cons z_4 ?_))))) ?_
    refine ga_two 5 9 rfl rfl z_7 ?_ ?_
    refine r_ (s_load_blk rfl z_3 z_10) ?_
    refine gl_nil ?_
    refine at_ga (.inr (by exact keeps_of (by (first | exact fun _ h => h | (repeat first | exact sub_nil | refine sub_cons z_4 ?_))))) ?_
    refine w_ 7 rfl (s_indexAddr rfl hmas rfl (by omega)) ?_
    refine ga_two 8 9 rfl rfl z_7 ?_ ?_
    refine r_ ((s_loadN (cs := miC y) rfl (fun w hw => rdMiX_own (a := s'.ma) hw z_3 (i := j) (by first | omega | (simp only; omega)) hjy hy) rfl).eq (v' := rsV y.1 y.2) rfl) ?_
    refine gl_nil ?_
    refine at_ga (.inr (by exact keeps_of (by (first | exact fun _ h => h | (repeat first | exact sub_nil | refine sub_cons z_4 ?_))))) ?_
    refine ga_one 9 rfl z_7 ?_
    refine gl_allocA rfl ?_; intro g11
    refine gl_nil ?_
    refine at_ga (.inr (by exact keeps_of (by (first | exact fun _ h => h | (repeat first | exact sub_nil | refine sub_cons z_4 ?_))))) ?_
    refine ga_one 11 rfl z_7 ?_
    (first | refine gl_store_blkW rfl rfl z_6 z_10 z_10 z_2 ?_ | refine gl_store_blk rfl rfl z_6 z_10 z_2 z_10 ?_)
    refine gl_nil ?_
    refine at_ga (.inl z_7) ?_
    refine ga_one 12 rfl z_7 ?_
    (first | refine gl_store_blkW rfl rfl z_6 z_10 z_10 z_2 ?_ | refine gl_store_blk rfl rfl z_6 z_10 z_2 z_10 ?_)
    refine gl_nil ?_
    refine at_ga (.inl z_7) ?_
    refine ga_done z_7 ?_
    rotate_left 1
    refine gl_allocA rfl ?_; intro g11
    refine gl_nil ?_
    refine at_ga (.inr (by exact keeps_of (by (first | exact fun _ h => h | (repeat first | exact sub_nil | refine sub_cons z_4 ?_))))) ?_
    refine ga_two 8 11 rfl rfl z_7 ?_ ?_
    refine r_ ((s_loadN (cs := miC y) rfl (fun w hw => rdMiX_own (a := s'.ma) hw z_3 (i := j) (by first | omega | (simp only; omega)) hjy hy) rfl).eq (v' := rsV y.1 y.2) rfl) ?_
    refine gl_nil ?_
    refine at_ga (.inr (by exact keeps_of (by (first | exact fun _ h => h | (repeat first | exact sub_nil | refine sub_cons z_4 ?_))))) ?_
    refine ga_one 11 rfl z_7 ?_
    (first | refine gl_store_blkW rfl rfl z_6 z_10 z_10 z_2 ?_ | refine gl_store_blk rfl rfl z_6 z_10 z_2 z_10 ?_)
    refine gl_nil ?_
    refine at_ga (.inl z_7) ?_
    refine ga_one 12 rfl z_7 ?_
    (first | refine gl_store_blkW rfl rfl z_6 z_10 z_10 z_2 ?_ | refine gl_store_blk rfl rfl z_6 z_10 z_2 z_10 ?_)
    refine gl_nil ?_
    refine at_ga (.inl z_7) ?_
    refine ga_done z_7 ?_
    rotate_left 1
    (first | refine gl_store_blkW rfl rfl z_6 z_10 z_10 z_2 ?_ | refine gl_store_blk rfl rfl z_6 z_10 z_2 z_10 ?_)
    refine gl_nil ?_
    refine at_ga (.inl z_7) ?_
    refine ga_one 8 rfl z_7 ?_
    refine r_ ((s_loadN (cs := miC y) rfl (fun w hw => rdMiX_own (a := s'.ma) hw z_3 (i := j) (by first | omega | (simp only; omega)) hjy hy) rfl).eq (v' := rsV y.1 y.2) rfl) ?_
    refine gl_nil ?_
    refine at_ga (.inl z_7) ?_
    refine ga_one 12 rfl z_7 ?_
    (first | refine gl_store_blkW rfl rfl z_6 z_10 z_10 z_2 ?_ | refine gl_store_blk rfl rfl z_6 z_10 z_2 z_10 ?_)
    refine gl_nil ?_
    refine at_ga (.inl z_7) ?_
    refine ga_done z_7 ?_
    rotate_left 1
    refine gl_allocA rfl ?_; intro g11
    refine gl_nil ?_
    refine at_ga (.inr (by exact keeps_of (by (first | exact fun _ h => h | (repeat first | exact sub_nil | refine sub_cons z_4 ?_))))) ?_
    refine ga_two 5 11 rfl rfl z_7 ?_ ?_
    refine r_ (s_load_blk rfl z_3 z_10) ?_
    refine gl_nil ?_
    refine at_ga (.inr (by exact keeps_of (by (first | exact fun _ h => h | (repeat first | exact sub_nil | refine sub_cons z_4 ?_))))) ?_
    refine w_ 7 rfl (s_indexAddr rfl hmas rfl (by omega)) ?_
    refine ga_two 8 11 rfl rfl z_7 ?_ ?_
    refine r_ ((s_loadN (cs := miC y) rfl (fun w hw => rdMiX_own (a := s'.ma) hw z_3 (i := j) (by first | omega | (simp only; omega)) hjy hy) rfl).eq (v' := rsV y.1 y.2) rfl) ?_
    refine gl_nil ?_
    refine at_ga (.inr (by exact keeps_of (by (first | exact fun _ h => h | (repeat first | exact sub_nil | refine sub_cons z_4 ?_))))) ?_
    refine ga_one 11 rfl z_7 ?_
    (first | refine gl_store_blkW rfl rfl z_6 z_10 z_10 z_2 ?_ | refine gl_store_blk rfl rfl z_6 z_10 z_2 z_10 ?_)
    refine gl_nil ?_
    refine at_ga (.inl z_7) ?_
    refine ga_one 12 rfl z_7 ?_
    (first | refine gl_store_blkW rfl rfl z_6 z_10 z_10 z_2 ?_ | refine gl_store_blk rfl rfl z_6 z_10 z_2 z_10 ?_)
    refine gl_nil ?_
    refine at_ga (.inl z_7) ?_
    refine ga_done z_7 ?_
    rotate_left 1
    (first | refine gl_store_blkW rfl rfl z_6 z_10 z_10 z_2 ?_ | refine gl_store_blk rfl rfl z_6 z_10 z_2 z_10 ?_)
    refine gl_nil ?_
    refine at_ga (.inl z_7) ?_
    refine ga_one 8 rfl z_7 ?_
    refine r_ ((s_loadN (cs := miC y) rfl (fun w hw => rdMiX_own (a := s'.ma) hw z_3 (i := j) (by first | omega | (simp only; omega)) hjy hy) rfl).eq (v' := rsV y.1 y.2) rfl) ?_
    refine gl_nil ?_
    refine at_ga (.inl z_7) ?_
    refine ga_one 12 rfl z_7 ?_
    (first | refine gl_store_blkW rfl rfl z_6 z_10 z_10 z_2 ?_ | refine gl_store_blk rfl rfl z_6 z_10 z_2 z_10 ?_)
    refine gl_nil ?_
    refine at_ga (.inl z_7) ?_
    refine ga_done z_7 ?_
    rotate_left 1
    (first | refine gl_store_blkW rfl rfl z_6 z_10 z_10 z_2 ?_ | refine gl_store_blk rfl rfl z_6 z_10 z_2 z_10 ?_)
    refine gl_nil ?_
    refine at_ga (.inl z_7) ?_
    refine ga_one 5 rfl z_7 ?_
    refine r_ (s_load_blk rfl z_3 z_10) ?_
    refine gl_nil ?_
    refine at_ga (.inl z_7) ?_
    refine w_ 7 rfl (s_indexAddr rfl hmas rfl (by omega)) ?_
    refine ga_one 8 rfl z_7 ?_
    refine r_ ((s_loadN (cs := miC y) rfl (fun w hw => rdMiX_own (a := s'.ma) hw z_3 (i := j) (by first | omega | (simp only; omega)) hjy hy) rfl).eq (v' := rsV y.1 y.2) rfl) ?_
    refine gl_nil ?_
    refine at_ga (.inl z_7) ?_
    refine ga_one 12 rfl z_7 ?_
    (first | refine gl_store_blkW rfl rfl z_6 z_10 z_10 z_2 ?_ | refine gl_store_blk rfl rfl z_6 z_10 z_2 z_10 ?_)
    refine gl_nil ?_
    refine at_ga (.inl z_7) ?_
    refine ga_done z_7 ?_
    rotate_left 1
    all_goals (repeat refine y_ ?_)
    all_goals
      exact at_cutE (g11, g12) (by (repeat (first | exact Sub.nil _ | refine Sub.cons rfl ?_))) (fun w hw => hw.perm (perm_up z_3 (perm_up z_3 (perm_up z_3 (.refl _)))))
  obtain ⟨g11, g12⟩ := z
  obtain ⟨q1, hq1⟩ : ∃ q, q = decide (y.1.term = x.1.term) := ⟨_, rfl⟩
  obtain ⟨q2, hq2⟩ : ∃ q, q = decide (x.1.vote = 0) := ⟨_, rfl⟩
  repeat refine y_ ?_
  refine g_cutK [(1, Ptr g1), (3, Ptr g3), (5, .map (some g28)), (6, .int .i64 (k : Nat)), (7, .slice a39 s.ms.length c39), (10, .int .i64 (j : Nat)), (12, Ptr g12), (87, .bool false)] (.blk g11 (.cells (miC x).toArray 49) :: .blk g12 (.cells (miC y).toArray 49) :: wB g3 s' :: OwnMi s'.ma s'.ms s'.mc :: OwnMi a39 s.ms c39 :: .blk g28 (.map es1 clock1) :: .blk g1 (.cells (plC p).toArray 25) :: (Z' ++ Z)) ?_ ?_
  · cases q1 <;> cases q2
    all_goals (
      repeat refine y_ ?_
      refine g_region ?_
      refine f_ z_1 ?_
      refine r_ (by first | exact s_load_blk rfl z_3 a18_1 | exact s_load1 rfl (fun w hw => peekB hw (by assumption) a18_1)) ?_
      refine f_ z_1 ?_
      refine r_ (by first | exact s_load_blk rfl z_3 a18_1 | exact s_load1 rfl (fun w hw => peekB hw (by assumption) a18_1)) ?_
      refine f_ ((s_lss rfl rfl).eq (v' := .bool false) (congrArg Value.bool (decide_eq_false (by have := hu.1; omega)))) ?_
      refine m_ ?_
      (first|refine u_ ?_|(refine v_ ?_; refine f_ z_1 ?_))
      (first|refine u_ ?_|(refine v_ ?_; refine r_ (by first | exact s_load_blk rfl z_3 a18_1 | exact s_load1 rfl (fun w hw => peekB hw (by assumption) a18_1)) ?_))
      (first|refine u_ ?_|(refine v_ ?_; refine f_ z_1 ?_))
      (first|refine u_ ?_|(refine v_ ?_; refine r_ (by first | exact s_load_blk rfl z_3 a18_1 | exact s_load1 rfl (fun w hw => peekB hw (by assumption) a18_1)) ?_))
      (first|refine u_ ?_|(refine v_ ?_; refine f_ ((s_eql rfl rfl).eq (congrArg Value.bool hq1.symm)) ?_))
      (first|refine u_ ?_|(refine v_ ?_; refine m_ ?_))
      (first|refine u_ ?_|(refine v_ ?_; refine f_ z_1 ?_))
      (first|refine u_ ?_|(refine v_ ?_; refine r_ (by first | exact s_load_blk rfl z_3 a18_2 | exact s_load1 rfl (fun w hw => peekB hw (by assumption) a18_2)) ?_))
      (first|refine u_ ?_|(refine v_ ?_; refine f_ ((s_neq rfl rfl).eq (congrArg (fun b => Value.bool (!b)) hq2.symm)) ?_))
      (first|refine u_ ?_|(refine v_ ?_; refine f_ z_8 ?_))
      (first|refine u_ ?_|(refine v_ ?_; refine m_ ?_))
      (first|refine u_ ?_|(refine v_ ?_; refine f_ z_1 ?_))
      (first|refine u_ ?_|(refine v_ ?_; refine r_ (by first | exact s_load_blk rfl z_3 a18_2 | exact s_load1 rfl (fun w hw => peekB hw (by assumption) a18_2)) ?_))
      (first|refine u_ ?_|(refine v_ ?_; refine f_ z_1 ?_))
      (first|refine u_ ?_|(refine v_ ?_; refine r_ (by first | exact s_load_blk rfl z_3 a18_2 | exact s_load1 rfl (fun w hw => peekB hw (by assumption) a18_2)) ?_))
      (first|refine u_ ?_|(refine v_ ?_; refine f_ ((s_neq rfl rfl).eq (v' := .bool false) (congrArg (fun b => Value.bool (!b)) (decide_eq_true (hu.2 (of_decide_eq_true hq1.symm) (of_decide_eq_false hq2.symm))))) ?_))
      (first|refine u_ ?_|(refine v_ ?_; refine f_ z_8 ?_))
      refine f_ z_8 ?_
      refine gl_nil ?_
      repeat refine y_ ?_)
    all_goals exact at_cut (by (repeat (first | exact Sub.nil _ | refine Sub.cons rfl ?_))) (fun w hw => hw)
  obtain ⟨q5, hq5⟩ : ∃ q, q = decide (y.1.role = 2) := ⟨_, rfl⟩
  repeat refine y_ ?_
  refine g_region ?_
  refine f_ z_1 ?_
  refine r_ (by first | exact s_load_blk rfl z_3 a18_3 | exact s_load1 rfl (fun w hw => peekB hw (by assumption) a18_3)) ?_
  refine f_ ((s_neq rfl rfl).eq (v' := .bool (!q5)) (by rw [hq5])) ?_
  refine gl_nil ?_
  repeat refine y_ ?_
  cases q5
  · repeat refine y_ ?_
    repeat refine y_ ?_
    refine g_region ?_
    refine m_ ?_
    refine f_ ((s_add_i64 rfl rfl (by omega)).eq (v' := .int .i64 ((j + 1 : Nat) : Int)) rfl) ?_
    refine f_ (s_assign rfl) ?_
    refine gl_nil ?_
    repeat refine y_ ?_
    refine at_next (j + 1, m1, es1, clock1) ⟨hj5, hLj⟩ (by show 5 - (j + 1) < 5 - j; omega) ?_ ?_
    · (repeat (first | exact Sub.nil _ | refine Sub.cons rfl ?_))
    · intro w hw; exact hw.drop.drop
  have hrole : (mindAt (wAt p.p (k + 1)) (j : Int)).role = 2 := by rw [hyk]; exact of_decide_eq_true hq5.symm
  obtain ⟨w1, w2, w3⟩ := ww_win hWW hjr hrole
  rw [hyk] at w1 w2 w3
  obtain ⟨o, l, ho1, ho2, ho3, ho4⟩ := hLj.look hT w1 (by omega)
  repeat refine y_ ?_
  refine g_region ?_
  refine m_ ?_
  refine f_ z_1 ?_
  refine r_ (by first | exact s_load_blk rfl z_3 a18_1 | exact s_load1 rfl (fun w hw => peekB hw (by assumption) a18_1)) ?_
  refine r_ ((s_look (key := .int .u64 y.1.term) (o := o) (zv := .int .i64 0) (c := false) rfl rfl z_3 hLj.ok rfl ho1).eq (v' := .int .i64 l) ho2) ?_
  refine f_ (s_assign rfl) ?_
  refine gl_nil ?_
  repeat refine y_ ?_
  refine g_cutK [(1, Ptr g1), (3, Ptr g3), (5, .map (some g28)), (6, .int .i64 (k : Nat)), (7, .slice a39 s.ms.length c39), (10, .int .i64 (j : Nat)), (12, Ptr g12), (102, .bool false)] (.blk g11 (.cells (miC x).toArray 49) :: .blk g12 (.cells (miC y).toArray 49) :: wB g3 s' :: OwnMi s'.ma s'.ms s'.mc :: OwnMi a39 s.ms c39 :: .blk g28 (.map es1 clock1) :: .blk g1 (.cells (plC p).toArray 25) :: (Z' ++ Z)) ?_ ?_
  · by_cases hl0 : l = 0
    · repeat refine y_ ?_
      refine g_region ?_
      refine m_ ?_
      refine f_ ((s_neq rfl rfl).eq (v' := .bool false) (congrArg (fun b => Value.bool (!b)) (decide_eq_true hl0))) ?_
      refine m_ ?_
      (first|refine u_ ?_|(refine v_ ?_; refine m_ ?_))
      (first|refine u_ ?_|(refine v_ ?_; refine f_ z_1 ?_))
      (first|refine u_ ?_|(refine v_ ?_; refine r_ (by first | exact s_load_blk rfl z_3 a18_0 | exact s_load1 rfl (fun w hw => peekB hw (by assumption) a18_0)) ?_))
      (first|refine u_ ?_|(refine v_ ?_; refine f_ (s_neq rfl rfl) ?_))
      refine f_ z_8 ?_
      refine gl_nil ?_
      repeat refine y_ ?_
      exact at_cut (by (repeat (first | exact Sub.nil _ | refine Sub.cons rfl ?_))) (fun w hw => hw)
    · have hl1 : l = y.1.id := by rcases ho3 with h | h; exact absurd h hl0; exact h
      repeat refine y_ ?_
      refine g_region ?_
      refine m_ ?_
      refine f_ ((s_neq rfl rfl).eq (v' := .bool true) (congrArg (fun b => Value.bool (!b)) (decide_eq_false hl0))) ?_
      refine m_ ?_
      (first|refine u_ ?_|(refine v_ ?_; refine m_ ?_))
      (first|refine u_ ?_|(refine v_ ?_; refine f_ z_1 ?_))
      (first|refine u_ ?_|(refine v_ ?_; refine r_ (by first | exact s_load_blk rfl z_3 a18_0 | exact s_load1 rfl (fun w hw => peekB hw (by assumption) a18_0)) ?_))
      (first|refine u_ ?_|(refine v_ ?_; refine f_ ((s_neq rfl rfl).eq (v' := .bool false) (congrArg (fun b => Value.bool (!b)) (decide_eq_true hl1))) ?_))
      refine f_ z_8 ?_
      refine gl_nil ?_
      repeat refine y_ ?_
      exact at_cut (by (repeat (first | exact Sub.nil _ | refine Sub.cons rfl ?_))) (fun w hw => hw)
  repeat refine y_ ?_
  refine g_region ?_
  refine m_ ?_
  refine f_ z_1 ?_
  refine r_ (by first | exact s_load_blk rfl z_3 a18_1 | exact s_load1 rfl (fun w hw => peekB hw (by assumption) a18_1)) ?_
  refine f_ z_1 ?_
  refine r_ (by first | exact s_load_blk rfl z_3 a18_0 | exact s_load1 rfl (fun w hw => peekB hw (by assumption) a18_0)) ?_
  refine gl_mapUpd rfl rfl rfl hLj.ok rfl (fun es' cs' => z_6) ?_; intro es' cs' hall
  refine gl_nil ?_
  repeat refine y_ ?_
  obtain ⟨m', hL'⟩ := ho4 es' cs' hall
  repeat refine y_ ?_
  refine g_region ?_
  refine m_ ?_
  refine f_ ((s_add_i64 rfl rfl (by omega)).eq (v' := .int .i64 ((j + 1 : Nat) : Int)) rfl) ?_
  refine f_ (s_assign rfl) ?_
  refine gl_nil ?_
  repeat refine y_ ?_
  refine at_next (j + 1, m', es', cs') ⟨hj5, hL'⟩ (by show 5 - (j + 1) < 5 - j; omega) ?_ ?_
  · (repeat (first | exact Sub.nil _ | refine Sub.cons rfl ?_))
  · intro w hw; exact hw.drop.drop
end Go.Proofs.YtodcghipfolejaaGreat.Rf
/- From a contract of the walk to a row of the second kind: a law that answers true and turns nothing of what was there. -/

namespace Go.Sl
open Go Go.RowKit Go.WideShapes Go.ChangeShapes Go.ChangeMaps
set_option linter.unusedVariables false
set_option linter.unusedSimpArgs false

theorem Hp.below {W w' : World} {A : List As} (h : Hp (snap W) w' A) : Below W.heap.size W w' := by
  have hk : ∀ k, k < W.heap.size → w'.heap[k]? = W.heap[k]? := fun k hk => by
    have e : W.heap[k]? = some W.heap[k] := Array.getElem?_eq_getElem hk
    rw [e]
    exact h.keep k _ (by show hpBut W [] k = _; rw [hpBut_nil]; exact e)
  refine ⟨h.os, h.tape, h.output, ?_, hk⟩
  rcases Nat.lt_or_ge w'.heap.size W.heap.size with hlt | hge
  · have h1 := hk w'.heap.size hlt
    rw [Array.getElem?_eq_getElem hlt] at h1
    simp at h1
  · exact hge

section
variable {H : Type} {enc : TypeId × Value → H} {P : Program}
theorem law_post {f : Func} {s : ChangeSpec} {apart fresh handsOn again : Bool} {W W' : World} {args : Array Value} {v : Value} {ds gs : List (DataW H)} {before pa pv : List MemPlace}
    (hW : DataW.Whole enc P f.params.toList s.vars apart W args.toList ds gs before)
    (hres : ∀ (b : Nat) (sp : Nat → Bool) (hd : Bool), DataW.TrodAll enc P W' b sp hd f.resultTypes.toList (v.resultList f.resultTypes.size) (s.fn H (ds ++ gs)).results [])
    (hargs : ∀ sp : Nat → Bool, (∀ p ∈ before, sp p.block = true) → DataW.TrodAll enc P W' 0 sp true f.params.toList args.toList (s.fn H (ds ++ gs)).args pa)
    (hvars : ∀ sp : Nat → Bool, (∀ p ∈ before, sp p.block = true) → DataW.TrodVars enc P W' sp s.vars (s.fn H (ds ++ gs)).vars pv)
    (hps : before = pa ++ pv) (hb : Below W.heap.size W W')
    (hok : ∀ (j : Nat) (t : TypeId) (r : Value), f.resultTypes[j]? = some t → (v.resultList f.resultTypes.size)[j]? = some r → Value.okWide P W' .any 0 t r) :
    s.post enc P f apart fresh handsOn again W args v W' := by
  have hlt : ∀ p ∈ before, p.block < W.heap.size := fun p hp => hW.lt p hp
  have hold : ∀ p ∈ before, (fun b => decide (b < W.heap.size)) p.block = true := fun p hp => by simpa using hlt p hp
  refine ⟨ds, gs, before, [], pa, pv, hW, hres _ _ _, hargs _ hold, hvars _ hold, World.keptBut_mono (fun p hp => ⟨hp, ?_⟩) (hb.frame (· ∈ before)), fun _ => ?_⟩
  · rw [hps, List.mem_append] at hp
    exact Or.inr hp
  · obtain ⟨_, _, _, _, _, hz, hn⟩ := hW
    refine ⟨hok, _, _, ([] ++ pa) ++ pv, ⟨[] ++ pa, pv, trodAll_append (hargs _ (fun _ _ => rfl)) (hres _ _ _), hvars _ (fun _ _ => rfl), rfl, ?_, ?_⟩, ?_⟩
    · intro b off hp
      have hin : MemPlace.cell b off ∈ before := by rw [hps]; simpa using hp
      rw [hb.frozen (hlt _ hin)]
      exact hz b off hin
    · intro ha
      have := hn ha
      rw [hps] at this
      simpa using this
    · intro p hp _
      rw [hps]
      simpa using hp

theorem trodAll_below (hl : laidOutB P = true) {W W' : World} (hb : Below W.heap.size W W') (sp : Nat → Bool) : ∀ {ts : List TypeId} {vs : List Value} {ds : List (DataW H)} {ps : List MemPlace},
    (ts.all fun t => P.readableRec t && decide (t < P.types.size)) = true → DataW.TrodAll enc P W 0 (fun _ => true) true ts vs ds ps → (∀ p ∈ ps, p.block < W.heap.size) → (∀ p ∈ ps, sp p.block = true) →
      DataW.TrodAll enc P W' 0 sp true ts vs ds ps
  | [], vs, ds, ps, _, h, _, _ => by
    obtain ⟨rfl, rfl, rfl⟩ := trodAll_nil h
    rfl
  | t :: ts, vs, ds, ps, hr, h, hlt, hs => by
    obtain ⟨v, vs', d, ds', p, q, rfl, rfl, rfl, h1, h2⟩ := trodAll_cons h
    simp only [List.all_cons, Bool.and_eq_true, decide_eq_true_eq] at hr
    refine ⟨p, q, WideElems.Trod_stays hl hr.1.1 hr.1.2 h1 (fun x hx => hb.same (hlt x (List.mem_append.2 (.inl hx)))) (fun x hx => hs x (List.mem_append.2 (.inl hx))), ?_, rfl⟩
    exact trodAll_below hl hb sp (by simpa using hr.2) h2 (fun x hx => hlt x (List.mem_append.2 (.inr hx))) (fun x hx => hs x (List.mem_append.2 (.inr hx)))

/-- THE STEP FROM A CONTRACT TO THE ROW -/
theorem law_true {f : FuncId} {fn : Func} {s : ChangeSpec} {fresh handsOn again : Bool} {W : World} {vs : List Value} {ds gs : List (DataW H)} {before : List MemPlace} {Pre : Heap → Prop} {t : TypeId}
    (hc : Pu P f vs Pre (.bool true)) (hpre : Pre (hp W)) (hvs : s.vars = [])
    (hW : DataW.Whole enc P fn.params.toList s.vars false W vs ds gs before) (hres : fn.resultTypes = #[t]) (ht : P.underlying t = some .bool)
    (hl : laidOutB P = true) (hr : (fn.params.toList.all fun t => P.readableRec t && decide (t < P.types.size)) = true)
    (hs : s.fn H (ds ++ gs) = { results := [.lit (.bool true)], args := ds }) :
    Calls P f vs.toArray W fun e W' => ∃ v, e = .returned v ∧ s.post enc P fn false fresh handsOn again W vs.toArray v W' := by
  refine (hc W [] rfl List.nodup_nil (by rw [hpBut_nil]; exact hpre)).mono ?_
  rintro e W' ⟨v, A, rfl, ⟨rfl, rfl⟩, hh⟩
  refine ⟨_, rfl, ?_⟩
  have hW' := hW
  have hlt := fun p hp => hW'.lt p hp
  obtain ⟨p, q, hA, hV, hpq, hfz, hnd⟩ := hW
  rw [hvs] at hV
  obtain ⟨rfl, rfl⟩ := trodVars_none hV
  have hb := Hp.below hh
  refine law_post (pa := p) (pv := []) (args := vs.toArray) (by simpa using hW') (fun b sp hd => ?_) (fun sp hsp => ?_) (fun sp hsp => ?_) hpq hb ?_
  · rw [hs, hres]
    exact trodAll_cons_mk (shut_bool ht true) trodAll_mk0
  · rw [hs]
    refine trodAll_below hl hb sp hr hA (fun x hx => hlt x ?_) (fun x hx => hsp x ?_) <;> (rw [hpq]; simpa using hx)
  · rw [hs, hvs]; rfl
  · exact ok_one hres rfl (okWide_bool_mk ht true)

/-! ### arguments opened -/
end
end Go.Sl
namespace Go.Sl
open Go Go.RowKit Go.WideShapes Go.ChangeShapes Go.ChangeMaps
set_option linter.unusedVariables false
set_option linter.unusedSimpArgs false

mutual
def bulkOf {H : Type} : DataW H → Nat
  | .lit (.string bytes) => bytes.length + 1
  | .lit _ => 1
  | .nil => 1
  | .ptr d => bulkOf d + 1
  | .slice elems spare => bulkAll elems + bulkAll spare + 1
  | .agg parts => bulkAll parts + 1
  | .iface _ d => bulkOf d + 1
  | .map entries => bulkEntries entries + 1
  | .held _ => 1
def bulkAll {H : Type} : List (DataW H) → Nat
  | [] => 0
  | d :: r => bulkOf d + bulkAll r
def bulkEntries {H : Type} : List (Lit × DataW H) → Nat
  | [] => 0
  | x :: r => bulkEntry x + bulkEntries r
def bulkEntry {H : Type} : Lit × DataW H → Nat
  | (.string bytes, d) => bytes.length + bulkOf d + 1
  | (_, d) => bulkOf d + 1
end
theorem bulkAll_sum {H : Type} (l : List (DataW H)) : bulkAll l = (l.map bulkOf).sum := by
  induction l with
  | nil => rfl
  | cons d r ih => simp only [bulkAll, List.map_cons, List.sum_cons, ih]

/-- every reading of a type is one of these -/
structure Shp (P : Program) (t : TypeId) {α : Type} (cells : α → List Value) (ok : Heap → α → Prop) (bulk : α → Nat) : Prop where
  h : ∀ {H : Type} (enc : TypeId × Value → H) (w : World) (base : Nat) (sp : Nat → Bool) (held : Bool) (fuel : Nat) (cs : List Value) (x : DataW H × List MemPlace), DataW.trod enc P w base sp held fuel t cs = some x → ∃ y, cs = cells y ∧ ok (hp w) y ∧ bulk y ≤ bulkOf x.1

section
variable {P : Program} {t e : TypeId} {k : IntKind}
theorem shp_int (ht : P.underlying t = some (.int k)) : Shp P t (fun n : Int => [.int k n]) (fun _ n => (Lit.int k n).wf = true) (fun _ => 1) := ⟨fun enc w base sp held fuel cs x h => by
  obtain ⟨n, rfl, rfl, hw⟩ := DataW.trod_int ht h
  exact ⟨n, rfl, hw, Nat.le_refl _⟩⟩
theorem shp_bool (ht : P.underlying t = some .bool) : Shp P t (fun b : Bool => [.bool b]) (fun _ _ => True) (fun _ => 1) := ⟨fun enc w base sp held fuel cs x h => by
  obtain ⟨n, rfl, rfl⟩ := DataW.trod_bool ht h
  exact ⟨n, rfl, trivial, Nat.le_refl _⟩⟩
theorem shp_string (ht : P.underlying t = some .string) : Shp P t (fun l : List UInt8 => [B l]) (fun _ l => l.length ≤ maxLen) (fun l => l.length + 1) := ⟨fun enc w base sp held fuel cs x h => by
  obtain ⟨s, rfl, rfl, hs⟩ := DataW.trod_string ht h
  exact ⟨s.data.toList, rfl, by rw [Array.length_toList]; exact hs, by simp [bulkOf]⟩⟩

/-- what a reading of a slice says -/
structure SlOk {α : Type} (cells : α → List Value) (ok : Heap → α → Prop) (h : Heap) (a : Option Addr) (ls : List α) (c : Nat) : Prop where
  le : ls.length ≤ c
  max : c ≤ maxLen
  rd : RdS h a (ls.flatMap cells)
  each : ∀ y ∈ ls, ok h y
theorem flat_get {α : Type} {cells : α → List Value} {n : Nat} (hn : ∀ y, (cells y).length = n) (hpos : 0 < n) : ∀ (ls : List α) (j : Nat) (u : Value), (ls.flatMap cells)[j]? = some u → ∃ y, ls[j / n]? = some y ∧ (cells y)[j % n]? = some u
  | [], j, u, h => by simp at h
  | x :: r, j, u, h => by
    rw [List.flatMap_cons] at h
    by_cases hj : j < n
    · rw [List.getElem?_append_left (by rw [hn]; exact hj)] at h
      refine ⟨x, ?_, ?_⟩
      · rw [Nat.div_eq_of_lt hj]; rfl
      · rw [Nat.mod_eq_of_lt hj]; exact h
    · rw [List.getElem?_append_right (by rw [hn]; omega), hn] at h
      obtain ⟨y, h1, h2⟩ := flat_get hn hpos r (j - n) u h
      refine ⟨y, ?_, ?_⟩
      · have : j / n = (j - n) / n + 1 := by
          conv => lhs; rw [show j = (j - n) + n by omega]
          rw [Nat.add_div_right _ hpos]
        rw [this]; simpa using h1
      · rw [Nat.mod_eq_sub_mod (by omega)]; exact h2
theorem slice_open {α : Type} {cells : α → List Value} {ok : Heap → α → Prop} {bulk : α → Nat} (ht : P.underlying t = some (.slice e)) (S : Shp P e cells ok bulk) {n : Nat} (hc : P.cellsOf e = n) (hn : ∀ y, (cells y).length = n) (hpos : 0 < n)
    {H : Type} {enc : TypeId × Value → H} {w : World} {base : Nat} {sp : Nat → Bool} {held : Bool} {fuel : Nat} {cs : List Value} {x : DataW H × List MemPlace} (h : DataW.trod enc P w base sp held fuel t cs = some x) :
    ∃ (a : Option Addr) (ls : List α) (c : Nat), cs = [.slice a ls.length c] ∧ SlOk cells ok (hp w) a ls c ∧ ((x.1 = .nil ∧ ls = []) ∨ ∃ elems spare, x.1 = .slice elems spare ∧ elems.length = ls.length) ∧ (ls.map bulk).sum + 1 ≤ bulkOf x.1 := by
  rcases DataW.trod_slice ht h with ⟨rfl, rfl⟩ | ⟨a, len, cap, elems, rest, m, _, rfl, rfl, hb, hl, hm, hlen, hel, _, _⟩
  · exact ⟨none, [], 0, rfl, ⟨Nat.le_refl _, Nat.zero_le _, RdS.nil _ _, by simp⟩, .inl ⟨rfl, rfl⟩, by simp [bulkOf]⟩
  · have key : ∀ (k : Nat), k ≤ len → ∃ ls : List α, ls.length = k ∧ (∀ i y, ls[i]? = some y → w.cells? base (a.add (i * n)) n = some (cells y) ∧ ok (hp w) y) ∧ (ls.map bulk).sum ≤ ((elems.take k).map (fun x => bulkOf x.1)).sum := by
      intro k
      induction k with
      | zero => intro _; exact ⟨[], rfl, by simp, by simp⟩
      | succ k ih =>
        intro hk
        obtain ⟨ls, h1, h2, h3⟩ := ih (by omega)
        have h4 := hel k (by omega)
        have hk' : k < elems.length := by omega
        rw [List.getElem?_eq_getElem hk', hc, Option.bind_eq_some_iff] at h4
        obtain ⟨cs, h5, h6⟩ := h4
        obtain ⟨y, rfl, h7, h8⟩ := S.h enc w base sp held m cs _ h6
        refine ⟨ls ++ [y], by simp [h1], fun i z hz => ?_, ?_⟩
        · by_cases hi : i < k
          · rw [List.getElem?_append_left (by omega)] at hz; exact h2 i z hz
          · rw [List.getElem?_append_right (by omega)] at hz
            have hi0 : i = k := by
              have := (List.getElem?_eq_some_iff.1 hz).1
              simp at this; omega
            subst hi0
            simp [h1] at hz; subst hz
            exact ⟨h5, h7⟩
        · rw [List.take_succ_eq_append_getElem hk']
          simp only [List.map_append, List.map_cons, List.map_nil, List.sum_append, List.sum_cons, List.sum_nil]
          omega
    obtain ⟨ls, h1, h2, h3⟩ := key len (Nat.le_refl _)
    subst h1
    refine ⟨some a, ls, cap, rfl, ⟨hl, hm, fun _ => ⟨a, rfl, fun j u hu => ?_⟩, fun y hy => ?_⟩, .inr ⟨_, _, rfl, by simp [hlen]⟩, ?_⟩
    · obtain ⟨y, h4, h5⟩ := flat_get hn hpos ls j u hu
      obtain ⟨h6, _⟩ := h2 _ _ h4
      have h7 := (World.cells?_some h6).2.2 (j % n) (Nat.mod_lt _ hpos)
      rw [cell?_hp]
      rw [h5, add_add] at h7
      have : j / n * n + j % n = j := by rw [Nat.mul_comm]; exact Nat.div_add_mod j n
      rw [this] at h7; exact h7
    · obtain ⟨i, hi⟩ := List.getElem?_of_mem hy
      exact (h2 i y hi).2
    · simp only [bulkOf, bulkAll_sum, List.map_map]
      rw [List.take_of_length_le (by omega)] at h3
      simp only [Function.comp_def]
      omega
theorem shp_slice {α : Type} {cells : α → List Value} {ok : Heap → α → Prop} {bulk : α → Nat} (ht : P.underlying t = some (.slice e)) (S : Shp P e cells ok bulk) {n : Nat} (hc : P.cellsOf e = n) (hn : ∀ y, (cells y).length = n) (hpos : 0 < n) :
    Shp P t (fun y : Option Addr × List α × Nat => [.slice y.1 y.2.1.length y.2.2]) (fun h y => SlOk cells ok h y.1 y.2.1 y.2.2) (fun y => (y.2.1.map bulk).sum + 1) := ⟨fun enc w base sp held fuel cs x h => by
  obtain ⟨a, ls, c, h1, h2, _, h3⟩ := slice_open ht S hc hn hpos h
  exact ⟨(a, ls, c), h1, h2, h3⟩⟩

/-- the fields of a struct, one behind the other -/
structure ShpF (P : Program) (fs : List Field) (off tot : Nat) {α : Type} (cells : α → List Value) (ok : Heap → α → Prop) (bulk : α → Nat) : Prop where
  h : ∀ {H : Type} (enc : TypeId × Value → H) (w : World) (base : Nat) (sp : Nat → Bool) (held : Bool) (n : Nat) (cs : List Value) (xs : List (DataW H × List MemPlace)), xs.length = fs.length → cs.length = tot →
    (∀ (i : Nat) (f : Field), fs[i]? = some f → DataW.trod enc P w base sp held n f.type ((cs.drop f.offset).take (P.cellsOf f.type)) = xs[i]?) → ∃ y, cs.drop off = cells y ∧ ok (hp w) y ∧ bulk y ≤ (xs.map fun x => bulkOf x.1).sum
theorem shpF_nil {tot : Nat} : ShpF P [] tot tot (fun _ : Unit => []) (fun _ _ => True) (fun _ => 0) := ⟨fun enc w base sp held n cs xs _ hl _ =>
  ⟨(), by rw [List.drop_of_length_le (by omega)], trivial, Nat.zero_le _⟩⟩
theorem shpF_cons {f : Field} {fs : List Field} {off off' tot k : Nat} {α β : Type} {c1 : α → List Value} {ok1 : Heap → α → Prop} {b1 : α → Nat} {c2 : β → List Value} {ok2 : Heap → β → Prop} {b2 : β → Nat}
    (S : Shp P f.type c1 ok1 b1) (ho : f.offset = off) (hk : P.cellsOf f.type = k) (ho2 : off' = off + k) (R : ShpF P fs off' tot c2 ok2 b2) :
    ShpF P (f :: fs) off tot (fun y : α × β => c1 y.1 ++ c2 y.2) (fun h y => ok1 h y.1 ∧ ok2 h y.2) (fun y => b1 y.1 + b2 y.2) := ⟨fun enc w base sp held n cs xs hl hcs hall => by
  cases xs with
  | nil => simp at hl
  | cons x xs =>
    have h0 := hall 0 f rfl
    rw [ho, hk] at h0
    obtain ⟨y, h1, h2, h3⟩ := S.h enc w base sp held n _ _ h0
    obtain ⟨z, h4, h5, h6⟩ := R.h enc w base sp held n cs xs (by simpa using hl) hcs (fun i g hg => by have := hall (i + 1) g (by simpa using hg); simpa using this)
    refine ⟨(y, z), ?_, ⟨h2, h5⟩, ?_⟩
    · simp only
      rw [← h1, ← h4, ho2, ← List.drop_drop, List.take_append_drop]
    · simp only [List.map_cons, List.sum_cons]; omega⟩
theorem shp_struct {fs : Array Field} {tot : Nat} {α : Type} {cells : α → List Value} {ok : Heap → α → Prop} {bulk : α → Nat} (ht : P.underlying t = some (.struct fs)) (hc : P.cellsOf t = tot) (R : ShpF P fs.toList 0 tot cells ok bulk) : Shp P t cells ok bulk := ⟨fun enc w base sp held fuel cs x h => by
  obtain ⟨xs, n, _, rfl, h1, h2, h3⟩ := DataW.trod_struct ht h
  obtain ⟨y, h4, h5, h6⟩ := R.h enc w base sp held n cs xs (by simpa using h2) (by rw [h1, hc]) (fun i f hf => h3 i f (by simpa using hf))
  refine ⟨y, by simpa using h4, h5, ?_⟩
  simp only [bulkOf, bulkAll_sum, List.map_map, Function.comp_def]
  omega⟩
/-- the same, in other words -/
theorem Shp.map {α β : Type} {c1 : α → List Value} {ok1 : Heap → α → Prop} {b1 : α → Nat} {c2 : β → List Value} {ok2 : Heap → β → Prop} {b2 : β → Nat} (S : Shp P t c1 ok1 b1) (f : α → β) (hc : ∀ y, c1 y = c2 (f y)) (ho : ∀ h y, ok1 h y → ok2 h (f y)) (hb : ∀ y, b2 (f y) ≤ b1 y) : Shp P t c2 ok2 b2 := ⟨fun enc w base sp held fuel cs x h => by
  obtain ⟨y, h1, h2, h3⟩ := S.h enc w base sp held fuel cs x h
  exact ⟨f y, by rw [h1, hc], ho _ _ h2, Nat.le_trans (hb y) h3⟩⟩

variable {H : Type} {enc : TypeId × Value → H} {w : World} {r : Reach} {b0 base : Nat} {sp : Nat → Bool} {held : Bool} {v : Value} {d : DataW H} {ps : List MemPlace}
theorem arg_struct {fs : Array Field} {α : Type} {cells : α → List Value} {ok : Heap → α → Prop} {bulk : α → Nat} (ht : P.underlying t = some (.struct fs)) (S : Shp P t cells ok bulk)
    (hval : Value.okWide P w r b0 t v) (hd : DataW.Trod enc P w base sp held t v d ps) :
    ∃ y : α, v = .agg (cells y).toArray ∧ ok (hp w) y ∧ bulk y ≤ bulkOf d := by
  obtain ⟨cs, rfl, _⟩ := okWide_struct ht hval
  obtain ⟨fuel, hf⟩ := hd
  obtain ⟨y, h1, h2, h3⟩ := S.h enc w base sp held fuel _ _ hf
  refine ⟨y, ?_, h2, h3⟩
  rw [← h1]; simp [Value.cells]
end
theorem flat_ints (l : List Int) : (l.flatMap fun n => [Value.int .i64 n]) = intsV l := by
  induction l with
  | nil => rfl
  | cons x r ih => rw [List.flatMap_cons, ih]; rfl
/-- every reading of a type, of bearable weight, is one of these -/
structure ShpW (P : Program) (t : TypeId) {α : Type} (cells : α → List Value) (ok : Heap → α → Prop) : Prop where
  h : ∀ {H : Type} (enc : TypeId × Value → H) (w : World) (base : Nat) (sp : Nat → Bool) (held : Bool) (fuel : Nat) (cs : List Value) (x : DataW H × List MemPlace), DataW.trod enc P w base sp held fuel t cs = some x → (x.1.weights P t).all (· ≤ reachBytes) = true → ∃ y, cs = cells y ∧ ok (hp w) y

section
variable {P : Program} {t e : TypeId} {k : IntKind}
theorem Shp.w {α : Type} {cells : α → List Value} {ok : Heap → α → Prop} {bulk : α → Nat} (S : Shp P t cells ok bulk) : ShpW P t cells ok := ⟨fun enc w base sp held fuel cs x h _ => by
  obtain ⟨y, h1, h2, _⟩ := S.h enc w base sp held fuel cs x h
  exact ⟨y, h1, h2⟩⟩
theorem ShpW.map {α β : Type} {c1 : α → List Value} {ok1 : Heap → α → Prop} {c2 : β → List Value} {ok2 : Heap → β → Prop} (S : ShpW P t c1 ok1) (f : α → β) (hc : ∀ y, c1 y = c2 (f y)) (ho : ∀ h y, ok1 h y → ok2 h (f y)) : ShpW P t c2 ok2 := ⟨fun enc w base sp held fuel cs x h hw => by
  obtain ⟨y, h1, h2⟩ := S.h enc w base sp held fuel cs x h hw
  exact ⟨f y, by rw [h1, hc], ho _ _ h2⟩⟩

variable {H : Type} {enc : TypeId × Value → H} {w : World} {r : Reach} {b0 base : Nat} {sp : Nat → Bool} {held : Bool} {v : Value} {d : DataW H} {ps : List MemPlace}
end
section
variable {P : Program} {t e : TypeId} {k : IntKind} {n : Nat}
def intOf : Value → Int
  | .int _ z => z
  | _ => 0
/-- an array of numbers -/
theorem shp_ints (ht : P.underlying t = some (.array n e)) (he : P.underlying e = some (.int k)) (hce : P.cellsOf e = 1) (hct : P.cellsOf t = n) :
    Shp P t (fun l : List Int => l.map (.int k)) (fun _ l => l.length = n ∧ ∀ z ∈ l, (Lit.int k z).wf = true) (fun _ => 0) := ⟨fun enc w base sp held fuel cs x h => by
  obtain ⟨xs, m, _, _, h1, h2, h3⟩ := DataW.trod_array ht h
  rw [hct] at h1
  have key : ∀ i (hi : i < cs.length), ∃ z, cs[i] = .int k z ∧ (Lit.int k z).wf = true := fun i hi => by
    have h4 := h3 i (by omega)
    rw [List.getElem?_eq_getElem (by omega), hce, Nat.mul_one] at h4
    obtain ⟨z, h5, _, h6⟩ := DataW.trod_int he h4
    refine ⟨z, ?_, h6⟩
    have h7 : (cs.drop i).take 1 = [cs[i]] := by rw [List.drop_eq_getElem_cons hi]; rfl
    rw [h7] at h5
    injection h5
  refine ⟨cs.map intOf, ?_, ⟨by simp [h1], fun z hz => ?_⟩, Nat.zero_le _⟩
  · apply List.ext_getElem (by simp)
    intro i hi _
    obtain ⟨z, h5, _⟩ := key i hi
    simp [h5, intOf]
  · obtain ⟨v, hv, rfl⟩ := List.mem_map.1 hz
    obtain ⟨i, hi, rfl⟩ := List.getElem_of_mem hv
    obtain ⟨z, h5, h6⟩ := key i hi
    rw [h5]; exact h6⟩
variable {H : Type} {enc : TypeId × Value → H} {w : World} {r : Reach} {b0 base : Nat} {sp : Nat → Bool} {held : Bool} {v : Value} {d : DataW H} {ps : List MemPlace}
end
end Go.Sl
/- What a log is, as an argument. -/
namespace Go.Proofs.YtodcghipfolejaaGreat
open Go Go.Sl Go.RowKit Go.WideShapes Go.ChangeShapes
set_option linter.unusedVariables false
set_option linter.unusedSimpArgs false

theorem shpEnt : Shp Tryz.prog 51 (fun e : Ent => entC e) (fun _ e => (Lit.int .u64 e.1).wf = true ∧ e.2.2.length ≤ maxLen) (fun e => e.2.2.length + 3) :=
  (shp_struct Tryz.underlying51 z_7 (shpF_cons (k := 1) (off' := 1) (shp_int (k := .u64) z_7) rfl z_7 rfl (shpF_cons (k := 1) (off' := 2) (shp_int (k := .i64) z_7) rfl z_7 rfl (shpF_cons (k := 1) (off' := 3) (shp_string z_7) rfl z_7 rfl shpF_nil)))).map (fun y => (y.1, y.2.1, y.2.2.1)) (fun y => rfl) (fun h y o => ⟨o.1, o.2.2.1⟩) (fun y => by simp only; omega)
end Go.Proofs.YtodcghipfolejaaGreat
/- A play, as an argument. -/
namespace Go.Proofs.YtodcghipfolejaaGreat.Rf
open Go Go.Sl Go.RowKit Go.WideShapes Go.ChangeShapes
set_option linter.unusedVariables false
set_option linter.unusedSimpArgs false

theorem shpMsg : Shp Tryz.prog 38 (fun m : MM => mmC m) (fun h m => MOk h m) (fun _ => 0) :=
  (shp_struct Tryz.underlying38 z_7
    (shpF_cons (k := 1) (off' := 1) (shp_int (k := .i64) z_7) rfl z_7 rfl
    (shpF_cons (k := 1) (off' := 2) (shp_int (k := .i64) z_7) rfl z_7 rfl
    (shpF_cons (k := 1) (off' := 3) (shp_int (k := .i64) z_7) rfl z_7 rfl
    (shpF_cons (k := 1) (off' := 4) (shp_int (k := .u64) z_7) rfl z_7 rfl
    (shpF_cons (k := 1) (off' := 5) (shp_int (k := .u64) z_7) rfl z_7 rfl
    (shpF_cons (k := 1) (off' := 6) (shp_int (k := .u64) z_7) rfl z_7 rfl
    (shpF_cons (k := 1) (off' := 7) (shp_int (k := .u64) z_7) rfl z_7 rfl
    (shpF_cons (k := 1) (off' := 8) (shp_bool z_7) rfl z_7 rfl
    (shpF_cons (k := 1) (off' := 9) (shp_slice (e := 51) z_7 shpEnt (n := 3) z_7 (fun _ => rfl) (by decide)) rfl z_7 rfl
    (shpF_cons (k := 1) (off' := 10) (shp_slice (e := 3) z_7 (shp_int (k := .i64) z_7) (n := 1) z_7 (fun _ => rfl) (by decide)) rfl z_7 rfl
    (shpF_cons (k := 1) (off' := 11) (shp_int (k := .i64) z_7) rfl z_7 rfl
    (shpF_cons (k := 1) (off' := 12) (shp_int (k := .i64) z_7) rfl z_7 rfl
    (shpF_cons (k := 1) (off' := 13) (shp_string z_7) rfl z_7 rfl shpF_nil)))))))))))))).map
    (fun y => (⟨⟨y.1, y.2.1, y.2.2.1, y.2.2.2.1, y.2.2.2.2.1, y.2.2.2.2.2.1, y.2.2.2.2.2.2.1, y.2.2.2.2.2.2.2.1, y.2.2.2.2.2.2.2.2.1.2.1, y.2.2.2.2.2.2.2.2.2.1.2.1, y.2.2.2.2.2.2.2.2.2.2.1, y.2.2.2.2.2.2.2.2.2.2.2.1, y.2.2.2.2.2.2.2.2.2.2.2.2.1⟩,
      y.2.2.2.2.2.2.2.2.1.1, y.2.2.2.2.2.2.2.2.1.2.2, y.2.2.2.2.2.2.2.2.2.1.1, y.2.2.2.2.2.2.2.2.2.1.2.2⟩ : MM)) (fun y => rfl)
    (fun h y o => by
      obtain ⟨_, _, _, _, _, _, _, _, o9, o10, _⟩ := o
      have h7 := o10.rd
      rw [flat_ints] at h7
      exact ⟨o9.rd, h7, o9.le⟩)
    (fun y => Nat.zero_le _)
theorem shpActA : Shp Tryz.prog 40 (fun a : AcM => acC a) (fun h a => MOk h a.m) (fun _ => 0) :=
  (shp_struct Tryz.underlying40 z_7
    (shpF_cons (k := 1) (off' := 1) (shp_int (k := .i64) z_7) rfl z_7 rfl
    (shpF_cons (k := 1) (off' := 2) (shp_int (k := .i64) z_7) rfl z_7 rfl
    (shpF_cons (k := 1) (off' := 3) (shp_int (k := .i64) z_7) rfl z_7 rfl
    (shpF_cons (k := 1) (off' := 4) (shp_bool z_7) rfl z_7 rfl
    (shpF_cons (k := 1) (off' := 5) (shp_string z_7) rfl z_7 rfl
    (shpF_cons (k := 13) (off' := 18) shpMsg rfl z_7 rfl shpF_nil))))))).map
    (fun y => (⟨y.1, y.2.1, y.2.2.1, y.2.2.2.1, y.2.2.2.2.1, y.2.2.2.2.2.1⟩ : AcM)) (fun y => rfl)
    (fun h y o => o.2.2.2.2.2.1)
    (fun y => Nat.zero_le _)
theorem five {l : List Int} (h : l.length = 5) : ∃ a b c d e, l = [a, b, c, d, e] := by
  match l, h with
  | [a, b, c, d, e], _ => exact ⟨a, b, c, d, e, rfl⟩
theorem shpPlay : Shp Tryz.prog 25 (fun p : PlM => plC p) (fun h p => PlOk h p ∧ p.acts.length ≤ p.pc) (fun _ => 0) := ⟨fun enc w base sp held fuel cs x h => by
  obtain ⟨y, h1, h2, _⟩ := (shp_struct Tryz.underlying25 z_7
    (shpF_cons (k := 1) (off' := 1) (shp_int (k := .i64) z_7) rfl z_7 rfl
    (shpF_cons (k := 5) (off' := 6) (shp_ints (n := 5) (e := 3) (k := .i64) z_7 z_7 z_7 z_7) rfl z_7 rfl
    (shpF_cons (k := 1) (off' := 7) (shp_slice (e := 40) z_7 shpActA (n := 18) z_7 (fun _ => rfl) (by decide)) rfl z_7 rfl shpF_nil)))).h enc w base sp held fuel cs x h
  obtain ⟨mem, tos, sl, u⟩ := y
  obtain ⟨_, o2, o3, _⟩ := h2
  obtain ⟨a, b, c, d, e, rfl⟩ := five o2.1
  exact ⟨⟨mem, a, b, c, d, e, sl.2.1, sl.1, sl.2.2⟩, h1, ⟨⟨o3.rd, fun x hx => o3.each x hx⟩, o3.le⟩, Nat.zero_le _⟩⟩
end Go.Proofs.YtodcghipfolejaaGreat.Rf
