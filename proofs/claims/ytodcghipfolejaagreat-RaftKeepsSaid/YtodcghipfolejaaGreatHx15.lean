import Derived.Test.YtodcghipfolejaaGreatHx14
import Derived.Test.YtodcghipfolejaaGreatHx4
import Derived.Test.YtodcghipfolejaaGreatHx9
import Derived.Test.YtodcghipfolejaaGreatHx13
/- The laws' own functions: Begin. -/
namespace Go.Proofs.YtodcghipfolejaaGreat.Rf
open Go Go.Sl
set_option linter.unusedVariables false
set_option linter.unusedSimpArgs false
-- ARR

/-- what comes back of 'Begin' -/
def BegP (p : PlM) (v : Value) (A : List As) : Prop :=
  ∃ (s : WS) (Z : List As), v = .tuple #[.agg #[.slice s.ma s.ms.length s.mc, .slice s.fa s.fm.length s.fc], .bool true] ∧ s.w = beginP p.p ∧ A = OwnMi s.ma s.ms s.mc :: Z ∧ ∀ h, (∃ bs, Sat h Z bs) → WS.ok h s
theorem pl_tos (p : PlM) {i : Nat} (hi : i < 5) : (plC p).toArray[1 + i]? = some (.int .i64 (p.p.tos.getD i 0)) := by
  have : i = 0 ∨ i = 1 ∨ i = 2 ∨ i = 3 ∨ i = 4 := by omega
  rcases this with rfl | rfl | rfl | rfl | rfl <;> rfl
structure BegI (p : PlM) (x : List Mi × Option Addr × Nat × List As) : Prop where
  len : x.1.length ≤ 5
  ms : x.1.map (·.1) = (List.range x.1.length).map (newN p.p)
  ok : ∀ h, (∃ bs, Sat h x.2.2.2 bs) → ∀ y ∈ x.1, RRd h y.1 y.2 ∧ y.1.l.length ≤ y.2.lc
set_option maxRecDepth 16000 in
set_option maxHeartbeats 8000000 in
theorem Begin_ct (p : PlM) : Ct Tryz.prog 10 [plA p] (fun _ => True) [] (BegP p) := by
  refine ct_enter 38 Tryz.func10 rfl rfl rfl ?_
  intro F _
  repeat refine y_ ?_
  refine g_region ?_
  refine gl_boxA rfl rfl ?_; intro g1
  refine gl_allocA rfl ?_; intro g2
  refine f_ (s_assign rfl) ?_
  refine gl_nil ?_
  repeat refine y_ ?_
  refine g_region ?_
  refine gl_allocA rfl ?_; intro g4
  refine gl_nil ?_
  repeat refine y_ ?_
  refine g_region ?_
  refine f_ (s_assign rfl) ?_
  refine gl_nil ?_
  repeat refine y_ ?_
  refine g_own_nil 49 18 ?_
  refine g_loop (ι := List Mi × Option Addr × Nat × List As) (BegI p) (fun x => [(1, Ptr g1), (2, Ptr g2), (4, Ptr g4), (5, .int .i64 ((x.1.length : Nat) + 1))]) (fun x => .blk g4 (.cells #[.slice x.2.1 x.1.length x.2.2.1, .slice none 0 0] 31) :: .blk g1 (.cells (plC p).toArray 25) :: .blk g2 (.cells #[.slice none 0 0, .slice none 0 0] 31) :: OwnMi x.2.1 x.1 x.2.2.1 :: x.2.2.2) (fun x => 5 - x.1.length) ([], none, 0, []) ⟨Nat.zero_le _, rfl, fun h _ y hy => by cases hy⟩ ?_ ?_ ?_
  · (repeat (first | exact Sub.nil _ | refine Sub.cons rfl ?_))
  · intro w hw; exact hw.perm (perm_up z_3 (perm_up z_3 (perm_up z_3 (.refl _))))
  rintro ⟨ms, ma, mc, Z⟩ ⟨hl, hms, hZ⟩
  simp only at hl hms hZ
  repeat refine y_ ?_
  refine g_region ?_
  refine m_ ?_
  refine f_ (s_leq rfl rfl) ?_
  refine gl_nil ?_
  repeat refine y_ ?_
  refine g_cond rfl (fun h => ?_) (fun h => ?_)
  rotate_left
  · have h5 : ms.length = 5 := by simp at h; omega
    repeat refine y_ ?_
    refine g_region ?_
    refine r_ z_11 ?_
    (first | refine gl_store_blkW rfl rfl z_6 z_10 z_10 z_2 ?_ | refine gl_store_blk rfl rfl z_6 z_10 z_2 z_10 ?_)
    refine f_ (s_assign rfl) ?_
    refine gl_nil ?_
    repeat refine y_ ?_
    refine g_ret ?_
    exact at_endB1 rfl rfl rfl z_3 rfl (OwnMi ma ms mc :: Z) ⟨⟨ms, [], ma, mc, none, 0⟩, Z, rfl, by
      show (⟨ms.map (·.1), []⟩ : WP) = beginP p.p
      rw [hms, h5]; rfl, rfl, fun h hs => ⟨fun y hy => (hZ h hs y hy).1, fun y hy => (hZ h hs y hy).2, RdS.nil _ _, (fun m hm => by cases hm), Nat.le_refl _⟩⟩ (fun w hw => hw.drop.drop.drop)
  have hlt : ms.length < 5 := by simp at h; omega
  obtain ⟨t, ht⟩ : ∃ t, t = p.p.tos.getD ms.length 0 := ⟨_, rfl⟩
  have htr := uM_range t (k := 1000) (by decide)
  have hbn : badNew ((ms.length : Int) + 1) (toP t) = false := badNew_no (by omega) (by unfold toP; omega)
  have hml := memP_le p.mem
  have hpn : ∀ (ca : Option Addr) (cc : Nat), newP ((ms.length : Int) + 1) ⟨0, 0, 0⟩ ⟨0, 0, memP p.mem, [], ca, cc, none, 0⟩ [] (toP t) = newN p.p ms.length := fun ca cc => by rw [ht]; rfl
  have hto := pl_tos p hlt
  rw [← ht] at hto
  obtain ⟨p1, hp1⟩ : ∃ p1, p1 = newN p.p ms.length := ⟨_, rfl⟩
  repeat refine y_ ?_
  refine g_cutE (ι := Nat × RA) (fun x => [(1, Ptr g1), (2, Ptr g2), (4, Ptr g4), (5, .int .i64 ((ms.length : Nat) + 1)), (6, Ptr x.1), (7, .int .i64 0)]) (fun x => .blk x.1 (.cells (rsC p1 x.2).toArray 49) :: .blk g4 (.cells #[.slice ma ms.length mc, .slice none 0 0] 31) :: .blk g1 (.cells (plC p).toArray 25) :: .blk g2 (.cells #[.slice none 0 0, .slice none 0 0] 31) :: OwnMi ma ms mc :: (OwnS p1 x.2 ++ Z)) ?_ (fun x => ?_)
  · repeat refine y_ ?_
    refine g_draw ([3, 10], [0, 0, 0, 4, 12, 28, 0, 64, 0, 448, 960, 2012, 4095, 8191, 16383, 16383, 0, 98303, 262143], [4, 11, 12, 16, 17]) [.blk g1 (.cells (plC p).toArray 25)] 19 rfl ?_
    refine w_ 0 rfl (s_move rfl) ?_
    refine w_ 1 rfl ((s_bld (cells := #[.int .u64 0, .int .i64 0, .int .u64 0]) rfl z_7)) ?_
    refine w_ 2 rfl z_1 ?_
    (first | refine ga_read_k 3 rfl z_5 (s_load_blk rfl .del z_10) (by (first | exact fun _ h => h | (repeat first | exact sub_nil | refine sub_cons z_4 ?_))) rfl rfl rfl z_7 ?_ | refine ga_readF 3 rfl (s_load1 rfl (fun w hw => peekB hw (by assumption) z_10)) (by (first | exact fun _ h => h | (repeat first | exact sub_nil | refine sub_cons z_4 ?_))) rfl rfl rfl z_7 ?_)
    refine w_ 6 rfl (s_move rfl) ?_
    refine w_ 7 rfl ((s_sub_i64 rfl rfl (by show -9223372036854775808 ≤ (ms.length : Int) + 1 - 1 ∧ (ms.length : Int) + 1 - 1 ≤ 9223372036854775807; omega)).eq (v' := .int .i64 (ms.length : Nat)) (by congr 1; show (ms.length : Int) + 1 - 1 = (ms.length : Nat); omega)) ?_
    refine w_ 8 rfl z_1 ?_
    refine w_ 9 rfl (s_indexAddr_arr rfl rfl (by omega)) ?_
    refine ga_read_k 10 rfl z_5 (s_load_blk (v := .int .i64 t) rfl .del (by rw [show 0 + 1 + ((ms.length : Nat) : Int).toNat * 1 = 1 + ms.length by omega]; exact hto)) (by (first | exact fun _ h => h | (repeat first | exact sub_nil | refine sub_cons z_4 ?_))) rfl rfl rfl z_7 ?_
    refine ga_two 4 16 rfl rfl z_7 ?_ ?_
    refine gl_call _ rfl (rmem_ct p.mem) (fun w hw => hw) (fun _ _ _ => trivial) rfl ?_; rintro v A ⟨ca, cc, rfl, rfl⟩
    refine gl_nil ?_
    refine at_ga (.inr (by exact keeps_of (by (first | exact fun _ h => h | (repeat first | exact sub_nil | refine sub_cons z_4 ?_))))) ?_
    refine w_ 5 rfl ((s_bld (cells := #[.int .u64 0, .int .u64 0, .slice ca (memP p.mem).length cc, .slice none 0 0]) rfl z_7).eq (v' := LM.v ⟨0, 0, memP p.mem, [], ca, cc, none, 0⟩) rfl) ?_
    refine ga_two 11 16 rfl rfl z_7 ?_ ?_
    refine gl_callp rfl (timeout_ct t) (fun _ _ _ => trivial) rfl ?_
    refine gl_nil ?_
    refine at_ga (.inl z_7) ?_
    refine ga_two 12 16 rfl rfl z_7 ?_ ?_
    refine gl_call _ rfl (New_ok ((ms.length : Int) + 1) ⟨0, 0, 0⟩ ⟨0, 0, memP p.mem, [], ca, cc, none, 0⟩ [] (toP t) (by show (memP p.mem).length ≤ _; omega) (Nat.zero_le _) hbn) (fun w hw => hw) (fun h hh ⟨bs, hb⟩ => ⟨Sat.rd (a := ca) hb z_3, RdS.nil _ _⟩) rfl ?_; rw [hpn, ← hp1]; rintro v A ⟨a1, rfl, rfl⟩
    refine gl_nil ?_
    refine at_ga (.inl z_7) ?_
    refine w_ 13 rfl (s_move rfl) ?_
    refine w_ 14 rfl (s_extract rfl rfl) ?_
    refine w_ 15 rfl (s_extract rfl rfl) ?_
    refine ga_one 16 rfl z_7 ?_
    refine gl_allocA rfl ?_; intro g6
    refine gl_nil ?_
    refine at_ga (.inl z_7) ?_
    refine ga_one 17 rfl z_7 ?_
    (first | refine gl_store_blkW rfl rfl z_6 z_10 z_10 z_2 ?_ | refine gl_store_blk rfl rfl z_6 z_10 z_2 z_10 ?_)
    refine gl_nil ?_
    refine at_ga (.inl z_7) ?_
    refine w_ 18 rfl (s_assign rfl) ?_
    refine ga_done z_7 ?_
    rotate_left 1
    refine gl_allocA rfl ?_; intro g6
    refine gl_nil ?_
    refine at_ga (.inl z_7) ?_
    refine ga_one 12 rfl z_7 ?_
    refine gl_call _ rfl (New_ok ((ms.length : Int) + 1) ⟨0, 0, 0⟩ ⟨0, 0, memP p.mem, [], ca, cc, none, 0⟩ [] (toP t) (by show (memP p.mem).length ≤ _; omega) (Nat.zero_le _) hbn) (fun w hw => hw) (fun h hh ⟨bs, hb⟩ => ⟨Sat.rd (a := ca) hb z_3, RdS.nil _ _⟩) rfl ?_; rw [hpn, ← hp1]; rintro v A ⟨a1, rfl, rfl⟩
    refine gl_nil ?_
    refine at_ga (.inl z_7) ?_
    refine w_ 13 rfl (s_move rfl) ?_
    refine w_ 14 rfl (s_extract rfl rfl) ?_
    refine w_ 15 rfl (s_extract rfl rfl) ?_
    refine ga_one 17 rfl z_7 ?_
    (first | refine gl_store_blkW rfl rfl z_6 z_10 z_10 z_2 ?_ | refine gl_store_blk rfl rfl z_6 z_10 z_2 z_10 ?_)
    refine gl_nil ?_
    refine at_ga (.inl z_7) ?_
    refine w_ 18 rfl (s_assign rfl) ?_
    refine ga_done z_7 ?_
    rotate_left 1
    refine gl_allocA rfl ?_; intro g6
    refine gl_nil ?_
    refine at_ga (.inr (by exact keeps_of (by (first | exact fun _ h => h | (repeat first | exact sub_nil | refine sub_cons z_4 ?_))))) ?_
    refine ga_one 11 rfl z_7 ?_
    refine gl_callp rfl (timeout_ct t) (fun _ _ _ => trivial) rfl ?_
    refine gl_nil ?_
    refine at_ga (.inl z_7) ?_
    refine ga_one 12 rfl z_7 ?_
    refine gl_call _ rfl (New_ok ((ms.length : Int) + 1) ⟨0, 0, 0⟩ ⟨0, 0, memP p.mem, [], ca, cc, none, 0⟩ [] (toP t) (by show (memP p.mem).length ≤ _; omega) (Nat.zero_le _) hbn) (fun w hw => hw) (fun h hh ⟨bs, hb⟩ => ⟨Sat.rd (a := ca) hb z_3, RdS.nil _ _⟩) rfl ?_; rw [hpn, ← hp1]; rintro v A ⟨a1, rfl, rfl⟩
    refine gl_nil ?_
    refine at_ga (.inl z_7) ?_
    refine w_ 13 rfl (s_move rfl) ?_
    refine w_ 14 rfl (s_extract rfl rfl) ?_
    refine w_ 15 rfl (s_extract rfl rfl) ?_
    refine ga_one 17 rfl z_7 ?_
    (first | refine gl_store_blkW rfl rfl z_6 z_10 z_10 z_2 ?_ | refine gl_store_blk rfl rfl z_6 z_10 z_2 z_10 ?_)
    refine gl_nil ?_
    refine at_ga (.inl z_7) ?_
    refine w_ 18 rfl (s_assign rfl) ?_
    refine ga_done z_7 ?_
    rotate_left 1
    refine gl_allocA rfl ?_; intro g6
    refine gl_nil ?_
    refine at_ga (.inr (by exact keeps_of (by (first | exact fun _ h => h | (repeat first | exact sub_nil | refine sub_cons z_4 ?_))))) ?_
    refine ga_one 4 rfl z_7 ?_
    refine gl_call _ rfl (rmem_ct p.mem) (fun w hw => hw) (fun _ _ _ => trivial) rfl ?_; rintro v A ⟨ca, cc, rfl, rfl⟩
    refine gl_nil ?_
    refine at_ga (.inr (by exact keeps_of (by (first | exact fun _ h => h | (repeat first | exact sub_nil | refine sub_cons z_4 ?_))))) ?_
    refine w_ 5 rfl ((s_bld (cells := #[.int .u64 0, .int .u64 0, .slice ca (memP p.mem).length cc, .slice none 0 0]) rfl z_7).eq (v' := LM.v ⟨0, 0, memP p.mem, [], ca, cc, none, 0⟩) rfl) ?_
    refine ga_one 11 rfl z_7 ?_
    refine gl_callp rfl (timeout_ct t) (fun _ _ _ => trivial) rfl ?_
    refine gl_nil ?_
    refine at_ga (.inl z_7) ?_
    refine ga_one 12 rfl z_7 ?_
    refine gl_call _ rfl (New_ok ((ms.length : Int) + 1) ⟨0, 0, 0⟩ ⟨0, 0, memP p.mem, [], ca, cc, none, 0⟩ [] (toP t) (by show (memP p.mem).length ≤ _; omega) (Nat.zero_le _) hbn) (fun w hw => hw) (fun h hh ⟨bs, hb⟩ => ⟨Sat.rd (a := ca) hb z_3, RdS.nil _ _⟩) rfl ?_; rw [hpn, ← hp1]; rintro v A ⟨a1, rfl, rfl⟩
    refine gl_nil ?_
    refine at_ga (.inl z_7) ?_
    refine w_ 13 rfl (s_move rfl) ?_
    refine w_ 14 rfl (s_extract rfl rfl) ?_
    refine w_ 15 rfl (s_extract rfl rfl) ?_
    refine ga_one 17 rfl z_7 ?_
    (first | refine gl_store_blkW rfl rfl z_6 z_10 z_10 z_2 ?_ | refine gl_store_blk rfl rfl z_6 z_10 z_2 z_10 ?_)
    refine gl_nil ?_
    refine at_ga (.inl z_7) ?_
    refine w_ 18 rfl (s_assign rfl) ?_
    refine ga_done z_7 ?_
    rotate_left 1
    all_goals (repeat refine y_ ?_)
    all_goals
      exact at_cutE (g6, a1) (by (repeat (first | exact Sub.nil _ | refine Sub.cons rfl ?_))) (fun w hw => Hp.drop (x := OwnC ca (memP p.mem) cc) (hw.perm (perm_up z_3 (perm_up z_3 (perm_up z_3 (perm_up z_3 (perm_up z_3 (perm_up z_3 (perm_up z_3 (perm_up z_3 (perm_up z_3 (perm_up z_3 (.refl _)))))))))))))
  obtain ⟨g6, a1⟩ := x
  repeat refine y_ ?_
  refine g_region ?_
  refine m_ ?_
  refine f_ ((s_neq rfl rfl).eq (v' := .bool false) rfl) ?_
  refine gl_nil ?_
  repeat refine y_ ?_
  have hbytes : (ms.length + 1) * 224 ≤ 140737488355328 := by omega
  repeat refine y_ ?_
  refine g_region ?_
  refine f_ z_1 ?_
  refine r_ (by first | exact s_load_blk rfl z_3 a2_0 | exact s_load1 rfl (fun w hw => peekB hw (by assumption) a2_0)) ?_
  refine r_ ((s_load_blkW rfl z_3 z_10).eq (v' := rsV p1 a1) rfl) ?_
  refine gl_buildSliceU rfl rfl rfl rfl rfl rfl (xs := miC (p1, a1)) rfl rfl ?_; intro a34 ha34
  refine gl_append (sz := 18) rfl rfl (fun a' c' => z_6) (fun w hw => (hw.ownN z_3).2.2.1) rfl rfl rfl (miC_one _) hbytes (by omega) rfl ?_; intro a35 c35 hc35
  refine f_ z_1 ?_
  (first | refine gl_store_blkC (pre := []) (post := [_]) rfl rfl z_6 z_10 z_10 z_10 ?_ | refine gl_store_blk rfl rfl z_6 z_10 z_2 z_10 ?_)
  refine gl_nil ?_
  repeat refine y_ ?_
  refine g_region ?_
  refine m_ ?_
  refine f_ (s_add_i64 rfl rfl (by omega)) ?_
  refine f_ (s_assign rfl) ?_
  refine gl_nil ?_
  repeat refine y_ ?_
  have hnl : (ms ++ [(p1, a1)]).length = ms.length + 1 := by simp
  refine at_next (ms ++ [(p1, a1)], a35, c35, OwnS p1 a1 ++ Z) (show BegI p (ms ++ [(p1, a1)], a35, c35, OwnS p1 a1 ++ Z) from ⟨by show (ms ++ [(p1, a1)]).length ≤ 5; omega, ?_, fun h hs y hy => ?_⟩) (by show 5 - (ms ++ [(p1, a1)]).length < 5 - ms.length; omega) ?_ ?_
  · simp only [hnl]
    rw [List.map_append, hms, List.range_succ, List.map_append, hp1]; rfl
  · obtain ⟨s1, s2⟩ := Sat.two2 hs
    rcases List.mem_append.1 hy with hy | hy
    · exact hZ h s2 y hy
    · rw [List.mem_singleton.1 hy]; exact ownS_ok s1
  · simp only [hnl]
    (repeat (first | exact Sub.nil _ | refine Sub.cons rfl ?_))
  · intro w hw
    have e : miV (ms ++ [(p1, a1)]) = miV ms ++ miC (p1, a1) := by simp [List.flatMap_append]
    simp only [OwnMi, hnl, e]
    exact Hp.drop (x := .blk g6 (.cells (rsC p1 a1).toArray 49)) (Hp.drop (x := .own (.slice a34 1 1) 49 18 (miC (p1, a1))) (hw.perm (perm_up z_3 (perm_up z_3 (perm_up z_3 (perm_up z_3 (perm_up z_3 (perm_up z_3 (perm_up z_3 (perm_up z_3 (perm_up z_3 (perm_up z_3 (.refl _)))))))))))))
end Go.Proofs.YtodcghipfolejaaGreat.Rf
/- The walks of QuorumHas and QuorumMeets. -/
namespace Go.Proofs.YtodcghipfolejaaGreat
open Go Go.Sl
set_option linter.unusedVariables false
set_option linter.unusedSimpArgs false

theorem comI_coms {l : List Int} {hs : List At2} {best : Int} (h : ComI l hs hs.length best) (hr : rightB l = true) : ComS l hs best := by
  have hl := (right_len hr).1
  intro i
  constructor
  · intro hi
    rcases Int.lt_or_le 0 best with hb | hb
    · have h1 : mostB l (whoL hs best) = true := by rcases h.has with h1 | h1; omega; exact h1
      rw [who_most hr hb] at h1
      have := of_decide_eq_true h1
      have := cnt_mono (l := l) (hs := hs) hi
      omega
    · rw [cnt_all (by omega)]; omega
  · intro hc
    rcases Int.lt_or_le 0 i with hi | hi
    · obtain ⟨y, h1, ⟨m, hm, h2⟩, h3⟩ := least_best l hs i (by omega)
      obtain ⟨p, hp, h4⟩ := bst_hit hs m (by omega)
      obtain ⟨j, hj, e⟩ := List.mem_iff_getElem.1 hp
      have e2 : hs.getD j (0, 0) = p := by simp [hj, e]
      have := h.all j hj
      rw [e2, h4, h2, who_most hr (by omega), h3] at this
      have := this (by simpa using hc)
      omega
    · have := h.pos; omega
theorem comI_ex (l : List Int) (hs : List At2) : ∀ k, k ≤ hs.length → ∃ b, ComI l hs k b := by
  intro k
  induction k with
  | zero => intro _; exact ⟨0, Int.le_refl _, .inl rfl, fun j hj => absurd hj (by omega)⟩
  | succ k ih =>
    intro hk
    obtain ⟨b, hb⟩ := ih (by omega)
    have hp := hb.pos
    by_cases h : b < (hs.getD k (0, 0)).2 ∧ mostB l (whoL hs (hs.getD k (0, 0)).2) = true
    · refine ⟨_, by omega, .inr h.2, fun j hj hm => ?_⟩
      rcases Nat.lt_succ_iff_lt_or_eq.1 hj with h4 | rfl
      · have := hb.all j h4 hm; omega
      · exact Int.le_refl _
    · refine ⟨b, hp, hb.has, fun j hj hm => ?_⟩
      rcases Nat.lt_succ_iff_lt_or_eq.1 hj with h4 | rfl
      · exact hb.all j h4 hm
      · apply Classical.byContradiction
        intro hn
        exact h ⟨by omega, hm⟩
theorem com_spec {l : List Int} {hs : List At2} (hr : rightB l = true) : ComS l hs (com l hs) := by
  obtain ⟨b, hb⟩ := comI_ex l hs hs.length (Nat.le_refl _)
  have h := comI_coms hb hr
  rw [com_eq hr h]; exact h
theorem has_yes {l : List Int} {hs : List At2} (hr : rightB l = true) (h0 : 0 < com l hs) : mostB l (whoL hs (com l hs)) = true := by
  rw [who_most hr h0]
  exact decide_eq_true ((com_spec hr _).1 (Int.le_refl _))
end Go.Proofs.YtodcghipfolejaaGreat
/- The walk of QuorumMeets. -/
namespace Go.Proofs.YtodcghipfolejaaGreat
open Go Go.Sl
set_option linter.unusedVariables false
set_option linter.unusedSimpArgs false

def U5 : List Int := (List.range 5).map fun i => ((i : Nat) : Int) + 1
theorem cnt_len {l : List Int} (h : rightB l = true) : l.length = U5.countP (inB l) := by
  have h1 := right_pick h
  conv => lhs; rw [← h1]
  rw [pick, List.countP_eq_length_filter]; rfl
theorem cnt_both {l : List Int} (x : List Int) (h : rightB l = true) : cntB l x = U5.countP (fun n => inB x n && inB l n) := by
  have h1 := right_pick h
  rw [cntB]
  conv => lhs; rw [← h1]
  rw [pick, List.countP_filter]; rfl
theorem diff_cnt (a b : List Int) : diffN a b 5 = U5.countP (fun n => !decide (inB a n = inB b n)) := by
  rw [U5, List.countP_map]; rfl
theorem meet_count (l m x y : Int → Bool) : ∀ (u : List Int), (∀ n ∈ u, (x n && y n) = false) → 2 * (u.countP (fun n => x n && l n) + u.countP (fun n => y n && m n)) ≤ u.countP l + u.countP m + u.countP (fun n => !decide (l n = m n)) := by
  intro u
  induction u with
  | nil => intro _; simp
  | cons n u ih =>
    intro h
    have h1 := ih fun k hk => h k (List.mem_cons_of_mem _ hk)
    have h2 := h n (List.mem_cons_self ..)
    simp only [List.countP_cons]
    cases hl : l n <;> cases hm : m n <;> cases hx : x n <;> cases hy : y n <;> simp_all <;> omega
theorem meets {l m x y : List Int} (h1 : mostB l x = true) (h2 : mostB m y = true) (h3 : l = m ∨ stepS l m = true) : ∃ n, n ∈ x ∧ n ∈ y := by
  have e1 : rightB l = true ∧ l.length < 2 * cntB l x := by simpa [mostB] using h1
  have e2 : rightB m = true ∧ m.length < 2 * cntB m y := by simpa [mostB] using h2
  have hd : diffN l m 5 ≤ 1 := by
    rcases h3 with rfl | h3
    · have : diffN l l 5 = 0 := by simp [diffN]
      omega
    · have : diffN l m 5 = 1 := by simp only [stepS, Bool.and_eq_true, decide_eq_true_eq] at h3; exact h3.2
      omega
  apply Classical.byContradiction
  intro hno
  have h5 := meet_count (inB l) (inB m) (inB x) (inB y) U5 (fun n _ => by
    apply Bool.eq_false_iff.2
    intro hb
    simp only [Bool.and_eq_true, inB, decide_eq_true_eq] at hb
    exact hno ⟨n, hb.1, hb.2⟩)
  rw [← cnt_both x e1.1, ← cnt_both y e2.1, ← cnt_len e1.1, ← cnt_len e2.1, ← diff_cnt] at h5
  omega

end Go.Proofs.YtodcghipfolejaaGreat
/- Raft's safety: whole logs, the tree that they make, members at an index. -/
namespace Go.Proofs.YtodcghipfolejaaGreat.Rf
open Go Go.Sl
set_option linter.unusedVariables false
set_option linter.unusedSimpArgs false

/-- a whole log, from index 1 on -/
abbrev Lg := List Ent
/-- two logs are alike in their first n entries, and both have these -/
structure Ag (n : Nat) (G H : Lg) : Prop where
  l : n ≤ G.length
  r : n ≤ H.length
  eq : ∀ k, k < n → G[k]? = H[k]?
theorem Ag.symm {n : Nat} {G H : Lg} (h : Ag n G H) : Ag n H G := ⟨h.r, h.l, fun k hk => (h.eq k hk).symm⟩
theorem Ag.trans {n : Nat} {G H K : Lg} (h : Ag n G H) (h' : Ag n H K) : Ag n G K := ⟨h.l, h'.r, fun k hk => (h.eq k hk).trans (h'.eq k hk)⟩
theorem Ag.le {n m : Nat} {G H : Lg} (h : Ag n G H) (hm : m ≤ n) : Ag m G H := ⟨Nat.le_trans hm h.l, Nat.le_trans hm h.r, fun k hk => h.eq k (Nat.lt_of_lt_of_le hk hm)⟩
theorem Ag.refl {n : Nat} {G : Lg} (h : n ≤ G.length) : Ag n G G := ⟨h, h, fun _ _ => rfl⟩
theorem Ag.zero (G H : Lg) : Ag 0 G H := ⟨Nat.zero_le _, Nat.zero_le _, fun k hk => absurd hk (Nat.not_lt_zero _)⟩
theorem Ag.app {n : Nat} {G H : Lg} (X : Lg) (h : Ag n G H) : Ag n G (H ++ X) := ⟨h.l, by rw [List.length_append]; have := h.r; omega, fun k hk => by rw [List.getElem?_append_left (Nat.lt_of_lt_of_le hk h.r)]; exact h.eq k hk⟩
theorem Ag.take {n : Nat} {G : Lg} (h : n ≤ G.length) : Ag n G (G.take n) := ⟨h, by rw [List.length_take]; omega, fun k hk => by rw [List.getElem?_take_of_lt hk]⟩
theorem Ag.whole {n : Nat} {G H : Lg} (h : Ag n G H) (h1 : G.length = n) (h2 : H.length = n) : G = H := by
  apply List.ext_getElem?
  intro k
  by_cases hk : k < n
  · exact h.eq k hk
  · rw [List.getElem?_eq_none (by omega), List.getElem?_eq_none (by omega)]
theorem Ag.takes {n : Nat} {G H : Lg} (h : Ag n G H) : G.take n = H.take n :=
  Ag.whole (n := n) ((Ag.take h.l).symm.trans (h.trans (Ag.take h.r))) (by rw [List.length_take]; have := h.l; omega) (by rw [List.length_take]; have := h.r; omega)
theorem getI {G : Lg} {k : Nat} {e : Ent} (h : G[k]? = some e) : k < G.length := (List.getElem?_eq_some_iff.1 h).1
theorem getS {G : Lg} {k : Nat} (h : k < G.length) : ∃ e, G[k]? = some e := ⟨_, List.getElem?_eq_getElem h⟩

theorem maxN (P : Nat → Prop) (h0 : P 0) (b : Nat) (hb : ∀ n, P n → n ≤ b) : ∃ a, P a ∧ ∀ n, P n → n ≤ a := by
  induction b with
  | zero => exact ⟨0, h0, hb⟩
  | succ b ih =>
    by_cases h : P (b + 1)
    · exact ⟨b + 1, h, hb⟩
    · refine ih fun n hn => ?_
      have := hb n hn
      by_cases e : n = b + 1
      · subst e; exact absurd hn h
      · omega
theorem lcp (G H : Lg) : ∃ a, Ag a G H ∧ ∀ n, Ag n G H → n ≤ a := maxN (fun n => Ag n G H) (Ag.zero G H) G.length (fun n h => h.l)

/-! ## members at an index -/
def cfN (C0 : List Int) (G : Lg) : Nat → List Int
  | 0 => C0
  | n + 1 => if isC (G.getD n E0) = true then readL (G.getD n E0).2.2 else cfN C0 G n
def cf (C0 : List Int) (G : Lg) : List Int := cfN C0 G G.length
theorem getD_ag {n k : Nat} {G H : Lg} (h : Ag n G H) (hk : k < n) : G.getD k E0 = H.getD k E0 := by
  rw [List.getD_eq_getElem?_getD, List.getD_eq_getElem?_getD, h.eq k hk]
theorem cfN_ag (C0 : List Int) {n : Nat} {G H : Lg} (h : Ag n G H) : ∀ m, m ≤ n → cfN C0 G m = cfN C0 H m
  | 0, _ => rfl
  | m + 1, hm => by
    rw [cfN, cfN, getD_ag h (show m < n by omega), cfN_ag C0 h m (by omega)]
theorem cf_take (C0 : List Int) {G : Lg} {n : Nat} (h : n ≤ G.length) : cf C0 (G.take n) = cfN C0 G n := by
  have e : (G.take n).length = n := by rw [List.length_take]; omega
  rw [cf, e]
  exact cfN_ag C0 (Ag.take h).symm n (Nat.le_refl _)
def ConfAt (G : Lg) (k : Nat) : Prop := ∃ e, G[k]? = some e ∧ isC e = true
theorem confAt_getD {G : Lg} {k : Nat} (hk : k < G.length) : isC (G.getD k E0) = true ↔ ConfAt G k := by
  obtain ⟨e, he⟩ := getS hk
  rw [List.getD_eq_getElem?_getD, he]
  constructor
  · intro h; exact ⟨e, he, h⟩
  · rintro ⟨e', h1, h2⟩
    rw [he] at h1; injection h1 with h1; subst h1; exact h2
theorem cfN_skip (C0 : List Int) {G : Lg} {a : Nat} : ∀ n, a ≤ n → n ≤ G.length → (∀ k, a ≤ k → k < n → ¬ ConfAt G k) → cfN C0 G n = cfN C0 G a
  | 0, h, _, _ => by obtain rfl : a = 0 := by omega
                     rfl
  | n + 1, h, hl, hn => by
    by_cases e : a = n + 1
    · rw [e]
    · rw [cfN, if_neg (fun hc => hn n (by omega) (by omega) ((confAt_getD (by omega)).1 hc))]
      exact cfN_skip C0 n (by omega) (by omega) (fun k h1 h2 => hn k h1 (by omega))
theorem cfN_last (C0 : List Int) {G : Lg} {k : Nat} {e : Ent} (he : G[k]? = some e) (hc : isC e = true) : ∀ n, k < n → n ≤ G.length → (∀ j, k < j → j < n → ¬ ConfAt G j) → cfN C0 G n = readL e.2.2 := by
  intro n hk hl hn
  rw [cfN_skip C0 (a := k + 1) n hk hl (fun j h1 h2 => hn j (by omega) h2), cfN]
  have e1 : G.getD k E0 = e := by rw [List.getD_eq_getElem?_getD, he]; rfl
  rw [e1, if_pos hc]
theorem last_conf (G : Lg) (a : Nat) : (∀ k, a ≤ k → ¬ ConfAt G k) ∨ ∃ k, a ≤ k ∧ ConfAt G k ∧ ∀ j, k < j → ¬ ConfAt G j := by
  by_cases h : ∃ k, a ≤ k ∧ ConfAt G k
  · right
    obtain ⟨k0, h0, h1⟩ := h
    obtain ⟨b, hb, hm⟩ := maxN (fun d => ConfAt G (a + d) ∨ d = 0) (.inr rfl) G.length (fun n hn => by
      rcases hn with ⟨e, he, _⟩ | rfl
      · have := getI he; omega
      · omega)
    by_cases hb2 : ConfAt G (a + b)
    · refine ⟨a + b, by omega, hb2, fun j hj hc => ?_⟩
      have := hm (j - a) (.inl (by rw [show a + (j - a) = j by omega]; exact hc))
      omega
    · exfalso
      have hb0 : b = 0 := by rcases hb with h | h; exact absurd h hb2; exact h
      have := hm (k0 - a) (.inl (by rw [show a + (k0 - a) = k0 by omega]; exact h1))
      have e : k0 = a + b := by omega
      rw [e] at h1
      exact hb2 h1
  · left
    intro k hk hc
    exact h ⟨k, hk, hc⟩

/-! ## the tree -/
/-- every entry stands in the log of its term's leader, with all that is ahead of it -/
def Path (L : Int → Lg) (G : Lg) : Prop := ∀ (k : Nat) (e : Ent), G[k]? = some e → Ag (k + 1) G (L e.1)
theorem path_same {L : Int → Lg} {G H : Lg} (p : Path L G) (q : Path L H) {k : Nat} {e e' : Ent} (h : G[k]? = some e) (h' : H[k]? = some e') (ht : e.1 = e'.1) : Ag (k + 1) G H := by
  have h1 := p k e h
  have h2 := q k e' h'
  rw [ht] at h1
  exact h1.trans h2.symm
theorem Ag.take_le {k n : Nat} {G : Lg} (hk : k ≤ n) (hl : k ≤ G.length) : Ag k (G.take n) G :=
  ⟨by rw [List.length_take]; omega, hl, fun j hj => by rw [List.getElem?_take_of_lt (by omega)]⟩
theorem Path.take {L : Int → Lg} {G : Lg} (p : Path L G) (n : Nat) : Path L (G.take n) := by
  intro k e h
  have hk := getI h
  rw [List.length_take] at hk
  rw [List.getElem?_take_of_lt (by omega)] at h
  exact (Ag.take_le (by omega) (by omega)).trans (p k e h)

/-- what was: the leaders' logs, their logs when they were elected, candidates' logs, who won, who voted for whom, who had how much of a leader's log, what was committed -/
structure Gh where
  L : Int → Lg
  B : Int → Lg
  CB : Int → Int → Lg
  Win : Int → Int → Prop
  PV : Int → Int → Int → Prop
  Acc : Int → Int → Nat → Prop
  Com : Int → Nat → Nat → Prop
/-- an entry of term t stands at the end of the first c ones of a leader's log -/
def Own (g : Gh) (t : Int) (c : Nat) : Prop := 1 ≤ c ∧ ∃ e, (g.L t)[c - 1]? = some e ∧ e.1 = t
/-- a log's end is not older -/
def upTo (G : Lg) (t : Int) (c : Nat) : Prop := ∃ e, G[G.length - 1]? = some e ∧ (t < e.1 ∨ (e.1 = t ∧ c ≤ G.length))
/-- what was committed ahead of a change of members: all earlier changes too -/
structure Jus (g : Gh) (t : Int) (k c : Nat) : Prop where
  own : Own g t c
  le : c ≤ k
  all : ∀ k', k' < k → ConfAt (g.L t) k' → k' < c
/-- the leaders from t on, ahead of t', have the first c entries of t's -/
def Prov (g : Gh) (t : Int) (c : Nat) (t' i : Int) : Prop := ∀ s l, g.Win s l → t < s → (s < t' ∨ (s = t' ∧ l ≠ i)) → Ag c (g.L t) (g.B s)
structure Tree (C0 : List Int) (g : Gh) : Prop where
  path : ∀ t, Path g.L (g.L t)
  le : ∀ t (k : Nat) (e : Ent), (g.L t)[k]? = some e → e.1 ≤ t
  base : ∀ t i, g.Win t i → Ag (g.B t).length (g.B t) (g.L t)
  low : ∀ t i, g.Win t i → ∀ (k : Nat) (e : Ent), (g.L t)[k]? = some e → (e.1 = t ↔ (g.B t).length ≤ k)
  ne : ∀ t (k : Nat) (e : Ent), (g.L t)[k]? = some e → ∃ i, g.Win t i
  pos : ∀ t i, g.Win t i → 1 ≤ t
  uniq : ∀ t i j, g.Win t i → g.Win t j → i = j
  cb : ∀ t i, g.Win t i → g.B t = g.CB t i
  winq : ∀ t i, g.Win t i → ∃ Q, mostB (cf C0 (g.B t)) Q = true ∧ ∀ j ∈ Q, g.PV t j i
  pvu : ∀ t j i i', g.PV t j i → g.PV t j i' → i = i'
  comw : ∀ t c m, g.Com t c m → c ≤ m ∧ m ≤ (g.L t).length ∧ Own g t c
  comq : ∀ t c m, g.Com t c m → ∃ Q, mostB (cfN C0 (g.L t) m) Q = true ∧ ∀ j ∈ Q, g.Acc t j c
  just : ∀ t (k : Nat) (e : Ent), (g.L t)[k]? = some e → e.1 = t → isC e = true → stepS (cfN C0 (g.L t) k) (readL e.2.2) = true ∧ ∃ c m, g.Com t c m ∧ Jus g t k c
  justc : ∀ t c m, g.Com t c m → ∀ (k : Nat) (e : Ent), k < m → (g.L t)[k]? = some e → e.1 = t → isC e = true → ∃ c' m', g.Com t c' m' ∧ c' < c ∧ Jus g t k c'
  hv : ∀ t t' j i c, g.PV t' j i → g.Acc t j c → t < t' → Own g t c → Prov g t c t' i → upTo (g.CB t' i) t c
  lc : ∀ t c m t' i, g.Com t c m → g.Win t' i → t < t' → Ag c (g.L t) (g.B t')
variable {C0 : List Int} {g : Gh}
theorem path_mono {G : Lg} (T : Tree C0 g) (p : Path g.L G) {k j : Nat} {e f : Ent} (h : G[k]? = some e) (h' : G[j]? = some f) (hj : j ≤ k) : f.1 ≤ e.1 := by
  have h1 := p k e h
  have h2 := h1.eq j (by omega)
  rw [h'] at h2
  exact T.le _ _ _ h2.symm
/-- who has an entry of a term has that term's leader's first log -/
theorem path_base {G : Lg} (T : Tree C0 g) (p : Path g.L G) {k : Nat} {e : Ent} (h : G[k]? = some e) : ∃ i, g.Win e.1 i ∧ Ag (g.B e.1).length (g.B e.1) G ∧ (g.B e.1).length ≤ k := by
  have h1 := p k e h
  have h2 := h1.eq k (by omega)
  rw [h] at h2
  obtain ⟨i, hi⟩ := T.ne _ _ _ h2.symm
  have h3 := (T.low _ _ hi k e h2.symm).1 rfl
  exact ⟨i, hi, (T.base _ _ hi).trans (h1.symm.le (by omega)), h3⟩
/-- just changes of members, justified, make two logs' members at most a step apart -/
theorem overlap {G H : Lg} (T : Tree C0 g) (pG : Path g.L G) (pH : Path g.L H)
    (hG : ∀ (k : Nat) (e : Ent), G[k]? = some e → isC e = true → stepS (cfN C0 G k) (readL e.2.2) = true ∧ ∃ c, Jus g e.1 k c ∧ Ag c (g.L e.1) H)
    (hH : ∀ (k : Nat) (e : Ent), H[k]? = some e → isC e = true → stepS (cfN C0 H k) (readL e.2.2) = true ∧ ∃ c, Jus g e.1 k c ∧ Ag c (g.L e.1) G) :
    cf C0 G = cf C0 H ∨ stepS (cf C0 G) (cf C0 H) = true ∨ stepS (cf C0 H) (cf C0 G) = true := by
  obtain ⟨a, ha, hm⟩ := lcp G H
  have one : ∀ (X Y : Lg), Path g.L X → Ag a X Y → (∀ n, Ag n X Y → n ≤ a) → (∀ (k : Nat) (e : Ent), X[k]? = some e → isC e = true → stepS (cfN C0 X k) (readL e.2.2) = true ∧ ∃ c, Jus g e.1 k c ∧ Ag c (g.L e.1) Y) →
      (cf C0 X = cfN C0 X a ∧ ∀ k, a ≤ k → ¬ ConfAt X k) ∨ (stepS (cfN C0 X a) (cf C0 X) = true ∧ ∃ k e c, a ≤ k ∧ X[k]? = some e ∧ Jus g e.1 k c ∧ c ≤ a) := by
    intro X Y pX hXY hmx hX
    rcases last_conf X a with h | ⟨k, hk, ⟨e, he, hc⟩, hl⟩
    · left
      exact ⟨cfN_skip C0 _ hXY.l (Nat.le_refl _) (fun k h1 _ => h k h1), h⟩
    · right
      obtain ⟨hs, c, hJ, hA⟩ := hX k e he hc
      have hkl := getI he
      have hp := pX k e he
      have hca : c ≤ a := by
        apply hmx
        exact ((hp.symm.le (Nat.le_trans hJ.le (Nat.le_succ k))).symm).trans hA
      have h1 : cf C0 X = readL e.2.2 := cfN_last C0 he hc _ hkl (Nat.le_refl _) (fun j h1 _ => hl j h1)
      have h2 : cfN C0 X k = cfN C0 X a := by
        refine cfN_skip C0 k hk (by omega) (fun j h1 h2 hcj => ?_)
        obtain ⟨f, hf, hfc⟩ := hcj
        have h3 := hp.eq j (by omega)
        rw [hf] at h3
        have := hJ.all j h2 ⟨f, h3.symm, hfc⟩
        omega
      rw [← h2, h1]
      exact ⟨hs, k, e, c, hk, he, hJ, hca⟩
  have hmG := one G H pG ha hm hG
  have hmH := one H G pH ha.symm (fun n hn => hm n hn.symm) hH
  have hab : cfN C0 G a = cfN C0 H a := cfN_ag C0 ha a (Nat.le_refl _)
  rcases hmG with ⟨g1, g2⟩ | ⟨g1, k, e, c, hk, he, hJ, hca⟩
  · rcases hmH with ⟨h1, h2⟩ | ⟨h1, _⟩
    · left; rw [g1, h1, hab]
    · right; left; rw [g1, hab]; exact h1
  · rcases hmH with ⟨h1, h2⟩ | ⟨h1, k', e', c', hk', he', hJ', hca'⟩
    · right; right; rw [h1, ← hab]; exact g1
    · exfalso
      -- both branches have a change: their terms differ, and the later one's commit lies below
      have key : ∀ (X Y : Lg) (k k' : Nat) (e e' : Ent) (c' : Nat), Path g.L X → Path g.L Y → Ag a X Y → a ≤ k → X[k]? = some e → Y[k']? = some e' → Jus g e'.1 k' c' → c' ≤ a → e.1 < e'.1 → False := by
        intro X Y k k' e e' c' pX pY hXY hk he he' hJ' hca' hlt
        obtain ⟨h0, f, hf, hft⟩ := hJ'.own
        have h1 := pY k' e' he'
        have h2 := h1.eq (c' - 1) (by have := hJ'.le; omega)
        have h3 := hXY.eq (c' - 1) (by omega)
        rw [h2, hf] at h3
        have := path_mono T pX he h3 (by omega)
        omega
      rcases Int.lt_trichotomy e.1 e'.1 with hlt | heq | hgt
      · exact key G H k k' e e' c' pG pH ha hk he he' hJ' hca' hlt
      · have h1 := pG k e he
        have h2 := pH k' e' he'
        rw [heq] at h1
        by_cases hkk : k ≤ k'
        · have := hm (k + 1) (h1.trans (h2.le (by omega)).symm)
          omega
        · have := hm (k' + 1) ((h1.le (by omega)).trans h2.symm)
          omega
      · exact key H G k' k e' e c pH pG ha.symm hk' he' he hJ hca hgt
theorem meets3 {l m x y : List Int} (h1 : mostB l x = true) (h2 : mostB m y = true) (h3 : l = m ∨ stepS l m = true ∨ stepS m l = true) : ∃ n, n ∈ x ∧ n ∈ y := by
  rcases h3 with h | h | h
  · exact meets h1 h2 (.inl h)
  · exact meets h1 h2 (.inr h)
  · obtain ⟨n, a, b⟩ := meets h2 h1 (.inr h)
    exact ⟨n, b, a⟩
/-- a tree but for the completeness of leaders -/
structure Elec (C0 : List Int) (g : Gh) (t' i : Int) (Bx : Lg) : Prop where
  path : Path g.L Bx
  lt : ∀ (k : Nat) (e : Ent), Bx[k]? = some e → e.1 < t'
  q : ∃ Q, mostB (cf C0 Bx) Q = true ∧ ∀ j ∈ Q, g.PV t' j i
  cb : g.CB t' i = Bx
/-- a commit, and an election in a later term: the elected one's log has what was committed -/
theorem lc_core (T : Tree C0 g) {t t' i : Int} {c m : Nat} {Bx : Lg} (hcm : c ≤ m) (hml : m ≤ (g.L t).length) (hown : Own g t c)
    (hq : ∃ Q, mostB (cfN C0 (g.L t) m) Q = true ∧ ∀ j ∈ Q, g.Acc t j c) (E : Elec C0 g t' i Bx) (htt : t < t') (hprov : Prov g t c t' i)
    (hJ : ∀ (k : Nat) (e : Ent), k < m → (g.L t)[k]? = some e → isC e = true → ∃ c', Jus g e.1 k c' ∧ Ag c' (g.L e.1) Bx) : Ag c (g.L t) Bx := by
  apply Classical.byContradiction
  intro hno
  obtain ⟨Q1, hQ1, hA⟩ := hq
  obtain ⟨Q2, hQ2, hV⟩ := E.q
  obtain ⟨hc1, e0, he0, ht0⟩ := hown
  have hpm : Path g.L ((g.L t).take m) := (T.path t).take m
  have hlen : ((g.L t).take m).length = m := by rw [List.length_take]; omega
  have later : ∀ (k : Nat) (e : Ent), Bx[k]? = some e → t < e.1 → False := by
    intro k e he hlt
    obtain ⟨l, hw, hb, _⟩ := path_base T E.path he
    have h1 := hprov e.1 l hw hlt (.inl (E.lt k e he))
    exact hno (h1.trans (hb.le h1.r))
  have hov := overlap (C0 := C0) T (G := (g.L t).take m) (H := Bx) hpm E.path (fun k e he hc => by
      have hk := getI he
      rw [hlen] at hk
      have he' := he
      rw [List.getElem?_take_of_lt hk] at he'
      obtain ⟨c', h1, h2⟩ := hJ k e hk he' hc
      refine ⟨?_, c', h1, h2⟩
      have hp := T.path t k e he'
      have := (T.just e.1 k e (by rw [← hp.eq k (by omega)]; exact he') rfl hc).1
      rw [cfN_ag C0 (Ag.take_le (n := m) (G := g.L t) (k := k) (by omega) (by omega)) k (Nat.le_refl _), cfN_ag C0 (hp.le (Nat.le_succ k)) k (Nat.le_refl _)]
      exact this) (fun k e he hc => by
      have hp := E.path k e he
      obtain ⟨hs, c', m', hcom, hjus⟩ := T.just e.1 k e (by rw [← hp.eq k (by omega)]; exact he) rfl hc
      rw [cfN_ag C0 (hp.le (Nat.le_succ k)) k (Nat.le_refl _)]
      refine ⟨hs, c', hjus, ?_⟩
      have hle := hjus.le
      rcases Int.lt_trichotomy e.1 t with hlt | heq | hgt
      · -- an older commit is in the leader's first log
        have hwin : ∃ l, g.Win t l := T.ne t _ _ he0
        obtain ⟨l, hw⟩ := hwin
        have h1 := T.lc _ _ _ _ _ hcom hw hlt
        have h2 := (T.low t l hw (c - 1) e0 he0).1 ht0
        have h3 := h1.trans ((T.base t l hw).le h1.r)
        exact h3.trans (Ag.take_le (by have := h1.r; omega) h3.r).symm
      · rw [heq] at hp ⊢
        by_cases hcm' : c' ≤ m
        · exact (Ag.take_le hcm' (by omega)).symm
        · exact absurd ((hp.le (show c ≤ k + 1 by omega)).symm) hno
      · exact (later k e he hgt).elim)
  rw [cf_take C0 hml] at hov
  obtain ⟨j, hj1, hj2⟩ := meets3 hQ1 hQ2 hov
  obtain ⟨e, he, hup⟩ := T.hv t t' j i c (hV j hj2) (hA j hj1) htt ⟨hc1, e0, he0, ht0⟩ hprov
  rw [E.cb] at he hup
  have hel := getI he
  rcases hup with hgt | ⟨heq, hcl⟩
  · exact later _ e he hgt
  · have hp := E.path _ e he
    rw [heq] at hp
    exact hno (hp.le (by omega)).symm
/-- a new election: its winner has all that was committed before -/
theorem lc_new (T : Tree C0 g) {t' i : Int} {Bx : Lg} (E : Elec C0 g t' i Bx) : ∀ (n : Nat) (t : Int) (c m : Nat), t.toNat = n → g.Com t c m → t < t' → (∀ l, g.Win t' l → l ≠ i) → Ag c (g.L t) Bx := by
  intro n
  induction n using Nat.strongRecOn with
  | _ n ih =>
    intro t c
    induction c using Nat.strongRecOn with
    | _ c ihc =>
      intro m hn hcom htt hfr
      obtain ⟨hcm, hml, hown⟩ := T.comw t c m hcom
      refine lc_core T hcm hml hown (T.comq t c m hcom) E htt (fun s l hw hts _ => T.lc t c m s l hcom hw hts) (fun k e hk he hc => ?_)
      have hte := T.le t k e he
      by_cases het : e.1 = t
      · obtain ⟨c', m', h1, h2, h3⟩ := T.justc t c m hcom k e hk he het hc
        refine ⟨c', by rw [het]; exact h3, ?_⟩
        rw [het]
        exact ihc c' h2 m' hn h1 htt hfr
      · have hp := T.path t k e he
        obtain ⟨_, c', m', h1, h2⟩ := T.just e.1 k e (by rw [← hp.eq k (by omega)]; exact he) rfl hc
        obtain ⟨l, hw⟩ := T.ne e.1 k e (by rw [← hp.eq k (by omega)]; exact he)
        have := T.pos _ _ hw
        exact ⟨c', h2, ih e.1.toNat (by omega) e.1 c' m' rfl h1 (by omega) hfr⟩
/-- and no other one has won in its term -/
theorem one_win (T : Tree C0 g) {t' i l : Int} {Bx : Lg} (E : Elec C0 g t' i Bx) (hw : g.Win t' l) (hi : ¬ g.Win t' i) : False := by
  have hne : ∀ l, g.Win t' l → l ≠ i := fun l h e => hi (e ▸ h)
  have hB : Path g.L (g.B t') := fun k e he => by
    have hb := T.base t' l hw
    have hk := getI he
    rw [hb.eq k (by omega)] at he
    exact (hb.le (by omega)).trans (T.path t' k e he)
  have hBlt : ∀ (k : Nat) (e : Ent), (g.B t')[k]? = some e → e.1 < t' := fun k e he => by
    have hb := T.base t' l hw
    have hk := getI he
    rw [hb.eq k (by omega)] at he
    have h1 := T.low t' l hw k e he
    have h2 := T.le t' k e he
    by_cases h3 : e.1 = t'
    · have := h1.1 h3; omega
    · omega
  have side : ∀ X : Lg, Path g.L X → (∀ (k : Nat) (e : Ent), X[k]? = some e → e.1 < t') → ∀ Y : Lg, (∀ t c m, g.Com t c m → t < t' → Ag c (g.L t) Y) → ∀ (k : Nat) (e : Ent), X[k]? = some e → isC e = true → stepS (cfN C0 X k) (readL e.2.2) = true ∧ ∃ c, Jus g e.1 k c ∧ Ag c (g.L e.1) Y := by
    intro X pX hlt Y hY k e he hc
    have hp := pX k e he
    obtain ⟨hs, c', m', hcom, hjus⟩ := T.just e.1 k e (by rw [← hp.eq k (by omega)]; exact he) rfl hc
    rw [cfN_ag C0 (hp.le (Nat.le_succ k)) k (Nat.le_refl _)]
    exact ⟨hs, c', hjus, hY _ _ _ hcom (hlt k e he)⟩
  have hov := overlap (C0 := C0) T hB E.path (side _ hB hBlt _ (fun t c m h1 h2 => lc_new T E _ t c m rfl h1 h2 hne)) (side _ E.path E.lt _ (fun t c m h1 h2 => T.lc t c m t' l h1 hw h2))
  obtain ⟨Q1, hQ1, hV1⟩ := T.winq t' l hw
  obtain ⟨Q2, hQ2, hV2⟩ := E.q
  obtain ⟨j, h1, h2⟩ := meets3 hQ1 hQ2 hov
  exact hne l hw (T.pvu t' j l i (hV1 j h1) (hV2 j h2))
/-- who won is an election -/
theorem win_elec (T : Tree C0 g) {t i : Int} (hw : g.Win t i) : Elec C0 g t i (g.B t) := by
  have hb := T.base t i hw
  refine ⟨fun k e he => ?_, fun k e he => ?_, T.winq t i hw, (T.cb t i hw).symm⟩
  · have hk := getI he
    rw [hb.eq k (by omega)] at he
    exact (hb.le (by omega)).trans (T.path t k e he)
  · have hk := getI he
    rw [hb.eq k (by omega)] at he
    have h1 := T.low t i hw k e he
    have h2 := T.le t k e he
    by_cases h3 : e.1 = t
    · have := h1.1 h3; omega
    · omega
/-- a new commit: whoever has won in a later term has it -/
theorem lc_com (T : Tree C0 g) {t : Int} {c m : Nat} (hcm : c ≤ m) (hml : m ≤ (g.L t).length) (hown : Own g t c)
    (hq : ∃ Q, mostB (cfN C0 (g.L t) m) Q = true ∧ ∀ j ∈ Q, g.Acc t j c) : ∀ (n : Nat) (t' i : Int), t'.toNat = n → g.Win t' i → t < t' → Ag c (g.L t) (g.B t') := by
  intro n
  induction n using Nat.strongRecOn with
  | _ n ih =>
    intro t' i hn hw htt
    have hpos : 1 ≤ t := by
      obtain ⟨_, e, he, _⟩ := hown
      obtain ⟨l, hl⟩ := T.ne t _ _ he
      exact T.pos _ _ hl
    refine lc_core T hcm hml hown hq (win_elec T hw) htt (fun s l hws hts hs => ?_) (fun k e hk he hc => ?_)
    · rcases hs with h | ⟨h, h2⟩
      · exact ih s.toNat (by omega) s l rfl hws hts
      · subst h
        exact absurd (T.uniq s l i hws hw) h2
    · have hte := T.le t k e he
      have hp := T.path t k e he
      obtain ⟨_, c', m', h1, h2⟩ := T.just e.1 k e (by rw [← hp.eq k (by omega)]; exact he) rfl hc
      exact ⟨c', h2, T.lc _ _ _ _ _ h1 hw (by omega)⟩
end Go.Proofs.YtodcghipfolejaaGreat.Rf
/- Raft's safety: a node's log and the whole log that it stands for. -/
namespace Go.Proofs.YtodcghipfolejaaGreat.Rf
open Go Go.Sl
set_option linter.unusedVariables false
set_option linter.unusedSimpArgs false

/-- the term at an index -/
def tmI (G : Lg) (n : Nat) : Int := if n = 0 then 0 else (G.getD (n - 1) E0).1
theorem tmI_ag {n : Nat} {G H : Lg} (h : Ag n G H) {m : Nat} (hm : m ≤ n) : tmI G m = tmI H m := by
  unfold tmI
  by_cases h0 : m = 0
  · rw [if_pos h0, if_pos h0]
  · rw [if_neg h0, if_neg h0, getD_ag h (by omega)]
theorem tmI_get {G : Lg} {k : Nat} {e : Ent} (h : G[k]? = some e) : tmI G (k + 1) = e.1 := by
  unfold tmI
  rw [if_neg (by omega), Nat.add_sub_cancel, List.getD_eq_getElem?_getD, h]; rfl
structure Rep (C0 : List Int) (p : RP) (F : Lg) : Prop where
  b0 : 0 ≤ p.base
  bl : p.base.toNat ≤ F.length
  l : p.l = F.drop p.base.toNat
  bt : p.bt = tmI F p.base.toNat
  conf : p.conf = cfN C0 F p.base.toNat
variable {C0 : List Int} {p : RP} {F : Lg}
theorem Rep.len (h : Rep C0 p F) : p.base + (p.l.length : Int) = (F.length : Int) := by
  have h1 := h.b0
  have h2 := h.bl
  rw [h.l, List.length_drop]; omega
theorem Rep.last (h : Rep C0 p F) : lastI p.g = (F.length : Int) := h.len
theorem Rep.has (h : Rep C0 p F) (i : Int) : hasL p.g i = true ↔ p.base ≤ i ∧ i ≤ (F.length : Int) := by
  have := h.len
  show (decide (p.base ≤ i) && decide (i - p.base ≤ (p.l.length : Int))) = true ↔ _
  rw [Bool.and_eq_true, decide_eq_true_eq, decide_eq_true_eq]
  omega
theorem Rep.getD (h : Rep C0 p F) (k : Nat) : p.l.getD k E0 = F.getD (p.base.toNat + k) E0 := by
  rw [h.l, List.getD_eq_getElem?_getD, List.getD_eq_getElem?_getD, List.getElem?_drop]
theorem Rep.term (h : Rep C0 p F) {i : Int} (h1 : p.base ≤ i) (h2 : i ≤ (F.length : Int)) : termV p.g i = tmI F i.toNat := by
  have hb := h.b0
  have hh : hasL p.g i = true := (h.has i).2 ⟨h1, h2⟩
  unfold termV
  rw [if_pos hh]
  by_cases e : i = p.g.base
  · rw [if_pos e, show p.g.bt = p.bt from rfl, h.bt, e]
  · rw [if_neg e]
    have e1 : i ≠ p.base := e
    show (p.l.getD (i - p.base - 1).toNat E0).1 = _
    rw [h.getD]
    unfold tmI
    rw [if_neg (by omega), show p.base.toNat + (i - p.base - 1).toNat = i.toNat - 1 by omega]
theorem Rep.lastT (h : Rep C0 p F) : lastT p.g = tmI F F.length := by
  have h1 := (last_term p.g h.b0).1
  rw [h.last] at h1
  rw [← h1, h.term (by have := h.len; omega) (Int.le_refl _)]
  rfl
theorem Rep.confN (h : Rep C0 p F) : ∀ n, n ≤ p.l.length → (confN p.g n).1 = cfN C0 F (p.base.toNat + n) ∧ p.base ≤ (confN p.g n).2 ∧ ∀ k, (confN p.g n).2.toNat ≤ k → k < p.base.toNat + n → ¬ ConfAt F k
  | 0, _ => ⟨h.conf, Int.le_refl _, fun k h1 h2 => by
      have e : (Go.Proofs.YtodcghipfolejaaGreat.confN p.g 0).2 = p.base := rfl
      rw [e] at h1; omega⟩
  | n + 1, hn => by
    have hb := h.b0
    have hbl := h.bl
    have hlen := h.len
    obtain ⟨h1, h2, h3⟩ := h.confN n (by omega)
    rw [Go.Proofs.YtodcghipfolejaaGreat.confN, show p.g.l.getD n E0 = F.getD (p.base.toNat + n) E0 from h.getD n, show p.base.toNat + (n + 1) = (p.base.toNat + n) + 1 from rfl, cfN]
    by_cases hc : isC (F.getD (p.base.toNat + n) E0) = true
    · rw [if_pos hc, if_pos hc]
      refine ⟨rfl, by show p.base ≤ p.base + (n : Int) + 1; omega, fun k h4 h5 => ?_⟩
      have e : (p.base + (n : Int) + 1).toNat = p.base.toNat + n + 1 := by omega
      have h4' : (p.base + (n : Int) + 1).toNat ≤ k := h4
      omega
    · rw [if_neg hc, if_neg hc]
      refine ⟨h1, h2, fun k h4 h5 => ?_⟩
      by_cases e : k = p.base.toNat + n
      · subst e
        intro hx
        exact hc ((confAt_getD (by omega)).2 hx)
      · exact h3 k h4 (by omega)
theorem Rep.confAtG (h : Rep C0 p F) (i : Int) (h1 : p.base ≤ i) (h2 : i ≤ (F.length : Int)) : (confAt p.g i).1 = cfN C0 F i.toNat ∧ p.base ≤ (confAt p.g i).2 ∧ ∀ k, (confAt p.g i).2.toNat ≤ k → k < i.toNat → ¬ ConfAt F k := by
  have hlen := h.len
  have hb := h.b0
  have hm : min p.l.length (i - p.base).toNat = (i - p.base).toNat := by omega
  have e : confAt p.g i = Go.Proofs.YtodcghipfolejaaGreat.confN p.g (i - p.base).toNat := by
    show Go.Proofs.YtodcghipfolejaaGreat.confN p.g (min p.l.length (i - p.base).toNat) = _
    rw [hm]
  have := h.confN (i - p.base).toNat (by omega)
  rw [show p.base.toNat + (i - p.base).toNat = i.toNat by omega] at this
  rw [e]
  exact this
theorem Rep.confL (h : Rep C0 p F) : confL p = cf C0 F := by
  have hlen := h.len
  have := (h.confAtG (F.length : Int) (by omega) (Int.le_refl _)).1
  unfold Rf.confL
  rw [h.last, this]
  rfl
theorem Rep.confI (h : Rep C0 p F) : p.base ≤ confI p ∧ ∀ k, (confI p).toNat ≤ k → ¬ ConfAt F k := by
  have hlen := h.len
  obtain ⟨_, h2, h3⟩ := h.confAtG (F.length : Int) (by omega) (Int.le_refl _)
  unfold Rf.confI
  rw [h.last]
  refine ⟨h2, fun k hk hc => ?_⟩
  obtain ⟨e, he, hce⟩ := hc
  exact h3 k hk (by have := getI he; omega) ⟨e, he, hce⟩
theorem Rep.slice (h : Rep C0 p F) {i : Int} (h1 : p.base < i) : sliceL p.g i 8 = (F.drop (i.toNat - 1)).take 8 := by
  have hlen := h.len
  have hb := h.b0
  unfold sliceL
  by_cases hi : i ≤ (F.length : Int)
  · rw [if_pos ⟨h1, by show i - p.base ≤ (p.l.length : Int); omega, by decide⟩]
    show (p.l.drop (i - p.base - 1).toNat).take 8 = _
    rw [h.l, List.drop_drop]
    congr 2
    omega
  · rw [if_neg (by rintro ⟨_, h3, _⟩; have h4 : i - p.base ≤ (p.l.length : Int) := h3; omega), List.drop_of_length_le (by omega)]; rfl
/-- an entry more -/
theorem Rep.app (h : Rep C0 p F) (e : Ent) : Rep C0 { p with l := p.l ++ [e] } (F ++ [e]) := by
  have hA : Ag p.base.toNat F (F ++ [e]) := (Ag.refl h.bl).app [e]
  refine ⟨h.b0, by rw [List.length_append]; have := h.bl; show p.base.toNat ≤ _; omega, ?_, ?_, ?_⟩
  · show p.l ++ [e] = (F ++ [e]).drop p.base.toNat
    rw [List.drop_append_of_le_length h.bl, h.l]
  · show p.bt = _
    rw [h.bt]; exact tmI_ag hA (Nat.le_refl _)
  · show p.conf = _
    rw [h.conf]; exact cfN_ag C0 hA _ (Nat.le_refl _)
/-- the same log from a later beginning -/
theorem Rep.from_ (h : Rep C0 p F) {i : Int} (h1 : p.base ≤ i) (h2 : i ≤ (F.length : Int)) (p' : RP) (hb : p'.base = i) (hl : p'.l = p.l.drop (i - p.base).toNat) (hbt : p'.bt = termV p.g i) (hc : p'.conf = (confAt p.g i).1) : Rep C0 p' F := by
  have hb0 := h.b0
  refine ⟨by omega, by omega, ?_, ?_, ?_⟩
  · rw [hl, h.l, List.drop_drop, hb]; congr 1; omega
  · rw [hbt, h.term h1 h2, hb]
  · rw [hc, (h.confAtG i h1 h2).1, hb]
theorem Rep.same (h : Rep C0 p F) (p' : RP) (hb : p'.base = p.base) (hl : p'.l = p.l) (hbt : p'.bt = p.bt) (hc : p'.conf = p.conf) : Rep C0 p' F :=
  ⟨by rw [hb]; exact h.b0, by rw [hb]; exact h.bl, by rw [hl, hb]; exact h.l, by rw [hbt, hb]; exact h.bt, by rw [hc, hb]; exact h.conf⟩
end Go.Proofs.YtodcghipfolejaaGreat.Rf
/- Raft's safety: what holds of every node, of every message; how it is carried over. -/
namespace Go.Proofs.YtodcghipfolejaaGreat.Rf
open Go Go.Sl
set_option linter.unusedVariables false
set_option linter.unusedSimpArgs false

/-- the first x entries are known to be committed, in a term that is not later -/
def Cmt (g : Gh) (t : Int) (F : Lg) (x : Nat) : Prop := x = 0 ∨ ∃ s c m, g.Com s c m ∧ s ≤ t ∧ x ≤ c ∧ Ag x (g.L s) F
def PrI (g : Gh) (t : Int) (F : Lg) (q : Pr) : Prop := 1 ≤ q.next ∧ q.next ≤ (F.length : Int) + 1 ∧ 0 ≤ q.mtc ∧ q.mtc ≤ (F.length : Int) ∧ ∀ c : Nat, 1 ≤ c → (c : Int) ≤ q.mtc → g.Acc t q.node c
structure LeadI (g : Gh) (n : Int) (p : RP) (F : Lg) : Prop where
  win : g.Win p.term n
  log : F = g.L p.term
  acc : ∀ c, c ≤ F.length → g.Acc p.term n c
  com : ∀ c m, g.Com p.term c m → (c : Int) ≤ p.commit
  prs : ∀ q ∈ p.peers, PrI g p.term F q
structure CandI (g : Gh) (n : Int) (p : RP) (F : Lg) : Prop where
  log : F = g.CB p.term n
  lt : ∀ (k : Nat) (e : Ent), F[k]? = some e → e.1 < p.term
  vs : ∀ j ∈ p.votes, g.PV p.term j n
  pos : 1 ≤ p.term
/-- what a node has of a leader's log it keeps, unless a later leader lacks it -/
def AccI (g : Gh) (term : Int) (F : Lg) (t : Int) (c : Nat) : Prop := (∀ s l, g.Win s l → t < s → s ≤ term → Ag c (g.L t) (g.B s)) → Ag c (g.L t) F
structure NI (C0 : List Int) (g : Gh) (n : Int) (p : RP) (F : Lg) : Prop where
  id : p.id = n
  rep : Rep C0 p F
  path : Path g.L F
  le : ∀ (k : Nat) (e : Ent), F[k]? = some e → e.1 ≤ p.term
  term : 0 ≤ p.term
  bc : p.base ≤ p.commit
  cl : p.commit ≤ (F.length : Int)
  acc : ∀ t c, g.Acc t n c → t ≤ p.term ∧ c ≤ (g.L t).length ∧ AccI g p.term F t c
  cm : Cmt g p.term F p.commit.toNat
  pv : ∀ t i, g.PV t n i → t ≤ p.term ∧ (t = p.term → p.vote = i)
  mine : ∀ t j, g.PV t j n → t ≤ p.term
  win : ∀ t, g.Win t n → t ≤ p.term ∧ (t = p.term → p.role ≠ 1)
  cand : p.role = 1 → CandI g n p F
  lead : p.role = 2 → LeadI g n p F
structure MI (C0 : List Int) (g : Gh) (m : MP) : Prop where
  frm : NB m.frm
  k1 : m.kind = 1 → m.index = ((g.CB m.term m.frm).length : Int) ∧ m.lt = tmI (g.CB m.term m.frm) (g.CB m.term m.frm).length
  k2 : m.kind = 2 → m.ok = true → g.PV m.term m.frm m.to ∨ g.Win m.term m.to
  k3 : m.kind = 3 → g.Win m.term m.frm ∧ 0 ≤ m.index ∧ m.index.toNat + m.ents.length ≤ (g.L m.term).length ∧ (∀ k, k < m.ents.length → (g.L m.term)[m.index.toNat + k]? = m.ents[k]?) ∧ m.lt = tmI (g.L m.term) m.index.toNat ∧ 0 ≤ m.commit ∧ Cmt g m.term (g.L m.term) m.commit.toNat
  k4 : m.kind = 4 → m.ok = true → 0 ≤ m.index ∧ ∀ c : Nat, 1 ≤ c → (c : Int) ≤ m.index → g.Acc m.term m.frm c
  k5 : m.kind = 5 → g.Win m.term m.frm ∧ 0 ≤ m.index ∧ m.index.toNat ≤ (g.L m.term).length ∧ Cmt g m.term (g.L m.term) m.index.toNat ∧ m.lt = tmI (g.L m.term) m.index.toNat ∧ m.conf = cfN C0 (g.L m.term) m.index.toNat
/-- the whole world; node n's mind is p, its log F -/
structure WI (C0 : List Int) (g : Gh) (M : Int → RP) (Fs : Int → Lg) (S : MP → Prop) : Prop where
  tree : Tree C0 g
  node : ∀ n, NB n → NI C0 g n (M n) (Fs n)
  msg : ∀ m, S m → MI C0 g m ∧ (m.kind = 1 → m.term ≤ (M m.frm).term)
  rpv : ∀ t j i, g.PV t j i → NB j ∧ NB i
  racc : ∀ t j c, g.Acc t j c → NB j
  rwin : ∀ t i, g.Win t i → NB i
def upI {α : Type} (f : Int → α) (n : Int) (x : α) : Int → α := fun k => if k = n then x else f k
theorem upI_same {α : Type} (f : Int → α) (n : Int) (x : α) : upI f n x n = x := if_pos rfl
theorem upI_ne {α : Type} (f : Int → α) (n : Int) (x : α) {k : Int} (h : k ≠ n) : upI f n x k = f k := if_neg h
theorem upI_up {α : Type} (f : Int → α) (n : Int) (x y : α) : upI (upI f n x) n y = upI f n y := by
  funext k; unfold upI; split <;> rfl
/-- what was stays, and there may be more of it -/
structure Gle (g g' : Gh) : Prop where
  L : ∀ t, Ag (g.L t).length (g.L t) (g'.L t)
  B : ∀ t i, g.Win t i → g'.B t = g.B t
  win : ∀ t i, g.Win t i → g'.Win t i
  pv : ∀ t j i, g.PV t j i → g'.PV t j i
  acc : ∀ t j c, g.Acc t j c → g'.Acc t j c
  com : ∀ t c m, g.Com t c m → g'.Com t c m
theorem Gle.refl (g : Gh) : Gle g g := ⟨fun t => Ag.refl (Nat.le_refl _), fun _ _ _ => rfl, fun _ _ h => h, fun _ _ _ h => h, fun _ _ _ h => h, fun _ _ _ h => h⟩
theorem Gle.trans {a b c : Gh} (h : Gle a b) (k : Gle b c) : Gle a c :=
  ⟨fun t => (h.L t).trans ((k.L t).le (h.L t).r), fun t i w => by rw [k.B t i (h.win t i w), h.B t i w], fun t i w => k.win _ _ (h.win _ _ w), fun t j i w => k.pv _ _ _ (h.pv _ _ _ w), fun t j i w => k.acc _ _ _ (h.acc _ _ _ w), fun t j i w => k.com _ _ _ (h.com _ _ _ w)⟩
/-- .. by what node n does, whose term was T -/
structure Ext (g g' : Gh) (n T : Int) : Prop extends Gle g g' where
  winN : ∀ t i, g'.Win t i → i ≠ n → g.Win t i
  pvN : ∀ t j i, g'.PV t j i → j ≠ n → g.PV t j i
  accN : ∀ t j c, g'.Acc t j c → j ≠ n → g.Acc t j c
  comN : ∀ t c m, g'.Com t c m → g.Com t c m ∨ g'.Win t n
  LN : ∀ t i, g.Win t i → i ≠ n → g'.L t = g.L t
  CBN : ∀ t i, i ≠ n → g'.CB t i = g.CB t i
  CBO : ∀ t, t ≤ T → g'.CB t n = g.CB t n
theorem Ext.refl (g : Gh) (n T : Int) : Ext g g n T := ⟨Gle.refl g, fun _ _ h _ => h, fun _ _ _ h _ => h, fun _ _ _ h _ => h, fun _ _ _ h => .inl h, fun _ _ _ _ => rfl, fun _ _ _ => rfl, fun _ _ => rfl⟩
theorem Ext.trans {a b c : Gh} {n T : Int} (h : Ext a b n T) (k : Ext b c n T) : Ext a c n T :=
  ⟨h.toGle.trans k.toGle, fun t i w e => h.winN t i (k.winN t i w e) e, fun t j i w e => h.pvN t j i (k.pvN t j i w e) e, fun t j i w e => h.accN t j i (k.accN t j i w e) e,
    fun t x m w => by
      rcases k.comN t x m w with w | w
      · rcases h.comN t x m w with w | w
        · exact .inl w
        · exact .inr (k.win _ _ w)
      · exact .inr w,
    fun t i w e => by rw [k.LN t i (h.win _ _ w) e, h.LN t i w e], fun t i e => by rw [k.CBN t i e, h.CBN t i e], fun t ht => by rw [k.CBO t ht, h.CBO t ht]⟩
variable {C0 : List Int} {g g' : Gh}
theorem Gle.agr (h : Gle g g') {t : Int} {n : Nat} {X : Lg} (ha : Ag n (g.L t) X) : Ag n (g'.L t) X := (((h.L t).le ha.l).symm).trans ha
theorem Cmt.ext (h : Gle g g') {t : Int} {F : Lg} {x : Nat} (hc : Cmt g t F x) : Cmt g' t F x := by
  rcases hc with h0 | ⟨s, c, m, h1, h2, h3, h4⟩
  · exact .inl h0
  · exact .inr ⟨s, c, m, h.com _ _ _ h1, h2, h3, h.agr h4⟩
theorem Cmt.ag {t : Int} {F G : Lg} {x y : Nat} (hc : Cmt g t F x) (ha : Ag y F G) (hy : y ≤ x) : Cmt g t G y := by
  rcases hc with h0 | ⟨s, c, m, h1, h2, h3, h4⟩
  · left; omega
  · exact .inr ⟨s, c, m, h1, h2, Nat.le_trans hy h3, (h4.le hy).trans ha⟩
theorem Cmt.le {t t' : Int} {F : Lg} {x : Nat} (hc : Cmt g t F x) (h : t ≤ t') : Cmt g t' F x := by
  rcases hc with h0 | ⟨s, c, m, h1, h2, h3, h4⟩
  · exact .inl h0
  · exact .inr ⟨s, c, m, h1, Int.le_trans h2 h, h3, h4⟩
theorem PrI.ext (h : Gle g g') {t : Int} {F : Lg} {q : Pr} (hq : PrI g t F q) : PrI g' t F q := ⟨hq.1, hq.2.1, hq.2.2.1, hq.2.2.2.1, fun c h1 h2 => h.acc _ _ _ (hq.2.2.2.2 c h1 h2)⟩
theorem Path.ext (h : Gle g g') {G : Lg} (p : Path g.L G) : Path g'.L G := fun k e he => (h.agr (p k e he).symm).symm
theorem AccI.ext (h : Gle g g') {T : Int} {F : Lg} {t : Int} {c : Nat} (hc : c ≤ (g.L t).length) (ha : AccI g T F t c) : AccI g' T F t c := by
  intro hp
  have h1 := (h.L t).le hc
  refine h.agr (ha fun s l hw hts hsT => ?_)
  have := hp s l (h.win _ _ hw) hts hsT
  rw [h.B s l hw] at this
  exact h1.trans this
theorem AccI.up {T T' : Int} {F : Lg} {t : Int} {c : Nat} (h : T ≤ T') (ha : AccI g T F t c) : AccI g T' F t c := fun hp => ha fun s l hw hts hsT => hp s l hw hts (Int.le_trans hsT h)
/-- another node -/
theorem NI.ext {n T : Int} (h : Ext g g' n T) (hu : ∀ t i j, g'.Win t i → g'.Win t j → i = j) {k : Int} (hk : k ≠ n) {p : RP} {F : Lg} (N : NI C0 g k p F) (hm : ∀ t j, g'.PV t j k → g.PV t j k ∨ t ≤ p.term) : NI C0 g' k p F where
  id := N.id
  rep := N.rep
  path := N.path.ext h.toGle
  le := N.le
  term := N.term
  bc := N.bc
  cl := N.cl
  acc := fun t c ha => by
    obtain ⟨h1, h2, h3⟩ := N.acc t c (h.accN _ _ _ ha hk)
    exact ⟨h1, Nat.le_trans h2 (h.L t).r, h3.ext h.toGle h2⟩
  cm := N.cm.ext h.toGle
  pv := fun t i hp => N.pv t i (h.pvN _ _ _ hp hk)
  mine := fun t j hp => by
    rcases hm t j hp with h1 | h1
    · exact N.mine t j h1
    · exact h1
  win := fun t hw => N.win t (h.winN _ _ hw hk)
  cand := fun hr => by
    have c := N.cand hr
    exact ⟨by rw [h.CBN _ _ hk]; exact c.log, c.lt, fun j hj => h.pv _ _ _ (c.vs j hj), c.pos⟩
  lead := fun hr => by
    have c := N.lead hr
    have hL : g'.L p.term = g.L p.term := h.LN _ _ c.win hk
    refine ⟨h.win _ _ c.win, by rw [hL]; exact c.log, fun x hx => h.acc _ _ _ (c.acc x hx), fun x m hc => ?_, fun q hq => (c.prs q hq).ext h.toGle⟩
    rcases h.comN _ _ _ hc with h1 | h1
    · exact c.com x m h1
    · exact absurd (hu _ _ _ (h.win _ _ c.win) h1) hk
theorem MI.ext {n T : Int} (h : Ext g g' n T) {m : MP} (hT : m.kind = 1 → m.frm = n → m.term ≤ T) (I : MI C0 g m) : MI C0 g' m where
  frm := I.frm
  k1 := fun hk => by
    have e : g'.CB m.term m.frm = g.CB m.term m.frm := by
      by_cases hn : m.frm = n
      · rw [hn]; exact h.CBO _ (hT hk hn)
      · exact h.CBN _ _ hn
    rw [e]; exact I.k1 hk
  k2 := fun hk ho => by
    rcases I.k2 hk ho with h1 | h1
    · exact .inl (h.pv _ _ _ h1)
    · exact .inr (h.win _ _ h1)
  k3 := fun hk => by
    obtain ⟨h1, h2, h3, h4, h5, h6, h7⟩ := I.k3 hk
    have hA := h.L m.term
    refine ⟨h.win _ _ h1, h2, Nat.le_trans h3 hA.r, fun k hk => ?_, ?_, h6, ?_⟩
    · rw [← hA.eq _ (by omega)]; exact h4 k hk
    · rw [h5]; exact tmI_ag hA (by omega)
    · rcases h7 with h0 | ⟨s, c, m2, a1, a2, a3, a4⟩
      · exact .inl h0
      · exact .inr ⟨s, c, m2, h.com _ _ _ a1, a2, a3, (h.toGle.agr a4).trans (hA.le a4.r)⟩
  k4 := fun hk ho => ⟨(I.k4 hk ho).1, fun c h1 h2 => h.acc _ _ _ ((I.k4 hk ho).2 c h1 h2)⟩
  k5 := fun hk => by
    obtain ⟨h1, h2, h3, h4, h5, h6⟩ := I.k5 hk
    have hA := h.L m.term
    refine ⟨h.win _ _ h1, h2, Nat.le_trans h3 hA.r, ?_, ?_, ?_⟩
    · rcases h4 with h0 | ⟨s, c, m2, a1, a2, a3, a4⟩
      · exact .inl h0
      · exact .inr ⟨s, c, m2, h.com _ _ _ a1, a2, a3, (h.toGle.agr a4).trans (hA.le a4.r)⟩
    · rw [h5]; exact tmI_ag hA h3
    · rw [h6]; exact cfN_ag C0 (hA.le h3) _ (Nat.le_refl _)
/-! ## steps of the whole -/
variable {M : Int → RP} {Fs : Int → Lg} {S : MP → Prop}
/-- node n turns by itself; nothing that was is turned -/
theorem WI.quiet {n : Int} (W : WI C0 g M Fs S) {p : RP} {F : Lg} (N : NI C0 g n p F) (ht : (M n).term ≤ p.term) : WI C0 g (upI M n p) (upI Fs n F) S where
  tree := W.tree
  node := fun k hk => by
    by_cases e : k = n
    · subst e; rw [upI_same, upI_same]; exact N
    · rw [upI_ne _ _ _ e, upI_ne _ _ _ e]; exact W.node k hk
  msg := fun m hm => by
    refine ⟨(W.msg m hm).1, fun hk => ?_⟩
    have h1 := (W.msg m hm).2 hk
    by_cases e : m.frm = n
    · rw [e, upI_same]; rw [e] at h1; omega
    · rw [upI_ne _ _ _ e]; exact h1
  rpv := W.rpv
  racc := W.racc
  rwin := W.rwin
/-- .. and there is more -/
theorem WI.more {n : Int} (W : WI C0 g M Fs S) (h : Ext g g' n (M n).term) (T : Tree C0 g') {p : RP} {F : Lg} (N : NI C0 g' n p F) (ht : (M n).term ≤ p.term)
    (hm : ∀ k t j, k ≠ n → NB k → g'.PV t j k → g.PV t j k ∨ t ≤ (M k).term) (hpv : ∀ t j i, g'.PV t j i → NB j ∧ NB i) (hacc : ∀ t j c, g'.Acc t j c → NB j) (hwin : ∀ t i, g'.Win t i → NB i) :
    WI C0 g' (upI M n p) (upI Fs n F) S where
  tree := T
  node := fun k hk => by
    by_cases e : k = n
    · subst e; rw [upI_same, upI_same]; exact N
    · rw [upI_ne _ _ _ e, upI_ne _ _ _ e]
      exact (W.node k hk).ext h T.uniq e (fun t j hp => hm k t j e hk hp)
  msg := fun m hm => by
    obtain ⟨h1, h2⟩ := W.msg m hm
    refine ⟨h1.ext h (fun hk he => by have := h2 hk; rw [he] at this; exact this), fun hk => ?_⟩
    have h3 := h2 hk
    by_cases e : m.frm = n
    · rw [e, upI_same]; rw [e] at h3; omega
    · rw [upI_ne _ _ _ e]; exact h3
  rpv := hpv
  racc := hacc
  rwin := hwin
/-- messages are said -/
theorem WI.said (W : WI C0 g M Fs S) (new : List MP) (h : ∀ m ∈ new, MI C0 g m ∧ (m.kind = 1 → m.term ≤ (M m.frm).term)) : WI C0 g M Fs (fun m => S m ∨ m ∈ new) :=
  ⟨W.tree, W.node, fun m hm => by
    rcases hm with hm | hm
    · exact W.msg m hm
    · exact h m hm, W.rpv, W.racc, W.rwin⟩
end Go.Proofs.YtodcghipfolejaaGreat.Rf
/- Raft's safety: what there is more of, and that the tree stays one. -/
namespace Go.Proofs.YtodcghipfolejaaGreat.Rf
open Go Go.Sl
set_option linter.unusedVariables false
set_option linter.unusedSimpArgs false

variable {C0 : List Int} {g g' : Gh}
abbrev Lle (g g' : Gh) : Prop := ∀ t, Ag (g.L t).length (g.L t) (g'.L t)
theorem Own.mono (h : Lle g g') {t : Int} {c : Nat} (o : Own g t c) : Own g' t c := by
  obtain ⟨h1, e, he, h2⟩ := o
  exact ⟨h1, e, by rw [← (h t).eq _ (getI he)]; exact he, h2⟩
theorem Own.len {t : Int} {c : Nat} (o : Own g t c) : c ≤ (g.L t).length := by
  obtain ⟨h1, e, he, h2⟩ := o
  have := getI he; omega
theorem confAt_ag {n k : Nat} {G H : Lg} (h : Ag n G H) (hk : k < n) : ConfAt G k ↔ ConfAt H k := by
  unfold ConfAt; rw [h.eq k hk]
theorem Jus.mono (h : Lle g g') {t : Int} {k c : Nat} (hk : k ≤ (g.L t).length) (j : Jus g t k c) : Jus g' t k c :=
  ⟨j.own.mono h, j.le, fun k' h1 h2 => j.all k' h1 ((confAt_ag (h t) (by omega)).2 h2)⟩
theorem Lle.same (h : g'.L = g.L) : Lle g g' := fun t => by rw [h]; exact Ag.refl (Nat.le_refl _)
theorem Jus.same {t : Int} {k c : Nat} (j : Jus g t k c) (h : g'.L = g.L) (hk : k ≤ (g.L t).length) : Jus g' t k c := j.mono (Lle.same h) hk
/-! ## a vote -/
def gV (g : Gh) (T n i : Int) : Gh := { g with PV := fun t j k => g.PV t j k ∨ (t = T ∧ j = n ∧ k = i) }
theorem tree_V {T n i : Int} (h : Tree C0 g) (hu : ∀ k, g.PV T n k → k = i)
    (hh : ∀ s c, g.Acc s n c → s < T → Own g s c → Prov g s c T i → upTo (g.CB T i) s c) : Tree C0 (gV g T n i) where
  path := h.path
  le := h.le
  base := h.base
  low := h.low
  ne := h.ne
  pos := h.pos
  uniq := h.uniq
  cb := h.cb
  winq := fun t i w => by
    obtain ⟨Q, h1, h2⟩ := h.winq t i w
    exact ⟨Q, h1, fun j hj => .inl (h2 j hj)⟩
  pvu := fun t j a b ha hb => by
    rcases ha with ha | ⟨rfl, rfl, rfl⟩
    · rcases hb with hb | ⟨rfl, rfl, rfl⟩
      · exact h.pvu _ _ _ _ ha hb
      · exact hu _ ha
    · rcases hb with hb | ⟨_, _, rfl⟩
      · exact (hu _ hb).symm
      · rfl
  comw := h.comw
  comq := h.comq
  just := fun t k e he h1 h2 => by
    obtain ⟨a, c, m, b, j⟩ := h.just t k e he h1 h2
    exact ⟨a, c, m, b, j.same rfl (Nat.le_of_lt (getI he))⟩
  justc := fun t c m hc k e hk he h1 h2 => by
    obtain ⟨c', m', a, b, j⟩ := h.justc t c m hc k e hk he h1 h2
    exact ⟨c', m', a, b, j.same rfl (Nat.le_of_lt (getI he))⟩
  hv := fun t t' j k c hp ha ht ho hpr => by
    rcases hp with hp | ⟨rfl, rfl, rfl⟩
    · exact h.hv t t' j k c hp ha ht ho hpr
    · exact hh t c ha ht ho hpr
  lc := h.lc
theorem ext_V (g : Gh) (T n i T0 : Int) : Ext g (gV g T n i) n T0 where
  L := fun t => Ag.refl (Nat.le_refl _)
  B := fun _ _ _ => rfl
  win := fun _ _ h => h
  pv := fun _ _ _ h => .inl h
  acc := fun _ _ _ h => h
  com := fun _ _ _ h => h
  winN := fun _ _ h _ => h
  pvN := fun t j k h e => by
    rcases h with h | ⟨_, rfl, _⟩
    · exact h
    · exact absurd rfl e
  accN := fun _ _ _ h _ => h
  comN := fun _ _ _ h => .inl h
  LN := fun _ _ _ _ => rfl
  CBN := fun _ _ _ => rfl
  CBO := fun _ _ => rfl
/-! ## who stands -/
def gS (g : Gh) (T n : Int) (F : Lg) : Gh := { g with CB := fun t k => if t = T ∧ k = n then F else g.CB t k }
theorem tree_S {T n : Int} {F : Lg} (h : Tree C0 g) (hw : ¬ g.Win T n) (hp : ∀ j, ¬ g.PV T j n) : Tree C0 (gS g T n F) where
  path := h.path
  le := h.le
  base := h.base
  low := h.low
  ne := h.ne
  pos := h.pos
  uniq := h.uniq
  cb := fun t i w => by
    show g.B t = if t = T ∧ i = n then F else g.CB t i
    rw [if_neg (by rintro ⟨rfl, rfl⟩; exact hw w)]
    exact h.cb t i w
  winq := h.winq
  pvu := h.pvu
  comw := h.comw
  comq := h.comq
  just := fun t k e he h1 h2 => by
    obtain ⟨a, c, m, b, j⟩ := h.just t k e he h1 h2
    exact ⟨a, c, m, b, j.same rfl (Nat.le_of_lt (getI he))⟩
  justc := fun t c m hc k e hk he h1 h2 => by
    obtain ⟨c', m', a, b, j⟩ := h.justc t c m hc k e hk he h1 h2
    exact ⟨c', m', a, b, j.same rfl (Nat.le_of_lt (getI he))⟩
  hv := fun t t' j k c hv ha ht ho hpr => by
    show upTo (if t' = T ∧ k = n then F else g.CB t' k) t c
    rw [if_neg (by rintro ⟨rfl, rfl⟩; exact hp j hv)]
    exact h.hv t t' j k c hv ha ht ho hpr
  lc := h.lc
theorem ext_S (g : Gh) (T n T0 : Int) (F : Lg) (hT : T0 < T) : Ext g (gS g T n F) n T0 where
  L := fun t => Ag.refl (Nat.le_refl _)
  B := fun _ _ _ => rfl
  win := fun _ _ h => h
  pv := fun _ _ _ h => h
  acc := fun _ _ _ h => h
  com := fun _ _ _ h => h
  winN := fun _ _ h _ => h
  pvN := fun t j k h e => h
  accN := fun _ _ _ h _ => h
  comN := fun _ _ _ h => .inl h
  LN := fun _ _ _ _ => rfl
  CBN := fun t i hi => if_neg fun e => hi e.2
  CBO := fun t ht => if_neg fun e => by have := e.1; omega
/-! ## who has how much -/
def gK (g : Gh) (T n : Int) (x : Nat) : Gh := { g with Acc := fun t j c => g.Acc t j c ∨ (t = T ∧ j = n ∧ c ≤ x) }
theorem tree_K {T n : Int} {x : Nat} (h : Tree C0 g) (hp : ∀ t i, g.PV t n i → t ≤ T) : Tree C0 (gK g T n x) where
  path := h.path
  le := h.le
  base := h.base
  low := h.low
  ne := h.ne
  pos := h.pos
  uniq := h.uniq
  cb := h.cb
  winq := h.winq
  pvu := h.pvu
  comw := h.comw
  comq := fun t c m w => by
    obtain ⟨Q, h1, h2⟩ := h.comq t c m w
    exact ⟨Q, h1, fun j hj => .inl (h2 j hj)⟩
  just := fun t k e he h1 h2 => by
    obtain ⟨a, c, m, b, j⟩ := h.just t k e he h1 h2
    exact ⟨a, c, m, b, j.same rfl (Nat.le_of_lt (getI he))⟩
  justc := fun t c m hc k e hk he h1 h2 => by
    obtain ⟨c', m', a, b, j⟩ := h.justc t c m hc k e hk he h1 h2
    exact ⟨c', m', a, b, j.same rfl (Nat.le_of_lt (getI he))⟩
  hv := fun t t' j k c hv ha ht ho hpr => by
    rcases ha with ha | ⟨rfl, rfl, _⟩
    · exact h.hv t t' j k c hv ha ht ho hpr
    · have := hp _ _ hv; omega
  lc := h.lc
theorem ext_K (g : Gh) (T n T0 : Int) (x : Nat) : Ext g (gK g T n x) n T0 where
  L := fun t => Ag.refl (Nat.le_refl _)
  B := fun _ _ _ => rfl
  win := fun _ _ h => h
  pv := fun _ _ _ h => h
  acc := fun _ _ _ h => .inl h
  com := fun _ _ _ h => h
  winN := fun _ _ h _ => h
  pvN := fun t j k h e => h
  accN := fun t j k h e => by
    rcases h with h | ⟨_, rfl, _⟩
    · exact h
    · exact absurd rfl e
  comN := fun _ _ _ h => .inl h
  LN := fun _ _ _ _ => rfl
  CBN := fun _ _ _ => rfl
  CBO := fun _ _ => rfl
/-! ## a commit -/
def gC (g : Gh) (T : Int) (c m : Nat) : Gh := { g with Com := fun t a b => g.Com t a b ∨ (t = T ∧ a = c ∧ b = m) }
theorem tree_C {T : Int} {c m : Nat} (h : Tree C0 g) (hcm : c ≤ m) (hml : m ≤ (g.L T).length) (hown : Own g T c)
    (hq : ∃ Q, mostB (cfN C0 (g.L T) m) Q = true ∧ ∀ j ∈ Q, g.Acc T j c) (hc : ∀ a b, g.Com T a b → a < c) : Tree C0 (gC g T c m) where
  path := h.path
  le := h.le
  base := h.base
  low := h.low
  ne := h.ne
  pos := h.pos
  uniq := h.uniq
  cb := h.cb
  winq := h.winq
  pvu := h.pvu
  comw := fun t a b w => by
    rcases w with w | ⟨rfl, rfl, rfl⟩
    · exact h.comw t a b w
    · exact ⟨hcm, hml, hown⟩
  comq := fun t a b w => by
    rcases w with w | ⟨rfl, rfl, rfl⟩
    · exact h.comq t a b w
    · exact hq
  just := fun t k e he h1 h2 => by
    obtain ⟨a, c, m, b, j⟩ := h.just t k e he h1 h2
    exact ⟨a, c, m, .inl b, j.same rfl (Nat.le_of_lt (getI he))⟩
  justc := fun t a b w k e hk he h1 h2 => by
    rcases w with w | ⟨rfl, rfl, rfl⟩
    · obtain ⟨c', m', a, b, j⟩ := h.justc t a b w k e hk he h1 h2
      exact ⟨c', m', .inl a, b, j.same rfl (Nat.le_of_lt (getI he))⟩
    · obtain ⟨_, c', m', w, j⟩ := h.just t k e he h1 h2
      exact ⟨c', m', .inl w, hc _ _ w, j.same rfl (Nat.le_of_lt (getI he))⟩
  hv := h.hv
  lc := fun t a b t' i w hw ht => by
    rcases w with w | ⟨rfl, rfl, rfl⟩
    · exact h.lc t a b t' i w hw ht
    · exact lc_com h hcm hml hown hq _ t' i rfl hw ht
theorem ext_C (g : Gh) (T n T0 : Int) (c m : Nat) (hw : g.Win T n) : Ext g (gC g T c m) n T0 where
  L := fun t => Ag.refl (Nat.le_refl _)
  B := fun _ _ _ => rfl
  win := fun _ _ h => h
  pv := fun _ _ _ h => h
  acc := fun _ _ _ h => h
  com := fun _ _ _ h => .inl h
  winN := fun _ _ h _ => h
  pvN := fun t j k h e => h
  accN := fun _ _ _ h _ => h
  comN := fun _ _ _ h => by
    rcases h with h | ⟨rfl, _, _⟩
    · exact .inl h
    · exact .inr hw
  LN := fun _ _ _ _ => rfl
  CBN := fun _ _ _ => rfl
  CBO := fun _ _ => rfl
/-! ## a leader's entry -/
def gA (g : Gh) (T : Int) (e : Ent) : Gh := { g with L := fun t => if t = T then g.L T ++ [e] else g.L t }
theorem gA_le (g : Gh) (T : Int) (e : Ent) : Lle g (gA g T e) := fun t => by
  show Ag _ _ (if t = T then g.L T ++ [e] else g.L t)
  split
  · rename_i h; subst h; exact (Ag.refl (Nat.le_refl _)).app _
  · exact Ag.refl (Nat.le_refl _)
theorem gA_L (g : Gh) (T : Int) (e : Ent) : (gA g T e).L T = g.L T ++ [e] := if_pos rfl
theorem gA_ne (g : Gh) (T : Int) (e : Ent) {t : Int} (h : t ≠ T) : (gA g T e).L t = g.L t := if_neg h
theorem app_get {G : Lg} {x : Ent} {k : Nat} {e : Ent} (h : (G ++ [x])[k]? = some e) : (k < G.length ∧ G[k]? = some e) ∨ (k = G.length ∧ e = x) := by
  have hk := getI h
  rw [List.length_append] at hk
  by_cases e1 : k < G.length
  · rw [List.getElem?_append_left e1] at h; exact .inl ⟨e1, h⟩
  · have e2 : k = G.length := by have : [x].length = 1 := rfl; omega
    subst e2
    rw [List.getElem?_append_right (Nat.le_refl _), Nat.sub_self] at h
    injection h with h
    exact .inr ⟨rfl, h.symm⟩
theorem gA_get {g : Gh} {T : Int} {x : Ent} {t : Int} {k : Nat} {e : Ent} (h : ((gA g T x).L t)[k]? = some e) : (k < (g.L t).length ∧ (g.L t)[k]? = some e) ∨ (t = T ∧ k = (g.L T).length ∧ e = x) := by
  by_cases ht : t = T
  · subst ht
    rw [gA_L] at h
    rcases app_get h with h | ⟨h1, h2⟩
    · exact .inl h
    · exact .inr ⟨rfl, h1, h2⟩
  · rw [gA_ne _ _ _ ht] at h
    exact .inl ⟨getI h, h⟩
theorem own_back (h : Lle g g') {t : Int} {c : Nat} (hc : c ≤ (g.L t).length) (o : Own g' t c) : Own g t c := by
  obtain ⟨h1, e, he, h2⟩ := o
  exact ⟨h1, e, by rw [(h t).eq _ (by omega)]; exact he, h2⟩
theorem tree_A {T n : Int} {x : Ent} (h : Tree C0 g) (hw : g.Win T n) (hx : x.1 = T)
    (hacc : ∀ t j c, g.Acc t j c → c ≤ (g.L t).length)
    (hj : isC x = true → stepS (cf C0 (g.L T)) (readL x.2.2) = true ∧ ∃ c m, g.Com T c m ∧ Jus g T (g.L T).length c) : Tree C0 (gA g T x) where
  path := fun t k e he => by
    rcases gA_get he with ⟨h1, h2⟩ | ⟨rfl, rfl, rfl⟩
    · have hp := h.path t k e h2
      exact (((gA_le g T x) t).le hp.l).symm.trans (hp.trans (((gA_le g T x) e.1).le hp.r))
    · rw [hx]
      exact Ag.refl (getI he)
  le := fun t k e he => by
    rcases gA_get he with ⟨h1, h2⟩ | ⟨rfl, rfl, rfl⟩
    · exact h.le t k e h2
    · rw [hx]; exact Int.le_refl _
  base := fun t i w => by
    have := h.base t i w
    exact this.trans (((gA_le g T x) t).le this.r)
  low := fun t i w k e he => by
    rcases gA_get he with ⟨h1, h2⟩ | ⟨rfl, rfl, rfl⟩
    · exact h.low t i w k e h2
    · have := (h.base t i w).r
      exact ⟨fun _ => this, fun _ => hx⟩
  ne := fun t k e he => by
    rcases gA_get he with ⟨h1, h2⟩ | ⟨rfl, rfl, rfl⟩
    · exact h.ne t k e h2
    · exact ⟨n, hw⟩
  pos := h.pos
  uniq := h.uniq
  cb := h.cb
  winq := h.winq
  pvu := h.pvu
  comw := fun t a b w => by
    obtain ⟨h1, h2, h3⟩ := h.comw t a b w
    exact ⟨h1, Nat.le_trans h2 ((gA_le g T x) t).r, h3.mono (gA_le g T x)⟩
  comq := fun t a b w => by
    obtain ⟨h1, h2, h3⟩ := h.comw t a b w
    rw [← cfN_ag C0 ((gA_le g T x) t) b h2]
    exact h.comq t a b w
  just := fun t k e he h1 h2 => by
    rcases gA_get he with ⟨hk, he'⟩ | ⟨rfl, rfl, rfl⟩
    · obtain ⟨a, c, m, b, j⟩ := h.just t k e he' h1 h2
      rw [← cfN_ag C0 ((gA_le g T x) t) k (Nat.le_of_lt hk)]
      exact ⟨a, c, m, b, j.mono (gA_le g T x) (Nat.le_of_lt hk)⟩
    · obtain ⟨a, c, m, b, j⟩ := hj h2
      rw [← cfN_ag C0 ((gA_le g _ _) _) _ (Nat.le_refl _)]
      exact ⟨a, c, m, b, j.mono (gA_le g _ _) (Nat.le_refl _)⟩
  justc := fun t a b w k e hk he h1 h2 => by
    obtain ⟨_, h4, _⟩ := h.comw t a b w
    have he' : (g.L t)[k]? = some e := by rw [((gA_le g T x) t).eq k (by omega)]; exact he
    obtain ⟨c', m', a, b, j⟩ := h.justc t a b w k e hk he' h1 h2
    exact ⟨c', m', a, b, j.mono (gA_le g T x) (Nat.le_of_lt (getI he'))⟩
  hv := fun t t' j k c hv ha ht ho hpr => by
    have hc := hacc t j c ha
    refine h.hv t t' j k c hv ha ht (own_back (gA_le g T x) hc ho) fun s l hw h1 h2 => ?_
    have := hpr s l hw h1 h2
    exact (((gA_le g T x) t).le hc).trans this
  lc := fun t a b t' i w hw ht => by
    have := h.lc t a b t' i w hw ht
    exact (((gA_le g T x) t).le this.l).symm.trans this
theorem ext_A (g : Gh) (T n T0 : Int) (x : Ent) (hu : ∀ i, g.Win T i → i = n) : Ext g (gA g T x) n T0 where
  L := gA_le g T x
  B := fun _ _ _ => rfl
  win := fun _ _ h => h
  pv := fun _ _ _ h => h
  acc := fun _ _ _ h => h
  com := fun _ _ _ h => h
  winN := fun _ _ h _ => h
  pvN := fun t j k h e => h
  accN := fun _ _ _ h _ => h
  comN := fun _ _ _ h => .inl h
  LN := fun t i w e => gA_ne _ _ _ (by rintro rfl; exact e (hu i w))
  CBN := fun _ _ _ => rfl
  CBO := fun _ _ => rfl
/-! ## an election -/
def gW (g : Gh) (T n : Int) (F : Lg) (x : Ent) : Gh := { g with L := fun t => if t = T then F ++ [x] else g.L t, B := fun t => if t = T then F else g.B t, Win := fun t i => g.Win t i ∨ (t = T ∧ i = n) }
theorem gW_L (g : Gh) (T n : Int) (F : Lg) (x : Ent) : (gW g T n F x).L T = F ++ [x] := if_pos rfl
theorem gW_ne (g : Gh) (T n : Int) (F : Lg) (x : Ent) {t : Int} (h : t ≠ T) : (gW g T n F x).L t = g.L t := if_neg h
theorem gW_B (g : Gh) (T n : Int) (F : Lg) (x : Ent) : (gW g T n F x).B T = F := if_pos rfl
theorem gW_Bne (g : Gh) (T n : Int) (F : Lg) (x : Ent) {t : Int} (h : t ≠ T) : (gW g T n F x).B t = g.B t := if_neg h
theorem gW_le {T n : Int} {F : Lg} {x : Ent} (h0 : g.L T = []) : Lle g (gW g T n F x) := fun t => by
  by_cases ht : t = T
  · subst ht; rw [h0]; exact Ag.zero _ _
  · rw [gW_ne _ _ _ _ _ ht]; exact Ag.refl (Nat.le_refl _)
theorem no_entry (h : Tree C0 g) {T : Int} (hn : ∀ i, ¬ g.Win T i) : g.L T = [] := by
  cases e : g.L T with
  | nil => rfl
  | cons a r =>
    obtain ⟨i, hi⟩ := h.ne T 0 a (by rw [e]; rfl)
    exact absurd hi (hn i)
theorem gW_get {T n : Int} {F : Lg} {x : Ent} {t : Int} {k : Nat} {e : Ent} (h : ((gW g T n F x).L t)[k]? = some e) : (t ≠ T ∧ (g.L t)[k]? = some e) ∨ (t = T ∧ k < F.length ∧ F[k]? = some e) ∨ (t = T ∧ k = F.length ∧ e = x) := by
  by_cases ht : t = T
  · subst ht
    rw [gW_L] at h
    rcases app_get h with ⟨h1, h2⟩ | ⟨h1, h2⟩
    · exact .inr (.inl ⟨rfl, h1, h2⟩)
    · exact .inr (.inr ⟨rfl, h1, h2⟩)
  · rw [gW_ne _ _ _ _ _ ht] at h
    exact .inl ⟨ht, h⟩
theorem tree_W {T n : Int} {F : Lg} {x : Ent} (h : Tree C0 g) (E : Elec C0 g T n F) (hn : ∀ i, ¬ g.Win T i) (hx : x.1 = T) (hxc : isC x = false) (hpos : 1 ≤ T)
    (hacc : ∀ t j c, g.Acc t j c → c ≤ (g.L t).length) : Tree C0 (gW g T n F x) := by
  have h0 := no_entry h hn
  have hle : Lle g (gW g T n F x) := gW_le h0
  have hcT : ∀ a b, ¬ g.Com T a b := fun a b w => by
    obtain ⟨_, _, ⟨_, e, he, _⟩⟩ := h.comw T a b w
    rw [h0] at he
    cases he
  have hF : Path (gW g T n F x).L F := fun k e he => by
    have hp := E.path k e he
    exact hp.trans ((hle e.1).le hp.r)
  refine ⟨fun t k e he => ?_, fun t k e he => ?_, fun t i w => ?_, fun t i w k e he => ?_, fun t k e he => ?_, fun t i w => ?_, fun t i j wi wj => ?_, fun t i w => ?_, fun t i w => ?_, h.pvu, fun t a b w => ?_, fun t a b w => ?_, fun t k e he h1 h2 => ?_, fun t a b w k e hk he h1 h2 => ?_, fun t t' j k c hv ha ht ho hpr => ?_, fun t a b t' i w hw ht => ?_⟩
  · rcases gW_get he with ⟨h1, h2⟩ | ⟨rfl, h1, h2⟩ | ⟨rfl, rfl, rfl⟩
    · have hp := h.path t k e h2
      rw [gW_ne _ _ _ _ _ h1]
      exact hp.trans ((hle e.1).le hp.r)
    · have := hF k e h2
      rw [gW_L]
      exact ((Ag.refl this.l).app [x]).symm.trans this
    · rw [hx]; exact Ag.refl (getI he)
  · rcases gW_get he with ⟨h1, h2⟩ | ⟨rfl, h1, h2⟩ | ⟨rfl, rfl, rfl⟩
    · exact h.le t k e h2
    · exact Int.le_of_lt (E.lt k e h2)
    · rw [hx]; exact Int.le_refl _
  · by_cases ht : t = T
    · subst ht
      rw [gW_B, gW_L]; exact (Ag.refl (Nat.le_refl _)).app [x]
    · rw [gW_Bne _ _ _ _ _ ht, gW_ne _ _ _ _ _ ht]
      rcases w with w | ⟨rfl, _⟩
      · exact h.base t i w
      · exact absurd rfl ht
  · rcases gW_get he with ⟨h1, h2⟩ | ⟨rfl, h1, h2⟩ | ⟨rfl, rfl, rfl⟩
    · rw [gW_Bne _ _ _ _ _ h1]
      rcases w with w | ⟨rfl, _⟩
      · exact h.low t i w k e h2
      · exact absurd rfl h1
    · rw [gW_B]
      have := E.lt k e h2
      constructor <;> intro <;> omega
    · rw [gW_B]
      exact ⟨fun _ => Nat.le_refl _, fun _ => hx⟩
  · rcases gW_get he with ⟨h1, h2⟩ | ⟨rfl, h1, h2⟩ | ⟨rfl, rfl, rfl⟩
    · obtain ⟨i, hi⟩ := h.ne t k e h2
      exact ⟨i, .inl hi⟩
    · exact ⟨n, .inr ⟨rfl, rfl⟩⟩
    · exact ⟨n, .inr ⟨rfl, rfl⟩⟩
  · rcases w with w | ⟨rfl, _⟩
    · exact h.pos t i w
    · exact hpos
  · rcases wi with wi | ⟨rfl, rfl⟩
    · rcases wj with wj | ⟨rfl, rfl⟩
      · exact h.uniq t i j wi wj
      · exact absurd wi (hn _)
    · rcases wj with wj | ⟨_, rfl⟩
      · exact absurd wj (hn _)
      · rfl
  · rcases w with w | ⟨rfl, rfl⟩
    · rw [gW_Bne _ _ _ _ _ (by rintro rfl; exact hn _ w)]
      exact h.cb t i w
    · rw [gW_B]; exact E.cb.symm
  · rcases w with w | ⟨rfl, rfl⟩
    · rw [gW_Bne _ _ _ _ _ (by rintro rfl; exact hn _ w)]
      exact h.winq t i w
    · rw [gW_B]; exact E.q
  · obtain ⟨h1, h2, h3⟩ := h.comw t a b w
    exact ⟨h1, Nat.le_trans h2 (hle t).r, h3.mono hle⟩
  · obtain ⟨h1, h2, h3⟩ := h.comw t a b w
    rw [← cfN_ag C0 (hle t) b h2]
    exact h.comq t a b w
  · rcases gW_get he with ⟨h3, h4⟩ | ⟨rfl, h3, h4⟩ | ⟨rfl, rfl, rfl⟩
    · obtain ⟨a, c, m, b, j⟩ := h.just t k e h4 h1 h2
      rw [← cfN_ag C0 (hle t) k (Nat.le_of_lt (getI h4))]
      exact ⟨a, c, m, b, j.mono hle (Nat.le_of_lt (getI h4))⟩
    · have := E.lt k e h4; omega
    · rw [hxc] at h2; cases h2
  · obtain ⟨_, h4, _⟩ := h.comw t a b w
    have he' : (g.L t)[k]? = some e := by rw [(hle t).eq k (by omega)]; exact he
    obtain ⟨c', m', a, b, j⟩ := h.justc t a b w k e hk he' h1 h2
    exact ⟨c', m', a, b, j.mono hle (Nat.le_of_lt (getI he'))⟩
  · have hc := hacc t j c ha
    refine h.hv t t' j k c hv ha ht (own_back hle hc ho) fun s l hw h1 h2 => ?_
    have := hpr s l (.inl hw) h1 h2
    rw [gW_Bne _ _ _ _ _ (by rintro rfl; exact hn _ hw)] at this
    exact ((hle t).le hc).trans this
  · have hb : Ag a (g.L t) ((gW g T n F x).B t') := by
      rcases hw with hw | ⟨rfl, rfl⟩
      · rw [gW_Bne _ _ _ _ _ (by rintro rfl; exact hn _ hw)]
        exact h.lc t a b t' i w hw ht
      · rw [gW_B]
        exact lc_new h E _ t a b rfl w ht (fun l hl => absurd hl (hn l))
    exact ((hle t).le hb.l).symm.trans hb
theorem ext_W {T n : Int} (T0 : Int) {F : Lg} {x : Ent} (h0 : g.L T = []) (hn : ∀ i, ¬ g.Win T i) : Ext g (gW g T n F x) n T0 where
  L := gW_le h0
  B := fun t i w => gW_Bne _ _ _ _ _ (by rintro rfl; exact hn _ w)
  win := fun _ _ h => .inl h
  pv := fun _ _ _ h => h
  acc := fun _ _ _ h => h
  com := fun _ _ _ h => h
  winN := fun t i h e => by
    rcases h with h | ⟨_, rfl⟩
    · exact h
    · exact absurd rfl e
  pvN := fun t j k h e => h
  accN := fun _ _ _ h _ => h
  comN := fun _ _ _ h => .inl h
  LN := fun t i w e => gW_ne _ _ _ _ _ (by rintro rfl; exact hn _ w)
  CBN := fun _ _ _ => rfl
  CBO := fun _ _ => rfl
end Go.Proofs.YtodcghipfolejaaGreat.Rf
