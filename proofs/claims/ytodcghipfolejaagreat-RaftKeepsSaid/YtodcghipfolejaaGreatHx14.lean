import Derived.Test.YtodcghipfolejaaGreatHx13
/- The laws' own functions: what an act tells a node. -/
namespace Go.Proofs.YtodcghipfolejaaGreat.Rf
open Go Go.Sl
set_option linter.unusedVariables false
set_option linter.unusedSimpArgs false
-- ARR

instance : HBld Tryz.prog 31 #[{ name := "Minds", type := 28, offset := 0, embedded := false, tag := "", pkgPath := "", byteOffset := 0 }, { name := "Flying", type := 29, offset := 1, embedded := false, tag := "", pkgPath := "", byteOffset := 24 }] [(0, 1), (1, 1)] := ⟨Tryz.underlying31, by kernel_rfl, by kernel_rfl⟩
theorem rdMi_own {F : Snap} {w : World} {H H' : List As} {a : Option Addr} {l : List Mi} {n c q i : Nat} {te : TypeId} (hw : Hp F w H) (u : Upd H (.own (.slice a n c) te 18 (miV l)) [] H') (h : q = 18 * i) (hi : i < l.length) : PeekC (hp w) (addO a q) (miC (l.getD i Mi0)) := rec_rdN (C := miC) (hw.ownN u).2.2.1 miC_len (by decide) Mi0 h hi
theorem rdMi1_own {F : Snap} {w : World} {H H' : List As} {a : Option Addr} {l : List Mi} {n c q i j : Nat} {te : TypeId} {v : Value} (hw : Hp F w H) (u : Upd H (.own (.slice a n c) te 18 (miV l)) [] H') (h : q = 18 * i + j) (hi : i < l.length) (hv : (miC (l.getD i Mi0))[j]? = some v) : PeekC (hp w) (addO a q) [v] := rec_rd1 (C := miC) (hw.ownN u).2.2.1 miC_len Mi0 h hi hv
theorem rdMM {F : Snap} {w : World} {H : List As} {a : Option Addr} {l : List MM} {q i : Nat} (hw : Hp F w H) (r : RdS F.heap a (mmV l)) (h : q = 13 * i) (hi : i < l.length) : PeekC (hp w) (addO a q) (mmC (l.getD i MM0)) := rec_rdN (C := mmC) (r.le hw.keep) mmC_len (by decide) MM0 h hi
theorem rdMM_some {h : Heap} {a : Option Addr} {l : List MM} {i : Nat} (r : RdS h a (mmV l)) (hi : i < l.length) : ∃ ad, a = some ad := rec_some (C := mmC) r mmC_len (by decide) hi
def EV0 : EV := ⟨0, MM0, 0, 0, [], 0, []⟩
/-- what comes back of 'event' -/
def EvP (W : Nat) (s : WS) (r : EvR) (v : Value) (A : List As) : Prop :=
  ∃ (e : EV) (fm : List MM) (fa : Option Addr) (fc : Nat) (Z : List As), v = .tuple #[.int .i64 r.n, evA e, .bool r.ok] ∧ evp e = r.e ∧ fm.map MM.p = r.fl ∧ A = wB W { s with fm := fm, fa := fa, fc := fc } :: OwnMi s.ma s.ms s.mc :: Z ∧
    ∀ h, WS.ok h s → (∃ bs, Sat h Z bs) → WS.ok h { s with fm := fm, fa := fa, fc := fc } ∧ MOk h e.m
theorem mok_0 (h : Heap) : MOk h MM0 := ⟨RdS.nil _ _, RdS.nil _ _, Nat.le_refl _⟩
theorem EvP.plain (W : Nat) (s : WS) (e : EV) (n : Int) (ok : Bool) (he : e.m = MM0) : EvP W s ⟨n, evp e, ok, s.fm.map MM.p⟩ (.tuple #[.int .i64 n, evA e, .bool ok]) [wB W s, OwnMi s.ma s.ms s.mc] :=
  ⟨e, s.fm, s.fa, s.fc, [], rfl, rfl, rfl, rfl, fun h f _ => ⟨f, by rw [he]; exact mok_0 h⟩⟩
set_option maxRecDepth 16000 in
set_option maxHeartbeats 8000000 in
theorem event_ct (W : Nat) (s : WS) (a : AcM) (K : Int) (hwb : WB K s.w) (hK : 0 ≤ K ∧ K ≤ 80000) :
    Ct Tryz.prog 15 [Ptr W, acA a] (fun h => WS.ok h s) [wB W s, OwnMi s.ma s.ms s.mc] (EvP W s (evOf s.w a.p)) := by
  have hlen : s.ms.length = 5 := by have := hwb.len; simpa using this
  have hfew : s.fm.length ≤ 40 := by have := hwb.few; simpa using this
  have hwfl : s.w.fl.length = s.fm.length := by simp
  have hnr := nOf_range a.p
  obtain ⟨nn, hnn⟩ : ∃ n, n = nOf a.p := ⟨_, rfl⟩
  rw [← hnn] at hnr
  have hnnl : nn.toNat < s.ms.length := by omega
  obtain ⟨un, hun⟩ : ∃ u, u = IntKind.u64.wrap a.n := ⟨_, rfl⟩
  have hun0 : 0 ≤ un ∧ un ≤ 18446744073709551615 := by rw [hun, IntKind.wrap_u64]; omega
  have hnu : un % 5 = nn := by rw [hnn, nOf, uM, hun]
  obtain ⟨ui, hui⟩ : ∃ u, u = IntKind.u64.wrap a.i := ⟨_, rfl⟩
  have hui0 : 0 ≤ ui ∧ ui ≤ 18446744073709551615 := by rw [hui, IntKind.wrap_u64]; omega
  refine ct_enter 165 Tryz.func15 rfl rfl rfl ?_
  intro F hok
  refine g_ownN (a := s.ma) z_3 (fun _ _ hma => ?_)
  have hmas : ∃ ad, s.ma = some ad := hma (by omega)
  repeat refine y_ ?_
  refine g_region ?_
  refine gl_boxA rfl rfl ?_; intro g3
  refine f_ (s_assign rfl) ?_
  refine gl_allocA rfl ?_; intro g5
  refine f_ (s_assign rfl) ?_
  refine gl_nil ?_
  repeat refine y_ ?_
  refine g_pull (H' := [.blk g5 (.cells (evC EV0).toArray 53), .blk g3 (.cells (acC a).toArray 40), wB W s, OwnMi s.ma s.ms s.mc]) (fun w hw => hw) ?_
  repeat refine y_ ?_
  refine g_region ?_
  refine f_ z_1 ?_
  refine r_ (by first | exact s_load_blk rfl z_3 a18_1 | exact s_load1 rfl (fun w hw => peekB hw (by assumption) a18_1)) ?_
  refine f_ ((s_conv_int rfl).eq (v' := .int .u64 un) (by rw [hun])) ?_
  refine f_ (s_rem_pos rfl rfl (by omega)) ?_
  refine f_ ((s_conv_keep_i64 rfl (by omega)).eq (v' := .int .i64 nn) (by rw [hnu])) ?_
  refine f_ (s_assign rfl) ?_
  refine gl_nil ?_
  repeat refine y_ ?_
  refine g_region ?_
  refine f_ (s_assign rfl) ?_
  refine gl_nil ?_
  repeat refine y_ ?_
  obtain ⟨q1, hq1⟩ : ∃ q, q = decide (1 ≤ a.kind) := ⟨_, rfl⟩
  obtain ⟨q2, hq2⟩ : ∃ q, q = decide (a.kind ≤ 3) := ⟨_, rfl⟩
  obtain ⟨q12, hq12⟩ : ∃ q, q = (q1 && q2) := ⟨_, rfl⟩
  refine g_cutK [(0, Ptr W), (3, Ptr g3), (5, Ptr g5), (7, .int .i64 nn), (25, .bool q12)] [.blk g5 (.cells (evC EV0).toArray 53), .blk g3 (.cells (acC a).toArray 40), wB W s, OwnMi s.ma s.ms s.mc] ?_ ?_
  · rw [hq12]
    cases q1
    all_goals
      repeat refine y_ ?_
      refine g_region ?_
      refine f_ z_1 ?_
      refine r_ (by first | exact s_load_blk rfl z_3 a18_0 | exact s_load1 rfl (fun w hw => peekB hw (by assumption) a18_0)) ?_
      refine f_ ((s_geq rfl rfl).eq (congrArg Value.bool hq1.symm)) ?_
      refine m_ ?_
      (first|refine u_ ?_|(refine v_ ?_; refine f_ z_1 ?_))
      (first|refine u_ ?_|(refine v_ ?_; refine r_ (by first | exact s_load_blk rfl z_3 a18_0 | exact s_load1 rfl (fun w hw => peekB hw (by assumption) a18_0)) ?_))
      (first|refine u_ ?_|(refine v_ ?_; refine f_ ((s_leq rfl rfl).eq (congrArg Value.bool hq2.symm)) ?_))
      refine f_ z_8 ?_
      refine gl_nil ?_
      repeat refine y_ ?_
      exact at_cut (by (repeat (first | exact Sub.nil _ | refine Sub.cons rfl ?_))) (fun w hw => hw)
  have h13 : q12 = true ↔ (1 ≤ a.kind ∧ a.kind ≤ 3) := by rw [hq12, Bool.and_eq_true, hq1, hq2, decide_eq_true_eq, decide_eq_true_eq]
  repeat refine y_ ?_
  cases q12
  rotate_left
  · have hk := h13.1 rfl
    obtain ⟨q3, hq3⟩ : ∃ q, q = decide ((s.fm.length : Int) = 0) := ⟨_, rfl⟩
    repeat refine y_ ?_
    refine g_region ?_
    refine m_ ?_
    refine f_ (s_nilCheck rfl) ?_
    refine f_ z_1 ?_
    refine r_ (by first | exact s_load_blk rfl z_3 a2_1 | exact s_load1 rfl (fun w hw => peekB hw (by assumption) a2_1)) ?_
    refine f_ (s_len_sl rfl) ?_
    refine f_ ((s_eql rfl rfl).eq (congrArg Value.bool hq3.symm)) ?_
    refine gl_nil ?_
    repeat refine y_ ?_
    cases q3
    rotate_left
    · have h0 : s.fm.length = 0 := by have := of_decide_eq_true hq3.symm; omega
      have e1 : evOf s.w a.p = ⟨0, noEv, false, s.w.fl⟩ := by rw [evOf, if_pos hk, if_pos (by rw [hwfl]; exact h0)]
      rw [e1]
      repeat refine y_ ?_
      refine g_region ?_
      refine f_ ((s_bld (cells := (evC EV0).toArray) rfl z_7).eq (v' := evA EV0) rfl) ?_
      refine f_ (s_assign rfl) ?_
      (first | refine gl_store_blkW rfl rfl z_6 z_10 z_10 z_2 ?_ | refine gl_store_blk rfl rfl z_6 z_10 z_2 z_10 ?_)
      refine f_ (s_assign rfl) ?_
      refine gl_nil ?_
      repeat refine y_ ?_
      refine g_ret ?_
      exact at_endT rfl rfl rfl rfl z_3 rfl [wB W s, OwnMi s.ma s.ms s.mc] (EvP.plain W s EV0 0 false rfl) (fun w hw => hw.drop.drop)
    have h0 : 0 < s.fm.length := by have := of_decide_eq_false hq3.symm; omega
    obtain ⟨ix, hix⟩ : ∃ ix, ix = flIx s.w a.p := ⟨_, rfl⟩
    have hixl : ix < s.fm.length := by rw [hix, ← hwfl]; exact flIx_lt (by omega)
    have hixu : ui % (s.fm.length : Int) = (ix : Nat) := by
      have e : flIx s.w a.p = (ui % (s.fm.length : Int)).toNat := by rw [flIx, uM, hwfl, hui]
      have := Int.emod_nonneg ui (show (s.fm.length : Int) ≠ 0 by omega)
      rw [hix, e]; omega
    obtain ⟨m, hm⟩ : ∃ m, m = s.fm.getD ix MM0 := ⟨_, rfl⟩
    have hmm : m ∈ s.fm := by rw [hm, List.getD_eq_getElem?_getD, List.getElem?_eq_getElem hixl]; exact List.getElem_mem _
    have hmp : flM s.w a.p = m.p := by
      rw [flM, ← hix, hm, List.getD_eq_getElem?_getD, List.getD_eq_getElem?_getD, List.getElem?_map]
      cases s.fm[ix]? <;> rfl
    have hto : NB m.p.to := (hwb.fl m.p (List.mem_map.2 ⟨m, hmm, rfl⟩)).to
    unfold NB at hto
    have hsome := rdMM_some hok.fa hixl
    have hfc := hok.fc
    repeat refine y_ ?_
    refine g_draw ([1, 6], [0, 1, 3, 0, 8, 24, 56, 120, 248, 511, 1023, 2047], []) [.blk g3 (.cells (acC a).toArray 40), wB W s] 12 rfl ?_
    refine w_ 0 rfl z_1 ?_
    (first | refine ga_read_k 1 rfl z_5 (s_load_blk rfl .del a18_2) (by (first | exact fun _ h => h | (repeat first | exact sub_nil | refine sub_cons z_4 ?_))) rfl rfl rfl z_7 ?_ | refine ga_readF 1 rfl (s_load1 rfl (fun w hw => peekB hw (by assumption) a18_2)) (by (first | exact fun _ h => h | (repeat first | exact sub_nil | refine sub_cons z_4 ?_))) rfl rfl rfl z_7 ?_)
    refine w_ 2 rfl ((s_conv_int rfl).eq (v' := .int .u64 ui) (by rw [hui])) ?_
    refine w_ 3 rfl (s_move rfl) ?_
    refine w_ 4 rfl (s_nilCheck rfl) ?_
    refine w_ 5 rfl z_1 ?_
    (first | refine ga_read_k 6 rfl z_5 (s_load_blk rfl .del a2_1) (by (first | exact fun _ h => h | (repeat first | exact sub_nil | refine sub_cons z_4 ?_))) rfl rfl rfl z_7 ?_ | refine ga_readF 6 rfl (s_load1 rfl (fun w hw => peekB hw (by assumption) a2_1)) (by (first | exact fun _ h => h | (repeat first | exact sub_nil | refine sub_cons z_4 ?_))) rfl rfl rfl z_7 ?_)
    refine w_ 7 rfl (s_len_sl rfl) ?_
    refine w_ 8 rfl (s_conv_keep_u64 rfl (by omega)) ?_
    refine w_ 9 rfl (s_rem_pos rfl rfl (by omega)) ?_
    refine w_ 10 rfl ((s_conv_keep_i64 rfl (by omega)).eq (v' := .int .i64 (ix : Nat)) (by rw [hixu])) ?_
    refine w_ 11 rfl (s_assign rfl) ?_
    refine ga_done z_7 ?_
    repeat refine y_ ?_
    refine g_region ?_
    refine m_ ?_
    refine f_ (s_nilCheck rfl) ?_
    refine f_ z_1 ?_
    refine r_ (by first | exact s_load_blk rfl z_3 a2_1 | exact s_load1 rfl (fun w hw => peekB hw (by assumption) a2_1)) ?_
    refine m_ ?_
    refine f_ (s_indexAddr rfl hsome rfl (by show 0 ≤ (ix : Int) ∧ (ix : Int) < (s.fm.length : Nat); omega)) ?_
    refine r_ ((s_loadN (cs := mmC m) rfl (fun w hw => by rw [hm]; exact rdMM hw hok.fa (i := ix) (by omega) hixl) rfl).eq (v' := mmA m) rfl) ?_
    refine gl_allocA rfl ?_; intro g9
    (first | refine gl_store_blkW rfl rfl z_6 z_10 z_10 z_2 ?_ | refine gl_store_blk rfl rfl z_6 z_10 z_2 z_10 ?_)
    refine gl_nil ?_
    repeat refine y_ ?_
    obtain ⟨q4, hq4⟩ : ∃ q, q = decide (a.kind < 3) := ⟨_, rfl⟩
    repeat refine y_ ?_
    refine g_region ?_
    refine f_ z_1 ?_
    refine r_ (by first | exact s_load_blk rfl z_3 a18_0 | exact s_load1 rfl (fun w hw => peekB hw (by assumption) a18_0)) ?_
    refine f_ ((s_lss rfl rfl).eq (congrArg Value.bool hq4.symm)) ?_
    refine gl_nil ?_
    repeat refine y_ ?_
    refine g_cutE (ι := { x : List MM × Option Addr × Nat × List As // x.1.map MM.p = (if a.kind < 3 then s.w.fl.take ix ++ s.w.fl.drop (ix + 1) else s.w.fl) ∧ ∀ h, WS.ok h s → (∃ bs, Sat h x.2.2.2 bs) → WS.ok h { s with fm := x.1, fa := x.2.1, fc := x.2.2.1 } }) (fun _ => [(3, Ptr g3), (5, Ptr g5), (9, Ptr g9)]) (fun x => blkMsg g9 m :: .blk g5 (.cells (evC EV0).toArray 53) :: .blk g3 (.cells (acC a).toArray 40) :: wB W { s with fm := x.1.1, fa := x.1.2.1, fc := x.1.2.2.1 } :: OwnMi s.ma s.ms s.mc :: x.1.2.2.2) ?_ (fun x => ?_)
    · cases q4
      · have n4 := of_decide_eq_false hq4.symm
        repeat refine y_ ?_
        exact at_cutE ⟨(s.fm, s.fa, s.fc, []), by rw [if_neg n4], fun h f _ => f⟩ (by (repeat (first | exact Sub.nil _ | refine Sub.cons rfl ?_))) (fun w hw => hw)
      · have n4 := of_decide_eq_true hq4.symm
        have ht1 : (s.fm.take ix).length = ix := by rw [List.length_take]; omega
        have hd1 : (s.fm.drop (ix + 1)).length = s.fm.length - (ix + 1) := List.length_drop
        repeat refine y_ ?_
        refine g_draw ([5, 12], [0, 0, 0, 4, 12, 28, 0, 124, 254, 0, 512, 1536, 3584, 0, 8192, 32256, 65534, 131071, 262143, 524287], [1, 8, 16, 19]) [wB W s] 20 rfl ?_
        refine w_ 0 rfl (s_move rfl) ?_
        refine w_ 2 rfl (s_move rfl) ?_
        refine w_ 3 rfl (s_nilCheck rfl) ?_
        refine w_ 4 rfl z_1 ?_
        (first | refine ga_read_k 5 rfl z_5 (s_load_blk rfl .del a2_1) (by (first | exact fun _ h => h | (repeat first | exact sub_nil | refine sub_cons z_4 ?_))) rfl rfl rfl z_7 ?_ | refine ga_readF 5 rfl (s_load1 rfl (fun w hw => peekB hw (by assumption) a2_1)) (by (first | exact fun _ h => h | (repeat first | exact sub_nil | refine sub_cons z_4 ?_))) rfl rfl rfl z_7 ?_)
        refine w_ 6 rfl (s_move rfl) ?_
        refine w_ 7 rfl ((s_slice_sl rfl rfl rfl (by omega)).eq (v' := .slice s.fa ix s.fc) (by show Value.slice (cutA s.fa s.fc 0 13) ((ix : Int).toNat - 0) (s.fc - 0) = _; rw [cutA_zero, Nat.sub_zero, Nat.sub_zero, Int.toNat_natCast])) ?_
        refine w_ 9 rfl (s_move rfl) ?_
        refine w_ 10 rfl (s_nilCheck rfl) ?_
        refine w_ 11 rfl z_1 ?_
        (first | refine ga_read_k 12 rfl z_5 (s_load_blk rfl .del a2_1) (by (first | exact fun _ h => h | (repeat first | exact sub_nil | refine sub_cons z_4 ?_))) rfl rfl rfl z_7 ?_ | refine ga_readF 12 rfl (s_load1 rfl (fun w hw => peekB hw (by assumption) a2_1)) (by (first | exact fun _ h => h | (repeat first | exact sub_nil | refine sub_cons z_4 ?_))) rfl rfl rfl z_7 ?_)
        refine w_ 13 rfl (s_move rfl) ?_
        refine w_ 14 rfl ((s_add_i64 rfl rfl (by omega)).eq (v' := .int .i64 ((ix + 1 : Nat) : Int)) (by congr 1)) ?_
        refine w_ 15 rfl ((s_slice_sl rfl rfl rfl (by omega)).eq (v' := .slice (cutA s.fa s.fc (ix + 1) 13) (s.fm.length - (ix + 1)) (s.fc - (ix + 1))) z_10) ?_
        refine ga_one 1 rfl z_7 ?_
        refine gl_buildSlice0 rfl ?_; intro a55
        refine gl_nil ?_
        refine at_ga (.inr (by exact keeps_of (by (first | exact fun _ h => h | (repeat first | exact sub_nil | refine sub_cons z_4 ?_))))) ?_
        refine ga_one 8 rfl z_7 ?_
        refine gl_append (sz := 13) rfl rfl (fun a' c' => z_6) (fun w hw => rd_takeM (hok.fa.le hw.keep) hfc (i := ix) (by omega)) (by rw [mmV_len, ht1]) rfl rfl (mmV_one _) (by show (0 + ix) * 144 ≤ 140737488355328; omega) (by omega) rfl ?_; intro a62 c62 hc62
        refine gl_nil ?_
        refine at_ga (.inr (by exact keeps_of (by (first | exact fun _ h => h | (repeat first | exact sub_nil | refine sub_cons z_4 ?_))))) ?_
        refine ga_one 16 rfl z_7 ?_
        refine gl_append (sz := 13) rfl rfl (fun a' c' => z_6) (fun w hw => rd_dropM (hok.fa.le hw.keep) hfc (i := ix + 1) (by omega)) (by rw [mmV_len, hd1]) rfl rfl (mmV_one _) (by show (0 + ix + (s.fm.length - (ix + 1))) * 144 ≤ 140737488355328; omega) (by omega) rfl ?_; intro a70 c70 hc70
        refine gl_nil ?_
        refine at_ga (.inl z_7) ?_
        refine w_ 17 rfl (s_nilCheck rfl) ?_
        refine w_ 18 rfl z_1 ?_
        refine ga_one 19 rfl z_7 ?_
        (first | refine gl_store_blkC (pre := [_]) (post := []) rfl rfl z_6 z_10 z_10 z_10 ?_ | refine gl_store_blk rfl rfl z_6 z_10 z_2 z_10 ?_)
        refine gl_nil ?_
        refine at_ga (.inl z_7) ?_
        refine ga_done z_7 ?_
        repeat refine y_ ?_
        have hne : (s.fm.take ix ++ s.fm.drop (ix + 1)).length = 0 + ix + (s.fm.length - (ix + 1)) := by rw [List.length_append, ht1, hd1, Nat.zero_add]
        exact at_cutE ⟨(s.fm.take ix ++ s.fm.drop (ix + 1), a70, c70, [OwnM a70 (s.fm.take ix ++ s.fm.drop (ix + 1)) c70]), by rw [if_pos n4]; simp [List.map_take, List.map_drop], fun h f ⟨bs, hb⟩ => ⟨f.ms, f.cap, Sat.rd (a := a70) hb z_3, fun x hx => by
          rcases List.mem_append.1 hx with hx | hx
          · exact f.fm x (List.mem_of_mem_take hx)
          · exact f.fm x (List.mem_of_mem_drop hx), by rw [hne]; exact hc70⟩⟩ (by (repeat (first | exact Sub.nil _ | refine Sub.cons rfl ?_))) (fun w hw => by
            simp only [wB, OwnM, mmV_append, hne]
            rw [List.nil_append] at hw
            exact hw.perm (perm_up z_3 (perm_up z_3 (perm_up z_3 (perm_up z_3 (perm_up z_3 (.refl _)))))))
    obtain ⟨⟨fm, fa, fc, Z⟩, hfm, hZ⟩ := x
    simp only at hfm hZ ⊢
    obtain ⟨q5, hq5⟩ : ∃ q, q = decide (a.kind = 2) := ⟨_, rfl⟩
    have e1 : evOf s.w a.p = ⟨m.p.to - 1, ⟨2, m.p, 0, [], 0, []⟩, !q5, fm.map MM.p⟩ := by
      rw [evOf, if_pos hk, if_neg (by rw [hwfl]; omega), hmp, ← hix, hfm, hq5, decide_eq_true hto.1, decide_eq_true hto.2]
      simp
    rw [e1]
    repeat refine y_ ?_
    refine g_cutK [(4, .int .i64 (m.p.to - 1)), (5, Ptr g5), (6, .bool (!q5))] (.blk g5 (.cells (evC ⟨2, m, 0, 0, [], 0, []⟩).toArray 53) :: wB W { s with fm := fm, fa := fa, fc := fc } :: OwnMi s.ma s.ms s.mc :: Z) ?_ ?_
    · cases q5
      all_goals
        repeat refine y_ ?_
        refine g_draw ([1, 3, 6, 10, 15], [0, 1, 3, 0, 8, 0, 32, 96, 224, 480, 992, 2016, 4064, 8160, 16352, 32736, 65504, 131040, 16359, 278527, 1048575], [19]) [blkMsg g9 m, .blk g3 (.cells (acC a).toArray 40)] 21 rfl ?_
        refine w_ 0 rfl z_1 ?_
        (first | refine ga_read_k 1 rfl z_5 (s_load_blk rfl .del a13_2) (by (first | exact fun _ h => h | (repeat first | exact sub_nil | refine sub_cons z_4 ?_))) rfl rfl rfl z_7 ?_ | refine ga_readF 1 rfl (s_load1 rfl (fun w hw => peekB hw (by assumption) a13_2)) (by (first | exact fun _ h => h | (repeat first | exact sub_nil | refine sub_cons z_4 ?_))) rfl rfl rfl z_7 ?_)
        refine w_ 2 rfl (s_sub_i64 rfl rfl (by omega)) ?_
        refine ga_read_k 3 rfl z_5 ((s_load_blkW rfl .del z_10).eq (v' := mmA m) rfl) (by (first | exact fun _ h => h | (repeat first | exact sub_nil | refine sub_cons z_4 ?_))) rfl rfl rfl z_7 ?_
        refine w_ 4 rfl ((s_bld (cells := (evC ⟨2, m, 0, 0, [], 0, []⟩).toArray) rfl z_7).eq (v' := evA ⟨2, m, 0, 0, [], 0, []⟩) rfl) ?_
        refine w_ 5 rfl z_1 ?_
        (first | refine ga_read_k 6 rfl z_5 (s_load_blk rfl .del a18_0) (by (first | exact fun _ h => h | (repeat first | exact sub_nil | refine sub_cons z_4 ?_))) rfl rfl rfl z_7 ?_ | refine ga_readF 6 rfl (s_load1 rfl (fun w hw => peekB hw (by assumption) a18_0)) (by (first | exact fun _ h => h | (repeat first | exact sub_nil | refine sub_cons z_4 ?_))) rfl rfl rfl z_7 ?_)
        refine w_ 7 rfl ((s_neq rfl rfl).eq (congrArg (fun b => Value.bool (!b)) hq5.symm)) ?_
        refine w_ 8 rfl (s_move rfl) ?_
        (first | refine s_ 9 ?_ | refine t_ 9 ?_ | refine ga_free_g 9 rfl z_1 rfl rfl rfl rfl rfl rfl z_7 ?_)
        (first | refine s_ 10 ?_ | refine t_ 10 ?_ | refine ga_read_kg 10 rfl z_5 (s_load_blk rfl .del a13_2) (by (first | exact fun _ h => h | (repeat first | exact sub_nil | refine sub_cons z_4 ?_))) rfl rfl rfl rfl rfl rfl z_7 ?_ | refine ga_readF_g 10 rfl (s_load1 rfl (fun w hw => peekB hw (by assumption) a13_2)) (by (first | exact fun _ h => h | (repeat first | exact sub_nil | refine sub_cons z_4 ?_))) rfl rfl rfl rfl rfl rfl z_7 ?_)
        (first | refine s_ 11 ?_ | refine t_ 11 ?_ | refine ga_free_g 11 rfl ((s_geq rfl rfl).eq (v' := .bool true) (congrArg Value.bool (decide_eq_true hto.1))) rfl rfl rfl rfl rfl rfl z_7 ?_)
        refine w_ 12 rfl z_8 ?_
        refine w_ 13 rfl (s_move rfl) ?_
        (first | refine s_ 14 ?_ | refine t_ 14 ?_ | refine ga_free_g 14 rfl z_1 rfl rfl rfl rfl rfl rfl z_7 ?_)
        (first | refine s_ 15 ?_ | refine t_ 15 ?_ | refine ga_read_kg 15 rfl z_5 (s_load_blk rfl .del a13_2) (by (first | exact fun _ h => h | (repeat first | exact sub_nil | refine sub_cons z_4 ?_))) rfl rfl rfl rfl rfl rfl z_7 ?_ | refine ga_readF_g 15 rfl (s_load1 rfl (fun w hw => peekB hw (by assumption) a13_2)) (by (first | exact fun _ h => h | (repeat first | exact sub_nil | refine sub_cons z_4 ?_))) rfl rfl rfl rfl rfl rfl z_7 ?_)
        (first | refine s_ 16 ?_ | refine t_ 16 ?_ | refine ga_free_g 16 rfl ((s_leq rfl rfl).eq (v' := .bool true) (congrArg Value.bool (decide_eq_true hto.2))) rfl rfl rfl rfl rfl rfl z_7 ?_)
        refine w_ 17 rfl z_8 ?_
        refine w_ 18 rfl (s_assign rfl) ?_
        refine ga_one 19 rfl z_7 ?_
        (first | refine gl_store_blkW rfl rfl z_6 z_10 z_10 z_2 ?_ | refine gl_store_blk rfl rfl z_6 z_10 z_2 z_10 ?_)
        refine gl_nil ?_
        refine at_ga (.inr (by exact keeps_of (by (first | exact fun _ h => h | (repeat first | exact sub_nil | refine sub_cons z_4 ?_))))) ?_
        refine w_ 20 rfl (s_assign rfl) ?_
        refine ga_done z_7 ?_
        repeat refine y_ ?_
        all_goals
          exact at_cut (by (repeat (first | exact Sub.nil _ | refine Sub.cons rfl ?_))) (fun w hw => hw.drop |> fun h => h.perm (.swap _ _ _) |> fun h => h.drop)
    repeat refine y_ ?_
    refine g_ret ?_
    exact at_endT rfl rfl rfl rfl z_3 rfl (wB W { s with fm := fm, fa := fa, fc := fc } :: OwnMi s.ma s.ms s.mc :: Z) ⟨⟨2, m, 0, 0, [], 0, []⟩, fm, fa, fc, Z, rfl, rfl, rfl, rfl, fun h f hs => ⟨hZ h f hs, f.fm m hmm⟩⟩ (fun w hw => hw.drop)
  have hk : ¬ (1 ≤ a.kind ∧ a.kind ≤ 3) := fun h => by have := h13.2 h; cases this
  have hfl : s.w.fl = s.fm.map MM.p := rfl
  obtain ⟨x, hx⟩ : ∃ x, x = s.ms.getD nn.toNat Mi0 := ⟨_, rfl⟩
  have hxm : x ∈ s.ms := by rw [hx, List.getD_eq_getElem?_getD, List.getElem?_eq_getElem hnnl]; exact List.getElem_mem _
  have hxp : mindAt s.w nn = x.1 := by rw [← mi_mind, mi, ← hx]
  have hxb := wb_mind hwb hnr
  rw [hxp] at hxb
  have hxs := bi_st hxb.1 (by omega)
  have hxc := hok.cap x hxm
  have hxr := hok.ms x hxm
  obtain ⟨q0, hq0⟩ : ∃ q, q = decide (a.kind = 0) := ⟨_, rfl⟩
  obtain ⟨q4, hq4⟩ : ∃ q, q = decide (a.kind = 4) := ⟨_, rfl⟩
  obtain ⟨q5, hq5⟩ : ∃ q, q = decide (a.kind = 5) := ⟨_, rfl⟩
  obtain ⟨q6, hq6⟩ : ∃ q, q = decide (a.kind = 6) := ⟨_, rfl⟩
  repeat refine y_ ?_
  refine g_region ?_
  refine f_ z_1 ?_
  refine r_ (by first | exact s_load_blk rfl z_3 a18_0 | exact s_load1 rfl (fun w hw => peekB hw (by assumption) a18_0)) ?_
  refine gl_nil ?_
  repeat refine y_ ?_
  refine g_region ?_
  refine f_ ((s_eql rfl rfl).eq (congrArg Value.bool hq0.symm)) ?_
  refine f_ (s_assign rfl) ?_
  refine gl_nil ?_
  repeat refine y_ ?_
  cases q0
  rotate_left
  · have e1 : evOf s.w a.p = ⟨nn, evp ⟨1, MM0, 0, 0, [], 0, []⟩, true, s.fm.map MM.p⟩ := by rw [evOf, if_neg hk, if_pos (of_decide_eq_true hq0.symm), hnn]
    rw [e1]
    repeat refine y_ ?_
    refine g_region ?_
    refine m_ ?_
    refine f_ ((s_bld (cells := (evC ⟨1, MM0, 0, 0, [], 0, []⟩).toArray) rfl z_7).eq (v' := evA ⟨1, MM0, 0, 0, [], 0, []⟩) rfl) ?_
    refine f_ (s_assign rfl) ?_
    (first | refine gl_store_blkW rfl rfl z_6 z_10 z_10 z_2 ?_ | refine gl_store_blk rfl rfl z_6 z_10 z_2 z_10 ?_)
    refine f_ (s_assign rfl) ?_
    refine gl_nil ?_
    repeat refine y_ ?_
    refine g_ret ?_
    exact at_endT rfl rfl rfl rfl z_3 rfl [wB W s, OwnMi s.ma s.ms s.mc] (EvP.plain W s ⟨1, MM0, 0, 0, [], 0, []⟩ nn true rfl) (fun w hw => hw.drop.drop)
  have n0 := of_decide_eq_false hq0.symm
  repeat refine y_ ?_
  refine g_region ?_
  refine f_ ((s_eql rfl rfl).eq (congrArg Value.bool hq4.symm)) ?_
  refine f_ (s_assign rfl) ?_
  refine gl_nil ?_
  repeat refine y_ ?_
  cases q4
  rotate_left
  · have e1 : evOf s.w a.p = ⟨nn, evp ⟨3, MM0, 0, 3, a.data, 0, []⟩, true, s.fm.map MM.p⟩ := by rw [evOf, if_neg hk, if_neg n0, if_pos (of_decide_eq_true hq4.symm), hnn]
    rw [e1]
    repeat refine y_ ?_
    refine g_draw ([2], [0, 0, 2, 6, 14, 1, 63, 127], [6]) [.blk g3 (.cells (acC a).toArray 40)] 8 rfl ?_
    refine w_ 0 rfl (s_move rfl) ?_
    refine w_ 1 rfl z_1 ?_
    (first | refine ga_read_k 2 rfl z_5 (s_load_blk rfl .del a18_4) (by (first | exact fun _ h => h | (repeat first | exact sub_nil | refine sub_cons z_4 ?_))) rfl rfl rfl z_7 ?_ | refine ga_readF 2 rfl (s_load1 rfl (fun w hw => peekB hw (by assumption) a18_4)) (by (first | exact fun _ h => h | (repeat first | exact sub_nil | refine sub_cons z_4 ?_))) rfl rfl rfl z_7 ?_)
    refine w_ 3 rfl ((s_bld (cells := #[.int .u64 0, .int .i64 3, B a.data]) rfl z_7)) ?_
    refine w_ 4 rfl ((s_bld (cells := (evC ⟨3, MM0, 0, 3, a.data, 0, []⟩).toArray) rfl z_7).eq (v' := evA ⟨3, MM0, 0, 3, a.data, 0, []⟩) rfl) ?_
    refine w_ 5 rfl (s_assign rfl) ?_
    refine ga_one 6 rfl z_7 ?_
    (first | refine gl_store_blkW rfl rfl z_6 z_10 z_10 z_2 ?_ | refine gl_store_blk rfl rfl z_6 z_10 z_2 z_10 ?_)
    refine gl_nil ?_
    refine at_ga (.inl z_7) ?_
    refine w_ 7 rfl (s_assign rfl) ?_
    refine ga_done z_7 ?_
    repeat refine y_ ?_
    refine g_ret ?_
    exact at_endT rfl rfl rfl rfl z_3 rfl [wB W s, OwnMi s.ma s.ms s.mc] (EvP.plain W s ⟨3, MM0, 0, 3, a.data, 0, []⟩ nn true rfl) (fun w hw => hw.drop.drop)
  have n4 := of_decide_eq_false hq4.symm
  repeat refine y_ ?_
  refine g_region ?_
  refine f_ ((s_eql rfl rfl).eq (congrArg Value.bool hq5.symm)) ?_
  refine f_ (s_assign rfl) ?_
  refine gl_nil ?_
  repeat refine y_ ?_
  cases q5
  rotate_left
  · obtain ⟨ui5, hui5⟩ : ∃ u, u = 1 + uM a.i 5 := ⟨_, rfl⟩
    have hui5e : 1 + ui % 5 = ui5 := by rw [hui5, uM, hui]
    obtain ⟨add, hadd⟩ : ∃ b, b = a.add := ⟨_, rfl⟩
    obtain ⟨l', hl'⟩ : ∃ l', l' = (if a.add = true then withL (confL x.1) ui5 else withoutL (confL x.1) ui5) := ⟨_, rfl⟩
    have hcl : (confL x.1).length ≤ 5 := (bi_conf hxb.1 _).1
    have hl5 : l'.length ≤ 5 := by
      rw [hl']; split
      · exact pick_le _ _
      · exact Nat.le_trans (without_le _ _) hcl
    have e1 : evOf s.w a.p = ⟨nn, evp ⟨3, MM0, 0, 2, textL l', 0, []⟩, true, s.fm.map MM.p⟩ := by rw [evOf, if_neg hk, if_neg n0, if_neg n4, if_pos (of_decide_eq_true hq5.symm), ← hnn, hxp, hl', hui5]
    rw [e1]
    repeat refine y_ ?_
    refine g_region ?_
    refine m_ ?_
    refine f_ (s_nilCheck rfl) ?_
    refine f_ z_1 ?_
    refine r_ (by first | exact s_load_blk rfl z_3 a2_0 | exact s_load1 rfl (fun w hw => peekB hw (by assumption) a2_0)) ?_
    refine m_ ?_
    refine f_ (s_indexAddr rfl hmas rfl (by omega)) ?_
    refine r_ ((s_loadN (cs := miC x) rfl (fun w hw => by rw [hx]; exact rdMi_own (a := s.ma) hw z_3 (i := nn.toNat) (by omega) hnnl) rfl).eq (v' := rsV x.1 x.2) rfl) ?_
    refine gl_call _ rfl (Members_ct x.1 x.2 hxs.fit hxc) (fun w hw => hw) (fun h hh _ => ⟨hxr.rc.le hh, hxr.rl.le hh⟩) rfl ?_; rintro v A ⟨ca, cc, rfl, rfl⟩
    refine f_ (s_assign rfl) ?_
    refine gl_nil ?_
    repeat refine y_ ?_
    refine g_region ?_
    refine f_ z_1 ?_
    refine r_ (by first | exact s_load_blk rfl z_3 a18_2 | exact s_load1 rfl (fun w hw => peekB hw (by assumption) a18_2)) ?_
    refine f_ ((s_conv_int rfl).eq (v' := .int .u64 ui) (by rw [hui])) ?_
    refine f_ (s_rem_pos rfl rfl (by omega)) ?_
    refine f_ (s_conv_keep_i64 rfl (by omega)) ?_
    refine f_ ((s_add_i64 rfl rfl (by omega)).eq (v' := .int .i64 ui5) (by rw [hui5e])) ?_
    refine f_ (s_assign rfl) ?_
    refine gl_nil ?_
    repeat refine y_ ?_
    refine g_region ?_
    refine f_ z_1 ?_
    refine r_ ((s_load_blk rfl z_3 z_10).eq (v' := .bool add) (by rw [hadd]; rfl)) ?_
    refine gl_nil ?_
    repeat refine y_ ?_
    refine g_cutE (ι := Option Addr × Nat) (fun y => [(5, Ptr g5), (7, .int .i64 nn), (10, .slice y.1 l'.length y.2)]) (fun y => OwnC y.1 l' y.2 :: .blk g5 (.cells (evC EV0).toArray 53) :: [wB W s, OwnMi s.ma s.ms s.mc]) ?_ (fun y => ?_)
    · rw [← hadd] at hl'
      cases add
      · rw [if_neg (by decide)] at hl'
        repeat refine y_ ?_
        refine g_region ?_
        refine m_ ?_
        refine m_ ?_
        refine gl_call _ rfl (Without_ct (confL x.1) ui5 ca cc (by omega)) (fun w hw => hw) (fun h hh ⟨bs, hb⟩ => Sat.rd (a := ca) hb z_3) rfl ?_; rw [← hl']; rintro v A ⟨da, dc, rfl, rfl⟩
        refine f_ (s_assign rfl) ?_
        refine gl_nil ?_
        repeat refine y_ ?_
        exact at_cutE (da, dc) (by (repeat (first | exact Sub.nil _ | refine Sub.cons rfl ?_))) (fun w hw => Hp.left (R := [OwnC ca (confL x.1) cc, .blk g3 (.cells (acC a).toArray 40)]) (hw.perm (perm_up z_3 (perm_up z_3 (perm_up z_3 (perm_up z_3 (perm_up z_3 (.refl _))))))))
      · rw [if_pos rfl] at hl'
        repeat refine y_ ?_
        refine g_region ?_
        refine m_ ?_
        refine m_ ?_
        refine gl_call _ rfl (With_ct (confL x.1) ui5 ca cc (by omega)) (fun w hw => hw) (fun h hh ⟨bs, hb⟩ => Sat.rd (a := ca) hb z_3) rfl ?_; rw [← hl']; rintro v A ⟨da, dc, rfl, rfl⟩
        refine f_ (s_assign rfl) ?_
        refine gl_nil ?_
        repeat refine y_ ?_
        exact at_cutE (da, dc) (by (repeat (first | exact Sub.nil _ | refine Sub.cons rfl ?_))) (fun w hw => Hp.left (R := [OwnC ca (confL x.1) cc, .blk g3 (.cells (acC a).toArray 40)]) (hw.perm (perm_up z_3 (perm_up z_3 (perm_up z_3 (perm_up z_3 (perm_up z_3 (.refl _))))))))
    obtain ⟨da, dc⟩ := y
    simp only
    repeat refine y_ ?_
    refine g_region ?_
    refine m_ ?_
    refine m_ ?_
    refine gl_callp rfl (rText_ct l' da dc (by omega)) (fun h hh ⟨bs, hb⟩ => Sat.rd (a := da) hb z_3) rfl ?_
    refine f_ ((s_bld (cells := #[.int .u64 0, .int .i64 2, B (textL l')]) rfl z_7)) ?_
    refine f_ ((s_bld (cells := (evC ⟨3, MM0, 0, 2, textL l', 0, []⟩).toArray) rfl z_7).eq (v' := evA ⟨3, MM0, 0, 2, textL l', 0, []⟩) rfl) ?_
    refine f_ (s_assign rfl) ?_
    (first | refine gl_store_blkW rfl rfl z_6 z_10 z_10 z_2 ?_ | refine gl_store_blk rfl rfl z_6 z_10 z_2 z_10 ?_)
    refine f_ (s_assign rfl) ?_
    refine gl_nil ?_
    repeat refine y_ ?_
    refine g_ret ?_
    exact at_endT rfl rfl rfl rfl z_3 rfl [wB W s, OwnMi s.ma s.ms s.mc] (EvP.plain W s ⟨3, MM0, 0, 2, textL l', 0, []⟩ nn true rfl) (fun w hw => hw.drop.drop)
  have n5 := of_decide_eq_false hq5.symm
  repeat refine y_ ?_
  refine g_region ?_
  refine f_ ((s_eql rfl rfl).eq (congrArg Value.bool hq6.symm)) ?_
  refine f_ (s_assign rfl) ?_
  refine gl_nil ?_
  repeat refine y_ ?_
  cases q6
  rotate_left
  · obtain ⟨ui3, hui3⟩ : ∃ u, u = uM a.i 3 := ⟨_, rfl⟩
    have hui3e : ui % 3 = ui3 := by rw [hui3, uM, hui]
    have hu3 := uM_range a.i (k := 3) (by decide)
    rw [← hui3] at hu3
    obtain ⟨less, hless⟩ : ∃ l, l = lessP s.w a.p := ⟨_, rfl⟩
    have hlv : less = if x.1.commit < ui3 then 0 else ui3 := by rw [hless, lessP, ← hnn, hxp, hui3]
    have hcm := hxb.1.commit
    have hlr : 0 ≤ less ∧ less ≤ x.1.commit := by rw [hlv]; split <;> omega
    have e1 : evOf s.w a.p = ⟨nn, evp ⟨4, MM0, 0, 0, [], x.1.commit - less, a.data⟩, true, s.fm.map MM.p⟩ := by rw [evOf, if_neg hk, if_neg n0, if_neg n4, if_neg n5, if_pos (of_decide_eq_true hq6.symm), ← hnn, hxp, hless]
    rw [e1]
    obtain ⟨q7, hq7⟩ : ∃ q, q = decide (x.1.commit < ui3) := ⟨_, rfl⟩
    repeat refine y_ ?_
    refine g_region ?_
    refine f_ z_1 ?_
    refine r_ (by first | exact s_load_blk rfl z_3 a18_2 | exact s_load1 rfl (fun w hw => peekB hw (by assumption) a18_2)) ?_
    refine f_ ((s_conv_int rfl).eq (v' := .int .u64 ui) (by rw [hui])) ?_
    refine f_ ((s_rem_pos rfl rfl (by omega)).eq (v' := .int .u64 ui3) (by rw [hui3e])) ?_
    refine f_ (s_assign rfl) ?_
    refine gl_nil ?_
    repeat refine y_ ?_
    refine g_region ?_
    refine m_ ?_
    refine f_ (s_nilCheck rfl) ?_
    refine f_ z_1 ?_
    refine r_ (by first | exact s_load_blk rfl z_3 a2_0 | exact s_load1 rfl (fun w hw => peekB hw (by assumption) a2_0)) ?_
    refine m_ ?_
    refine f_ (s_indexAddr rfl hmas rfl (by omega)) ?_
    refine f_ z_1 ?_
    refine r_ (s_load1 (v := .int .u64 x.1.commit) rfl (fun w hw => rdMi1_own (a := s.ma) hw z_3 (i := nn.toNat) (j := 10) (by omega) hnnl (by rw [← hx]; rfl))) ?_
    refine m_ ?_
    refine f_ ((s_lss rfl rfl).eq (congrArg Value.bool hq7.symm)) ?_
    refine gl_nil ?_
    repeat refine y_ ?_
    refine g_cutK [(0, Ptr W), (3, Ptr g3), (5, Ptr g5), (7, .int .i64 nn), (12, .int .u64 less)] (.blk g5 (.cells (evC EV0).toArray 53) :: .blk g3 (.cells (acC a).toArray 40) :: [wB W s, OwnMi s.ma s.ms s.mc]) ?_ ?_
    · cases q7
      · rw [if_neg (of_decide_eq_false hq7.symm)] at hlv
        rw [hlv]
        repeat refine y_ ?_
        exact at_cut (by (repeat (first | exact Sub.nil _ | refine Sub.cons rfl ?_))) (fun w hw => hw)
      · rw [if_pos (of_decide_eq_true hq7.symm)] at hlv
        rw [hlv]
        repeat refine y_ ?_
        refine g_region ?_
        refine f_ (s_assign rfl) ?_
        refine gl_nil ?_
        repeat refine y_ ?_
        exact at_cut (by (repeat (first | exact Sub.nil _ | refine Sub.cons rfl ?_))) (fun w hw => hw)
    repeat refine y_ ?_
    refine g_draw ([4, 8, 12], [0, 0, 2, 6, 14, 0, 62, 126, 254, 0, 1022, 0, 2048, 8190, 1, 32767, 65535], [15]) [.blk g3 (.cells (acC a).toArray 40), wB W s, OwnMi s.ma s.ms s.mc] 17 rfl ?_
    refine w_ 0 rfl (s_move rfl) ?_
    refine w_ 1 rfl (s_move rfl) ?_
    refine w_ 2 rfl (s_nilCheck rfl) ?_
    refine w_ 3 rfl z_1 ?_
    (first | refine ga_read_k 4 rfl z_5 (s_load_blk rfl .del a2_0) (by (first | exact fun _ h => h | (repeat first | exact sub_nil | refine sub_cons z_4 ?_))) rfl rfl rfl z_7 ?_ | refine ga_readF 4 rfl (s_load1 rfl (fun w hw => peekB hw (by assumption) a2_0)) (by (first | exact fun _ h => h | (repeat first | exact sub_nil | refine sub_cons z_4 ?_))) rfl rfl rfl z_7 ?_)
    refine w_ 5 rfl (s_move rfl) ?_
    refine w_ 6 rfl (s_indexAddr rfl hmas rfl (by omega)) ?_
    refine w_ 7 rfl z_1 ?_
    refine ga_read_k 8 rfl z_5 (s_load1 (v := .int .u64 x.1.commit) rfl (fun w hw => rdMi1_own (a := s.ma) hw .del (i := nn.toNat) (j := 10) (by omega) hnnl (by rw [← hx]; rfl))) (by (first | exact fun _ h => h | (repeat first | exact sub_nil | refine sub_cons z_4 ?_))) rfl rfl rfl z_7 ?_
    refine w_ 9 rfl (s_move rfl) ?_
    refine w_ 10 rfl (s_sub_u64 rfl rfl (by omega)) ?_
    refine w_ 11 rfl z_1 ?_
    (first | refine ga_read_k 12 rfl z_5 (s_load_blk rfl .del a18_4) (by (first | exact fun _ h => h | (repeat first | exact sub_nil | refine sub_cons z_4 ?_))) rfl rfl rfl z_7 ?_ | refine ga_readF 12 rfl (s_load1 rfl (fun w hw => peekB hw (by assumption) a18_4)) (by (first | exact fun _ h => h | (repeat first | exact sub_nil | refine sub_cons z_4 ?_))) rfl rfl rfl z_7 ?_)
    refine w_ 13 rfl ((s_bld (cells := (evC ⟨4, MM0, 0, 0, [], x.1.commit - less, a.data⟩).toArray) rfl z_7).eq (v' := evA ⟨4, MM0, 0, 0, [], x.1.commit - less, a.data⟩) rfl) ?_
    refine w_ 14 rfl (s_assign rfl) ?_
    refine ga_one 15 rfl z_7 ?_
    (first | refine gl_store_blkW rfl rfl z_6 z_10 z_10 z_2 ?_ | refine gl_store_blk rfl rfl z_6 z_10 z_2 z_10 ?_)
    refine gl_nil ?_
    refine at_ga (.inl z_7) ?_
    refine w_ 16 rfl (s_assign rfl) ?_
    refine ga_done z_7 ?_
    repeat refine y_ ?_
    refine g_ret ?_
    exact at_endT rfl rfl rfl rfl z_3 rfl [wB W s, OwnMi s.ma s.ms s.mc] (EvP.plain W s ⟨4, MM0, 0, 0, [], x.1.commit - less, a.data⟩ nn true rfl) (fun w hw => hw.drop.drop)
  have n6 := of_decide_eq_false hq6.symm
  have e1 : evOf s.w a.p = ⟨nn, evp EV0, false, s.fm.map MM.p⟩ := by rw [evOf, if_neg hk, if_neg n0, if_neg n4, if_neg n5, if_neg n6, hnn]; rfl
  rw [e1]
  repeat refine y_ ?_
  refine g_region ?_
  refine m_ ?_
  refine f_ ((s_bld (cells := (evC EV0).toArray) rfl z_7).eq (v' := evA EV0) rfl) ?_
  refine f_ (s_assign rfl) ?_
  (first | refine gl_store_blkW rfl rfl z_6 z_10 z_10 z_2 ?_ | refine gl_store_blk rfl rfl z_6 z_10 z_2 z_10 ?_)
  refine f_ (s_assign rfl) ?_
  refine gl_nil ?_
  repeat refine y_ ?_
  refine g_ret ?_
  exact at_endT rfl rfl rfl rfl z_3 rfl [wB W s, OwnMi s.ma s.ms s.mc] (EvP.plain W s EV0 nn false rfl) (fun w hw => hw.drop.drop)
end Go.Proofs.YtodcghipfolejaaGreat.Rf
/- The laws' own functions: a node begins anew; an act is done. -/
namespace Go.Proofs.YtodcghipfolejaaGreat.Rf
open Go Go.Sl
set_option linter.unusedVariables false
set_option linter.unusedSimpArgs false
-- ARR

theorem Sat.own_cap {h : Heap} {H H' : List As} {bs : List Nat} {a : Option Addr} {n c sz : Nat} {xs : List Value} {te : TypeId} (hs : Sat h H bs) (u : Upd H (.own (.slice a n c) te sz xs) [] H') : n ≤ c := by
  obtain ⟨b2, hx⟩ := Sat.get hs u
  rcases hx with ⟨hv, _, _⟩ | ⟨g, _, ⟨o, n', cap, pre, post, fr, hv, _, _, _, _, hle, _⟩⟩
  · injection hv with e1 e2 e3; omega
  · injection hv with e1 e2 e3; subst e2 e3; exact hle
theorem sat_tail {h : Heap} {x : As} {r : List As} (hs : ∃ bs, Sat h (x :: r) bs) : ∃ bs, Sat h r bs := by
  obtain ⟨bs, b1, b2, _, _, h2⟩ := hs
  exact ⟨b2, h2⟩
theorem ownS_ok {h : Heap} {p : RP} {a : RA} (hs : ∃ bs, Sat h (OwnS p a) bs) : RRd h p a ∧ p.l.length ≤ a.lc := by
  obtain ⟨bs, hb⟩ := hs
  exact ⟨⟨Sat.rd (a := a.ca) hb z_3, Sat.rd (a := a.la) hb z_3, Sat.rd (a := a.va) hb z_3, Sat.rd (a := a.pa) hb z_3⟩, Sat.own_cap (a := a.la) hb z_3⟩
theorem putx_whole {xs vs : List Value} (h : xs.length = vs.length) : putx xs 0 vs = vs := by
  unfold putx
  rw [List.take_zero, List.nil_append, Nat.zero_add, ← h, List.drop_length, List.append_nil]
theorem putx_mi {l : List Mi} {i : Nat} {y : Mi} (hi : i < l.length) : putx (miV l) (18 * i) (miC y) = miV (l.set i y) :=
  rec_put (C := miC) miC_len Mi0 l i hi 0 (miC y) y (by show 0 + 18 ≤ 18; decide) (putx_whole (by rw [miC_len, miC_len])).symm
theorem ws_set {h : Heap} {s : WS} {i : Nat} {y : Mi} (f : WS.ok h s) (hr : RRd h y.1 y.2) (hc : y.1.l.length ≤ y.2.lc) : WS.ok h { s with ms := s.ms.set i y } := by
  refine ⟨fun x hx => ?_, fun x hx => ?_, f.fa, f.fm, f.fc⟩
  · rcases List.mem_or_eq_of_mem_set hx with h1 | h1
    · exact f.ms x h1
    · rw [h1]; exact hr
  · rcases List.mem_or_eq_of_mem_set hx with h1 | h1
    · exact f.cap x h1
    · rw [h1]; exact hc
theorem ws_set_w (s : WS) (i : Nat) (y : Mi) : ({ s with ms := s.ms.set i y } : WS).w = ⟨s.w.ms.set i y.1, s.w.fl⟩ := by
  show (⟨(s.ms.set i y).map (·.1), s.fm.map MM.p⟩ : WP) = _
  rw [List.map_set]
def AgP (W : Nat) (s : WS) (n : Nat) (p' : RP) (v : Value) (A : List As) : Prop :=
  v = .bool true ∧ ∃ a' : RA, A = wB W { s with ms := s.ms.set n (p', a') } :: OwnMi s.ma (s.ms.set n (p', a')) s.mc :: OwnS p' a'
set_option maxRecDepth 16000 in
set_option maxHeartbeats 4000000 in
theorem again_ct (W : Nat) (s : WS) (n : Int) (K : Int) (hwb : WB K s.w) (hK : 0 ≤ K ∧ K ≤ 80000) (hn : 0 ≤ n ∧ n < 5) :
    Ct Tryz.prog 28 [Ptr W, .int .i64 n] (fun h => WS.ok h s) [wB W s, OwnMi s.ma s.ms s.mc] (AgP W s n.toNat (againP (mindAt s.w n))) := by
  have hlen : s.ms.length = 5 := by have := hwb.len; simpa using this
  have hnl : n.toNat < s.ms.length := by omega
  obtain ⟨x, hx⟩ : ∃ x, x = s.ms.getD n.toNat Mi0 := ⟨_, rfl⟩
  have hxp : mindAt s.w n = x.1 := by rw [← mi_mind, mi, ← hx]
  have hxm : x ∈ s.ms := by rw [hx, List.getD_eq_getElem?_getD, List.getElem?_eq_getElem hnl]; exact List.getElem_mem _
  have hxb := wb_mind hwb hn
  rw [hxp] at hxb
  have hxs := bi_st hxb.1 (by omega)
  have hbn := badNew_no (id := x.1.id) (tout := x.1.tout) (by omega) hxb.2.2
  have hag : againP x.1 = newP x.1.id ⟨x.1.term, x.1.vote, 0⟩ (x.1.lm x.2) x.1.img x.1.tout := by rw [againP, hbn, if_neg (by decide)]; rfl
  rw [hxp, hag]
  have hcl := hxs.fit.cl
  have hll := hxs.fit.len
  refine ct_enter 41 Tryz.func28 rfl rfl rfl ?_
  intro F hok
  have hxr := hok.ms x hxm
  refine g_ownN (a := s.ma) z_3 (fun _ _ hma => ?_)
  have hmas : ∃ ad, s.ma = some ad := hma (by omega)
  repeat refine y_ ?_
  refine g_region ?_
  refine f_ (s_assign rfl) ?_
  refine gl_nil ?_
  repeat refine y_ ?_
  refine g_region ?_
  refine m_ ?_
  refine f_ (s_nilCheck rfl) ?_
  refine f_ z_1 ?_
  refine r_ (by first | exact s_load_blk rfl z_3 a2_0 | exact s_load1 rfl (fun w hw => peekB hw (by assumption) a2_0)) ?_
  refine m_ ?_
  refine f_ (s_indexAddr rfl hmas rfl (by omega)) ?_
  refine r_ ((s_loadN (cs := miC x) rfl (fun w hw => by rw [hx]; exact rdMi_own (a := s.ma) hw z_3 (i := n.toNat) (by omega) hnl) rfl).eq (v' := rsV x.1 x.2) rfl) ?_
  refine gl_allocA rfl ?_; intro g5
  (first | refine gl_store_blkW rfl rfl z_6 z_10 z_10 z_2 ?_ | refine gl_store_blk rfl rfl z_6 z_10 z_2 z_10 ?_)
  refine gl_nil ?_
  repeat refine y_ ?_
  refine g_region ?_
  refine f_ z_1 ?_
  refine r_ (by first | exact s_load_blk rfl z_3 a18_0 | exact s_load1 rfl (fun w hw => peekB hw (by assumption) a18_0)) ?_
  refine f_ z_1 ?_
  refine r_ (by first | exact s_load_blk rfl z_3 a18_1 | exact s_load1 rfl (fun w hw => peekB hw (by assumption) a18_1)) ?_
  refine f_ z_1 ?_
  refine r_ (by first | exact s_load_blk rfl z_3 a18_2 | exact s_load1 rfl (fun w hw => peekB hw (by assumption) a18_2)) ?_
  refine f_ ((s_bld (cells := #[.int .u64 x.1.term, .int .i64 x.1.vote, .int .u64 0]) rfl z_7)) ?_
  refine f_ z_1 ?_
  refine r_ ((s_load_blkN rfl z_3 z_10).eq (v' := (x.1.lm x.2).v) rfl) ?_
  refine f_ z_1 ?_
  refine r_ (by first | exact s_load_blk rfl z_3 a18_9 | exact s_load1 rfl (fun w hw => peekB hw (by assumption) a18_9)) ?_
  refine f_ z_1 ?_
  refine r_ (by first | exact s_load_blk rfl z_3 a18_12 | exact s_load1 rfl (fun w hw => peekB hw (by assumption) a18_12)) ?_
  refine gl_call _ rfl (New_ok x.1.id ⟨x.1.term, x.1.vote, 0⟩ (x.1.lm x.2) x.1.img x.1.tout (by show x.1.conf.length ≤ _; omega) (by show x.1.l.length ≤ _; omega) hbn) (fun w hw => hw) (fun h hh _ => ⟨hxr.rc.le hh, hxr.rl.le hh⟩) rfl ?_; rintro v A ⟨a1, rfl, rfl⟩
  refine m_ ?_
  refine f_ (s_extract rfl rfl) ?_
  refine f_ (s_extract rfl rfl) ?_
  refine gl_allocA rfl ?_; intro g6
  (first | refine gl_store_blkW rfl rfl z_6 z_10 z_10 z_2 ?_ | refine gl_store_blk rfl rfl z_6 z_10 z_2 z_10 ?_)
  refine f_ (s_assign rfl) ?_
  refine gl_nil ?_
  repeat refine y_ ?_
  obtain ⟨p1, hp1⟩ : ∃ p1, p1 = newP x.1.id ⟨x.1.term, x.1.vote, 0⟩ (x.1.lm x.2) x.1.img x.1.tout := ⟨_, rfl⟩
  rw [← hp1]
  repeat refine y_ ?_
  refine g_draw ([3, 5], [0, 1, 3, 7, 0, 0, 63, 127], [7]) [wB W s, .blk g6 (.cells (rsC p1 a1).toArray 49)] 8 rfl ?_
  refine w_ 0 rfl (s_move rfl) ?_
  refine w_ 1 rfl (s_nilCheck rfl) ?_
  refine w_ 2 rfl z_1 ?_
  (first | refine ga_read_k 3 rfl z_5 (s_load_blk rfl .del a2_0) (by (first | exact fun _ h => h | (repeat first | exact sub_nil | refine sub_cons z_4 ?_))) rfl rfl rfl z_7 ?_ | refine ga_readF 3 rfl (s_load1 rfl (fun w hw => peekB hw (by assumption) a2_0)) (by (first | exact fun _ h => h | (repeat first | exact sub_nil | refine sub_cons z_4 ?_))) rfl rfl rfl z_7 ?_)
  refine w_ 4 rfl (s_move rfl) ?_
  refine ga_read_k 5 rfl z_5 ((s_load_blkW rfl .del z_10).eq (v' := rsV p1 a1) rfl) (by (first | exact fun _ h => h | (repeat first | exact sub_nil | refine sub_cons z_4 ?_))) rfl rfl rfl z_7 ?_
  refine w_ 6 rfl ((s_indexAddr rfl hmas rfl (by omega)).eq (v' := .pointer (addO s.ma (18 * n.toNat))) (by congr 2; omega)) ?_
  refine ga_one 7 rfl z_7 ?_
  refine gl_store_own (q := 18 * n.toNat) rfl rfl z_6 z_10 (by decide) z_2 (by show 18 * n.toNat + 18 ≤ (miV s.ms).length; rw [miV_len]; omega) ?_
  refine gl_nil ?_
  refine at_ga (.inl z_7) ?_
  refine ga_done z_7 ?_
  repeat refine y_ ?_
  refine g_region ?_
  refine m_ ?_
  refine f_ ((s_eql rfl rfl).eq (v' := .bool true) rfl) ?_
  refine f_ (s_assign rfl) ?_
  refine gl_nil ?_
  repeat refine y_ ?_
  refine g_ret ?_
  have hpm := putx_mi (l := s.ms) (i := n.toNat) (y := (p1, a1)) hnl
  have hsl : (s.ms.set n.toNat (p1, a1)).length = s.ms.length := List.length_set
  exact at_end1 rfl rfl _ ⟨rfl, a1, rfl⟩ (fun w hw => by
    simp only [wB, OwnMi, hsl, ← hpm]
    exact Hp.left (R := [.blk g6 (.cells (rsC p1 a1).toArray 49), .blk g5 (.cells (rsC x.1 x.2).toArray 49)]) (hw.perm (perm_up z_3 (perm_up z_3 (perm_up z_3 (perm_up z_3 (perm_up z_3 (perm_up z_3 (perm_up z_3 (.refl _))))))))))
end Go.Proofs.YtodcghipfolejaaGreat.Rf
/- The laws' own functions: an act is done. -/
namespace Go.Proofs.YtodcghipfolejaaGreat.Rf
open Go Go.Sl
set_option linter.unusedVariables false
set_option linter.unusedSimpArgs false
-- ARR

theorem allP_5 {K : Int} {p : RP} (h : BI K p) : (allP p).length ≤ 5 := by
  unfold allP; split
  · rw [List.length_map]; exact h.peers
  · simp
theorem step_few {K : Int} {p : RP} {e : EP} (h : BI K p) (hK : 0 ≤ K) (hid : 1 ≤ p.id ∧ p.id ≤ 5) (he : BE K e) : (stepM p e).length ≤ 5 := by
  have hlead : ∀ {K : Int} {p : RP}, BI K p → 0 ≤ K → (leadM p).length ≤ 5 := fun h hK => allP_5 (bi_lead h hK)
  unfold stepM
  split
  · unfold tickM
    split
    · exact allP_5 h
    · split
      · have h1 : BI (K + 1) (stand1 (tick1 p)) := by
          have h' := bi_mono h (show K ≤ K + 1 by omega)
          have hv : VotesOk (stand1 (tick1 p)) := by
            unfold VotesOk
            show pick (inB [p.id]) 5 = [p.id]
            have : p.id = 1 ∨ p.id = 2 ∨ p.id = 3 ∨ p.id = 4 ∨ p.id = 5 := by omega
            rcases this with e | e | e | e | e <;> rw [e] <;> decide
          exact ⟨h'.base, h'.conf, h'.ent, h'.bt, h'.img, h'.piece, hv, Nat.zero_le _, (fun q hq => (by cases hq)), ⟨Int.le_refl _, by show (0 : Int) ≤ K + 1; omega⟩, by have := h.term; show 0 ≤ p.term + 1 ∧ p.term + 1 ≤ K + 1; omega, h'.commit⟩
        unfold standM
        split
        · exact hlead h1 (by omega)
        · rw [List.length_map]
          exact Nat.le_trans (List.length_filter_le _ _) (bi_conf h _).1
      · simp
  split
  · rename_i h2
    have hm := he.m h2
    unfold hearM
    split
    · simp
    · have h1 : BI K (hear1 p e.m) := by
        unfold hear1; split
        · exact bi_follow h _ _ hm.term
        · exact h
      unfold doesM
      split
      · simp
      split
      · unfold grantMs; split
        · split
          · exact hlead (K := K) ⟨h1.base, h1.conf, h1.ent, h1.bt, h1.img, h1.piece, votesL_ok _ _, h1.peers, h1.prs, h1.ticks, h1.term, h1.commit⟩ hK
          · simp
        · simp
      split
      · unfold leadsM; split
        · simp
        · split
          · simp
          · split
            · unfold tkM; split
              · simp
              · split <;> simp
            · unfold pcM; split
              · simp
              · split
                · simp
                · split
                  · simp
                  · split <;> simp
      split
      · unfold ackMs; split
        · simp
        · split
          · simp
          · split
            · simp
            · split <;> simp
      split
      · unfold gotMs; split <;> simp
      · simp
  split
  · unfold propM; split
    · have h1 : BI (K + 1) (prop2 p e.ek e.ed) := by
        have h0 := bi_app h (e := (p.term, e.ek, e.ed)) ⟨he.ed, h.term⟩
        unfold prop2
        split
        · exact ⟨h0.base, h0.conf, h0.ent, h0.bt, h0.img, h0.piece, h0.votes, peersL_5 h0, peersL_qb h0, h0.ticks, h0.term, h0.commit⟩
        · exact h0
      exact allP_5 (bi_commit h1 (by omega))
    · simp
  · simp
theorem gl_rot {P : Program} {N : Nat} {K R : Kont} {E : List (Nat × Kont)} {L : Lcs} {F : Snap} {x : As} {A T : List As} {ops : Array Oper} {rest : List Oper} (h : GL P N ops rest K E R L F (x :: (A ++ T))) : GL P N ops rest K E R L F (A ++ (x :: T)) :=
  gl_pull (fun w hw => hw.perm List.perm_middle) h
theorem act_c1 {F : Snap} {w : World} {b g M : As} {S Z2 R : List As} (h : Hp F w (b :: g :: ((S ++ (M :: Z2)) ++ R))) : Hp F w (b :: (S ++ (M :: (Z2 ++ R)))) := by
  have := (h.perm (.swap _ _ _)).drop
  simpa using this
theorem act_c2 {F : Snap} {w : World} {b g M : As} {S Z2 R : List As} (h : Hp F w (b :: ((S ++ (M :: Z2)) ++ (g :: R)))) : Hp F w (b :: (S ++ (M :: (Z2 ++ R)))) := by
  have := (h.perm ((List.perm_middle.cons _).trans (.swap _ _ _))).drop
  simpa using this
theorem rdMiX_own {F : Snap} {w : World} {H H' : List As} {a : Option Addr} {l : List Mi} {n c q i : Nat} {te : TypeId} {x : Mi} (hw : Hp F w H) (u : Upd H (.own (.slice a n c) te 18 (miV l)) [] H') (h : q = 18 * i) (hi : i < l.length) (hx : x = l.getD i Mi0) : PeekC (hp w) (addO a q) (miC x) := by
  rw [hx]; exact rdMi_own hw u h hi
/-- what comes back of 'Act' -/
def ActP (W : Nat) (s : WS) (r : AcR) (v : Value) (A : List As) : Prop :=
  ∃ (s' : WS) (Z : List As), v = .tuple #[.int .i64 r.n, .bool r.ok] ∧ s'.w = r.w ∧ A = wB W s' :: OwnMi s'.ma s'.ms s'.mc :: Z ∧ ∀ h, WS.ok h s → (∃ bs, Sat h Z bs) → WS.ok h s'
theorem hp_tail {F : Snap} {w : World} {H : List As} (hw : Hp F w H) : ∃ bs, Sat (hp w) H bs := by
  obtain ⟨bs, h, _⟩ := hw.own; exact ⟨bs, h⟩
set_option maxRecDepth 16000 in
set_option maxHeartbeats 8000000 in
theorem Act_ct (W : Nat) (s : WS) (a : AcM) (K : Int) (hwb : WB K s.w) (hK : 0 ≤ K ∧ K ≤ 80000) (hd : a.data.length ≤ 100000) :
    Ct Tryz.prog 11 [Ptr W, acA a] (fun h => WS.ok h s) [wB W s, OwnMi s.ma s.ms s.mc] (ActP W s (actP s.w a.p)) := by
  have hlen : s.ms.length = 5 := by have := hwb.len; simpa using this
  have hfew : s.fm.length ≤ 40 := by have := hwb.few; simpa using this
  have hnr := nOf_range a.p
  obtain ⟨nn, hnn⟩ : ∃ n, n = nOf a.p := ⟨_, rfl⟩
  rw [← hnn] at hnr
  obtain ⟨un, hun⟩ : ∃ u, u = IntKind.u64.wrap a.n := ⟨_, rfl⟩
  have hun0 : 0 ≤ un ∧ un ≤ 18446744073709551615 := by rw [hun, IntKind.wrap_u64]; omega
  have hnu : un % 5 = nn := by rw [hnn, nOf, uM, hun]
  refine ct_enter 87 Tryz.func11 rfl rfl rfl ?_
  intro F hok
  obtain ⟨q7, hq7⟩ : ∃ q, q = decide (a.kind = 7) := ⟨_, rfl⟩
  repeat refine y_ ?_
  refine g_region ?_
  refine gl_boxA rfl rfl ?_; intro g3
  refine f_ (s_assign rfl) ?_
  refine f_ (s_assign rfl) ?_
  refine gl_nil ?_
  repeat refine y_ ?_
  refine g_region ?_
  refine f_ z_1 ?_
  refine r_ (by first | exact s_load_blk rfl z_3 a18_0 | exact s_load1 rfl (fun w hw => peekB hw (by assumption) a18_0)) ?_
  refine f_ ((s_eql rfl rfl).eq (congrArg Value.bool hq7.symm)) ?_
  refine gl_nil ?_
  repeat refine y_ ?_
  cases q7
  rotate_left
  · have h7 : a.p.kind = 7 := of_decide_eq_true hq7.symm
    have hm := wb_mind hwb hnr
    have hbn := badNew_no (id := (mindAt s.w nn).id) (tout := (mindAt s.w nn).tout) (by omega) hm.2.2
    have e1 : actP s.w a.p = ⟨⟨s.w.ms.set nn.toNat (againP (mindAt s.w nn)), s.w.fl⟩, nn, true⟩ := by rw [actP, if_pos h7, ← hnn, hbn]; rfl
    rw [e1]
    repeat refine y_ ?_
    refine g_region ?_
    refine f_ z_1 ?_
    refine r_ (by first | exact s_load_blk rfl z_3 a18_1 | exact s_load1 rfl (fun w hw => peekB hw (by assumption) a18_1)) ?_
    refine f_ ((s_conv_int rfl).eq (v' := .int .u64 un) (by rw [hun])) ?_
    refine f_ (s_rem_pos rfl rfl (by omega)) ?_
    refine f_ ((s_conv_keep_i64 rfl (by omega)).eq (v' := .int .i64 nn) (by rw [hnu])) ?_
    refine f_ (s_assign rfl) ?_
    refine gl_nil ?_
    repeat refine y_ ?_
    refine g_region ?_
    refine m_ ?_
    refine m_ ?_
    refine m_ ?_
    refine gl_call [.blk g3 (.cells (acC a).toArray 40)] rfl (again_ct W s nn K hwb hK hnr) (fun w hw => hw.perm (perm_up z_3 (perm_up z_3 (.refl _)))) (fun h hh _ => hok.le hh) rfl ?_; rintro v A ⟨rfl, a1, rfl⟩
    refine f_ (s_assign rfl) ?_
    refine f_ (s_assign rfl) ?_
    refine gl_nil ?_
    repeat refine y_ ?_
    refine g_ret ?_
    exact at_end2 rfl rfl rfl _ ⟨{ s with ms := s.ms.set nn.toNat (againP (mindAt s.w nn), a1) }, OwnS (againP (mindAt s.w nn)) a1, rfl, ws_set_w _ _ _, rfl, fun h f hs => ws_set f (ownS_ok hs).1 (ownS_ok hs).2⟩ (fun w hw => Hp.left (R := [.blk g3 (.cells (acC a).toArray 40)]) hw)
  have n7 : ¬ a.p.kind = 7 := of_decide_eq_false hq7.symm
  repeat refine y_ ?_
  refine g_region ?_
  refine m_ ?_
  refine r_ ((s_load_blkW rfl z_3 z_10).eq (v' := acA a) rfl) ?_
  refine gl_call [.blk g3 (.cells (acC a).toArray 40)] rfl (event_ct W s a K hwb hK) (fun w hw => hw.perm (perm_up z_3 (perm_up z_3 (.refl _)))) (fun h hh _ => hok.le hh) rfl ?_; rintro v A ⟨e, fm, fa, fc, Z, rfl, hev, hfm, rfl, hZ⟩
  refine m_ ?_
  refine f_ (s_extract rfl rfl) ?_
  refine f_ (s_extract rfl rfl) ?_
  refine f_ (s_extract rfl rfl) ?_
  refine gl_allocA rfl ?_; intro g8
  refine f_ (s_assign rfl) ?_
  (first | refine gl_store_blkW rfl rfl z_6 z_10 z_10 z_2 ?_ | refine gl_store_blk rfl rfl z_6 z_10 z_2 z_10 ?_)
  refine f_ (s_assign rfl) ?_
  refine gl_nil ?_
  repeat refine y_ ?_
  obtain ⟨r, hr⟩ : ∃ r, r = evOf s.w a.p := ⟨_, rfl⟩
  rw [← hr] at hev hfm
  obtain ⟨s1, hs1⟩ : ∃ s1 : WS, s1 = { s with fm := fm, fa := fa, fc := fc } := ⟨_, rfl⟩
  have hZ1 : ∀ h, WS.ok h s → (∃ bs, Sat h Z bs) → WS.ok h s1 ∧ MOk h e.m := by rw [hs1]; exact hZ
  have h1w : s1.w = ⟨s.w.ms, r.fl⟩ := by rw [hs1]; show (⟨s.ms.map (·.1), fm.map MM.p⟩ : WP) = _; rw [hfm]
  have h1ms : s1.ms = s.ms := by rw [hs1]
  have h1fm : s1.fm = fm := by rw [hs1]
  have hfl : fm.length ≤ 40 := by
    have := ev_fllen s.w a.p
    rw [← hr, ← hfm, List.length_map] at this
    simp only [List.length_map] at this
    omega
  refine g_pull (H' := .blk g8 (.cells (evC e).toArray 53) :: wB W s1 :: OwnMi s1.ma s1.ms s1.mc :: Z) (fun w hw => by subst hs1; exact Hp.left (R := [.blk g3 (.cells (acC a).toArray 40)]) hw) ?_
  obtain ⟨ok, hoke⟩ : ∃ ok, ok = r.ok := ⟨_, rfl⟩
  rw [← hr, ← hoke]
  repeat refine y_ ?_
  refine g_region ?_
  refine m_ ?_
  refine f_ (s_not rfl) ?_
  refine gl_nil ?_
  repeat refine y_ ?_
  cases ok
  · have e1 : actP s.w a.p = ⟨⟨s.w.ms, r.fl⟩, r.n, true⟩ := by rw [actP, if_neg n7, ← hr, if_pos hoke.symm]
    rw [e1]
    repeat refine y_ ?_
    refine g_region ?_
    refine m_ ?_
    refine f_ (s_assign rfl) ?_
    refine f_ (s_assign rfl) ?_
    refine gl_nil ?_
    repeat refine y_ ?_
    refine g_ret ?_
    exact at_end2 rfl rfl rfl (wB W s1 :: OwnMi s1.ma s1.ms s1.mc :: Z) ⟨s1, Z, rfl, h1w, rfl, fun h f hs => (hZ1 h f hs).1⟩ (fun w hw => hw.drop)
  have hev0 := ev_ok hwb hK.1 (a := a.p) hd (by rw [← hr]; exact hoke.symm)
  rw [← hr] at hev0
  have hrn := hev0.n
  obtain ⟨n, hn⟩ : ∃ n, n = r.n := ⟨_, rfl⟩
  rw [← hn] at hrn
  have hnl : n.toNat < s1.ms.length := by rw [h1ms]; omega
  obtain ⟨x, hx⟩ : ∃ x, x = s1.ms.getD n.toNat Mi0 := ⟨_, rfl⟩
  have hxp : mindAt s.w n = x.1 := by rw [← mi_mind, mi, hx, h1ms]
  have hxm : x ∈ s1.ms := by rw [hx, List.getD_eq_getElem?_getD, List.getElem?_eq_getElem hnl]; exact List.getElem_mem _
  have hxb := wb_mind hwb hrn
  rw [hxp] at hxb
  have hxs := bi_st hxb.1 (by omega)
  have hstf := step_few (e := r.e) hxb.1 hK.1 (by omega) hev0.be
  obtain ⟨p', hp'⟩ : ∃ p', p' = stepP x.1 r.e := ⟨_, rfl⟩
  obtain ⟨new, hnew⟩ : ∃ l, l = stepM x.1 r.e := ⟨_, rfl⟩
  rw [← hnew] at hstf
  have e1 : actP s.w a.p = ⟨⟨s.w.ms.set n.toNat p', cut40 (r.fl ++ new)⟩, n, true⟩ := by rw [actP, if_neg n7, ← hr, if_neg (by rw [← hoke]; decide), ← hn, hxp, hp', hnew]
  rw [e1, ← hn]
  have hstep := Step_ct' x.1 x.2 e hxs (by have := hev0.mfit (by omega); rw [← hev] at this; exact this) (by have := hev0.kind; rw [← hev] at this; exact this) (by have := hev0.index; rw [← hev] at this; show 0 ≤ e.index ∧ _; have h2 : 0 ≤ e.index ∧ e.index ≤ K := this; omega)
  rw [hev, ← hp', ← hnew] at hstep
  repeat refine y_ ?_
  refine g_ownN (a := s1.ma) z_3 (fun _ _ hma => ?_)
  have hmas : ∃ ad, s1.ma = some ad := hma (by omega)
  have hpre3 : ∀ h, Heap.le F.heap h → (∃ bs, Sat h Z bs) → RRd h x.1 x.2 ∧ MOk h e.m := fun h hh h2 => ⟨(hZ1 h (hok.le hh) h2).1.ms x hxm, (hZ1 h (hok.le hh) h2).2⟩
  refine g_cutE (ι := { y : Nat × RA × List MM × Option Addr × Nat × List As // y.2.2.1.map MM.p = new ∧ ∀ h, (∃ bs, Sat h y.2.2.2.2.2 bs) → ∀ m ∈ y.2.2.1, MOk h m }) (fun y => [(0, Ptr W), (7, .int .i64 n), (10, Ptr y.1.1), (11, .slice y.1.2.2.2.1 y.1.2.2.1.length y.1.2.2.2.2.1)]) (fun y => .blk y.1.1 (.cells (rsC p' y.1.2.1).toArray 49) :: (OwnS p' y.1.2.1 ++ (OwnM y.1.2.2.2.1 y.1.2.2.1 y.1.2.2.2.2.1 :: (y.1.2.2.2.2.2 ++ (wB W s1 :: OwnMi s1.ma s1.ms s1.mc :: Z))))) ?_ (fun y => ?_)
  · repeat refine y_ ?_
    refine g_draw ([3, 6, 7], [0, 1, 3, 7, 0, 31, 63, 0, 255, 511, 1023, 1023, 1023, 0, 10239, 28671, 65535], [8, 13, 14]) [wB W s1, OwnMi s1.ma s1.ms s1.mc, .blk g8 (.cells (evC e).toArray 53)] 17 rfl ?_
    refine w_ 0 rfl (s_move rfl) ?_
    refine w_ 1 rfl (s_nilCheck rfl) ?_
    refine w_ 2 rfl z_1 ?_
    (first | refine ga_read_k 3 rfl z_5 (s_load_blk rfl .del a2_0) (by (first | exact fun _ h => h | (repeat first | exact sub_nil | refine sub_cons z_4 ?_))) rfl rfl rfl z_7 ?_ | refine ga_readF 3 rfl (s_load1 rfl (fun w hw => peekB hw (by assumption) a2_0)) (by (first | exact fun _ h => h | (repeat first | exact sub_nil | refine sub_cons z_4 ?_))) rfl rfl rfl z_7 ?_)
    refine w_ 4 rfl (s_move rfl) ?_
    refine w_ 5 rfl (s_indexAddr rfl hmas rfl (by omega)) ?_
    refine ga_read_k 6 rfl z_5 ((s_loadN (cs := miC x) rfl (fun w hw => rdMiX_own (a := s1.ma) hw .del (i := n.toNat) (by omega) hnl hx) rfl).eq (v' := rsV x.1 x.2) rfl) (by (first | exact fun _ h => h | (repeat first | exact sub_nil | refine sub_cons z_4 ?_))) rfl rfl rfl z_7 ?_
    refine ga_read_k 7 rfl z_5 ((s_load_blkW rfl .del z_10).eq (v' := evA e) rfl) (by (first | exact fun _ h => h | (repeat first | exact sub_nil | refine sub_cons z_4 ?_))) rfl rfl rfl z_7 ?_
    refine ga_two 8 13 rfl rfl z_7 ?_ ?_
    refine gl_call _ rfl hstep (fun w hw => hw) (fun h hh hs => hpre3 h hh (by first | exact sat_tail (sat_tail (sat_tail hs)) | exact sat_tail (sat_tail (sat_tail (sat_tail hs))))) rfl ?_; rintro v A ⟨a', outs, oa, oc, Z2, rfl, ho, rfl, hZ2⟩; refine gl_rot ?_
    refine gl_nil ?_
    refine at_ga (.inl z_7) ?_
    refine w_ 9 rfl (s_move rfl) ?_
    refine w_ 10 rfl (s_extract rfl rfl) ?_
    refine w_ 11 rfl (s_extract rfl rfl) ?_
    refine w_ 12 rfl (s_extract rfl rfl) ?_
    refine ga_one 13 rfl z_7 ?_
    refine gl_allocA rfl ?_; intro g10
    refine gl_nil ?_
    refine at_ga (.inl z_7) ?_
    refine ga_one 14 rfl z_7 ?_
    (first | refine gl_store_blkW rfl rfl z_6 z_10 z_10 z_2 ?_ | refine gl_store_blk rfl rfl z_6 z_10 z_2 z_10 ?_)
    refine gl_nil ?_
    refine at_ga (.inl z_7) ?_
    refine w_ 15 rfl (s_assign rfl) ?_
    refine w_ 16 rfl (s_assign rfl) ?_
    refine ga_done z_7 ?_
    rotate_left 1
    refine gl_allocA rfl ?_; intro g10
    refine gl_nil ?_
    refine at_ga (.inr (by exact keeps_of (by (first | exact fun _ h => h | (repeat first | exact sub_nil | refine sub_cons z_4 ?_))))) ?_
    refine ga_one 8 rfl z_7 ?_
    refine gl_call _ rfl hstep (fun w hw => hw) (fun h hh hs => hpre3 h hh (by first | exact sat_tail (sat_tail (sat_tail hs)) | exact sat_tail (sat_tail (sat_tail (sat_tail hs))))) rfl ?_; rintro v A ⟨a', outs, oa, oc, Z2, rfl, ho, rfl, hZ2⟩; refine gl_rot ?_
    refine gl_nil ?_
    refine at_ga (.inl z_7) ?_
    refine w_ 9 rfl (s_move rfl) ?_
    refine w_ 10 rfl (s_extract rfl rfl) ?_
    refine w_ 11 rfl (s_extract rfl rfl) ?_
    refine w_ 12 rfl (s_extract rfl rfl) ?_
    refine ga_one 14 rfl z_7 ?_
    (first | refine gl_store_blkW rfl rfl z_6 z_10 z_10 z_2 ?_ | refine gl_store_blk rfl rfl z_6 z_10 z_2 z_10 ?_)
    refine gl_nil ?_
    refine at_ga (.inl z_7) ?_
    refine w_ 15 rfl (s_assign rfl) ?_
    refine w_ 16 rfl (s_assign rfl) ?_
    refine ga_done z_7 ?_
    rotate_left 1
    all_goals (repeat refine y_ ?_)
    all_goals
      exact at_cutE ⟨(g10, a', outs, oa, oc, Z2), ho, hZ2⟩ (by (repeat (first | exact Sub.nil _ | refine Sub.cons rfl ?_))) (fun w hw => by first | exact act_c1 hw | exact act_c2 hw)
  obtain ⟨⟨g10, a', outs, oa, oc, Z2⟩, ho, hZ2⟩ := y
  simp only at ho hZ2 ⊢
  have hol : outs.length ≤ 5 := by rw [← List.length_map (f := MM.p), ho]; exact hstf
  obtain ⟨s2, hs2⟩ : ∃ s2 : WS, s2 = { s1 with ms := s1.ms.set n.toNat (p', a') } := ⟨_, rfl⟩
  have hpm := putx_mi (l := s1.ms) (i := n.toNat) (y := (p', a')) hnl
  have hsl : (s1.ms.set n.toNat (p', a')).length = s1.ms.length := List.length_set
  repeat refine y_ ?_
  refine g_pull (H' := .blk g10 (.cells (rsC p' a').toArray 49) :: wB W s1 :: OwnMi s1.ma s1.ms s1.mc :: OwnM oa outs oc :: (OwnS p' a' ++ (Z2 ++ Z))) (fun w hw => hw.perm ?_) ?_
  · refine List.Perm.cons _ ?_
    have h1 : (Z2 ++ (wB W s1 :: OwnMi s1.ma s1.ms s1.mc :: Z)).Perm (wB W s1 :: OwnMi s1.ma s1.ms s1.mc :: (Z2 ++ Z)) := List.perm_middle.trans (List.perm_middle.cons _)
    have h2 : (OwnS p' a' ++ (OwnM oa outs oc :: (Z2 ++ (wB W s1 :: OwnMi s1.ma s1.ms s1.mc :: Z)))).Perm (OwnS p' a' ++ (OwnM oa outs oc :: (wB W s1 :: OwnMi s1.ma s1.ms s1.mc :: (Z2 ++ Z)))) := (h1.cons _).append_left _
    have h3 : (OwnS p' a' ++ (OwnM oa outs oc :: (wB W s1 :: OwnMi s1.ma s1.ms s1.mc :: (Z2 ++ Z)))).Perm (OwnM oa outs oc :: wB W s1 :: OwnMi s1.ma s1.ms s1.mc :: (OwnS p' a' ++ (Z2 ++ Z))) :=
      List.perm_middle.trans ((List.perm_middle.trans ((List.perm_middle).cons _)).cons _)
    exact (h2.trans h3).trans ((List.Perm.swap _ _ _).trans ((List.Perm.swap _ _ _).cons _))
  repeat refine y_ ?_
  refine g_draw ([3, 5], [0, 1, 3, 7, 0, 0, 63, 127], [7]) [wB W s1, .blk g10 (.cells (rsC p' a').toArray 49)] 8 rfl ?_
  refine w_ 0 rfl (s_move rfl) ?_
  refine w_ 1 rfl (s_nilCheck rfl) ?_
  refine w_ 2 rfl z_1 ?_
  (first | refine ga_read_k 3 rfl z_5 (s_load_blk rfl .del a2_0) (by (first | exact fun _ h => h | (repeat first | exact sub_nil | refine sub_cons z_4 ?_))) rfl rfl rfl z_7 ?_ | refine ga_readF 3 rfl (s_load1 rfl (fun w hw => peekB hw (by assumption) a2_0)) (by (first | exact fun _ h => h | (repeat first | exact sub_nil | refine sub_cons z_4 ?_))) rfl rfl rfl z_7 ?_)
  refine w_ 4 rfl (s_move rfl) ?_
  refine ga_read_k 5 rfl z_5 ((s_load_blkW rfl .del z_10).eq (v' := rsV p' a') rfl) (by (first | exact fun _ h => h | (repeat first | exact sub_nil | refine sub_cons z_4 ?_))) rfl rfl rfl z_7 ?_
  refine w_ 6 rfl ((s_indexAddr rfl hmas rfl (by omega)).eq (v' := .pointer (addO s1.ma (18 * n.toNat))) (by congr 2; omega)) ?_
  refine ga_one 7 rfl z_7 ?_
  refine gl_store_own (q := 18 * n.toNat) rfl rfl z_6 z_10 (by decide) z_2 (by show 18 * n.toNat + 18 ≤ (miV s1.ms).length; rw [miV_len]; omega) ?_
  refine gl_nil ?_
  refine at_ga (.inl z_7) ?_
  refine ga_done z_7 ?_
  repeat refine y_ ?_
  refine g_pull (H' := wB W s2 :: OwnMi s2.ma s2.ms s2.mc :: OwnM oa outs oc :: (OwnS p' a' ++ (Z2 ++ Z))) (fun w hw => by
    subst hs2
    simp only [wB, OwnMi, hsl, ← hpm]
    exact hw.drop) ?_
  have h2fm : s2.fm = s1.fm := by rw [hs2]
  have h2fa : s2.fa = s1.fa := by rw [hs2]
  have hsrc : ∀ (w : World), Hp F w (wB W s2 :: OwnMi s2.ma s2.ms s2.mc :: OwnM oa outs oc :: (OwnS p' a' ++ (Z2 ++ Z))) → RdS (hp w) s2.fa (mmV s2.fm) := fun w hw => by
    have h4 := sat_tail (sat_tail (sat_tail (hp_tail hw)))
    have h5 : ∃ bs, Sat (hp w) Z bs := (Sat.two2 (Sat.two2 h4).2).2
    rw [h2fm, h2fa]
    exact (hZ1 _ (hok.le hw.keep) h5).1.fa
  have hf2 : s2.fm.length ≤ 40 := by rw [h2fm, h1fm]; exact hfl
  have hnlen : (s2.fm ++ outs).length = 0 + s2.fm.length + outs.length := by rw [List.length_append]; omega
  refine g_cutE (ι := Option Addr × Nat) (fun _ => [(0, Ptr W), (7, .int .i64 n)]) (fun y => wB W { s2 with fm := s2.fm ++ outs, fa := y.1, fc := y.2 } :: OwnMi s2.ma s2.ms s2.mc :: OwnM y.1 (s2.fm ++ outs) y.2 :: OwnM oa outs oc :: (OwnS p' a' ++ (Z2 ++ Z))) ?_ (fun y => ?_)
  · repeat refine y_ ?_
    refine g_region ?_
    refine m_ ?_
    refine gl_buildSlice0 rfl ?_; intro a56
    refine m_ ?_
    refine f_ (s_nilCheck rfl) ?_
    refine f_ z_1 ?_
    refine r_ (by first | exact s_load_blk rfl z_3 a2_1 | exact s_load1 rfl (fun w hw => peekB hw (by assumption) a2_1)) ?_
    refine gl_append (sz := 13) rfl rfl (fun a' c' => z_6) (fun w hw => hsrc w hw.drop) (mmV_len _) rfl rfl (mmV_one _) (by show (0 + s2.fm.length) * 144 ≤ 140737488355328; omega) (by omega) rfl ?_; intro a61 c61 hc61
    refine m_ ?_
    refine gl_append (sz := 13) rfl rfl (fun a' c' => z_6) (fun w hw => (hw.ownN (a := oa) z_3).2.2.1) (mmV_len _) rfl rfl (mmV_one _) (by show (0 + s2.fm.length + outs.length) * 144 ≤ 140737488355328; omega) (by omega) rfl ?_; intro a63 c63 hc63
    refine f_ (s_nilCheck rfl) ?_
    refine f_ z_1 ?_
    (first | refine gl_store_blkC (pre := [_]) (post := []) rfl rfl z_6 z_10 z_10 z_10 ?_ | refine gl_store_blk rfl rfl z_6 z_10 z_2 z_10 ?_)
    refine gl_nil ?_
    repeat refine y_ ?_
    exact at_cutE (a63, c63) (by (repeat (first | exact Sub.nil _ | refine Sub.cons rfl ?_))) (fun w hw => by
      simp only [wB, OwnM, mmV_append, hnlen]
      rw [List.nil_append] at hw
      exact hw.perm (perm_up z_3 (perm_up z_3 (.refl _))))
  obtain ⟨ya, yc⟩ := y
  simp only
  obtain ⟨al, hal⟩ : ∃ al, al = s2.fm ++ outs := ⟨_, rfl⟩
  rw [← hal] at hnlen
  rw [← hal]
  have hal45 : al.length ≤ 45 := by omega
  obtain ⟨k, hk⟩ : ∃ k, k = al.length - 40 := ⟨_, rfl⟩
  have hkd : (al.drop k).length = al.length - k := List.length_drop
  obtain ⟨q, hq⟩ : ∃ q, q = decide ((40 : Int) < (al.length : Nat)) := ⟨_, rfl⟩
  repeat refine y_ ?_
  refine g_ownN (a := ya) z_3 (fun _ hyc hys => ?_)
  repeat refine y_ ?_
  refine g_region ?_
  refine m_ ?_
  refine f_ (s_nilCheck rfl) ?_
  refine f_ z_1 ?_
  refine r_ (by first | exact s_load_blk rfl z_3 a2_1 | exact s_load1 rfl (fun w hw => peekB hw (by assumption) a2_1)) ?_
  refine f_ (s_len_sl rfl) ?_
  refine f_ ((s_gtr rfl rfl).eq (congrArg Value.bool hq.symm)) ?_
  refine gl_nil ?_
  repeat refine y_ ?_
  refine g_cutK [(7, .int .i64 n)] (wB W { s2 with fm := al.drop k, fa := cutA ya yc k 13, fc := yc - k } :: OwnMi s2.ma s2.ms s2.mc :: OwnM ya al yc :: OwnM oa outs oc :: (OwnS p' a' ++ (Z2 ++ Z))) ?_ ?_
  · cases q
    · have h0 : k = 0 := by have := of_decide_eq_false hq.symm; omega
      repeat refine y_ ?_
      exact at_cut (by (repeat (first | exact Sub.nil _ | refine Sub.cons rfl ?_))) (fun w hw => by rw [h0, cutA_zero]; exact hw)
    · have h0 : 40 < al.length := by have := of_decide_eq_true hq.symm; omega
      repeat refine y_ ?_
      refine g_draw ([4, 8], [0, 0, 2, 6, 14, 0, 32, 96, 224, 480, 992, 2046, 4095, 8191, 16383], [14]) [wB W { s2 with fm := al, fa := ya, fc := yc }] 15 rfl ?_
      refine w_ 0 rfl (s_move rfl) ?_
      refine w_ 1 rfl (s_move rfl) ?_
      refine w_ 2 rfl (s_nilCheck rfl) ?_
      refine w_ 3 rfl z_1 ?_
      (first | refine ga_read_k 4 rfl z_5 (s_load_blk rfl .del a2_1) (by (first | exact fun _ h => h | (repeat first | exact sub_nil | refine sub_cons z_4 ?_))) rfl rfl rfl z_7 ?_ | refine ga_readF 4 rfl (s_load1 rfl (fun w hw => peekB hw (by assumption) a2_1)) (by (first | exact fun _ h => h | (repeat first | exact sub_nil | refine sub_cons z_4 ?_))) rfl rfl rfl z_7 ?_)
      refine w_ 5 rfl (s_move rfl) ?_
      refine w_ 6 rfl (s_nilCheck rfl) ?_
      refine w_ 7 rfl z_1 ?_
      (first | refine ga_read_k 8 rfl z_5 (s_load_blk rfl .del a2_1) (by (first | exact fun _ h => h | (repeat first | exact sub_nil | refine sub_cons z_4 ?_))) rfl rfl rfl z_7 ?_ | refine ga_readF 8 rfl (s_load1 rfl (fun w hw => peekB hw (by assumption) a2_1)) (by (first | exact fun _ h => h | (repeat first | exact sub_nil | refine sub_cons z_4 ?_))) rfl rfl rfl z_7 ?_)
      refine w_ 9 rfl (s_len_sl rfl) ?_
      refine w_ 10 rfl ((s_sub_i64 rfl rfl (by show -9223372036854775808 ≤ (al.length : Int) - 40 ∧ (al.length : Int) - 40 ≤ 9223372036854775807; omega)).eq (v' := .int .i64 (k : Nat)) (by congr 1; show (al.length : Int) - 40 = (k : Nat); omega)) ?_
      refine w_ 11 rfl ((s_slice_sl rfl rfl rfl (by show 0 ≤ ((k : Nat) : Int) ∧ ((k : Nat) : Int) ≤ (al.length : Nat) ∧ ((al.length : Nat) : Int) ≤ (yc : Nat); omega)).eq (v' := .slice (cutA ya yc k 13) (al.drop k).length (yc - k)) (by rw [hkd]; rfl)) ?_
      refine w_ 12 rfl (s_nilCheck rfl) ?_
      refine w_ 13 rfl z_1 ?_
      refine ga_one 14 rfl z_7 ?_
      (first | refine gl_store_blkC (pre := [_]) (post := []) rfl rfl z_6 z_10 z_10 z_10 ?_ | refine gl_store_blk rfl rfl z_6 z_10 z_2 z_10 ?_)
      refine gl_nil ?_
      refine at_ga (.inl z_7) ?_
      refine ga_done z_7 ?_
      repeat refine y_ ?_
      exact at_cut (by (repeat (first | exact Sub.nil _ | refine Sub.cons rfl ?_))) (fun w hw => hw)
  repeat refine y_ ?_
  refine g_region ?_
  refine m_ ?_
  refine f_ (s_assign rfl) ?_
  refine f_ (s_assign rfl) ?_
  refine gl_nil ?_
  repeat refine y_ ?_
  refine g_ret ?_
  exact at_end2 rfl rfl rfl _ ⟨{ s2 with fm := al.drop k, fa := cutA ya yc k 13, fc := yc - k }, OwnM ya al yc :: OwnM oa outs oc :: (OwnS p' a' ++ (Z2 ++ Z)), rfl, by
    rw [hs2]
    show (⟨(s1.ms.set n.toNat (p', a')).map (·.1), (al.drop k).map MM.p⟩ : WP) = ⟨s.w.ms.set n.toNat p', cut40 (r.fl ++ new)⟩
    rw [List.map_set, List.map_drop, hal, List.map_append, h2fm, h1fm, hfm, ho, cut40, h1ms]
    congr 2
    rw [hk, hal, List.length_append, List.length_append, ← hfm, ← ho, List.length_map, List.length_map, h2fm, h1fm], rfl, fun h f hs => by
    have t1 := sat_tail (sat_tail hs)
    have t2 := Sat.two2 t1
    have t3 := Sat.two2 t2.2
    have f1 := (hZ1 h f t3.2).1
    have f2 : WS.ok h s2 := by rw [hs2]; exact ws_set f1 (ownS_ok t2.1).1 (ownS_ok t2.1).2
    obtain ⟨bs, hb⟩ := hs
    refine ⟨f2.ms, f2.cap, rd_dropM (Sat.rd (a := ya) hb .del) hyc (i := k) (by omega), fun m hm => ?_, ?_⟩
    · have hm2 : m ∈ al := List.mem_of_mem_drop hm
      rw [hal] at hm2
      rcases List.mem_append.1 hm2 with h1 | h1
      · exact f2.fm m h1
      · exact hZ2 h t3.1 m h1
    · show (al.drop k).length ≤ yc - k
      rw [hkd]
      omega⟩ (fun w hw => hw)
end Go.Proofs.YtodcghipfolejaaGreat.Rf
/- The laws' own functions: great, Begin. -/
namespace Go.Proofs.YtodcghipfolejaaGreat.Rf
open Go Go.Sl
set_option linter.unusedVariables false
set_option linter.unusedSimpArgs false
-- ARR

/-- a play in memory -/
structure PlM where
  mem : Int
  t0 : Int
  t1 : Int
  t2 : Int
  t3 : Int
  t4 : Int
  acts : List AcM
  pa : Option Addr
  pc : Nat
abbrev plC (p : PlM) : List Value := [.int .i64 p.mem, .int .i64 p.t0, .int .i64 p.t1, .int .i64 p.t2, .int .i64 p.t3, .int .i64 p.t4, .slice p.pa p.acts.length p.pc]
abbrev plA (p : PlM) : Value := .agg #[.int .i64 p.mem, .int .i64 p.t0, .int .i64 p.t1, .int .i64 p.t2, .int .i64 p.t3, .int .i64 p.t4, .slice p.pa p.acts.length p.pc]
abbrev PlM.p (p : PlM) : PlP := ⟨p.mem, [p.t0, p.t1, p.t2, p.t3, p.t4], p.acts.map AcM.p⟩
structure PlOk (h : Heap) (p : PlM) : Prop where
  rd : RdS h p.pa (acV p.acts)
  m : ∀ a ∈ p.acts, MOk h a.m
theorem PlOk.le {h h' : Heap} {p : PlM} (f : PlOk h p) (l : Heap.le h h') : PlOk h' p := ⟨f.rd.le l, fun a ha => (f.m a ha).le l⟩
structure SmA (a : AcM) : Prop where
  data : a.data.length ≤ 100000
  el : a.m.p.ents.length ≤ 100
  cl : a.m.p.conf.length ≤ 100
  md : a.m.p.data.length ≤ 100000
  ed : ∀ e ∈ a.m.p.ents, e.2.2.length ≤ 100000
def SmP (p : PlM) : Prop := p.acts.length ≤ 400 ∧ ∀ a ∈ p.acts, SmA a
theorem smP_small {p : PlM} (h : SmP p) : SmallA p.p := by
  refine ⟨by show (p.acts.map AcM.p).length ≤ 400; rw [List.length_map]; exact h.1, fun a ha => ?_⟩
  obtain ⟨x, hx, rfl⟩ := List.mem_map.1 ha
  exact (h.2 x hx).data
structure AcT (T : Int) (a : AcM) : Prop where
  el : a.m.p.ents.length ≤ 100
  cl : a.m.p.conf.length ≤ 100
  d : min (a.data.length : Int) 1048576 ≤ T
  md : min (a.m.p.data.length : Int) 1048576 ≤ T
  ed : ∀ e ∈ a.m.p.ents, min (e.2.2.length : Int) 1048576 ≤ T
theorem AcT.mono {T T' : Int} {a : AcM} (h : AcT T a) (hT : T ≤ T') : AcT T' a := ⟨h.el, h.cl, by have := h.d; omega, by have := h.md; omega, fun e he => by have := h.ed e he; omega⟩
theorem AcT.sm {T : Int} {a : AcM} (h : AcT T a) (hT : T ≤ 32768) : SmA a := ⟨by have := h.d; omega, h.el, h.cl, by have := h.md; omega, fun e he => by have := h.ed e he; omega⟩
theorem rdAc_some {h : Heap} {a : Option Addr} {l : List AcM} {i : Nat} (r : RdS h a (acV l)) (hi : i < l.length) : ∃ ad, a = some ad := rec_some (C := acC) r acC_len (by decide) hi
theorem rdAc {F : Snap} {w : World} {H : List As} {a : Option Addr} {l : List AcM} {q i : Nat} {x : AcM} (hw : Hp F w H) (r : RdS F.heap a (acV l)) (h : q = 18 * i) (hi : i < l.length) (hx : x = l.getD i AcM0) : PeekC (hp w) (addO a q) (acC x) := by
  rw [hx]; exact rec_rdN (C := acC) (r.le hw.keep) acC_len (by decide) AcM0 h hi
theorem rdAc1 {F : Snap} {w : World} {H : List As} {a : Option Addr} {l : List AcM} {q i j : Nat} {v : Value} {x : AcM} (hw : Hp F w H) (r : RdS F.heap a (acV l)) (h : q = 18 * i + j) (hi : i < l.length) (hx : x = l.getD i AcM0) (hv : (acC x)[j]? = some v) : PeekC (hp w) (addO a q) [v] := by
  subst hx
  exact rec_rd1 (C := acC) (r.le hw.keep) acC_len AcM0 h hi hv
theorem rdAcM {F : Snap} {w : World} {H : List As} {a : Option Addr} {l : List AcM} {q i : Nat} {x : AcM} (hw : Hp F w H) (r : RdS F.heap a (acV l)) (h : q = 18 * i + 5) (hi : i < l.length) (hx : x = l.getD i AcM0) : PeekC (hp w) (addO a q) (mmC x.m) := by
  subst hx
  refine rec_rd (C := acC) (r.le hw.keep) acC_len AcM0 h hi (by simp) (fun k u hu => ?_)
  generalize l.getD i AcM0 = y at hu ⊢
  have e : acC y = [.int .i64 y.kind, .int .i64 y.n, .int .i64 y.i, .bool y.add, B y.data] ++ mmC y.m := rfl
  rw [e, List.getElem?_append_right (by show 5 ≤ 5 + k; omega), show 5 + k - [Value.int .i64 y.kind, .int .i64 y.n, .int .i64 y.i, .bool y.add, B y.data].length = k by show 5 + k - 5 = k; omega]
  exact hu
set_option maxRecDepth 16000 in
set_option maxHeartbeats 8000000 in
theorem great_ct (p : PlM) (hpc : p.acts.length ≤ p.pc) : Ct Tryz.prog 9 [plA p] (fun h => PlOk h p) [] (fun v A => (∃ b, v = .bool b ∧ (b = false → SmP p)) ∧ A = []) := by
  refine ct_enter 77 Tryz.func9 rfl rfl rfl ?_
  intro F hok
  obtain ⟨q1, hq1⟩ : ∃ q, q = decide ((400 : Int) < (p.acts.length : Nat)) := ⟨_, rfl⟩
  repeat refine y_ ?_
  refine g_region ?_
  refine gl_boxA rfl rfl ?_; intro g1
  refine f_ (s_assign rfl) ?_
  refine gl_nil ?_
  repeat refine y_ ?_
  refine g_region ?_
  refine f_ z_1 ?_
  refine r_ z_9 ?_
  refine f_ (s_len_sl rfl) ?_
  refine f_ ((s_gtr rfl rfl).eq (congrArg Value.bool hq1.symm)) ?_
  refine gl_nil ?_
  repeat refine y_ ?_
  cases q1
  rotate_left
  · repeat refine y_ ?_
    repeat refine y_ ?_
    refine g_region ?_
    refine f_ (s_assign rfl) ?_
    refine gl_nil ?_
    repeat refine y_ ?_
    refine g_ret ?_
    exact at_end1 rfl rfl [] ⟨⟨true, rfl, fun h => by cases h⟩, rfl⟩ (fun _ h => h.dropAll)
  have h400 : p.acts.length ≤ 400 := by have := of_decide_eq_false hq1.symm; omega
  repeat refine y_ ?_
  refine g_region ?_
  refine f_ (s_assign rfl) ?_
  refine gl_nil ?_
  repeat refine y_ ?_
  refine g_region ?_
  refine f_ (s_assign rfl) ?_
  refine gl_nil ?_
  repeat refine y_ ?_
  refine g_loop (ι := Nat × Int) (fun x => x.1 ≤ p.acts.length ∧ (0 ≤ x.2 ∧ x.2 ≤ (x.1 : Int) * 200000000) ∧ ∀ j, j < x.1 → AcT x.2 (p.acts.getD j AcM0)) (fun x => [(1, Ptr g1), (3, .int .i64 x.2), (4, .int .i64 (x.1 : Nat))]) (fun _ => [.blk g1 (.cells (plC p).toArray 25)]) (fun x => p.acts.length - x.1) (0, 0) ⟨Nat.zero_le _, ⟨Int.le_refl _, by show (0 : Int) ≤ ((0 : Nat) : Int) * 200000000; omega⟩, fun j hj => absurd hj (Nat.not_lt_zero _)⟩ ?_ ?_ ?_
  · (repeat (first | exact Sub.nil _ | refine Sub.cons rfl ?_))
  · intro w hw; exact hw
  rintro ⟨i, T⟩ ⟨hi, hT, hA⟩
  simp only at hi hT hA
  repeat refine y_ ?_
  refine g_region ?_
  refine m_ ?_
  refine f_ z_1 ?_
  refine r_ z_9 ?_
  refine f_ (s_len_sl rfl) ?_
  refine f_ (s_lss rfl rfl) ?_
  refine gl_nil ?_
  repeat refine y_ ?_
  refine g_cond rfl (fun h => ?_) (fun h => ?_)
  rotate_left
  · have hil : i = p.acts.length := by simp at h; omega
    repeat refine y_ ?_
    refine g_region ?_
    refine m_ ?_
    refine f_ (s_gtr rfl rfl) ?_
    refine f_ (s_assign rfl) ?_
    refine gl_nil ?_
    repeat refine y_ ?_
    refine g_ret ?_
    refine at_end1 rfl rfl [] ⟨⟨_, rfl, fun hb => ⟨h400, fun a ha => ?_⟩⟩, rfl⟩ (fun _ h => h.dropAll)
    obtain ⟨j, hj, rfl⟩ := List.mem_iff_getElem.1 ha
    have h1 := hA j (by omega)
    rw [List.getD_eq_getElem?_getD, List.getElem?_eq_getElem hj] at h1
    have hb2 := of_decide_eq_false hb
    exact AcT.sm h1 (by simp only at hb2; omega)
  have hil : i < p.acts.length := by simp at h; omega
  have hsome := rdAc_some hok.rd hil
  obtain ⟨a, ha⟩ : ∃ a, a = p.acts.getD i AcM0 := ⟨_, rfl⟩
  have ham : a ∈ p.acts := by rw [ha, List.getD_eq_getElem?_getD, List.getElem?_eq_getElem hil]; exact List.getElem_mem _
  have hmo := hok.m a ham
  repeat refine y_ ?_
  refine g_region ?_
  refine f_ z_1 ?_
  refine r_ z_9 ?_
  refine m_ ?_
  refine f_ ((s_indexAddr rfl hsome rfl (by show 0 ≤ (i : Int) ∧ (i : Int) < (p.acts.length : Nat); omega)).eq (v' := .pointer (addO p.pa (18 * i))) (by congr 2; show (i : Int).toNat * 18 = 18 * i; omega)) ?_
  refine f_ z_1 ?_
  refine r_ ((s_loadN (cs := mmC a.m) rfl (fun w hw => rdAcM hw hok.rd (i := i) rfl hil ha) rfl).eq (v' := mmA a.m) rfl) ?_
  refine gl_allocA rfl ?_; intro g5
  (first | refine gl_store_blkW rfl rfl z_6 z_10 z_10 z_2 ?_ | refine gl_store_blk rfl rfl z_6 z_10 z_2 z_10 ?_)
  refine gl_nil ?_
  repeat refine y_ ?_
  obtain ⟨q2, hq2⟩ : ∃ q, q = decide ((100 : Int) < (a.m.p.ents.length : Nat)) := ⟨_, rfl⟩
  obtain ⟨q3, hq3⟩ : ∃ q, q = decide ((100 : Int) < (a.m.p.conf.length : Nat)) := ⟨_, rfl⟩
  rcases (show (q2 = false ∧ q3 = false) ∨ q2 = true ∨ (q2 = false ∧ q3 = true) by cases q2 <;> cases q3 <;> simp) with ⟨rfl, rfl⟩ | rfl | ⟨rfl, rfl⟩
  rotate_left
  iterate 2
    · repeat refine y_ ?_
      refine g_region ?_
      refine f_ z_1 ?_
      refine r_ (by first | exact s_load_blk rfl z_3 a13_8 | exact s_load1 rfl (fun w hw => peekB hw (by assumption) a13_8)) ?_
      refine f_ (s_len_sl rfl) ?_
      refine f_ ((s_gtr rfl rfl).eq (congrArg Value.bool hq2.symm)) ?_
      refine m_ ?_
      (first|refine u_ ?_|(refine v_ ?_; refine f_ z_1 ?_))
      (first|refine u_ ?_|(refine v_ ?_; refine r_ (by first | exact s_load_blk rfl z_3 a13_9 | exact s_load1 rfl (fun w hw => peekB hw (by assumption) a13_9)) ?_))
      (first|refine u_ ?_|(refine v_ ?_; refine f_ (s_len_sl rfl) ?_))
      (first|refine u_ ?_|(refine v_ ?_; refine f_ ((s_gtr rfl rfl).eq (congrArg Value.bool hq3.symm)) ?_))
      refine f_ z_8 ?_
      refine gl_nil ?_
      repeat refine y_ ?_
      refine g_region ?_
      refine f_ (s_assign rfl) ?_
      refine gl_nil ?_
      repeat refine y_ ?_
      refine g_ret ?_
      exact at_end1 rfl rfl [] ⟨⟨true, rfl, fun h => by cases h⟩, rfl⟩ (fun _ h => h.dropAll)
  have n2 : a.m.p.ents.length ≤ 100 := by have := of_decide_eq_false hq2.symm; omega
  have n3 : a.m.p.conf.length ≤ 100 := by have := of_decide_eq_false hq3.symm; omega
  have hi2 : (i : Int) * 200000000 ≤ 80000000000 := by omega
  obtain ⟨f1, hf1⟩ : ∃ f, f = min (a.data.length : Int) 1048576 := ⟨_, rfl⟩
  obtain ⟨f2, hf2⟩ : ∃ f, f = min (a.m.p.data.length : Int) 1048576 := ⟨_, rfl⟩
  have hf1r : 0 ≤ f1 ∧ f1 ≤ 1048576 := by omega
  have hf2r : 0 ≤ f2 ∧ f2 ≤ 1048576 := by omega
  repeat refine y_ ?_
  refine g_region ?_
  refine f_ z_1 ?_
  refine r_ (by first | exact s_load_blk rfl z_3 a13_8 | exact s_load1 rfl (fun w hw => peekB hw (by assumption) a13_8)) ?_
  refine f_ (s_len_sl rfl) ?_
  refine f_ ((s_gtr rfl rfl).eq (congrArg Value.bool hq2.symm)) ?_
  refine m_ ?_
  (first|refine u_ ?_|(refine v_ ?_; refine f_ z_1 ?_))
  (first|refine u_ ?_|(refine v_ ?_; refine r_ (by first | exact s_load_blk rfl z_3 a13_9 | exact s_load1 rfl (fun w hw => peekB hw (by assumption) a13_9)) ?_))
  (first|refine u_ ?_|(refine v_ ?_; refine f_ (s_len_sl rfl) ?_))
  (first|refine u_ ?_|(refine v_ ?_; refine f_ ((s_gtr rfl rfl).eq (congrArg Value.bool hq3.symm)) ?_))
  refine f_ z_8 ?_
  refine gl_nil ?_
  repeat refine y_ ?_
  refine g_draw ([2, 6, 11, 16, 21], [0, 0, 2, 0, 14, 30, 62, 126, 254, 511, 0, 1024, 3072, 7678, 16383, 0, 32768, 98304, 229376, 524287, 0, 1048576, 3145728, 8388607, 16777215], [8, 13]) [.blk g1 (.cells (plC p).toArray 25), blkMsg g5 a.m] 25 rfl ?_
  refine w_ 0 rfl (s_move rfl) ?_
  refine w_ 1 rfl z_1 ?_
  (first | refine ga_read_k 2 rfl z_5 (s_load_blk rfl .del z_10) (by (first | exact fun _ h => h | (repeat first | exact sub_nil | refine sub_cons z_4 ?_))) rfl rfl rfl z_7 ?_ | refine ga_readF 2 rfl (s_load1 rfl (fun w hw => peekB hw (by assumption) z_10)) (by (first | exact fun _ h => h | (repeat first | exact sub_nil | refine sub_cons z_4 ?_))) rfl rfl rfl z_7 ?_)
  refine w_ 3 rfl (s_move rfl) ?_
  refine w_ 4 rfl ((s_indexAddr rfl hsome rfl (by show 0 ≤ (i : Int) ∧ (i : Int) < (p.acts.length : Nat); omega)).eq (v' := .pointer (addO p.pa (18 * i))) (by congr 2; show (i : Int).toNat * 18 = 18 * i; omega)) ?_
  refine w_ 5 rfl z_1 ?_
  refine ga_readF 6 rfl (s_load1 (v := B a.data) rfl (fun w hw => rdAc1 hw hok.rd (i := i) (j := 4) rfl hil ha rfl)) (by (first | exact fun _ h => h | (repeat first | exact sub_nil | refine sub_cons z_4 ?_))) rfl rfl rfl z_7 ?_
  refine w_ 7 rfl (s_len_str rfl) ?_
  refine w_ 10 rfl z_1 ?_
  (first | refine ga_read_k 11 rfl z_5 (s_load_blk rfl .del a13_12) (by (first | exact fun _ h => h | (repeat first | exact sub_nil | refine sub_cons z_4 ?_))) rfl rfl rfl z_7 ?_ | refine ga_readF 11 rfl (s_load1 rfl (fun w hw => peekB hw (by assumption) a13_12)) (by (first | exact fun _ h => h | (repeat first | exact sub_nil | refine sub_cons z_4 ?_))) rfl rfl rfl z_7 ?_)
  refine w_ 12 rfl (s_len_str rfl) ?_
  refine w_ 15 rfl z_1 ?_
  (first | refine ga_read_k 16 rfl z_5 (s_load_blk rfl .del a13_8) (by (first | exact fun _ h => h | (repeat first | exact sub_nil | refine sub_cons z_4 ?_))) rfl rfl rfl z_7 ?_ | refine ga_readF 16 rfl (s_load1 rfl (fun w hw => peekB hw (by assumption) a13_8)) (by (first | exact fun _ h => h | (repeat first | exact sub_nil | refine sub_cons z_4 ?_))) rfl rfl rfl z_7 ?_)
  refine w_ 17 rfl (s_len_sl rfl) ?_
  refine w_ 18 rfl (s_mul_i64 rfl rfl (by omega)) ?_
  refine w_ 20 rfl z_1 ?_
  (first | refine ga_read_k 21 rfl z_5 (s_load_blk rfl .del a13_9) (by (first | exact fun _ h => h | (repeat first | exact sub_nil | refine sub_cons z_4 ?_))) rfl rfl rfl z_7 ?_ | refine ga_readF 21 rfl (s_load1 rfl (fun w hw => peekB hw (by assumption) a13_9)) (by (first | exact fun _ h => h | (repeat first | exact sub_nil | refine sub_cons z_4 ?_))) rfl rfl rfl z_7 ?_)
  refine w_ 22 rfl (s_len_sl rfl) ?_
  refine ga_one 8 rfl z_7 ?_
  refine gl_callp rfl (few_ct _) (fun _ _ _ => trivial) rfl ?_; rw [← hf1]
  refine gl_nil ?_
  refine at_ga (.inr (by exact keeps_of (by (first | exact fun _ h => h | (repeat first | exact sub_nil | refine sub_cons z_4 ?_))))) ?_
  refine w_ 9 rfl (s_add_i64 rfl rfl (by show -9223372036854775808 ≤ T + f1 ∧ T + f1 ≤ 9223372036854775807; omega)) ?_
  refine ga_one 13 rfl z_7 ?_
  refine gl_callp rfl (few_ct _) (fun _ _ _ => trivial) rfl ?_; rw [← hf2]
  refine gl_nil ?_
  refine at_ga (.inr (by exact keeps_of (by (first | exact fun _ h => h | (repeat first | exact sub_nil | refine sub_cons z_4 ?_))))) ?_
  refine w_ 14 rfl (s_add_i64 rfl rfl (by show -9223372036854775808 ≤ T + f1 + f2 ∧ T + f1 + f2 ≤ 9223372036854775807; omega)) ?_
  refine w_ 19 rfl (s_add_i64 rfl rfl (by show -9223372036854775808 ≤ T + f1 + f2 + (a.m.p.ents.length : Int) * 8 ∧ T + f1 + f2 + (a.m.p.ents.length : Int) * 8 ≤ 9223372036854775807; omega)) ?_
  refine w_ 23 rfl (s_add_i64 rfl rfl (by show -9223372036854775808 ≤ T + f1 + f2 + (a.m.p.ents.length : Int) * 8 + (a.m.p.conf.length : Int) ∧ T + f1 + f2 + (a.m.p.ents.length : Int) * 8 + (a.m.p.conf.length : Int) ≤ 9223372036854775807; omega)) ?_
  refine w_ 24 rfl (s_assign rfl) ?_
  refine ga_done z_7 ?_
  repeat refine y_ ?_
  obtain ⟨T1, hT1⟩ : ∃ T1, T1 = T + f1 + f2 + (a.m.p.ents.length : Int) * 8 + (a.m.p.conf.length : Int) := ⟨_, rfl⟩
  repeat refine y_ ?_
  refine g_region ?_
  refine f_ (s_assign rfl) ?_
  refine gl_nil ?_
  repeat refine y_ ?_
  refine g_loop (ι := Nat × Int) (fun x => x.1 ≤ a.m.p.ents.length ∧ (T1 ≤ x.2 ∧ x.2 ≤ T1 + (x.1 : Int) * 1048576) ∧ ∀ j, j < x.1 → min ((a.m.p.ents.getD j E0).2.2.length : Int) 1048576 ≤ x.2) (fun x => [(1, Ptr g1), (3, .int .i64 x.2), (4, .int .i64 (i : Nat)), (5, Ptr g5), (6, .int .i64 (x.1 : Nat))]) (fun _ => [.blk g1 (.cells (plC p).toArray 25), blkMsg g5 a.m]) (fun x => a.m.p.ents.length - x.1) (0, T1) ⟨Nat.zero_le _, ⟨Int.le_refl _, by show T1 ≤ T1 + ((0 : Nat) : Int) * 1048576; omega⟩, fun j hj => absurd hj (Nat.not_lt_zero _)⟩ ?_ ?_ ?_
  · rw [hT1]; (repeat (first | exact Sub.nil _ | refine Sub.cons rfl ?_))
  · intro w hw; exact hw.perm (perm_up z_3 (perm_up z_3 (.refl _)))
  rintro ⟨k, T2⟩ ⟨hk, hT2, hB⟩
  simp only at hk hT2 hB
  repeat refine y_ ?_
  refine g_region ?_
  refine m_ ?_
  refine f_ z_1 ?_
  refine r_ (by first | exact s_load_blk rfl z_3 a13_8 | exact s_load1 rfl (fun w hw => peekB hw (by assumption) a13_8)) ?_
  refine f_ (s_len_sl rfl) ?_
  refine f_ (s_lss rfl rfl) ?_
  refine gl_nil ?_
  repeat refine y_ ?_
  refine g_cond rfl (fun h2 => ?_) (fun h2 => ?_)
  · have hkl : k < a.m.p.ents.length := by simp at h2; omega
    have hsome2 := rdE_some hmo.e hkl
    obtain ⟨f3, hf3⟩ : ∃ f, f = min ((a.m.p.ents.getD k E0).2.2.length : Int) 1048576 := ⟨_, rfl⟩
    have hf3r : 0 ≤ f3 ∧ f3 ≤ 1048576 := by omega
    repeat refine y_ ?_
    refine g_region ?_
    refine m_ ?_
    refine f_ z_1 ?_
    refine r_ (by first | exact s_load_blk rfl z_3 a13_8 | exact s_load1 rfl (fun w hw => peekB hw (by assumption) a13_8)) ?_
    refine m_ ?_
    refine f_ ((s_indexAddr rfl hsome2 rfl (by show 0 ≤ (k : Int) ∧ (k : Int) < (a.m.p.ents.length : Nat); omega)).eq (v' := .pointer (addO a.m.ea (3 * k))) (by congr 2; show (k : Int).toNat * 3 = 3 * k; omega)) ?_
    refine f_ z_1 ?_
    refine r_ (s_load1 (v := B (a.m.p.ents.getD k E0).2.2) rfl (fun w hw => rdE2 hw hmo.e (i := k) rfl hkl)) ?_
    refine f_ (s_len_str rfl) ?_
    refine gl_callp rfl (few_ct _) (fun _ _ _ => trivial) rfl ?_; rw [← hf3]
    refine f_ (s_add_i64 rfl rfl (by show -9223372036854775808 ≤ T2 + f3 ∧ T2 + f3 ≤ 9223372036854775807; omega)) ?_
    refine f_ (s_assign rfl) ?_
    refine gl_nil ?_
    repeat refine y_ ?_
    refine g_region ?_
    refine m_ ?_
    refine f_ (s_add_i64 rfl rfl (by omega)) ?_
    refine f_ (s_assign rfl) ?_
    refine gl_nil ?_
    repeat refine y_ ?_
    refine at_next (k + 1, T2 + f3) ⟨by simp only; omega, ⟨by simp only; omega, by simp only; omega⟩, fun j hj => ?_⟩ (by simp only; omega) ?_ ?_
    · rcases Nat.lt_succ_iff_lt_or_eq.1 hj with h4 | rfl
      · have := hB j h4; simp only; omega
      · simp only; omega
    · (repeat (first | exact Sub.nil _ | refine Sub.cons rfl ?_))
    · intro w hw; exact hw
  have hkl : k = a.m.p.ents.length := by simp at h2; omega
  subst hkl
  repeat refine y_ ?_
  refine g_region ?_
  refine m_ ?_
  refine f_ (s_add_i64 rfl rfl (by omega)) ?_
  refine f_ (s_assign rfl) ?_
  refine gl_nil ?_
  repeat refine y_ ?_
  refine at_next (i + 1, T2) ⟨by simp only; omega, ⟨by simp only; omega, by simp only; omega⟩, fun j hj => ?_⟩ (by simp only; omega) ?_ ?_
  · rcases Nat.lt_succ_iff_lt_or_eq.1 hj with h4 | rfl
    · exact AcT.mono (hA j h4) (by simp only; omega)
    · rw [← ha]
      refine ⟨n2, n3, by rw [← hf1]; simp only; omega, by rw [← hf2]; simp only; omega, fun e he => ?_⟩
      obtain ⟨j, hj, rfl⟩ := List.mem_iff_getElem.1 he
      have := hB j hj
      rwa [List.getD_eq_getElem?_getD, List.getElem?_eq_getElem hj] at this
  · (repeat (first | exact Sub.nil _ | refine Sub.cons rfl ?_))
  · intro w hw; exact Hp.left (R := [blkMsg g5 a.m]) hw
end Go.Proofs.YtodcghipfolejaaGreat.Rf
