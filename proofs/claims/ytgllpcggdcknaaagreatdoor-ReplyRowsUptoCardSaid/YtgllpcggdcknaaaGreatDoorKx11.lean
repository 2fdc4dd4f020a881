import Derived.Test.YtgllpcggdcknaaaGreatDoorKx10
import Derived.Test.YtgllpcggdcknaaaGreatDoorKx2
import Derived.Carry
import Derived.ChangeSame
import Derived.OpenShut
import Derived.SizedLaws
import Derived.JoinedCond
import Derived.JoinedOf
import Derived.Deep.CondSized
import Derived.ChangeMaps5
import Derived.SliceStrings
import Derived.Test.YtgllpcggdcknaaaGreatDoorRows
import Derived.Test.YtgllpcggdcknaaaGreatDoorKx5
import Derived.WalkKit
import Derived.ProofKit
import Derived.MakeChecks
import Derived.Lib.LaidTab
import Derived.Stop.LaidErr
import Derived.Deep.DeepLaidRun
import Derived.Deep.DeepHandedRow
import Derived.Deep.DeepWitnessRowRef
set_option linter.unusedVariables false
set_option linter.unusedSimpArgs false
namespace Go.Proofs.YtgllpcggdcknaaaGreatDoor.Rp
open Go Go.Sl Go.RowKit
def okM (l : List RM) : List RM := l.filter fun m => okR m.r
def txts (l : List RM) : Bs := l.flatMap fun m => textP m.r ++ crlf
def gotH (l : List RM) : List As := l.flatMap fun m => rrH m.r m.x
theorem txts_app (a b : List RM) : txts (a ++ b) = txts a ++ txts b := List.flatMap_append
theorem txts_one (m : RM) : txts [m] = textP m.r ++ crlf := by simp [txts]
theorem gotH_app (a b : List RM) : gotH (a ++ b) = gotH a ++ gotH b := List.flatMap_append
theorem gotH_one (m : RM) : gotH [m] = rrH m.r m.x := by simp [gotH]
theorem okM_succ {l : List RM} {i : Nat} (hi : i < l.length) : okM (l.take (i + 1)) = okM (l.take i) ++ (if okR (l.getD i RM0).r = true then [l.getD i RM0] else []) := by
 have e : l.take (i + 1) = l.take i ++ [l.getD i RM0] := by
  rw [List.take_add_one, List.getD_eq_getElem?_getD, List.getElem?_eq_getElem hi]
  rfl
 unfold okM
 rw [e, List.filter_append, List.filter_cons, List.filter_nil]
theorem okM_len (l : List RM) (i : Nat) : (txts (okM (l.take i))).length ≤ (txts (okM l)).length := by
 have e : okM l = okM (l.take i) ++ okM (l.drop i) := by
  unfold okM
  rw [← List.filter_append, List.take_append_drop]
 rw [e, txts_app, List.length_append]
 omega
theorem okM_size (l : List RM) (i : Nat) : (okM (l.take i)).length ≤ i := by
 have h1 := List.length_filter_le (fun m : RM => okR m.r) (l.take i)
 rw [List.length_take] at h1
 unfold okM
 omega
theorem txts_drop {l : List RM} {j : Nat} (hj : j < l.length) : txts (l.drop j) = (textP (l.getD j RM0).r ++ crlf) ++ txts (l.drop (j + 1)) := by
 rw [List.drop_eq_getElem_cons hj, List.getD_eq_getElem?_getD, List.getElem?_eq_getElem hj]
 rfl
theorem txts_dropl (l : List RM) (j : Nat) : (txts (l.drop j)).length ≤ (txts l).length := by
 have e := txts_app (l.take j) (l.drop j)
 rw [List.take_append_drop] at e
 rw [e, List.length_append]
 omega
theorem rmr_own {l : List RM} {a : Option Addr} {n c : Nat} {h : Heap} {bs : List Nat} {H : List As} (hs : Sat h H bs) (hm : As.own (.slice a n c) 27 10 (rmV l) ∈ H) (hv : ∀ m ∈ l, m.r.values = m.x.vs.map VM.v) (hg : ∀ y ∈ gotH l, y ∈ H) : RmR l a h :=
 ⟨rd_of_own hs hm, fun m hm' => RRd.of_own (hv m hm') hs fun y hy => hg y (List.mem_flatMap.mpr ⟨m, hm', hy⟩)⟩
set_option maxRecDepth 8000 in
theorem ReplyRows_ct (l : List RM) (a : Option Addr) (c : Nat) (hl : l.length ≤ 1000000000) (hz : ∀ m ∈ l, SzW m.r) (hc : ∀ m ∈ l, CapL m.r m.x) (hv : ∀ m ∈ l, m.r.values = m.x.vs.map VM.v) (ht : ∀ m ∈ l, (textP m.r).length < 4294967279) (hN : (txts (okM l)).length < 4294967281) : Pu Tryz.prog 7 [.slice a l.length c] (fun h => Gl h ∧ RmR l a h) (.bool true) := by
 refine ct_enter 79 Tryz.func7 rfl rfl rfl ?_
 intro F hh
 have hg := hh.1
 have hrm := hh.2
 repeat refine x_ ?_
 refine a_ ?_
 repeat refine x_ ?_
 refine gl_callp rfl alive_ct (fun h hh hb => hg.le hh) rfl ?_
 refine f_ (s_not rfl) ?_
 repeat refine x_ ?_
 refine a_ ?_
 repeat refine x_ ?_
 refine a_ ?_
 repeat refine x_ ?_
 refine a_ ?_
 repeat refine n_ ?_
 refine g_own_nil 27 10 ?_
 refine g_loop (ι := Nat × Option Addr × Nat) (fun i => i.1 ≤ l.length) (fun i => [(0, .slice a l.length c), (3, B (txts (okM (l.take i.1)))), (4, .slice i.2.1 (okM (l.take i.1)).length i.2.2), (5, .int .i64 (i.1 : Nat))]) (fun i => [.own (.slice i.2.1 (okM (l.take i.1)).length i.2.2) 27 10 (rmV (okM (l.take i.1)))]) (fun i => l.length - i.1) (0, none, 0) z_8 ?_ ?_ ?_
 ·(repeat (first | exact Sub.nil _ | refine Sub.cons rfl ?_))
 ·intro w hw; exact hw
 rintro ⟨i, b, d⟩ hi
 simp only at hi
 have hs1 := okM_len l i
 have hs2 := okM_size l i
 obtain ⟨W, hW⟩ : ∃ W, W = okM (l.take i) := ⟨_, rfl⟩
 rw [← hW] at hs1 hs2 ⊢
 repeat refine x_ ?_
 refine m_ ?_
 refine m_ ?_
 refine f_ (s_len_sl rfl) ?_
 refine f_ (s_lss rfl rfl) ?_
 repeat refine n_ ?_
 refine g_cond rfl (fun h => ?_) (fun h => ?_)
 ·have hi' : i < l.length := by simp at h; omega
  have hsa := rdRM_some hrm.r hi'
  have hsu := okM_succ hi'
  have hs3 := okM_len l (i + 1)
  rw [← hW] at hsu
  obtain ⟨u, hue⟩ : ∃ u, u = l.getD i RM0 := ⟨_, rfl⟩
  have hum : u ∈ l := by rw [hue]; exact getRM_mem hi'
  rw [← hue] at hsu
  have hru := hrm.m u hum
  have c9 := Print_ct u.r u.x (hz u hum) (hc u hum) (hv u hum) (ht u hum)
  rw [write_eq] at c9
  unfold writeV at c9
  by_cases hok : okR u.r = true
  ·rw [if_pos hok] at c9 hsu
   simp only [Option.getD_some, Option.isSome_some, if_true] at c9
   rw [hsu, txts_app, txts_one, List.length_append] at hs3
   have hrv : rmV (W ++ [u]) = rmV W ++ rmV [u] := rmV_append _ _
   repeat refine x_ ?_
   refine m_ ?_
   refine m_ ?_
   refine f_ (s_indexAddr rfl (by assumption) rfl (by omega)) ?_
   refine r_ (s_loadN (cs := rmC u) rfl (fun w hw => by rw [hue]; exact rdRM hw hrm.r (i := i) (by omega) hi') rfl) ?_
   refine gl_callp rfl c9 (fun h hh hb => ⟨hg.le hh, hru.le hh⟩) rfl ?_
   refine m_ ?_
   refine f_ (s_extract rfl rfl) ?_
   refine f_ (s_extract rfl rfl) ?_
   refine a_ ?_
   refine a_ ?_
   repeat refine x_ ?_
   refine m_ ?_
   refine f_ ((s_eql rfl rfl).eq (v' := .bool true) rfl) ?_
   repeat refine x_ ?_
   refine m_ ?_
   refine m_ ?_
   refine f_ ((s_add_str rfl rfl (by simp only [List.length_append] at hs3 ⊢; omega)).eq (v' := B (txts (W ++ [u]))) (by rw [txts_app, txts_one])) ?_
   refine a_ ?_
   repeat refine x_ ?_
   refine m_ ?_
   refine m_ ?_
   refine m_ ?_
   refine f_ (s_indexAddr rfl (by assumption) rfl (by omega)) ?_
   refine r_ (s_loadN (cs := rmC u) rfl (fun w hw => by rw [hue]; exact rdRM hw hrm.r (i := i) (by omega) hi') rfl) ?_
   refine gl_buildSliceU rfl rfl rfl rfl rfl rfl (xs := rmV [u]) rfl rfl ?_; intro a39 ha39
   refine gl_append rfl rfl (fun a' c' => .there .here) (fun w hw => (hw.ownN z_3).2.2.1) rfl rfl rfl (rmV_one _) (by show (W.length + 1) * 160 ≤ _; omega) (by omega) rfl ?_; intro a5 c5 hc5
   refine a_ ?_
   repeat refine x_ ?_
   refine m_ ?_
   refine f_ ((s_add_i64 rfl rfl (by omega)).eq (v' := .int .i64 ((i + 1 : Nat) : Int)) (by congr 1)) ?_
   refine a_ ?_
   repeat refine n_ ?_
   refine at_next (i + 1, a5, c5) (by simp only; omega) (by simp only; omega) ?_ ?_
   ·simp only
    rw [hsu, List.length_append, List.length_singleton]
    (repeat (first | exact Sub.nil _ | refine Sub.cons rfl ?_))
   ·intro w hw
    simp only
    rw [hsu, hrv, List.length_append]
    exact hw.drop
  ·rw [if_neg hok] at c9 hsu
   rw [List.append_nil] at hsu
   simp only [Option.getD_none, Option.isSome_none] at c9
   repeat refine x_ ?_
   refine m_ ?_
   refine m_ ?_
   refine f_ (s_indexAddr rfl (by assumption) rfl (by omega)) ?_
   refine r_ (s_loadN (cs := rmC u) rfl (fun w hw => by rw [hue]; exact rdRM hw hrm.r (i := i) (by omega) hi') rfl) ?_
   refine gl_callp rfl c9 (fun h hh hb => ⟨hg.le hh, hru.le hh⟩) rfl ?_
   refine m_ ?_
   refine f_ (s_extract rfl rfl) ?_
   refine f_ (s_extract rfl rfl) ?_
   refine a_ ?_
   refine a_ ?_
   repeat refine x_ ?_
   refine m_ ?_
   refine f_ ((s_eql rfl rfl).eq (v' := .bool false) rfl) ?_
   repeat refine x_ ?_
   refine m_ ?_
   refine f_ ((s_add_i64 rfl rfl (by omega)).eq (v' := .int .i64 ((i + 1 : Nat) : Int)) (by congr 1)) ?_
   refine a_ ?_
   repeat refine n_ ?_
   refine at_next (i + 1, b, d) (by simp only; omega) (by simp only; omega) ?_ ?_
   ·simp only
    rw [hsu]
    (repeat (first | exact Sub.nil _ | refine Sub.cons rfl ?_))
   ·intro w hw
    simp only
    rw [hsu]
    exact hw
 have hil : i = l.length := by simp at h; omega
 subst hil
 rw [List.take_length] at hW
 have hWl : ∀ u ∈ W, u ∈ l ∧ okR u.r = true := fun u hu => by
  rw [hW] at hu
  exact List.mem_filter.1 hu
 rw [← hW] at hN
 clear hW hs1
 repeat refine x_ ?_
 refine a_ ?_
 repeat refine x_ ?_
 refine a_ ?_
 repeat refine n_ ?_
 refine g_own_nil 27 10 ?_
 refine g_loop (ι := Nat × Option Addr × Nat × List RM) (fun i => i.1 ≤ W.length ∧ i.2.2.2.map RM.r = (W.take i.1).map RM.r ∧ (∀ m ∈ i.2.2.2, m.r.values = m.x.vs.map VM.v) ∧ i.2.2.2.length = i.1) (fun i => [(3, B (txts (W.drop i.1))), (4, .slice b W.length d), (8, .slice i.2.1 i.2.2.2.length i.2.2.1), (9, .int .i64 (i.1 : Nat))]) (fun i => .own (.slice i.2.1 i.2.2.2.length i.2.2.1) 27 10 (rmV i.2.2.2) :: .own (.slice b W.length d) 27 10 (rmV W) :: gotH i.2.2.2) (fun i => W.length - i.1) (0, none, 0, []) ⟨Nat.zero_le _, by simp, (fun m hm => nomatch hm), rfl⟩ ?_ ?_ ?_
 ·simp only [List.drop_zero]
  (repeat (first | exact Sub.nil _ | refine Sub.cons rfl ?_))
 ·intro w hw; exact hw
 rintro ⟨j, a', c', got⟩ ⟨hj, hgm, hgv, hgl⟩
 simp only at hj hgm hgv hgl
 have hdl := txts_dropl W j
 repeat refine x_ ?_
 refine m_ ?_
 refine m_ ?_
 refine f_ (s_len_sl rfl) ?_
 refine f_ (s_lss rfl rfl) ?_
 repeat refine n_ ?_
 refine g_cond rfl (fun h => ?_) (fun h => ?_)
 ·have hj' : j < W.length := by simp at h; omega
  have hdr := txts_drop hj'
  have htm : (W.take (j + 1)).map RM.r = (W.take j).map RM.r ++ [(W.getD j RM0).r] := by
   have e : W.take (j + 1) = W.take j ++ [W.getD j RM0] := by
    rw [List.take_add_one, List.getD_eq_getElem?_getD, List.getElem?_eq_getElem hj']
    rfl
   rw [e, List.map_append]
   rfl
  obtain ⟨u, hue⟩ : ∃ u, u = W.getD j RM0 := ⟨_, rfl⟩
  have hum : u ∈ W := by rw [hue]; exact getRM_mem hj'
  rw [← hue] at hdr htm
  have hok := (hWl u hum).2
  rw [hdr] at hdl ⊢
  obtain ⟨rest, hrest⟩ : ∃ t, t = txts (W.drop (j + 1)) := ⟨_, rfl⟩
  rw [← hrest] at hdr hdl ⊢
  have c12 := Read_ct ((textP u.r ++ crlf) ++ rest) (by omega)
  rw [read_B hok rest] at c12
  unfold ReadW at c12
  simp only [Option.getD_some, Option.isSome_some, if_true] at c12
  obtain ⟨T, hT⟩ : ∃ T, T = textP u.r ++ crlf := ⟨_, rfl⟩
  have hT2 : 2 ≤ T.length := by rw [hT, List.length_append]; show 2 ≤ _ + 2; omega
  rw [← hT] at c12 hdl ⊢
  rw [List.length_append] at hdl
  repeat refine x_ ?_
  refine m_ ?_
  refine gl_call _ rfl c12 i_ (fun h hh hb => hg.le hh) rfl ?_; rintro v A ⟨y, hy, rfl, rfl⟩; refine gl_pull (H' := .own (.slice a' got.length c') 27 10 (rmV got) :: .own (.slice b W.length d) 27 10 (rmV W) :: (gotH got ++ rrH u.r y)) (fun w hw => hw.perm List.perm_append_comm) ?_
  refine m_ ?_
  refine f_ (s_extract rfl rfl) ?_
  refine f_ (s_extract rfl rfl) ?_
  refine f_ (s_extract rfl rfl) ?_
  refine gl_allocA rfl ?_; intro g10
  (refine gl_store_blkW rfl rfl z_6 z_7 z_7 z_2 ?_)
  refine a_ ?_
  refine a_ ?_
  repeat refine x_ ?_
  refine m_ ?_
  refine f_ ((s_neq rfl rfl).eq (v' := .bool false) rfl) ?_
  refine m_ ?_
  (refine v_ ?_; refine m_ ?_)
  (refine v_ ?_; refine f_ ((s_lss rfl rfl).eq (v' := .bool false) (congrArg Value.bool (decide_eq_false (by omega)))) ?_)
  refine f_ (by exact s_pick_f rfl rfl) ?_
  refine m_ ?_
  (refine v_ ?_; refine m_ ?_)
  (refine v_ ?_; refine m_ ?_)
  (refine v_ ?_; refine f_ (s_len_str rfl) ?_)
  (refine v_ ?_; refine f_ ((s_gtr rfl rfl).eq (v' := .bool false) (congrArg Value.bool (decide_eq_false (by simp only [List.length_append]; omega)))) ?_)
  refine f_ (by exact s_pick_f rfl rfl) ?_
  repeat refine n_ ?_
  have hrv : rmV (got ++ [⟨u.r, y⟩]) = rmV got ++ rmV [⟨u.r, y⟩] := rmV_append _ _
  repeat refine x_ ?_
  refine m_ ?_
  refine r_ ((s_load_blkW rfl z_3 z_7).eq (v' := rrA u.r y) rfl) ?_
  refine gl_buildSliceU rfl rfl rfl rfl rfl rfl (xs := rmV [⟨u.r, y⟩]) rfl rfl ?_; intro a39 ha39
  refine gl_append rfl rfl (fun a' c' => .there (.there .here)) (fun w hw => (hw.ownN z_3).2.2.1) rfl rfl rfl (rmV_one _) (by show (got.length + 1) * 160 ≤ _; omega) (by show got.length + 1 ≤ _; omega) rfl ?_; intro a5 c5 hc5
  refine a_ ?_
  repeat refine x_ ?_
  refine m_ ?_
  refine m_ ?_
  refine f_ ((s_slice_str rfl rfl rfl (by simp only [List.length_append]; omega)).eq (v' := B rest) (by simp only [Int.toNat_natCast]; rw [List.drop_left, List.take_of_length_le (by rw [List.length_append]; omega)])) ?_
  refine a_ ?_
  repeat refine x_ ?_
  refine m_ ?_
  refine f_ ((s_add_i64 rfl rfl (by omega)).eq (v' := .int .i64 ((j + 1 : Nat) : Int)) (by congr 1)) ?_
  refine a_ ?_
  repeat refine n_ ?_
  refine at_next (j + 1, a5, c5, got ++ [⟨u.r, y⟩]) ⟨by simp only; omega, by simp only; rw [htm, List.map_append, hgm]; rfl, fun m hm => ?_, by simp only [List.length_append, List.length_singleton]; omega⟩ (by simp only; omega) ?_ ?_
  ·rcases List.mem_append.1 hm with h1 | h1
   ·exact hgv m h1
   ·rw [List.mem_singleton.1 h1]; exact hy
  ·simp only [List.length_append, List.length_singleton]
   rw [← hrest]
   (repeat (first | exact Sub.nil _ | refine Sub.cons rfl ?_))
  ·intro w hw
   simp only
   rw [hrv, gotH_app, gotH_one, List.length_append]
   exact hw.drop.drop
 have hjl : j = W.length := by simp at h; omega
 subst hjl
 rw [List.take_length] at hgm
 have hcz : ∀ q ∈ got, SzC q.r := fun q hq => by
  have h1 : q.r ∈ W.map RM.r := by rw [← hgm]; exact List.mem_map.mpr ⟨q, hq, rfl⟩
  obtain ⟨u, hu, hr⟩ := List.mem_map.1 h1
  rw [← hr]
  exact (hz u (hWl u hu).1).sz.c
 have csa := SameAll_ct got W a' b c' d (by omega) hcz
 rw [decide_eq_true hgm] at csa
 rw [List.drop_length]
 repeat refine x_ ?_
 refine m_ ?_
 refine f_ ((s_eql_str rfl rfl).eq (v' := .bool true) rfl) ?_
 refine m_ ?_
 (refine v_ ?_; refine m_ ?_)
 (refine v_ ?_; refine m_ ?_)
 (refine v_ ?_; refine gl_callp rfl csa (fun h hh hb => ⟨by obtain ⟨bs, hb⟩ := hb; exact rmr_own hb (.head _) hgv (fun y hy => .tail _ (.tail _ hy)), ⟨by obtain ⟨bs, hb⟩ := hb; exact rd_of_own hb (.tail _ (.head _)), fun m hm => (hrm.m m (hWl m hm).1).le hh⟩⟩) rfl ?_)
 refine f_ (by exact s_pick_t rfl rfl) ?_
 refine a_ ?_
 repeat refine n_ ?_
 refine g_ret ?_
 exact at_end1 rfl rfl [] ⟨rfl, rfl⟩ (fun w hw => hw.dropAll)
end Go.Proofs.YtgllpcggdcknaaaGreatDoor.Rp
namespace Go.Sl
open Go Go.RowKit Go.WideShapes Go.ChangeShapes Go.ChangeMaps
theorem Hp.below {W w' : World} {A : List As} (h : Hp (snap W) w' A) : Below W.heap.size W w' := by
 have hk : ∀ k, k < W.heap.size → w'.heap[k]? = W.heap[k]? := fun k hk => by
  have e : W.heap[k]? = some W.heap[k] := Array.getElem?_eq_getElem hk
  rw [e]
  exact h.keep k _ (by show hpBut W [] k = _; rw [hpBut_nil]; exact e)
 refine ⟨h.os, h.tape, h.output, ?_, hk⟩
 rcases Nat.lt_or_ge w'.heap.size W.heap.size with hlt | hge
 ·have h1 := hk w'.heap.size hlt
  rw [Array.getElem?_eq_getElem hlt] at h1
  simp at h1
 ·exact hge
section
variable {H : Type} {enc : TypeId × Value → H} {P : Program}
theorem law_post {f : Func} {s : ChangeSpec} {apart fresh handsOn again : Bool} {W W' : World} {args : Array Value} {v : Value} {ds gs : List (DataW H)} {before pa pv : List MemPlace}
  (hW : DataW.Whole enc P f.params.toList s.vars apart W args.toList ds gs before)
  (hres : ∀ (b : Nat) (sp : Nat → Bool) (hd : Bool), DataW.TrodAll enc P W' b sp hd f.resultTypes.toList (v.resultList f.resultTypes.size) (s.fn H (ds ++ gs)).results [])
  (hargs : ∀ sp : Nat → Bool, (∀ p ∈ before, sp p.block = true) → DataW.TrodAll enc P W' 0 sp true f.params.toList args.toList (s.fn H (ds ++ gs)).args pa)
  (hvars : ∀ sp : Nat → Bool, (∀ p ∈ before, sp p.block = true) → DataW.TrodVars enc P W' sp s.vars (s.fn H (ds ++ gs)).vars pv)
  (hps : before = pa ++ pv) (hb : Below W.heap.size W W')
  (hok : ∀ (j : Nat) (t : TypeId) (r : Value), f.resultTypes[j]? = some t → (v.resultList f.resultTypes.size)[j]? = some r → Value.okWide P W' .any 0 t r) :
  s.post enc P f apart fresh handsOn again W args v W' := by
 have hlt : ∀ p ∈ before, p.block < W.heap.size := fun p hp => hW.lt p hp
 have hold : ∀ p ∈ before, (fun b => decide (b < W.heap.size)) p.block = true := fun p hp => by simpa using hlt p hp
 refine ⟨ds, gs, before, [], pa, pv, hW, hres _ _ _, hargs _ hold, hvars _ hold, World.keptBut_mono (fun p hp => ⟨hp, ?_⟩) (hb.frame (· ∈ before)), fun _ => ?_⟩
 ·rw [hps, List.mem_append] at hp
  exact Or.inr hp
 ·obtain ⟨_, _, _, _, _, hz, hn⟩ := hW
  refine ⟨hok, _, _, ([] ++ pa) ++ pv, ⟨[] ++ pa, pv, trodAll_append (hargs _ (fun _ _ => rfl)) (hres _ _ _), hvars _ (fun _ _ => rfl), rfl, ?_, ?_⟩, ?_⟩
  ·intro b off hp
   have hin : MemPlace.cell b off ∈ before := by rw [hps]; simpa using hp
   rw [hb.frozen (hlt _ hin)]
   exact hz b off hin
  ·intro ha
   have := hn ha
   rw [hps] at this
   simpa using this
  ·intro p hp _
   rw [hps]
   simpa using hp
theorem trodAll_below (hl : laidOutB P = true) {W W' : World} (hb : Below W.heap.size W W') (sp : Nat → Bool) : ∀ {ts : List TypeId} {vs : List Value} {ds : List (DataW H)} {ps : List MemPlace},
  (ts.all fun t => P.readableRec t && decide (t < P.types.size)) = true → DataW.TrodAll enc P W 0 (fun _ => true) true ts vs ds ps → (∀ p ∈ ps, p.block < W.heap.size) → (∀ p ∈ ps, sp p.block = true) →
   DataW.TrodAll enc P W' 0 sp true ts vs ds ps
 | [], vs, ds, ps, _, h, _, _ => by
  obtain ⟨rfl, rfl, rfl⟩ := trodAll_nil h
  rfl
 | t :: ts, vs, ds, ps, hr, h, hlt, hs => by
  obtain ⟨v, vs', d, ds', p, q, rfl, rfl, rfl, h1, h2⟩ := trodAll_cons h
  simp only [List.all_cons, Bool.and_eq_true, decide_eq_true_eq] at hr
  refine ⟨p, q, WideElems.Trod_stays hl hr.1.1 hr.1.2 h1 (fun x hx => hb.same (hlt x (List.mem_append.2 (.inl hx)))) (fun x hx => hs x (List.mem_append.2 (.inl hx))), ?_, rfl⟩
  exact trodAll_below hl hb sp (by simpa using hr.2) h2 (fun x hx => hlt x (List.mem_append.2 (.inr hx))) (fun x hx => hs x (List.mem_append.2 (.inr hx)))
theorem law_true {f : FuncId} {fn : Func} {s : ChangeSpec} {fresh handsOn again : Bool} {W : World} {vs : List Value} {ds gs : List (DataW H)} {before : List MemPlace} {Pre : Heap → Prop} {t : TypeId}
  (hc : Pu P f vs Pre (.bool true)) (hpre : Pre (hp W)) (hvs : s.vars = [])
  (hW : DataW.Whole enc P fn.params.toList s.vars false W vs ds gs before) (hres : fn.resultTypes = #[t]) (ht : P.underlying t = some .bool)
  (hl : laidOutB P = true) (hr : (fn.params.toList.all fun t => P.readableRec t && decide (t < P.types.size)) = true)
  (hs : s.fn H (ds ++ gs) = { results := [.lit (.bool true)], args := ds }) :
  Calls P f vs.toArray W fun e W' => ∃ v, e = .returned v ∧ s.post enc P fn false fresh handsOn again W vs.toArray v W' := by
 refine (hc W [] rfl List.nodup_nil (by rw [hpBut_nil]; exact hpre)).mono ?_
 rintro e W' ⟨v, A, rfl, ⟨rfl, rfl⟩, hh⟩
 refine ⟨_, rfl, ?_⟩
 have hW' := hW
 have hlt := fun p hp => hW'.lt p hp
 obtain ⟨p, q, hA, hV, hpq, hfz, hnd⟩ := hW
 rw [hvs] at hV
 obtain ⟨rfl, rfl⟩ := trodVars_none hV
 have hb := Hp.below hh
 refine law_post (pa := p) (pv := []) (args := vs.toArray) (by simpa using hW') (fun b sp hd => ?_) (fun sp hsp => ?_) (fun sp hsp => ?_) hpq hb ?_
 ·rw [hs, hres]
  exact trodAll_cons_mk (shut_bool ht true) trodAll_mk0
 ·rw [hs]
  refine trodAll_below hl hb sp hr hA (fun x hx => hlt x ?_) (fun x hx => hsp x ?_) <;> (rw [hpq]; simpa using hx)
 ·rw [hs, hvs]; rfl
 ·exact ok_one hres rfl (okWide_bool_mk ht true)
end
end Go.Sl
namespace Go.Sl
open Go Go.RowKit Go.WideShapes Go.ChangeShapes Go.ChangeMaps
mutual
def bulkOf {H : Type} : DataW H → Nat
 | .lit (.string bytes) => bytes.length + 1
 | .lit _ => 1
 | .nil => 1
 | .ptr d => bulkOf d + 1
 | .slice elems spare => bulkAll elems + bulkAll spare + 1
 | .agg parts => bulkAll parts + 1
 | .iface _ d => bulkOf d + 1
 | .map entries => bulkEntries entries + 1
 | .held _ => 1
def bulkAll {H : Type} : List (DataW H) → Nat
 | [] => 0
 | d :: r => bulkOf d + bulkAll r
def bulkEntries {H : Type} : List (Lit × DataW H) → Nat
 | [] => 0
 | x :: r => bulkEntry x + bulkEntries r
def bulkEntry {H : Type} : Lit × DataW H → Nat
 | (.string bytes, d) => bytes.length + bulkOf d + 1
 | (_, d) => bulkOf d + 1
end
theorem bulkAll_sum {H : Type} (l : List (DataW H)) : bulkAll l = (l.map bulkOf).sum := by
 induction l with
 | nil => rfl
 | cons d r ih => simp only [bulkAll, List.map_cons, List.sum_cons, ih]
structure Shp (P : Program) (t : TypeId) {α : Type} (cells : α → List Value) (ok : Heap → α → Prop) (bulk : α → Nat) : Prop where
 h : ∀ {H : Type} (enc : TypeId × Value → H) (w : World) (base : Nat) (sp : Nat → Bool) (held : Bool) (fuel : Nat) (cs : List Value) (x : DataW H × List MemPlace), DataW.trod enc P w base sp held fuel t cs = some x → ∃ y, cs = cells y ∧ ok (hp w) y ∧ bulk y ≤ bulkOf x.1
section
variable {P : Program} {t e : TypeId} {k : IntKind}
theorem shp_int (ht : P.underlying t = some (.int k)) : Shp P t (fun n : Int => [.int k n]) (fun _ n => (Lit.int k n).wf = true) (fun _ => 1) := ⟨fun enc w base sp held fuel cs x h => by
 obtain ⟨n, rfl, rfl, hw⟩ := DataW.trod_int ht h
 exact ⟨n, rfl, hw, Nat.le_refl _⟩⟩
theorem shp_bool (ht : P.underlying t = some .bool) : Shp P t (fun b : Bool => [.bool b]) (fun _ _ => True) (fun _ => 1) := ⟨fun enc w base sp held fuel cs x h => by
 obtain ⟨n, rfl, rfl⟩ := DataW.trod_bool ht h
 exact ⟨n, rfl, trivial, Nat.le_refl _⟩⟩
theorem shp_string (ht : P.underlying t = some .string) : Shp P t (fun l : List UInt8 => [B l]) (fun _ l => l.length ≤ maxLen) (fun l => l.length + 1) := ⟨fun enc w base sp held fuel cs x h => by
 obtain ⟨s, rfl, rfl, hs⟩ := DataW.trod_string ht h
 exact ⟨s.data.toList, rfl, by rw [Array.length_toList]; exact hs, by simp [bulkOf]⟩⟩
structure SlOk {α : Type} (cells : α → List Value) (ok : Heap → α → Prop) (h : Heap) (a : Option Addr) (ls : List α) (c : Nat) : Prop where
 le : ls.length ≤ c
 max : c ≤ maxLen
 rd : RdS h a (ls.flatMap cells)
 each : ∀ y ∈ ls, ok h y
theorem flat_get {α : Type} {cells : α → List Value} {n : Nat} (hn : ∀ y, (cells y).length = n) (hpos : 0 < n) : ∀ (ls : List α) (j : Nat) (u : Value), (ls.flatMap cells)[j]? = some u → ∃ y, ls[j / n]? = some y ∧ (cells y)[j % n]? = some u
 | [], j, u, h => by simp at h
 | x :: r, j, u, h => by
  rw [List.flatMap_cons] at h
  by_cases hj : j < n
  ·rw [List.getElem?_append_left (by rw [hn]; exact hj)] at h
   refine ⟨x, ?_, ?_⟩
   ·rw [Nat.div_eq_of_lt hj]; rfl
   ·rw [Nat.mod_eq_of_lt hj]; exact h
  ·rw [List.getElem?_append_right (by rw [hn]; omega), hn] at h
   obtain ⟨y, h1, h2⟩ := flat_get hn hpos r (j - n) u h
   refine ⟨y, ?_, ?_⟩
   ·have : j / n = (j - n) / n + 1 := by
     conv => lhs; rw [show j = (j - n) + n by omega]
     rw [Nat.add_div_right _ hpos]
    rw [this]; simpa using h1
   ·rw [Nat.mod_eq_sub_mod (by omega)]; exact h2
theorem slice_open {α : Type} {cells : α → List Value} {ok : Heap → α → Prop} {bulk : α → Nat} (ht : P.underlying t = some (.slice e)) (S : Shp P e cells ok bulk) {n : Nat} (hc : P.cellsOf e = n) (hn : ∀ y, (cells y).length = n) (hpos : 0 < n)
  {H : Type} {enc : TypeId × Value → H} {w : World} {base : Nat} {sp : Nat → Bool} {held : Bool} {fuel : Nat} {cs : List Value} {x : DataW H × List MemPlace} (h : DataW.trod enc P w base sp held fuel t cs = some x) :
  ∃ (a : Option Addr) (ls : List α) (c : Nat), cs = [.slice a ls.length c] ∧ SlOk cells ok (hp w) a ls c ∧ ((x.1 = .nil ∧ ls = []) ∨ ∃ elems spare, x.1 = .slice elems spare ∧ elems.length = ls.length) ∧ (ls.map bulk).sum + 1 ≤ bulkOf x.1 := by
 rcases DataW.trod_slice ht h with ⟨rfl, rfl⟩ | ⟨a, len, cap, elems, rest, m, _, rfl, rfl, hb, hl, hm, hlen, hel, _, _⟩
 ·exact ⟨none, [], 0, rfl, ⟨Nat.le_refl _, Nat.zero_le _, RdS.nil _ _, by simp⟩, .inl ⟨rfl, rfl⟩, by simp [bulkOf]⟩
 ·have key : ∀ (k : Nat), k ≤ len → ∃ ls : List α, ls.length = k ∧ (∀ i y, ls[i]? = some y → w.cells? base (a.add (i * n)) n = some (cells y) ∧ ok (hp w) y) ∧ (ls.map bulk).sum ≤ ((elems.take k).map (fun x => bulkOf x.1)).sum := by
   intro k
   induction k with
   | zero => intro _; exact ⟨[], rfl, by simp, by simp⟩
   | succ k ih =>
    intro hk
    obtain ⟨ls, h1, h2, h3⟩ := ih (by omega)
    have h4 := hel k (by omega)
    have hk' : k < elems.length := by omega
    rw [List.getElem?_eq_getElem hk', hc, Option.bind_eq_some_iff] at h4
    obtain ⟨cs, h5, h6⟩ := h4
    obtain ⟨y, rfl, h7, h8⟩ := S.h enc w base sp held m cs _ h6
    refine ⟨ls ++ [y], by simp [h1], fun i z hz => ?_, ?_⟩
    ·by_cases hi : i < k
     ·rw [List.getElem?_append_left (by omega)] at hz; exact h2 i z hz
     ·rw [List.getElem?_append_right (by omega)] at hz
      have hi0 : i = k := by
       have := (List.getElem?_eq_some_iff.1 hz).1
       simp at this; omega
      subst hi0
      simp [h1] at hz; subst hz
      exact ⟨h5, h7⟩
    ·rw [List.take_succ_eq_append_getElem hk']
     simp only [List.map_append, List.map_cons, List.map_nil, List.sum_append, List.sum_cons, List.sum_nil]
     omega
  obtain ⟨ls, h1, h2, h3⟩ := key len (Nat.le_refl _)
  subst h1
  refine ⟨some a, ls, cap, rfl, ⟨hl, hm, fun _ => ⟨a, rfl, fun j u hu => ?_⟩, fun y hy => ?_⟩, .inr ⟨_, _, rfl, by simp [hlen]⟩, ?_⟩
  ·obtain ⟨y, h4, h5⟩ := flat_get hn hpos ls j u hu
   obtain ⟨h6, _⟩ := h2 _ _ h4
   have h7 := (World.cells?_some h6).2.2 (j % n) (Nat.mod_lt _ hpos)
   rw [cell?_hp]
   rw [h5, add_add] at h7
   have : j / n * n + j % n = j := by rw [Nat.mul_comm]; exact Nat.div_add_mod j n
   rw [this] at h7; exact h7
  ·obtain ⟨i, hi⟩ := List.getElem?_of_mem hy
   exact (h2 i y hi).2
  ·simp only [bulkOf, bulkAll_sum, List.map_map]
   rw [List.take_of_length_le (by omega)] at h3
   simp only [Function.comp_def]
   omega
theorem shp_slice {α : Type} {cells : α → List Value} {ok : Heap → α → Prop} {bulk : α → Nat} (ht : P.underlying t = some (.slice e)) (S : Shp P e cells ok bulk) {n : Nat} (hc : P.cellsOf e = n) (hn : ∀ y, (cells y).length = n) (hpos : 0 < n) :
  Shp P t (fun y : Option Addr × List α × Nat => [.slice y.1 y.2.1.length y.2.2]) (fun h y => SlOk cells ok h y.1 y.2.1 y.2.2) (fun y => (y.2.1.map bulk).sum + 1) := ⟨fun enc w base sp held fuel cs x h => by
 obtain ⟨a, ls, c, h1, h2, _, h3⟩ := slice_open ht S hc hn hpos h
 exact ⟨(a, ls, c), h1, h2, h3⟩⟩
structure ShpF (P : Program) (fs : List Field) (off tot : Nat) {α : Type} (cells : α → List Value) (ok : Heap → α → Prop) (bulk : α → Nat) : Prop where
 h : ∀ {H : Type} (enc : TypeId × Value → H) (w : World) (base : Nat) (sp : Nat → Bool) (held : Bool) (n : Nat) (cs : List Value) (xs : List (DataW H × List MemPlace)), xs.length = fs.length → cs.length = tot →
  (∀ (i : Nat) (f : Field), fs[i]? = some f → DataW.trod enc P w base sp held n f.type ((cs.drop f.offset).take (P.cellsOf f.type)) = xs[i]?) → ∃ y, cs.drop off = cells y ∧ ok (hp w) y ∧ bulk y ≤ (xs.map fun x => bulkOf x.1).sum
theorem shpF_nil {tot : Nat} : ShpF P [] tot tot (fun _ : Unit => []) (fun _ _ => True) (fun _ => 0) := ⟨fun enc w base sp held n cs xs _ hl _ =>
 ⟨(), by rw [List.drop_of_length_le (by omega)], trivial, Nat.zero_le _⟩⟩
theorem shpF_cons {f : Field} {fs : List Field} {off off' tot k : Nat} {α β : Type} {c1 : α → List Value} {ok1 : Heap → α → Prop} {b1 : α → Nat} {c2 : β → List Value} {ok2 : Heap → β → Prop} {b2 : β → Nat}
  (S : Shp P f.type c1 ok1 b1) (ho : f.offset = off) (hk : P.cellsOf f.type = k) (ho2 : off' = off + k) (R : ShpF P fs off' tot c2 ok2 b2) :
  ShpF P (f :: fs) off tot (fun y : α × β => c1 y.1 ++ c2 y.2) (fun h y => ok1 h y.1 ∧ ok2 h y.2) (fun y => b1 y.1 + b2 y.2) := ⟨fun enc w base sp held n cs xs hl hcs hall => by
 cases xs with
 | nil => simp at hl
 | cons x xs =>
  have h0 := hall 0 f rfl
  rw [ho, hk] at h0
  obtain ⟨y, h1, h2, h3⟩ := S.h enc w base sp held n _ _ h0
  obtain ⟨z, h4, h5, h6⟩ := R.h enc w base sp held n cs xs (by simpa using hl) hcs (fun i g hg => by have := hall (i + 1) g (by simpa using hg); simpa using this)
  refine ⟨(y, z), ?_, ⟨h2, h5⟩, ?_⟩
  ·simp only
   rw [← h1, ← h4, ho2, ← List.drop_drop, List.take_append_drop]
  ·simp only [List.map_cons, List.sum_cons]; omega⟩
theorem shp_struct {fs : Array Field} {tot : Nat} {α : Type} {cells : α → List Value} {ok : Heap → α → Prop} {bulk : α → Nat} (ht : P.underlying t = some (.struct fs)) (hc : P.cellsOf t = tot) (R : ShpF P fs.toList 0 tot cells ok bulk) : Shp P t cells ok bulk := ⟨fun enc w base sp held fuel cs x h => by
 obtain ⟨xs, n, _, rfl, h1, h2, h3⟩ := DataW.trod_struct ht h
 obtain ⟨y, h4, h5, h6⟩ := R.h enc w base sp held n cs xs (by simpa using h2) (by rw [h1, hc]) (fun i f hf => h3 i f (by simpa using hf))
 refine ⟨y, by simpa using h4, h5, ?_⟩
 simp only [bulkOf, bulkAll_sum, List.map_map, Function.comp_def]
 omega⟩
theorem Shp.map {α β : Type} {c1 : α → List Value} {ok1 : Heap → α → Prop} {b1 : α → Nat} {c2 : β → List Value} {ok2 : Heap → β → Prop} {b2 : β → Nat} (S : Shp P t c1 ok1 b1) (f : α → β) (hc : ∀ y, c1 y = c2 (f y)) (ho : ∀ h y, ok1 h y → ok2 h (f y)) (hb : ∀ y, b2 (f y) ≤ b1 y) : Shp P t c2 ok2 b2 := ⟨fun enc w base sp held fuel cs x h => by
 obtain ⟨y, h1, h2, h3⟩ := S.h enc w base sp held fuel cs x h
 exact ⟨f y, by rw [h1, hc], ho _ _ h2, Nat.le_trans (hb y) h3⟩⟩
variable {H : Type} {enc : TypeId × Value → H} {w : World} {r : Reach} {b0 base : Nat} {sp : Nat → Bool} {held : Bool} {v : Value} {d : DataW H} {ps : List MemPlace}
theorem arg_slice {α : Type} {cells : α → List Value} {ok : Heap → α → Prop} {bulk : α → Nat} (ht : P.underlying t = some (.slice e)) (S : Shp P e cells ok bulk) {n : Nat} (hc : P.cellsOf e = n) (hn : ∀ y, (cells y).length = n) (hpos : 0 < n)
  (hval : Value.okWide P w r b0 t v) (hd : DataW.Trod enc P w base sp held t v d ps) :
  ∃ (a : Option Addr) (ls : List α) (c : Nat), v = .slice a ls.length c ∧ SlOk cells ok (hp w) a ls c ∧ ((d = .nil ∧ ls = []) ∨ ∃ elems spare, d = .slice elems spare ∧ elems.length = ls.length) ∧ (ls.map bulk).sum + 1 ≤ bulkOf d := by
 obtain ⟨a0, n0, c0, rfl⟩ := okWide_slice ht hval
 obtain ⟨fuel, hf⟩ := hd
 obtain ⟨a, ls, c, h1, h2, h3, h4⟩ := slice_open ht S hc hn hpos hf
 simp [Value.cells] at h1
 obtain ⟨rfl, rfl, rfl⟩ := h1
 exact ⟨_, _, _, rfl, h2, h3, h4⟩
end
theorem sum_ones {α : Type} (l : List α) : (l.map fun _ => 1).sum = l.length := by
 induction l with
 | nil => rfl
 | cons x r ih => simp only [List.map_cons, List.sum_cons, ih, List.length_cons]; omega
theorem wf_u64 {n : Int} (h : (Lit.int .u64 n).wf = true) : 0 ≤ n ∧ n ≤ 18446744073709551615 := by
 simp only [Lit.wf, Bool.and_eq_true, decide_eq_true_eq] at h
 have e1 : IntKind.u64.min = 0 := by decide
 have e2 : IntKind.u64.max = 18446744073709551615 := by decide
 omega
section
variable {P : Program} {t e : TypeId} {k : IntKind}
variable {H : Type} {enc : TypeId × Value → H} {w : World} {r : Reach} {b0 base : Nat} {sp : Nat → Bool} {held : Bool} {v : Value} {d : DataW H} {ps : List MemPlace}
end
section
variable {P : Program} {t e : TypeId} {k : IntKind} {n : Nat}
variable {H : Type} {enc : TypeId × Value → H} {w : World} {r : Reach} {b0 base : Nat} {sp : Nat → Bool} {held : Bool} {v : Value} {d : DataW H} {ps : List MemPlace}
end
end Go.Sl
namespace Go.Proofs.YtgllpcggdcknaaaGreatDoor.Rp
open Go Go.Sl Go.RowKit Go.WideShapes Go.ChangeShapes
theorem shp_u64 {P : Program} {t : TypeId} (ht : P.underlying t = some (.int .u64)) : Shp P t (fun n : Nat => [.int .u64 (n : Nat)]) (fun _ n => n ≤ 18446744073709551615) (fun _ => 1) := ⟨fun enc w base sp held fuel cs x h => by
 obtain ⟨n, h1, h2, h3⟩ := (shp_int ht).h enc w base sp held fuel cs x h
 have hw := wf_u64 h2
 refine ⟨n.toNat, ?_, by omega, h3⟩
 rw [h1, Int.toNat_of_nonneg hw.1]⟩
theorem flat_B (l : List Bs) : (l.flatMap fun f => [B f]) = fV l := by
 induction l with
 | nil => rfl
 | cons x r ih => rw [List.flatMap_cons, ih]; rfl
theorem flat_N (l : List Nat) : (l.flatMap fun n => [Value.int .u64 (n : Nat)]) = nV l := by
 induction l with
 | nil => rfl
 | cons x r ih => rw [List.flatMap_cons, ih]; rfl
def wF (l : List Bs) : Nat := (l.map fun f => f.length + 1).sum
theorem wF_eq (l : List (List UInt8)) : wF l = (l.map fun l => l.length + 1).sum := rfl
def wV (m : VM) : Nat := wF m.v.flags + m.v.text.length + 6
def wR (m : RM) : Nat := m.r.tag.length + m.r.code.length + m.r.text.length + m.r.nums.length + wF m.r.flags + m.r.box.length + (m.x.vs.map wV).sum + 1
structure VOk (h : Heap) (m : VM) : Prop where
 rd : RdS h m.a (fV m.v.flags)
 cap : m.v.flags.length ≤ m.c
 n : m.v.n ≤ 18446744073709551615
 fr : m.v.fr ≤ 18446744073709551615
theorem shpVal : Shp Tryz.prog 46 (fun m : VM => vmC m) (fun h m => VOk h m) wV :=
 (shp_struct Tryz.underlying46 z_5
  (shpF_cons (k := 1) (off' := 1) (shp_int (k := .i64) z_5) rfl z_5 rfl
  (shpF_cons (k := 1) (off' := 2) (shp_u64 z_5) rfl z_5 rfl
  (shpF_cons (k := 1) (off' := 3) (shp_slice (e := 9) z_5 (shp_string z_5) (n := 1) z_5 (fun _ => rfl) (by decide)) rfl z_5 rfl
  (shpF_cons (k := 1) (off' := 4) (shp_string z_5) rfl z_5 rfl
  (shpF_cons (k := 1) (off' := 5) (shp_bool z_5) rfl z_5 rfl
  (shpF_cons (k := 1) (off' := 6) (shp_u64 z_5) rfl z_5 rfl shpF_nil))))))).map
  (fun y => (⟨⟨y.1, y.2.1, y.2.2.1.2.1, y.2.2.2.1, y.2.2.2.2.1, y.2.2.2.2.2.1⟩, y.2.2.1.1, y.2.2.1.2.2⟩ : VM)) (fun y => rfl)
  (fun h y o => by
   obtain ⟨_, o2, o3, _, _, o6, _⟩ := o
   have h7 := o3.rd
   rw [flat_B] at h7
   exact ⟨h7, o3.le, o2, o6⟩)
  (fun y => by simp only [wV, wF_eq]; omega)
structure ROk (h : Heap) (m : RM) : Prop where
 rd : RRd m.r m.x h
 cap : CapL m.r m.x
 n : m.r.n ≤ 18446744073709551615
 mod : m.r.mod ≤ 18446744073709551615
 ns : ∀ k ∈ m.r.nums, k ≤ 18446744073709551615
 vs : ∀ v ∈ m.x.vs, v.v.n ≤ 18446744073709551615 ∧ v.v.fr ≤ 18446744073709551615
theorem shpRep : Shp Tryz.prog 27 (fun m : RM => rmC m) (fun h m => ROk h m) wR :=
 (shp_struct Tryz.underlying27 z_5
  (shpF_cons (k := 1) (off' := 1) (shp_int (k := .i64) z_5) rfl z_5 rfl
  (shpF_cons (k := 1) (off' := 2) (shp_string z_5) rfl z_5 rfl
  (shpF_cons (k := 1) (off' := 3) (shp_string z_5) rfl z_5 rfl
  (shpF_cons (k := 1) (off' := 4) (shp_string z_5) rfl z_5 rfl
  (shpF_cons (k := 1) (off' := 5) (shp_u64 z_5) rfl z_5 rfl
  (shpF_cons (k := 1) (off' := 6) (shp_slice (e := 22) z_5 (shp_u64 z_5) (n := 1) z_5 (fun _ => rfl) (by decide)) rfl z_5 rfl
  (shpF_cons (k := 1) (off' := 7) (shp_u64 z_5) rfl z_5 rfl
  (shpF_cons (k := 1) (off' := 8) (shp_slice (e := 9) z_5 (shp_string z_5) (n := 1) z_5 (fun _ => rfl) (by decide)) rfl z_5 rfl
  (shpF_cons (k := 1) (off' := 9) (shp_string z_5) rfl z_5 rfl
  (shpF_cons (k := 1) (off' := 10) (shp_slice (e := 46) z_5 shpVal (n := 6) z_5 (fun _ => rfl) (by decide)) rfl z_5 rfl shpF_nil))))))))))).map
  (fun y => (⟨⟨y.1, y.2.1, y.2.2.1, y.2.2.2.1, y.2.2.2.2.1, y.2.2.2.2.2.1.2.1, y.2.2.2.2.2.2.1, y.2.2.2.2.2.2.2.1.2.1, y.2.2.2.2.2.2.2.2.1, y.2.2.2.2.2.2.2.2.2.1.2.1.map VM.v⟩,
   ⟨y.2.2.2.2.2.1.1, y.2.2.2.2.2.1.2.2, y.2.2.2.2.2.2.2.1.1, y.2.2.2.2.2.2.2.1.2.2, y.2.2.2.2.2.2.2.2.2.1.1, y.2.2.2.2.2.2.2.2.2.1.2.2, y.2.2.2.2.2.2.2.2.2.1.2.1⟩⟩ : RM)) (fun y => rfl)
  (fun h y o => by
   obtain ⟨_, _, _, _, o5, o6, o7, o8, _, o10, _⟩ := o
   have h6 := o6.rd
   have h8 := o8.rd
   rw [flat_N] at h6
   rw [flat_B] at h8
   exact ⟨⟨rfl, h6, h8, o10.rd, fun m hm => (o10.each m hm).rd⟩, ⟨o8.le, fun m hm => (o10.each m hm).cap⟩, o5, o7, o6.each, fun m hm => ⟨(o10.each m hm).n, (o10.each m hm).fr⟩⟩)
  (fun y => by simp only [wR, wF_eq, sum_ones]; omega)
theorem wF_len (l : List Bs) : l.length ≤ wF l := by
 unfold wF
 induction l with
 | nil => simp
 | cons a t ih => simp only [List.map_cons, List.sum_cons, List.length_cons]; omega
theorem wF_mem {l : List Bs} {f : Bs} (h : f ∈ l) : f.length ≤ wF l := by
 unfold wF
 induction l with
 | nil => cases h
 | cons a t ih =>
  simp only [List.map_cons, List.sum_cons]
  rcases List.mem_cons.1 h with rfl | h
  ·omega
  ·have := ih h; omega
theorem join_wF : ∀ l : List Bs, (joinS [32] l).length ≤ wF l
 | [] => by simp [joinS]
 | [a] => by simp [joinS, wF]
 | a :: b :: t => by
  have h2 := join_wF (b :: t)
  rw [join_cons _ _ z_8]
  simp only [wF, List.map_cons, List.sum_cons, List.length_append, List.length_cons, List.length_nil] at h2 ⊢
  omega
theorem sum_mem {α : Type} {f : α → Nat} {l : List α} {a : α} (h : a ∈ l) : f a ≤ (l.map f).sum := by
 induction l with
 | nil => cases h
 | cons b t ih =>
  simp only [List.map_cons, List.sum_cons]
  rcases List.mem_cons.1 h with rfl | h
  ·omega
  ·have := ih h; omega
theorem szV_w {m : VM} (h1 : m.v.n ≤ 18446744073709551615) (h2 : m.v.fr ≤ 18446744073709551615) (hw : wV m ≤ 1048576) : SzV m.v := by
 have h3 := wF_len m.v.flags
 have h4 := join_wF m.v.flags
 unfold wV at hw
 refine ⟨by unfold big; omega, fun f hf => ?_, by unfold big; omega, by unfold big; omega, h1, h2⟩
 have := wF_mem hf
 unfold big
 omega
theorem szR_w {h : Heap} {m : RM} (o : ROk h m) (hw : wR m ≤ 1048576) : SzR m.r := by
 have h3 := wF_len m.r.flags
 have h4 := join_wF m.r.flags
 have hv := o.rd.vals
 unfold wR at hw
 have hvl : m.x.vs.length ≤ (m.x.vs.map wV).sum := by
  have : ∀ l : List VM, l.length ≤ (l.map wV).sum := fun l => by
   induction l with
   | nil => simp
   | cons a t ih => simp only [List.map_cons, List.sum_cons, List.length_cons, wV]; omega
  exact this _
 have hvl2 : m.r.values.length = m.x.vs.length := by rw [hv, List.length_map]
 refine ⟨by unfold big; omega, by unfold big; omega, by unfold big; omega, o.n, by unfold big; omega, o.ns, o.mod, by unfold big; omega, fun f hf => ?_, by unfold big; omega, by unfold big; omega, by unfold big; omega, fun v hv' => ?_⟩
 ·have := wF_mem hf
  unfold big
  omega
 ·rw [hv] at hv'
  obtain ⟨u, hu, rfl⟩ := List.mem_map.1 hv'
  have := sum_mem (f := wV) hu
  exact szV_w (o.vs u hu).1 (o.vs u hu).2 (by omega)
theorem valueP_w {m : VM} (h1 : m.v.n ≤ 18446744073709551615) (h2 : m.v.fr ≤ 18446744073709551615) (hw : wV m ≤ 1048576) : (valueP m.v).length ≤ wV m + 150 := by
 have hj := join_wF m.v.flags
 have hp := partP_len m.v h2
 have hd := digS_len64 h1
 have hl := litS_len m.v.text (by unfold wV at hw; unfold big; omega)
 unfold wV at hw ⊢
 unfold valueP
 split
 ·simp
 ·next hk =>
  have hi := itemA_len m.v.kind.toNat (by omega)
  split
  ·have : (itemA 6).length = 5 := rfl
   unfold printF
   simp only [List.length_append, List.length_cons, List.length_nil]
   omega
  split
  ·have : (itemA 9).length = 6 := rfl
   simp only [List.length_append, List.length_cons, List.length_nil]
   omega
  split
  ·simp only [List.length_append, List.length_cons]; omega
  ·simp only [List.length_append, List.length_cons]; omega
theorem cellF_w {k : Int} {m : VM} (h1 : m.v.n ≤ 18446744073709551615) (h2 : m.v.fr ≤ 18446744073709551615) (hw : wV m ≤ 1048576) : wF (cellF k m.v) ≤ wV m + 151 := by
 unfold cellF
 split
 ·have := valueP_w h1 h2 hw
  simp only [wF, List.map_cons, List.map_nil, List.sum_cons, List.sum_nil]
  omega
 split
 ·next hk =>
  have := countP_len (szV_w h1 h2 hw) hk
  simp only [wF, List.map_cons, List.map_nil, List.sum_cons, List.sum_nil]
  omega
 ·simp [wF]
theorem cells_w {k : Int} : ∀ {l : List VM}, (∀ m ∈ l, m.v.n ≤ 18446744073709551615 ∧ m.v.fr ≤ 18446744073709551615) → (l.map wV).sum ≤ 1048576 → wF (l.flatMap fun m => cellF k m.v) ≤ 30 * (l.map wV).sum
 | [], _, _ => by simp [wF]
 | a :: t, h, hw => by
  simp only [List.map_cons, List.sum_cons] at hw
  have h1 := cellF_w (k := k) (h a z_8).1 (h a z_8).2 (by omega)
  have h2 := cells_w (k := k) (l := t) (fun m hm => h m (by simp [hm])) (by omega)
  have h6 : 6 ≤ wV a := by unfold wV; omega
  have e : ∀ (a b : List Bs), wF (a ++ b) = wF a + wF b := fun a b => by simp [wF]
  rw [List.flatMap_cons, e]
  simp only [List.map_cons, List.sum_cons]
  omega
theorem cells_eq {r : RR} {x : RL} (hv : r.values = x.vs.map VM.v) : cellsP r = x.vs.flatMap fun m => cellF r.kind m.v := by
 rw [← cellJ_all hv]
 unfold cellJ
 rw [List.take_length]
theorem textP_w {h : Heap} {m : RM} (o : ROk h m) (hw : wR m ≤ 1048576) : (textP m.r).length ≤ 40 * wR m + 200 ∧ (numsP m.r.nums).length ≤ 40 * wR m ∧ (joinS [32] (cellsP m.r)).length ≤ 40 * wR m := by
 have h1 := numsP_len o.ns
 have h2 := join_wF (cellsP m.r)
 have hw' := hw
 unfold wR at hw
 have h3 := cells_w (k := m.r.kind) o.vs (by omega)
 rw [← cells_eq o.rd.vals] at h3
 have h4 := form_len m.r.box (by unfold big; omega)
 have h5 := digS_len64 o.n
 have h6 := digS_len64 o.mod
 have h7 := join_wF m.r.flags
 have h8 := stat_len (m.r.kind.toNat - 1)
 have h9 : (codeP m.r.code).length ≤ m.r.code.length + 3 := by
  unfold codeP
  split
  ·simp
  ·simp
 have h10 : (modP m.r.mod).length ≤ 40 := by
  unfold modP
  split
  ·simp
  ·simp only [List.length_append, List.length_cons, List.length_nil]; omega
 refine ⟨?_, by unfold wR; omega, by unfold wR; omega⟩
 unfold wR
 unfold textP printF
 repeat' split
 all_goals (simp only [List.length_append, List.length_cons, List.length_nil]; omega)
theorem szW_w {h : Heap} {m : RM} (o : ROk h m) (hw : wR m ≤ 1048576) : SzW m.r := by
 have h1 := textP_w o hw
 exact ⟨szR_w o hw, by unfold big; omega, by unfold big; omega⟩
theorem txts_w {h : Heap} : ∀ {l : List RM}, (∀ m ∈ l, ROk h m) → (l.map wR).sum ≤ 1048576 → (txts (okM l)).length ≤ 300 * (l.map wR).sum
 | [], _, _ => by simp [txts, okM]
 | a :: t, ho, hw => by
  simp only [List.map_cons, List.sum_cons] at hw
  have h1 := (textP_w (ho a z_8) (by omega)).1
  have h2 := txts_w (l := t) (fun m hm => ho m (by simp [hm])) (by omega)
  have h3 : 1 ≤ wR a := by unfold wR; omega
  have e : okM (a :: t) = (if okR a.r = true then [a] else []) ++ okM t := by
   unfold okM
   rw [List.filter_cons]
   split <;> rfl
  rw [e, txts_app, List.length_append]
  have h4 : (txts (if okR a.r = true then [a] else [])).length ≤ (textP a.r).length + 2 := by
   split
   ·rw [txts_one, List.length_append]; exact Nat.le_refl _
   ·simp [txts]
  simp only [List.map_cons, List.sum_cons]
  omega
theorem sum_len (l : List RM) : l.length ≤ (l.map wR).sum := by
 induction l with
 | nil => simp
 | cons a t ih => simp only [List.map_cons, List.sum_cons, List.length_cons, wR]; omega
end Go.Proofs.YtgllpcggdcknaaaGreatDoor.Rp
namespace Go.Proofs.YtgllpcggdcknaaaGreatDoor.Rp
open Go Go.Sl Go.RowKit
abbrev laidL : List (String × DataW Unit) := [("math/bits.deBruijn32tab", Rows.laid_math_bits_deBruijn32tab), ("math/bits.deBruijn64tab", Rows.laid_math_bits_deBruijn64tab), ("internal/strconv.uint64pow10", Rows.laid_internal_strconv_uint64pow10), ("unicode/utf8.acceptRanges", Rows.laid_unicode_utf8_acceptRanges), ("strconv.ErrRange", Rows.laid_strconv_ErrRange), ("strconv.ErrSyntax", Rows.laid_strconv_ErrSyntax), ("unicode/utf8.first", Rows.laid_unicode_utf8_first)]
theorem gPow : Tryz.prog.globalNamed "internal/strconv.uint64pow10" = some 1 := by kernel_rfl
theorem gPowT : (Tryz.prog.globals[1]?).map (·.type) = some 132 := by kernel_rfl
theorem gSyn : Tryz.prog.globalNamed "strconv.ErrSyntax" = some 2 := by kernel_rfl
theorem gSynT : (Tryz.prog.globals[2]?).map (·.type) = some 94 := by kernel_rfl
theorem gRng : Tryz.prog.globalNamed "strconv.ErrRange" = some 3 := by kernel_rfl
theorem gRngT : (Tryz.prog.globals[3]?).map (·.type) = some 94 := by kernel_rfl
theorem starE : "*" ++ "errors.errorString" = "*errors.errorString" := by decide
theorem row167 (u : TypeId) (h : Tryz.prog.typeName? 3 u = some "*errors.errorString") : u = 167 :=
 typeName_ptr_named (nm := "errors.errorString") (by rw [starE]; kernel_rfl) z_5 (by decide) u (by rw [starE]; exact h)
theorem var_block {P : Program} {W : World} {n : String} {g : Nat} {cs : Array Value} (hg : P.globalNamed n = some g) (h : W.var? P n = some cs) : ∃ t fr, hp W g = some (.cells cs t fr) := by
 unfold World.var? at h
 rw [hg] at h
 simp only [Option.bind_some] at h
 split at h
 ·next c t fr hh =>
  cases h
  exact ⟨t, fr, hh⟩
 ·cases h
theorem gMax : Tryz.prog.globalNamed "internal/bytealg.MaxLen" = some 0 := by kernel_rfl
theorem one_of {cs : Array Value} {v : Value} (hs : cs.size = 1) (h : cs[0]? = some v) : cs = #[v] := by
 obtain ⟨l⟩ := cs
 match l, hs with
 | [u], _ =>
  simp at h
  subst h
  rfl
theorem max_open {W : World} (h : W.ShapedOpen Tryz.prog) : ∃ m t fr, hp W 0 = some (.cells #[.int .i64 m] t fr) := by
 obtain ⟨m, hm⟩ := cell_of_shapedOpen_int (zero := #[.int .i64 0]) (t := 3) (g := 0) h (of_decide_eq_true z_5) z_5 rfl z_5 z_5 Tryz.underlying3
 obtain ⟨cs, hcc, hsz, _⟩ := h.1 0 #[.int .i64 0] 3 (of_decide_eq_true z_5) z_5
 have hv : W.var? Tryz.prog "internal/bytealg.MaxLen" = some cs := by
  unfold World.var?
  rw [gMax]
  simp only [Option.bind_some]
  rw [hcc]
 have h3 := World.var?_cell gMax hv 0
 rw [hm] at h3
 have hs1 : cs.size = 1 := hsz
 have hcs := one_of hs1 h3.symm
 subst hcs
 exact ⟨_, _, _, hcc⟩
theorem pow_eq : (Rows.laid_internal_strconv_uint64pow10 : DataW Unit) = Lib.tabData .u64 Lib.pow10Tab := rfl
theorem gl_of_laid {W : World} (hL : laidMetH Tryz.prog laidL W) (hO : W.ShapedOpen Tryz.prog) : Gl (hp W) := by
 rw [MakeChecks.laidMetH_plain _ _ _ z_5] at hL
 have h2 := hL.tail.tail
 have h4 := h2.tail.tail
 rw [pow_eq] at h2
 have hP := Lib.tabIs_of_head gPow gPowT Tryz.underlying132 Tryz.underlying22 z_5 z_5 h2
 obtain ⟨a3, s3, v3, _⟩ := laid_sentinel h4 gRng gRngT Tryz.underlying94 row167 Tryz.underlying167 Tryz.underlying169 rfl rfl Tryz.underlying9 z_5 z_5
 obtain ⟨a2, s2, v2, _⟩ := laid_sentinel h4.tail gSyn gSynT Tryz.underlying94 row167 Tryz.underlying167 Tryz.underlying169 rfl rfl Tryz.underlying9 z_5 z_5
 obtain ⟨t1, f1, b1⟩ := var_block gPow hP
 obtain ⟨t2, f2, b2⟩ := var_block gSyn v2
 obtain ⟨t3, f3, b3⟩ := var_block gRng v3
 exact ⟨max_open hO, ⟨t1, f1, b1⟩, ⟨_, t2, f2, b2, .inr ⟨_, _, rfl⟩⟩, ⟨_, t3, f3, b3, .inr ⟨_, _, rfl⟩⟩⟩
end Go.Proofs.YtgllpcggdcknaaaGreatDoor.Rp
namespace Go.Proofs.YtgllpcggdcknaaaGreatDoor.Rp
open Go Go.Sl Go.RowKit
def lit1 : DataW Unit → Value
 | .lit (.int k n) => .int k n
 | _ => .nilFunc
def tab1 : DataW Unit → List Value
 | .agg ps => ps.map lit1
 | _ => []
def tab2 : DataW Unit → List Value
 | .agg ps => ps.flatMap tab1
 | _ => []
def putO (cs : List Value) : Obj → Obj
 | .cells _ t fr => .cells cs.toArray t fr
 | o => o
noncomputable def low : Nat := (World.holding Tryz.prog default ⟨#[], #[], []⟩).heap.size
abbrev rngS : ByteArray := ⟨#[118, 97, 108, 117, 101, 32, 111, 117, 116, 32, 111, 102, 32, 114, 97, 110, 103, 101]⟩
abbrev synS : ByteArray := ⟨#[105, 110, 118, 97, 108, 105, 100, 32, 115, 121, 110, 116, 97, 120]⟩
noncomputable def laidWorld (os : Os) : World :=
 let w0 := World.holding Tryz.prog os ⟨#[.cells #[.string rngS] 169, .cells #[.string synS] 169], #[], []⟩
 { w0 with heap := ((((((w0.heap.modify 1 (putO (tab1 Rows.laid_internal_strconv_uint64pow10))).modify 2 (putO [.iface 167 (.pointer (some ⟨low + 1, 0, none⟩))])).modify 3 (putO [.iface 167 (.pointer (some ⟨low, 0, none⟩))])).modify 4 (putO (tab1 Rows.laid_math_bits_deBruijn32tab))).modify 5 (putO (tab1 Rows.laid_math_bits_deBruijn64tab))).modify 6 (putO (tab1 Rows.laid_unicode_utf8_first))).modify 7 (putO (tab2 Rows.laid_unicode_utf8_acceptRanges)) }
set_option maxRecDepth 100000 in
theorem laid_met (os : Os) (args : Array Value) : laidMetH Tryz.prog laidL ((laidWorld os).forCall (fun _ _ => 0) ⟨#[], args, []⟩).memory := by
 rw [MakeChecks.laidMetH_plain _ _ _ z_5]
 exact laidMet_of_run3 8 z_5 z_5 z_5
set_option maxRecDepth 100000 in
theorem laid_vars (os : Os) (args : Array Value) : ((laidWorld os).forCall (fun _ _ => 0) ⟨#[], args, []⟩).variablesRefB Tryz.prog = true := by kernel_rfl
set_option maxRecDepth 100000 in
theorem laid_rest (os : Os) (args : Array Value) : (((laidWorld os).forCall (fun _ _ => 0) ⟨#[], args, []⟩).heap.toList.drop Tryz.prog.globals.size).take ((begin Tryz.prog (fun _ _ => 0) default).world.heap.size - Tryz.prog.globals.size) =
   (begin Tryz.prog (fun _ _ => 0) default).world.heap.toList.drop Tryz.prog.globals.size := by kernel_rfl
end Go.Proofs.YtgllpcggdcknaaaGreatDoor.Rp
namespace Go.Proofs.YtgllpcggdcknaaaGreatDoor.Rp
open Go Go.Sl Go.RowKit
mutual
theorem bulk_eq {H : Type} : ∀ d : DataW H, Rows.uptoBulk d = bulkOf d
 | .lit l => by cases l <;> rfl
 | .nil => rfl
 | .ptr d => by simp only [Rows.uptoBulk, bulkOf, bulk_eq d]
 | .slice e s => by simp only [Rows.uptoBulk, bulkOf, bulk_all e, bulk_all s]
 | .agg p => by simp only [Rows.uptoBulk, bulkOf, bulk_all p]
 | .iface _ d => by simp only [Rows.uptoBulk, bulkOf, bulk_eq d]
 | .map e => by simp only [Rows.uptoBulk, bulkOf, bulk_entries e]
 | .held _ => rfl
theorem bulk_all {H : Type} : ∀ l : List (DataW H), Rows.uptoBulkAll l = bulkAll l
 | [] => rfl
 | d :: r => by simp only [Rows.uptoBulkAll, bulkAll, bulk_eq d, bulk_all r]
theorem bulk_entries {H : Type} : ∀ l : List (Lit × DataW H), Rows.uptoBulkEntries l = bulkEntries l
 | [] => rfl
 | x :: r => by simp only [Rows.uptoBulkEntries, bulkEntries, bulk_entry x, bulk_entries r]
theorem bulk_entry {H : Type} : ∀ x : Lit × DataW H, Rows.uptoBulkEntry x = bulkEntry x
 | (l, d) => by cases l <;> simp only [Rows.uptoBulkEntry, bulkEntry, bulk_eq d]
end
theorem own : ownKnob Tryz.prog.godebug = none := by kernel_rfl
end Go.Proofs.YtgllpcggdcknaaaGreatDoor.Rp
