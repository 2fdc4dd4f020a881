import Derived.Test.YtgllpcggdcknaaaGreatDoorKx9
import Derived.Test.YtgllpcggdcknaaaGreatDoorKx8
set_option linter.unusedVariables false
set_option linter.unusedSimpArgs false
namespace Go.Proofs.YtgllpcggdcknaaaGreatDoor.Rp
open Go Go.Sl Go.RowKit
structure SzW (r : RR) : Prop where
 sz : SzR r
 nj : (numsP r.nums).length ≤ big
 cj : (joinS [32] (cellsP r)).length ≤ big
structure CapL (r : RR) (x : RL) : Prop where
 f : r.flags.length ≤ x.fc
 v : ∀ m ∈ x.vs, m.v.flags.length ≤ m.c
abbrev PreW (r : RR) (x : RL) (h : Heap) : Prop := Gl h ∧ RRd r x h
theorem textP_5 {r : RR} (hk : r.kind = 5) : textP r = 43 :: 32 :: r.text := by
 unfold textP
 rw [hk]
 rfl
set_option maxRecDepth 8000 in
theorem textW_5 (r : RR) (x : RL) (hz : SzW r) (hc : CapL r x) (hv : r.values = x.vs.map VM.v) (hk : r.kind = 5) : Pu Tryz.prog 15 [rrA r x] (PreW r x) (B (textP r)) := by
 rw [textP_5 hk]
 have hx := hz.sz.text
 unfold big at hx
 refine ct_enter 159 Tryz.func15 rfl rfl rfl ?_
 intro F hh
 have hg := hh.1
 have hrr := hh.2
 repeat refine x_ ?_
 refine gl_boxA rfl rfl ?_; intro g1
 refine a_ ?_
 repeat refine x_ ?_
 refine f_ z_1 ?_
 refine r_ (by exact s_load_blk rfl z_3 a10_0) ?_
 repeat refine x_ ?_
 refine f_ ((s_eql rfl rfl).eq (v' := .bool false) (congrArg Value.bool (decide_eq_false (by omega)))) ?_
 refine a_ ?_
 repeat refine x_ ?_
 refine f_ ((s_eql rfl rfl).eq (v' := .bool false) (congrArg Value.bool (decide_eq_false (by omega)))) ?_
 refine a_ ?_
 repeat refine x_ ?_
 refine f_ ((s_eql rfl rfl).eq (v' := .bool false) (congrArg Value.bool (decide_eq_false (by omega)))) ?_
 refine a_ ?_
 repeat refine x_ ?_
 refine f_ ((s_eql rfl rfl).eq (v' := .bool false) (congrArg Value.bool (decide_eq_false (by omega)))) ?_
 refine a_ ?_
 repeat refine x_ ?_
 refine f_ ((s_eql rfl rfl).eq (v' := .bool true) (congrArg Value.bool (decide_eq_true hk))) ?_
 refine a_ ?_
 repeat refine x_ ?_
 refine f_ z_1 ?_
 refine r_ (by exact s_load_blk rfl z_3 a10_3) ?_
 refine f_ ((s_add_str rfl rfl (by simp only [List.length_cons, List.length_nil]; omega)).eq (v' := B (43 :: 32 :: r.text)) rfl) ?_
 refine a_ ?_
 repeat refine n_ ?_
 refine g_ret ?_
 exact at_end1 rfl rfl [] ⟨rfl, rfl⟩ (fun w hw => hw.dropAll)
theorem textP_6 {r : RR} (hk : r.kind = 6) : textP r = caps := by
 unfold textP
 rw [hk]
 rfl
set_option maxRecDepth 8000 in
theorem textW_6 (r : RR) (x : RL) (hz : SzW r) (hc : CapL r x) (hv : r.values = x.vs.map VM.v) (hk : r.kind = 6) : Pu Tryz.prog 15 [rrA r x] (PreW r x) (B (textP r)) := by
 rw [textP_6 hk]
 refine ct_enter 159 Tryz.func15 rfl rfl rfl ?_
 intro F hh
 have hg := hh.1
 have hrr := hh.2
 repeat refine x_ ?_
 refine gl_boxA rfl rfl ?_; intro g1
 refine a_ ?_
 repeat refine x_ ?_
 refine f_ z_1 ?_
 refine r_ (by exact s_load_blk rfl z_3 a10_0) ?_
 repeat refine x_ ?_
 refine f_ ((s_eql rfl rfl).eq (v' := .bool false) (congrArg Value.bool (decide_eq_false (by omega)))) ?_
 refine a_ ?_
 repeat refine x_ ?_
 refine f_ ((s_eql rfl rfl).eq (v' := .bool false) (congrArg Value.bool (decide_eq_false (by omega)))) ?_
 refine a_ ?_
 repeat refine x_ ?_
 refine f_ ((s_eql rfl rfl).eq (v' := .bool false) (congrArg Value.bool (decide_eq_false (by omega)))) ?_
 refine a_ ?_
 repeat refine x_ ?_
 refine f_ ((s_eql rfl rfl).eq (v' := .bool false) (congrArg Value.bool (decide_eq_false (by omega)))) ?_
 refine a_ ?_
 repeat refine x_ ?_
 refine f_ ((s_eql rfl rfl).eq (v' := .bool false) (congrArg Value.bool (decide_eq_false (by omega)))) ?_
 refine a_ ?_
 repeat refine x_ ?_
 refine f_ ((s_eql rfl rfl).eq (v' := .bool true) (congrArg Value.bool (decide_eq_true hk))) ?_
 refine a_ ?_
 repeat refine x_ ?_
 refine a_ ?_
 repeat refine n_ ?_
 refine g_ret ?_
 exact at_end1 rfl rfl [] ⟨rfl, rfl⟩ (fun w hw => hw.dropAll)
theorem textP_7 {r : RR} (hk : r.kind = 7) : textP r = enab := by
 unfold textP
 rw [hk]
 rfl
set_option maxRecDepth 8000 in
theorem textW_7 (r : RR) (x : RL) (hz : SzW r) (hc : CapL r x) (hv : r.values = x.vs.map VM.v) (hk : r.kind = 7) : Pu Tryz.prog 15 [rrA r x] (PreW r x) (B (textP r)) := by
 rw [textP_7 hk]
 refine ct_enter 159 Tryz.func15 rfl rfl rfl ?_
 intro F hh
 have hg := hh.1
 have hrr := hh.2
 repeat refine x_ ?_
 refine gl_boxA rfl rfl ?_; intro g1
 refine a_ ?_
 repeat refine x_ ?_
 refine f_ z_1 ?_
 refine r_ (by exact s_load_blk rfl z_3 a10_0) ?_
 repeat refine x_ ?_
 refine f_ ((s_eql rfl rfl).eq (v' := .bool false) (congrArg Value.bool (decide_eq_false (by omega)))) ?_
 refine a_ ?_
 repeat refine x_ ?_
 refine f_ ((s_eql rfl rfl).eq (v' := .bool false) (congrArg Value.bool (decide_eq_false (by omega)))) ?_
 refine a_ ?_
 repeat refine x_ ?_
 refine f_ ((s_eql rfl rfl).eq (v' := .bool false) (congrArg Value.bool (decide_eq_false (by omega)))) ?_
 refine a_ ?_
 repeat refine x_ ?_
 refine f_ ((s_eql rfl rfl).eq (v' := .bool false) (congrArg Value.bool (decide_eq_false (by omega)))) ?_
 refine a_ ?_
 repeat refine x_ ?_
 refine f_ ((s_eql rfl rfl).eq (v' := .bool false) (congrArg Value.bool (decide_eq_false (by omega)))) ?_
 refine a_ ?_
 repeat refine x_ ?_
 refine f_ ((s_eql rfl rfl).eq (v' := .bool false) (congrArg Value.bool (decide_eq_false (by omega)))) ?_
 refine a_ ?_
 repeat refine x_ ?_
 refine f_ ((s_eql rfl rfl).eq (v' := .bool true) (congrArg Value.bool (decide_eq_true hk))) ?_
 refine a_ ?_
 repeat refine x_ ?_
 refine a_ ?_
 repeat refine n_ ?_
 refine g_ret ?_
 exact at_end1 rfl rfl [] ⟨rfl, rfl⟩ (fun w hw => hw.dropAll)
theorem textP_8 {r : RR} (hk : r.kind = 8) : textP r = 42 :: 32 :: digS r.n ++ wExists := by
 unfold textP
 rw [hk]
 rfl
set_option maxRecDepth 8000 in
theorem textW_8 (r : RR) (x : RL) (hz : SzW r) (hc : CapL r x) (hv : r.values = x.vs.map VM.v) (hk : r.kind = 8) : Pu Tryz.prog 15 [rrA r x] (PreW r x) (B (textP r)) := by
 rw [textP_8 hk]
 have hn := hz.sz.n
 have hd := digS_len64 hn
 refine ct_enter 159 Tryz.func15 rfl rfl rfl ?_
 intro F hh
 have hg := hh.1
 have hrr := hh.2
 repeat refine x_ ?_
 refine gl_boxA rfl rfl ?_; intro g1
 refine a_ ?_
 repeat refine x_ ?_
 refine f_ z_1 ?_
 refine r_ (by exact s_load_blk rfl z_3 a10_0) ?_
 repeat refine x_ ?_
 refine f_ ((s_eql rfl rfl).eq (v' := .bool false) (congrArg Value.bool (decide_eq_false (by omega)))) ?_
 refine a_ ?_
 repeat refine x_ ?_
 refine f_ ((s_eql rfl rfl).eq (v' := .bool false) (congrArg Value.bool (decide_eq_false (by omega)))) ?_
 refine a_ ?_
 repeat refine x_ ?_
 refine f_ ((s_eql rfl rfl).eq (v' := .bool false) (congrArg Value.bool (decide_eq_false (by omega)))) ?_
 refine a_ ?_
 repeat refine x_ ?_
 refine f_ ((s_eql rfl rfl).eq (v' := .bool false) (congrArg Value.bool (decide_eq_false (by omega)))) ?_
 refine a_ ?_
 repeat refine x_ ?_
 refine f_ ((s_eql rfl rfl).eq (v' := .bool false) (congrArg Value.bool (decide_eq_false (by omega)))) ?_
 refine a_ ?_
 repeat refine x_ ?_
 refine f_ ((s_eql rfl rfl).eq (v' := .bool false) (congrArg Value.bool (decide_eq_false (by omega)))) ?_
 refine a_ ?_
 repeat refine x_ ?_
 refine f_ ((s_eql rfl rfl).eq (v' := .bool false) (congrArg Value.bool (decide_eq_false (by omega)))) ?_
 refine a_ ?_
 repeat refine x_ ?_
 refine f_ ((s_eql rfl rfl).eq (v' := .bool true) (congrArg Value.bool (decide_eq_true hk))) ?_
 refine a_ ?_
 repeat refine x_ ?_
 refine f_ z_1 ?_
 refine r_ (by exact s_load_blk rfl z_3 a10_4) ?_
 refine gl_callp rfl (Digits_ct r.n (by omega)) (fun h hh hb => hg.le hh) rfl ?_
 refine f_ (s_add_str rfl rfl (by simp only [List.length_cons, List.length_nil]; omega)) ?_
 refine f_ ((s_add_str rfl rfl (by simp only [List.length_append, List.length_cons, List.length_nil]; omega)).eq (v' := B (42 :: 32 :: digS r.n ++ wExists)) rfl) ?_
 refine a_ ?_
 repeat refine n_ ?_
 refine g_ret ?_
 exact at_end1 rfl rfl [] ⟨rfl, rfl⟩ (fun w hw => hw.dropAll)
theorem textP_9 {r : RR} (hk : r.kind = 9) : textP r = 42 :: 32 :: digS r.n ++ wExpunge := by
 unfold textP
 rw [hk]
 rfl
set_option maxRecDepth 8000 in
theorem textW_9 (r : RR) (x : RL) (hz : SzW r) (hc : CapL r x) (hv : r.values = x.vs.map VM.v) (hk : r.kind = 9) : Pu Tryz.prog 15 [rrA r x] (PreW r x) (B (textP r)) := by
 rw [textP_9 hk]
 have hn := hz.sz.n
 have hd := digS_len64 hn
 refine ct_enter 159 Tryz.func15 rfl rfl rfl ?_
 intro F hh
 have hg := hh.1
 have hrr := hh.2
 repeat refine x_ ?_
 refine gl_boxA rfl rfl ?_; intro g1
 refine a_ ?_
 repeat refine x_ ?_
 refine f_ z_1 ?_
 refine r_ (by exact s_load_blk rfl z_3 a10_0) ?_
 repeat refine x_ ?_
 refine f_ ((s_eql rfl rfl).eq (v' := .bool false) (congrArg Value.bool (decide_eq_false (by omega)))) ?_
 refine a_ ?_
 repeat refine x_ ?_
 refine f_ ((s_eql rfl rfl).eq (v' := .bool false) (congrArg Value.bool (decide_eq_false (by omega)))) ?_
 refine a_ ?_
 repeat refine x_ ?_
 refine f_ ((s_eql rfl rfl).eq (v' := .bool false) (congrArg Value.bool (decide_eq_false (by omega)))) ?_
 refine a_ ?_
 repeat refine x_ ?_
 refine f_ ((s_eql rfl rfl).eq (v' := .bool false) (congrArg Value.bool (decide_eq_false (by omega)))) ?_
 refine a_ ?_
 repeat refine x_ ?_
 refine f_ ((s_eql rfl rfl).eq (v' := .bool false) (congrArg Value.bool (decide_eq_false (by omega)))) ?_
 refine a_ ?_
 repeat refine x_ ?_
 refine f_ ((s_eql rfl rfl).eq (v' := .bool false) (congrArg Value.bool (decide_eq_false (by omega)))) ?_
 refine a_ ?_
 repeat refine x_ ?_
 refine f_ ((s_eql rfl rfl).eq (v' := .bool false) (congrArg Value.bool (decide_eq_false (by omega)))) ?_
 refine a_ ?_
 repeat refine x_ ?_
 refine f_ ((s_eql rfl rfl).eq (v' := .bool false) (congrArg Value.bool (decide_eq_false (by omega)))) ?_
 refine a_ ?_
 repeat refine x_ ?_
 refine f_ ((s_eql rfl rfl).eq (v' := .bool true) (congrArg Value.bool (decide_eq_true hk))) ?_
 refine a_ ?_
 repeat refine x_ ?_
 refine f_ z_1 ?_
 refine r_ (by exact s_load_blk rfl z_3 a10_4) ?_
 refine gl_callp rfl (Digits_ct r.n (by omega)) (fun h hh hb => hg.le hh) rfl ?_
 refine f_ (s_add_str rfl rfl (by simp only [List.length_cons, List.length_nil]; omega)) ?_
 refine f_ ((s_add_str rfl rfl (by simp only [List.length_append, List.length_cons, List.length_nil]; omega)).eq (v' := B (42 :: 32 :: digS r.n ++ wExpunge)) rfl) ?_
 refine a_ ?_
 repeat refine n_ ?_
 refine g_ret ?_
 exact at_end1 rfl rfl [] ⟨rfl, rfl⟩ (fun w hw => hw.dropAll)
theorem textP_10 {r : RR} (hk : r.kind = 10) : textP r = 42 :: 32 :: wFlags ++ printF r.flags := by
 unfold textP
 rw [hk]
 rfl
set_option maxRecDepth 8000 in
theorem textW_10 (r : RR) (x : RL) (hz : SzW r) (hc : CapL r x) (hv : r.values = x.vs.map VM.v) (hk : r.kind = 10) : Pu Tryz.prog 15 [rrA r x] (PreW r x) (B (textP r)) := by
 rw [textP_10 hk]
 have h1 := hz.sz.fl
 have h3 := hz.sz.fj
 have hp : (printF r.flags).length ≤ 1000000000002 := by unfold big at h3; unfold printF; simp; omega
 unfold big at h1 h3
 refine ct_enter 159 Tryz.func15 rfl rfl rfl ?_
 intro F hh
 have hg := hh.1
 have hrr := hh.2
 repeat refine x_ ?_
 refine gl_boxA rfl rfl ?_; intro g1
 refine a_ ?_
 repeat refine x_ ?_
 refine f_ z_1 ?_
 refine r_ (by exact s_load_blk rfl z_3 a10_0) ?_
 repeat refine x_ ?_
 refine f_ ((s_eql rfl rfl).eq (v' := .bool false) (congrArg Value.bool (decide_eq_false (by omega)))) ?_
 refine a_ ?_
 repeat refine x_ ?_
 refine f_ ((s_eql rfl rfl).eq (v' := .bool false) (congrArg Value.bool (decide_eq_false (by omega)))) ?_
 refine a_ ?_
 repeat refine x_ ?_
 refine f_ ((s_eql rfl rfl).eq (v' := .bool false) (congrArg Value.bool (decide_eq_false (by omega)))) ?_
 refine a_ ?_
 repeat refine x_ ?_
 refine f_ ((s_eql rfl rfl).eq (v' := .bool false) (congrArg Value.bool (decide_eq_false (by omega)))) ?_
 refine a_ ?_
 repeat refine x_ ?_
 refine f_ ((s_eql rfl rfl).eq (v' := .bool false) (congrArg Value.bool (decide_eq_false (by omega)))) ?_
 refine a_ ?_
 repeat refine x_ ?_
 refine f_ ((s_eql rfl rfl).eq (v' := .bool false) (congrArg Value.bool (decide_eq_false (by omega)))) ?_
 refine a_ ?_
 repeat refine x_ ?_
 refine f_ ((s_eql rfl rfl).eq (v' := .bool false) (congrArg Value.bool (decide_eq_false (by omega)))) ?_
 refine a_ ?_
 repeat refine x_ ?_
 refine f_ ((s_eql rfl rfl).eq (v' := .bool false) (congrArg Value.bool (decide_eq_false (by omega)))) ?_
 refine a_ ?_
 repeat refine x_ ?_
 refine f_ ((s_eql rfl rfl).eq (v' := .bool false) (congrArg Value.bool (decide_eq_false (by omega)))) ?_
 refine a_ ?_
 repeat refine x_ ?_
 refine f_ ((s_eql rfl rfl).eq (v' := .bool true) (congrArg Value.bool (decide_eq_true hk))) ?_
 refine a_ ?_
 repeat refine x_ ?_
 refine f_ z_1 ?_
 refine r_ (by exact s_load_blk rfl z_3 a10_7) ?_
 refine gl_callp rfl (PrintP_ct r.flags x.fa x.fc hc.f (by omega) (by omega)) (fun h hh hb => hrr.flags.le hh) rfl ?_
 refine f_ ((s_add_str rfl rfl (by simp only [List.length_cons, List.length_nil]; omega)).eq (v' := B (42 :: 32 :: wFlags ++ printF r.flags)) rfl) ?_
 refine a_ ?_
 repeat refine n_ ?_
 refine g_ret ?_
 exact at_end1 rfl rfl [] ⟨rfl, rfl⟩ (fun w hw => hw.dropAll)
theorem textP_11 {r : RR} (hk : r.kind = 11) : textP r = 42 :: 32 :: wList ++ formS r.box := by
 unfold textP
 rw [hk]
 rfl
set_option maxRecDepth 8000 in
theorem textW_11 (r : RR) (x : RL) (hz : SzW r) (hc : CapL r x) (hv : r.values = x.vs.map VM.v) (hk : r.kind = 11) : Pu Tryz.prog 15 [rrA r x] (PreW r x) (B (textP r)) := by
 rw [textP_11 hk]
 have h1 := hz.sz.box
 have hp := form_len r.box h1
 have h1' := h1
 unfold big at h1
 refine ct_enter 159 Tryz.func15 rfl rfl rfl ?_
 intro F hh
 have hg := hh.1
 have hrr := hh.2
 repeat refine x_ ?_
 refine gl_boxA rfl rfl ?_; intro g1
 refine a_ ?_
 repeat refine x_ ?_
 refine f_ z_1 ?_
 refine r_ (by exact s_load_blk rfl z_3 a10_0) ?_
 repeat refine x_ ?_
 refine f_ ((s_eql rfl rfl).eq (v' := .bool false) (congrArg Value.bool (decide_eq_false (by omega)))) ?_
 refine a_ ?_
 repeat refine x_ ?_
 refine f_ ((s_eql rfl rfl).eq (v' := .bool false) (congrArg Value.bool (decide_eq_false (by omega)))) ?_
 refine a_ ?_
 repeat refine x_ ?_
 refine f_ ((s_eql rfl rfl).eq (v' := .bool false) (congrArg Value.bool (decide_eq_false (by omega)))) ?_
 refine a_ ?_
 repeat refine x_ ?_
 refine f_ ((s_eql rfl rfl).eq (v' := .bool false) (congrArg Value.bool (decide_eq_false (by omega)))) ?_
 refine a_ ?_
 repeat refine x_ ?_
 refine f_ ((s_eql rfl rfl).eq (v' := .bool false) (congrArg Value.bool (decide_eq_false (by omega)))) ?_
 refine a_ ?_
 repeat refine x_ ?_
 refine f_ ((s_eql rfl rfl).eq (v' := .bool false) (congrArg Value.bool (decide_eq_false (by omega)))) ?_
 refine a_ ?_
 repeat refine x_ ?_
 refine f_ ((s_eql rfl rfl).eq (v' := .bool false) (congrArg Value.bool (decide_eq_false (by omega)))) ?_
 refine a_ ?_
 repeat refine x_ ?_
 refine f_ ((s_eql rfl rfl).eq (v' := .bool false) (congrArg Value.bool (decide_eq_false (by omega)))) ?_
 refine a_ ?_
 repeat refine x_ ?_
 refine f_ ((s_eql rfl rfl).eq (v' := .bool false) (congrArg Value.bool (decide_eq_false (by omega)))) ?_
 refine a_ ?_
 repeat refine x_ ?_
 refine f_ ((s_eql rfl rfl).eq (v' := .bool false) (congrArg Value.bool (decide_eq_false (by omega)))) ?_
 refine a_ ?_
 repeat refine x_ ?_
 refine f_ ((s_eql rfl rfl).eq (v' := .bool true) (congrArg Value.bool (decide_eq_true hk))) ?_
 refine a_ ?_
 repeat refine x_ ?_
 refine f_ z_1 ?_
 refine r_ (by exact s_load_blk rfl z_3 a10_8) ?_
 refine gl_callp rfl (FormW_ct r.box h1') (fun h hh hb => hg.le hh) rfl ?_
 refine f_ ((s_add_str rfl rfl (by simp only [List.length_cons, List.length_nil]; omega)).eq (v' := B (42 :: 32 :: wList ++ formS r.box)) rfl) ?_
 refine a_ ?_
 repeat refine n_ ?_
 refine g_ret ?_
 exact at_end1 rfl rfl [] ⟨rfl, rfl⟩ (fun w hw => hw.dropAll)
theorem textP_s {r : RR} (h : 1 ≤ r.kind ∧ r.kind ≤ 4) : textP r = r.tag ++ 32 :: statW.getD (r.kind.toNat - 1) [] ++ 32 :: codeP r.code ++ r.text := by
 unfold textP
 rw [if_pos h]
set_option maxRecDepth 8000 in
theorem textW_s (r : RR) (x : RL) (hz : SzW r) (hv : r.values = x.vs.map VM.v) (hk : 1 ≤ r.kind ∧ r.kind ≤ 4) : Pu Tryz.prog 15 [rrA r x] (PreW r x) (B (textP r)) := by
 rw [textP_s hk]
 obtain ⟨k, hkk⟩ : ∃ k : Nat, r.kind = (k : Int) + 1 := ⟨(r.kind - 1).toNat, by omega⟩
 have hk4 : k < 4 := by omega
 obtain ⟨W, hW⟩ : ∃ W, W = statW.getD (r.kind.toNat - 1) [] := ⟨_, rfl⟩
 have hWl : W.length ≤ 3 := by rw [hW]; exact stat_len _
 have hWk : statW.getD k [] = W := by rw [hW]; congr 1; omega
 rw [← hW]
 have htl := hz.sz.text
 have hcl := hz.sz.code
 have hgl := hz.sz.tag
 unfold big at htl hcl hgl
 obtain ⟨q4, hq4⟩ : ∃ q, q = decide (r.code = []) := ⟨_, rfl⟩
 refine ct_enter 159 Tryz.func15 rfl rfl rfl ?_
 intro F hh
 repeat refine x_ ?_
 refine gl_boxA rfl rfl ?_; intro g1
 refine a_ ?_
 repeat refine x_ ?_
 refine f_ z_1 ?_
 refine r_ (by exact s_load_blk rfl z_3 a10_0) ?_
 repeat refine x_ ?_
 refine f_ ((s_eql rfl rfl).eq (v' := .bool (decide (r.kind = 1))) rfl) ?_
 refine a_ ?_
 repeat refine n_ ?_
 refine g_cutK [(1, Ptr g1), (13, .bool true)] [blkR g1 r x] ?_ ?_
 ·refine g_cond rfl (fun h => ?_) (fun h1 => ?_)
  ·rw [h]
   repeat refine y_ ?_
   exact at_cut j_ i_
  ·repeat refine y_ ?_
   refine g_region ?_
   refine f_ ((s_eql rfl rfl).eq (v' := .bool (decide (r.kind = 2))) rfl) ?_
   refine a_ ?_
   repeat refine n_ ?_
   refine g_cond rfl (fun h => ?_) (fun h2 => ?_)
   ·rw [h]
    repeat refine y_ ?_
    exact at_cut j_ i_
   ·repeat refine y_ ?_
    refine g_region ?_
    refine f_ ((s_eql rfl rfl).eq (v' := .bool (decide (r.kind = 3))) rfl) ?_
    refine a_ ?_
    repeat refine n_ ?_
    refine g_cond rfl (fun h => ?_) (fun h3 => ?_)
    ·rw [h]
     repeat refine y_ ?_
     exact at_cut j_ i_
    ·have h4 : r.kind = 4 := by
      have := of_decide_eq_false h1
      have := of_decide_eq_false h2
      have := of_decide_eq_false h3
      omega
     repeat refine x_ ?_
     refine f_ ((s_eql rfl rfl).eq (v' := .bool true) (congrArg Value.bool (decide_eq_true h4))) ?_
     refine a_ ?_
     repeat refine n_ ?_
     exact at_cut j_ i_
 repeat refine y_ ?_
 refine g_draw ([1, 4], [0, 1, 3, 0, 8, 24, 63, 127, 255], [5]) [blkR g1 r x] 9 rfl ?_
 refine w_ 0 rfl z_1 ?_
 (refine ga_read_k 1 rfl (by exact .head _) (s_load_blk rfl .del a10_1) (by (exact fun _ h => h)) rfl rfl rfl z_5 ?_)
 refine w_ 2 rfl (s_add_str rfl rfl (by simp only [List.length_singleton]; omega)) ?_
 refine w_ 3 rfl z_1 ?_
 (refine ga_read_k 4 rfl (by exact .head _) (s_load_blk rfl .del a10_0) (by (exact fun _ h => h)) rfl rfl rfl z_5 ?_)
 refine ga_one 5 rfl z_5 ?_
 refine gl_callp (v := B W) rfl (by rw [hkk, ← hWk]; exact status_ct k hk4) (fun _ _ _ => trivial) rfl ?_
 refine gl_nil ?_
 refine at_ga (.inr (by exact keeps_of (by (exact fun _ h => h)))) ?_
 refine w_ 6 rfl (s_add_str rfl rfl (by simp only [List.length_append, List.length_singleton]; omega)) ?_
 refine w_ 7 rfl ((s_add_str rfl rfl (by simp only [List.length_append, List.length_singleton]; omega)).eq (v' := B (r.tag ++ 32 :: W ++ [32])) z_8) ?_
 refine w_ 8 rfl (s_assign rfl) ?_
 refine ga_done z_5 ?_
 repeat refine x_ ?_
 refine f_ z_1 ?_
 refine r_ (by exact s_load_blk rfl z_3 a10_2) ?_
 refine f_ ((s_neq_str rfl rfl).eq (v' := .bool (!q4)) (congrArg (fun b => Value.bool (!b)) hq4.symm)) ?_
 repeat refine n_ ?_
 cases q4 with
 | false =>
  have hc : r.code ≠ [] := of_decide_eq_false hq4.symm
  have ec : codeP r.code = 91 :: r.code ++ [93, 32] := by unfold codeP; rw [if_neg hc]
  rw [ec]
  repeat refine x_ ?_
  refine m_ ?_
  refine f_ z_1 ?_
  refine r_ (by exact s_load_blk rfl z_3 a10_2) ?_
  refine f_ (s_add_str rfl rfl (by simp only [List.length_cons, List.length_nil]; omega)) ?_
  refine f_ (s_add_str rfl rfl (by simp only [List.length_append, List.length_cons, List.length_nil]; omega)) ?_
  refine f_ (s_add_str rfl rfl (by simp only [List.length_append, List.length_cons, List.length_nil]; omega)) ?_
  refine a_ ?_
  repeat refine x_ ?_
  refine m_ ?_
  refine f_ z_1 ?_
  refine r_ (by exact s_load_blk rfl z_3 a10_3) ?_
  refine f_ ((s_add_str rfl rfl (by simp only [List.length_append, List.length_cons, List.length_nil]; omega)).eq (v' := B (r.tag ++ 32 :: W ++ 32 :: (91 :: r.code ++ [93, 32]) ++ r.text)) z_8) ?_
  refine a_ ?_
  repeat refine n_ ?_
  refine g_ret ?_
  exact at_end1 rfl rfl [] ⟨rfl, rfl⟩ (fun w hw => hw.dropAll)
 | true =>
  have hc : r.code = [] := of_decide_eq_true hq4.symm
  have ec : codeP r.code = [] := by unfold codeP; rw [if_pos hc]
  rw [ec]
  repeat refine x_ ?_
  refine m_ ?_
  refine f_ z_1 ?_
  refine r_ (by exact s_load_blk rfl z_3 a10_3) ?_
  refine f_ ((s_add_str rfl rfl (by simp only [List.length_append, List.length_cons, List.length_nil]; omega)).eq (v' := B (r.tag ++ 32 :: W ++ 32 :: [] ++ r.text)) z_8) ?_
  refine a_ ?_
  repeat refine n_ ?_
  refine g_ret ?_
  exact at_end1 rfl rfl [] ⟨rfl, rfl⟩ (fun w hw => hw.dropAll)
theorem textP_13 {r : RR} (hk : r.kind = 13) : textP r = 42 :: 32 :: wSearch ++ numsP r.nums ++ modP r.mod := by
 unfold textP
 rw [hk]
 rfl
theorem numsP_take {l : List Nat} (j : Nat) : (numsP (l.take j)).length ≤ (numsP l).length := by
 have e : numsP l = numsP (l.take j) ++ numsP (l.drop j) := by
  rw [show numsP l = numsP (l.take j ++ l.drop j) by rw [List.take_append_drop]]
  unfold numsP
  exact List.flatMap_append
 rw [e, List.length_append]
 omega
set_option maxRecDepth 8000 in
theorem textW_13 (r : RR) (x : RL) (hz : SzW r) (hv : r.values = x.vs.map VM.v) (hk : r.kind = 13) : Pu Tryz.prog 15 [rrA r x] (PreW r x) (B (textP r)) := by
 rw [textP_13 hk]
 have hm := hz.sz.mod
 have hns := hz.sz.ns
 have hnl := hz.sz.nl
 have hnj := hz.nj
 unfold big at hnl hnj
 have hdm := digS_len64 hm
 refine ct_enter 159 Tryz.func15 rfl rfl rfl ?_
 intro F hh
 have hg := hh.1
 have hrr := hh.2
 repeat refine x_ ?_
 refine gl_boxA rfl rfl ?_; intro g1
 refine a_ ?_
 repeat refine x_ ?_
 refine f_ z_1 ?_
 refine r_ (by exact s_load_blk rfl z_3 a10_0) ?_
 repeat refine x_ ?_
 refine f_ ((s_eql rfl rfl).eq (v' := .bool false) (congrArg Value.bool (decide_eq_false (by omega)))) ?_
 refine a_ ?_
 repeat refine x_ ?_
 refine f_ ((s_eql rfl rfl).eq (v' := .bool false) (congrArg Value.bool (decide_eq_false (by omega)))) ?_
 refine a_ ?_
 repeat refine x_ ?_
 refine f_ ((s_eql rfl rfl).eq (v' := .bool false) (congrArg Value.bool (decide_eq_false (by omega)))) ?_
 refine a_ ?_
 repeat refine x_ ?_
 refine f_ ((s_eql rfl rfl).eq (v' := .bool false) (congrArg Value.bool (decide_eq_false (by omega)))) ?_
 refine a_ ?_
 repeat refine x_ ?_
 refine f_ ((s_eql rfl rfl).eq (v' := .bool false) (congrArg Value.bool (decide_eq_false (by omega)))) ?_
 refine a_ ?_
 repeat refine x_ ?_
 refine f_ ((s_eql rfl rfl).eq (v' := .bool false) (congrArg Value.bool (decide_eq_false (by omega)))) ?_
 refine a_ ?_
 repeat refine x_ ?_
 refine f_ ((s_eql rfl rfl).eq (v' := .bool false) (congrArg Value.bool (decide_eq_false (by omega)))) ?_
 refine a_ ?_
 repeat refine x_ ?_
 refine f_ ((s_eql rfl rfl).eq (v' := .bool false) (congrArg Value.bool (decide_eq_false (by omega)))) ?_
 refine a_ ?_
 repeat refine x_ ?_
 refine f_ ((s_eql rfl rfl).eq (v' := .bool false) (congrArg Value.bool (decide_eq_false (by omega)))) ?_
 refine a_ ?_
 repeat refine x_ ?_
 refine f_ ((s_eql rfl rfl).eq (v' := .bool false) (congrArg Value.bool (decide_eq_false (by omega)))) ?_
 refine a_ ?_
 repeat refine x_ ?_
 refine f_ ((s_eql rfl rfl).eq (v' := .bool false) (congrArg Value.bool (decide_eq_false (by omega)))) ?_
 refine a_ ?_
 repeat refine x_ ?_
 refine f_ ((s_eql rfl rfl).eq (v' := .bool true) (congrArg Value.bool (decide_eq_true hk))) ?_
 refine a_ ?_
 repeat refine n_ ?_
 have hrn := hrr.nums
 repeat refine x_ ?_
 refine a_ ?_
 repeat refine x_ ?_
 refine f_ z_1 ?_
 refine r_ (by exact s_load_blk rfl z_3 a10_5) ?_
 refine f_ (s_len_sl rfl) ?_
 refine m_ ?_
 repeat refine n_ ?_
 refine g_loop (ι := Nat) (fun j => j ≤ r.nums.length) (fun j => [(1, Ptr g1), (4, B (42 :: 32 :: wSearch ++ numsP (r.nums.take j))), (77, .slice x.na r.nums.length x.nc), (78, .int .i64 (r.nums.length : Nat)), (79, .int .i64 (j : Nat))]) (fun _ => [blkR g1 r x]) (fun j => r.nums.length - j) 0 (by omega) ?_ ?_ ?_
 ·simp only [List.take_zero]
  (repeat (first | exact Sub.nil _ | refine Sub.cons rfl ?_))
 ·intro w hw; exact hw
 rintro j hj
 have hnp := numsP_take (l := r.nums) j
 repeat refine x_ ?_
 refine f_ (s_lss rfl rfl) ?_
 repeat refine n_ ?_
 refine g_cond rfl (fun h => ?_) (fun h => ?_)
 ·have hj' : j < r.nums.length := by simp at h; omega
  have hsome := rdN_some hrn hj'
  have htk := takeN hj'
  have hng := hns _ (getN_mem hj')
  have hdl := digS_len64 hng
  obtain ⟨n, hn⟩ : ∃ n, n = r.nums.getD j 0 := ⟨_, rfl⟩
  rw [← hn] at htk hng hdl
  repeat refine x_ ?_
  refine f_ (s_indexAddr rfl (by assumption) rfl (by omega)) ?_
  refine r_ (s_load1 (v := .int .u64 (n : Nat)) rfl (fun w hw => by rw [hn]; exact rdN hw hrn (by omega) hj')) ?_
  refine a_ ?_
  repeat refine x_ ?_
  refine m_ ?_
  refine m_ ?_
  refine gl_callp rfl (Digits_ct n (by omega)) (fun h hh hb => hg.le hh) rfl ?_
  refine f_ (s_add_str rfl rfl (by simp only [List.length_singleton]; omega)) ?_
  refine f_ ((s_add_str rfl rfl (by simp only [List.length_append, List.length_cons, List.length_nil]; omega)).eq (v' := B (42 :: 32 :: wSearch ++ numsP (r.nums.take (j + 1)))) (by rw [htk]; unfold numsP; simp [List.flatMap_append])) ?_
  refine a_ ?_
  repeat refine x_ ?_
  refine f_ ((s_add_i64 rfl rfl (by omega)).eq (v' := .int .i64 ((j + 1 : Nat) : Int)) (by congr 1)) ?_
  refine m_ ?_
  repeat refine n_ ?_
  refine at_next (j + 1) (by omega) (by omega) ?_ ?_
  ·(repeat (first | exact Sub.nil _ | refine Sub.cons rfl ?_))
  ·intro w hw; exact hw
 have hjl : j = r.nums.length := by simp at h; omega
 subst hjl
 rw [List.take_length] at hnp ⊢
 obtain ⟨q, hq⟩ : ∃ q, q = decide (r.mod = 0) := ⟨_, rfl⟩
 repeat refine x_ ?_
 refine f_ z_1 ?_
 refine r_ (by exact s_load_blk rfl z_3 a10_6) ?_
 refine f_ ((s_gtr rfl rfl).eq (v' := .bool (!q)) (congrArg Value.bool (by rw [hq, Bool.eq_iff_iff]; simp; omega))) ?_
 repeat refine n_ ?_
 cases q with
 | true =>
  have hm0 : r.mod = 0 := of_decide_eq_true hq.symm
  have e : modP r.mod = [] := by unfold modP; rw [if_pos hm0]
  rw [e, List.append_nil]
  repeat refine x_ ?_
  refine m_ ?_
  refine a_ ?_
  repeat refine n_ ?_
  refine g_ret ?_
  exact at_end1 rfl rfl [] ⟨rfl, rfl⟩ (fun w hw => hw.dropAll)
 | false =>
  have hm0 : r.mod ≠ 0 := of_decide_eq_false hq.symm
  have e : modP r.mod = 32 :: wModseq ++ digS r.mod ++ [41] := by unfold modP; rw [if_neg hm0]
  rw [e]
  repeat refine x_ ?_
  refine m_ ?_
  refine f_ z_1 ?_
  refine r_ (by exact s_load_blk rfl z_3 a10_6) ?_
  refine gl_callp rfl (Digits_ct r.mod (by omega)) (fun h hh hb => hg.le hh) rfl ?_
  refine f_ (s_add_str rfl rfl (by simp only [List.length_cons, List.length_nil]; omega)) ?_
  refine f_ (s_add_str rfl rfl (by simp only [List.length_append, List.length_cons, List.length_nil]; omega)) ?_
  refine f_ ((s_add_str rfl rfl (by simp only [List.length_append, List.length_cons, List.length_nil]; omega)).eq (v' := B (42 :: 32 :: wSearch ++ numsP r.nums ++ (32 :: wModseq ++ digS r.mod ++ [41]))) z_8) ?_
  refine a_ ?_
  repeat refine x_ ?_
  refine m_ ?_
  refine a_ ?_
  repeat refine n_ ?_
  refine g_ret ?_
  exact at_end1 rfl rfl [] ⟨rfl, rfl⟩ (fun w hw => hw.dropAll)
end Go.Proofs.YtgllpcggdcknaaaGreatDoor.Rp
namespace Go.Proofs.YtgllpcggdcknaaaGreatDoor.Rp
open Go Go.Sl Go.RowKit
def cellF (k : Int) (v : RV) : List Bs := if k = 14 then [valueP v] else if 1 ≤ v.kind ∧ v.kind ≤ 5 then [countP v] else []
def cellJ (k : Int) (l : List VM) (j : Nat) : List Bs := (l.take j).flatMap fun m => cellF k m.v
theorem cellF_len (k : Int) (v : RV) : (cellF k v).length ≤ 1 := by
 unfold cellF
 split
 ·simp
 split <;> simp
theorem cellJ_len (k : Int) (l : List VM) : ∀ j, (cellJ k l j).length ≤ j := fun j => by
 have h : ∀ l : List VM, (l.flatMap fun m => cellF k m.v).length ≤ l.length := fun l => by
  induction l with
  | nil => simp
  | cons a t ih =>
   have := cellF_len k a.v
   simp only [List.flatMap_cons, List.length_append, List.length_cons]
   omega
 have := h (l.take j)
 rw [List.length_take] at this
 unfold cellJ
 omega
theorem cellJ_succ {k : Int} {l : List VM} {j : Nat} (hj : j < l.length) : cellJ k l (j + 1) = cellJ k l j ++ cellF k (l.getD j VM0).v := by
 have e : l.take (j + 1) = l.take j ++ [l.getD j VM0] := by
  rw [List.take_add_one, List.getD_eq_getElem?_getD, List.getElem?_eq_getElem hj]
  rfl
 unfold cellJ
 rw [e, List.flatMap_append]
 simp
theorem cellJ_all {r : RR} {x : RL} (hv : r.values = x.vs.map VM.v) : cellJ r.kind x.vs x.vs.length = cellsP r := by
 unfold cellJ cellsP
 rw [List.take_length, hv, List.flatMap_map]
 rfl
theorem fV_app (a b : List Bs) : fV (a ++ b) = fV a ++ fV b := by simp [fV]
set_option maxRecDepth 8000 in
theorem textW_v (r : RR) (x : RL) (hz : SzW r) (hc : CapL r x) (hv : r.values = x.vs.map VM.v) (hk : r.kind = 12 ∨ r.kind = 14) : Pu Tryz.prog 15 [rrA r x] (PreW r x) (B (textP r)) := by
 have hvl : r.values.length = x.vs.length := by rw [hv]; simp
 have hvb := hz.sz.vl
 have hcj := hz.cj
 have hxb := form_len r.box hz.sz.box
 have hbx := hz.sz.box
 have hdn := digS_len64 hz.sz.n
 have hn := hz.sz.n
 unfold big at hvb hcj hbx
 rw [hvl] at hvb
 have hsv : ∀ j, j < x.vs.length → SzV (x.vs.getD j VM0).v := fun j hj => hz.sz.vs _ (by rw [hv]; exact List.mem_map.mpr ⟨_, getVM_mem hj, rfl⟩)
 refine ct_enter 159 Tryz.func15 rfl rfl rfl ?_
 intro F hh
 have hg := hh.1
 have hrr := hh.2
 repeat refine x_ ?_
 refine gl_boxA rfl rfl ?_; intro g1
 refine a_ ?_
 repeat refine x_ ?_
 refine f_ z_1 ?_
 refine r_ (by exact s_load_blk rfl z_3 a10_0) ?_
 repeat refine x_ ?_
 refine f_ ((s_eql rfl rfl).eq (v' := .bool false) (congrArg Value.bool (decide_eq_false (by omega)))) ?_
 refine a_ ?_
 repeat refine x_ ?_
 refine f_ ((s_eql rfl rfl).eq (v' := .bool false) (congrArg Value.bool (decide_eq_false (by omega)))) ?_
 refine a_ ?_
 repeat refine x_ ?_
 refine f_ ((s_eql rfl rfl).eq (v' := .bool false) (congrArg Value.bool (decide_eq_false (by omega)))) ?_
 refine a_ ?_
 repeat refine x_ ?_
 refine f_ ((s_eql rfl rfl).eq (v' := .bool false) (congrArg Value.bool (decide_eq_false (by omega)))) ?_
 refine a_ ?_
 repeat refine x_ ?_
 refine f_ ((s_eql rfl rfl).eq (v' := .bool false) (congrArg Value.bool (decide_eq_false (by omega)))) ?_
 refine a_ ?_
 repeat refine x_ ?_
 refine f_ ((s_eql rfl rfl).eq (v' := .bool false) (congrArg Value.bool (decide_eq_false (by omega)))) ?_
 refine a_ ?_
 repeat refine x_ ?_
 refine f_ ((s_eql rfl rfl).eq (v' := .bool false) (congrArg Value.bool (decide_eq_false (by omega)))) ?_
 refine a_ ?_
 repeat refine x_ ?_
 refine f_ ((s_eql rfl rfl).eq (v' := .bool false) (congrArg Value.bool (decide_eq_false (by omega)))) ?_
 refine a_ ?_
 repeat refine x_ ?_
 refine f_ ((s_eql rfl rfl).eq (v' := .bool false) (congrArg Value.bool (decide_eq_false (by omega)))) ?_
 refine a_ ?_
 repeat refine x_ ?_
 refine f_ ((s_eql rfl rfl).eq (v' := .bool false) (congrArg Value.bool (decide_eq_false (by omega)))) ?_
 refine a_ ?_
 repeat refine x_ ?_
 refine f_ ((s_eql rfl rfl).eq (v' := .bool false) (congrArg Value.bool (decide_eq_false (by omega)))) ?_
 refine a_ ?_
 repeat refine x_ ?_
 refine f_ ((s_eql rfl rfl).eq (v' := .bool false) (congrArg Value.bool (decide_eq_false (by omega)))) ?_
 refine a_ ?_
 repeat refine n_ ?_
 have hrd := hrr.vs
 repeat refine x_ ?_
 refine a_ ?_
 repeat refine x_ ?_
 refine f_ z_1 ?_
 refine r_ (by exact s_load_blk rfl z_3 a10_9) ?_
 refine f_ (s_len_sl rfl) ?_
 refine m_ ?_
 repeat refine n_ ?_
 refine g_own_nil 9 1 ?_
 refine g_loop (ι := Nat × Option Addr × Nat) (fun i => i.1 ≤ x.vs.length) (fun i => [(1, Ptr g1), (7, .slice i.2.1 (cellJ r.kind x.vs i.1).length i.2.2), (101, .slice x.va x.vs.length x.vc), (102, .int .i64 (x.vs.length : Nat)), (103, .int .i64 (i.1 : Nat))]) (fun i => [OwnS i.2.1 (cellJ r.kind x.vs i.1) i.2.2, blkR g1 r x]) (fun i => x.vs.length - i.1) (0, none, 0) z_8 ?_ ?_ ?_
 ·(repeat (first | exact Sub.nil _ | refine Sub.cons rfl ?_))
 ·intro w hw; exact hw
 rintro ⟨j, a, c⟩ hj
 simp only at hj
 have hjl := cellJ_len r.kind x.vs j
 obtain ⟨cs, hcs⟩ : ∃ cs, cs = cellJ r.kind x.vs j := ⟨_, rfl⟩
 rw [← hcs] at hjl ⊢
 repeat refine x_ ?_
 refine f_ (s_lss rfl rfl) ?_
 repeat refine n_ ?_
 refine g_cond rfl (fun h => ?_) (fun h => ?_)
 ·have hj' : j < x.vs.length := by simp at h; omega
  have hs1 := rdVM_some hrd hj'
  have hsu := cellJ_succ (k := r.kind) hj'
  have hzm := hsv j hj'
  obtain ⟨m, hm⟩ : ∃ m, m = x.vs.getD j VM0 := ⟨_, rfl⟩
  rw [← hm] at hsu hzm
  rw [← hcs] at hsu
  have hmm : m ∈ x.vs := by rw [hm]; exact getVM_mem hj'
  have hrm := hrr.fs m hmm
  repeat refine x_ ?_
  refine f_ (s_indexAddr rfl (by assumption) rfl (by omega)) ?_
  refine r_ (s_loadN (cs := vmC m) rfl (fun w hw => by rw [hm]; exact rdVM hw hrd (i := j) (by omega) hj') rfl) ?_
  refine gl_allocA rfl ?_; intro g9
  (refine gl_store_blkW rfl rfl z_6 z_7 z_7 z_2 ?_)
  repeat refine x_ ?_
  refine f_ z_1 ?_
  refine r_ (by exact s_load_blk rfl z_3 a10_0) ?_
  refine f_ ((s_eql rfl rfl).eq (v' := .bool (decide (r.kind = 14))) rfl) ?_
  refine gl_nil ?_
  repeat (first | refine g_seq ?_ | refine at_code ?_ | refine g_skip ?_ | refine g_exit rfl ?_ | refine g_cond_t rfl ?_ | refine g_cond_f rfl ?_)
  refine g_cond rfl (fun h => ?_) (fun h => ?_)
  ·have hk14 : r.kind = 14 := of_decide_eq_true h
   have hcf : cellF r.kind m.v = [valueP m.v] := by unfold cellF; rw [if_pos hk14]
   rw [hcf] at hsu
   have hvp := valueP_len hzm
   repeat refine x_ ?_
   refine m_ ?_
   refine r_ ((s_load_blkW rfl z_3 z_7).eq (v' := vmA m) rfl) ?_
   refine gl_callp rfl (valueW_ct m hzm (hc.v m hmm)) (fun h hh hb => ⟨hg.le hh, hrm.le hh⟩) rfl ?_
   refine gl_buildSliceU rfl rfl rfl rfl rfl rfl (xs := fV [valueP m.v]) rfl rfl ?_; intro a39 ha39
   refine gl_append rfl rfl (fun a' c' => .there (.there .here)) (fun w hw => (hw.ownN z_3).2.2.1) rfl rfl rfl (fV_one _) (by show (cs.length + 1) * 16 ≤ _; omega) (by omega) rfl ?_; intro a5 c5 hc5
   refine a_ ?_
   repeat refine x_ ?_
   refine f_ ((s_add_i64 rfl rfl (by omega)).eq (v' := .int .i64 ((j + 1 : Nat) : Int)) (by congr 1)) ?_
   refine m_ ?_
   repeat refine n_ ?_
   refine at_next (j + 1, a5, c5) (by simp only; omega) (by simp only; omega) ?_ ?_
   ·simp only
    rw [hsu, List.length_append, List.length_singleton]
    (repeat (first | exact Sub.nil _ | refine Sub.cons rfl ?_))
   ·intro w hw
    simp only
    rw [hsu]
    show Hp F w [.own (.slice a5 (cs ++ [valueP m.v]).length c5) 9 1 (fV (cs ++ [valueP m.v])), blkR g1 r x]
    rw [fV_app, List.length_append]
    exact hw.drop.drop
  ·have hk14 : r.kind ≠ 14 := of_decide_eq_false h
   obtain ⟨q1, hq1⟩ : ∃ q, q = decide (m.v.kind ≥ 1) := ⟨_, rfl⟩
   obtain ⟨q2, hq2⟩ : ∃ q, q = decide (m.v.kind ≤ 5) := ⟨_, rfl⟩
   repeat refine y_ ?_
   refine g_cutK [(1, Ptr g1), (7, .slice a cs.length c), (9, Ptr g9), (101, .slice x.va x.vs.length x.vc), (102, .int .i64 (x.vs.length : Nat)), (103, .int .i64 (j : Nat)), (122, .bool (q1 && q2))] [blkV g9 m.v m.a m.c, OwnS a cs c, blkR g1 r x] ?_ ?_
   ·cases q1
    all_goals (
     repeat refine x_ ?_
     refine f_ z_1 ?_
     refine r_ (by exact s_load_blk rfl z_3 a6_0) ?_
     refine f_ ((s_geq rfl rfl).eb hq1) ?_
     refine m_ ?_
     (first | refine gl_guard_no rfl rfl rfl rfl rfl rfl rfl ?_ | (refine v_ ?_; refine f_ z_1 ?_))
     (first | refine gl_guard_no rfl rfl rfl rfl rfl rfl rfl ?_ | (refine v_ ?_; refine r_ (by exact s_load_blk rfl z_3 a6_0) ?_))
     (first | refine gl_guard_no rfl rfl rfl rfl rfl rfl rfl ?_ | (refine v_ ?_; refine f_ ((s_leq rfl rfl).eb hq2) ?_))
     refine f_ z_4 ?_
     refine gl_nil ?_
     repeat refine y_ ?_)
    all_goals exact at_cut j_ i_
   repeat refine y_ ?_
   refine g_cond rfl (fun h => ?_) (fun h => ?_)
   ·simp only [Bool.and_eq_true] at h
    have hk1 : 1 ≤ m.v.kind ∧ m.v.kind ≤ 5 := ⟨of_decide_eq_true (hq1.symm.trans h.1), of_decide_eq_true (hq2.symm.trans h.2)⟩
    have hcf : cellF r.kind m.v = [countP m.v] := by unfold cellF; rw [if_neg hk14, if_pos hk1]
    rw [hcf] at hsu
    obtain ⟨k, hkk⟩ : ∃ k : Nat, m.v.kind = (k : Int) := ⟨m.v.kind.toNat, by omega⟩
    have hil := itemA_len k (by omega)
    have hdl := digS_len64 hzm.n
    have hmn := hzm.n
    have hkl : k - 1 < itemW.length := by rw [item_len]; omega
    have hia : B (itemW.getD (k - 1) []) = B (itemA k) := rfl
    have hcp : itemA k ++ 32 :: digS m.v.n = countP m.v := by unfold countP; rw [hkk, Int.toNat_natCast]
    repeat refine y_ ?_
    refine g_draw ([3, 9], [0, 0, 0, 4, 12, 30, 62, 126, 0, 256, 770, 2046, 4094, 8191, 16383], [1, 6, 10, 12, 13]) [blkV g9 m.v m.a m.c] 15 rfl ?_
    refine w_ 0 rfl (s_move rfl) ?_
    refine w_ 2 rfl z_1 ?_
    (refine ga_read_k 3 rfl (by exact .head _) (s_load_blk rfl .del a6_0) k_ rfl rfl rfl z_5 ?_)
    refine w_ 4 rfl ((s_sub_i64 (m := m.v.kind) rfl rfl (by omega)).eq (v' := .int .i64 ((k - 1 : Nat) : Int)) (by congr 1; omega)) ?_
    refine w_ 8 rfl z_1 ?_
    (refine ga_read_k 9 rfl (by exact .head _) (s_load_blk rfl .del a6_1) k_ rfl rfl rfl z_5 ?_)
    refine ga_one 1 rfl z_5 ?_
    refine gl_call _ rfl itemWords_ct i_ (fun _ _ _ => trivial) rfl ?_; rintro v A ⟨a12, rfl, rfl⟩
    refine gl_nil ?_
    refine at_ga (.inr (by exact keeps_of k_)) ?_
    refine w_ 5 rfl ((s_indexAddr rfl ⟨_, rfl⟩ rfl (by omega))) ?_
    refine ga_two 6 10 rfl rfl z_5 ?_ ?_
    refine r_ ((s_load1 rfl (fun w hw => rdB_own hw z_3 (i := k - 1) z_8 hkl)).eq hia) ?_
    refine gl_nil ?_
    refine at_ga (.inr (by exact keeps_of k_)) ?_
    refine w_ 7 rfl (s_add_str rfl rfl (by simp only [List.length_singleton]; omega)) ?_
    refine ga_one 10 rfl z_5 ?_
    refine gl_callp rfl (Digits_ct m.v.n (by omega)) (fun h hh hb => hg.le hh) rfl ?_
    refine gl_nil ?_
    refine at_ga (.inl z_5) ?_
    refine w_ 11 rfl ((s_add_str rfl rfl (by simp only [List.length_append, List.length_singleton]; omega)).eq (v' := B (countP m.v)) (by rw [← hcp]; simp)) ?_
    refine ga_one 12 rfl z_5 ?_
    refine gl_buildSliceU rfl rfl rfl rfl rfl rfl (xs := fV [countP m.v]) rfl rfl ?_; intro a39 ha39
    refine gl_nil ?_
    refine at_ga (.inl z_5) ?_
    refine ga_one 13 rfl z_5 ?_
    refine gl_append rfl rfl (fun a' c' => .there (.there (.there .here))) (fun w hw => (hw.ownN z_3).2.2.1) rfl rfl rfl (fV_one _) (by show (cs.length + 1) * 16 ≤ _; omega) (by omega) rfl ?_; intro a5 c5 hc5
    refine gl_nil ?_
    refine at_ga (.inl z_5) ?_
    refine w_ 14 rfl (s_assign rfl) ?_
    refine ga_done z_5 ?_
    rotate_left 1
    refine gl_callp rfl (Digits_ct m.v.n (by omega)) (fun h hh hb => hg.le hh) rfl ?_
    refine gl_nil ?_
    refine at_ga (.inr (by exact keeps_of k_)) ?_
    refine ga_one 6 rfl z_5 ?_
    refine r_ ((s_load1 rfl (fun w hw => rdB_own hw z_3 (i := k - 1) z_8 hkl)).eq hia) ?_
    refine gl_nil ?_
    refine at_ga (.inl z_5) ?_
    refine w_ 7 rfl (s_add_str rfl rfl (by simp only [List.length_singleton]; omega)) ?_
    refine w_ 11 rfl ((s_add_str rfl rfl (by simp only [List.length_append, List.length_singleton]; omega)).eq (v' := B (countP m.v)) (by rw [← hcp]; simp)) ?_
    refine ga_one 12 rfl z_5 ?_
    refine gl_buildSliceU rfl rfl rfl rfl rfl rfl (xs := fV [countP m.v]) rfl rfl ?_; intro a39 ha39
    refine gl_nil ?_
    refine at_ga (.inl z_5) ?_
    refine ga_one 13 rfl z_5 ?_
    refine gl_append rfl rfl (fun a' c' => .there (.there (.there .here))) (fun w hw => (hw.ownN z_3).2.2.1) rfl rfl rfl (fV_one _) (by show (cs.length + 1) * 16 ≤ _; omega) (by omega) rfl ?_; intro a5 c5 hc5
    refine gl_nil ?_
    refine at_ga (.inl z_5) ?_
    refine w_ 14 rfl (s_assign rfl) ?_
    refine ga_done z_5 ?_
    rotate_left 1
    all_goals (repeat refine y_ ?_)
    all_goals (
     repeat refine x_ ?_
     refine f_ ((s_add_i64 rfl rfl (by omega)).eq (v' := .int .i64 ((j + 1 : Nat) : Int)) (by congr 1)) ?_
     refine m_ ?_
     refine gl_nil ?_
     repeat refine y_ ?_)
    all_goals (
     refine at_next (j + 1, a5, c5) (by simp only; omega) (by simp only; omega) ?_ ?_
     ·simp only
      rw [hsu, List.length_append, List.length_singleton]
      (repeat (first | exact Sub.nil _ | refine Sub.cons rfl ?_))
     ·intro w hw
      simp only
      rw [hsu]
      show Hp F w [.own (.slice a5 (cs ++ [countP m.v]).length c5) 9 1 (fV (cs ++ [countP m.v])), blkR g1 r x]
      rw [fV_app, List.length_append]
      exact hw.drop.drop.drop)
   ·have hcf : cellF r.kind m.v = [] := by
     unfold cellF
     rw [if_neg hk14, if_neg]
     rintro ⟨h1, h2⟩
     rw [hq1.trans (decide_eq_true h1), hq2.trans (decide_eq_true h2)] at h
     cases h
    rw [hcf, List.append_nil] at hsu
    repeat refine x_ ?_
    refine f_ ((s_add_i64 rfl rfl (by omega)).eq (v' := .int .i64 ((j + 1 : Nat) : Int)) (by congr 1)) ?_
    refine m_ ?_
    repeat refine n_ ?_
    refine at_next (j + 1, a, c) (by simp only; omega) (by simp only; omega) ?_ ?_
    ·simp only
     rw [hsu]
     (repeat (first | exact Sub.nil _ | refine Sub.cons rfl ?_))
    ·intro w hw
     simp only
     rw [hsu]
     exact hw.drop
 have hjn : j = x.vs.length := by simp at h; omega
 subst hjn
 rw [cellJ_all hv] at hcs
 subst hcs
 repeat refine y_ ?_
 refine g_ownN (a := a) (n := (cellsP r).length) (c := c) z_3 (fun _ hnc _ => ?_)
 obtain ⟨T, hT⟩ : ∃ T, T = joinS [32] (cellsP r) := ⟨_, rfl⟩
 have hjn := Join_ct (cellsP r) a c [32] hnc (by omega) (by omega)
 rw [← hT] at hcj hjn
 repeat refine x_ ?_
 refine m_ ?_
 refine gl_callp rfl hjn (fun h hh ⟨bs, hb⟩ => Sat.rd hb z_3) rfl ?_
 refine f_ (s_add_str rfl rfl (by simp only [List.length_singleton]; omega)) ?_
 refine f_ ((s_add_str rfl rfl (by simp only [List.length_append, List.length_singleton]; omega)).eq (v' := B (40 :: T ++ [41])) z_8) ?_
 refine a_ ?_
 repeat refine x_ ?_
 refine f_ z_1 ?_
 refine r_ (by exact s_load_blk rfl z_3 a10_0) ?_
 refine f_ ((s_eql rfl rfl).eq (v' := .bool (decide (r.kind = 14))) rfl) ?_
 repeat refine n_ ?_
 refine g_cond rfl (fun h => ?_) (fun h => ?_)
 ·have hk14 : r.kind = 14 := of_decide_eq_true h
  have e : textP r = 42 :: 32 :: digS r.n ++ wFetch ++ 40 :: T ++ [41] := by rw [hT]; unfold textP; rw [hk14]; rfl
  rw [e]
  repeat refine x_ ?_
  refine f_ z_1 ?_
  refine r_ (by exact s_load_blk rfl z_3 a10_4) ?_
  refine gl_callp rfl (Digits_ct r.n (by omega)) (fun h hh hb => hg.le hh) rfl ?_
  refine f_ (s_add_str rfl rfl (by simp only [List.length_cons, List.length_nil]; omega)) ?_
  refine f_ (s_add_str rfl rfl (by simp only [List.length_append, List.length_cons, List.length_nil]; omega)) ?_
  refine m_ ?_
  refine f_ ((s_add_str rfl rfl (by simp only [List.length_append, List.length_cons, List.length_nil]; omega)).eq (v' := B (42 :: 32 :: digS r.n ++ wFetch ++ 40 :: T ++ [41])) z_8) ?_
  refine a_ ?_
  repeat refine n_ ?_
  refine g_ret ?_
  exact at_end1 rfl rfl [] ⟨rfl, rfl⟩ (fun w hw => hw.dropAll)
 ·have hk12 : r.kind = 12 := by have := of_decide_eq_false h; omega
  have e : textP r = 42 :: 32 :: wStatus ++ formS r.box ++ 32 :: 40 :: T ++ [41] := by rw [hT]; unfold textP; rw [hk12]; rfl
  rw [e]
  repeat refine x_ ?_
  refine f_ z_1 ?_
  refine r_ (by exact s_load_blk rfl z_3 a10_8) ?_
  refine gl_callp rfl (FormW_ct r.box hz.sz.box) (fun h hh hb => hg.le hh) rfl ?_
  refine f_ (s_add_str rfl rfl (by simp only [List.length_cons, List.length_nil]; omega)) ?_
  refine f_ (s_add_str rfl rfl (by simp only [List.length_append, List.length_cons, List.length_nil]; omega)) ?_
  refine m_ ?_
  refine f_ ((s_add_str rfl rfl (by simp only [List.length_append, List.length_cons, List.length_nil]; omega)).eq (v' := B (42 :: 32 :: wStatus ++ formS r.box ++ 32 :: 40 :: T ++ [41])) z_8) ?_
  refine a_ ?_
  repeat refine n_ ?_
  refine g_ret ?_
  exact at_end1 rfl rfl [] ⟨rfl, rfl⟩ (fun w hw => hw.dropAll)
theorem textW_ct (r : RR) (x : RL) (hz : SzW r) (hc : CapL r x) (hv : r.values = x.vs.map VM.v) (hk : 1 ≤ r.kind ∧ r.kind ≤ 14) : Pu Tryz.prog 15 [rrA r x] (PreW r x) (B (textP r)) := by
 have c : (1 ≤ r.kind ∧ r.kind ≤ 4) ∨ r.kind = 5 ∨ r.kind = 6 ∨ r.kind = 7 ∨ r.kind = 8 ∨ r.kind = 9 ∨ r.kind = 10 ∨ r.kind = 11 ∨ r.kind = 13 ∨ (r.kind = 12 ∨ r.kind = 14) := by omega
 rcases c with h | h | h | h | h | h | h | h | h | h
 ·exact textW_s r x hz hv h
 ·exact textW_5 r x hz hc hv h
 ·exact textW_6 r x hz hc hv h
 ·exact textW_7 r x hz hc hv h
 ·exact textW_8 r x hz hc hv h
 ·exact textW_9 r x hz hc hv h
 ·exact textW_10 r x hz hc hv h
 ·exact textW_11 r x hz hc hv h
 ·exact textW_13 r x hz hv h
 ·exact textW_v r x hz hc hv h
end Go.Proofs.YtgllpcggdcknaaaGreatDoor.Rp
namespace Go.Proofs.YtgllpcggdcknaaaGreatDoor.Rp
open Go Go.Sl Go.RowKit
set_option maxRecDepth 8000 in
theorem eqB_ct (l m : List Bs) (a b : Option Addr) (c d : Nat) (hl : l.length ≤ 1000000000000) : Pu Tryz.prog 37 [.slice a l.length c, .slice b m.length d] (fun h => RdS h a (fV l) ∧ RdS h b (fV m)) (.bool (decide (l = m))) := by
 refine ct_enter 26 Tryz.func37 rfl rfl rfl ?_
 intro F hr
 have hrd := hr.1
 have hrm := hr.2
 repeat refine x_ ?_
 refine a_ ?_
 repeat refine x_ ?_
 refine m_ ?_
 refine f_ (s_len_sl rfl) ?_
 refine m_ ?_
 refine f_ (s_len_sl rfl) ?_
 refine f_ (s_neq rfl rfl) ?_
 repeat refine n_ ?_
 refine g_cond rfl (fun h => ?_) (fun h => ?_)
 ·have hne : l ≠ m := by rintro rfl; simp at h
  rw [decide_eq_false hne]
  repeat refine x_ ?_
  refine a_ ?_
  repeat refine n_ ?_
  refine g_ret ?_
  exact at_end1 rfl rfl [] ⟨rfl, rfl⟩ (fun _ h => h)
 have hlen : l.length = m.length := by simp at h; omega
 repeat refine x_ ?_
 refine m_ ?_
 refine f_ (s_len_sl rfl) ?_
 refine m_ ?_
 repeat refine n_ ?_
 refine g_loop (ι := Nat) (fun k => k ≤ l.length ∧ ∀ i, i < k → l.getD i [] = m.getD i []) (fun k => [(0, .slice a l.length c), (1, .slice b m.length d), (12, .int .i64 (l.length : Nat)), (13, .int .i64 (k : Nat))]) (fun k => []) (fun k => l.length - k) 0 ⟨by omega, fun i h => by omega⟩ ?_ ?_ ?_
 ·(repeat (first | exact Sub.nil _ | refine Sub.cons rfl ?_))
 ·intro w hw; exact hw
 intro k hk
 obtain ⟨hk, hok⟩ := hk
 repeat refine x_ ?_
 refine f_ (s_lss rfl rfl) ?_
 repeat refine n_ ?_
 refine g_cond rfl (fun h => ?_) (fun h => ?_)
 ·have hk' : k < l.length := by simp at h; omega
  have hsome := rdB_some hrd hk'
  have hsome2 := rdB_some hrm (i := k) (by omega)
  repeat refine x_ ?_
  refine m_ ?_
  refine a_ ?_
  repeat refine n_ ?_
  refine g_draw0 ([3, 7], [0, 0, 3, 7, 0, 0, 48, 112, 255], []) 9 rfl ?_
  refine w_ 0 rfl (s_move rfl) ?_
  refine w_ 1 rfl (s_move rfl) ?_
  refine w_ 2 rfl (s_indexAddr rfl (by assumption) rfl (by omega)) ?_
  refine ga_readF 3 rfl (s_load1 rfl (fun w hw => rdB hw hrd (i := k) (by omega) (by omega))) (by (exact fun _ h => h)) rfl rfl rfl z_5 ?_
  refine w_ 4 rfl (s_move rfl) ?_
  refine w_ 5 rfl (s_move rfl) ?_
  refine w_ 6 rfl (s_indexAddr rfl (by assumption) rfl (by omega)) ?_
  refine ga_readF 7 rfl (s_load1 rfl (fun w hw => rdB hw hrm (i := k) (by omega) (by omega))) (by (exact fun _ h => h)) rfl rfl rfl z_5 ?_
  refine w_ 8 rfl (s_neq_str rfl rfl) ?_
  refine ga_done z_5 ?_
  repeat refine y_ ?_
  refine g_cond rfl (fun h2 => ?_) (fun h2 => ?_)
  ·have hne : l ≠ m := by rintro rfl; simp at h2
   rw [decide_eq_false hne]
   repeat refine x_ ?_
   refine a_ ?_
   repeat refine n_ ?_
   refine g_ret ?_
   exact at_end1 rfl rfl [] ⟨rfl, rfl⟩ (fun _ h => h)
  ·have h3 : l.getD k [] = m.getD k [] := by first | (simpa using h2) | (simp at h2 ⊢; omega)
   repeat refine x_ ?_
   refine f_ ((s_add_i64 rfl rfl (by omega)).eq (v' := .int .i64 ((k + 1 : Nat) : Int)) (by congr 1)) ?_
   refine m_ ?_
   repeat refine n_ ?_
   refine at_next (k + 1) ⟨by omega, fun i hi => ?_⟩ (by omega) ?_ ?_
   ·rcases Nat.lt_succ_iff_lt_or_eq.1 hi with h4 | rfl
    ·exact hok i h4
    ·exact h3
   ·(repeat (first | exact Sub.nil _ | refine Sub.cons rfl ?_))
   ·intro w hw; exact hw
 ·have hkl : k = l.length := by simp at h; omega
  have e : l = m := getB_ext hlen fun i hi => hok i (by omega)
  rw [decide_eq_true e]
  repeat refine x_ ?_
  refine a_ ?_
  repeat refine n_ ?_
  refine g_ret ?_
  exact at_end1 rfl rfl [] ⟨rfl, rfl⟩ (fun _ h => h)
set_option maxRecDepth 8000 in
theorem eqN_ct (l m : List Nat) (a b : Option Addr) (c d : Nat) (hl : l.length ≤ 1000000000000) : Pu Tryz.prog 38 [.slice a l.length c, .slice b m.length d] (fun h => RdS h a (nV l) ∧ RdS h b (nV m)) (.bool (decide (l = m))) := by
 refine ct_enter 26 Tryz.func38 rfl rfl rfl ?_
 intro F hr
 have hrd := hr.1
 have hrm := hr.2
 repeat refine x_ ?_
 refine a_ ?_
 repeat refine x_ ?_
 refine m_ ?_
 refine f_ (s_len_sl rfl) ?_
 refine m_ ?_
 refine f_ (s_len_sl rfl) ?_
 refine f_ (s_neq rfl rfl) ?_
 repeat refine n_ ?_
 refine g_cond rfl (fun h => ?_) (fun h => ?_)
 ·have hne : l ≠ m := by rintro rfl; simp at h
  rw [decide_eq_false hne]
  repeat refine x_ ?_
  refine a_ ?_
  repeat refine n_ ?_
  refine g_ret ?_
  exact at_end1 rfl rfl [] ⟨rfl, rfl⟩ (fun _ h => h)
 have hlen : l.length = m.length := by simp at h; omega
 repeat refine x_ ?_
 refine m_ ?_
 refine f_ (s_len_sl rfl) ?_
 refine m_ ?_
 repeat refine n_ ?_
 refine g_loop (ι := Nat) (fun k => k ≤ l.length ∧ ∀ i, i < k → l.getD i 0 = m.getD i 0) (fun k => [(0, .slice a l.length c), (1, .slice b m.length d), (12, .int .i64 (l.length : Nat)), (13, .int .i64 (k : Nat))]) (fun k => []) (fun k => l.length - k) 0 ⟨by omega, fun i h => by omega⟩ ?_ ?_ ?_
 ·(repeat (first | exact Sub.nil _ | refine Sub.cons rfl ?_))
 ·intro w hw; exact hw
 intro k hk
 obtain ⟨hk, hok⟩ := hk
 repeat refine x_ ?_
 refine f_ (s_lss rfl rfl) ?_
 repeat refine n_ ?_
 refine g_cond rfl (fun h => ?_) (fun h => ?_)
 ·have hk' : k < l.length := by simp at h; omega
  have hsome := rdN_some hrd hk'
  have hsome2 := rdN_some hrm (i := k) (by omega)
  repeat refine x_ ?_
  refine m_ ?_
  refine a_ ?_
  repeat refine n_ ?_
  refine g_draw0 ([3, 7], [0, 0, 3, 7, 0, 0, 48, 112, 255], []) 9 rfl ?_
  refine w_ 0 rfl (s_move rfl) ?_
  refine w_ 1 rfl (s_move rfl) ?_
  refine w_ 2 rfl (s_indexAddr rfl (by assumption) rfl (by omega)) ?_
  refine ga_readF 3 rfl (s_load1 rfl (fun w hw => rdN hw hrd (i := k) (by omega) (by omega))) (by (exact fun _ h => h)) rfl rfl rfl z_5 ?_
  refine w_ 4 rfl (s_move rfl) ?_
  refine w_ 5 rfl (s_move rfl) ?_
  refine w_ 6 rfl (s_indexAddr rfl (by assumption) rfl (by omega)) ?_
  refine ga_readF 7 rfl (s_load1 rfl (fun w hw => rdN hw hrm (i := k) (by omega) (by omega))) (by (exact fun _ h => h)) rfl rfl rfl z_5 ?_
  refine w_ 8 rfl (s_neq rfl rfl) ?_
  refine ga_done z_5 ?_
  repeat refine y_ ?_
  refine g_cond rfl (fun h2 => ?_) (fun h2 => ?_)
  ·have hne : l ≠ m := by rintro rfl; simp at h2
   rw [decide_eq_false hne]
   repeat refine x_ ?_
   refine a_ ?_
   repeat refine n_ ?_
   refine g_ret ?_
   exact at_end1 rfl rfl [] ⟨rfl, rfl⟩ (fun _ h => h)
  ·have h3 : l.getD k 0 = m.getD k 0 := by first | (simpa using h2) | (simp at h2 ⊢; omega)
   repeat refine x_ ?_
   refine f_ ((s_add_i64 rfl rfl (by omega)).eq (v' := .int .i64 ((k + 1 : Nat) : Int)) (by congr 1)) ?_
   refine m_ ?_
   repeat refine n_ ?_
   refine at_next (k + 1) ⟨by omega, fun i hi => ?_⟩ (by omega) ?_ ?_
   ·rcases Nat.lt_succ_iff_lt_or_eq.1 hi with h4 | rfl
    ·exact hok i h4
    ·exact h3
   ·(repeat (first | exact Sub.nil _ | refine Sub.cons rfl ?_))
   ·intro w hw; exact hw
 ·have hkl : k = l.length := by simp at h; omega
  have e : l = m := getN_ext hlen fun i hi => hok i (by omega)
  rw [decide_eq_true e]
  repeat refine x_ ?_
  refine a_ ?_
  repeat refine n_ ?_
  refine g_ret ?_
  exact at_end1 rfl rfl [] ⟨rfl, rfl⟩ (fun _ h => h)
theorem scb6 (q1 q2 q3 q4 q5 q6 : Bool) : (q1 = false) ∨ (q1 = true ∧ q2 = false) ∨ (q1 = true ∧ q2 = true ∧ q3 = false) ∨ (q1 = true ∧ q2 = true ∧ q3 = true ∧ q4 = false) ∨ (q1 = true ∧ q2 = true ∧ q3 = true ∧ q4 = true ∧ q5 = false) ∨ (q1 = true ∧ q2 = true ∧ q3 = true ∧ q4 = true ∧ q5 = true ∧ q6 = false) ∨ (q1 = true ∧ q2 = true ∧ q3 = true ∧ q4 = true ∧ q5 = true ∧ q6 = true) := by
 cases q1 with
 | false => simp
 | true =>
 cases q2 with
 | false => simp
 | true =>
 cases q3 with
 | false => simp
 | true =>
 cases q4 with
 | false => simp
 | true =>
 cases q5 with
 | false => simp
 | true =>
 cases q6 with
 | false => simp
 | true =>
 simp
theorem scb10 (q1 q2 q3 q4 q5 q6 q7 q8 q9 q10 : Bool) : (q1 = false) ∨ (q1 = true ∧ q2 = false) ∨ (q1 = true ∧ q2 = true ∧ q3 = false) ∨ (q1 = true ∧ q2 = true ∧ q3 = true ∧ q4 = false) ∨ (q1 = true ∧ q2 = true ∧ q3 = true ∧ q4 = true ∧ q5 = false) ∨ (q1 = true ∧ q2 = true ∧ q3 = true ∧ q4 = true ∧ q5 = true ∧ q6 = false) ∨ (q1 = true ∧ q2 = true ∧ q3 = true ∧ q4 = true ∧ q5 = true ∧ q6 = true ∧ q7 = false) ∨ (q1 = true ∧ q2 = true ∧ q3 = true ∧ q4 = true ∧ q5 = true ∧ q6 = true ∧ q7 = true ∧ q8 = false) ∨ (q1 = true ∧ q2 = true ∧ q3 = true ∧ q4 = true ∧ q5 = true ∧ q6 = true ∧ q7 = true ∧ q8 = true ∧ q9 = false) ∨ (q1 = true ∧ q2 = true ∧ q3 = true ∧ q4 = true ∧ q5 = true ∧ q6 = true ∧ q7 = true ∧ q8 = true ∧ q9 = true ∧ q10 = false) ∨ (q1 = true ∧ q2 = true ∧ q3 = true ∧ q4 = true ∧ q5 = true ∧ q6 = true ∧ q7 = true ∧ q8 = true ∧ q9 = true ∧ q10 = true) := by
 cases q1 with
 | false => simp
 | true =>
 cases q2 with
 | false => simp
 | true =>
 cases q3 with
 | false => simp
 | true =>
 cases q4 with
 | false => simp
 | true =>
 cases q5 with
 | false => simp
 | true =>
 cases q6 with
 | false => simp
 | true =>
 cases q7 with
 | false => simp
 | true =>
 cases q8 with
 | false => simp
 | true =>
 cases q9 with
 | false => simp
 | true =>
 cases q10 with
 | false => simp
 | true =>
 simp
set_option maxRecDepth 8000 in
theorem same1_ct (u v : VM) (hl : u.v.flags.length ≤ 1000000000000) : Pu Tryz.prog 36 [vmA u, vmA v] (fun h => RdS h u.a (fV u.v.flags) ∧ RdS h v.a (fV v.v.flags)) (.bool (decide (u.v = v.v))) := by
 obtain ⟨p1, hp1⟩ : ∃ q, q = decide (u.v.kind = v.v.kind) := ⟨_, rfl⟩
 obtain ⟨p2, hp2⟩ : ∃ q, q = decide ((u.v.n : Int) = v.v.n) := ⟨_, rfl⟩
 obtain ⟨p3, hp3⟩ : ∃ q, q = decide (u.v.flags = v.v.flags) := ⟨_, rfl⟩
 obtain ⟨p4, hp4⟩ : ∃ q, q = decide (u.v.text = v.v.text) := ⟨_, rfl⟩
 obtain ⟨p5, hp5⟩ : ∃ q, q = (u.v.part == v.v.part) := ⟨_, rfl⟩
 obtain ⟨p6, hp6⟩ : ∃ q, q = decide ((u.v.fr : Int) = v.v.fr) := ⟨_, rfl⟩
 have e : decide (u.v = v.v) = (p1 && p2 && p3 && p4 && p5 && p6) := by
  rw [hp1, hp2, hp3, hp4, hp5, hp6, Bool.eq_iff_iff]
  simp only [Bool.and_eq_true, decide_eq_true_eq, beq_iff_eq]
  constructor
  ·intro e; rw [e]; simp
  ·rintro ⟨⟨⟨⟨⟨a, b⟩, c⟩, d⟩, e⟩, f⟩; exact RV.ext' a (by omega) c d e (by omega)
 rw [e]
 clear e
 refine ct_enter 45 Tryz.func36 rfl rfl rfl ?_
 intro F hr
 have hra := hr.1
 have hrb := hr.2
 repeat refine x_ ?_
 refine gl_boxA rfl rfl ?_; intro g2
 refine gl_boxA rfl rfl ?_; intro g3
 refine a_ ?_
 repeat refine n_ ?_
 rcases scb6 p1 p2 p3 p4 p5 p6 with rfl | ⟨rfl, rfl⟩ | ⟨rfl, rfl, rfl⟩ | ⟨rfl, rfl, rfl, rfl⟩ | ⟨rfl, rfl, rfl, rfl, rfl⟩ | ⟨rfl, rfl, rfl, rfl, rfl, rfl⟩ | ⟨rfl, rfl, rfl, rfl, rfl, rfl⟩
 all_goals (
  repeat refine x_ ?_
  refine f_ z_1 ?_
  refine r_ (by exact s_load_blk rfl z_3 a6_0) ?_
  refine f_ z_1 ?_
  refine r_ (by exact s_load_blk rfl z_3 a6_0) ?_
  refine f_ ((s_eql rfl rfl).eb hp1) ?_
  refine m_ ?_
  (first | refine gl_guard_no rfl rfl rfl rfl rfl rfl rfl ?_ | (refine v_ ?_; refine f_ z_1 ?_))
  (first | refine gl_guard_no rfl rfl rfl rfl rfl rfl rfl ?_ | (refine v_ ?_; refine r_ (by exact s_load_blk rfl z_3 a6_1) ?_))
  (first | refine gl_guard_no rfl rfl rfl rfl rfl rfl rfl ?_ | (refine v_ ?_; refine f_ z_1 ?_))
  (first | refine gl_guard_no rfl rfl rfl rfl rfl rfl rfl ?_ | (refine v_ ?_; refine r_ (by exact s_load_blk rfl z_3 a6_1) ?_))
  (first | refine gl_guard_no rfl rfl rfl rfl rfl rfl rfl ?_ | (refine v_ ?_; refine f_ ((s_eql rfl rfl).eb hp2) ?_))
  refine f_ z_4 ?_
  refine m_ ?_
  (first | refine gl_guard_no rfl rfl rfl rfl rfl rfl rfl ?_ | (refine v_ ?_; refine f_ z_1 ?_))
  (first | refine gl_guard_no rfl rfl rfl rfl rfl rfl rfl ?_ | (refine v_ ?_; refine r_ (by exact s_load_blk rfl z_3 a6_2) ?_))
  (first | refine gl_guard_no rfl rfl rfl rfl rfl rfl rfl ?_ | (refine v_ ?_; refine f_ z_1 ?_))
  (first | refine gl_guard_no rfl rfl rfl rfl rfl rfl rfl ?_ | (refine v_ ?_; refine r_ (by exact s_load_blk rfl z_3 a6_2) ?_))
  (first | refine gl_guard_no rfl rfl rfl rfl rfl rfl rfl ?_ | (refine v_ ?_; refine gl_callp rfl (eqB_ct u.v.flags v.v.flags u.a v.a u.c v.c hl) (fun h hh hb => ⟨hra.le hh, hrb.le hh⟩) rfl ?_; rw [← hp3]))
  refine f_ z_4 ?_
  refine m_ ?_
  (first | refine gl_guard_no rfl rfl rfl rfl rfl rfl rfl ?_ | (refine v_ ?_; refine f_ z_1 ?_))
  (first | refine gl_guard_no rfl rfl rfl rfl rfl rfl rfl ?_ | (refine v_ ?_; refine r_ (by exact s_load_blk rfl z_3 a6_3) ?_))
  (first | refine gl_guard_no rfl rfl rfl rfl rfl rfl rfl ?_ | (refine v_ ?_; refine f_ z_1 ?_))
  (first | refine gl_guard_no rfl rfl rfl rfl rfl rfl rfl ?_ | (refine v_ ?_; refine r_ (by exact s_load_blk rfl z_3 a6_3) ?_))
  (first | refine gl_guard_no rfl rfl rfl rfl rfl rfl rfl ?_ | (refine v_ ?_; refine f_ ((s_eql_str rfl rfl).eb hp4) ?_))
  refine f_ z_4 ?_
  refine m_ ?_
  (first | refine gl_guard_no rfl rfl rfl rfl rfl rfl rfl ?_ | (refine v_ ?_; refine f_ z_1 ?_))
  (first | refine gl_guard_no rfl rfl rfl rfl rfl rfl rfl ?_ | (refine v_ ?_; refine r_ (by exact s_load_blk rfl z_3 a6_4) ?_))
  (first | refine gl_guard_no rfl rfl rfl rfl rfl rfl rfl ?_ | (refine v_ ?_; refine f_ z_1 ?_))
  (first | refine gl_guard_no rfl rfl rfl rfl rfl rfl rfl ?_ | (refine v_ ?_; refine r_ (by exact s_load_blk rfl z_3 a6_4) ?_))
  (first | refine gl_guard_no rfl rfl rfl rfl rfl rfl rfl ?_ | (refine v_ ?_; refine f_ ((s_eql_bool rfl rfl).eb hp5) ?_))
  refine f_ z_4 ?_
  refine m_ ?_
  (first | refine gl_guard_no rfl rfl rfl rfl rfl rfl rfl ?_ | (refine v_ ?_; refine f_ z_1 ?_))
  (first | refine gl_guard_no rfl rfl rfl rfl rfl rfl rfl ?_ | (refine v_ ?_; refine r_ (by exact s_load_blk rfl z_3 a6_5) ?_))
  (first | refine gl_guard_no rfl rfl rfl rfl rfl rfl rfl ?_ | (refine v_ ?_; refine f_ z_1 ?_))
  (first | refine gl_guard_no rfl rfl rfl rfl rfl rfl rfl ?_ | (refine v_ ?_; refine r_ (by exact s_load_blk rfl z_3 a6_5) ?_))
  (first | refine gl_guard_no rfl rfl rfl rfl rfl rfl rfl ?_ | (refine v_ ?_; refine f_ ((s_eql rfl rfl).eb hp6) ?_))
  refine f_ z_4 ?_
  refine a_ ?_
  refine gl_nil ?_
  repeat refine y_ ?_)
 all_goals (refine g_ret ?_; exact at_end1 rfl rfl [] ⟨rfl, rfl⟩ (fun w hw => hw.dropAll))
set_option maxRecDepth 8000 in
theorem eqV_ct (l m : List VM) (a b : Option Addr) (c d : Nat) (hl : l.length ≤ 1000000000000) (hz : ∀ u ∈ l, u.v.flags.length ≤ 1000000000000) : Pu Tryz.prog 39 [.slice a l.length c, .slice b m.length d, .func (.func 36) #[] #[]] (fun h => (RdS h a (vmV l) ∧ ∀ u ∈ l, RdS h u.a (fV u.v.flags)) ∧ (RdS h b (vmV m) ∧ ∀ u ∈ m, RdS h u.a (fV u.v.flags))) (.bool (decide (l.map VM.v = m.map VM.v))) := by
 refine ct_enter 32 Tryz.func39 rfl rfl rfl ?_
 intro F hr
 have hra := hr.1.1
 have hrb := hr.2.1
 repeat refine x_ ?_
 refine a_ ?_
 repeat refine x_ ?_
 refine m_ ?_
 refine f_ (s_len_sl rfl) ?_
 refine m_ ?_
 refine f_ (s_len_sl rfl) ?_
 refine f_ (s_neq rfl rfl) ?_
 repeat refine n_ ?_
 refine g_cond rfl (fun h => ?_) (fun h => ?_)
 ·have hne : l.map VM.v ≠ m.map VM.v := by
   intro e
   have := congrArg List.length e
   rw [List.length_map, List.length_map] at this
   rw [this] at h
   simp at h
  rw [decide_eq_false hne]
  repeat refine x_ ?_
  refine a_ ?_
  repeat refine n_ ?_
  refine g_ret ?_
  exact at_end1 rfl rfl [] ⟨rfl, rfl⟩ (fun _ h => h)
 have hlen : l.length = m.length := by simp at h; omega
 repeat refine x_ ?_
 refine m_ ?_
 refine f_ (s_len_sl rfl) ?_
 refine m_ ?_
 repeat refine n_ ?_
 refine g_loop (ι := Nat) (fun k => k ≤ l.length ∧ ∀ i, i < k → (l.getD i VM0).v = (m.getD i VM0).v) (fun k => [(0, .slice a l.length c), (1, .slice b m.length d), (2, .func (.func 36) #[] #[]), (15, .slice a l.length c), (16, .int .i64 (l.length : Nat)), (17, .int .i64 (k : Nat))]) (fun _ => []) (fun k => l.length - k) 0 ⟨by omega, fun i h => by omega⟩ ?_ ?_ ?_
 ·(repeat (first | exact Sub.nil _ | refine Sub.cons rfl ?_))
 ·intro w hw; exact hw
 rintro k ⟨hk, hok⟩
 repeat refine x_ ?_
 refine f_ (s_lss rfl rfl) ?_
 repeat refine n_ ?_
 refine g_cond rfl (fun h => ?_) (fun h => ?_)
 ·have hk' : k < l.length := by simp at h; omega
  have hk2 : k < m.length := by omega
  have hs1 := rdVM_some hra hk'
  have hs2 := rdVM_some hrb hk2
  obtain ⟨u, hue⟩ : ∃ u, u = l.getD k VM0 := ⟨_, rfl⟩
  obtain ⟨v, hve⟩ : ∃ u, u = m.getD k VM0 := ⟨_, rfl⟩
  have hum : u ∈ l := by rw [hue]; exact getVM_mem hk'
  have hvm : v ∈ m := by rw [hve]; exact getVM_mem hk2
  have hru := hr.1.2 u hum
  have hrv := hr.2.2 v hvm
  repeat refine x_ ?_
  refine m_ ?_
  refine f_ (s_indexAddr rfl (by assumption) rfl (by omega)) ?_
  refine r_ (s_loadN (cs := vmC u) rfl (fun w hw => by rw [hue]; exact rdVM hw hra (i := k) (by omega) hk') rfl) ?_
  refine gl_allocA rfl ?_; intro g8
  refine a_ ?_
  (refine gl_store_blkW rfl rfl z_6 z_7 z_7 z_2 ?_)
  repeat refine x_ ?_
  refine m_ ?_
  refine m_ ?_
  refine f_ (s_indexAddr rfl (by assumption) rfl (by omega)) ?_
  refine r_ (s_loadN (cs := vmC v) rfl (fun w hw => by rw [hve]; exact rdVM hw hrb (i := k) (by omega) hk2) rfl) ?_
  refine gl_allocA rfl ?_; intro g9
  (refine gl_store_blkW rfl rfl z_6 z_7 z_7 z_2 ?_)
  repeat refine x_ ?_
  refine m_ ?_
  refine r_ ((s_load_blkW rfl z_3 z_7).eq (v' := vmA u) rfl) ?_
  refine r_ ((s_load_blkW rfl z_3 z_7).eq (v' := vmA v) rfl) ?_
  refine gl_callv _ rfl rfl (ps := []) (qs := []) rfl (same1_ct u v (hz u hum)) i_ (fun h hh hb => ⟨hru.le hh, hrv.le hh⟩) rfl ?_; rintro v A ⟨rfl, rfl⟩
  refine f_ (s_not rfl) ?_
  repeat refine n_ ?_
  refine g_cond rfl (fun h2 => ?_) (fun h2 => ?_)
  ·have huv : u.v ≠ v.v := by simpa using h2
   have hne : l.map VM.v ≠ m.map VM.v := by
    intro e
    refine huv ?_
    have h3 : (l.map VM.v)[k]? = (m.map VM.v)[k]? := by rw [e]
    rw [List.getElem?_map, List.getElem?_map, List.getElem?_eq_getElem hk', List.getElem?_eq_getElem hk2] at h3
    rw [hue, hve, List.getD_eq_getElem?_getD, List.getD_eq_getElem?_getD, List.getElem?_eq_getElem hk', List.getElem?_eq_getElem hk2]
    simpa using h3
   rw [decide_eq_false hne]
   repeat refine x_ ?_
   refine a_ ?_
   repeat refine n_ ?_
   refine g_ret ?_
   exact at_end1 rfl rfl [] ⟨rfl, rfl⟩ (fun _ h => h.dropAll)
  ·have h3 : u.v = v.v := by simpa using h2
   repeat refine x_ ?_
   refine f_ ((s_add_i64 rfl rfl (by omega)).eq (v' := .int .i64 ((k + 1 : Nat) : Int)) (by congr 1)) ?_
   refine m_ ?_
   repeat refine n_ ?_
   refine at_next (k + 1) ⟨by omega, fun i hi => ?_⟩ (by omega) ?_ ?_
   ·rcases Nat.lt_succ_iff_lt_or_eq.1 hi with h4 | rfl
    ·exact hok i h4
    ·rw [← hue, ← hve]; exact h3
   ·(repeat (first | exact Sub.nil _ | refine Sub.cons rfl ?_))
   ·intro w hw; exact hw.dropAll
 have hkl : k = l.length := by simp at h; omega
 subst hkl
 rw [decide_eq_true (getVM_ext hlen hok)]
 repeat refine x_ ?_
 refine a_ ?_
 repeat refine n_ ?_
 refine g_ret ?_
 exact at_end1 rfl rfl [] ⟨rfl, rfl⟩ (fun _ h => h)
set_option maxRecDepth 8000 in
set_option maxHeartbeats 1000000 in
theorem same_ct (r s : RR) (x y : RL) (hz : SzC r) (hv : r.values = x.vs.map VM.v) (hv2 : s.values = y.vs.map VM.v) : Pu Tryz.prog 16 [rrA r x, rrA s y] (fun h => RRd r x h ∧ RRd s y h) (.bool (decide (r = s))) := by
 have hzn := hz.nl
 have hzf := hz.fl
 have hzl := hz.vl
 have hzv := hz.vs
 unfold big at hzn hzf hzl hzv
 obtain ⟨q1, hq1⟩ : ∃ q, q = decide (r.kind = s.kind) := ⟨_, rfl⟩
 obtain ⟨q2, hq2⟩ : ∃ q, q = decide (r.tag = s.tag) := ⟨_, rfl⟩
 obtain ⟨q3, hq3⟩ : ∃ q, q = decide (r.code = s.code) := ⟨_, rfl⟩
 obtain ⟨q4, hq4⟩ : ∃ q, q = decide (r.text = s.text) := ⟨_, rfl⟩
 obtain ⟨q5, hq5⟩ : ∃ q, q = decide ((r.n : Int) = s.n) := ⟨_, rfl⟩
 obtain ⟨q6, hq6⟩ : ∃ q, q = decide (r.nums = s.nums) := ⟨_, rfl⟩
 obtain ⟨q7, hq7⟩ : ∃ q, q = decide (r.flags = s.flags) := ⟨_, rfl⟩
 obtain ⟨q8, hq8⟩ : ∃ q, q = decide (r.box = s.box) := ⟨_, rfl⟩
 obtain ⟨q9, hq9⟩ : ∃ q, q = decide (x.vs.map VM.v = y.vs.map VM.v) := ⟨_, rfl⟩
 obtain ⟨q10, hq10⟩ : ∃ q, q = decide ((r.mod : Int) = s.mod) := ⟨_, rfl⟩
 have e : decide (r = s) = (q1 && q2 && q3 && q4 && q5 && q6 && q7 && q8 && q9 && q10) := by
  rw [hq1, hq2, hq3, hq4, hq5, hq6, hq7, hq8, hq9, hq10, ← hv, ← hv2, Bool.eq_iff_iff]
  simp only [Bool.and_eq_true, decide_eq_true_eq]
  constructor
  ·intro e; rw [e]; simp
  ·rintro ⟨⟨⟨⟨⟨⟨⟨⟨⟨a, b⟩, c⟩, d⟩, e⟩, f⟩, g⟩, i⟩, j⟩, k⟩; exact RR.ext' a b c d (by omega) f (by omega) g i j
 rw [e]
 clear e
 have hxl : x.vs.length ≤ 1000000000000 := by have := congrArg List.length hv; rw [List.length_map] at this; omega
 have hxz : ∀ u ∈ x.vs, u.v.flags.length ≤ 1000000000000 := fun u hu => hzv _ (by rw [hv]; exact List.mem_map.mpr ⟨u, hu, rfl⟩)
 refine ct_enter 75 Tryz.func16 rfl rfl rfl ?_
 intro F hr
 have hra := hr.1
 have hrb := hr.2
 repeat refine x_ ?_
 refine gl_boxA rfl rfl ?_; intro g2
 refine gl_boxA rfl rfl ?_; intro g3
 refine a_ ?_
 repeat refine x_ ?_
 refine a_ ?_
 repeat refine n_ ?_
 rcases scb10 q1 q2 q3 q4 q5 q6 q7 q8 q9 q10 with rfl | ⟨rfl, rfl⟩ | ⟨rfl, rfl, rfl⟩ | ⟨rfl, rfl, rfl, rfl⟩ | ⟨rfl, rfl, rfl, rfl, rfl⟩ | ⟨rfl, rfl, rfl, rfl, rfl, rfl⟩ | ⟨rfl, rfl, rfl, rfl, rfl, rfl, rfl⟩ | ⟨rfl, rfl, rfl, rfl, rfl, rfl, rfl, rfl⟩ | ⟨rfl, rfl, rfl, rfl, rfl, rfl, rfl, rfl, rfl⟩ | ⟨rfl, rfl, rfl, rfl, rfl, rfl, rfl, rfl, rfl, rfl⟩ | ⟨rfl, rfl, rfl, rfl, rfl, rfl, rfl, rfl, rfl, rfl⟩
 all_goals (
  repeat refine x_ ?_
  refine f_ z_1 ?_
  refine r_ (by exact s_load_blk rfl z_3 a10_0) ?_
  refine f_ z_1 ?_
  refine r_ (by exact s_load_blk rfl z_3 a10_0) ?_
  refine f_ ((s_eql rfl rfl).eb hq1) ?_
  refine m_ ?_
  (first | refine gl_guard_no rfl rfl rfl rfl rfl rfl rfl ?_ | (refine v_ ?_; refine f_ z_1 ?_))
  (first | refine gl_guard_no rfl rfl rfl rfl rfl rfl rfl ?_ | (refine v_ ?_; refine r_ (by exact s_load_blk rfl z_3 a10_1) ?_))
  (first | refine gl_guard_no rfl rfl rfl rfl rfl rfl rfl ?_ | (refine v_ ?_; refine f_ z_1 ?_))
  (first | refine gl_guard_no rfl rfl rfl rfl rfl rfl rfl ?_ | (refine v_ ?_; refine r_ (by exact s_load_blk rfl z_3 a10_1) ?_))
  (first | refine gl_guard_no rfl rfl rfl rfl rfl rfl rfl ?_ | (refine v_ ?_; refine f_ ((s_eql_str rfl rfl).eb hq2) ?_))
  refine f_ z_4 ?_
  refine m_ ?_
  (first | refine gl_guard_no rfl rfl rfl rfl rfl rfl rfl ?_ | (refine v_ ?_; refine f_ z_1 ?_))
  (first | refine gl_guard_no rfl rfl rfl rfl rfl rfl rfl ?_ | (refine v_ ?_; refine r_ (by exact s_load_blk rfl z_3 a10_2) ?_))
  (first | refine gl_guard_no rfl rfl rfl rfl rfl rfl rfl ?_ | (refine v_ ?_; refine f_ z_1 ?_))
  (first | refine gl_guard_no rfl rfl rfl rfl rfl rfl rfl ?_ | (refine v_ ?_; refine r_ (by exact s_load_blk rfl z_3 a10_2) ?_))
  (first | refine gl_guard_no rfl rfl rfl rfl rfl rfl rfl ?_ | (refine v_ ?_; refine f_ ((s_eql_str rfl rfl).eb hq3) ?_))
  refine f_ z_4 ?_
  refine m_ ?_
  (first | refine gl_guard_no rfl rfl rfl rfl rfl rfl rfl ?_ | (refine v_ ?_; refine f_ z_1 ?_))
  (first | refine gl_guard_no rfl rfl rfl rfl rfl rfl rfl ?_ | (refine v_ ?_; refine r_ (by exact s_load_blk rfl z_3 a10_3) ?_))
  (first | refine gl_guard_no rfl rfl rfl rfl rfl rfl rfl ?_ | (refine v_ ?_; refine f_ z_1 ?_))
  (first | refine gl_guard_no rfl rfl rfl rfl rfl rfl rfl ?_ | (refine v_ ?_; refine r_ (by exact s_load_blk rfl z_3 a10_3) ?_))
  (first | refine gl_guard_no rfl rfl rfl rfl rfl rfl rfl ?_ | (refine v_ ?_; refine f_ ((s_eql_str rfl rfl).eb hq4) ?_))
  refine f_ z_4 ?_
  refine m_ ?_
  (first | refine gl_guard_no rfl rfl rfl rfl rfl rfl rfl ?_ | (refine v_ ?_; refine f_ z_1 ?_))
  (first | refine gl_guard_no rfl rfl rfl rfl rfl rfl rfl ?_ | (refine v_ ?_; refine r_ (by exact s_load_blk rfl z_3 a10_4) ?_))
  (first | refine gl_guard_no rfl rfl rfl rfl rfl rfl rfl ?_ | (refine v_ ?_; refine f_ z_1 ?_))
  (first | refine gl_guard_no rfl rfl rfl rfl rfl rfl rfl ?_ | (refine v_ ?_; refine r_ (by exact s_load_blk rfl z_3 a10_4) ?_))
  (first | refine gl_guard_no rfl rfl rfl rfl rfl rfl rfl ?_ | (refine v_ ?_; refine f_ ((s_eql rfl rfl).eb hq5) ?_))
  refine f_ z_4 ?_
  refine m_ ?_
  (first | refine gl_guard_no rfl rfl rfl rfl rfl rfl rfl ?_ | (refine v_ ?_; refine f_ z_1 ?_))
  (first | refine gl_guard_no rfl rfl rfl rfl rfl rfl rfl ?_ | (refine v_ ?_; refine r_ (by exact s_load_blk rfl z_3 a10_5) ?_))
  (first | refine gl_guard_no rfl rfl rfl rfl rfl rfl rfl ?_ | (refine v_ ?_; refine f_ z_1 ?_))
  (first | refine gl_guard_no rfl rfl rfl rfl rfl rfl rfl ?_ | (refine v_ ?_; refine r_ (by exact s_load_blk rfl z_3 a10_5) ?_))
  (first | refine gl_guard_no rfl rfl rfl rfl rfl rfl rfl ?_ | (refine v_ ?_; refine gl_callp rfl (eqN_ct r.nums s.nums x.na y.na x.nc y.nc hzn) (fun h hh hb => ⟨hra.nums.le hh, hrb.nums.le hh⟩) rfl ?_; rw [← hq6]))
  refine f_ z_4 ?_
  refine m_ ?_
  (first | refine gl_guard_no rfl rfl rfl rfl rfl rfl rfl ?_ | (refine v_ ?_; refine f_ z_1 ?_))
  (first | refine gl_guard_no rfl rfl rfl rfl rfl rfl rfl ?_ | (refine v_ ?_; refine r_ (by exact s_load_blk rfl z_3 a10_7) ?_))
  (first | refine gl_guard_no rfl rfl rfl rfl rfl rfl rfl ?_ | (refine v_ ?_; refine f_ z_1 ?_))
  (first | refine gl_guard_no rfl rfl rfl rfl rfl rfl rfl ?_ | (refine v_ ?_; refine r_ (by exact s_load_blk rfl z_3 a10_7) ?_))
  (first | refine gl_guard_no rfl rfl rfl rfl rfl rfl rfl ?_ | (refine v_ ?_; refine gl_callp rfl (eqB_ct r.flags s.flags x.fa y.fa x.fc y.fc hzf) (fun h hh hb => ⟨hra.flags.le hh, hrb.flags.le hh⟩) rfl ?_; rw [← hq7]))
  refine f_ z_4 ?_
  refine m_ ?_
  (first | refine gl_guard_no rfl rfl rfl rfl rfl rfl rfl ?_ | (refine v_ ?_; refine f_ z_1 ?_))
  (first | refine gl_guard_no rfl rfl rfl rfl rfl rfl rfl ?_ | (refine v_ ?_; refine r_ (by exact s_load_blk rfl z_3 a10_8) ?_))
  (first | refine gl_guard_no rfl rfl rfl rfl rfl rfl rfl ?_ | (refine v_ ?_; refine f_ z_1 ?_))
  (first | refine gl_guard_no rfl rfl rfl rfl rfl rfl rfl ?_ | (refine v_ ?_; refine r_ (by exact s_load_blk rfl z_3 a10_8) ?_))
  (first | refine gl_guard_no rfl rfl rfl rfl rfl rfl rfl ?_ | (refine v_ ?_; refine f_ ((s_eql_str rfl rfl).eb hq8) ?_))
  refine f_ z_4 ?_
  refine m_ ?_
  (first | refine gl_guard_no rfl rfl rfl rfl rfl rfl rfl ?_ | (refine v_ ?_; refine f_ z_1 ?_))
  (first | refine gl_guard_no rfl rfl rfl rfl rfl rfl rfl ?_ | (refine v_ ?_; refine r_ (by exact s_load_blk rfl z_3 a10_9) ?_))
  (first | refine gl_guard_no rfl rfl rfl rfl rfl rfl rfl ?_ | (refine v_ ?_; refine f_ z_1 ?_))
  (first | refine gl_guard_no rfl rfl rfl rfl rfl rfl rfl ?_ | (refine v_ ?_; refine r_ (by exact s_load_blk rfl z_3 a10_9) ?_))
  (first | refine gl_guard_no rfl rfl rfl rfl rfl rfl rfl ?_ | (refine v_ ?_; refine m_ ?_))
  (first | refine gl_guard_no rfl rfl rfl rfl rfl rfl rfl ?_ | (refine v_ ?_; refine gl_callp rfl (eqV_ct x.vs y.vs x.va y.va x.vc y.vc hxl hxz) (fun h hh hb => ⟨⟨hra.vs.le hh, fun m hm => (hra.fs m hm).le hh⟩, ⟨hrb.vs.le hh, fun m hm => (hrb.fs m hm).le hh⟩⟩) rfl ?_; rw [← hq9]))
  refine f_ z_4 ?_
  refine m_ ?_
  (first | refine gl_guard_no rfl rfl rfl rfl rfl rfl rfl ?_ | (refine v_ ?_; refine f_ z_1 ?_))
  (first | refine gl_guard_no rfl rfl rfl rfl rfl rfl rfl ?_ | (refine v_ ?_; refine r_ (by exact s_load_blk rfl z_3 a10_6) ?_))
  (first | refine gl_guard_no rfl rfl rfl rfl rfl rfl rfl ?_ | (refine v_ ?_; refine f_ z_1 ?_))
  (first | refine gl_guard_no rfl rfl rfl rfl rfl rfl rfl ?_ | (refine v_ ?_; refine r_ (by exact s_load_blk rfl z_3 a10_6) ?_))
  (first | refine gl_guard_no rfl rfl rfl rfl rfl rfl rfl ?_ | (refine v_ ?_; refine f_ ((s_eql rfl rfl).eb hq10) ?_))
  refine f_ z_4 ?_
  refine a_ ?_
  refine gl_nil ?_
  repeat refine y_ ?_)
 all_goals (refine g_ret ?_; exact at_end1 rfl rfl [] ⟨rfl, rfl⟩ (fun w hw => hw.dropAll))
end Go.Proofs.YtgllpcggdcknaaaGreatDoor.Rp
namespace Go.Proofs.YtgllpcggdcknaaaGreatDoor.Rp
open Go Go.Sl Go.RowKit
def writeS (r : RR) : Option Bs := if 1 ≤ r.kind ∧ r.kind ≤ 14 ∧ readS (textP r ++ crlf) = some (r, (textP r ++ crlf).length) then some (textP r ++ crlf) else none
def writeV (o : Option Bs) : Value := .tuple #[B (o.getD []), .int .i64 (if o.isSome = true then 0 else 1)]
theorem sc3o (q1 q2 : Bool) : q1 = false ∨ (q1 = true ∧ q2 = true) ∨ (q1 = true ∧ q2 = false) := by
 cases q1 <;> cases q2 <;> simp
set_option maxRecDepth 8000 in
theorem Print_ct (r : RR) (x : RL) (hz : SzW r) (hc : CapL r x) (hv : r.values = x.vs.map VM.v) (hl : (textP r).length < 4294967279) : Pu Tryz.prog 9 [rrA r x] (PreW r x) (writeV (writeS r)) := by
 obtain ⟨q1, hq1⟩ : ∃ q, q = decide (r.kind < 1) := ⟨_, rfl⟩
 obtain ⟨q2, hq2⟩ : ∃ q, q = decide (r.kind > 14) := ⟨_, rfl⟩
 have hqq : ¬(1 ≤ r.kind ∧ r.kind ≤ 14) ↔ (q1 || q2) = true := by
  rw [Bool.or_eq_true, hq1, hq2, decide_eq_true_eq, decide_eq_true_eq]
  omega
 refine ct_enter 40 Tryz.func9 rfl rfl rfl ?_
 intro F hh
 have hg := hh.1
 have hrr := hh.2
 repeat refine x_ ?_
 refine gl_boxA rfl rfl ?_; intro g1
 refine a_ ?_
 refine a_ ?_
 repeat refine n_ ?_
 refine g_cutK [(1, Ptr g1), (15, .bool (q1 || q2))] [blkR g1 r x] ?_ ?_
 ·cases q1
  all_goals (
   repeat refine x_ ?_
   refine f_ z_1 ?_
   refine r_ (by exact s_load_blk rfl z_3 a10_0) ?_
   refine f_ ((s_lss rfl rfl).eb hq1) ?_
   refine m_ ?_
   (first | refine gl_guard_no rfl rfl rfl rfl rfl rfl rfl ?_ | (refine v_ ?_; refine f_ z_1 ?_))
   (first | refine gl_guard_no rfl rfl rfl rfl rfl rfl rfl ?_ | (refine v_ ?_; refine r_ (by exact s_load_blk rfl z_3 a10_0) ?_))
   (first | refine gl_guard_no rfl rfl rfl rfl rfl rfl rfl ?_ | (refine v_ ?_; refine f_ ((s_gtr rfl rfl).eb hq2) ?_))
   refine f_ z_4 ?_
   refine gl_nil ?_
   repeat refine y_ ?_)
  all_goals exact at_cut j_ i_
 repeat refine y_ ?_
 refine g_cond rfl (fun h => ?_) (fun h => ?_)
 ·have e : writeS r = none := by
   unfold writeS
   exact if_neg fun c => hqq.2 h ⟨c.1, c.2.1⟩
  rw [e]
  repeat refine x_ ?_
  refine a_ ?_
  refine a_ ?_
  repeat refine n_ ?_
  refine g_ret ?_
  exact at_end2 rfl rfl rfl [] ⟨rfl, rfl⟩ (fun w hw => hw.dropAll)
 have hk : 1 ≤ r.kind ∧ r.kind ≤ 14 := by
  refine Classical.not_not.1 fun c => ?_
  rw [hqq.1 c] at h
  cases h
 obtain ⟨T, hT⟩ : ∃ T, T = textP r ++ crlf := ⟨_, rfl⟩
 have hT' : textP r ++ [13, 10] = T := hT.symm
 have hTl : T.length < 4294967281 := by rw [hT, List.length_append]; simp; omega
 have c12 := Read_ct T hTl
 obtain ⟨o, ho⟩ : ∃ o, o = readS T := ⟨_, rfl⟩
 rw [← ho] at c12
 unfold ReadW at c12
 obtain ⟨q, hqe⟩ : ∃ q, q = (o.getD (R0, 0)).1 := ⟨_, rfl⟩
 obtain ⟨n, hne⟩ : ∃ q, q = (o.getD (R0, 0)).2 := ⟨_, rfl⟩
 obtain ⟨z, hze⟩ : ∃ q, q = o.isSome := ⟨_, rfl⟩
 rw [← hqe, ← hne, ← hze] at c12
 obtain ⟨p2, hp2⟩ : ∃ p, p = !decide ((n : Int) = (T.length : Nat)) := ⟨_, rfl⟩
 obtain ⟨p3, hp3⟩ : ∃ p, p = decide (r = q) := ⟨_, rfl⟩
 have e : writeS r = if (!z || (p2 || !p3)) = true then none else some T := by
  unfold writeS
  rw [← hT, ← ho]
  have hiff : (1 ≤ r.kind ∧ r.kind ≤ 14 ∧ o = some (r, T.length)) ↔ ¬((!z || (p2 || !p3)) = true) := by
   cases o with
   | none =>
    have : z = false := hze
    rw [this]
    simp
   | some a =>
    obtain ⟨a1, a2⟩ := a
    have h1 : z = true := hze
    have h2 : q = a1 := hqe
    have h3 : n = a2 := hne
    rw [h1, hp2, hp3, h2, h3]
    simp only [Option.some.injEq, Prod.mk.injEq, Bool.not_true, Bool.false_or, Bool.or_eq_true, Bool.not_eq_true', decide_eq_false_iff_not, not_or, Classical.not_not]
    constructor
    ·rintro ⟨_, _, h4, h5⟩; exact ⟨by omega, h4.symm⟩
    ·rintro ⟨h4, h5⟩; exact ⟨hk.1, hk.2, h5.symm, by omega⟩
  by_cases hb : (!z || (p2 || !p3)) = true
  ·rw [if_pos hb, if_neg (fun c => hiff.1 c hb)]
  ·rw [if_neg hb, if_pos (hiff.2 hb)]
 rw [e]
 clear e hT
 repeat refine x_ ?_
 refine r_ ((s_load_blkW rfl z_3 z_7).eq (v' := rrA r x) rfl) ?_
 refine gl_callp rfl (textW_ct r x hz hc hv hk) (fun h hh hb => ⟨hg.le hh, hrr.le hh⟩) rfl ?_
 refine f_ ((s_add_str rfl rfl (by simp only [List.length_cons, List.length_nil]; omega)).eq (v' := B T) (by rw [hT'])) ?_
 refine a_ ?_
 repeat refine x_ ?_
 refine m_ ?_
 refine gl_call _ rfl c12 i_ (fun h hh hb => hg.le hh) rfl ?_; rintro v A ⟨y, hy, rfl, rfl⟩; refine gl_pull (fun w hw => hw.perm List.perm_append_comm) ?_; simp only [List.cons_append, List.nil_append]
 refine m_ ?_
 refine f_ (s_extract rfl rfl) ?_
 refine f_ (s_extract rfl rfl) ?_
 refine f_ (s_extract rfl rfl) ?_
 refine gl_allocA rfl ?_; intro g5
 (refine gl_store_blkW rfl rfl z_6 z_7 z_7 z_2 ?_)
 refine a_ ?_
 refine a_ ?_
 repeat refine n_ ?_
 refine g_cutK [(4, B T), (38, .bool (!z || (p2 || !p3)))] [] ?_ ?_
 ·rcases sc3o z p2 with rfl | ⟨rfl, rfl⟩ | ⟨rfl, rfl⟩
  all_goals (
   repeat refine x_ ?_
   refine m_ ?_
   refine f_ (s_neq rfl rfl) ?_
   refine m_ ?_
   (first | refine gl_guard_no rfl rfl rfl rfl rfl rfl rfl ?_ | (refine v_ ?_; refine m_ ?_))
   (first | refine gl_guard_no rfl rfl rfl rfl rfl rfl rfl ?_ | (refine v_ ?_; refine m_ ?_))
   (first | refine gl_guard_no rfl rfl rfl rfl rfl rfl rfl ?_ | (refine v_ ?_; refine f_ (s_len_str rfl) ?_))
   (first | refine gl_guard_no rfl rfl rfl rfl rfl rfl rfl ?_ | (refine v_ ?_; refine f_ ((s_neq rfl rfl).eb hp2) ?_))
   refine f_ z_4 ?_
   refine m_ ?_
   (first | refine gl_guard_no rfl rfl rfl rfl rfl rfl rfl ?_ | (refine v_ ?_; refine r_ ((s_load_blkW rfl z_3 z_7).eq (v' := rrA r x) rfl) ?_))
   (first | refine gl_guard_no rfl rfl rfl rfl rfl rfl rfl ?_ | (refine v_ ?_; refine r_ ((s_load_blkW rfl z_3 z_7).eq (v' := rrA q y) rfl) ?_))
   (first | refine gl_guard_no rfl rfl rfl rfl rfl rfl rfl ?_ | (refine v_ ?_; refine gl_callp rfl (same_ct r q x y hz.sz.c hv hy) (fun h hh hb => ⟨hrr.le hh, rrd_own hy (fun y' hy' => .tail _ (.tail _ hy')) hb⟩) rfl ?_; rw [← hp3]))
   (first | refine gl_guard_no rfl rfl rfl rfl rfl rfl rfl ?_ | (refine v_ ?_; refine f_ (s_not rfl) ?_))
   refine f_ z_4 ?_
   refine gl_nil ?_
   repeat refine y_ ?_)
  all_goals exact at_cut j_ (fun w hw => hw.dropAll)
 repeat refine y_ ?_
 refine g_cond rfl (fun h => ?_) (fun h => ?_)
 ·rw [if_pos h]
  repeat refine x_ ?_
  refine a_ ?_
  refine a_ ?_
  repeat refine n_ ?_
  refine g_ret ?_
  exact at_end2 rfl rfl rfl [] ⟨rfl, rfl⟩ i_
 ·rw [if_neg (by rw [h]; simp)]
  repeat refine x_ ?_
  refine m_ ?_
  refine a_ ?_
  refine a_ ?_
  repeat refine n_ ?_
  refine g_ret ?_
  exact at_end2 rfl rfl rfl [] ⟨rfl, rfl⟩ i_
end Go.Proofs.YtgllpcggdcknaaaGreatDoor.Rp
namespace Go.Proofs.YtgllpcggdcknaaaGreatDoor.Rp
open Go Go.Sl Go.RowKit
theorem write_eq (r : RR) : writeS r = if okR r = true then some (textP r ++ crlf) else none := by
 by_cases h : okR r = true
 ·rw [if_pos h]
  have hk : 1 ≤ r.kind ∧ r.kind ≤ 14 := by
   refine Classical.not_not.1 fun c => ?_
   rw [okR_x c] at h
   cases h
  have hb := read_B h []
  rw [List.append_nil] at hb
  unfold writeS
  rw [if_pos ⟨hk.1, hk.2, hb⟩]
 ·rw [if_neg h]
  unfold writeS
  refine if_neg fun c => ?_
  exact read_none rfl (by simpa using h) _ _ c.2.2 rfl
theorem ok_nums {r : RR} (h : okR r = true) (hk : r.kind ≠ 13) : r.nums = [] := by
 unfold okR at h
 repeat' split at h
 all_goals first
  | (exact absurd ‹r.kind = 13› hk)
  | (simp only [onlyB, Bool.false_or, Bool.true_or, Bool.true_and, Bool.and_eq_true, List.isEmpty_iff] at h; simp only [h])
  | cases h
theorem ok_vals {r : RR} (h : okR r = true) (hk : r.kind ≠ 12) (hk2 : r.kind ≠ 14) : r.values = [] := by
 unfold okR at h
 repeat' split at h
 all_goals first
  | (exact absurd ‹r.kind = 12› hk)
  | (exact absurd ‹r.kind = 14› hk2)
  | (simp only [onlyB, Bool.false_or, Bool.true_or, Bool.true_and, Bool.and_eq_true, List.isEmpty_iff] at h; simp only [h])
  | cases h
theorem textP_14 {r : RR} (hk : r.kind = 14) : textP r = 42 :: 32 :: digS r.n ++ wFetch ++ 40 :: joinS [32] (cellsP r) ++ [41] := by
 unfold textP
 rw [hk]
 rfl
theorem textP_12 {r : RR} (hk : r.kind = 12) : textP r = 42 :: 32 :: wStatus ++ formS r.box ++ 32 :: 40 :: joinS [32] (cellsP r) ++ [41] := by
 unfold textP
 rw [hk]
 rfl
theorem szW_ok {r : RR} (hz : SzR r) (h : okR r = true) (hl : (textP r).length ≤ big) : SzW r := by
 refine ⟨hz, ?_, ?_⟩
 ·by_cases hk : r.kind = 13
  ·rw [textP_13 hk] at hl
   simp only [List.length_append, List.length_cons] at hl
   omega
  ·rw [ok_nums h hk]
   exact Nat.zero_le _
 ·by_cases hk : r.kind = 12
  ·rw [textP_12 hk] at hl
   simp only [List.length_append, List.length_cons] at hl
   omega
  by_cases hk2 : r.kind = 14
  ·rw [textP_14 hk2] at hl
   simp only [List.length_append, List.length_cons] at hl
   omega
  ·have : cellsP r = [] := by unfold cellsP; rw [ok_vals h hk hk2]; rfl
   rw [this]
   exact Nat.zero_le _
section
variable {P : Program} {N : Nat} {K R : Kont} {E : List (Nat × Kont)} {L : Lcs} {F : Snap} {H : List As}
end
abbrev rA : RR := ⟨1, [97], [82, 69, 65, 68, 45, 87, 82, 73, 84, 69], [100, 111, 110, 101], 0, [], 0, [], [], []⟩
abbrev sA : Bs := [42, 32, 51, 32, 70, 69, 84, 67, 72, 32, 40, 85, 73, 68, 32, 55, 32, 77, 79, 68, 83, 69, 81, 32, 40, 57, 41, 41, 13, 10, 120]
abbrev rB : RR := ⟨14, [], [], [], 3, [], 0, [], [], [⟨7, 7, [], [], false, 0⟩, ⟨9, 9, [], [], false, 0⟩]⟩
theorem write_rA : writeS rA = some [97, 32, 79, 75, 32, 91, 82, 69, 65, 68, 45, 87, 82, 73, 84, 69, 93, 32, 100, 111, 110, 101, 13, 10] := by
 rw [write_eq, if_pos (by decide)]
 decide
theorem read_sA : readS sA = some (rB, 30) := by
 have h := read_B (r := rB) (by decide) [120]
 have e : (textP rB ++ crlf) ++ [120] = sA := by decide +kernel
 rw [e] at h
 rw [h]
 decide +kernel
end Go.Proofs.YtgllpcggdcknaaaGreatDoor.Rp
namespace Go.Proofs.YtgllpcggdcknaaaGreatDoor.Rp
open Go Go.Sl Go.RowKit
theorem rrd_none (r : RR) (h : Heap) (hn : r.nums = []) (hf : r.flags = []) (hv : r.values = []) : RRd r L0 h := by
 refine ⟨hv, ?_, ?_, RdS.nil _ _, fun m hm => nomatch hm⟩
 ·rw [hn]; exact RdS.nil _ _
 ·rw [hf]; exact RdS.nil _ _
theorem cap_none (r : RR) (hf : r.flags = []) : CapL r L0 := ⟨by rw [hf]; exact Nat.zero_le _, fun m hm => nomatch hm⟩
theorem szW_rA : SzW rA := szW_ok (szR_of (by decide) (by decide) (by decide) (by decide) (by decide) z_8 (by decide) z_8 (by decide) (by decide) z_8) (by decide) (by decide)
theorem two_vals {vs : List VM} {a b : RV} (h : [a, b] = vs.map VM.v) : ∃ m1 m2, vs = [m1, m2] ∧ m1.v = a ∧ m2.v = b := by
 match vs, h with
 | [m1, m2], h => simp only [List.map_cons, List.map_nil, List.cons.injEq, and_true] at h; exact ⟨m1, m2, rfl, h.1.symm, h.2.symm⟩
set_option maxRecDepth 8000 in
theorem alive_ct : Pu Tryz.prog 8 [] Gl (.bool true) := by
 have c9 := Print_ct rA L0 szW_rA (cap_none rA rfl) rfl (by decide)
 have c12 := Read_ct sA (by decide)
 rw [write_rA] at c9
 rw [read_sA] at c12
 unfold writeV at c9
 unfold ReadW at c12
 simp only [Option.getD_some, Option.isSome_some, if_true] at c9 c12
 refine ct_enter 49 Tryz.func8 rfl rfl rfl ?_
 intro F hg
 repeat refine x_ ?_
 refine a_ ?_
 repeat refine x_ ?_
 refine f_ (s_bld rfl rfl) ?_
 refine gl_callp rfl c9 (fun h hh hb => ⟨hg.le hh, rrd_none rA h rfl rfl rfl⟩) rfl ?_
 refine m_ ?_
 refine f_ (s_extract rfl rfl) ?_
 refine f_ (s_extract rfl rfl) ?_
 refine a_ ?_
 refine a_ ?_
 repeat refine x_ ?_
 refine gl_call _ rfl c12 i_ (fun h hh hb => hg.le hh) rfl ?_; rintro v A ⟨y, hy, rfl, rfl⟩; refine gl_pull (fun w hw => hw.perm List.perm_append_comm) ?_; simp only [List.cons_append, List.nil_append]
 refine m_ ?_
 refine f_ (s_extract rfl rfl) ?_
 refine f_ (s_extract rfl rfl) ?_
 refine f_ (s_extract rfl rfl) ?_
 refine gl_allocA rfl ?_; intro g3
 (refine gl_store_blkW rfl rfl z_6 z_7 z_7 z_2 ?_)
 refine a_ ?_
 refine a_ ?_
 repeat refine n_ ?_
 obtain ⟨m1, m2, hm, h1, h2⟩ := two_vals hy
 obtain ⟨na, nc, fa, fc, va, vc, vs⟩ := y
 simp only at hm
 subst hm
 refine g_ownN (a := va) (n := 2) (c := vc) z_3 (fun _ _ hsome => ?_)
 have hva := hsome (by decide)
 have h9 : (vmV [m1, m2])[7]? = some (.int .u64 9) := by simp [vmV, h2]
 have hc : ∀ j u, [Value.int .u64 9][j]? = some u → (vmV [m1, m2])[7 + j]? = some u := fun j u hu => by
  match j, hu with
  | 0, hu => simp only [List.getElem?_cons_zero, Option.some.injEq] at hu; subst hu; exact h9
 repeat refine x_ ?_
 refine m_ ?_
 refine f_ ((s_eql_str rfl rfl).eq (v' := .bool true) rfl) ?_
 refine m_ ?_
 (refine v_ ?_; refine m_ ?_)
 (refine v_ ?_; refine f_ (s_eql rfl rfl) ?_)
 refine f_ (by exact s_pick_t rfl rfl) ?_
 refine m_ ?_
 (refine v_ ?_; refine m_ ?_)
 (refine v_ ?_; refine f_ (s_eql rfl rfl) ?_)
 refine f_ (by exact s_pick_t rfl rfl) ?_
 refine m_ ?_
 (refine v_ ?_; refine m_ ?_)
 (refine v_ ?_; refine f_ ((s_eql rfl rfl).eq (v' := .bool true) rfl) ?_)
 refine f_ (by exact s_pick_t rfl rfl) ?_
 refine m_ ?_
 (refine v_ ?_; refine f_ z_1 ?_)
 (refine v_ ?_; refine r_ (by exact s_load_blk rfl z_3 a10_4) ?_)
 (refine v_ ?_; refine f_ ((s_eql rfl rfl).eq (v' := .bool true) rfl) ?_)
 refine f_ (by exact s_pick_t rfl rfl) ?_
 refine m_ ?_
 (refine v_ ?_; refine f_ z_1 ?_)
 (refine v_ ?_; refine r_ (by exact s_load_blk rfl z_3 a10_9) ?_)
 (refine v_ ?_; refine f_ (s_len_sl rfl) ?_)
 (refine v_ ?_; refine f_ (s_eql rfl rfl) ?_)
 refine f_ (by exact s_pick_t rfl rfl) ?_
 refine m_ ?_
 (refine v_ ?_; refine f_ z_1 ?_)
 (refine v_ ?_; refine r_ (by exact s_load_blk rfl z_3 a10_9) ?_)
 (refine v_ ?_; refine f_ ((s_indexAddr (len := 2) rfl hva rfl (by omega))) ?_)
 (refine v_ ?_; refine f_ (by exact s_fieldAddr_o rfl (by assumption) z_7 (by infer_instance) (by decide)) ?_)
 (refine v_ ?_; refine r_ (s_load1 (v := .int .u64 9) rfl (fun w hw => peek_own (q := 7) hw z_3 z_8 hc)) ?_)
 (refine v_ ?_; refine f_ ((s_eql rfl rfl).eq (v' := .bool true) rfl) ?_)
 refine f_ (by exact s_pick_t rfl rfl) ?_
 refine a_ ?_
 repeat refine n_ ?_
 refine g_ret ?_
 exact at_end1 rfl rfl [] ⟨rfl, rfl⟩ (fun w hw => hw.dropAll)
end Go.Proofs.YtgllpcggdcknaaaGreatDoor.Rp
