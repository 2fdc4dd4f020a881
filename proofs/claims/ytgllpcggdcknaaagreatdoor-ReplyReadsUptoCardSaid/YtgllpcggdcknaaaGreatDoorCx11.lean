import Derived.Test.YtgllpcggdcknaaaGreatDoorCx10
set_option linter.unusedVariables false
set_option linter.unusedSimpArgs false
namespace Go.Proofs.YtgllpcggdcknaaaGreatDoor.Rp
open Go Go.Sl
def RowsP (l : List RV) (v : Value) (A : List As) : Prop := ∃ (a : Option Addr) (c : Nat) (vs : List VM), l = vs.map VM.v ∧ v = .slice a vs.length c ∧ A = .own (.slice a vs.length c) 46 6 (vmV vs) :: vsH vs
theorem valR_le {s : Bs} {p : Nat} {fetch : Bool} (hp : p ≤ s.length) : (valR s p fetch).2 ≤ s.length + s.length + 10 := by
 have hge := to_ge s p [32, 60, 13]
 have hle := to_le (s := s) (p := p) (stops := [32, 60, 13]) hp
 obtain ⟨w, hw⟩ : ∃ w, w = cutS s p (toS s p [32, 60, 13]) := ⟨_, rfl⟩
 have hwl : p + w.length ≤ s.length := by rw [hw]; unfold cutS; rw [List.length_drop, List.length_take]; omega
 have hql := partR_le (k := kindR w fetch) hwl
 rw [valR_eq s p fetch w hw _ _ rfl _ rfl rfl]
 obtain ⟨q, hq⟩ : ∃ q, q = partR s (kindR w fetch) (p + w.length) := ⟨_, rfl⟩
 rw [← hq] at hql ⊢
 have hpl := parseG_le (s.drop (q.2 + 1))
 rw [List.length_drop] at hpl
 have hm : min (q.2 + 1 + 1) s.length ≤ s.length := Nat.min_le_right _ _
 have hn := numR_le hm
 split
 ·simp only; omega
 ·next hh =>
  have hn2 := numR_le (s := s) (p := q.2 + 1) (by omega)
  split
  ·simp only; omega
  split
  ·simp only; omega
  split
  ·simp only; omega
  split
  ·simp only; omega
  ·simp only; omega
theorem perm_last {α : Type} (X Y : α) (Z : List α) : List.Perm (X :: Y :: Z) (Y :: (Z ++ [X])) :=
 (List.Perm.swap Y X Z).trans (List.Perm.cons Y (List.perm_append_singleton X Z).symm)
set_option maxRecDepth 8000 in
theorem rowsR_ct (s : Bs) (p : Nat) (fetch : Bool) (hs : s.length ≤ 400000000000) (hp : p ≤ 1000000000000) : Ct Tryz.prog 64 [B s, .int .i64 (p : Nat), .bool fetch] (fun _ => True) [] (RowsP (rowsR s p fetch)) := by
 obtain ⟨q0, hq0⟩ : ∃ q, q = beginsS s p [40] := ⟨_, rfl⟩
 refine ct_enter 42 Tryz.func64 rfl rfl rfl ?_
 intro F _
 repeat refine x_ ?_
 refine a_ ?_
 repeat refine x_ ?_
 refine a_ ?_
 repeat refine x_ ?_
 refine m_ ?_
 refine m_ ?_
 refine gl_callp rfl (begins_ct s p [40] (by omega) (by omega) (by decide)) (fun _ _ _ => trivial) rfl ?_; rw [← hq0]
 refine f_ (s_not rfl) ?_
 repeat refine n_ ?_
 refine g_cond rfl (fun h => ?_) (fun h => ?_)
 ·have e : rowsR s p fetch = [] := by unfold rowsR; rw [← hq0, if_neg (by simpa using h)]
  rw [e]
  repeat refine x_ ?_
  refine a_ ?_
  repeat refine n_ ?_
  refine g_ret ?_
  exact at_end1 rfl rfl _ ⟨none, 0, [], rfl, rfl, rfl⟩ (fun w hw => hw.addNil _ _)
 ·have h1 : q0 = true := by simpa using h
  have hb := beg_le (hq0.symm.trans h1)
  simp only [List.length_singleton] at hb
  have he0 : rowsR s p fetch = rowsRL s fetch 11 [] p := by unfold rowsR; rw [← hq0, if_pos h1]
  repeat refine y_ ?_
  refine g_own_nil 46 6 ?_
  refine g_loop (ι := Nat × List VM × Option Addr × Nat) (fun i => i.1 + 1 ≤ s.length ∧ i.2.1.length ≤ 11 ∧ rowsR s p fetch = rowsRL s fetch (11 - i.2.1.length) (i.2.1.map VM.v) i.1) (fun i => [(0, B s), (1, .int .i64 (i.1 : Nat)), (2, .bool fetch), (7, .slice i.2.2.1 i.2.1.length i.2.2.2)]) (fun i => .own (.slice i.2.2.1 i.2.1.length i.2.2.2) 46 6 (vmV i.2.1) :: vsH i.2.1) (fun i => 11 - i.2.1.length) (p, [], none, 0) ⟨hb, by simp, he0⟩ ?_ ?_ ?_
  ·(repeat (first | exact Sub.nil _ | refine Sub.cons rfl ?_))
  ·intro w hw; exact hw
  ·rintro ⟨p, l, b, d⟩ ⟨hp, hl, he⟩
   simp only at hp hl he
   repeat refine x_ ?_
   refine m_ ?_
   refine f_ (s_len_sl rfl) ?_
   refine f_ (s_lss rfl rfl) ?_
   repeat refine n_ ?_
   refine g_cond rfl (fun h11 => ?_) (fun h11 => ?_)
   rotate_left
   ·have hl11 : l.length = 11 := by simp at h11; omega
    rw [hl11] at he
    rw [he]
    repeat refine x_ ?_
    refine m_ ?_
    refine a_ ?_
    repeat refine n_ ?_
    refine g_ret ?_
    exact at_end1 rfl rfl _ ⟨b, d, l, rfl, rfl, rfl⟩ i_
   have hl10 : l.length ≤ 10 := by simp at h11; omega
   obtain ⟨k, hk⟩ : ∃ k, 11 - l.length = k + 1 := ⟨10 - l.length, by omega⟩
   rw [hk, rowsRL] at he
   have hvl := valR_le (s := s) (p := p + 1) (fetch := fetch) hp
   repeat refine x_ ?_
   refine m_ ?_
   refine f_ ((s_add_i64 rfl rfl (by omega)).eq (v' := .int .i64 ((p + 1 : Nat) : Int)) (by congr 1)) ?_
   refine a_ ?_
   repeat refine x_ ?_
   refine m_ ?_
   refine m_ ?_
   refine m_ ?_
   refine gl_call _ rfl (valueAt_ct s (p + 1) fetch (by omega) hp) i_ (fun _ _ _ => trivial) rfl ?_; rintro v A ⟨x, hx, rfl, rfl⟩
   refine m_ ?_
   refine f_ (s_extract rfl rfl) ?_
   refine f_ (s_extract rfl rfl) ?_
   refine gl_allocA rfl ?_; intro g8
   (refine gl_store_blkW rfl rfl z_5 z_8 z_8 z_2 ?_)
   refine a_ ?_
   repeat refine n_ ?_
   have hvv : vmV (l ++ [x]) = vmV l ++ vmV [x] := vmV_append _ _
   obtain ⟨e, hev⟩ : ∃ e, e = (valR s (p + 1) fetch).2 := ⟨_, rfl⟩
   rw [← hev] at hvl he ⊢
   rw [← hx] at he
   repeat refine x_ ?_
   refine m_ ?_
   refine r_ ((s_load_blkW rfl z_3 z_8).eq (v' := vmA x) rfl) ?_
   refine gl_buildSliceU rfl rfl rfl rfl rfl rfl (xs := vmV [x]) rfl rfl ?_; intro a39 ha39
   refine gl_append rfl rfl (fun a' c' => .there (.there (.there .here))) (fun w hw => (hw.ownN z_3).2.2.1) rfl rfl rfl (vmV_one _) (by show (l.length + 1) * 72 ≤ _; omega) (by simp only; omega) rfl ?_; intro a5 c5 hc5
   refine a_ ?_
   repeat refine n_ ?_
   obtain ⟨r1, hr1⟩ : ∃ b, b = decide ((e : Int) ≤ ((p + 1 : Nat) : Int)) := ⟨_, rfl⟩
   obtain ⟨r2, hr2⟩ : ∃ b, b = beginsS s e [32] := ⟨_, rfl⟩
   have hrr : (e ≤ p + 1 ∨ beginsS s e [32] = false) ↔ (r1 || !r2) = true := by
    rw [← hr2, Bool.or_eq_true, hr1, decide_eq_true_eq, Bool.not_eq_true']
    exact or_congr (by omega) Iff.rfl
   have hpm : ∀ w, Hp F w (.own (.slice a39 1 1) 46 6 (vmV [x]) :: blkV g8 x.v x.a x.c :: OwnS x.a x.v.flags x.c :: .own (.slice a5 (l.length + 1) c5) 46 6 (vmV l ++ vmV [x]) :: vsH l) → Hp F w (.own (.slice a5 (l ++ [x]).length c5) 46 6 (vmV (l ++ [x])) :: vsH (l ++ [x])) := fun w hw => by
    rw [hvv, vsH_append, List.length_append]
    exact hw.drop.drop.perm (perm_last _ _ _)
   repeat refine y_ ?_
   refine g_cutK [(0, B s), (1, .int .i64 ((p + 1 : Nat) : Int)), (2, .bool fetch), (7, .slice a5 (l ++ [x]).length c5), (9, .int .i64 (e : Nat)), (38, .bool (r1 || !r2))] (.own (.slice a5 (l ++ [x]).length c5) 46 6 (vmV (l ++ [x])) :: vsH (l ++ [x])) ?_ ?_
   ·cases r1
    all_goals (
     repeat refine x_ ?_
     refine m_ ?_
     refine m_ ?_
     refine f_ ((s_leq rfl rfl).eb hr1) ?_
     refine m_ ?_
     (first | refine gl_guard_no rfl rfl rfl rfl rfl rfl rfl ?_ | (refine v_ ?_; refine m_ ?_))
     (first | refine gl_guard_no rfl rfl rfl rfl rfl rfl rfl ?_ | (refine v_ ?_; refine m_ ?_))
     (first | refine gl_guard_no rfl rfl rfl rfl rfl rfl rfl ?_ | (refine v_ ?_; refine gl_callp rfl (begins_ct s e [32] (by omega) (by omega) (by decide)) (fun _ _ _ => trivial) rfl ?_; rw [← hr2]))
     (first | refine gl_guard_no rfl rfl rfl rfl rfl rfl rfl ?_ | (refine v_ ?_; refine f_ (s_not rfl) ?_))
     refine f_ z_4 ?_
     refine gl_nil ?_
     repeat refine y_ ?_)
    all_goals exact at_cut (by rw [List.length_append]; (repeat (first | exact Sub.nil _ | refine Sub.cons rfl ?_))) hpm
   have hmap : (l ++ [x]).map VM.v = l.map VM.v ++ [x.v] := by rw [List.map_append]; rfl
   repeat refine y_ ?_
   refine g_cond rfl (fun h => ?_) (fun h => ?_)
   ·rw [if_pos (hrr.2 h)] at he
    rw [he]
    repeat refine x_ ?_
    refine m_ ?_
    refine a_ ?_
    repeat refine n_ ?_
    refine g_ret ?_
    exact at_end1 rfl rfl _ ⟨a5, c5, l ++ [x], hmap.symm, rfl, rfl⟩ i_
   ·have hno : ¬(e ≤ p + 1 ∨ beginsS s e [32] = false) := fun x => by rw [hrr.1 x] at h; cases h
    rw [if_neg hno] at he
    have hb2 : beginsS s e [32] = true := by
     cases hz : beginsS s e [32] with
     | true => rfl
     | false => exact absurd (.inr hz) hno
    have hbl := beg_le hb2
    simp only [List.length_singleton] at hbl
    repeat refine x_ ?_
    refine m_ ?_
    refine a_ ?_
    repeat refine n_ ?_
    refine at_next (e, l ++ [x], a5, c5) ⟨hbl, by simp; omega, ?_⟩ (by simp; omega) ?_ ?_
    ·simp only
     rw [he, hmap, List.length_append, List.length_singleton, show 11 - (l.length + 1) = k by omega]
    ·(repeat (first | exact Sub.nil _ | refine Sub.cons rfl ?_))
    ·intro w hw; exact hw
theorem boxR_le {s : Bs} {p : Nat} (hp : p ≤ s.length) : (boxR s p).2 ≤ s.length + s.length := by
 have hle := to_le (s := s) (p := p) (stops := [32, 13]) hp
 have hu := uqS_le (s := s.drop p)
 rw [List.length_drop] at hu
 unfold boxR
 split
 ·simp only; omega
 ·simp only; omega
set_option maxRecDepth 8000 in
theorem guessR_ct (s : Bs) (hs : s.length ≤ 400000000000) : Ct Tryz.prog 27 [B s] (fun _ => True) [] (RpP (guessS s)) := by
 refine ct_enter 100 Tryz.func27 rfl rfl rfl ?_
 intro F _
 repeat refine x_ ?_
 refine gl_allocA rfl ?_; intro g2
 repeat refine x_ ?_
 refine m_ ?_
 refine gl_callp rfl (begins_ct s 0 [43, 32] (by omega) (by omega) (by decide)) (fun _ _ _ => trivial) rfl ?_
 repeat refine n_ ?_
 unfold guessS
 refine g_cond rfl (fun h1 => ?_) (fun h1 => ?_)
 ·rw [if_pos h1]
  have hb := beg_le h1
  simp at hb
  have hge := to_ge s 2 [13]
  have hle := to_le (s := s) (p := 2) (stops := [13]) hb
  repeat refine x_ ?_
  refine m_ ?_
  refine m_ ?_
  refine gl_callp rfl (to_ct s 2 [13] (by omega) (by omega) (by decide)) (fun _ _ _ => trivial) rfl ?_
  refine f_ ((s_slice_str rfl rfl rfl (by omega)).eq (v' := B (cutS s 2 (toS s 2 [13]))) (by rw [← cut_take hge]; rfl)) ?_
  refine f_ (s_bld rfl rfl) ?_
  (refine gl_store_blkW rfl rfl z_5 z_8 z_8 z_2 ?_)
  repeat refine n_ ?_
  refine g_ret ?_
  exact at_endB rfl rfl z_3 rfl _ ⟨L0, rfl, rfl, rfl⟩ (fun w hw => ((hw.dropAll.addNil 46 6).addNil 9 1).addNil 22 1)
 rw [if_neg (by rw [h1]; simp)]
 repeat refine x_ ?_
 refine m_ ?_
 refine gl_callp rfl (begins_ct s 0 [42, 32] (by omega) (by omega) (by decide)) (fun _ _ _ => trivial) rfl ?_
 refine f_ (s_not rfl) ?_
 repeat refine n_ ?_
 refine g_cond rfl (fun h2 => ?_) (fun h2 => ?_)
 ·rw [if_pos (by simpa using h2)]
  have hle := to_le (s := s) (p := 0) (stops := [32]) (by omega)
  repeat refine x_ ?_
  refine m_ ?_
  refine m_ ?_
  refine gl_callp rfl (to_ct s 0 [32] (by omega) (by omega) (by decide)) (fun _ _ _ => trivial) rfl ?_
  refine gl_call _ rfl (toldR_ct s (toS s 0 [32]) (by omega) hle) i_ (fun _ _ _ => trivial) rfl ?_; rintro v A ⟨x, hx, rfl, rfl⟩; refine gl_pull (fun w hw => hw.perm List.perm_append_comm) ?_; simp only [List.cons_append, List.nil_append]
  (refine gl_store_blkW rfl rfl z_5 z_8 z_8 z_2 ?_)
  repeat refine n_ ?_
  refine g_ret ?_
  exact at_endB rfl rfl z_3 rfl _ ⟨x, hx, rfl, rfl⟩ (fun w hw => hw.drop)
 have h2' : beginsS s 0 [42, 32] = true := by simpa using h2
 have hb2 := beg_le h2'
 simp at hb2
 rw [if_neg (by rw [h2']; simp)]
 repeat refine x_ ?_
 refine m_ ?_
 refine gl_callp rfl (begins_ct s 2 wCap (by omega) (by omega) (by decide)) (fun _ _ _ => trivial) rfl ?_
 refine a_ ?_
 repeat refine n_ ?_
 refine g_cond rfl (fun h3 => ?_) (fun h3 => ?_)
 ·rw [if_pos h3]
  repeat refine x_ ?_
  refine f_ (s_bld rfl rfl) ?_
  (refine gl_store_blkW rfl rfl z_5 z_8 z_8 z_2 ?_)
  repeat refine n_ ?_
  refine g_ret ?_
  exact at_endB rfl rfl z_3 rfl _ ⟨L0, rfl, rfl, rfl⟩ (fun w hw => ((hw.dropAll.addNil 46 6).addNil 9 1).addNil 22 1)
 rw [if_neg (by rw [h3]; simp)]
 repeat refine x_ ?_
 refine m_ ?_
 refine gl_callp rfl (begins_ct s 2 wEnab (by omega) (by omega) (by decide)) (fun _ _ _ => trivial) rfl ?_
 refine a_ ?_
 repeat refine n_ ?_
 refine g_cond rfl (fun h4 => ?_) (fun h4 => ?_)
 ·rw [if_pos h4]
  repeat refine x_ ?_
  refine f_ (s_bld rfl rfl) ?_
  (refine gl_store_blkW rfl rfl z_5 z_8 z_8 z_2 ?_)
  repeat refine n_ ?_
  refine g_ret ?_
  exact at_endB rfl rfl z_3 rfl _ ⟨L0, rfl, rfl, rfl⟩ (fun w hw => ((hw.dropAll.addNil 46 6).addNil 9 1).addNil 22 1)
 rw [if_neg (by rw [h4]; simp)]
 repeat refine x_ ?_
 refine m_ ?_
 refine gl_callp rfl (begins_ct s 2 wFlags (by omega) (by omega) (by decide)) (fun _ _ _ => trivial) rfl ?_
 refine a_ ?_
 repeat refine n_ ?_
 refine g_cond rfl (fun h5 => ?_) (fun h5 => ?_)
 ·rw [if_pos h5]
  have hb := beg_le h5
  simp at hb
  repeat refine x_ ?_
  refine m_ ?_
  refine f_ ((s_slice_str rfl rfl rfl (by omega)).eq (v' := B (s.drop 8)) (by rw [List.take_of_length_le (by rw [List.length_drop]; simp)]; rfl)) ?_
  refine gl_call _ rfl (ParseR_ct (s.drop 8) (by unfold big; rw [List.length_drop]; omega)) i_ (fun _ _ _ => trivial) rfl ?_; rintro v A ⟨a96, c96, rfl, rfl⟩
  refine m_ ?_
  refine f_ (s_extract rfl rfl) ?_
  refine f_ (s_extract rfl rfl) ?_
  refine f_ (s_extract rfl rfl) ?_
  refine a_ ?_
  refine a_ ?_
  refine a_ ?_
  repeat refine x_ ?_
  refine m_ ?_
  refine f_ (s_bld rfl rfl) ?_
  (refine gl_store_blkW rfl rfl z_5 z_8 z_8 z_2 ?_)
  repeat refine n_ ?_
  refine g_ret ?_
  exact at_endB rfl rfl z_3 rfl _ ⟨⟨none, 0, a96, c96, none, 0, []⟩, rfl, rfl, rfl⟩ (fun w hw => (((hw.left (A := [_])).addNil 46 6).perm (List.Perm.swap _ _ _)).addNil 22 1)
 rw [if_neg (by rw [h5]; simp)]
 repeat refine x_ ?_
 refine m_ ?_
 refine gl_callp rfl (begins_ct s 2 wList (by omega) (by omega) (by decide)) (fun _ _ _ => trivial) rfl ?_
 refine a_ ?_
 repeat refine n_ ?_
 refine g_cond rfl (fun h6 => ?_) (fun h6 => ?_)
 ·rw [if_pos h6]
  have hb := beg_le h6
  simp at hb
  repeat refine x_ ?_
  refine m_ ?_
  refine gl_callp rfl (boxAt_ct s 14 (by omega) (by omega)) (fun _ _ _ => trivial) rfl ?_
  refine m_ ?_
  refine f_ (s_extract rfl rfl) ?_
  refine f_ (s_extract rfl rfl) ?_
  refine a_ ?_
  refine a_ ?_
  repeat refine x_ ?_
  refine m_ ?_
  refine f_ (s_bld rfl rfl) ?_
  (refine gl_store_blkW rfl rfl z_5 z_8 z_8 z_2 ?_)
  repeat refine n_ ?_
  refine g_ret ?_
  exact at_endB rfl rfl z_3 rfl _ ⟨L0, rfl, rfl, rfl⟩ (fun w hw => ((hw.dropAll.addNil 46 6).addNil 9 1).addNil 22 1)
 rw [if_neg (by rw [h6]; simp)]
 repeat refine x_ ?_
 refine m_ ?_
 refine gl_callp rfl (begins_ct s 2 wStatus (by omega) (by omega) (by decide)) (fun _ _ _ => trivial) rfl ?_
 refine a_ ?_
 repeat refine n_ ?_
 refine g_cond rfl (fun h7 => ?_) (fun h7 => ?_)
 ·rw [if_pos h7]
  have hb := beg_le h7
  simp at hb
  have hbl := boxR_le (s := s) (p := 9) (by omega)
  repeat refine x_ ?_
  refine m_ ?_
  refine gl_callp rfl (boxAt_ct s 9 (by omega) (by omega)) (fun _ _ _ => trivial) rfl ?_
  refine m_ ?_
  refine f_ (s_extract rfl rfl) ?_
  refine f_ (s_extract rfl rfl) ?_
  refine a_ ?_
  refine a_ ?_
  repeat refine x_ ?_
  refine m_ ?_
  refine m_ ?_
  refine m_ ?_
  refine f_ ((s_add_i64 rfl rfl (by omega)).eq (v' := .int .i64 (((boxR s 9).2 + 1 : Nat) : Int)) (by congr 1)) ?_
  refine gl_call _ rfl (rowsR_ct s ((boxR s 9).2 + 1) false hs (by omega)) i_ (fun _ _ _ => trivial) rfl ?_; rintro v A ⟨a68, c68, vs, hvs, rfl, rfl⟩; refine gl_pull (fun w hw => hw.perm List.perm_append_comm) ?_; simp only [List.cons_append, List.nil_append]
  refine f_ (s_bld rfl rfl) ?_
  (refine gl_store_blkW rfl rfl z_5 z_8 z_8 z_2 ?_)
  repeat refine n_ ?_
  refine g_ret ?_
  exact at_endB rfl rfl z_3 rfl _ ⟨⟨none, 0, none, 0, a68, c68, vs⟩, hvs, rfl, rfl⟩ (fun w hw => (hw.drop.addNil 9 1).addNil 22 1)
 rw [if_neg (by rw [h7]; simp)]
 repeat refine x_ ?_
 refine m_ ?_
 refine gl_callp rfl (begins_ct s 2 wSearch (by omega) (by omega) (by decide)) (fun _ _ _ => trivial) rfl ?_
 refine a_ ?_
 repeat refine n_ ?_
 refine g_cond rfl (fun h8 => ?_) (fun h8 => ?_)
 ·rw [if_pos h8]
  have hb := beg_le h8
  simp at hb
  repeat refine x_ ?_
  refine m_ ?_
  refine gl_call _ rfl (searchR_ct s (by omega) (by omega)) i_ (fun _ _ _ => trivial) rfl ?_; rintro v A ⟨x, hx, rfl, rfl⟩; refine gl_pull (fun w hw => hw.perm List.perm_append_comm) ?_; simp only [List.cons_append, List.nil_append]
  (refine gl_store_blkW rfl rfl z_5 z_8 z_8 z_2 ?_)
  repeat refine n_ ?_
  refine g_ret ?_
  exact at_endB rfl rfl z_3 rfl _ ⟨x, hx, rfl, rfl⟩ (fun w hw => hw.drop)
 rw [if_neg (by rw [h8]; simp)]
 have hn := numR_le (s := s) (p := 2) hb2
 repeat refine x_ ?_
 refine m_ ?_
 refine gl_callp rfl (numberR_ct s 2 (by omega) hb2) (fun _ _ _ => trivial) rfl ?_
 refine m_ ?_
 refine f_ (s_extract rfl rfl) ?_
 refine f_ (s_extract rfl rfl) ?_
 refine a_ ?_
 refine a_ ?_
 repeat refine x_ ?_
 refine m_ ?_
 refine f_ ((s_eql rfl rfl).eq (v' := .bool (decide ((numR s 2).2 = 2))) (congrArg Value.bool (decide_eq_decide.mpr (by omega)))) ?_
 repeat refine n_ ?_
 refine g_cond rfl (fun h9 => ?_) (fun h9 => ?_)
 ·rw [if_pos (of_decide_eq_true h9)]
  repeat refine x_ ?_
  refine m_ ?_
  refine gl_call _ rfl (toldR_ct s 1 (by omega) (by omega)) i_ (fun _ _ _ => trivial) rfl ?_; rintro v A ⟨x, hx, rfl, rfl⟩; refine gl_pull (fun w hw => hw.perm List.perm_append_comm) ?_; simp only [List.cons_append, List.nil_append]
  (refine gl_store_blkW rfl rfl z_5 z_8 z_8 z_2 ?_)
  repeat refine n_ ?_
  refine g_ret ?_
  exact at_endB rfl rfl z_3 rfl _ ⟨x, hx, rfl, rfl⟩ (fun w hw => hw.drop)
 rw [if_neg (of_decide_eq_false h9)]
 repeat refine x_ ?_
 refine m_ ?_
 refine m_ ?_
 refine gl_callp rfl (begins_ct s (numR s 2).2 wExists (by omega) (by omega) (by decide)) (fun _ _ _ => trivial) rfl ?_
 repeat refine n_ ?_
 refine g_cond rfl (fun h10 => ?_) (fun h10 => ?_)
 ·rw [if_pos h10]
  repeat refine x_ ?_
  refine m_ ?_
  refine f_ (s_bld rfl rfl) ?_
  (refine gl_store_blkW rfl rfl z_5 z_8 z_8 z_2 ?_)
  repeat refine n_ ?_
  refine g_ret ?_
  exact at_endB rfl rfl z_3 rfl _ ⟨L0, rfl, rfl, rfl⟩ (fun w hw => ((hw.dropAll.addNil 46 6).addNil 9 1).addNil 22 1)
 rw [if_neg (by rw [h10]; simp)]
 repeat refine x_ ?_
 refine m_ ?_
 refine m_ ?_
 refine gl_callp rfl (begins_ct s (numR s 2).2 wExpunge (by omega) (by omega) (by decide)) (fun _ _ _ => trivial) rfl ?_
 repeat refine n_ ?_
 refine g_cond rfl (fun h11 => ?_) (fun h11 => ?_)
 ·rw [if_pos h11]
  repeat refine x_ ?_
  refine m_ ?_
  refine f_ (s_bld rfl rfl) ?_
  (refine gl_store_blkW rfl rfl z_5 z_8 z_8 z_2 ?_)
  repeat refine n_ ?_
  refine g_ret ?_
  exact at_endB rfl rfl z_3 rfl _ ⟨L0, rfl, rfl, rfl⟩ (fun w hw => ((hw.dropAll.addNil 46 6).addNil 9 1).addNil 22 1)
 rw [if_neg (by rw [h11]; simp)]
 repeat refine x_ ?_
 refine m_ ?_
 refine m_ ?_
 refine m_ ?_
 refine f_ ((s_add_i64 rfl rfl (by omega)).eq (v' := .int .i64 (((numR s 2).2 + 7 : Nat) : Int)) (by congr 1)) ?_
 refine gl_call _ rfl (rowsR_ct s ((numR s 2).2 + 7) true hs (by omega)) i_ (fun _ _ _ => trivial) rfl ?_; rintro v A ⟨a68, c68, vs, hvs, rfl, rfl⟩; refine gl_pull (fun w hw => hw.perm List.perm_append_comm) ?_; simp only [List.cons_append, List.nil_append]
 refine f_ (s_bld rfl rfl) ?_
 (refine gl_store_blkW rfl rfl z_5 z_8 z_8 z_2 ?_)
 repeat refine n_ ?_
 refine g_ret ?_
 exact at_endB rfl rfl z_3 rfl _ ⟨⟨none, 0, none, 0, a68, c68, vs⟩, hvs, rfl, rfl⟩ (fun w hw => (hw.drop.addNil 9 1).addNil 22 1)
end Go.Proofs.YtgllpcggdcknaaaGreatDoor.Rp
namespace Go.Proofs.YtgllpcggdcknaaaGreatDoor.Rp
open Go Go.Sl
theorem sc6 (q1 q2 q3 q4 q5 : Bool) : q1 = false ∨ (q1 = true ∧ q2 = false) ∨ (q1 = true ∧ q2 = true ∧ q3 = false) ∨ (q1 = true ∧ q2 = true ∧ q3 = true ∧ q4 = false) ∨ (q1 = true ∧ q2 = true ∧ q3 = true ∧ q4 = true ∧ q5 = false) ∨ (q1 = true ∧ q2 = true ∧ q3 = true ∧ q4 = true ∧ q5 = true) := by
 cases q1 <;> cases q2 <;> cases q3 <;> cases q4 <;> cases q5 <;> simp
theorem sc9 (q1 q2 q3 q4 q5 q6 q7 q8 : Bool) : q1 = false ∨ (q1 = true ∧ q2 = false) ∨ (q1 = true ∧ q2 = true ∧ q3 = false) ∨ (q1 = true ∧ q2 = true ∧ q3 = true ∧ q4 = false) ∨ (q1 = true ∧ q2 = true ∧ q3 = true ∧ q4 = true ∧ q5 = false) ∨ (q1 = true ∧ q2 = true ∧ q3 = true ∧ q4 = true ∧ q5 = true ∧ q6 = false) ∨ (q1 = true ∧ q2 = true ∧ q3 = true ∧ q4 = true ∧ q5 = true ∧ q6 = true ∧ q7 = false) ∨ (q1 = true ∧ q2 = true ∧ q3 = true ∧ q4 = true ∧ q5 = true ∧ q6 = true ∧ q7 = true ∧ q8 = false) ∨ (q1 = true ∧ q2 = true ∧ q3 = true ∧ q4 = true ∧ q5 = true ∧ q6 = true ∧ q7 = true ∧ q8 = true) := by
 cases q1 <;> cases q2 <;> cases q3 <;> cases q4 <;> cases q5 <;> cases q6 <;> cases q7 <;> cases q8 <;> simp
def bareW (v w : RV) : Bool := decide (v.kind = w.kind) && decide (v.n = w.n) && decide (v.flags.length = w.flags.length) && decide (v.text = w.text) && decide (v.fr = w.fr) && decide (v.part = w.part)
set_option maxRecDepth 8000 in
theorem bareR_ct (x y : VM) : Pu Tryz.prog 86 [vmA x, vmA y] (fun _ => True) (.bool (bareW x.v y.v)) := by
 obtain ⟨q1, hq1⟩ : ∃ q, q = decide (x.v.kind = y.v.kind) := ⟨_, rfl⟩
 obtain ⟨q2, hq2⟩ : ∃ q, q = decide (x.v.n = y.v.n) := ⟨_, rfl⟩
 obtain ⟨q3, hq3⟩ : ∃ q, q = decide (x.v.flags.length = y.v.flags.length) := ⟨_, rfl⟩
 obtain ⟨q4, hq4⟩ : ∃ q, q = decide (x.v.text = y.v.text) := ⟨_, rfl⟩
 obtain ⟨q5, hq5⟩ : ∃ q, q = decide (x.v.fr = y.v.fr) := ⟨_, rfl⟩
 obtain ⟨q6, hq6⟩ : ∃ q, q = decide (x.v.part = y.v.part) := ⟨_, rfl⟩
 have e : bareW x.v y.v = (q1 && q2 && q3 && q4 && q5 && q6) := by rw [hq1, hq2, hq3, hq4, hq5, hq6]; rfl
 rw [e]
 clear e
 refine ct_enter 47 Tryz.func86 rfl rfl rfl ?_
 intro F _
 repeat refine x_ ?_
 refine gl_boxA rfl rfl ?_; intro g2
 refine gl_boxA rfl rfl ?_; intro g3
 refine a_ ?_
 repeat refine n_ ?_
 rcases sc6 q1 q2 q3 q4 q5 with rfl | ⟨rfl, rfl⟩ | ⟨rfl, rfl, rfl⟩ | ⟨rfl, rfl, rfl, rfl⟩ | ⟨rfl, rfl, rfl, rfl, rfl⟩ | ⟨rfl, rfl, rfl, rfl, rfl⟩
 all_goals (
  repeat refine x_ ?_
  refine f_ z_1 ?_
  refine r_ (by exact s_load_blk rfl z_3 a6_0) ?_
  refine f_ z_1 ?_
  refine r_ (by exact s_load_blk rfl z_3 a6_0) ?_
  refine f_ ((s_eql rfl rfl).eb hq1) ?_
  refine m_ ?_
  (first | refine gl_guard_no rfl rfl rfl rfl rfl rfl rfl ?_ | (refine v_ ?_; refine f_ z_1 ?_))
  (first | refine gl_guard_no rfl rfl rfl rfl rfl rfl rfl ?_ | (refine v_ ?_; refine r_ (by exact s_load_blk rfl z_3 a6_1) ?_))
  (first | refine gl_guard_no rfl rfl rfl rfl rfl rfl rfl ?_ | (refine v_ ?_; refine f_ z_1 ?_))
  (first | refine gl_guard_no rfl rfl rfl rfl rfl rfl rfl ?_ | (refine v_ ?_; refine r_ (by exact s_load_blk rfl z_3 a6_1) ?_))
  (first | refine gl_guard_no rfl rfl rfl rfl rfl rfl rfl ?_ | (refine v_ ?_; refine f_ ((s_eql rfl rfl).eq (congrArg Value.bool ((decide_eq_decide.mpr (by omega)).trans hq2.symm))) ?_))
  refine f_ z_4 ?_
  refine m_ ?_
  (first | refine gl_guard_no rfl rfl rfl rfl rfl rfl rfl ?_ | (refine v_ ?_; refine f_ z_1 ?_))
  (first | refine gl_guard_no rfl rfl rfl rfl rfl rfl rfl ?_ | (refine v_ ?_; refine r_ (by exact s_load_blk rfl z_3 a6_2) ?_))
  (first | refine gl_guard_no rfl rfl rfl rfl rfl rfl rfl ?_ | (refine v_ ?_; refine f_ (s_len_sl rfl) ?_))
  (first | refine gl_guard_no rfl rfl rfl rfl rfl rfl rfl ?_ | (refine v_ ?_; refine f_ z_1 ?_))
  (first | refine gl_guard_no rfl rfl rfl rfl rfl rfl rfl ?_ | (refine v_ ?_; refine r_ (by exact s_load_blk rfl z_3 a6_2) ?_))
  (first | refine gl_guard_no rfl rfl rfl rfl rfl rfl rfl ?_ | (refine v_ ?_; refine f_ (s_len_sl rfl) ?_))
  (first | refine gl_guard_no rfl rfl rfl rfl rfl rfl rfl ?_ | (refine v_ ?_; refine f_ ((s_eql rfl rfl).eq (congrArg Value.bool ((decide_eq_decide.mpr (by omega)).trans hq3.symm))) ?_))
  refine f_ z_4 ?_
  refine m_ ?_
  (first | refine gl_guard_no rfl rfl rfl rfl rfl rfl rfl ?_ | (refine v_ ?_; refine f_ z_1 ?_))
  (first | refine gl_guard_no rfl rfl rfl rfl rfl rfl rfl ?_ | (refine v_ ?_; refine r_ (by exact s_load_blk rfl z_3 a6_3) ?_))
  (first | refine gl_guard_no rfl rfl rfl rfl rfl rfl rfl ?_ | (refine v_ ?_; refine f_ z_1 ?_))
  (first | refine gl_guard_no rfl rfl rfl rfl rfl rfl rfl ?_ | (refine v_ ?_; refine r_ (by exact s_load_blk rfl z_3 a6_3) ?_))
  (first | refine gl_guard_no rfl rfl rfl rfl rfl rfl rfl ?_ | (refine v_ ?_; refine f_ ((s_eql_str rfl rfl).eb hq4) ?_))
  refine f_ z_4 ?_
  refine m_ ?_
  (first | refine gl_guard_no rfl rfl rfl rfl rfl rfl rfl ?_ | (refine v_ ?_; refine f_ z_1 ?_))
  (first | refine gl_guard_no rfl rfl rfl rfl rfl rfl rfl ?_ | (refine v_ ?_; refine r_ (by exact s_load_blk rfl z_3 a6_5) ?_))
  (first | refine gl_guard_no rfl rfl rfl rfl rfl rfl rfl ?_ | (refine v_ ?_; refine f_ z_1 ?_))
  (first | refine gl_guard_no rfl rfl rfl rfl rfl rfl rfl ?_ | (refine v_ ?_; refine r_ (by exact s_load_blk rfl z_3 a6_5) ?_))
  (first | refine gl_guard_no rfl rfl rfl rfl rfl rfl rfl ?_ | (refine v_ ?_; refine f_ ((s_eql rfl rfl).eq (congrArg Value.bool ((decide_eq_decide.mpr (by omega)).trans hq5.symm))) ?_))
  refine f_ z_4 ?_
  refine m_ ?_
  (first | refine gl_guard_no rfl rfl rfl rfl rfl rfl rfl ?_ | (refine v_ ?_; refine f_ z_1 ?_))
  (first | refine gl_guard_no rfl rfl rfl rfl rfl rfl rfl ?_ | (refine v_ ?_; refine r_ (by exact s_load_blk rfl z_3 a6_4) ?_))
  (first | refine gl_guard_no rfl rfl rfl rfl rfl rfl rfl ?_ | (refine v_ ?_; refine f_ z_1 ?_))
  (first | refine gl_guard_no rfl rfl rfl rfl rfl rfl rfl ?_ | (refine v_ ?_; refine r_ (by exact s_load_blk rfl z_3 a6_4) ?_))
  (first | refine gl_guard_no rfl rfl rfl rfl rfl rfl rfl ?_ | (refine v_ ?_; refine f_ ((s_eql_bool rfl rfl).eb hq6) ?_))
  refine f_ z_4 ?_
  refine a_ ?_
  refine gl_nil ?_
  repeat refine y_ ?_)
 all_goals (refine g_ret ?_; exact at_end1 rfl rfl [] ⟨rfl, rfl⟩ (fun _ h => h.dropAll))
theorem dnil {α : Type} [DecidableEq α] (l : List α) : decide (l = []) = l.isEmpty := by cases l <;> simp
theorem dlen {α : Type} (l : List α) : decide ((l.length : Int) = 0) = l.isEmpty := by cases l <;> simp <;> omega
set_option maxRecDepth 8000 in
theorem onlyR_ct (r : RR) (x : RL) (hv : r.values = x.vs.map VM.v) (nm : Bs) (hn : nm.length ≤ 1000000000000) : Pu Tryz.prog 40 [rrA r x, B nm] (fun _ => True) (.bool (onlyB r (nm.contains 116) (nm.contains 99) (nm.contains 120) (nm.contains 110) (nm.contains 108) (nm.contains 102) (nm.contains 98) (nm.contains 118) (nm.contains 109))) := by
 obtain ⟨q1, hq1⟩ : ∃ q, q = (decide (r.tag = []) || nm.contains 116) := ⟨_, rfl⟩
 obtain ⟨q2, hq2⟩ : ∃ q, q = (decide (r.code = []) || nm.contains 99) := ⟨_, rfl⟩
 obtain ⟨q3, hq3⟩ : ∃ q, q = (decide (r.text = []) || nm.contains 120) := ⟨_, rfl⟩
 obtain ⟨q4, hq4⟩ : ∃ q, q = (decide ((r.n : Int) = 0) || nm.contains 110) := ⟨_, rfl⟩
 obtain ⟨q5, hq5⟩ : ∃ q, q = (decide ((r.nums.length : Int) = 0) || nm.contains 108) := ⟨_, rfl⟩
 obtain ⟨q6, hq6⟩ : ∃ q, q = (decide ((r.flags.length : Int) = 0) || nm.contains 102) := ⟨_, rfl⟩
 obtain ⟨q7, hq7⟩ : ∃ q, q = (decide (r.box = []) || nm.contains 98) := ⟨_, rfl⟩
 obtain ⟨q8, hq8⟩ : ∃ q, q = (decide ((x.vs.length : Int) = 0) || nm.contains 118) := ⟨_, rfl⟩
 obtain ⟨q9, hq9⟩ : ∃ q, q = (decide ((r.mod : Int) = 0) || nm.contains 109) := ⟨_, rfl⟩
 have e : onlyB r (nm.contains 116) (nm.contains 99) (nm.contains 120) (nm.contains 110) (nm.contains 108) (nm.contains 102) (nm.contains 98) (nm.contains 118) (nm.contains 109) = (q1 && q2 && q3 && q4 && q5 && q6 && q7 && q8 && q9) := by
  have hn0 : decide ((r.n : Int) = 0) = decide (r.n = 0) := decide_eq_decide.mpr (by omega)
  have hm0 : decide ((r.mod : Int) = 0) = decide (r.mod = 0) := decide_eq_decide.mpr (by omega)
  have hv0 : decide ((x.vs.length : Int) = 0) = r.values.isEmpty := by rw [hv, dlen]; cases x.vs <;> rfl
  rw [hq1, hq2, hq3, hq4, hq5, hq6, hq7, hq8, hq9, hn0, hm0, hv0, dlen, dlen, dnil, dnil, dnil, dnil]
  unfold onlyB
  simp only [Bool.or_comm]
 rw [e]
 clear e
 refine ct_enter 69 Tryz.func40 rfl rfl rfl ?_
 intro F _
 repeat refine x_ ?_
 refine gl_boxA rfl rfl ?_; intro g2
 refine a_ ?_
 repeat refine n_ ?_
 rcases sc9 q1 q2 q3 q4 q5 q6 q7 q8 with rfl | ⟨rfl, rfl⟩ | ⟨rfl, rfl, rfl⟩ | ⟨rfl, rfl, rfl, rfl⟩ | ⟨rfl, rfl, rfl, rfl, rfl⟩ | ⟨rfl, rfl, rfl, rfl, rfl, rfl⟩ | ⟨rfl, rfl, rfl, rfl, rfl, rfl, rfl⟩ | ⟨rfl, rfl, rfl, rfl, rfl, rfl, rfl, rfl⟩ | ⟨rfl, rfl, rfl, rfl, rfl, rfl, rfl, rfl⟩
 all_goals (
  repeat refine x_ ?_
  refine m_ ?_
  refine f_ z_1 ?_
  refine r_ (by exact s_load_blk rfl z_3 a10_1) ?_
  refine f_ (s_eql_str rfl rfl) ?_
  refine gl_callp rfl (may_ct nm 116 _ hn) (fun _ _ _ => trivial) rfl ?_; rw [← hq1]
  refine m_ ?_
  (first | refine gl_guard_no rfl rfl rfl rfl rfl rfl rfl ?_ | (refine v_ ?_; refine m_ ?_))
  (first | refine gl_guard_no rfl rfl rfl rfl rfl rfl rfl ?_ | (refine v_ ?_; refine f_ z_1 ?_))
  (first | refine gl_guard_no rfl rfl rfl rfl rfl rfl rfl ?_ | (refine v_ ?_; refine r_ (by exact s_load_blk rfl z_3 a10_2) ?_))
  (first | refine gl_guard_no rfl rfl rfl rfl rfl rfl rfl ?_ | (refine v_ ?_; refine f_ (s_eql_str rfl rfl) ?_))
  (first | refine gl_guard_no rfl rfl rfl rfl rfl rfl rfl ?_ | (refine v_ ?_; refine gl_callp rfl (may_ct nm 99 _ hn) (fun _ _ _ => trivial) rfl ?_; rw [← hq2]))
  refine f_ z_4 ?_
  refine m_ ?_
  (first | refine gl_guard_no rfl rfl rfl rfl rfl rfl rfl ?_ | (refine v_ ?_; refine m_ ?_))
  (first | refine gl_guard_no rfl rfl rfl rfl rfl rfl rfl ?_ | (refine v_ ?_; refine f_ z_1 ?_))
  (first | refine gl_guard_no rfl rfl rfl rfl rfl rfl rfl ?_ | (refine v_ ?_; refine r_ (by exact s_load_blk rfl z_3 a10_3) ?_))
  (first | refine gl_guard_no rfl rfl rfl rfl rfl rfl rfl ?_ | (refine v_ ?_; refine f_ (s_eql_str rfl rfl) ?_))
  (first | refine gl_guard_no rfl rfl rfl rfl rfl rfl rfl ?_ | (refine v_ ?_; refine gl_callp rfl (may_ct nm 120 _ hn) (fun _ _ _ => trivial) rfl ?_; rw [← hq3]))
  refine f_ z_4 ?_
  refine m_ ?_
  (first | refine gl_guard_no rfl rfl rfl rfl rfl rfl rfl ?_ | (refine v_ ?_; refine m_ ?_))
  (first | refine gl_guard_no rfl rfl rfl rfl rfl rfl rfl ?_ | (refine v_ ?_; refine f_ z_1 ?_))
  (first | refine gl_guard_no rfl rfl rfl rfl rfl rfl rfl ?_ | (refine v_ ?_; refine r_ (by exact s_load_blk rfl z_3 a10_4) ?_))
  (first | refine gl_guard_no rfl rfl rfl rfl rfl rfl rfl ?_ | (refine v_ ?_; refine f_ (s_eql rfl rfl) ?_))
  (first | refine gl_guard_no rfl rfl rfl rfl rfl rfl rfl ?_ | (refine v_ ?_; refine gl_callp rfl (may_ct nm 110 _ hn) (fun _ _ _ => trivial) rfl ?_; rw [← hq4]))
  refine f_ z_4 ?_
  refine m_ ?_
  (first | refine gl_guard_no rfl rfl rfl rfl rfl rfl rfl ?_ | (refine v_ ?_; refine m_ ?_))
  (first | refine gl_guard_no rfl rfl rfl rfl rfl rfl rfl ?_ | (refine v_ ?_; refine f_ z_1 ?_))
  (first | refine gl_guard_no rfl rfl rfl rfl rfl rfl rfl ?_ | (refine v_ ?_; refine r_ (by exact s_load_blk rfl z_3 a10_5) ?_))
  (first | refine gl_guard_no rfl rfl rfl rfl rfl rfl rfl ?_ | (refine v_ ?_; refine f_ (s_len_sl rfl) ?_))
  (first | refine gl_guard_no rfl rfl rfl rfl rfl rfl rfl ?_ | (refine v_ ?_; refine f_ (s_eql rfl rfl) ?_))
  (first | refine gl_guard_no rfl rfl rfl rfl rfl rfl rfl ?_ | (refine v_ ?_; refine gl_callp rfl (may_ct nm 108 _ hn) (fun _ _ _ => trivial) rfl ?_; rw [← hq5]))
  refine f_ z_4 ?_
  refine m_ ?_
  (first | refine gl_guard_no rfl rfl rfl rfl rfl rfl rfl ?_ | (refine v_ ?_; refine m_ ?_))
  (first | refine gl_guard_no rfl rfl rfl rfl rfl rfl rfl ?_ | (refine v_ ?_; refine f_ z_1 ?_))
  (first | refine gl_guard_no rfl rfl rfl rfl rfl rfl rfl ?_ | (refine v_ ?_; refine r_ (by exact s_load_blk rfl z_3 a10_7) ?_))
  (first | refine gl_guard_no rfl rfl rfl rfl rfl rfl rfl ?_ | (refine v_ ?_; refine f_ (s_len_sl rfl) ?_))
  (first | refine gl_guard_no rfl rfl rfl rfl rfl rfl rfl ?_ | (refine v_ ?_; refine f_ (s_eql rfl rfl) ?_))
  (first | refine gl_guard_no rfl rfl rfl rfl rfl rfl rfl ?_ | (refine v_ ?_; refine gl_callp rfl (may_ct nm 102 _ hn) (fun _ _ _ => trivial) rfl ?_; rw [← hq6]))
  refine f_ z_4 ?_
  refine m_ ?_
  (first | refine gl_guard_no rfl rfl rfl rfl rfl rfl rfl ?_ | (refine v_ ?_; refine m_ ?_))
  (first | refine gl_guard_no rfl rfl rfl rfl rfl rfl rfl ?_ | (refine v_ ?_; refine f_ z_1 ?_))
  (first | refine gl_guard_no rfl rfl rfl rfl rfl rfl rfl ?_ | (refine v_ ?_; refine r_ (by exact s_load_blk rfl z_3 a10_8) ?_))
  (first | refine gl_guard_no rfl rfl rfl rfl rfl rfl rfl ?_ | (refine v_ ?_; refine f_ (s_eql_str rfl rfl) ?_))
  (first | refine gl_guard_no rfl rfl rfl rfl rfl rfl rfl ?_ | (refine v_ ?_; refine gl_callp rfl (may_ct nm 98 _ hn) (fun _ _ _ => trivial) rfl ?_; rw [← hq7]))
  refine f_ z_4 ?_
  refine m_ ?_
  (first | refine gl_guard_no rfl rfl rfl rfl rfl rfl rfl ?_ | (refine v_ ?_; refine m_ ?_))
  (first | refine gl_guard_no rfl rfl rfl rfl rfl rfl rfl ?_ | (refine v_ ?_; refine f_ z_1 ?_))
  (first | refine gl_guard_no rfl rfl rfl rfl rfl rfl rfl ?_ | (refine v_ ?_; refine r_ (by exact s_load_blk rfl z_3 a10_9) ?_))
  (first | refine gl_guard_no rfl rfl rfl rfl rfl rfl rfl ?_ | (refine v_ ?_; refine f_ (s_len_sl rfl) ?_))
  (first | refine gl_guard_no rfl rfl rfl rfl rfl rfl rfl ?_ | (refine v_ ?_; refine f_ (s_eql rfl rfl) ?_))
  (first | refine gl_guard_no rfl rfl rfl rfl rfl rfl rfl ?_ | (refine v_ ?_; refine gl_callp rfl (may_ct nm 118 _ hn) (fun _ _ _ => trivial) rfl ?_; rw [← hq8]))
  refine f_ z_4 ?_
  refine m_ ?_
  (first | refine gl_guard_no rfl rfl rfl rfl rfl rfl rfl ?_ | (refine v_ ?_; refine m_ ?_))
  (first | refine gl_guard_no rfl rfl rfl rfl rfl rfl rfl ?_ | (refine v_ ?_; refine f_ z_1 ?_))
  (first | refine gl_guard_no rfl rfl rfl rfl rfl rfl rfl ?_ | (refine v_ ?_; refine r_ (by exact s_load_blk rfl z_3 a10_6) ?_))
  (first | refine gl_guard_no rfl rfl rfl rfl rfl rfl rfl ?_ | (refine v_ ?_; refine f_ (s_eql rfl rfl) ?_))
  (first | refine gl_guard_no rfl rfl rfl rfl rfl rfl rfl ?_ | (refine v_ ?_; refine gl_callp rfl (may_ct nm 109 _ hn) (fun _ _ _ => trivial) rfl ?_; rw [← hq9]))
  refine f_ z_4 ?_
  refine a_ ?_
  refine gl_nil ?_
  repeat refine y_ ?_)
 all_goals (refine g_ret ?_; exact at_end1 rfl rfl [] ⟨rfl, rfl⟩ (fun _ h => h.dropAll))
end Go.Proofs.YtgllpcggdcknaaaGreatDoor.Rp
namespace Go.Proofs.YtgllpcggdcknaaaGreatDoor.Rp
open Go Go.Sl
structure SzV (v : RV) : Prop where
 fl : v.flags.length ≤ big
 fb : ∀ f ∈ v.flags, f.length ≤ big
 fj : (joinS [32] v.flags).length ≤ big
 tx : v.text.length ≤ big
 n : v.n ≤ 18446744073709551615
 fr : v.fr ≤ 18446744073709551615
def valueQ (v : RV) : Bs := if v.kind < 6 ∨ 12 < v.kind ∨ great < v.n ∨ great < v.fr then [] else valueP v
theorem okV_no {v : RV} (h : v.kind < 6 ∨ 12 < v.kind ∨ great < v.n ∨ great < v.fr) : okV v = false := by
 unfold okV
 rw [decide_eq_false (by omega), Bool.false_and]
theorem okV_yes {v : RV} (h : ¬(v.kind < 6 ∨ 12 < v.kind ∨ great < v.n ∨ great < v.fr)) : okV v = if v.kind = 6 then rightS v.flags && decide (v.n = 0) && bareP v
 else if v.kind ≤ 9 then v.flags.isEmpty && bareP v
 else decide (v.text.length ≤ 4096 ∧ v.n = 0) && v.flags.isEmpty && (v.part || decide (v.fr = 0)) := by
 unfold okV
 rw [decide_eq_true (by omega), Bool.true_and]
theorem itemA_len : ∀ k, k ≤ 12 → (itemA k).length ≤ 14 := by decide
theorem dz (n : Nat) : decide ((n : Int) = 0) = decide (n = 0) := decide_eq_decide.mpr (by omega)
theorem litS_len (s : Bs) (h : s.length ≤ big) : (literalS s).length ≤ s.length + 30 := by
 have := digS_len64 (n := s.length) (by unfold big at h; omega)
 unfold literalS
 simp
 omega
theorem bareW6 (k : Int) (n : Nat) (fl : List Bs) (text : Bs) (part : Bool) (fr : Nat) : bareW ⟨k, n, fl, text, part, fr⟩ ⟨k, 0, fl, [], false, 0⟩ = (decide (n = 0) && bareP ⟨k, n, fl, text, part, fr⟩) := by
 unfold bareW bareP
 rw [Bool.eq_iff_iff]
 cases part <;> simp [and_assoc]
theorem bareW7 (k : Int) (n : Nat) (fl : List Bs) (text : Bs) (part : Bool) (fr : Nat) : bareW ⟨k, n, fl, text, part, fr⟩ ⟨k, n, [], [], false, 0⟩ = (fl.isEmpty && bareP ⟨k, n, fl, text, part, fr⟩) := by
 unfold bareW bareP
 rw [Bool.eq_iff_iff]
 cases part <;> simp [and_assoc]
set_option maxRecDepth 8000 in
theorem valueR_ct (x : VM) (hz : SzV x.v) : Pu Tryz.prog 84 [vmA x] (fun h => RdS h x.a (fV x.v.flags)) (.tuple #[B (valueQ x.v), .bool (okV x.v)]) := by
 obtain ⟨⟨kind, n, fl, text, part, fr⟩, a, c⟩ := x
 obtain ⟨h1, h2, h3, h4, h5, h6⟩ := hz
 simp only at h1 h2 h3 h4 h5 h6 ⊢
 have h1' := h1
 have h3' := h3
 have h4' := h4
 unfold big at h1 h3 h4
 obtain ⟨q1, hq1⟩ : ∃ q, q = decide (kind < 6) := ⟨_, rfl⟩
 obtain ⟨q2, hq2⟩ : ∃ q, q = decide (kind > 12) := ⟨_, rfl⟩
 obtain ⟨q3, hq3⟩ : ∃ q, q = decide ((n : Int) > 9223372036854775807) := ⟨_, rfl⟩
 obtain ⟨q4, hq4⟩ : ∃ q, q = decide ((fr : Int) > 9223372036854775807) := ⟨_, rfl⟩
 have hqq : (kind < 6 ∨ 12 < kind ∨ great < n ∨ great < fr) ↔ (q1 || (q2 || (q3 || q4))) = true := by
  rw [Bool.or_eq_true, Bool.or_eq_true, Bool.or_eq_true, hq1, hq2, hq3, hq4, decide_eq_true_eq, decide_eq_true_eq, decide_eq_true_eq, decide_eq_true_eq]
  unfold great
  omega
 refine ct_enter 115 Tryz.func84 rfl rfl rfl ?_
 intro F hrd
 repeat refine x_ ?_
 refine gl_boxA rfl rfl ?_; intro g1
 refine a_ ?_
 refine a_ ?_
 repeat refine n_ ?_
 refine g_cutK [(1, Ptr g1), (22, .bool (q1 || (q2 || (q3 || q4))))] [blkV g1 ⟨kind, n, fl, text, part, fr⟩ a c] ?_ ?_
 ·cases q1 <;> cases q2 <;> cases q3
  all_goals (
   repeat refine x_ ?_
   refine f_ z_1 ?_
   refine r_ (by exact s_load_blk rfl z_3 a6_0) ?_
   refine f_ ((s_lss rfl rfl).eb hq1) ?_
   refine m_ ?_
   (first | refine gl_guard_no rfl rfl rfl rfl rfl rfl rfl ?_ | (refine v_ ?_; refine f_ z_1 ?_))
   (first | refine gl_guard_no rfl rfl rfl rfl rfl rfl rfl ?_ | (refine v_ ?_; refine r_ (by exact s_load_blk rfl z_3 a6_0) ?_))
   (first | refine gl_guard_no rfl rfl rfl rfl rfl rfl rfl ?_ | (refine v_ ?_; refine f_ ((s_gtr rfl rfl).eb hq2) ?_))
   refine f_ z_4 ?_
   refine m_ ?_
   (first | refine gl_guard_no rfl rfl rfl rfl rfl rfl rfl ?_ | (refine v_ ?_; refine f_ z_1 ?_))
   (first | refine gl_guard_no rfl rfl rfl rfl rfl rfl rfl ?_ | (refine v_ ?_; refine r_ (by exact s_load_blk rfl z_3 a6_1) ?_))
   (first | refine gl_guard_no rfl rfl rfl rfl rfl rfl rfl ?_ | (refine v_ ?_; refine f_ ((s_gtr rfl rfl).eb hq3) ?_))
   refine f_ z_4 ?_
   refine m_ ?_
   (first | refine gl_guard_no rfl rfl rfl rfl rfl rfl rfl ?_ | (refine v_ ?_; refine f_ z_1 ?_))
   (first | refine gl_guard_no rfl rfl rfl rfl rfl rfl rfl ?_ | (refine v_ ?_; refine r_ (by exact s_load_blk rfl z_3 a6_5) ?_))
   (first | refine gl_guard_no rfl rfl rfl rfl rfl rfl rfl ?_ | (refine v_ ?_; refine f_ ((s_gtr rfl rfl).eb hq4) ?_))
   refine f_ z_4 ?_
   refine gl_nil ?_
   repeat refine y_ ?_)
  all_goals exact at_cut j_ i_
 repeat refine y_ ?_
 refine g_cond rfl (fun h => ?_) (fun h => ?_)
 ·have e1 : valueQ ⟨kind, n, fl, text, part, fr⟩ = [] := by unfold valueQ; rw [if_pos (hqq.2 h)]
  have e2 : okV ⟨kind, n, fl, text, part, fr⟩ = false := okV_no (hqq.2 h)
  rw [e1, e2]
  repeat refine x_ ?_
  refine a_ ?_
  refine a_ ?_
  repeat refine n_ ?_
  refine g_ret ?_
  exact at_end2 rfl rfl rfl [] ⟨rfl, rfl⟩ (fun w hw => hw.dropAll)
 have hno : ¬(kind < 6 ∨ 12 < kind ∨ great < n ∨ great < fr) := fun x => by rw [hqq.1 x] at h; cases h
 have e1 : valueQ ⟨kind, n, fl, text, part, fr⟩ = valueP ⟨kind, n, fl, text, part, fr⟩ := by unfold valueQ; rw [if_neg hno]
 have e2 := okV_yes (v := ⟨kind, n, fl, text, part, fr⟩) hno
 rw [e1, e2]
 simp only
 have e3 : valueP ⟨kind, n, fl, text, part, fr⟩ = if kind = 6 then itemA 6 ++ 32 :: printF fl
   else if kind = 9 then itemA 9 ++ [32, 40] ++ digS n ++ [41]
   else if kind < 10 then itemA kind.toNat ++ 32 :: digS n
   else itemA kind.toNat ++ partP ⟨kind, n, fl, text, part, fr⟩ ++ 32 :: literalS text := by unfold valueP; simp only; rw [if_neg (by omega)]
 rw [e3]
 obtain ⟨k, rfl⟩ : ∃ k : Nat, kind = (k : Int) := ⟨kind.toNat, by omega⟩
 have hk : 6 ≤ k ∧ k ≤ 12 := by omega
 have hil := itemA_len k hk.2
 have hdl := digS_len64 h5
 have hdf := digS_len64 h6
 rw [Int.toNat_natCast]
 repeat refine x_ ?_
 refine f_ z_1 ?_
 refine r_ (by exact s_load_blk rfl z_3 a6_0) ?_
 refine gl_callp rfl (itemR_ct k (by omega)) (fun _ _ _ => trivial) rfl ?_
 refine a_ ?_
 repeat refine x_ ?_
 refine f_ z_1 ?_
 refine r_ (by exact s_load_blk rfl z_3 a6_0) ?_
 repeat refine x_ ?_
 refine f_ ((s_eql rfl rfl).eq (v' := .bool (decide (k = 6))) (congrArg Value.bool (decide_eq_decide.mpr (show ((k : Nat) : Int) = 6 ↔ k = 6 by omega)))) ?_
 refine a_ ?_
 repeat refine n_ ?_
 refine g_cond rfl (fun h => ?_) (fun h => ?_)
 ·have hk6 := of_decide_eq_true h
  subst hk6
  rw [if_pos (show ((6 : Nat) : Int) = 6 from rfl), if_pos (show ((6 : Nat) : Int) = 6 from rfl)]
  obtain ⟨q, hq⟩ : ∃ q, q = rightS fl := ⟨_, rfl⟩
  rw [← hq]
  have hpl : (printF fl).length ≤ (joinS [32] fl).length + 2 := by unfold printF; simp
  cases q
  all_goals (
   repeat refine y_ ?_
   refine g_draw0 ([3, 7, 10, 12], [0, 1, 0, 4, 12, 31, 0, 64, 220, 476, 988, 988, 3036, 7132, 16348, 32732, 32767, 131071], [4, 8]) 18 rfl ?_
   refine w_ 0 rfl (s_move rfl) ?_
   refine w_ 1 rfl (s_add_str rfl rfl (by simp only [List.length_singleton]; omega)) ?_
   refine w_ 2 rfl z_1 ?_
   (refine ga_read 3 rfl z_3 (s_load_blk rfl .del a6_2) rfl rfl rfl z_6 ?_)
   refine w_ 6 rfl z_1 ?_
   (refine ga_read 7 rfl z_3 (s_load_blk rfl .del a6_2) rfl rfl rfl z_6 ?_)
   refine ga_one 4 rfl z_6 ?_
   refine gl_callp rfl (PrintR_ct fl a c h1' h3') (fun h hh hb => hrd.le hh) rfl ?_
   refine gl_nil ?_
   refine at_ga (.inr (by exact keeps_of z_10)) ?_
   refine w_ 5 rfl ((s_add_str rfl rfl (by simp only [List.length_append, List.length_singleton]; omega)).eq (v' := B (itemA 6 ++ 32 :: printF fl)) z_7) ?_
   refine ga_one 8 rfl z_6 ?_
   refine gl_callp rfl (RightR_ct fl a c h1' h2) (fun h hh hb => hrd.le hh) rfl ?_; rw [← hq]
   refine gl_nil ?_
   refine at_ga (.inr (by exact keeps_of z_10)) ?_
   refine w_ 9 rfl (s_move rfl) ?_
   (first | refine s_ 10 ?_ | refine ga_read_g 10 rfl z_3 (s_load_blkW rfl .del z_8) rfl rfl rfl rfl rfl rfl z_6 ?_)
   (first | refine s_ 11 ?_ | refine ga_free_g 11 rfl z_1 rfl rfl rfl rfl rfl rfl z_6 ?_)
   (first | refine s_ 12 ?_ | refine ga_read_g 12 rfl z_3 (s_load_blk rfl .del a6_2) rfl rfl rfl rfl rfl rfl z_6 ?_)
   (first | refine s_ 13 ?_ | refine ga_free_g 13 rfl (s_bld rfl rfl) rfl rfl rfl rfl rfl rfl z_6 ?_)
   refine ga_one 14 rfl z_6 ?_
   (first | refine gl_guard_no rfl rfl rfl rfl rfl rfl rfl ?_ | (refine v_ ?_; refine gl_callp rfl (bareR_ct ⟨⟨6, n, fl, text, part, fr⟩, a, c⟩ ⟨⟨6, 0, fl, [], false, 0⟩, a, c⟩) (fun _ _ _ => trivial) rfl ?_; simp only [bareW6]))
   refine gl_nil ?_
   refine at_ga (.inl z_6) ?_
   refine w_ 15 rfl z_4 ?_
   refine w_ 16 rfl (s_assign rfl) ?_
   refine w_ 17 rfl (s_assign rfl) ?_
   refine ga_done z_6 ?_
   repeat refine y_ ?_)
  ·refine g_ret ?_
   exact at_end2 rfl rfl rfl [] ⟨rfl, rfl⟩ (fun w hw => hw.dropAll)
  ·refine g_ret ?_
   exact at_end2 rfl rfl rfl [] ⟨rfl, rfl⟩ (fun w hw => hw.dropAll)
 have hk6 := of_decide_eq_false h
 have hk6i : ¬((k : Nat) : Int) = 6 := by omega
 rw [if_neg hk6i, if_neg hk6i]
 repeat refine x_ ?_
 refine f_ ((s_eql rfl rfl).eq (v' := .bool (decide (k = 7))) (congrArg Value.bool (decide_eq_decide.mpr (show ((k : Nat) : Int) = 7 ↔ k = 7 by omega)))) ?_
 refine a_ ?_
 repeat refine n_ ?_
 refine g_cutK [(1, Ptr g1), (4, B (itemA k)), (27, .int .i64 (k : Nat)), (46, .bool (decide (k = 7 ∨ k = 8)))] [blkV g1 ⟨k, n, fl, text, part, fr⟩ a c] ?_ ?_
 ·refine g_cond rfl (fun h => ?_) (fun h => ?_)
  ·have := of_decide_eq_true h
   rw [h, decide_eq_true (.inl this)]
   repeat refine y_ ?_
   exact at_cut j_ i_
  ·have := of_decide_eq_false h
   repeat refine x_ ?_
   refine f_ ((s_eql rfl rfl).eq (v' := .bool (decide (k = 7 ∨ k = 8))) (congrArg Value.bool (decide_eq_decide.mpr (show ((k : Nat) : Int) = 8 ↔ (k = 7 ∨ k = 8) by omega)))) ?_
   refine a_ ?_
   repeat refine n_ ?_
   exact at_cut j_ i_
 repeat refine y_ ?_
 refine g_cond rfl (fun h => ?_) (fun h => ?_)
 ·have hk78 := of_decide_eq_true h
  rw [if_neg (show ¬((k : Nat) : Int) = 9 by omega), if_pos (show ((k : Nat) : Int) < 10 by omega), if_pos (show ((k : Nat) : Int) ≤ 9 by omega)]
  repeat refine y_ ?_
  refine g_draw0 ([3, 6, 8, 10], [0, 1, 0, 4, 12, 31, 0, 0, 128, 0, 512, 1920, 4060, 8191, 16383], [4, 12]) 15 rfl ?_
  refine w_ 0 rfl (s_move rfl) ?_
  refine w_ 1 rfl (s_add_str rfl rfl (by simp only [List.length_singleton]; omega)) ?_
  refine w_ 2 rfl z_1 ?_
  (refine ga_read 3 rfl z_3 (s_load_blk rfl .del a6_1) rfl rfl rfl z_6 ?_)
  (refine ga_read 6 rfl z_3 (s_load_blkW rfl .del z_8) rfl rfl rfl z_6 ?_)
  refine w_ 7 rfl z_1 ?_
  (refine ga_read 8 rfl z_3 (s_load_blk rfl .del a6_0) rfl rfl rfl z_6 ?_)
  refine w_ 9 rfl z_1 ?_
  (refine ga_read 10 rfl z_3 (s_load_blk rfl .del a6_1) rfl rfl rfl z_6 ?_)
  refine w_ 11 rfl (s_bld rfl rfl) ?_
  refine ga_one 4 rfl z_6 ?_
  refine gl_callp rfl (digitsR_ct n h5) (fun _ _ _ => trivial) rfl ?_
  refine gl_nil ?_
  refine at_ga (.inr (by exact keeps_of z_10)) ?_
  refine w_ 5 rfl ((s_add_str rfl rfl (by simp only [List.length_append, List.length_singleton]; omega)).eq (v' := B (itemA k ++ 32 :: digS n)) z_7) ?_
  refine ga_one 12 rfl z_6 ?_
  refine gl_callp rfl (bareR_ct ⟨⟨k, n, fl, text, part, fr⟩, a, c⟩ ⟨⟨k, n, [], [], false, 0⟩, none, 0⟩) (fun _ _ _ => trivial) rfl ?_; simp only [bareW7]
  refine gl_nil ?_
  refine at_ga (.inl z_6) ?_
  refine w_ 13 rfl (s_assign rfl) ?_
  refine w_ 14 rfl (s_assign rfl) ?_
  refine ga_done z_6 ?_
  repeat refine y_ ?_
  refine g_ret ?_
  exact at_end2 rfl rfl rfl [] ⟨rfl, rfl⟩ (fun w hw => hw.dropAll)
 have hk78 := of_decide_eq_false h
 repeat refine x_ ?_
 refine f_ ((s_eql rfl rfl).eq (v' := .bool (decide (k = 9))) (congrArg Value.bool (decide_eq_decide.mpr (show ((k : Nat) : Int) = 9 ↔ k = 9 by omega)))) ?_
 refine a_ ?_
 repeat refine n_ ?_
 refine g_cond rfl (fun h => ?_) (fun h => ?_)
 ·have hk9 := of_decide_eq_true h
  subst hk9
  rw [if_pos (show ((9 : Nat) : Int) = 9 from rfl), if_pos (show ((9 : Nat) : Int) ≤ 9 by omega)]
  repeat refine y_ ?_
  refine g_draw0 ([3, 7, 9], [0, 1, 0, 4, 12, 31, 63, 0, 0, 256, 768, 1948, 4095, 8191], [4, 11]) 14 rfl ?_
  refine w_ 0 rfl (s_move rfl) ?_
  refine w_ 1 rfl (s_add_str rfl rfl (by simp only [List.length_cons, List.length_nil]; omega)) ?_
  refine w_ 2 rfl z_1 ?_
  (refine ga_read 3 rfl z_3 (s_load_blk rfl .del a6_1) rfl rfl rfl z_6 ?_)
  (refine ga_read 7 rfl z_3 (s_load_blkW rfl .del z_8) rfl rfl rfl z_6 ?_)
  refine w_ 8 rfl z_1 ?_
  (refine ga_read 9 rfl z_3 (s_load_blk rfl .del a6_1) rfl rfl rfl z_6 ?_)
  refine w_ 10 rfl (s_bld rfl rfl) ?_
  refine ga_one 4 rfl z_6 ?_
  refine gl_callp rfl (digitsR_ct n h5) (fun _ _ _ => trivial) rfl ?_
  refine gl_nil ?_
  refine at_ga (.inr (by exact keeps_of z_10)) ?_
  refine w_ 5 rfl (s_add_str rfl rfl (by simp only [List.length_append, List.length_cons, List.length_nil]; omega)) ?_
  refine w_ 6 rfl ((s_add_str rfl rfl (by simp only [List.length_append, List.length_cons, List.length_nil]; omega)).eq (v' := B (itemA 9 ++ [32, 40] ++ digS n ++ [41])) rfl) ?_
  refine ga_one 11 rfl z_6 ?_
  refine gl_callp rfl (bareR_ct ⟨⟨9, n, fl, text, part, fr⟩, a, c⟩ ⟨⟨9, n, [], [], false, 0⟩, none, 0⟩) (fun _ _ _ => trivial) rfl ?_; simp only [bareW7]
  refine gl_nil ?_
  refine at_ga (.inl z_6) ?_
  refine w_ 12 rfl (s_assign rfl) ?_
  refine w_ 13 rfl (s_assign rfl) ?_
  refine ga_done z_6 ?_
  repeat refine y_ ?_
  refine g_ret ?_
  exact at_end2 rfl rfl rfl [] ⟨rfl, rfl⟩ (fun w hw => hw.dropAll)
 have hk9 := of_decide_eq_false h
 rw [if_neg (show ¬((k : Nat) : Int) = 9 by omega), if_neg (show ¬((k : Nat) : Int) < 10 by omega), if_neg (show ¬((k : Nat) : Int) ≤ 9 by omega)]
 repeat refine x_ ?_
 refine f_ z_1 ?_
 refine r_ (by exact s_load_blk rfl z_3 a6_4) ?_
 repeat refine n_ ?_
 refine g_cutK [(1, Ptr g1), (4, B (itemA k ++ partP ⟨k, n, fl, text, part, fr⟩))] [blkV g1 ⟨k, n, fl, text, part, fr⟩ a c] ?_ ?_
 ·refine g_cond rfl (fun h => ?_) (fun h => ?_)
  ·have e : partP ⟨k, n, fl, text, part, fr⟩ = 60 :: digS fr ++ [62] := by unfold partP; rw [if_pos h]
   rw [e]
   repeat refine x_ ?_
   refine m_ ?_
   refine f_ (s_add_str rfl rfl (by simp only [List.length_cons, List.length_nil]; omega)) ?_
   refine f_ z_1 ?_
   refine r_ (by exact s_load_blk rfl z_3 a6_5) ?_
   refine gl_callp rfl (digitsR_ct fr h6) (fun _ _ _ => trivial) rfl ?_
   refine f_ (s_add_str rfl rfl (by simp only [List.length_append, List.length_cons, List.length_nil]; omega)) ?_
   refine f_ ((s_add_str rfl rfl (by simp only [List.length_append, List.length_cons, List.length_nil]; omega)).eq (v' := B (itemA k ++ (60 :: digS fr ++ [62]))) z_7) ?_
   refine a_ ?_
   repeat refine n_ ?_
   exact at_cut j_ i_
  ·have e : partP ⟨k, n, fl, text, part, fr⟩ = [] := by unfold partP; exact if_neg (fun hc => by have h1 : part = true := hc; have h2 : part = false := h; rw [h1] at h2; cases h2)
   rw [e, List.append_nil]
   repeat refine y_ ?_
   exact at_cut j_ i_
 have hpl : (partP ⟨k, n, fl, text, part, fr⟩).length ≤ 30 := by
  unfold partP
  split <;> simp <;> omega
 have hll := litS_len text h4'
 obtain ⟨pw, hpw⟩ : ∃ b, b = partP ⟨k, n, fl, text, part, fr⟩ := ⟨_, rfl⟩
 rw [← hpw] at hpl ⊢
 obtain ⟨q1, hq1⟩ : ∃ q, q = decide ((text.length : Int) ≤ 4096) := ⟨_, rfl⟩
 obtain ⟨q2, hq2⟩ : ∃ q, q = decide ((n : Int) = 0) := ⟨_, rfl⟩
 obtain ⟨q3, hq3⟩ : ∃ q, q = decide ((fl.length : Int) = 0) := ⟨_, rfl⟩
 obtain ⟨q4, hq4⟩ : ∃ q, q = decide ((fr : Int) = 0) := ⟨_, rfl⟩
 have e : (decide (text.length ≤ 4096 ∧ n = 0) && fl.isEmpty && (part || decide (fr = 0))) = (q1 && q2 && q3 && (part || q4)) := by
  rw [hq1, hq2, hq3, hq4, dlen, dz, dz, Bool.decide_and]
  congr 3
  exact decide_eq_decide.mpr (by omega)
 rw [e]
 clear e
 repeat refine y_ ?_
 rcases sc6 q1 q2 q3 part true with rfl | ⟨rfl, rfl⟩ | ⟨rfl, rfl, rfl⟩ | ⟨rfl, rfl, rfl, rfl⟩ | ⟨_, _, _, _, hx⟩ | ⟨rfl, rfl, rfl, rfl, _⟩
 rotate_left 4
 ·cases hx
 rotate_right 4
 all_goals (
  repeat refine y_ ?_
  refine g_draw0 ([3, 7, 12, 17, 23, 26], [0, 1, 0, 4, 12, 31, 0, 64, 192, 448, 988, 2012, 4060, 8156, 16348, 32732, 65500, 131036, 262108, 524252, 1048540, 2097116, 4194268, 8388572, 16777180, 33554396, 67108828, 134217692, 268435420, 536870876, 33554431, 2147483647], [4]) 32 rfl ?_
  refine w_ 0 rfl (s_move rfl) ?_
  refine w_ 1 rfl (s_add_str rfl rfl (by simp only [List.length_append, List.length_cons, List.length_nil]; omega)) ?_
  refine w_ 2 rfl z_1 ?_
  (refine ga_read 3 rfl z_3 (s_load_blk rfl .del a6_3) rfl rfl rfl z_6 ?_)
  refine w_ 6 rfl z_1 ?_
  (refine ga_read 7 rfl z_3 (s_load_blk rfl .del a6_3) rfl rfl rfl z_6 ?_)
  refine w_ 8 rfl (s_len_str rfl) ?_
  refine w_ 9 rfl ((s_leq rfl rfl).eb hq1) ?_
  refine ga_one 4 rfl z_6 ?_
  refine gl_callp rfl (LiteralR_ct text h4') (fun _ _ _ => trivial) rfl ?_
  refine gl_nil ?_
  refine at_ga (.inr (by exact keeps_of z_10)) ?_
  refine w_ 5 rfl ((s_add_str rfl rfl (by simp only [List.length_append, List.length_cons, List.length_nil]; omega)).eq (v' := B (itemA k ++ pw ++ 32 :: literalS text)) z_7) ?_
  refine w_ 10 rfl (s_move rfl) ?_
  (first | refine s_ 11 ?_ | refine ga_free_g 11 rfl z_1 rfl rfl rfl rfl rfl rfl z_6 ?_)
  (first | refine s_ 12 ?_ | refine ga_read_g 12 rfl z_3 (s_load_blk rfl .del a6_1) rfl rfl rfl rfl rfl rfl z_6 ?_)
  (first | refine s_ 13 ?_ | refine ga_free_g 13 rfl ((s_eql rfl rfl).eb hq2) rfl rfl rfl rfl rfl rfl z_6 ?_)
  refine w_ 14 rfl z_4 ?_
  refine w_ 15 rfl (s_move rfl) ?_
  (first | refine s_ 16 ?_ | refine ga_free_g 16 rfl z_1 rfl rfl rfl rfl rfl rfl z_6 ?_)
  (first | refine s_ 17 ?_ | refine ga_read_g 17 rfl z_3 (s_load_blk rfl .del a6_2) rfl rfl rfl rfl rfl rfl z_6 ?_)
  (first | refine s_ 18 ?_ | refine ga_free_g 18 rfl (s_len_sl rfl) rfl rfl rfl rfl rfl rfl z_6 ?_)
  (first | refine s_ 19 ?_ | refine ga_free_g 19 rfl ((s_eql rfl rfl).eb hq3) rfl rfl rfl rfl rfl rfl z_6 ?_)
  refine w_ 20 rfl z_4 ?_
  refine w_ 21 rfl (s_move rfl) ?_
  (first | refine s_ 22 ?_ | refine ga_free_g 22 rfl z_1 rfl rfl rfl rfl rfl rfl z_6 ?_)
  (first | refine s_ 23 ?_ | refine ga_read_g 23 rfl z_3 (s_load_blk rfl .del a6_4) rfl rfl rfl rfl rfl rfl z_6 ?_)
  (first | refine s_ 24 ?_ | refine ga_free_g 24 rfl (s_move rfl) rfl rfl rfl rfl rfl rfl z_6 ?_)
  (first | refine s_ 25 ?_ | refine t_ 25 ?_ | refine ga_free_g 25 rfl z_1 rfl rfl rfl rfl rfl rfl z_6 ?_)
  (first | refine s_ 26 ?_ | refine t_ 26 ?_ | refine ga_read_g 26 rfl z_3 (s_load_blk rfl .del a6_5) rfl rfl rfl rfl rfl rfl z_6 ?_)
  (first | refine s_ 27 ?_ | refine t_ 27 ?_ | refine ga_free_g 27 rfl ((s_eql rfl rfl).eb hq4) rfl rfl rfl rfl rfl rfl z_6 ?_)
  (first | refine s_ 28 ?_ | refine ga_free_g 28 rfl z_4 rfl rfl rfl rfl rfl rfl z_6 ?_)
  refine w_ 29 rfl z_4 ?_
  refine w_ 30 rfl (s_assign rfl) ?_
  refine w_ 31 rfl (s_assign rfl) ?_
  refine ga_done z_6 ?_
  repeat refine y_ ?_)
 all_goals (refine g_ret ?_; exact at_end2 rfl rfl rfl [] ⟨rfl, rfl⟩ (fun w hw => hw.dropAll))
end Go.Proofs.YtgllpcggdcknaaaGreatDoor.Rp
namespace Go.Proofs.YtgllpcggdcknaaaGreatDoor.Rp
open Go Go.Sl
theorem rdVM {F : Snap} {w : World} {H : List As} {a : Option Addr} {l : List VM} {q i : Nat} (hw : Hp F w H) (r : RdS F.heap a (vmV l)) (h : q = 6 * i) (hi : i < l.length) : PeekC (hp w) (addO a q) (vmC (l.getD i VM0)) := rec_rdN (C := vmC) (r.le hw.keep) vmC_len (by decide) VM0 h hi
theorem rdVM_some {h : Heap} {a : Option Addr} {l : List VM} {i : Nat} (r : RdS h a (vmV l)) (hi : i < l.length) : ∃ ad, a = some ad := rec_some (C := vmC) r vmC_len (by decide) hi
theorem getVM_mem {l : List VM} {k : Nat} (hk : k < l.length) : l.getD k VM0 ∈ l := by
 rw [List.getD_eq_getElem?_getD, List.getElem?_eq_getElem hk]
 exact List.getElem_mem hk
structure SzR (r : RR) : Prop where
 tag : r.tag.length ≤ big
 code : r.code.length ≤ big
 text : r.text.length ≤ big
 n : r.n ≤ 18446744073709551615
 nl : r.nums.length ≤ big
 ns : ∀ n ∈ r.nums, n ≤ 18446744073709551615
 mod : r.mod ≤ 18446744073709551615
 fl : r.flags.length ≤ big
 fb : ∀ f ∈ r.flags, f.length ≤ big
 fj : (joinS [32] r.flags).length ≤ big
 box : r.box.length ≤ big
 vl : r.values.length ≤ big
 vs : ∀ v ∈ r.values, SzV v
def fV14 (k : Int) (v : RV) : Bs := if k = 14 then valueP v else countP v
def gV14 (k : Int) (v : RV) : Bool := if k = 14 then okV v else okC v
def tV14 (k : Int) (v : RV) : Bs := if k = 14 then valueQ v else if 1 ≤ v.kind ∧ v.kind ≤ 5 then countP v else []
def okVals (r : RR) : Bool := decide (1 ≤ r.values.length ∧ r.values.length ≤ 10) && r.values.all (gV14 r.kind)
def valuesQ (r : RR) : Bs := if okVals r = true then 40 :: joinS [32] (r.values.map (fV14 r.kind)) ++ [41] else []
theorem tV_f {k : Int} {v : RV} (h : gV14 k v = true) : tV14 k v = fV14 k v := by
 unfold gV14 at h
 unfold tV14 fV14
 split at h
 ·next hk =>
  rw [if_pos hk, if_pos hk]
  unfold valueQ
  refine if_neg fun hn => ?_
  rw [okV_no hn] at h
  cases h
 ·next hk =>
  rw [if_neg hk, if_neg hk]
  unfold okC at h
  simp only [Bool.and_eq_true, decide_eq_true_eq] at h
  exact if_pos ⟨h.1.1.1, h.1.1.2.1⟩
theorem partP_len (v : RV) (h : v.fr ≤ 18446744073709551615) : (partP v).length ≤ 30 := by
 have := digS_len64 h
 unfold partP
 split <;> simp <;> omega
theorem valueP_len {v : RV} (h : SzV v) : (valueP v).length ≤ 1000000000100 := by
 obtain ⟨h1, h2, h3, h4, h5, h6⟩ := h
 have hl := litS_len v.text h4
 have hp := partP_len v h6
 have hd := digS_len64 h5
 unfold big at h3 h4
 unfold valueP
 split
 ·simp
 ·next hk =>
  have hi := itemA_len v.kind.toNat (by omega)
  split
  ·have : (itemA 6).length = 5 := rfl
   unfold printF
   simp
   omega
  split
  ·have : (itemA 9).length = 6 := rfl
   simp
   omega
  split
  ·simp; omega
  ·simp; omega
theorem countP_len {v : RV} (h : SzV v) (hk : 1 ≤ v.kind ∧ v.kind ≤ 5) : (countP v).length ≤ 100 := by
 have hd := digS_len64 h.n
 have hi := itemA_len v.kind.toNat (by omega)
 unfold countP
 simp
 omega
theorem tV_len {k : Int} {v : RV} (h : SzV v) : (tV14 k v).length ≤ 1000000000100 := by
 unfold tV14
 split
 ·unfold valueQ
  split
  ·simp
  ·exact valueP_len h
 ·split
  ·next hk => have := countP_len h hk; omega
  ·simp
theorem joinS_len {M : Nat} : ∀ {l : List Bs}, (∀ f ∈ l, f.length ≤ M) → (joinS [32] l).length ≤ l.length * (M + 1)
 | [], _ => by simp [joinS]
 | [a], h => by have := h a z_7; simp [joinS]; omega
 | a :: b :: t, h => by
  have h1 := h a z_7
  have h2 := joinS_len (M := M) (l := b :: t) (fun f hf => h f (by simp [hf]))
  rw [join_cons _ _ z_7]
  simp only [List.length_append, List.length_cons, List.length_nil] at h2 ⊢
  rw [Nat.add_mul (t.length + 1) 1]
  omega
set_option maxRecDepth 8000 in
theorem valuesR_ct (r : RR) (x : RL) (hz : SzR r) (hv : r.values = x.vs.map VM.v) : Pu Tryz.prog 48 [rrA r x] (RRd r x) (.tuple #[B (valuesQ r), .bool (okVals r)]) := by
 obtain ⟨L, hL⟩ : ∃ L, L = r.values.map (fV14 r.kind) := ⟨_, rfl⟩
 have hLl : L.length = x.vs.length := by rw [hL, hv]; simp
 have hvl : r.values.length = x.vs.length := by rw [hv]; simp
 have hLg : ∀ j, j < x.vs.length → L.getD j [] = fV14 r.kind (x.vs.getD j VM0).v := fun j hj => by
  rw [hL, hv, List.getD_eq_getElem?_getD, List.getD_eq_getElem?_getD]
  simp [hj]
 have hsv : ∀ j, j < x.vs.length → SzV (x.vs.getD j VM0).v := fun j hj => hz.vs _ (by rw [hv]; exact List.mem_map.mpr ⟨_, getVM_mem hj, rfl⟩)
 obtain ⟨q1, hq1⟩ : ∃ q, q = decide ((x.vs.length : Int) < 1) := ⟨_, rfl⟩
 obtain ⟨q2, hq2⟩ : ∃ q, q = decide ((x.vs.length : Int) > 10) := ⟨_, rfl⟩
 have hqq : ¬(1 ≤ r.values.length ∧ r.values.length ≤ 10) ↔ (q1 || q2) = true := by
  rw [Bool.or_eq_true, hq1, hq2, decide_eq_true_eq, decide_eq_true_eq, hvl]
  omega
 refine ct_enter 79 Tryz.func48 rfl rfl rfl ?_
 intro F hrr
 have hrd := hrr.vs
 repeat refine x_ ?_
 refine gl_boxA rfl rfl ?_; intro g1
 refine a_ ?_
 refine a_ ?_
 repeat refine n_ ?_
 refine g_cutK [(1, Ptr g1), (18, .bool (q1 || q2))] [blkR g1 r x] ?_ ?_
 ·cases q1
  all_goals (
   repeat refine x_ ?_
   refine f_ z_1 ?_
   refine r_ (by exact s_load_blk rfl z_3 a10_9) ?_
   refine f_ (s_len_sl rfl) ?_
   refine f_ ((s_lss rfl rfl).eb hq1) ?_
   refine m_ ?_
   (first | refine gl_guard_no rfl rfl rfl rfl rfl rfl rfl ?_ | (refine v_ ?_; refine f_ z_1 ?_))
   (first | refine gl_guard_no rfl rfl rfl rfl rfl rfl rfl ?_ | (refine v_ ?_; refine r_ (by exact s_load_blk rfl z_3 a10_9) ?_))
   (first | refine gl_guard_no rfl rfl rfl rfl rfl rfl rfl ?_ | (refine v_ ?_; refine f_ (s_len_sl rfl) ?_))
   (first | refine gl_guard_no rfl rfl rfl rfl rfl rfl rfl ?_ | (refine v_ ?_; refine f_ ((s_gtr rfl rfl).eb hq2) ?_))
   refine f_ z_4 ?_
   refine gl_nil ?_
   repeat refine y_ ?_)
  all_goals exact at_cut j_ i_
 repeat refine y_ ?_
 refine g_cond rfl (fun h => ?_) (fun h => ?_)
 ·have e2 : okVals r = false := by unfold okVals; rw [decide_eq_false (hqq.2 h), Bool.false_and]
  have e1 : valuesQ r = [] := by unfold valuesQ; rw [e2]; rfl
  rw [e1, e2]
  repeat refine x_ ?_
  refine a_ ?_
  refine a_ ?_
  repeat refine n_ ?_
  refine g_ret ?_
  exact at_end2 rfl rfl rfl [] ⟨rfl, rfl⟩ (fun w hw => hw.dropAll)
 have hlen : 1 ≤ r.values.length ∧ r.values.length ≤ 10 := by
  by_cases hc : 1 ≤ r.values.length ∧ r.values.length ≤ 10
  ·exact hc
  ·rw [hqq.1 hc] at h; cases h
 repeat refine x_ ?_
 refine a_ ?_
 repeat refine x_ ?_
 refine a_ ?_
 repeat refine n_ ?_
 refine g_loop (ι := Nat) (fun j => j ≤ x.vs.length ∧ ∀ i, i < j → gV14 r.kind (x.vs.getD i VM0).v = true) (fun j => [(1, Ptr g1), (4, B (joinS [32] (L.take j))), (5, .int .i64 (j : Nat))]) (fun _ => [blkR g1 r x]) (fun j => x.vs.length - j) 0 ⟨by omega, fun i h => by omega⟩ ?_ ?_ ?_
 ·(repeat (first | exact Sub.nil _ | refine Sub.cons rfl ?_))
 ·intro w hw; exact hw
 ·rintro j ⟨hj, hok⟩
  repeat refine x_ ?_
  refine m_ ?_
  refine f_ z_1 ?_
  refine r_ (by exact s_load_blk rfl z_3 a10_9) ?_
  refine f_ (s_len_sl rfl) ?_
  refine f_ (s_lss rfl rfl) ?_
  repeat refine n_ ?_
  refine g_cond rfl (fun h => ?_) (fun h => ?_)
  ·have hj' : j < x.vs.length := by simp at h; omega
   have hsome := rdVM_some hrd hj'
   have hsz := hsv j hj'
   have hlg := hLg j hj'
   obtain ⟨q, hqe⟩ : ∃ q, q = x.vs.getD j VM0 := ⟨_, rfl⟩
   rw [← hqe] at hsz hlg
   have hqm : q ∈ x.vs := by rw [hqe]; exact getVM_mem hj'
   have hjt := join_take (l := L) (k := j) (by omega)
   rw [hlg] at hjt
   have hjl : (joinS [32] (L.take j)).length ≤ 20000000000000 := by
    have h1 : ∀ f ∈ L.take j, f.length ≤ 1000000000100 := fun f hf => by
     obtain ⟨i, hi, rfl⟩ := List.getElem_of_mem hf
     rw [List.length_take] at hi
     rw [List.getElem_take]
     have h2 := hLg i (by omega)
     rw [List.getD_eq_getElem?_getD, List.getElem?_eq_getElem (by omega)] at h2
     simp only [Option.getD_some] at h2
     rw [h2, ← tV_f (hok i (by omega))]
     exact tV_len (hsv i (by omega))
    have h2 := joinS_len h1
    rw [List.length_take] at h2
    have h3 : min j L.length ≤ 10 := by omega
    have h4 := Nat.mul_le_mul_right (1000000000100 + 1) h3
    omega
   have htl := tV_len (k := r.kind) hsz
   have hf6 := hrr.fs q hqm
   have hn5 := hsz.n
   repeat refine x_ ?_
   refine f_ z_1 ?_
   refine r_ (by exact s_load_blk rfl z_3 a10_9) ?_
   refine m_ ?_
   refine f_ (s_indexAddr rfl (by assumption) rfl (by omega)) ?_
   refine r_ (s_loadN (cs := vmC q) rfl (fun w hw => by rw [hqe]; exact rdVM hw hrd (i := j) (by omega) hj') rfl) ?_
   refine gl_allocA rfl ?_; intro g6
   (refine gl_store_blkW rfl rfl z_5 z_8 z_8 z_2 ?_)
   repeat refine x_ ?_
   refine a_ ?_
   refine a_ ?_
   repeat refine x_ ?_
   refine f_ z_1 ?_
   refine r_ (by exact s_load_blk rfl z_3 a10_0) ?_
   refine f_ ((s_eql rfl rfl).eq (v' := .bool (decide (r.kind = 14))) rfl) ?_
   repeat refine n_ ?_
   refine g_cutK [(1, Ptr g1), (4, B (joinS [32] (L.take j))), (5, .int .i64 (j : Nat)), (7, B (tV14 r.kind q.v)), (8, .bool (gV14 r.kind q.v))] [blkR g1 r x] ?_ ?_
   ·refine g_cond rfl (fun h => ?_) (fun h => ?_)
    ·have h14 := of_decide_eq_true h
     have e1 : tV14 r.kind q.v = valueQ q.v := by unfold tV14; rw [if_pos h14]
     have e2 : gV14 r.kind q.v = okV q.v := by unfold gV14; rw [if_pos h14]
     rw [e1, e2]
     repeat refine x_ ?_
     refine r_ ((s_load_blkW rfl z_3 z_8).eq (v' := vmA q) rfl) ?_
     refine gl_callp rfl (valueR_ct q hsz) (fun h hh hb => hf6.le hh) rfl ?_
     refine m_ ?_
     refine f_ (s_extract rfl rfl) ?_
     refine f_ (s_extract rfl rfl) ?_
     refine a_ ?_
     refine a_ ?_
     repeat refine n_ ?_
     exact at_cut j_ (fun w hw => hw.drop)
    ·have h14 := of_decide_eq_false h
     have e1 : tV14 r.kind q.v = if 1 ≤ q.v.kind ∧ q.v.kind ≤ 5 then countP q.v else [] := by unfold tV14; rw [if_neg h14]
     have e2 : gV14 r.kind q.v = okC q.v := by unfold gV14; rw [if_neg h14]
     rw [e1, e2]
     obtain ⟨p1, hp1⟩ : ∃ b, b = decide (q.v.kind ≥ 1) := ⟨_, rfl⟩
     obtain ⟨p2, hp2⟩ : ∃ b, b = decide (q.v.kind ≤ 5) := ⟨_, rfl⟩
     have hpp : (1 ≤ q.v.kind ∧ q.v.kind ≤ 5) ↔ (p1 && p2) = true := by
      rw [Bool.and_eq_true, hp1, hp2, decide_eq_true_eq, decide_eq_true_eq]
     repeat refine y_ ?_
     refine g_cutK [(1, Ptr g1), (4, B (joinS [32] (L.take j))), (5, .int .i64 (j : Nat)), (6, Ptr g6), (7, B []), (8, .bool false), (46, .bool (p1 && p2))] [blkV g6 q.v q.a q.c, blkR g1 r x] ?_ ?_
     ·cases p1
      all_goals (
       repeat refine x_ ?_
       refine f_ z_1 ?_
       refine r_ (by exact s_load_blk rfl z_3 a6_0) ?_
       refine f_ ((s_geq rfl rfl).eb hp1) ?_
       refine m_ ?_
       (first | refine gl_guard_no rfl rfl rfl rfl rfl rfl rfl ?_ | (refine v_ ?_; refine f_ z_1 ?_))
       (first | refine gl_guard_no rfl rfl rfl rfl rfl rfl rfl ?_ | (refine v_ ?_; refine r_ (by exact s_load_blk rfl z_3 a6_0) ?_))
       (first | refine gl_guard_no rfl rfl rfl rfl rfl rfl rfl ?_ | (refine v_ ?_; refine f_ ((s_leq rfl rfl).eb hp2) ?_))
       refine f_ z_4 ?_
       refine gl_nil ?_
       repeat refine y_ ?_)
      all_goals exact at_cut j_ i_
     repeat refine y_ ?_
     refine g_cond rfl (fun h => ?_) (fun h => ?_)
     ·have hr5 := hpp.2 h
      have hkk : 1 ≤ q.v.kind.toNat ∧ q.v.kind.toNat ≤ 12 := by omega
      have hil := itemA_len q.v.kind.toNat (by omega)
      have hdl := digS_len64 hn5
      have hkc : (q.v.kind.toNat : Int) = q.v.kind := by omega
      have hct := itemR_ct q.v.kind.toNat hkk
      rw [hkc] at hct
      rw [if_pos hr5]
      obtain ⟨p3, hp3⟩ : ∃ b, b = decide ((q.v.n : Int) ≤ 9223372036854775807) := ⟨_, rfl⟩
      have e3 : okC q.v = (p3 && (q.v.flags.isEmpty && bareP q.v)) := by
       unfold okC
       rw [hp3, ← Bool.and_assoc]
       congr 2
       refine decide_eq_decide.mpr ?_
       unfold great
       omega
      rw [e3]
      cases p3
      all_goals (
       repeat refine y_ ?_
       refine g_draw0 ([1, 5, 9, 12, 14, 16], [0, 1, 3, 7, 0, 16, 55, 127, 0, 256, 768, 1911, 3959, 3959, 12151, 3959, 36727, 126839, 262007, 524151, 524287, 2097151], [2, 6]) 22 rfl ?_
       refine w_ 0 rfl z_1 ?_
       (refine ga_read 1 rfl z_3 (s_load_blk rfl .del a6_0) rfl rfl rfl z_6 ?_)
       refine w_ 4 rfl z_1 ?_
       (refine ga_read 5 rfl z_3 (s_load_blk rfl .del a6_1) rfl rfl rfl z_6 ?_)
       refine w_ 8 rfl z_1 ?_
       (refine ga_read 9 rfl z_3 (s_load_blk rfl .del a6_1) rfl rfl rfl z_6 ?_)
       refine w_ 10 rfl ((s_leq rfl rfl).eb hp3) ?_
       refine ga_one 2 rfl z_6 ?_
       refine gl_callp rfl hct (fun _ _ _ => trivial) rfl ?_
       refine gl_nil ?_
       refine at_ga (.inr (by exact keeps_of z_10)) ?_
       refine w_ 3 rfl (s_add_str rfl rfl (by simp only [List.length_cons, List.length_nil]; omega)) ?_
       refine ga_one 6 rfl z_6 ?_
       refine gl_callp rfl (digitsR_ct q.v.n hn5) (fun _ _ _ => trivial) rfl ?_
       refine gl_nil ?_
       refine at_ga (.inr (by exact keeps_of z_10)) ?_
       refine w_ 7 rfl ((s_add_str rfl rfl (by simp only [List.length_append, List.length_cons, List.length_nil]; omega)).eq (v' := B (countP q.v)) (by simp [countP])) ?_
       refine w_ 11 rfl (s_move rfl) ?_
       (first | refine s_ 12 ?_ | refine ga_read_g 12 rfl z_3 (s_load_blkW rfl .del z_8) rfl rfl rfl rfl rfl rfl z_6 ?_)
       (first | refine s_ 13 ?_ | refine ga_free_g 13 rfl z_1 rfl rfl rfl rfl rfl rfl z_6 ?_)
       (first | refine s_ 14 ?_ | refine ga_read_g 14 rfl z_3 (s_load_blk rfl .del a6_0) rfl rfl rfl rfl rfl rfl z_6 ?_)
       (first | refine s_ 15 ?_ | refine ga_free_g 15 rfl z_1 rfl rfl rfl rfl rfl rfl z_6 ?_)
       (first | refine s_ 16 ?_ | refine ga_read_g 16 rfl z_3 (s_load_blk rfl .del a6_1) rfl rfl rfl rfl rfl rfl z_6 ?_)
       (first | refine s_ 17 ?_ | refine ga_free_g 17 rfl (s_bld rfl rfl) rfl rfl rfl rfl rfl rfl z_6 ?_)
       refine ga_one 18 rfl z_6 ?_
       (first | refine gl_guard_no rfl rfl rfl rfl rfl rfl rfl ?_ | (refine v_ ?_; refine gl_callp rfl (bareR_ct q ⟨⟨q.v.kind, q.v.n, [], [], false, 0⟩, none, 0⟩) (fun _ _ _ => trivial) rfl ?_; simp only [bareW7 q.v.kind q.v.n q.v.flags q.v.text q.v.part q.v.fr]))
       refine gl_nil ?_
       refine at_ga (.inl z_6) ?_
       refine w_ 19 rfl z_4 ?_
       refine w_ 20 rfl (s_assign rfl) ?_
       refine w_ 21 rfl (s_assign rfl) ?_
       refine ga_done z_6 ?_
       repeat refine y_ ?_)
      ·exact at_cut j_ (fun w hw => hw.drop)
      ·exact at_cut j_ (fun w hw => hw.drop)
     ·have hr5 : ¬(1 ≤ q.v.kind ∧ q.v.kind ≤ 5) := fun z => by rw [hpp.1 z] at h; cases h
      have e3 : okC q.v = false := by
       unfold okC
       rw [decide_eq_false (fun z => hr5 ⟨z.1, z.2.1⟩)]
       rfl
      rw [if_neg hr5, e3]
      repeat refine y_ ?_
      exact at_cut j_ (fun w hw => hw.drop)
   obtain ⟨g, hg⟩ : ∃ b, b = gV14 r.kind q.v := ⟨_, rfl⟩
   rw [← hg]
   repeat refine x_ ?_
   refine m_ ?_
   refine f_ (s_not rfl) ?_
   repeat refine n_ ?_
   refine g_cond rfl (fun h => ?_) (fun h => ?_)
   ·have hgf : g = false := by simpa using h
    have e2 : okVals r = false := by
     unfold okVals
     rw [Bool.and_eq_false_iff]
     refine .inr ?_
     rw [List.all_eq_false]
     refine ⟨q.v, by rw [hv]; exact List.mem_map.mpr ⟨q, hqm, rfl⟩, ?_⟩
     rw [← hg, hgf]
     simp
    have e1 : valuesQ r = [] := by unfold valuesQ; rw [e2]; rfl
    rw [e1, e2]
    repeat refine x_ ?_
    refine a_ ?_
    refine a_ ?_
    repeat refine n_ ?_
    refine g_ret ?_
    exact at_end2 rfl rfl rfl [] ⟨rfl, rfl⟩ (fun w hw => hw.dropAll)
   ·have hgt : g = true := by simpa using h
    have hgt' : gV14 r.kind q.v = true := hg.symm.trans hgt
    rw [← tV_f hgt'] at hjt
    have hok' : ∀ i, i < j + 1 → gV14 r.kind (x.vs.getD i VM0).v = true := fun i hi => by
     rcases Nat.lt_succ_iff_lt_or_eq.1 hi with h4 | rfl
     ·exact hok i h4
     ·rw [← hqe]; exact hgt'
    repeat refine x_ ?_
    refine m_ ?_
    refine f_ (s_gtr rfl rfl) ?_
    repeat refine n_ ?_
    refine g_cond rfl (fun h => ?_) (fun h => ?_)
    ·have h0 : 0 < j := by simp at h; omega
     rw [if_pos h0] at hjt
     repeat refine x_ ?_
     refine m_ ?_
     refine f_ (s_add_str rfl rfl (by simp only [List.length_cons, List.length_nil]; omega)) ?_
     refine a_ ?_
     repeat refine x_ ?_
     refine m_ ?_
     refine m_ ?_
     refine f_ ((s_add_str rfl rfl (by simp only [List.length_append, List.length_cons, List.length_nil]; omega)).eq (v' := B (joinS [32] (L.take (j + 1)))) (by rw [hjt])) ?_
     refine a_ ?_
     repeat refine x_ ?_
     refine m_ ?_
     refine f_ (s_add_i64 rfl rfl (by omega)) ?_
     refine a_ ?_
     repeat refine n_ ?_
     refine at_next (j + 1) ⟨by omega, hok'⟩ (by omega) ?_ ?_
     ·(repeat (first | exact Sub.nil _ | refine Sub.cons rfl ?_))
     ·intro w hw; exact hw
    ·have h0 : ¬0 < j := by simp at h; omega
     rw [if_neg h0] at hjt
     repeat refine x_ ?_
     refine m_ ?_
     refine m_ ?_
     refine f_ ((s_add_str rfl rfl (by omega)).eq (v' := B (joinS [32] (L.take (j + 1)))) (by rw [hjt])) ?_
     refine a_ ?_
     repeat refine x_ ?_
     refine m_ ?_
     refine f_ (s_add_i64 rfl rfl (by omega)) ?_
     refine a_ ?_
     repeat refine n_ ?_
     refine at_next (j + 1) ⟨by omega, hok'⟩ (by omega) ?_ ?_
     ·(repeat (first | exact Sub.nil _ | refine Sub.cons rfl ?_))
     ·intro w hw; exact hw
  ·have hjl : j = x.vs.length := by simp at h; omega
   have e2 : okVals r = true := by
    unfold okVals
    rw [Bool.and_eq_true, decide_eq_true_eq, List.all_eq_true]
    refine ⟨hlen, fun v hm => ?_⟩
    rw [hv] at hm
    obtain ⟨m, hm2, rfl⟩ := List.mem_map.mp hm
    obtain ⟨i, hi, rfl⟩ := List.getElem_of_mem hm2
    have := hok i (by omega)
    rw [List.getD_eq_getElem?_getD, List.getElem?_eq_getElem hi] at this
    exact this
   have e1 : valuesQ r = 40 :: joinS [32] L ++ [41] := by unfold valuesQ; rw [if_pos e2, hL]
   have hjl2 : (joinS [32] L).length ≤ 20000000000000 := by
    have h1 : ∀ f ∈ L, f.length ≤ 1000000000100 := fun f hf => by
     obtain ⟨i, hi, rfl⟩ := List.getElem_of_mem hf
     have h2 := hLg i (by omega)
     rw [List.getD_eq_getElem?_getD, List.getElem?_eq_getElem (by omega)] at h2
     simp only [Option.getD_some] at h2
     rw [h2, ← tV_f (hok i (by omega))]
     exact tV_len (hsv i (by omega))
    have h2 := joinS_len h1
    have h3 : L.length ≤ 10 := by omega
    have h4 := Nat.mul_le_mul_right (1000000000100 + 1) h3
    omega
   rw [e1, e2, hjl, ← hLl, List.take_length]
   repeat refine x_ ?_
   refine m_ ?_
   refine f_ (s_add_str rfl rfl (by simp only [List.length_cons, List.length_nil]; omega)) ?_
   refine f_ ((s_add_str rfl rfl (by simp only [List.length_append, List.length_cons, List.length_nil]; omega)).eq (v' := B (40 :: joinS [32] L ++ [41])) rfl) ?_
   refine a_ ?_
   refine a_ ?_
   repeat refine n_ ?_
   refine g_ret ?_
   exact at_end2 rfl rfl rfl [] ⟨rfl, rfl⟩ (fun w hw => hw.dropAll)
end Go.Proofs.YtgllpcggdcknaaaGreatDoor.Rp
