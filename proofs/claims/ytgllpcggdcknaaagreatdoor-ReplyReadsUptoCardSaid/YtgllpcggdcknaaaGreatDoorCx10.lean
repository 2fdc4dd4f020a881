import Derived.Test.YtgllpcggdcknaaaGreatDoorCx8
import Derived.Test.YtgllpcggdcknaaaGreatDoorCx9
set_option linter.unusedVariables false
set_option linter.unusedSimpArgs false
namespace Go.Proofs.YtgllpcggdcknaaaGreatDoor.Rp
open Go Go.Sl
abbrev Ptr (b : Nat) : Value := .pointer (some ⟨b, 0, none⟩)
def RpP (r : RR) (v : Value) (A : List As) : Prop := ∃ x : RL, r.values = x.vs.map VM.v ∧ v = rrA r x ∧ A = rrH r x
abbrev blkR (b : Nat) (r : RR) (x : RL) : As := .blk b (.cells #[.int .i64 r.kind, B r.tag, B r.code, B r.text, .int .u64 (r.n : Nat), .slice x.na r.nums.length x.nc, .int .u64 (r.mod : Nat), .slice x.fa r.flags.length x.fc, B r.box, .slice x.va x.vs.length x.vc] 27)
theorem numR_le {s : Bs} {p : Nat} (h : p ≤ s.length) : p ≤ (numR s p).2 ∧ (numR s p).2 ≤ s.length := by
 unfold numR
 have h1 := congrArg List.length (takeWhile_split isDig (s.drop p))
 rw [List.length_append, List.length_drop] at h1
 simp only [dgs]
 omega
theorem beg_le {s w : Bs} {p : Nat} (h : beginsS s p w = true) : p + w.length ≤ s.length := by
 unfold beginsS at h
 rw [pre_take, List.length_drop] at h
 simp only [Bool.and_eq_true, decide_eq_true_eq] at h
 omega
theorem numR_great (s : Bs) (p : Nat) : (numR s p).1 ≤ great := by
 unfold numR
 cases e : numS (dgs (s.drop p)) with
 | none => simp
 | some n => exact (numS_some e).2
set_option maxRecDepth 8000 in
theorem searchR_ct (s : Bs) (hs : s.length ≤ 1000000000000) (h8 : 8 ≤ s.length) : Ct Tryz.prog 65 [B s] (fun _ => True) [] (RpP (searchR s)) := by
 refine ct_enter 44 Tryz.func65 rfl rfl rfl ?_
 intro F _
 repeat refine x_ ?_
 refine gl_allocA rfl ?_; intro g2
 repeat refine x_ ?_
 refine f_ (s_bld rfl rfl) ?_
 refine gl_allocA rfl ?_; intro g3
 (refine gl_store_blkW rfl rfl z_5 z_8 z_8 z_2 ?_)
 repeat refine x_ ?_
 refine a_ ?_
 repeat refine n_ ?_
 refine g_own_nil 22 1 ?_
 refine g_loop (ι := Nat × List Nat × Option Addr × Nat) (fun i => i.1 ≤ s.length ∧ i.2.1.length ≤ 66 ∧ searchRL s 66 [] 8 = searchRL s (66 - i.2.1.length) i.2.1 i.1) (fun i => [(0, B s), (2, Ptr g2), (3, Ptr g3), (4, .int .i64 (i.1 : Nat))]) (fun i => [.own (.slice i.2.2.1 i.2.1.length i.2.2.2) 22 1 (nV i.2.1), blkR g3 ⟨13, [], [], [], 0, i.2.1, 0, [], [], []⟩ ⟨i.2.2.1, i.2.2.2, none, 0, none, 0, []⟩, blkR g2 R0 L0]) (fun i => 66 - i.2.1.length) (8, [], none, 0) ⟨h8, by simp, rfl⟩ ?_ ?_ ?_
 ·(repeat (first | exact Sub.nil _ | refine Sub.cons rfl ?_))
 ·intro w hw; exact hw
 ·rintro ⟨p, l, b, d⟩ ⟨hp, hl, he⟩
  simp only at hp hl he
  obtain ⟨q1, hq1⟩ : ∃ q, q = beginsS s p [32] := ⟨_, rfl⟩
  obtain ⟨q2, hq2⟩ : ∃ q, q = decide ((l.length : Int) < 66) := ⟨_, rfl⟩
  repeat refine y_ ?_
  refine g_cutK [(0, B s), (2, Ptr g2), (3, Ptr g3), (4, .int .i64 (p : Nat)), (16, .bool (q1 && q2))] [.own (.slice b l.length d) 22 1 (nV l), blkR g3 ⟨13, [], [], [], 0, l, 0, [], [], []⟩ ⟨b, d, none, 0, none, 0, []⟩, blkR g2 R0 L0] ?_ ?_
  ·cases q1
   all_goals (
    repeat refine x_ ?_
    refine m_ ?_
    refine m_ ?_
    refine gl_callp rfl (begins_ct s p [32] (by omega) (by omega) (by decide)) (fun _ _ _ => trivial) rfl ?_; rw [← hq1]
    refine m_ ?_
    (first | refine gl_guard_no rfl rfl rfl rfl rfl rfl rfl ?_ | (refine v_ ?_; refine f_ z_1 ?_))
    (first | refine gl_guard_no rfl rfl rfl rfl rfl rfl rfl ?_ | (refine v_ ?_; refine r_ (by exact s_load_blk rfl z_3 a10_5) ?_))
    (first | refine gl_guard_no rfl rfl rfl rfl rfl rfl rfl ?_ | (refine v_ ?_; refine f_ (s_len_sl rfl) ?_))
    (first | refine gl_guard_no rfl rfl rfl rfl rfl rfl rfl ?_ | (refine v_ ?_; refine f_ ((s_lss rfl rfl).eb hq2) ?_))
    refine f_ z_4 ?_
    refine gl_nil ?_
    repeat refine y_ ?_)
   all_goals exact at_cut j_ i_
  ·repeat refine y_ ?_
   refine g_cond rfl (fun h => ?_) (fun h => ?_)
   ·simp only [Bool.and_eq_true] at h
    have hb : beginsS s p [32] = true := hq1.symm.trans h.1
    have hl2 : l.length < 66 := by have := of_decide_eq_true (hq2.symm.trans h.2); omega
    have hp1 := beg_le hb
    simp only [List.length_singleton] at hp1
    obtain ⟨k, hk⟩ : ∃ k, 66 - l.length = k + 1 := ⟨65 - l.length, by omega⟩
    have hst : searchRL s (k + 1) l p = if beginsS s p [32] = true then (if beginsS s p (32 :: wModseq) = true then (l, (numR s (p + 9)).1) else searchRL s k (l ++ [(numR s (p + 1)).1]) (numR s (p + 1)).2) else (l, 0) := by rw [searchRL]
    rw [hk, hst, if_pos hb] at he
    repeat refine x_ ?_
    refine m_ ?_
    refine m_ ?_
    refine gl_callp rfl (begins_ct s p (32 :: wModseq) (by omega) (by omega) (by decide)) (fun _ _ _ => trivial) rfl ?_
    repeat refine n_ ?_
    refine g_cond rfl (fun h2 => ?_) (fun h2 => ?_)
    ·rw [if_pos h2] at he
     have hp9 := beg_le h2
     simp at hp9
     have e : searchR s = ⟨13, [], [], [], 0, l, (numR s (p + 9)).1, [], [], []⟩ := by unfold searchR; rw [he]
     rw [e]
     repeat refine x_ ?_
     refine m_ ?_
     refine m_ ?_
     refine f_ (s_add_i64 rfl rfl (by omega)) ?_
     refine gl_callp rfl (numberR_ct s (p + 9) (by omega) (by omega)) (fun _ _ _ => trivial) rfl ?_
     refine m_ ?_
     refine f_ (s_extract rfl rfl) ?_
     refine f_ (s_extract rfl rfl) ?_
     refine f_ z_1 ?_
     (refine gl_store_blkC (pre := [_, _, _, _, _, _]) (post := [_, _, _]) rfl rfl z_5 z_8 z_8 z_8 ?_)
     repeat refine x_ ?_
     refine r_ ((s_load_blkW rfl z_3 z_8).eq (v' := rrA ⟨13, [], [], [], 0, l, (numR s (p + 9)).1, [], [], []⟩ ⟨b, d, none, 0, none, 0, []⟩) rfl) ?_
     (refine gl_store_blkW rfl rfl z_5 z_8 z_8 z_2 ?_)
     repeat refine n_ ?_
     refine g_ret ?_
     exact at_endB rfl rfl z_3 rfl _ ⟨⟨b, d, none, 0, none, 0, []⟩, rfl, rfl, rfl⟩ (fun w hw => by
      have h1 : Hp F w [.own (.slice b l.length d) 22 1 (nV l)] := hw.left (A := [_])
      exact ((h1.addNil 46 6).addNil 9 1).perm (List.perm_append_comm (l₁ := [_, _]) (l₂ := [_])))
    ·rw [if_neg (by rw [h2]; simp)] at he
     have hn := numR_le (s := s) (p := p + 1) hp1
     have hg := numR_great s (p + 1)
     have hnv : nV (l ++ [(numR s (p + 1)).1]) = nV l ++ nV [(numR s (p + 1)).1] := nV_append _ _
     repeat refine x_ ?_
     refine m_ ?_
     refine m_ ?_
     refine f_ (s_add_i64 rfl rfl (by omega)) ?_
     refine gl_callp rfl (numberR_ct s (p + 1) (by omega) (by omega)) (fun _ _ _ => trivial) rfl ?_
     refine m_ ?_
     refine f_ (s_extract rfl rfl) ?_
     refine f_ (s_extract rfl rfl) ?_
     refine a_ ?_
     refine a_ ?_
     repeat refine x_ ?_
     refine f_ z_1 ?_
     refine r_ (by exact s_load_blk rfl z_3 a10_5) ?_
     refine m_ ?_
     refine gl_buildSliceU rfl rfl rfl rfl rfl rfl (xs := nV [(numR s (p + 1)).1]) rfl rfl ?_; intro a39 ha39
     refine gl_append rfl rfl (fun a' c' => .there .here) (fun w hw => (hw.ownN z_3).2.2.1) rfl rfl rfl (nV_one _) (by show (l.length + 1) * 8 ≤ _; omega) (by simp only; omega) rfl ?_; intro a5 c5 hc5
     refine f_ z_1 ?_
     (refine gl_store_blkC (pre := [_, _, _, _, _]) (post := [_, _, _, _]) rfl rfl z_5 z_8 z_8 z_8 ?_)
     repeat refine x_ ?_
     refine m_ ?_
     refine a_ ?_
     repeat refine n_ ?_
     refine at_next ((numR s (p + 1)).2, l ++ [(numR s (p + 1)).1], a5, c5) ⟨hn.2, by simp; omega, by simp only; rw [he, List.length_append, List.length_singleton, show 66 - (l.length + 1) = k by omega]⟩ (by simp; omega) ?_ ?_
     ·(repeat (first | exact Sub.nil _ | refine Sub.cons rfl ?_))
     ·intro w hw
      simp only [blkR, List.length_append, List.length_singleton]
      rw [hnv]
      exact hw.drop
   ·have e : searchR s = ⟨13, [], [], [], 0, l, 0, [], [], []⟩ := by
     have hz : searchRL s 66 [] 8 = (l, 0) := by
      rw [he]
      rcases Nat.eq_zero_or_pos (66 - l.length) with hk | hk
      ·rw [hk]; rfl
      ·obtain ⟨k, hk⟩ : ∃ k, 66 - l.length = k + 1 := ⟨65 - l.length, by omega⟩
       have hst : searchRL s (k + 1) l p = if beginsS s p [32] = true then (if beginsS s p (32 :: wModseq) = true then (l, (numR s (p + 9)).1) else searchRL s k (l ++ [(numR s (p + 1)).1]) (numR s (p + 1)).2) else (l, 0) := by rw [searchRL]
       have h2 : q2 = true := hq2.trans (decide_eq_true (by omega))
       rw [h2, Bool.and_true] at h
       rw [hk, hst, if_neg (by rw [← hq1, h]; simp)]
     unfold searchR
     rw [hz]
    rw [e]
    repeat refine x_ ?_
    refine r_ ((s_load_blkW rfl z_3 z_8).eq (v' := rrA ⟨13, [], [], [], 0, l, 0, [], [], []⟩ ⟨b, d, none, 0, none, 0, []⟩) rfl) ?_
    (refine gl_store_blkW rfl rfl z_5 z_8 z_8 z_2 ?_)
    repeat refine n_ ?_
    refine g_ret ?_
    exact at_endB rfl rfl z_3 rfl _ ⟨⟨b, d, none, 0, none, 0, []⟩, rfl, rfl, rfl⟩ (fun w hw => by
     have h1 : Hp F w [.own (.slice b l.length d) 22 1 (nV l)] := hw.left (A := [_])
     exact ((h1.addNil 46 6).addNil 9 1).perm (List.perm_append_comm (l₁ := [_, _]) (l₂ := [_])))
end Go.Proofs.YtgllpcggdcknaaaGreatDoor.Rp
namespace Go.Proofs.YtgllpcggdcknaaaGreatDoor.Rp
open Go Go.Sl Go.RowKit
abbrev rdp (b : Nat) (s : Bs) (p : Nat) (ok : Bool) : As := .blk b (.cells #[B s, .int .i64 (p : Nat), .bool ok] 51)
abbrev rdr (b : Nat) (s : Bs) (st : RS) : As := rdp b s st.p st.ok
theorem eatS_le {s w : Bs} {p : Nat} {ok : Bool} (h : p ≤ s.length) : (eatS s w ⟨p, ok⟩).2.p ≤ s.length ∧ p ≤ (eatS s w ⟨p, ok⟩).2.p := by
 unfold eatS
 split
 ·next hh =>
  have := hh.2
  rw [pre_take, List.length_drop] at this
  simp only [Bool.and_eq_true, decide_eq_true_eq] at this
  simp only
  omega
 ·simp only; omega
set_option maxRecDepth 8000 in
theorem eat_ct (b : Nat) (s w : Bs) (p : Nat) (ok : Bool) (hs : s.length ≤ 1000000000000) (hp : p ≤ s.length) (hw : w.length ≤ 1000000000000) : Ct Tryz.prog 19 [Ptr b, B w] (fun _ => True) [rdp b s p ok] (fun v A => v = .bool (eatS s w ⟨p, ok⟩).1 ∧ A = [rdr b s (eatS s w ⟨p, ok⟩).2]) := by
 obtain ⟨q, hq⟩ : ∃ q, q = w.isPrefixOf (s.drop p) := ⟨_, rfl⟩
 refine ct_enter 33 Tryz.func19 rfl rfl rfl ?_
 intro F _
 repeat refine x_ ?_
 refine a_ ?_
 repeat refine n_ ?_
 refine g_cutK [(0, Ptr b), (1, B w), (23, .bool (!ok || !q))] [rdp b s p ok] ?_ ?_
 ·cases ok
  all_goals (
   repeat refine y_ ?_
   refine g_draw0 ([3, 9, 13], [0, 1, 3, 7, 15, 31, 63, 127, 255, 511, 63, 1087, 3135, 7231, 16383, 63, 65535, 131071, 262143], []) 19 rfl ?_
   refine w_ 0 rfl (s_move rfl) ?_
   refine w_ 1 rfl (s_nilCheck rfl) ?_
   refine w_ 2 rfl z_1 ?_
   (refine ga_read 3 rfl z_3 (s_load_blk rfl .del a3_2) rfl rfl rfl z_6 ?_)
   refine w_ 4 rfl (s_not rfl) ?_
   refine w_ 5 rfl (s_move rfl) ?_
   (first | refine s_ 6 ?_ | refine ga_free_g 6 rfl (s_move rfl) rfl rfl rfl rfl rfl rfl z_6 ?_)
   (first | refine s_ 7 ?_ | refine ga_free_g 7 rfl (s_nilCheck rfl) rfl rfl rfl rfl rfl rfl z_6 ?_)
   (first | refine s_ 8 ?_ | refine ga_free_g 8 rfl z_1 rfl rfl rfl rfl rfl rfl z_6 ?_)
   (first | refine s_ 9 ?_ | refine ga_read_g 9 rfl z_3 (s_load_blk rfl .del a3_0) rfl rfl rfl rfl rfl rfl z_6 ?_)
   (first | refine s_ 10 ?_ | refine ga_free_g 10 rfl (s_move rfl) rfl rfl rfl rfl rfl rfl z_6 ?_)
   (first | refine s_ 11 ?_ | refine ga_free_g 11 rfl (s_nilCheck rfl) rfl rfl rfl rfl rfl rfl z_6 ?_)
   (first | refine s_ 12 ?_ | refine ga_free_g 12 rfl z_1 rfl rfl rfl rfl rfl rfl z_6 ?_)
   (first | refine s_ 13 ?_ | refine ga_read_g 13 rfl z_3 (s_load_blk rfl .del a3_1) rfl rfl rfl rfl rfl rfl z_6 ?_)
   (first | refine s_ 14 ?_ | refine ga_free_g 14 rfl ((s_slice_str rfl rfl rfl (by omega)).eq (v' := B (s.drop p)) (by rw [List.take_of_length_le (by rw [List.length_drop]; omega), Int.toNat_natCast])) rfl rfl rfl rfl rfl rfl z_6 ?_)
   (first | refine s_ 15 ?_ | refine ga_free_g 15 rfl (s_move rfl) rfl rfl rfl rfl rfl rfl z_6 ?_)
   refine ga_one 16 rfl z_6 ?_
   (first | refine gl_guard_no rfl rfl rfl rfl rfl rfl rfl ?_ | (refine v_ ?_; refine gl_callp rfl (HasPrefix_ct (s.drop p) w) (fun _ _ _ => trivial) rfl ?_; rw [← hq]))
   refine gl_nil ?_
   refine at_ga (.inl z_6) ?_
   (first | refine s_ 17 ?_ | refine ga_free_g 17 rfl (s_not rfl) rfl rfl rfl rfl rfl rfl z_6 ?_)
   refine w_ 18 rfl z_4 ?_
   refine ga_done z_6 ?_
   repeat refine y_ ?_)
  all_goals exact at_cut j_ i_
 repeat refine y_ ?_
 refine g_cond rfl (fun h => ?_) (fun h => ?_)
 ·have e : eatS s w ⟨p, ok⟩ = (false, ⟨p, ok⟩) := by
   unfold eatS
   refine if_neg fun hh => ?_
   simp only at hh
   rw [hh.1, hq, hh.2] at h
   cases h
  rw [e]
  repeat refine x_ ?_
  refine a_ ?_
  repeat refine n_ ?_
  refine g_ret ?_
  exact at_end1 rfl rfl [rdp b s p ok] ⟨rfl, rfl⟩ i_
 ·rw [Bool.or_eq_false_iff] at h
  have hok : ok = true := by simpa using h.1
  have hqt : q = true := by simpa using h.2
  have e : eatS s w ⟨p, ok⟩ = (true, ⟨p + w.length, ok⟩) := by
   unfold eatS
   exact if_pos ⟨hok, hq.symm.trans hqt⟩
  have hle := eatS_le (s := s) (w := w) (p := p) (ok := ok) hp
  rw [e] at hle ⊢
  simp only at hle
  repeat refine x_ ?_
  refine m_ ?_
  refine f_ (s_nilCheck rfl) ?_
  refine f_ z_1 ?_
  refine r_ (by exact s_load_blk rfl z_3 a3_1) ?_
  refine m_ ?_
  refine f_ (s_len_str rfl) ?_
  refine f_ ((s_add_i64 rfl rfl (by omega)).eq (v' := .int .i64 ((p + w.length : Nat) : Int)) (by congr 1)) ?_
  refine f_ (s_nilCheck rfl) ?_
  refine f_ z_1 ?_
  (refine gl_store_blkC (pre := [_]) (post := [_]) rfl rfl z_5 z_8 z_8 z_8 ?_)
  repeat refine x_ ?_
  refine a_ ?_
  repeat refine n_ ?_
  refine g_ret ?_
  exact at_end1 rfl rfl [rdp b s (p + w.length) ok] ⟨rfl, rfl⟩ i_
theorem need_ct (b : Nat) (s w : Bs) (p : Nat) (ok : Bool) (hs : s.length ≤ 1000000000000) (hp : p ≤ s.length) (hw : w.length ≤ 1000000000000) : Ct Tryz.prog 23 [Ptr b, B w] (fun _ => True) [rdp b s p ok] (fun v A => v = .tuple #[] ∧ A = [rdr b s (needS s w ⟨p, ok⟩)]) := by
 refine ct_enter 10 Tryz.func23 rfl rfl rfl ?_
 intro F _
 repeat refine x_ ?_
 refine m_ ?_
 refine m_ ?_
 refine m_ ?_
 refine gl_call _ rfl (eat_ct b s w p ok hs hp hw) i_ (fun _ _ _ => trivial) rfl ?_; rintro v A ⟨rfl, rfl⟩
 refine f_ (s_nilCheck rfl) ?_
 refine f_ z_1 ?_
 (refine gl_store_blkC (pre := [_, _]) (post := []) rfl rfl z_5 z_8 z_8 z_8 ?_)
 repeat refine n_ ?_
 exact at_end0 rfl [rdr b s (needS s w ⟨p, ok⟩)] ⟨rfl, rfl⟩ i_
theorem untilS_le {s w : Bs} {p : Nat} {ok : Bool} (h : p ≤ s.length) : (untilS s w ⟨p, ok⟩).2.p ≤ s.length ∧ p ≤ (untilS s w ⟨p, ok⟩).2.p ∧ (untilS s w ⟨p, ok⟩).1.length ≤ s.length ∧ (untilS s w ⟨p, ok⟩).2.p = p + (untilS s w ⟨p, ok⟩).1.length := by
 unfold untilS
 split
 ·have h1 := to_le (s := s) (p := p) (stops := w) h
  unfold toS at h1
  simp only
  exact ⟨h1, by omega, by omega, trivial⟩
 ·simp; omega
set_option maxRecDepth 8000 in
theorem until_ct (b : Nat) (s w : Bs) (p : Nat) (ok : Bool) (hs : s.length ≤ 1000000000000) (hp : p ≤ s.length) (hw : w.length ≤ 1000000000000) : Ct Tryz.prog 20 [Ptr b, B w] (fun _ => True) [rdp b s p ok] (fun v A => v = B (untilS s w ⟨p, ok⟩).1 ∧ A = [rdr b s (untilS s w ⟨p, ok⟩).2]) := by
 refine ct_enter 56 Tryz.func20 rfl rfl rfl ?_
 intro F _
 cases ok with
 | false =>
  repeat refine x_ ?_
  refine a_ ?_
  repeat refine x_ ?_
  refine m_ ?_
  refine f_ (s_nilCheck rfl) ?_
  refine f_ z_1 ?_
  refine r_ (by exact s_load_blk rfl z_3 a3_2) ?_
  refine f_ (s_not rfl) ?_
  repeat refine x_ ?_
  refine a_ ?_
  repeat refine n_ ?_
  refine g_ret ?_
  exact at_end1 rfl rfl [rdp b s p false] ⟨rfl, rfl⟩ i_
 | true =>
  repeat refine x_ ?_
  refine a_ ?_
  repeat refine x_ ?_
  refine m_ ?_
  refine f_ (s_nilCheck rfl) ?_
  refine f_ z_1 ?_
  refine r_ (by exact s_load_blk rfl z_3 a3_2) ?_
  refine f_ (s_not rfl) ?_
  repeat refine x_ ?_
  refine m_ ?_
  refine f_ (s_nilCheck rfl) ?_
  refine f_ z_1 ?_
  refine r_ (by exact s_load_blk rfl z_3 a3_1) ?_
  refine a_ ?_
  repeat refine n_ ?_
  refine g_loop (ι := Nat) (fun j => p ≤ j ∧ j ≤ s.length ∧ ∀ i, p ≤ i → i < j → (!w.contains (s.getD i 0)) = true) (fun j => [(0, Ptr b), (1, B w), (5, .int .i64 (p : Nat))]) (fun j => [rdp b s j true]) (fun j => s.length - j) p ⟨Nat.le_refl _, hp, fun i h h' => by omega⟩ ?_ ?_ ?_
  ·(repeat (first | exact Sub.nil _ | refine Sub.cons rfl ?_))
  ·intro w hw; exact hw
  rintro j ⟨hpj, hjl, hno⟩
  obtain ⟨r1, hr1⟩ : ∃ q, q = decide ((j : Int) < (s.length : Nat)) := ⟨_, rfl⟩
  obtain ⟨r2, hr2⟩ : ∃ q, q = !w.contains (s.getD j 0) := ⟨_, rfl⟩
  repeat refine y_ ?_
  refine g_cutK [(0, Ptr b), (1, B w), (5, .int .i64 (p : Nat)), (38, .bool (r1 && r2))] [rdp b s j true] ?_ ?_
  ·cases r1
   all_goals (
    repeat refine y_ ?_
    refine g_draw0 ([3, 7, 15, 19], [0, 1, 3, 7, 0, 16, 48, 112, 240, 511, 1023, 2047, 2047, 6143, 14335, 30719, 2047, 67583, 198655, 460799, 1046527, 2097151, 4194303, 8388607], []) 24 rfl ?_
    refine w_ 0 rfl (s_move rfl) ?_
    refine w_ 1 rfl (s_nilCheck rfl) ?_
    refine w_ 2 rfl z_1 ?_
    (refine ga_read 3 rfl z_3 (s_load_blk rfl .del a3_1) rfl rfl rfl z_6 ?_)
    refine w_ 4 rfl (s_move rfl) ?_
    refine w_ 5 rfl (s_nilCheck rfl) ?_
    refine w_ 6 rfl z_1 ?_
    (refine ga_read 7 rfl z_3 (s_load_blk rfl .del a3_0) rfl rfl rfl z_6 ?_)
    refine w_ 8 rfl (s_len_str rfl) ?_
    refine w_ 9 rfl ((s_lss rfl rfl).eb hr1) ?_
    refine w_ 10 rfl (s_move rfl) ?_
    (first | refine s_ 11 ?_ | refine ga_free_g 11 rfl (s_move rfl) rfl rfl rfl rfl rfl rfl z_6 ?_)
    (first | refine s_ 12 ?_ | refine ga_free_g 12 rfl (s_move rfl) rfl rfl rfl rfl rfl rfl z_6 ?_)
    (first | refine s_ 13 ?_ | refine ga_free_g 13 rfl (s_nilCheck rfl) rfl rfl rfl rfl rfl rfl z_6 ?_)
    (first | refine s_ 14 ?_ | refine ga_free_g 14 rfl z_1 rfl rfl rfl rfl rfl rfl z_6 ?_)
    (first | refine s_ 15 ?_ | refine ga_read_g 15 rfl z_3 (s_load_blk rfl .del a3_0) rfl rfl rfl rfl rfl rfl z_6 ?_)
    (first | refine s_ 16 ?_ | refine ga_free_g 16 rfl (s_move rfl) rfl rfl rfl rfl rfl rfl z_6 ?_)
    (first | refine s_ 17 ?_ | refine ga_free_g 17 rfl (s_nilCheck rfl) rfl rfl rfl rfl rfl rfl z_6 ?_)
    (first | refine s_ 18 ?_ | refine ga_free_g 18 rfl z_1 rfl rfl rfl rfl rfl rfl z_6 ?_)
    (first | refine s_ 19 ?_ | refine ga_read_g 19 rfl z_3 (s_load_blk rfl .del a3_1) rfl rfl rfl rfl rfl rfl z_6 ?_)
    (first | refine s_ 20 ?_ | refine ga_free_g 20 rfl ((s_index_str rfl rfl (by have := of_decide_eq_true hr1.symm; omega)).eq (v' := U8 (s.getD j 0)) (by simp only [Int.toNat_natCast])) rfl rfl rfl rfl rfl rfl z_6 ?_)
    refine ga_one 21 rfl z_6 ?_
    (first | refine gl_guard_no rfl rfl rfl rfl rfl rfl rfl ?_ | (refine v_ ?_; refine gl_callp rfl (IndexByte_ct w (s.getD j 0)) (fun _ _ _ => trivial) rfl ?_))
    refine gl_nil ?_
    refine at_ga (.inl z_6) ?_
    (first | refine s_ 22 ?_ | refine ga_free_g 22 rfl ((s_lss rfl rfl).eq (congrArg Value.bool ((idx_lt _ _).trans hr2.symm))) rfl rfl rfl rfl rfl rfl z_6 ?_)
    refine w_ 23 rfl z_4 ?_
    refine ga_done z_6 ?_
    repeat refine y_ ?_)
   all_goals exact at_cut j_ i_
  repeat refine y_ ?_
  refine g_cond rfl (fun h4 => ?_) (fun h4 => ?_)
  ·simp only [Bool.and_eq_true] at h4
   have hj' : j < s.length := by have := of_decide_eq_true (hr1.symm.trans h4.1); omega
   repeat refine x_ ?_
   refine m_ ?_
   refine f_ (s_nilCheck rfl) ?_
   refine f_ z_1 ?_
   refine r_ (by exact s_load_blk rfl z_3 a3_1) ?_
   refine f_ ((s_add_i64 rfl rfl (by omega)).eq (v' := .int .i64 ((j + 1 : Nat) : Int)) (by congr 1)) ?_
   refine f_ (s_nilCheck rfl) ?_
   refine f_ z_1 ?_
   (refine gl_store_blkC (pre := [_]) (post := [_]) rfl rfl z_5 z_8 z_8 z_8 ?_)
   repeat refine n_ ?_
   refine at_next (j + 1) ⟨by omega, by omega, fun i h h' => ?_⟩ (by omega) ?_ ?_
   ·rcases Nat.lt_succ_iff_lt_or_eq.1 h' with h5 | rfl
    ·exact hno i h h5
    ·rw [← hr2]; exact h4.2
   ·(repeat (first | exact Sub.nil _ | refine Sub.cons rfl ?_))
   ·intro w hw; exact hw
  ·have hend : j < s.length → (!w.contains (s.getD j 0)) = false := fun hj => by
    have : r1 = true := hr1.trans (decide_eq_true (by omega))
    rw [this, Bool.true_and] at h4
    rw [← hr2]; exact h4
   obtain ⟨hw1, he⟩ := run_end (f := fun c => !w.contains c) hpj (.inl hjl) hno hend
   have e : untilS s w ⟨p, true⟩ = ((s.drop p).take (j - p), ⟨j, true⟩) := by
    unfold untilS stopW
    rw [if_pos rfl]
    simp only
    rw [← he, hw1]
   rw [e]
   repeat refine y_ ?_
   refine g_draw0 ([3, 8], [0, 1, 3, 7, 0, 0, 32, 96, 224, 511, 1023], []) 11 rfl ?_
   refine w_ 0 rfl (s_move rfl) ?_
   refine w_ 1 rfl (s_nilCheck rfl) ?_
   refine w_ 2 rfl z_1 ?_
   (refine ga_read 3 rfl z_3 (s_load_blk rfl .del a3_0) rfl rfl rfl z_6 ?_)
   refine w_ 4 rfl (s_move rfl) ?_
   refine w_ 5 rfl (s_move rfl) ?_
   refine w_ 6 rfl (s_nilCheck rfl) ?_
   refine w_ 7 rfl z_1 ?_
   (refine ga_read 8 rfl z_3 (s_load_blk rfl .del a3_1) rfl rfl rfl z_6 ?_)
   refine w_ 9 rfl ((s_slice_str rfl rfl rfl (by omega)).eq (v' := B ((s.drop p).take (j - p))) (congrArg B (cut_word hpj))) ?_
   refine w_ 10 rfl (s_assign rfl) ?_
   refine ga_done z_6 ?_
   repeat refine y_ ?_
   refine g_ret ?_
   exact at_end1 rfl rfl [rdp b s j true] ⟨rfl, rfl⟩ i_
theorem numberS_le {s : Bs} {p : Nat} {ok : Bool} (h : p ≤ s.length) : (numberS s ⟨p, ok⟩).2.p ≤ s.length ∧ p ≤ (numberS s ⟨p, ok⟩).2.p ∧ (numberS s ⟨p, ok⟩).1 ≤ great := by
 have hn : ∀ w, (numS w).getD 0 ≤ great := fun w => by
  cases e : numS w with
  | none => simp
  | some n => exact (numS_some e).2
 refine ⟨?_, ?_, hn _⟩
 ·unfold numberS numW
  split
  ·have h1 := congrArg List.length (takeWhile_split isDig (s.drop p))
   simp only [List.length_append, List.length_drop] at h1
   simp only [dgs]
   omega
  ·simp; omega
 ·unfold numberS
  simp
theorem sc4' (q1 q2 q3 : Bool) : q1 = false ∨ (q1 = true ∧ q2 = false) ∨ (q1 = true ∧ q2 = true ∧ q3 = false) ∨ (q1 = true ∧ q2 = true ∧ q3 = true) := by
 cases q1 <;> cases q2 <;> cases q3 <;> simp
set_option maxRecDepth 8000 in
theorem number_ct (b : Nat) (s : Bs) (p : Nat) (ok : Bool) (hs : s.length ≤ 281474976710656) (hp : p ≤ s.length) : Ct Tryz.prog 55 [Ptr b] Gl [rdp b s p ok] (fun v A => v = .int .u64 ((numberS s ⟨p, ok⟩).1 : Nat) ∧ A = [rdr b s (numberS s ⟨p, ok⟩).2]) := by
 refine ct_enter 82 Tryz.func55 rfl rfl rfl ?_
 intro F hg
 repeat refine x_ ?_
 refine a_ ?_
 repeat refine x_ ?_
 refine m_ ?_
 refine f_ (s_nilCheck rfl) ?_
 refine f_ z_1 ?_
 refine r_ (by exact s_load_blk rfl z_3 a3_1) ?_
 refine a_ ?_
 repeat refine n_ ?_
 refine g_loop (ι := Nat) (fun j => p ≤ j ∧ j ≤ s.length ∧ (ok = false → j = p) ∧ ∀ i, p ≤ i → i < j → isDig (s.getD i 0) = true) (fun j => [(0, Ptr b), (3, .int .i64 (p : Nat))]) (fun j => [rdp b s j ok]) (fun j => s.length - j) p ⟨Nat.le_refl _, hp, fun _ => rfl, fun i h h' => by omega⟩ ?_ ?_ ?_
 ·(repeat (first | exact Sub.nil _ | refine Sub.cons rfl ?_))
 ·intro w hw; exact hw
 rintro j ⟨hpj, hjl, hokj, hno⟩
 obtain ⟨r1, hr1⟩ : ∃ q, q = decide ((j : Int) < (s.length : Nat)) := ⟨_, rfl⟩
 obtain ⟨r2, hr2⟩ : ∃ q, q = decide (((s.getD j 0).toNat : Int) ≥ 48) := ⟨_, rfl⟩
 obtain ⟨r3, hr3⟩ : ∃ q, q = decide ((((s.getD j 0).toNat : Nat) : Int) ≤ 57) := ⟨_, rfl⟩
 have hdg : isDig (s.getD j 0) = (r2 && r3) := by
  rw [hr2, hr3, Bool.eq_iff_iff]
  simp only [isDig, Bool.and_eq_true, decide_eq_true_eq]
  omega
 repeat refine y_ ?_
 refine g_cutK [(0, Ptr b), (3, .int .i64 (p : Nat)), (49, .bool (ok && (r1 && (r2 && r3))))] [rdp b s j ok] ?_ ?_
 ·rcases sc4' ok r1 r2 with rfl | ⟨rfl, rfl⟩ | ⟨rfl, rfl, rfl⟩ | ⟨rfl, rfl, rfl⟩
  all_goals (
   repeat refine y_ ?_
   refine g_draw0 ([3, 8, 12, 20, 24, 32, 36], [0, 1, 3, 7, 15, 31, 63, 127, 255, 31, 543, 1567, 3615, 7711, 16383, 32767, 65535, 131071, 262143, 524287, 1048575, 131071, 2228223, 6422527, 14811135, 33554431, 67108863, 134217727, 268435455, 536870911, 1073741823, 2147483647, 4294967295, 536870911, 9126805503, 26306674687, 60666413055, 137438953471, 274877906943, 549755813887], []) 40 rfl ?_
   refine w_ 0 rfl (s_move rfl) ?_
   refine w_ 1 rfl (s_nilCheck rfl) ?_
   refine w_ 2 rfl z_1 ?_
   (refine ga_read 3 rfl z_3 (s_load_blk rfl .del a3_2) rfl rfl rfl z_6 ?_)
   refine w_ 4 rfl (s_move rfl) ?_
   (first | refine s_ 5 ?_ | refine ga_free_g 5 rfl (s_move rfl) rfl rfl rfl rfl rfl rfl z_6 ?_)
   (first | refine s_ 6 ?_ | refine ga_free_g 6 rfl (s_nilCheck rfl) rfl rfl rfl rfl rfl rfl z_6 ?_)
   (first | refine s_ 7 ?_ | refine ga_free_g 7 rfl z_1 rfl rfl rfl rfl rfl rfl z_6 ?_)
   (first | refine s_ 8 ?_ | refine ga_read_g 8 rfl z_3 (s_load_blk rfl .del a3_1) rfl rfl rfl rfl rfl rfl z_6 ?_)
   (first | refine s_ 9 ?_ | refine ga_free_g 9 rfl (s_move rfl) rfl rfl rfl rfl rfl rfl z_6 ?_)
   (first | refine s_ 10 ?_ | refine ga_free_g 10 rfl (s_nilCheck rfl) rfl rfl rfl rfl rfl rfl z_6 ?_)
   (first | refine s_ 11 ?_ | refine ga_free_g 11 rfl z_1 rfl rfl rfl rfl rfl rfl z_6 ?_)
   (first | refine s_ 12 ?_ | refine ga_read_g 12 rfl z_3 (s_load_blk rfl .del a3_0) rfl rfl rfl rfl rfl rfl z_6 ?_)
   (first | refine s_ 13 ?_ | refine ga_free_g 13 rfl (s_len_str rfl) rfl rfl rfl rfl rfl rfl z_6 ?_)
   (first | refine s_ 14 ?_ | refine ga_free_g 14 rfl ((s_lss rfl rfl).eb hr1) rfl rfl rfl rfl rfl rfl z_6 ?_)
   refine w_ 15 rfl z_4 ?_
   refine w_ 16 rfl (s_move rfl) ?_
   (first | refine s_ 17 ?_ | refine ga_free_g 17 rfl (s_move rfl) rfl rfl rfl rfl rfl rfl z_6 ?_)
   (first | refine s_ 18 ?_ | refine ga_free_g 18 rfl (s_nilCheck rfl) rfl rfl rfl rfl rfl rfl z_6 ?_)
   (first | refine s_ 19 ?_ | refine ga_free_g 19 rfl z_1 rfl rfl rfl rfl rfl rfl z_6 ?_)
   (first | refine s_ 20 ?_ | refine ga_read_g 20 rfl z_3 (s_load_blk rfl .del a3_0) rfl rfl rfl rfl rfl rfl z_6 ?_)
   (first | refine s_ 21 ?_ | refine ga_free_g 21 rfl (s_move rfl) rfl rfl rfl rfl rfl rfl z_6 ?_)
   (first | refine s_ 22 ?_ | refine ga_free_g 22 rfl (s_nilCheck rfl) rfl rfl rfl rfl rfl rfl z_6 ?_)
   (first | refine s_ 23 ?_ | refine ga_free_g 23 rfl z_1 rfl rfl rfl rfl rfl rfl z_6 ?_)
   (first | refine s_ 24 ?_ | refine ga_read_g 24 rfl z_3 (s_load_blk rfl .del a3_1) rfl rfl rfl rfl rfl rfl z_6 ?_)
   (first | refine s_ 25 ?_ | refine ga_free_g 25 rfl ((s_index_str rfl rfl (by have := of_decide_eq_true hr1.symm; omega)).eq (v' := U8 (s.getD j 0)) (by simp only [Int.toNat_natCast])) rfl rfl rfl rfl rfl rfl z_6 ?_)
   (first | refine s_ 26 ?_ | refine ga_free_g 26 rfl ((s_geq rfl rfl).eb hr2) rfl rfl rfl rfl rfl rfl z_6 ?_)
   refine w_ 27 rfl z_4 ?_
   refine w_ 28 rfl (s_move rfl) ?_
   (first | refine s_ 29 ?_ | refine ga_free_g 29 rfl (s_move rfl) rfl rfl rfl rfl rfl rfl z_6 ?_)
   (first | refine s_ 30 ?_ | refine ga_free_g 30 rfl (s_nilCheck rfl) rfl rfl rfl rfl rfl rfl z_6 ?_)
   (first | refine s_ 31 ?_ | refine ga_free_g 31 rfl z_1 rfl rfl rfl rfl rfl rfl z_6 ?_)
   (first | refine s_ 32 ?_ | refine ga_read_g 32 rfl z_3 (s_load_blk rfl .del a3_0) rfl rfl rfl rfl rfl rfl z_6 ?_)
   (first | refine s_ 33 ?_ | refine ga_free_g 33 rfl (s_move rfl) rfl rfl rfl rfl rfl rfl z_6 ?_)
   (first | refine s_ 34 ?_ | refine ga_free_g 34 rfl (s_nilCheck rfl) rfl rfl rfl rfl rfl rfl z_6 ?_)
   (first | refine s_ 35 ?_ | refine ga_free_g 35 rfl z_1 rfl rfl rfl rfl rfl rfl z_6 ?_)
   (first | refine s_ 36 ?_ | refine ga_read_g 36 rfl z_3 (s_load_blk rfl .del a3_1) rfl rfl rfl rfl rfl rfl z_6 ?_)
   (first | refine s_ 37 ?_ | refine ga_free_g 37 rfl ((s_index_str rfl rfl (by have := of_decide_eq_true hr1.symm; omega)).eq (v' := U8 (s.getD j 0)) (by simp only [Int.toNat_natCast])) rfl rfl rfl rfl rfl rfl z_6 ?_)
   (first | refine s_ 38 ?_ | refine ga_free_g 38 rfl ((s_leq rfl rfl).eb hr3) rfl rfl rfl rfl rfl rfl z_6 ?_)
   refine w_ 39 rfl z_4 ?_
   refine ga_done z_6 ?_
   repeat refine y_ ?_)
  all_goals exact at_cut j_ i_
 repeat refine y_ ?_
 refine g_cond rfl (fun h4 => ?_) (fun h4 => ?_)
 ·simp only [Bool.and_eq_true] at h4
  have hj' : j < s.length := by have := of_decide_eq_true (hr1.symm.trans h4.2.1); omega
  repeat refine x_ ?_
  refine m_ ?_
  refine f_ (s_nilCheck rfl) ?_
  refine f_ z_1 ?_
  refine r_ (by exact s_load_blk rfl z_3 a3_1) ?_
  refine f_ ((s_add_i64 rfl rfl (by omega)).eq (v' := .int .i64 ((j + 1 : Nat) : Int)) (by congr 1)) ?_
  refine f_ (s_nilCheck rfl) ?_
  refine f_ z_1 ?_
  (refine gl_store_blkC (pre := [_]) (post := [_]) rfl rfl z_5 z_8 z_8 z_8 ?_)
  repeat refine n_ ?_
  refine at_next (j + 1) ⟨by omega, by omega, (fun x => by rw [x] at h4; exact absurd h4.1 z_7), fun i h h' => ?_⟩ (by omega) ?_ ?_
  ·rcases Nat.lt_succ_iff_lt_or_eq.1 h' with h5 | rfl
   ·exact hno i h h5
   ·rw [hdg, h4.2.2.1, h4.2.2.2]; rfl
  ·(repeat (first | exact Sub.nil _ | refine Sub.cons rfl ?_))
  ·intro w hw; exact hw
 ·have hnw : numW s ⟨p, ok⟩ = (s.drop p).take (j - p) ∧ j = p + (numW s ⟨p, ok⟩).length := by
   unfold numW
   cases ok with
   | false =>
    have := hokj rfl
    subst this
    simp
   | true =>
    have hend : j < s.length → isDig (s.getD j 0) = false := fun hj => by
     have : r1 = true := hr1.trans (decide_eq_true (by omega))
     rw [this, Bool.true_and, Bool.true_and] at h4
     rw [hdg]; exact h4
    obtain ⟨hw1, he⟩ := run_end hpj (.inl hjl) hno hend
    rw [if_pos rfl]
    exact ⟨hw1, he⟩
  have e : numberS s ⟨p, ok⟩ = ((numS ((s.drop p).take (j - p))).getD 0, ⟨j, ok && (numS ((s.drop p).take (j - p))).isSome⟩) := by
   unfold numberS
   rw [← hnw.2, hnw.1]
  rw [e]
  obtain ⟨o, ho⟩ : ∃ o, o = numS ((s.drop p).take (j - p)) := ⟨_, rfl⟩
  rw [← ho]
  have hnc := NumberW_ct ((s.drop p).take (j - p)) (by rw [List.length_take, List.length_drop]; omega)
  rw [← ho] at hnc
  obtain ⟨z, hz⟩ : ∃ z, z = o.isSome := ⟨_, rfl⟩
  unfold numV at hnc
  rw [← hz] at hnc ⊢
  repeat refine y_ ?_
  refine g_draw0 ([3, 8], [0, 1, 3, 7, 0, 0, 32, 96, 224, 511, 1023, 2047, 4095, 4095, 8191, 32767], [10]) 16 rfl ?_
  refine w_ 0 rfl (s_move rfl) ?_
  refine w_ 1 rfl (s_nilCheck rfl) ?_
  refine w_ 2 rfl z_1 ?_
  (refine ga_read 3 rfl z_3 (s_load_blk rfl .del a3_0) rfl rfl rfl z_6 ?_)
  refine w_ 4 rfl (s_move rfl) ?_
  refine w_ 5 rfl (s_move rfl) ?_
  refine w_ 6 rfl (s_nilCheck rfl) ?_
  refine w_ 7 rfl z_1 ?_
  (refine ga_read 8 rfl z_3 (s_load_blk rfl .del a3_1) rfl rfl rfl z_6 ?_)
  refine w_ 9 rfl ((s_slice_str rfl rfl rfl (by omega)).eq (v' := B ((s.drop p).take (j - p))) (congrArg B (cut_word hpj))) ?_
  refine ga_one 10 rfl z_6 ?_
  refine gl_callp rfl hnc (fun h hh hb => hg.le hh) rfl ?_
  refine gl_nil ?_
  refine at_ga (.inl z_6) ?_
  refine w_ 11 rfl (s_move rfl) ?_
  refine w_ 12 rfl (s_extract rfl rfl) ?_
  refine w_ 13 rfl (s_extract rfl rfl) ?_
  refine w_ 14 rfl (s_assign rfl) ?_
  refine w_ 15 rfl (s_assign rfl) ?_
  refine ga_done z_6 ?_
  repeat refine y_ ?_
  cases ok
  all_goals (
   repeat refine x_ ?_
   refine m_ ?_
   refine m_ ?_
   refine f_ (s_nilCheck rfl) ?_
   refine f_ z_1 ?_
   refine r_ (by exact s_load_blk rfl z_3 a3_2) ?_
   refine m_ ?_
   (first | refine gl_guard_no rfl rfl rfl rfl rfl rfl rfl ?_ | (refine v_ ?_; refine m_ ?_))
   refine f_ z_4 ?_
   refine f_ (s_nilCheck rfl) ?_
   refine f_ z_1 ?_
   (refine gl_store_blkC (pre := [_, _]) (post := []) rfl rfl z_5 z_8 z_8 z_8 ?_)
   refine gl_nil ?_
   repeat refine y_ ?_)
  all_goals (
   repeat refine x_ ?_
   refine m_ ?_
   refine a_ ?_
   refine gl_nil ?_
   repeat refine y_ ?_)
  all_goals (refine g_ret ?_; exact at_end1 rfl rfl [rdr b s _] ⟨rfl, rfl⟩ i_)
end Go.Proofs.YtgllpcggdcknaaaGreatDoor.Rp
namespace Go.Proofs.YtgllpcggdcknaaaGreatDoor.Rp
open Go Go.Sl
def w4 : List Bs := [[32, 79, 75, 32], [32, 78, 79, 32], [32, 66, 65, 68, 32], [32, 66, 89, 69, 32]]
theorem w4_at : ∀ k, k < 4 → w4.getD k [] = 32 :: statW.getD k [] ++ [32] := by decide
theorem w4_len : ∀ k, k < 4 → (w4.getD k []).length = (statW.getD k []).length + 2 ∧ (w4.getD k []).length ≤ 5 := by decide
theorem wordR_at {s : Bs} {p k : Nat} (hk : k < 4) (hno : ∀ j, j < k → beginsS s p (w4.getD j []) = false) (hy : beginsS s p (w4.getD k []) = true) : wordR s p = k + 1 := by
 have hno' : ∀ j, j < k → beginsS s p (32 :: statW.getD j [] ++ [32]) = false := fun j hj => by rw [← w4_at j (by omega)]; exact hno j hj
 have hy' : beginsS s p (32 :: statW.getD k [] ++ [32]) = true := by rw [← w4_at k hk]; exact hy
 unfold wordR
 have : (List.range 4).find? (fun k => beginsS s p (32 :: statW.getD k [] ++ [32])) = some k := by
  have e : List.range 4 = [0, 1, 2, 3] := rfl
  rw [e]
  have c : k = 0 ∨ k = 1 ∨ k = 2 ∨ k = 3 := by omega
  rcases c with rfl | rfl | rfl | rfl
  ·simp only [List.find?_cons, hy']
  ·simp only [List.find?_cons, hno' 0 (by omega), hy']
  ·simp only [List.find?_cons, hno' 0 (by omega), hno' 1 (by omega), hy']
  ·simp only [List.find?_cons, hno' 0 (by omega), hno' 1 (by omega), hno' 2 (by omega), hy']
 rw [this]
 rfl
theorem wordR_no {s : Bs} {p : Nat} (hno : ∀ j, j < 4 → beginsS s p (w4.getD j []) = false) : wordR s p = 0 := by
 have hno' : ∀ j, j < 4 → beginsS s p (32 :: statW.getD j [] ++ [32]) = false := fun j hj => by rw [← w4_at j (by omega)]; exact hno j hj
 unfold wordR
 have e : List.range 4 = [0, 1, 2, 3] := rfl
 rw [e]
 simp only [List.find?_cons, hno' 0 (by omega), hno' 1 (by omega), hno' 2 (by omega), hno' 3 (by omega), List.find?_nil]
 rfl
def atR (s : Bs) (p : Nat) : Nat := if wordR s p = 0 then p else p + (statW.getD (wordR s p - 1) []).length + 2
theorem wordR_le {s : Bs} {p : Nat} (hp : p ≤ s.length) : atR s p ≤ s.length := by
 unfold atR
 split
 ·exact hp
 ·next h =>
  by_cases hn : ∀ j, j < 4 → beginsS s p (w4.getD j []) = false
  ·exact absurd (wordR_no hn) h
  ·have ⟨k, hk, hy, hno⟩ : ∃ k, k < 4 ∧ beginsS s p (w4.getD k []) = true ∧ ∀ j, j < k → beginsS s p (w4.getD j []) = false := by
    cases h0 : beginsS s p (w4.getD 0 []) with
    | true => exact ⟨0, by omega, h0, fun j hj => by omega⟩
    | false =>
     cases h1 : beginsS s p (w4.getD 1 []) with
     | true => exact ⟨1, by omega, h1, fun j hj => by obtain rfl : j = 0 := (by omega); exact h0⟩
     | false =>
      cases h2 : beginsS s p (w4.getD 2 []) with
      | true => exact ⟨2, by omega, h2, fun j hj => by have c : j = 0 ∨ j = 1 := (by omega); rcases c with rfl | rfl <;> assumption⟩
      | false =>
       cases h3 : beginsS s p (w4.getD 3 []) with
       | true => exact ⟨3, by omega, h3, fun j hj => by have c : j = 0 ∨ j = 1 ∨ j = 2 := (by omega); rcases c with rfl | rfl | rfl <;> assumption⟩
       | false => exact absurd (fun j hj => by have c : j = 0 ∨ j = 1 ∨ j = 2 ∨ j = 3 := (by omega); rcases c with rfl | rfl | rfl | rfl <;> assumption) hn
   rw [wordR_at hk hno hy]
   have := beg_le hy
   have := w4_len k hk
   simp only [Nat.add_sub_cancel]
   omega
theorem toS_bra {s : Bs} {p : Nat} (h : beginsS s p [91] = true) : p + 1 ≤ toS s p [93, 13] := by
 have hl := beg_le h
 simp only [List.length_singleton] at hl
 have hd := drop_get (s := s) (k := p) (by omega)
 unfold beginsS at h
 rw [hd] at h
 simp only [Bool.and_eq_true, List.isPrefixOf, beq_iff_eq] at h
 unfold toS stopW
 rw [hd, ← h.2.1]
 simp
set_option maxRecDepth 8000 in
theorem toldR_ct (s : Bs) (p : Nat) (hs : s.length ≤ 1000000000000) (hp : p ≤ s.length) : Ct Tryz.prog 61 [B s, .int .i64 (p : Nat)] (fun _ => True) [] (RpP (toldR s p)) := by
 refine ct_enter 63 Tryz.func61 rfl rfl rfl ?_
 intro F _
 repeat refine x_ ?_
 refine gl_allocA rfl ?_; intro g4
 repeat refine x_ ?_
 refine m_ ?_
 refine m_ ?_
 refine f_ ((s_slice_str rfl rfl rfl (by omega)).eq (v' := B (s.take p)) z_7) ?_
 refine f_ (s_bld rfl rfl) ?_
 refine gl_allocA rfl ?_; intro g5
 (refine gl_store_blkW rfl rfl z_5 z_8 z_8 z_2 ?_)
 repeat refine x_ ?_
 refine a_ ?_
 refine gl_nil ?_
 repeat (first | refine g_seq ?_ | refine at_code ?_ | refine g_skip ?_ | refine g_exit rfl ?_ | refine g_cond_t rfl ?_ | refine g_cond_f rfl ?_)
 obtain ⟨kw, hkw⟩ : ∃ k, k = wordR s p := ⟨_, rfl⟩
 obtain ⟨a, ha⟩ : ∃ a, a = atR s p := ⟨_, rfl⟩
 refine g_cutK [(0, B s), (1, .int .i64 (a : Nat)), (4, Ptr g4), (5, Ptr g5)] [blkR g5 ⟨kw, s.take p, [], [], 0, [], 0, [], [], []⟩ L0, blkR g4 R0 L0] ?_ ?_
 ·refine g_block ?_
  refine g_loop (ι := Nat) (fun k => k ≤ 4 ∧ ∀ j, j < k → beginsS s p (w4.getD j []) = false) (fun k => [(0, B s), (1, .int .i64 (p : Nat)), (4, Ptr g4), (5, Ptr g5), (6, .int .i64 ((k : Int) + 1))]) (fun _ => [blkR g5 ⟨0, s.take p, [], [], 0, [], 0, [], [], []⟩ L0, blkR g4 R0 L0]) (fun k => 4 - k) 0 ⟨by omega, fun j h => by omega⟩ ?_ ?_ ?_
  ·(repeat (first | exact Sub.nil _ | refine Sub.cons rfl ?_))
  ·intro w hw; exact hw
  ·rintro k ⟨hk, hno⟩
   repeat refine x_ ?_
   refine m_ ?_
   refine f_ (s_leq rfl rfl) ?_
   repeat refine n_ ?_
   refine g_cond rfl (fun h => ?_) (fun h => ?_)
   ·have hk' : k < 4 := by simp at h; omega
    have hkl : k < w4.length := by have : w4.length = 4 := rfl; omega
    have hw4 := (w4_len k hk').2
    repeat refine x_ ?_
    refine gl_buildSliceU rfl rfl rfl rfl rfl rfl (xs := fV w4) rfl rfl ?_; rintro a3 ⟨ad3, rfl⟩
    refine m_ ?_
    refine f_ ((s_sub_i64 rfl rfl (by omega)).eq (v' := .int .i64 (k : Nat)) (by congr 1; omega)) ?_
    refine f_ ((s_indexAddr rfl ⟨ad3, rfl⟩ rfl (by simp; omega))) ?_
    refine r_ (s_load1 rfl (fun w hw => rdB_own hw z_3 (i := k) z_7 hkl)) ?_
    refine a_ ?_
    repeat refine x_ ?_
    refine m_ ?_
    refine m_ ?_
    refine m_ ?_
    refine gl_callp rfl (begins_ct s p (w4.getD k []) (by omega) (by omega) (by omega)) (fun _ _ _ => trivial) rfl ?_
    repeat refine n_ ?_
    refine g_cond rfl (fun h2 => ?_) (fun h2 => ?_)
    ·have hwk := wordR_at hk' hno h2
     have e : atR s p = p + (w4.getD k []).length := by
      unfold atR
      rw [hwk, if_neg (by omega), (w4_len k hk').1]
      rfl
     obtain rfl : kw = k + 1 := hkw.trans hwk
     obtain rfl : a = p + (w4.getD k []).length := ha.trans e
     repeat refine x_ ?_
     refine m_ ?_
     refine f_ z_1 ?_
     (refine gl_store_blkC (pre := []) (post := [_, _, _, _, _, _, _, _, _]) rfl rfl z_5 z_8 z_8 z_8 ?_)
     repeat refine x_ ?_
     refine m_ ?_
     refine m_ ?_
     refine f_ (s_len_str rfl) ?_
     refine f_ (s_add_i64 rfl rfl (by omega)) ?_
     refine a_ ?_
     repeat refine n_ ?_
     exact at_cut j_ (fun w hw => hw.drop)
    ·repeat refine y_ ?_
     repeat refine x_ ?_
     refine m_ ?_
     refine f_ ((s_add_i64 rfl rfl (by omega)).eq (v' := .int .i64 ((((k + 1 : Nat) : Int)) + 1)) (by congr 1)) ?_
     refine a_ ?_
     repeat refine n_ ?_
     refine at_next (k + 1) ⟨by omega, fun j hj => ?_⟩ (by omega) ?_ ?_
     ·rcases Nat.lt_succ_iff_lt_or_eq.1 hj with h4 | rfl
      ·exact hno j h4
      ·exact h2
     ·(repeat (first | exact Sub.nil _ | refine Sub.cons rfl ?_))
     ·intro w hw; exact hw.drop
   ·have hk4 : k = 4 := by simp at h; omega
    subst hk4
    have hwk := wordR_no hno
    have e : atR s p = p := by unfold atR; rw [hwk]; rfl
    obtain rfl : kw = 0 := hkw.trans hwk
    obtain rfl : a = p := ha.trans e
    repeat refine y_ ?_
    exact at_cut j_ i_
 ·have hal := wordR_le hp
  rw [← ha] at hal
  repeat refine x_ ?_
  refine f_ z_1 ?_
  refine r_ (by exact s_load_blk rfl z_3 a10_0) ?_
  refine f_ (s_eql rfl rfl) ?_
  repeat refine n_ ?_
  refine g_cond rfl (fun h => ?_) (fun h => ?_)
  ·have h0 : kw = 0 := by simpa using h
   have e : toldR s p = R0 := by unfold toldR; simp only; rw [← hkw, if_pos h0]
   rw [e]
   repeat refine x_ ?_
   refine f_ (s_bld rfl rfl) ?_
   (refine gl_store_blkW rfl rfl z_5 z_8 z_8 z_2 ?_)
   repeat refine n_ ?_
   refine g_ret ?_
   exact at_endB rfl rfl z_3 rfl _ ⟨L0, rfl, rfl, rfl⟩ (fun w hw => ((hw.dropAll.addNil 46 6).addNil 9 1).addNil 22 1)
  ·have h0 : kw ≠ 0 := by simpa using h
   have ea : a = p + (statW.getD (kw - 1) []).length + 2 := by rw [ha]; unfold atR; rw [← hkw, if_neg h0]
   repeat refine x_ ?_
   refine m_ ?_
   refine m_ ?_
   refine gl_callp rfl (begins_ct s a [91] (by omega) (by omega) (by decide)) (fun _ _ _ => trivial) rfl ?_
   repeat refine n_ ?_
   refine g_cond rfl (fun h2 => ?_) (fun h2 => ?_)
   ·have hge := toS_bra h2
    have hle := to_le (s := s) (p := a) (stops := [93, 13]) hal
    repeat refine x_ ?_
    refine m_ ?_
    refine m_ ?_
    refine gl_callp rfl (to_ct s a [93, 13] (by omega) (by omega) (by decide)) (fun _ _ _ => trivial) rfl ?_
    refine a_ ?_
    repeat refine x_ ?_
    refine m_ ?_
    refine m_ ?_
    refine f_ ((s_add_i64 rfl rfl (by omega)).eq (v' := .int .i64 ((a + 1 : Nat) : Int)) (by congr 1)) ?_
    refine m_ ?_
    refine f_ ((s_slice_str rfl rfl rfl (by omega)).eq (v' := B (cutS s (a + 1) (toS s a [93, 13]))) (by simp only [Int.toNat_natCast]; rw [cut_take hge])) ?_
    refine f_ z_1 ?_
    (refine gl_store_blkC (pre := [_, _]) (post := [_, _, _, _, _, _, _]) rfl rfl z_5 z_8 z_8 z_8 ?_)
    repeat refine x_ ?_
    refine m_ ?_
    refine f_ ((s_add_i64 rfl rfl (by omega)).eq (v' := .int .i64 ((toS s a [93, 13] + 2 : Nat) : Int)) (by congr 1)) ?_
    refine a_ ?_
    repeat refine x_ ?_
    refine m_ ?_
    refine m_ ?_
    refine f_ (s_len_str rfl) ?_
    refine f_ (s_gtr rfl rfl) ?_
    repeat refine n_ ?_
    refine g_cond rfl (fun h3 => ?_) (fun h3 => ?_)
    ·have e : toldR s p = R0 := by
      unfold toldR
      simp only
      rw [← hkw, if_neg h0, ← ea]
      unfold codeR
      rw [if_pos h2, if_pos (by simp at h3; omega)]
     rw [e]
     repeat refine x_ ?_
     refine f_ (s_bld rfl rfl) ?_
     (refine gl_store_blkW rfl rfl z_5 z_8 z_8 z_2 ?_)
     repeat refine n_ ?_
     refine g_ret ?_
     exact at_endB rfl rfl z_3 rfl _ ⟨L0, rfl, rfl, rfl⟩ (fun w hw => ((hw.dropAll.addNil 46 6).addNil 9 1).addNil 22 1)
    ·have hb : toS s a [93, 13] + 2 ≤ s.length := by simp at h3; omega
     have hge2 := to_ge s (toS s a [93, 13] + 2) [13]
     have hle2 := to_le (s := s) (p := toS s a [93, 13] + 2) (stops := [13]) hb
     have e : toldR s p = ⟨kw, s.take p, cutS s (a + 1) (toS s a [93, 13]), cutS s (toS s a [93, 13] + 2) (toS s (toS s a [93, 13] + 2) [13]), 0, [], 0, [], [], []⟩ := by
      unfold toldR
      simp only
      rw [← hkw, if_neg h0, ← ea]
      unfold codeR
      rw [if_pos h2, if_neg (by omega)]
     rw [e]
     repeat refine x_ ?_
     refine m_ ?_
     refine m_ ?_
     refine m_ ?_
     refine m_ ?_
     refine gl_callp rfl (to_ct s (toS s a [93, 13] + 2) [13] (by omega) (by omega) (by decide)) (fun _ _ _ => trivial) rfl ?_
     refine f_ ((s_slice_str rfl rfl rfl (by omega)).eq (v' := B (cutS s (toS s a [93, 13] + 2) (toS s (toS s a [93, 13] + 2) [13]))) (by simp only [Int.toNat_natCast]; rw [cut_take hge2])) ?_
     refine f_ z_1 ?_
     (refine gl_store_blkC (pre := [_, _, _]) (post := [_, _, _, _, _, _]) rfl rfl z_5 z_8 z_8 z_8 ?_)
     repeat refine x_ ?_
     refine r_ ((s_load_blkW rfl z_3 z_8).eq (v' := rrA ⟨kw, s.take p, cutS s (a + 1) (toS s a [93, 13]), cutS s (toS s a [93, 13] + 2) (toS s (toS s a [93, 13] + 2) [13]), 0, [], 0, [], [], []⟩ L0) rfl) ?_
     (refine gl_store_blkW rfl rfl z_5 z_8 z_8 z_2 ?_)
     repeat refine n_ ?_
     refine g_ret ?_
     exact at_endB rfl rfl z_3 rfl _ ⟨L0, rfl, rfl, rfl⟩ (fun w hw => ((hw.dropAll.addNil 46 6).addNil 9 1).addNil 22 1)
   ·have hge2 := to_ge s a [13]
    have hle2 := to_le (s := s) (p := a) (stops := [13]) hal
    have e : toldR s p = ⟨kw, s.take p, [], cutS s a (toS s a [13]), 0, [], 0, [], [], []⟩ := by
     unfold toldR
     simp only
     rw [← hkw, if_neg h0, ← ea]
     unfold codeR
     rw [if_neg (by rw [h2]; simp)]
    rw [e]
    repeat refine x_ ?_
    refine m_ ?_
    refine m_ ?_
    refine m_ ?_
    refine m_ ?_
    refine gl_callp rfl (to_ct s a [13] (by omega) (by omega) (by decide)) (fun _ _ _ => trivial) rfl ?_
    refine f_ ((s_slice_str rfl rfl rfl (by omega)).eq (v' := B (cutS s a (toS s a [13]))) (by simp only [Int.toNat_natCast]; rw [cut_take hge2])) ?_
    refine f_ z_1 ?_
    (refine gl_store_blkC (pre := [_, _, _]) (post := [_, _, _, _, _, _]) rfl rfl z_5 z_8 z_8 z_8 ?_)
    repeat refine x_ ?_
    refine r_ ((s_load_blkW rfl z_3 z_8).eq (v' := rrA ⟨kw, s.take p, [], cutS s a (toS s a [13]), 0, [], 0, [], [], []⟩ L0) rfl) ?_
    (refine gl_store_blkW rfl rfl z_5 z_8 z_8 z_2 ?_)
    repeat refine n_ ?_
    refine g_ret ?_
    exact at_endB rfl rfl z_3 rfl _ ⟨L0, rfl, rfl, rfl⟩ (fun w hw => ((hw.dropAll.addNil 46 6).addNil 9 1).addNil 22 1)
end Go.Proofs.YtgllpcggdcknaaaGreatDoor.Rp
namespace Go.Proofs.YtgllpcggdcknaaaGreatDoor.Rp
open Go Go.Sl
theorem nmR_le : ∀ (k : Nat) (s : Bs) (l : List Bs) (n : Nat), nmR k s = some (l, n) → n + 1 ≤ s.length
  | 0, s, l, n, h => by simp [nmR] at h
  | k + 1, [], l, n, h => by simp [nmR] at h
  | k + 1, c :: t, l, n, h => by
    rw [nmR] at h
    split at h
    · simp at h; simp; omega
    · simp only at h
      obtain ⟨w, hw⟩ : ∃ w, w = (c :: t).takeWhile fun x => x != 32 && x != 41 := ⟨_, rfl⟩
      rw [← hw] at h
      split at h
      · cases h
      · next d r hd =>
        have hl := congrArg List.length hd
        rw [List.length_drop, List.length_cons, List.length_cons] at hl
        split at h
        · split at h
          · cases h
          · next e r2 =>
            split at h
            · cases h
            · simp only [Option.map_eq_some_iff, Prod.mk.injEq] at h
              obtain ⟨q, hq, _, rfl⟩ := h
              have := nmR_le k _ q.1 q.2 hq
              simp only [List.length_cons] at this hl ⊢
              omega
        · simp only [Option.map_eq_some_iff, Prod.mk.injEq] at h
          obtain ⟨q, hq, _, rfl⟩ := h
          have := nmR_le k _ q.1 q.2 hq
          simp only [List.length_cons] at this hl ⊢
          omega
theorem parseG_le (s : Bs) : (parseG s).2.1 ≤ s.length := by
  unfold parseG
  split
  · next t =>
    split
    · simp
    · next q hq =>
      have := nmR_le _ _ q.1 q.2 hq
      simp only
      split
      · simp; omega
      · simp
  · simp
theorem kindR_iff {w : Bs} {fetch : Bool} {j : Nat} (h1 : 1 ≤ j) (h2 : j ≤ 12) : (itemA j = w ∧ fetch = decide (5 < j)) ↔ kindR w fetch = j := by
  constructor
  · rintro ⟨rfl, rfl⟩
    unfold kindR
    by_cases h : 5 < j
    · rw [decide_eq_true h, if_pos rfl]
      exact fetchK_item j (by omega) h2
    · rw [decide_eq_false h, if_neg z_7]
      exact countK_item j h1 (by omega)
  · intro h
    unfold kindR at h
    cases fetch with
    | true =>
      rw [if_pos rfl] at h
      have := fetch_word (w := w) (by omega)
      rw [h] at this
      exact ⟨this.2.2, by simp; omega⟩
    | false =>
      rw [if_neg z_7] at h
      have := count_word (w := w) (by omega)
      rw [h] at this
      exact ⟨this.2.2, by simp; omega⟩
theorem kindR_le (w : Bs) (fetch : Bool) : kindR w fetch ≤ 12 := by
  unfold kindR fetchK countK
  split <;> split <;> omega
def kindU (w : Bs) (fetch : Bool) (k : Nat) : Nat := if kindR w fetch ≤ k then kindR w fetch else 0
theorem kindU_next {w : Bs} {fetch : Bool} {k : Nat} (hk : k < 12) : kindU w fetch (k + 1) = if itemA (k + 1) = w ∧ fetch = decide (5 < k + 1) then k + 1 else kindU w fetch k := by
  have h := kindR_iff (w := w) (fetch := fetch) (j := k + 1) (by omega) (by omega)
  unfold kindU
  by_cases e : kindR w fetch = k + 1
  · rw [if_pos (h.2 e), if_pos (by omega), e]
  · rw [if_neg (fun x => e (h.1 x))]
    by_cases e2 : kindR w fetch ≤ k
    · rw [if_pos (by omega), if_pos e2]
    · rw [if_neg (by omega), if_neg e2]
theorem kindU_all (w : Bs) (fetch : Bool) : kindU w fetch 12 = kindR w fetch := by unfold kindU; rw [if_pos (kindR_le w fetch)]
theorem kindU_zero (w : Bs) (fetch : Bool) : kindU w fetch 0 = 0 := by unfold kindU; split <;> omega
abbrev blkV (b : Nat) (v : RV) (a : Option Addr) (c : Nat) : As := .blk b (.cells #[.int .i64 v.kind, .int .u64 (v.n : Nat), .slice a v.flags.length c, B v.text, .bool v.part, .int .u64 (v.fr : Nat)] 46)
def ValP (q : RV × Nat) (v : Value) (A : List As) : Prop := ∃ x : VM, x.v = q.1 ∧ v = .tuple #[vmA x, .int .i64 (q.2 : Nat)] ∧ A = [OwnS x.a x.v.flags x.c]
def partR (s : Bs) (k e : Nat) : (Bool × Nat) × Nat := if 10 ≤ k ∧ beginsS s e [60] = true then ((true, (numR s (e + 1)).1), (numR s (e + 1)).2 + 1) else ((false, 0), e)
theorem partR_le {s : Bs} {k e : Nat} (h : e ≤ s.length) : e ≤ (partR s k e).2 ∧ (partR s k e).2 ≤ s.length + 1 ∧ (partR s k e).1.2 ≤ great := by
  unfold partR
  split
  · next hh =>
    have := beg_le hh.2
    simp only [List.length_singleton] at this
    have := numR_le (s := s) (p := e + 1) this
    have := numR_great s (e + 1)
    simp only
    omega
  · simp only; omega
theorem valR_eq (s : Bs) (p : Nat) (fetch : Bool) (w : Bs) (hw : w = cutS s p (toS s p [32, 60, 13])) (k f : Nat) (hk : k = kindR w fetch) (q : (Bool × Nat) × Nat) (hq : q = partR s k (p + w.length)) (hf : f = q.2 + 1) :
    valR s p fetch = if k = 0 ∨ s.length < f then (V0, p)
  else if k = 6 then (⟨6, 0, (parseG (s.drop f)).1, [], q.1.1, q.1.2⟩, f + (parseG (s.drop f)).2.1)
  else if k = 9 then (⟨9, (numR s (min (f + 1) s.length)).1, [], [], q.1.1, q.1.2⟩, (numR s (min (f + 1) s.length)).2 + 1)
  else if k < 9 then (⟨k, (numR s f).1, [], [], q.1.1, q.1.2⟩, (numR s f).2)
  else
    (if s.length < (numR s (min (f + 1) s.length)).2 + 3 ∨ s.length - ((numR s (min (f + 1) s.length)).2 + 3) < (numR s (min (f + 1) s.length)).1 then (V0, p)
     else (⟨k, 0, [], cutS s ((numR s (min (f + 1) s.length)).2 + 3) ((numR s (min (f + 1) s.length)).2 + 3 + (numR s (min (f + 1) s.length)).1), q.1.1, q.1.2⟩, (numR s (min (f + 1) s.length)).2 + 3 + (numR s (min (f + 1) s.length)).1)) := by
  subst hf hq hk hw
  rfl
set_option maxRecDepth 8000 in
theorem valueAt_ct (s : Bs) (p : Nat) (fetch : Bool) (hs : s.length ≤ 1000000000000) (hp : p ≤ s.length) : Ct Tryz.prog 96 [B s, .int .i64 (p : Nat), .bool fetch] (fun _ => True) [] (ValP (valR s p fetch)) := by
  have hge := to_ge s p [32, 60, 13]
  have hle := to_le (s := s) (p := p) (stops := [32, 60, 13]) hp
  obtain ⟨w, hw⟩ : ∃ w, w = cutS s p (toS s p [32, 60, 13]) := ⟨_, rfl⟩
  have hwl : p + w.length ≤ s.length := by rw [hw]; unfold cutS; rw [List.length_drop, List.length_take]; omega
  obtain ⟨k, hk⟩ : ∃ k, k = kindR w fetch := ⟨_, rfl⟩
  obtain ⟨q, hq⟩ : ∃ q, q = partR s k (p + w.length) := ⟨_, rfl⟩
  have hql := partR_le (k := k) hwl
  rw [← hq] at hql
  have hk12 : k ≤ 12 := by rw [hk]; exact kindR_le _ _
  rw [valR_eq s p fetch w hw k (q.2 + 1) hk q hq rfl]
  obtain ⟨f, hf⟩ : ∃ f, f = q.2 + 1 := ⟨_, rfl⟩
  rw [← hf]
  refine ct_enter 179 Tryz.func96 rfl rfl rfl ?_
  intro F _
  repeat refine x_ ?_
  refine gl_allocA rfl ?_; intro g6
  refine a_ ?_
  repeat refine x_ ?_
  refine m_ ?_
  refine m_ ?_
  refine m_ ?_
  refine m_ ?_
  refine gl_callp rfl (to_ct s p [32, 60, 13] (by omega) (by omega) (by decide)) (fun _ _ _ => trivial) rfl ?_
  refine f_ ((s_slice_str rfl rfl rfl (by omega)).eq (v' := B w) (by rw [hw]; simp only [Int.toNat_natCast]; rw [cut_take hge])) ?_
  refine a_ ?_
  repeat refine x_ ?_
  refine m_ ?_
  refine m_ ?_
  refine f_ (s_len_str rfl) ?_
  refine f_ ((s_gtr rfl rfl).eq (v' := .bool false) (congrArg Value.bool (decide_eq_false (by omega)))) ?_
  repeat refine x_ ?_
  refine f_ (s_bld rfl rfl) ?_
  refine gl_allocA rfl ?_; intro g9
  (refine gl_store_blkW rfl rfl z_5 z_8 z_8 z_2 ?_)
  repeat refine x_ ?_
  refine a_ ?_
  refine gl_nil ?_
  repeat (first | refine g_seq ?_ | refine at_code ?_ | refine g_skip ?_ | refine g_exit rfl ?_ | refine g_cond_t rfl ?_ | refine g_cond_f rfl ?_)
  refine g_cutK [(0, B s), (1, .int .i64 (p : Nat)), (6, Ptr g6), (8, B w), (9, Ptr g9)] [blkV g9 ⟨k, 0, [], [], false, 0⟩ none 0, blkV g6 V0 none 0] ?_ ?_
  · refine g_block ?_
    refine g_loop (ι := Nat) (fun j => j ≤ 12) (fun j => [(0, B s), (1, .int .i64 (p : Nat)), (2, .bool fetch), (6, Ptr g6), (8, B w), (9, Ptr g9), (10, .int .i64 ((j : Int) + 1))]) (fun j => [blkV g9 ⟨kindU w fetch j, 0, [], [], false, 0⟩ none 0, blkV g6 V0 none 0]) (fun j => 12 - j) 0 (by omega) ?_ ?_ ?_
    · (repeat (first | exact Sub.nil _ | refine Sub.cons rfl ?_))
    · intro w' hw'
      rw [kindU_zero]
      exact hw'
    · rintro j hj
      repeat refine x_ ?_
      refine m_ ?_
      refine f_ (s_leq rfl rfl) ?_
      repeat refine n_ ?_
      refine g_cond rfl (fun h => ?_) (fun h => ?_)
      · have hj' : j < 12 := by simp at h; omega
        obtain ⟨q1, hq1⟩ : ∃ b, b = decide (itemA (j + 1) = w) := ⟨_, rfl⟩
        obtain ⟨q2, hq2⟩ : ∃ b, b = decide (5 < j + 1) := ⟨_, rfl⟩
        obtain ⟨q3, hq3⟩ : ∃ b, b = decide (fetch = q2) := ⟨_, rfl⟩
        have hun := kindU_next (w := w) (fetch := fetch) hj'
        have hiff : (itemA (j + 1) = w ∧ fetch = decide (5 < j + 1)) ↔ (q1 && q3) = true := by
          rw [hq3, hq1, hq2, Bool.and_eq_true, decide_eq_true_eq, decide_eq_true_eq]
        repeat refine y_ ?_
        refine g_cutK [(0, B s), (1, .int .i64 (p : Nat)), (2, .bool fetch), (6, Ptr g6), (8, B w), (9, Ptr g9), (10, .int .i64 ((j : Int) + 1)), (48, .bool (q1 && q3))] [blkV g9 ⟨kindU w fetch j, 0, [], [], false, 0⟩ none 0, blkV g6 V0 none 0] ?_ ?_
        · cases q1
          all_goals (
            repeat refine x_ ?_
            refine m_ ?_
            refine gl_callp rfl (itemR_ct (j + 1) (by omega)) (fun _ _ _ => trivial) rfl ?_
            refine m_ ?_
            refine f_ ((s_eql_str rfl rfl).eb hq1) ?_
            refine m_ ?_
            (first | refine gl_guard_no rfl rfl rfl rfl rfl rfl rfl ?_ | (refine v_ ?_; refine m_ ?_))
            (first | refine gl_guard_no rfl rfl rfl rfl rfl rfl rfl ?_ | (refine v_ ?_; refine m_ ?_))
            (first | refine gl_guard_no rfl rfl rfl rfl rfl rfl rfl ?_ | (refine v_ ?_; refine f_ ((s_gtr rfl rfl).eq (v' := .bool q2) (congrArg Value.bool (by rw [hq2]; exact decide_eq_decide.mpr (by omega)))) ?_))
            (first | refine gl_guard_no rfl rfl rfl rfl rfl rfl rfl ?_ | (refine v_ ?_; refine f_ ((s_eql_bool rfl rfl).eb hq3) ?_))
            refine f_ z_4 ?_
            refine gl_nil ?_
            repeat refine y_ ?_)
          all_goals exact at_cut j_ i_
        repeat refine y_ ?_
        refine g_cond rfl (fun h2 => ?_) (fun h2 => ?_)
        · repeat refine y_ ?_
          refine g_region ?_
          refine m_ ?_
          refine f_ z_1 ?_
          (refine gl_store_blkC (pre := []) (post := [_, _, _, _, _]) rfl rfl z_5 z_8 z_8 z_8 ?_)
          repeat refine x_ ?_
          refine m_ ?_
          refine f_ ((s_add_i64 rfl rfl (by omega)).eq (v' := .int .i64 ((((j + 1 : Nat) : Int)) + 1)) (by congr 1)) ?_
          refine a_ ?_
          repeat refine n_ ?_
          refine at_next (j + 1) (by omega) (by omega) ?_ ?_
          · (repeat (first | exact Sub.nil _ | refine Sub.cons rfl ?_))
          · intro w' hw'
            rw [hun, if_pos (hiff.2 h2)]
            exact hw'
        · repeat refine y_ ?_
          repeat refine x_ ?_
          refine m_ ?_
          refine f_ ((s_add_i64 rfl rfl (by omega)).eq (v' := .int .i64 ((((j + 1 : Nat) : Int)) + 1)) (by congr 1)) ?_
          refine a_ ?_
          repeat refine n_ ?_
          refine at_next (j + 1) (by omega) (by omega) ?_ ?_
          · (repeat (first | exact Sub.nil _ | refine Sub.cons rfl ?_))
          · intro w' hw'
            rw [hun, if_neg (fun x => by rw [hiff.1 x] at h2; cases h2)]
            exact hw'
      · have hj12 : j = 12 := by simp at h; omega
        subst hj12
        repeat refine y_ ?_
        refine at_cut j_ (fun w' hw' => ?_)
        rw [hk, ← kindU_all]
        exact hw'
  · repeat refine y_ ?_
    repeat refine x_ ?_
    refine m_ ?_
    refine m_ ?_
    refine f_ (s_len_str rfl) ?_
    refine f_ (s_add_i64 rfl rfl (by omega)) ?_
    refine a_ ?_
    repeat refine n_ ?_
    obtain ⟨q1, hq1⟩ : ∃ b, b = decide ((10 : Int) ≤ (k : Nat)) := ⟨_, rfl⟩
    obtain ⟨q2, hq2⟩ : ∃ b, b = beginsS s (p + w.length) [60] := ⟨_, rfl⟩
    have hpq : q = if (q1 && q2) = true then ((true, (numR s (p + w.length + 1)).1), (numR s (p + w.length + 1)).2 + 1) else ((false, 0), p + w.length) := by
      rw [hq]
      unfold partR
      rw [← hq2]
      have : (10 ≤ k ∧ q2 = true) ↔ (q1 && q2) = true := by
        rw [Bool.and_eq_true, hq1, decide_eq_true_eq]
        constructor
        · rintro ⟨a, b⟩; exact ⟨by omega, b⟩
        · rintro ⟨a, b⟩; exact ⟨by omega, b⟩
      by_cases hh : (q1 && q2) = true
      · rw [if_pos (this.2 hh), if_pos hh]
      · rw [if_neg (fun x => hh (this.1 x)), if_neg hh]
    repeat refine y_ ?_
    refine g_cutK [(0, B s), (1, .int .i64 (p : Nat)), (6, Ptr g6), (8, B w), (9, Ptr g9), (11, .int .i64 ((p : Int) + (w.length : Nat))), (62, .bool (q1 && q2))] [blkV g9 ⟨k, 0, [], [], false, 0⟩ none 0, blkV g6 V0 none 0] ?_ ?_
    · cases q1
      all_goals (
        repeat refine x_ ?_
        refine f_ z_1 ?_
        refine r_ (by exact s_load_blk rfl z_3 a6_0) ?_
        refine f_ ((s_geq rfl rfl).eb hq1) ?_
        refine m_ ?_
        (first | refine gl_guard_no rfl rfl rfl rfl rfl rfl rfl ?_ | (refine v_ ?_; refine m_ ?_))
        (first | refine gl_guard_no rfl rfl rfl rfl rfl rfl rfl ?_ | (refine v_ ?_; refine m_ ?_))
        (first | refine gl_guard_no rfl rfl rfl rfl rfl rfl rfl ?_ | (refine v_ ?_; refine gl_callp rfl (begins_ct s (p + w.length) [60] (by omega) (by omega) (by decide)) (fun _ _ _ => trivial) rfl ?_; rw [← hq2]))
        refine f_ z_4 ?_
        refine gl_nil ?_
        repeat refine y_ ?_)
      all_goals exact at_cut j_ i_
    repeat refine y_ ?_
    refine g_cutK [(0, B s), (1, .int .i64 (p : Nat)), (6, Ptr g6), (8, B w), (9, Ptr g9), (11, .int .i64 (q.2 : Nat))] [blkV g9 ⟨k, 0, [], [], q.1.1, q.1.2⟩ none 0, blkV g6 V0 none 0] ?_ ?_
    · refine g_cond rfl (fun h => ?_) (fun h => ?_)
      · rw [if_pos h] at hpq
        have hb := beg_le (hq2.symm.trans (by simp only [Bool.and_eq_true] at h; exact h.2))
        simp only [List.length_singleton] at hb
        have hn := numR_le (s := s) (p := p + w.length + 1) hb
        rw [hpq]
        repeat refine x_ ?_
        refine f_ z_1 ?_
        (refine gl_store_blkC (pre := [_, _, _, _]) (post := [_]) rfl rfl z_5 z_8 z_8 z_8 ?_)
        repeat refine x_ ?_
        refine m_ ?_
        refine m_ ?_
        refine f_ (s_add_i64 rfl rfl (by omega)) ?_
        refine gl_callp rfl (numberR_ct s (p + w.length + 1) (by omega) (by omega)) (fun _ _ _ => trivial) rfl ?_
        refine m_ ?_
        refine f_ (s_extract rfl rfl) ?_
        refine f_ (s_extract rfl rfl) ?_
        refine f_ z_1 ?_
        (refine gl_store_blkC (pre := [_, _, _, _, _]) (post := []) rfl rfl z_5 z_8 z_8 z_8 ?_)
        refine a_ ?_
        repeat refine x_ ?_
        refine m_ ?_
        refine f_ (s_add_i64 rfl rfl (by omega)) ?_
        refine a_ ?_
        repeat refine n_ ?_
        exact at_cut j_ i_
      · rw [if_neg (by rw [h]; simp)] at hpq
        rw [hpq]
        repeat refine y_ ?_
        exact at_cut j_ i_
    repeat refine x_ ?_
    refine m_ ?_
    refine f_ ((s_add_i64 rfl rfl (by omega)).eq (v' := .int .i64 ((f : Nat) : Int)) (by rw [hf]; congr 1)) ?_
    refine a_ ?_
    repeat refine n_ ?_
    obtain ⟨r1, hr1⟩ : ∃ b, b = decide ((k : Int) = 0) := ⟨_, rfl⟩
    obtain ⟨r2, hr2⟩ : ∃ b, b = decide ((f : Int) > (s.length : Nat)) := ⟨_, rfl⟩
    have hrr : (k = 0 ∨ s.length < f) ↔ (r1 || r2) = true := by
      rw [Bool.or_eq_true, hr1, hr2, decide_eq_true_eq, decide_eq_true_eq]
      omega
    repeat refine y_ ?_
    refine g_cutK [(0, B s), (1, .int .i64 (p : Nat)), (6, Ptr g6), (9, Ptr g9), (11, .int .i64 (f : Nat)), (76, .bool (r1 || r2))] [blkV g9 ⟨k, 0, [], [], q.1.1, q.1.2⟩ none 0, blkV g6 V0 none 0] ?_ ?_
    · cases r1
      all_goals (
        repeat refine x_ ?_
        refine f_ z_1 ?_
        refine r_ (by exact s_load_blk rfl z_3 a6_0) ?_
        refine f_ ((s_eql rfl rfl).eb hr1) ?_
        refine m_ ?_
        (first | refine gl_guard_no rfl rfl rfl rfl rfl rfl rfl ?_ | (refine v_ ?_; refine m_ ?_))
        (first | refine gl_guard_no rfl rfl rfl rfl rfl rfl rfl ?_ | (refine v_ ?_; refine m_ ?_))
        (first | refine gl_guard_no rfl rfl rfl rfl rfl rfl rfl ?_ | (refine v_ ?_; refine f_ (s_len_str rfl) ?_))
        (first | refine gl_guard_no rfl rfl rfl rfl rfl rfl rfl ?_ | (refine v_ ?_; refine f_ ((s_gtr rfl rfl).eb hr2) ?_))
        refine f_ z_4 ?_
        refine a_ ?_
        refine gl_nil ?_
        repeat refine y_ ?_)
      all_goals exact at_cut j_ i_
    repeat refine y_ ?_
    refine g_cond rfl (fun h => ?_) (fun h => ?_)
    · rw [if_pos (hrr.2 h)]
      repeat refine x_ ?_
      refine f_ (s_bld rfl rfl) ?_
      refine m_ ?_
      (refine gl_store_blkW rfl rfl z_5 z_8 z_8 z_2 ?_)
      refine a_ ?_
      repeat refine n_ ?_
      refine g_ret ?_
      exact at_endB1 rfl rfl rfl z_3 rfl _ ⟨VM0, rfl, rfl, rfl⟩ (fun w hw => hw.dropAll.addNil 9 1)
    · have hno : ¬(k = 0 ∨ s.length < f) := fun x => by rw [hrr.1 x] at h; cases h
      rw [if_neg hno]
      have hfl : f ≤ s.length := by omega
      repeat refine x_ ?_
      refine f_ z_1 ?_
      refine r_ (by exact s_load_blk rfl z_3 a6_0) ?_
      refine f_ ((s_eql rfl rfl).eq (v' := .bool (decide (k = 6))) (congrArg Value.bool (decide_eq_decide.mpr (show ((k : Nat) : Int) = 6 ↔ k = 6 by omega)))) ?_
      refine a_ ?_
      repeat refine n_ ?_
      refine g_cond rfl (fun h6 => ?_) (fun h6 => ?_)
      · have hk6 := of_decide_eq_true h6
        have hpl := parseG_le (s.drop f)
        rw [List.length_drop] at hpl
        rw [if_pos hk6]
        subst hk6
        repeat refine x_ ?_
        refine m_ ?_
        refine m_ ?_
        refine f_ ((s_slice_str rfl rfl rfl (by omega)).eq (v' := B (s.drop f)) (by rw [List.take_of_length_le (by rw [List.length_drop]; omega), Int.toNat_natCast])) ?_
        refine gl_call _ rfl (ParseR_ct (s.drop f) (by unfold big; rw [List.length_drop]; omega)) i_ (fun _ _ _ => trivial) rfl ?_; rintro v A ⟨a96, c96, rfl, rfl⟩
        refine m_ ?_
        refine f_ (s_extract rfl rfl) ?_
        refine f_ (s_extract rfl rfl) ?_
        refine f_ (s_extract rfl rfl) ?_
        refine a_ ?_
        refine a_ ?_
        refine a_ ?_
        repeat refine x_ ?_
        refine m_ ?_
        refine f_ z_1 ?_
        (refine gl_store_blkC (pre := [_, _]) (post := [_, _, _]) rfl rfl z_5 z_8 z_8 z_8 ?_)
        repeat refine x_ ?_
        refine r_ ((s_load_blkW rfl z_3 z_8).eq (v' := vmA ⟨⟨6, 0, (parseG (s.drop f)).1, [], q.1.1, q.1.2⟩, a96, c96⟩) rfl) ?_
        refine m_ ?_
        refine m_ ?_
        refine f_ (s_add_i64 rfl rfl (by omega)) ?_
        (refine gl_store_blkW rfl rfl z_5 z_8 z_8 z_2 ?_)
        refine a_ ?_
        repeat refine n_ ?_
        refine g_ret ?_
        exact at_endB1 rfl rfl rfl z_3 rfl _ ⟨⟨⟨6, 0, (parseG (s.drop f)).1, [], q.1.1, q.1.2⟩, a96, c96⟩, rfl, rfl, rfl⟩ (fun w hw => hw.left (A := [_]))
      · have hk6 := of_decide_eq_false h6
        rw [if_neg hk6]
        repeat refine x_ ?_
        refine f_ z_1 ?_
        refine r_ (by exact s_load_blk rfl z_3 a6_0) ?_
        refine f_ ((s_eql rfl rfl).eq (v' := .bool (decide (k = 9))) (congrArg Value.bool (decide_eq_decide.mpr (show ((k : Nat) : Int) = 9 ↔ k = 9 by omega)))) ?_
        refine a_ ?_
        repeat refine n_ ?_
        refine g_cond rfl (fun h9 => ?_) (fun h9 => ?_)
        · have hk9 := of_decide_eq_true h9
          rw [if_pos hk9]
          subst hk9
          have hm : min (f + 1) s.length ≤ s.length := Nat.min_le_right _ _
          have hn := numR_le hm
          repeat refine x_ ?_
          refine m_ ?_
          refine m_ ?_
          refine f_ (s_add_i64 rfl rfl (by omega)) ?_
          refine m_ ?_
          refine f_ (s_len_str rfl) ?_
          refine f_ ((s_min2 rfl rfl).eq (v' := .int .i64 ((min (f + 1) s.length : Nat) : Int)) (by congr 1; omega)) ?_
          refine gl_callp rfl (numberR_ct s (min (f + 1) s.length) (by omega) hm) (fun _ _ _ => trivial) rfl ?_
          refine m_ ?_
          refine f_ (s_extract rfl rfl) ?_
          refine f_ (s_extract rfl rfl) ?_
          refine a_ ?_
          refine a_ ?_
          repeat refine x_ ?_
          refine m_ ?_
          refine f_ z_1 ?_
          (refine gl_store_blkC (pre := [_]) (post := [_, _, _, _]) rfl rfl z_5 z_8 z_8 z_8 ?_)
          repeat refine x_ ?_
          refine r_ ((s_load_blkW rfl z_3 z_8).eq (v' := vmA ⟨⟨9, (numR s (min (f + 1) s.length)).1, [], [], q.1.1, q.1.2⟩, none, 0⟩) rfl) ?_
          refine m_ ?_
          refine f_ (s_add_i64 rfl rfl (by omega)) ?_
          (refine gl_store_blkW rfl rfl z_5 z_8 z_8 z_2 ?_)
          refine a_ ?_
          repeat refine n_ ?_
          refine g_ret ?_
          exact at_endB1 rfl rfl rfl z_3 rfl _ ⟨⟨⟨9, (numR s (min (f + 1) s.length)).1, [], [], q.1.1, q.1.2⟩, none, 0⟩, rfl, rfl, rfl⟩ (fun w hw => hw.dropAll.addNil 9 1)
        · have hk9 := of_decide_eq_false h9
          rw [if_neg hk9]
          repeat refine x_ ?_
          refine f_ z_1 ?_
          refine r_ (by exact s_load_blk rfl z_3 a6_0) ?_
          refine f_ ((s_lss rfl rfl).eq (v' := .bool (decide (k < 9))) (congrArg Value.bool (decide_eq_decide.mpr (show ((k : Nat) : Int) < 9 ↔ k < 9 by omega)))) ?_
          refine a_ ?_
          repeat refine n_ ?_
          refine g_cond rfl (fun hl9 => ?_) (fun hl9 => ?_)
          · have hkl := of_decide_eq_true hl9
            rw [if_pos hkl]
            have hn := numR_le hfl
            repeat refine x_ ?_
            refine m_ ?_
            refine m_ ?_
            refine gl_callp rfl (numberR_ct s f (by omega) hfl) (fun _ _ _ => trivial) rfl ?_
            refine m_ ?_
            refine f_ (s_extract rfl rfl) ?_
            refine f_ (s_extract rfl rfl) ?_
            refine a_ ?_
            refine a_ ?_
            repeat refine x_ ?_
            refine m_ ?_
            refine f_ z_1 ?_
            (refine gl_store_blkC (pre := [_]) (post := [_, _, _, _]) rfl rfl z_5 z_8 z_8 z_8 ?_)
            repeat refine x_ ?_
            refine r_ ((s_load_blkW rfl z_3 z_8).eq (v' := vmA ⟨⟨k, (numR s f).1, [], [], q.1.1, q.1.2⟩, none, 0⟩) rfl) ?_
            refine m_ ?_
            (refine gl_store_blkW rfl rfl z_5 z_8 z_8 z_2 ?_)
            refine a_ ?_
            repeat refine n_ ?_
            refine g_ret ?_
            exact at_endB1 rfl rfl rfl z_3 rfl _ ⟨⟨⟨k, (numR s f).1, [], [], q.1.1, q.1.2⟩, none, 0⟩, rfl, rfl, rfl⟩ (fun w hw => hw.dropAll.addNil 9 1)
          · have hkl := of_decide_eq_false hl9
            rw [if_neg hkl]
            have hm : min (f + 1) s.length ≤ s.length := Nat.min_le_right _ _
            have hn := numR_le hm
            have hng := numR_great s (min (f + 1) s.length)
            repeat refine x_ ?_
            refine m_ ?_
            refine m_ ?_
            refine f_ (s_add_i64 rfl rfl (by omega)) ?_
            refine m_ ?_
            refine f_ (s_len_str rfl) ?_
            refine f_ ((s_min2 rfl rfl).eq (v' := .int .i64 ((min (f + 1) s.length : Nat) : Int)) (by congr 1; omega)) ?_
            refine gl_callp rfl (numberR_ct s (min (f + 1) s.length) (by omega) hm) (fun _ _ _ => trivial) rfl ?_
            refine m_ ?_
            refine f_ (s_extract rfl rfl) ?_
            refine f_ (s_extract rfl rfl) ?_
            refine a_ ?_
            refine a_ ?_
            repeat refine n_ ?_
            obtain ⟨m1, hm1⟩ : ∃ m, m = (numR s (min (f + 1) s.length)).1 := ⟨_, rfl⟩
            obtain ⟨m2, hm2⟩ : ∃ m, m = (numR s (min (f + 1) s.length)).2 := ⟨_, rfl⟩
            rw [← hm1, ← hm2]
            rw [← hm1] at hng
            rw [← hm2] at hn
            repeat refine x_ ?_
            refine m_ ?_
            refine f_ ((s_add_i64 rfl rfl (by omega)).eq (v' := .int .i64 ((m2 + 3 : Nat) : Int)) (by congr 1)) ?_
            refine a_ ?_
            repeat refine n_ ?_
            obtain ⟨t1, ht1⟩ : ∃ b, b = decide (((m2 + 3 : Nat) : Int) > (s.length : Nat)) := ⟨_, rfl⟩
            obtain ⟨t2, ht2⟩ : ∃ b, b = decide (s.length - (m2 + 3) < m1) := ⟨_, rfl⟩
            have htt : (s.length < m2 + 3 ∨ s.length - (m2 + 3) < m1) ↔ (t1 || t2) = true := by
              rw [Bool.or_eq_true, ht1, ht2, decide_eq_true_eq, decide_eq_true_eq]
              omega
            repeat refine y_ ?_
            refine g_cutK [(0, B s), (1, .int .i64 (p : Nat)), (6, Ptr g6), (9, Ptr g9), (19, .int .u64 (m1 : Nat)), (21, .int .i64 ((m2 + 3 : Nat) : Int)), (163, .bool (t1 || t2))] [blkV g9 ⟨k, 0, [], [], q.1.1, q.1.2⟩ none 0, blkV g6 V0 none 0] ?_ ?_
            · cases t1
              all_goals (
                repeat refine x_ ?_
                refine m_ ?_
                refine m_ ?_
                refine f_ (s_len_str rfl) ?_
                refine f_ ((s_gtr rfl rfl).eb ht1) ?_
                refine m_ ?_
                (first | refine gl_guard_no rfl rfl rfl rfl rfl rfl rfl ?_ | (refine v_ ?_; refine m_ ?_))
                (first | refine gl_guard_no rfl rfl rfl rfl rfl rfl rfl ?_ | (refine v_ ?_; refine m_ ?_))
                (first | refine gl_guard_no rfl rfl rfl rfl rfl rfl rfl ?_ | (refine v_ ?_; refine f_ (s_len_str rfl) ?_))
                (first | refine gl_guard_no rfl rfl rfl rfl rfl rfl rfl ?_ | (refine v_ ?_; refine m_ ?_))
                (first | refine gl_guard_no rfl rfl rfl rfl rfl rfl rfl ?_ | (refine v_ ?_; refine f_ ((s_sub_i64 rfl rfl (by simp at ht1; omega)).eq (v' := .int .i64 ((s.length - (m2 + 3) : Nat) : Int)) (by simp at ht1; congr 1; omega)) ?_))
                (first | refine gl_guard_no rfl rfl rfl rfl rfl rfl rfl ?_ | (refine v_ ?_; refine f_ ((s_conv_keep_u64 rfl (by omega))) ?_))
                (first | refine gl_guard_no rfl rfl rfl rfl rfl rfl rfl ?_ | (refine v_ ?_; refine f_ ((s_gtr rfl rfl).eq (v' := .bool t2) (congrArg Value.bool (by rw [ht2]; exact decide_eq_decide.mpr (by omega)))) ?_))
                refine f_ z_4 ?_
                refine gl_nil ?_
                repeat refine y_ ?_)
              all_goals exact at_cut j_ i_
            repeat refine y_ ?_
            refine g_cond rfl (fun h3 => ?_) (fun h3 => ?_)
            · rw [if_pos (htt.2 h3)]
              repeat refine x_ ?_
              refine f_ (s_bld rfl rfl) ?_
              refine m_ ?_
              (refine gl_store_blkW rfl rfl z_5 z_8 z_8 z_2 ?_)
              refine a_ ?_
              repeat refine n_ ?_
              refine g_ret ?_
              exact at_endB1 rfl rfl rfl z_3 rfl _ ⟨VM0, rfl, rfl, rfl⟩ (fun w hw => hw.dropAll.addNil 9 1)
            · have hno2 : ¬(s.length < m2 + 3 ∨ s.length - (m2 + 3) < m1) := fun x => by rw [htt.1 x] at h3; cases h3
              rw [if_neg hno2]
              repeat refine x_ ?_
              refine m_ ?_
              refine m_ ?_
              refine m_ ?_
              refine m_ ?_
              refine f_ ((s_conv_keep_i64 rfl (by omega))) ?_
              refine f_ ((s_add_i64 rfl rfl (by omega)).eq (v' := .int .i64 ((m2 + 3 + m1 : Nat) : Int)) (by congr 1)) ?_
              refine f_ ((s_slice_str rfl rfl rfl (by omega)).eq (v' := B (cutS s (m2 + 3) (m2 + 3 + m1))) (by simp only [Int.toNat_natCast]; rw [cut_take (by omega)])) ?_
              refine f_ z_1 ?_
              (refine gl_store_blkC (pre := [_, _, _]) (post := [_, _]) rfl rfl z_5 z_8 z_8 z_8 ?_)
              repeat refine x_ ?_
              refine r_ ((s_load_blkW rfl z_3 z_8).eq (v' := vmA ⟨⟨k, 0, [], cutS s (m2 + 3) (m2 + 3 + m1), q.1.1, q.1.2⟩, none, 0⟩) rfl) ?_
              refine m_ ?_
              refine m_ ?_
              refine f_ ((s_conv_keep_i64 rfl (by omega))) ?_
              refine f_ ((s_add_i64 rfl rfl (by omega)).eq (v' := .int .i64 ((m2 + 3 + m1 : Nat) : Int)) (by congr 1)) ?_
              (refine gl_store_blkW rfl rfl z_5 z_8 z_8 z_2 ?_)
              refine a_ ?_
              repeat refine n_ ?_
              refine g_ret ?_
              exact at_endB1 rfl rfl rfl z_3 rfl _ ⟨⟨⟨k, 0, [], cutS s (m2 + 3) (m2 + 3 + m1), q.1.1, q.1.2⟩, none, 0⟩, rfl, rfl, rfl⟩ (fun w hw => hw.dropAll.addNil 9 1)
end Go.Proofs.YtgllpcggdcknaaaGreatDoor.Rp
