import Derived.Test.YtodcghipfolejaaGreatJx5
set_option linter.unusedVariables false
set_option linter.unusedSimpArgs false
namespace Go.Proofs.YtodcghipfolejaaGreat
open Go Go.Sl
theorem ent_in {g : LM} {i : Int} (h : hasE g i = true) : entAt g i = g.l.getD (i - g.base - 1).toNat E0 := by rw [entAt, if_pos h]
theorem same_iff {g : LM} {prev : Int} {l : List Ent} {k : Nat} (hb : g.base ≤ prev) : same g prev l k = (hasE g (prev + 1 + (k : Int)) && decide ((entAt g (prev + 1 + (k : Int))).1 = (l.getD k E0).1)) := by
 have h1 : hasL g (prev + 1 + (k : Int)) = hasE g (prev + 1 + (k : Int)) := by
  rw [hasL_eq, decide_eq_false (by omega)]; rfl
 rw [same, h1]
 cases h2 : hasE g (prev + 1 + (k : Int))
 ·rfl
 ·have : termV g (prev + 1 + (k : Int)) = (entAt g (prev + 1 + (k : Int))).1 := by
   rw [termV, h1, h2, if_pos rfl, if_neg (by omega), ent_in h2]
  rw [this]
theorem beh_start {g : LM} {prev : Int} {l : List Ent} (hh : hasL g prev = true) : BehI g prev l 0 0 (g.l.take (prev - g.base).toNat) := by
 simp only [hasL, Bool.and_eq_true, decide_eq_true_eq] at hh
 exact ⟨fun _ => ⟨fun j hj => absurd hj (by omega), rfl, by omega⟩, fun h => absurd rfl h⟩
theorem beh_same {g : LM} {prev : Int} {l : List Ent} {k : Nat} {out : List Ent} (h : BehI g prev l k 0 out) (hb : g.base ≤ prev) (hs : same g prev l k = true) : BehI g prev l (k + 1) 0 (out ++ [entAt g (prev + 1 + (k : Int))]) := by
 obtain ⟨h1, h2, h3⟩ := h.zero rfl
 have hE : hasE g (prev + 1 + (k : Int)) = true := by rw [same_iff hb, Bool.and_eq_true] at hs; exact hs.1
 have e := ent_in hE
 simp only [hasE, Bool.and_eq_true, decide_eq_true_eq] at hE
 have ei : (prev + 1 + (k : Int) - g.base - 1).toNat = (prev - g.base).toNat + k := by omega
 rw [ei] at e
 refine ⟨fun _ => ⟨fun j hj => ?_, ?_, by omega⟩, fun h => absurd rfl h⟩
 ·rcases Nat.lt_succ_iff_lt_or_eq.1 hj with h4 | rfl
  ·exact h1 j h4
  ·exact hs
 ·have hlt : (prev - g.base).toNat + k < g.l.length := by omega
  rw [h2, e, ← Nat.add_assoc, List.take_succ_eq_append_getElem hlt]
  simp [hlt]
theorem drop_ent {l : List Ent} {k : Nat} (h : k < l.length) : l.drop k = l.getD k E0 :: l.drop (k + 1) := by
 rw [List.drop_eq_getElem_cons h]; simp [h]
theorem beh_diff {g : LM} {prev : Int} {l : List Ent} {k : Nat} {out : List Ent} (h : BehI g prev l k 0 out) (h0 : 0 ≤ prev) (hk : k < l.length) (hs : same g prev l k = false) : BehI g prev l (k + 1) (prev + 1 + (k : Int)) (out ++ [l.getD k E0]) := by
 obtain ⟨h1, h2, h3⟩ := h.zero rfl
 refine ⟨fun h => by omega, fun _ => ⟨k, by omega, rfl, firstD_at hk h1 hs, ?_⟩⟩
 rw [h2]
 congr 1
 have e : k + 1 - k = 1 := by omega
 rw [e, drop_ent hk]
 rfl
theorem beh_more {g : LM} {prev at_ : Int} {l : List Ent} {k : Nat} {out : List Ent} (h : BehI g prev l k at_ out) (ha : at_ ≠ 0) (hk : k < l.length) : BehI g prev l (k + 1) at_ (out ++ [l.getD k E0]) := by
 obtain ⟨k0, h1, h2, h3, h4⟩ := h.some ha
 refine ⟨fun h => absurd h ha, fun _ => ⟨k0, by omega, h2, h3, ?_⟩⟩
 rw [h4, List.append_assoc]
 congr 1
 have e : k + 1 - k0 = (k - k0) + 1 := by omega
 have hlt : k - k0 < (l.drop k0).length := by rw [List.length_drop]; omega
 rw [e, List.take_succ_eq_append_getElem hlt]
 congr 2
 have e2 : k0 + (k - k0) = k := by omega
 simp [List.getElem_drop, e2, hk]
theorem beh_len {g : LM} {prev at_ : Int} {l : List Ent} {k : Nat} {out : List Ent} (h : BehI g prev l k at_ out) (hk : k ≤ l.length) : out.length ≤ g.l.length + l.length := by
 by_cases ha : at_ = 0
 ·obtain ⟨h1, h2, h3⟩ := h.zero ha
  rw [h2, List.length_take]; omega
 ·obtain ⟨k0, h1, h2, h3, h4⟩ := h.some ha
  rw [h4, List.length_append, List.length_take, List.length_take, List.length_drop]; omega
theorem beh_end {g : LM} {prev term at_ : Int} {l : List Ent} {out : List Ent} (h : BehI g prev l l.length at_ out) (hok : (hasL g prev && decide (termV g prev = term)) = true) : mrgB g prev term l = if at_ = 0 then ⟨g.l, 0, true⟩ else ⟨out, at_, true⟩ := by
 rw [mrgB, if_neg (by rw [hok]; simp)]
 by_cases ha : at_ = 0
 ·obtain ⟨h1, h2, h3⟩ := h.zero ha
  rw [if_pos (firstD_end h1), if_pos ha]
 ·obtain ⟨k0, h1, h2, h3, h4⟩ := h.some ha
  rw [if_neg (by omega), if_neg ha, h3, h2, h4]
  congr 2
  exact (List.take_of_length_le (by rw [List.length_drop]; omega)).symm
abbrev blkG (b : Nat) (base bt : Int) (ca : Option Addr) (cn cc : Nat) (la : Option Addr) (ln lc : Nat) : As := .blk b (.cells #[.int .u64 base, .int .u64 bt, .slice ca cn cc, .slice la ln lc] 46)
set_option maxRecDepth 4000 in
set_option maxHeartbeats 4000000 in
theorem behind_ct (g : LM) (prev term : Int) (l : List Ent) (lb : Option Addr) (ld : Nat) (hf : g.fit) (hb : g.base ≤ prev) (hp : prev ≤ 18446744073709551615) (hl : l.length ≤ 1000000) : Ct Tryz.prog 129 [g.v, .int .u64 prev, .int .u64 term, .slice lb l.length ld] (fun h => RdS h g.la (enV g.l) ∧ RdS h lb (enV l)) [] (RefP g (mrgB g prev term l)) := by
 have h1 := hf.lo
 have h2 := hf.hi
 have h3 := hf.len
 refine ct_enter 114 Tryz.func129 rfl rfl rfl ?_
 intro F hr
 obtain ⟨hrd, hrl⟩ := hr
 repeat refine x_ ?_
 refine gl_boxA rfl rfl ?_; intro g4
 refine gl_allocA rfl ?_; intro g8
 refine a_ ?_
 refine a_ ?_
 repeat refine x_ ?_
 refine r_ z_14 ?_
 refine m_ ?_
 refine gl_callp rfl (rTerm_ct g prev hf (by omega)) (fun h hh _ => hrd.le hh) rfl ?_
 refine m_ ?_
 refine f_ (s_extract rfl rfl) ?_
 refine f_ (s_extract rfl rfl) ?_
 refine a_ ?_
 refine a_ ?_
 repeat refine n_ ?_
 obtain ⟨q1, hq1⟩ : ∃ q, q = hasL g prev := ⟨_, rfl⟩
 obtain ⟨q2, hq2⟩ : ∃ q, q = decide (termV g prev = term) := ⟨_, rfl⟩
 rw [← hq1]
 refine g_cutK [(1, .int .u64 prev), (3, .slice lb l.length ld), (4, Ptr g4), (8, Ptr g8), (34, .bool (!(q1 && q2)))] [blkG g8 0 0 none 0 0 none 0 0, blkG g4 g.base g.bt g.ca g.conf.length g.cc g.la g.l.length g.lc] ?_ ?_
 ·cases q1
  all_goals (
   repeat refine x_ ?_
   refine m_ ?_
   refine f_ (s_not rfl) ?_
   refine m_ ?_
   (first | refine gl_guard_no rfl rfl rfl rfl rfl rfl rfl ?_ | (refine v_ ?_; refine m_ ?_))
   (first | refine gl_guard_no rfl rfl rfl rfl rfl rfl rfl ?_ | (refine v_ ?_; refine m_ ?_))
   (first | refine gl_guard_no rfl rfl rfl rfl rfl rfl rfl ?_ | (refine v_ ?_; refine f_ ((s_neq rfl rfl).eq (congrArg (fun q => Value.bool (!q)) hq2.symm)) ?_))
   refine f_ z_6 ?_
   refine gl_nil ?_
   repeat refine y_ ?_)
  all_goals exact at_cut j_ i_
 ·repeat refine y_ ?_
  refine g_cond rfl (fun h => ?_) (fun h => ?_)
  ·have e : mrgB g prev term l = ⟨g.l, 0, false⟩ := by rw [mrgB, if_pos (by rw [← hq1, ← hq2]; cases q1 <;> cases q2 <;> first | rfl | cases h)]
   rw [e]
   repeat refine x_ ?_
   refine r_ z_14 ?_
   (refine gl_store_blkW rfl rfl z_5 z_7 z_7 z_3 ?_)
   refine a_ ?_
   refine a_ ?_
   repeat refine n_ ?_
   refine g_ret ?_
   exact at_endB2 rfl rfl rfl rfl .del rfl [] (.inl ⟨rfl, rfl, rfl⟩) (fun _ h => h.dropAll)
  ·have hok : (hasL g prev && decide (termV g prev = term)) = true := by rw [← hq1, ← hq2]; cases q1 <;> cases q2 <;> first | rfl | cases h
   have hhp : hasL g prev = true := by rw [Bool.and_eq_true] at hok; exact hok.1
   have hhp2 := hhp
   simp only [hasL, Bool.and_eq_true, decide_eq_true_eq] at hhp2
   clear hq1 hq2 h
   repeat refine x_ ?_
   refine r_ z_14 ?_
   refine gl_allocA rfl ?_; intro g13
   (refine gl_store_blkW rfl rfl z_5 z_7 z_7 z_3 ?_)
   repeat refine x_ ?_
   refine f_ z_1 ?_
   (refine gl_store_blkC (pre := [_, _, _]) (post := []) rfl rfl z_5 z_7 z_7 z_7 ?_)
   repeat refine x_ ?_
   refine a_ ?_
   repeat refine x_ ?_
   refine f_ z_1 ?_
   refine r_ z_10 ?_
   refine f_ (s_add_u64 rfl rfl (by omega)) ?_
   refine a_ ?_
   repeat refine n_ ?_
   refine g_own_nil 51 3 ?_
   refine g_loop (ι := Nat × Option Addr × Nat × Int) (fun i => i.1 ≤ (prev - g.base).toNat ∧ i.2.2.2 = g.base + 1 + (i.1 : Nat)) (fun i => [(1, .int .u64 prev), (3, .slice lb l.length ld), (4, Ptr g4), (8, Ptr g8), (13, Ptr g13), (14, .int .u64 0), (15, .int .u64 i.2.2.2)]) (fun i => [.own (.slice i.2.1 i.1 i.2.2.1) 51 3 (enV (g.l.take i.1)), blkG g13 g.base g.bt g.ca g.conf.length g.cc i.2.1 i.1 i.2.2.1, blkG g8 0 0 none 0 0 none 0 0, blkG g4 g.base g.bt g.ca g.conf.length g.cc g.la g.l.length g.lc]) (fun i => (prev - g.base).toNat - i.1) (0, none, 0, g.base + 1) (by simp) ?_ ?_ ?_
   ·(repeat (first | exact Sub.nil _ | refine Sub.cons rfl ?_))
   ·intro w hw; exact hw
   ·rintro ⟨j, a, c, iz⟩ ⟨hj, hiz⟩
    simp only at hj hiz
    subst hiz
    have hjj : (j, a, c, g.base + 1 + (j : Int)).fst ≤ 1000000 := by show j ≤ _; omega
    repeat refine x_ ?_
    refine m_ ?_
    refine m_ ?_
    refine f_ (s_leq rfl rfl) ?_
    repeat refine n_ ?_
    refine g_cond rfl (fun h => ?_) (fun h => ?_)
    ·have hj' : j < (prev - g.base).toNat := by have : g.base + 1 + (j : Int) ≤ prev := of_decide_eq_true h; omega
     have hE : hasE g (g.base + 1 + (j : Int)) = true := by simp only [hasE, Bool.and_eq_true, decide_eq_true_eq]; omega
     obtain ⟨e, he⟩ : ∃ e, e = entAt g (g.base + 1 + (j : Int)) := ⟨_, rfl⟩
     have hge : e = g.l.getD j E0 := by rw [he, ent_in hE]; congr 1; omega
     have ee := take_succ_ent (l := g.l) (k := j) (by omega)
     rw [← hge] at ee
     repeat refine x_ ?_
     refine r_ z_14 ?_
     refine m_ ?_
     refine gl_call _ rfl (Entry_ct g _ hf (by show 0 ≤ g.base + 1 + (j : Int) ∧ g.base + 1 + (j : Int) ≤ _; omega)) i_ (fun h hh _ => hrd.le hh) rfl ?_; rintro v A ⟨rfl, rfl⟩
     refine m_ ?_
     refine f_ (s_extract rfl rfl) ?_
     refine f_ (s_extract rfl rfl) ?_
     refine gl_allocA rfl ?_; intro g16
     (refine gl_store_blkW rfl rfl z_5 z_7 z_7 z_3 ?_)
     refine a_ ?_
     repeat refine n_ ?_
     have hee : entAt g (j, a, c, g.base + 1 + (j : Int)).2.2.2 = e := he.symm
     rw [hee]
     repeat refine x_ ?_
     refine f_ z_1 ?_
     refine r_ z_10 ?_
     refine r_ z_14 ?_
     refine gl_buildSliceU rfl rfl rfl rfl rfl rfl (xs := enV [e]) rfl rfl ?_; intro a55 ha55
     refine gl_append rfl rfl (fun a' c' => .there (.there .here)) (fun w hw => (hw.ownN .del).2.2.1) rfl rfl rfl (enV_one _) (by show (_ + 1) * 32 ≤ _; omega) (by omega) rfl ?_; intro a56 c56 hc56
     refine f_ z_1 ?_
     (refine gl_store_blkC (pre := [_, _, _]) (post := []) rfl rfl z_5 z_7 z_7 z_7 ?_)
     repeat refine x_ ?_
     refine m_ ?_
     refine f_ (s_add_u64 rfl rfl (by show 0 ≤ g.base + 1 + (j : Int) + 1 ∧ g.base + 1 + (j : Int) + 1 ≤ _; omega)) ?_
     refine a_ ?_
     repeat refine n_ ?_
     refine at_next (j + 1, a56, c56, g.base + 1 + (j : Int) + 1) (by simp only; omega) (by simp only; omega) ?_ ?_
     ·(repeat (first | exact Sub.nil _ | refine Sub.cons rfl ?_))
     ·intro w hw
      simp only
      rw [ee]
      exact hw.drop.drop
    ·have hjp : j = (prev - g.base).toNat := by have : ¬ g.base + 1 + (j : Int) ≤ prev := of_decide_eq_false h; omega
     have hI0 := beh_start (l := l) hhp
     rw [← hjp] at hI0
     have hlj : (g.l.take j).length = j := by rw [List.length_take]; omega
     repeat refine x_ ?_
     refine a_ ?_
     repeat refine n_ ?_
     refine g_loop (ι := Nat × Int × List Ent × Option Addr × Nat) (fun i => i.1 ≤ l.length ∧ 0 ≤ i.2.1 ∧ BehI g prev l i.1 i.2.1 i.2.2.1) (fun i => [(1, .int .u64 prev), (3, .slice lb l.length ld), (4, Ptr g4), (8, Ptr g8), (13, Ptr g13), (14, .int .u64 i.2.1), (18, .int .i64 (i.1 : Nat))]) (fun i => [.own (.slice i.2.2.2.1 i.2.2.1.length i.2.2.2.2) 51 3 (enV i.2.2.1), blkG g13 g.base g.bt g.ca g.conf.length g.cc i.2.2.2.1 i.2.2.1.length i.2.2.2.2, blkG g8 0 0 none 0 0 none 0 0, blkG g4 g.base g.bt g.ca g.conf.length g.cc g.la g.l.length g.lc]) (fun i => l.length - i.1) (0, 0, g.l.take j, a, c) ⟨by simp, by simp, hI0⟩ ?_ ?_ ?_
     ·(repeat (first | exact Sub.nil _ | refine Sub.cons rfl ?_))
     ·intro w hw
      simp only
      rw [hlj]
      exact hw
     ·rintro ⟨k, at_, out, a, c⟩ ⟨hk, hat, hI⟩
      simp only at hk hat hI
      have hol := beh_len hI hk
      have holl : (k, at_, out, a, c).2.2.1.length ≤ 2000000 := by show out.length ≤ _; omega
      repeat refine x_ ?_
      refine m_ ?_
      refine m_ ?_
      refine f_ (s_len_sl rfl) ?_
      refine f_ (s_lss rfl rfl) ?_
      repeat refine n_ ?_
      refine g_cond rfl (fun h => ?_) (fun h => ?_)
      ·have hk' : k < l.length := by simp at h; omega
       have hsome := rdE_some hrl hk'
       obtain ⟨e, he⟩ : ∃ e, e = entAt g (prev + 1 + (k : Int)) := ⟨_, rfl⟩
       obtain ⟨q, hq⟩ : ∃ q, q = hasE g (prev + 1 + (k : Int)) := ⟨_, rfl⟩
       obtain ⟨q3, hq3⟩ : ∃ q, q = decide (e.1 = (l.getD k E0).1) := ⟨_, rfl⟩
       have hsm : same g prev l k = (q && q3) := by rw [same_iff hb, hq3, he, hq]
       repeat refine x_ ?_
       refine m_ ?_
       refine f_ (s_add_u64 rfl rfl (by omega)) ?_
       refine m_ ?_
       refine f_ (s_conv_keep_u64 rfl (by omega)) ?_
       refine f_ (s_add_u64 rfl rfl (by omega)) ?_
       refine a_ ?_
       repeat refine x_ ?_
       refine r_ z_14 ?_
       refine m_ ?_
       refine gl_call _ rfl (Entry_ct g _ hf (by omega)) i_ (fun h hh _ => hrd.le hh) rfl ?_; rintro v A ⟨rfl, rfl⟩
       refine m_ ?_
       refine f_ (s_extract rfl rfl) ?_
       refine f_ (s_extract rfl rfl) ?_
       refine gl_allocA rfl ?_; intro g20
       (refine gl_store_blkW rfl rfl z_5 z_7 z_7 z_3 ?_)
       refine a_ ?_
       repeat refine n_ ?_
       rw [← he, ← hq]
       by_cases ha : at_ = 0
       ·subst ha
        cases hss : same g prev l k
        ·-- it parts here
         rw [hss] at hsm
         have hI2 := beh_diff hI (by omega) hk' hss
         have el : (out ++ [l.getD k E0]).length = out.length + 1 := by simp
         refine g_cutK [(1, .int .u64 prev), (3, .slice lb l.length ld), (4, Ptr g4), (8, Ptr g8), (13, Ptr g13), (14, .int .u64 0), (18, .int .i64 (k : Nat)), (19, .int .u64 (prev + 1 + (k : Int))), (90, .bool true)] [.own (.slice a out.length c) 51 3 (enV out), blkG g13 g.base g.bt g.ca g.conf.length g.cc a out.length c, blkG g8 0 0 none 0 0 none 0 0, blkG g4 g.base g.bt g.ca g.conf.length g.cc g.la g.l.length g.lc] ?_ ?_
         ·cases q
          ·repeat refine y_ ?_
           refine g_draw0 ([7, 12], [0, 1, 3, 7, 15, 31, 63, 127, 63, 63, 831, 1855, 3903, 8191, 16383, 32767], []) 16 rfl ?_
           refine w_ 0 rfl (s_move rfl) ?_
           refine w_ 1 rfl ((s_eql rfl rfl).eq (v' := .bool true) rfl) ?_
           refine w_ 2 rfl (s_move rfl) ?_
           (refine ga_free_g 3 rfl (s_move rfl) rfl rfl rfl rfl rfl rfl z_4 ?_)
           (refine ga_free_g 4 rfl (s_not rfl) rfl rfl rfl rfl rfl rfl z_4 ?_)
           (refine ga_free_g 5 rfl (s_move rfl) rfl rfl rfl rfl rfl rfl z_4 ?_)
           (refine s_ 6 ?_)
           (refine s_ 7 ?_)
           (refine s_ 8 ?_)
           (refine s_ 9 ?_)
           (refine s_ 10 ?_)
           (refine s_ 11 ?_)
           (refine s_ 12 ?_)
           (refine s_ 13 ?_)
           (refine ga_free_g 14 rfl z_13 rfl rfl rfl rfl rfl rfl z_4 ?_)
           refine w_ 15 rfl z_13 ?_
           refine ga_done z_4 ?_
           repeat refine y_ ?_
           exact at_cut j_ (fun w hw => hw.drop)
          ·have hq3f : q3 = false := by cases q3 <;> first | rfl | cases hsm
           repeat refine y_ ?_
           refine g_draw0 ([7, 12], [0, 1, 3, 7, 15, 31, 63, 127, 63, 63, 831, 1855, 3903, 8191, 16383, 32767], []) 16 rfl ?_
           refine w_ 0 rfl (s_move rfl) ?_
           refine w_ 1 rfl ((s_eql rfl rfl).eq (v' := .bool true) rfl) ?_
           refine w_ 2 rfl (s_move rfl) ?_
           (refine ga_free_g 3 rfl (s_move rfl) rfl rfl rfl rfl rfl rfl z_4 ?_)
           (refine ga_free_g 4 rfl (s_not rfl) rfl rfl rfl rfl rfl rfl z_4 ?_)
           (refine ga_free_g 5 rfl (s_move rfl) rfl rfl rfl rfl rfl rfl z_4 ?_)
           (refine ga_free_g 6 rfl z_1 rfl rfl rfl rfl rfl rfl z_4 ?_)
           (refine ga_read_g 7 rfl z_2 (s_load_blk rfl .del z_7) rfl rfl rfl rfl rfl rfl z_4 ?_)
           (refine ga_free_g 8 rfl (s_move rfl) rfl rfl rfl rfl rfl rfl z_4 ?_)
           (refine ga_free_g 9 rfl (s_move rfl) rfl rfl rfl rfl rfl rfl z_4 ?_)
           (refine ga_free_g 10 rfl (s_indexAddr rfl (by assumption) rfl (by omega)) rfl rfl rfl rfl rfl rfl z_4 ?_)
           (refine ga_free_g 11 rfl z_8 rfl rfl rfl rfl rfl rfl z_4 ?_)
           (refine ga_readF_g 12 rfl (s_load1 rfl (fun w hw => rdE0 hw hrl (i := k) (by omega) hk')) z_15 rfl rfl rfl rfl rfl rfl z_4 ?_)
           (refine ga_free_g 13 rfl ((s_neq rfl rfl).eq (v' := .bool true) (by rw [← hq3, hq3f]; rfl)) rfl rfl rfl rfl rfl rfl z_4 ?_)
           (refine ga_free_g 14 rfl z_12 rfl rfl rfl rfl rfl rfl z_4 ?_)
           refine w_ 15 rfl z_13 ?_
           refine ga_done z_4 ?_
           repeat refine y_ ?_
           exact at_cut j_ (fun w hw => hw.drop)
         ·repeat refine y_ ?_
          repeat refine x_ ?_
          refine m_ ?_
          refine a_ ?_
          repeat refine x_ ?_
          refine m_ ?_
          refine f_ ((s_eql rfl rfl).eq (v' := .bool false) (congrArg Value.bool (decide_eq_false (by omega)))) ?_
          repeat refine n_ ?_
          refine g_draw ([1, 5], [0, 1, 0, 0, 12, 28, 60, 127, 255, 511], [6, 7, 9]) [blkG g13 g.base g.bt g.ca g.conf.length g.cc a out.length c] 10 rfl ?_
          refine w_ 0 rfl z_1 ?_
          (refine ga_read_k 1 rfl z_11 (s_load_blk rfl .del z_7) k_ rfl rfl rfl z_4 ?_)
          refine w_ 2 rfl (s_move rfl) ?_
          refine w_ 3 rfl (s_move rfl) ?_
          refine w_ 4 rfl (s_indexAddr rfl (by assumption) rfl (by omega)) ?_
          refine ga_readF 5 rfl (s_loadN rfl (fun w hw => rdE hw hrl (i := k) (by omega) hk') rfl) k_ rfl rfl rfl z_4 ?_
          refine ga_one 6 rfl z_4 ?_
          refine gl_buildSliceU rfl rfl rfl rfl rfl rfl (xs := enV [l.getD k E0]) rfl rfl ?_; intro a106 ha106
          refine gl_nil ?_
          refine at_ga (.inr (by exact keeps_of k_)) ?_
          refine ga_one 7 rfl z_4 ?_
          refine gl_append rfl rfl (fun a' c' => .there .here) (fun w hw => (hw.ownN .del).2.2.1) rfl rfl rfl (enV_one _) (by show (_ + 1) * 32 ≤ _; omega) (by omega) rfl ?_; intro a107 c107 hc107
          refine gl_nil ?_
          refine at_ga (.inl z_4) ?_
          refine w_ 8 rfl z_1 ?_
          refine ga_one 9 rfl z_4 ?_
          (refine gl_store_blkC (pre := [_, _, _]) (post := []) rfl rfl z_5 z_7 z_7 z_7 ?_)
          refine gl_nil ?_
          refine at_ga (.inl z_4) ?_
          refine ga_done z_4 ?_
          repeat refine x_ ?_
          refine m_ ?_
          refine f_ (s_add_i64 rfl rfl (by omega)) ?_
          refine a_ ?_
          repeat refine n_ ?_
          refine at_next (k + 1, prev + 1 + (k : Int), out ++ [l.getD k E0], a107, c107) ⟨by simp only; omega, by simp only; omega, hI2⟩ (by simp only; omega) ?_ ?_
          ·(repeat (first | exact Sub.nil _ | refine Sub.cons rfl ?_))
          ·intro w hw
           simp only
           rw [el, enV_append]
           exact hw.drop
        ·-- alike
         rw [hss] at hsm
         have hqt : q = true ∧ q3 = true := by cases q <;> cases q3 <;> first | exact ⟨rfl, rfl⟩ | cases hsm
         have hI2 := beh_same hI hb hss
         rw [← he] at hI2
         have el : (out ++ [e]).length = out.length + 1 := by simp
         obtain ⟨rfl, hq3t⟩ := hqt
         repeat refine y_ ?_
         refine g_draw0 ([7, 12], [0, 1, 3, 7, 15, 31, 63, 127, 63, 63, 831, 1855, 3903, 8191, 16383, 32767], []) 16 rfl ?_
         refine w_ 0 rfl (s_move rfl) ?_
         refine w_ 1 rfl ((s_eql rfl rfl).eq (v' := .bool true) rfl) ?_
         refine w_ 2 rfl (s_move rfl) ?_
         (refine ga_free_g 3 rfl (s_move rfl) rfl rfl rfl rfl rfl rfl z_4 ?_)
         (refine ga_free_g 4 rfl (s_not rfl) rfl rfl rfl rfl rfl rfl z_4 ?_)
         (refine ga_free_g 5 rfl (s_move rfl) rfl rfl rfl rfl rfl rfl z_4 ?_)
         (refine ga_free_g 6 rfl z_1 rfl rfl rfl rfl rfl rfl z_4 ?_)
         (refine ga_read_g 7 rfl z_2 (s_load_blk rfl .del z_7) rfl rfl rfl rfl rfl rfl z_4 ?_)
         (refine ga_free_g 8 rfl (s_move rfl) rfl rfl rfl rfl rfl rfl z_4 ?_)
         (refine ga_free_g 9 rfl (s_move rfl) rfl rfl rfl rfl rfl rfl z_4 ?_)
         (refine ga_free_g 10 rfl (s_indexAddr rfl (by assumption) rfl (by omega)) rfl rfl rfl rfl rfl rfl z_4 ?_)
         (refine ga_free_g 11 rfl z_8 rfl rfl rfl rfl rfl rfl z_4 ?_)
         (refine ga_readF_g 12 rfl (s_load1 rfl (fun w hw => rdE0 hw hrl (i := k) (by omega) hk')) z_15 rfl rfl rfl rfl rfl rfl z_4 ?_)
         (refine ga_free_g 13 rfl ((s_neq rfl rfl).eq (v' := .bool false) (by rw [← hq3, hq3t]; rfl)) rfl rfl rfl rfl rfl rfl z_4 ?_)
         (refine ga_free_g 14 rfl z_12 rfl rfl rfl rfl rfl rfl z_4 ?_)
         refine w_ 15 rfl z_13 ?_
         refine ga_done z_4 ?_
         repeat refine x_ ?_
         refine m_ ?_
         refine f_ (s_eql rfl rfl) ?_
         repeat refine x_ ?_
         refine f_ z_1 ?_
         refine r_ z_10 ?_
         refine r_ z_14 ?_
         refine gl_buildSliceU rfl rfl rfl rfl rfl rfl (xs := enV [e]) rfl rfl ?_; intro a97 ha97
         refine gl_append rfl rfl (fun a' c' => .there (.there .here)) (fun w hw => (hw.ownN .del).2.2.1) rfl rfl rfl (enV_one _) (by show (_ + 1) * 32 ≤ _; omega) (by omega) rfl ?_; intro a98 c98 hc98
         refine f_ z_1 ?_
         (refine gl_store_blkC (pre := [_, _, _]) (post := []) rfl rfl z_5 z_7 z_7 z_7 ?_)
         repeat refine x_ ?_
         refine m_ ?_
         refine f_ (s_add_i64 rfl rfl (by omega)) ?_
         refine a_ ?_
         repeat refine n_ ?_
         refine at_next (k + 1, 0, out ++ [e], a98, c98) ⟨by simp only; omega, by simp only; omega, hI2⟩ (by simp only; omega) ?_ ?_
         ·(repeat (first | exact Sub.nil _ | refine Sub.cons rfl ?_))
         ·intro w hw
          simp only
          rw [el, enV_append]
          exact hw.drop.drop
       ·have hI2 := beh_more hI ha hk'
        have el : (out ++ [l.getD k E0]).length = out.length + 1 := by simp
        repeat refine y_ ?_
        refine g_draw0 ([7, 12], [0, 1, 3, 7, 15, 31, 63, 127, 63, 63, 831, 1855, 3903, 8191, 16383, 32767], []) 16 rfl ?_
        refine w_ 0 rfl (s_move rfl) ?_
        refine w_ 1 rfl ((s_eql rfl rfl).eq (v' := .bool false) (congrArg Value.bool (decide_eq_false ha))) ?_
        refine w_ 2 rfl (s_move rfl) ?_
        (refine s_ 3 ?_)
        (refine s_ 4 ?_)
        (refine s_ 5 ?_)
        (refine t_ 6 ?_)
        (refine t_ 7 ?_)
        (refine t_ 8 ?_)
        (refine t_ 9 ?_)
        (refine t_ 10 ?_)
        (refine t_ 11 ?_)
        (refine t_ 12 ?_)
        (refine t_ 13 ?_)
        (refine s_ 14 ?_)
        refine w_ 15 rfl z_12 ?_
        refine ga_done z_4 ?_
        repeat refine x_ ?_
        refine m_ ?_
        refine f_ ((s_eql rfl rfl).eq (v' := .bool false) (congrArg Value.bool (decide_eq_false ha))) ?_
        repeat refine n_ ?_
        refine g_draw ([1, 5], [0, 1, 0, 0, 12, 28, 60, 127, 255, 511], [6, 7, 9]) [blkG g13 g.base g.bt g.ca g.conf.length g.cc a out.length c] 10 rfl ?_
        refine w_ 0 rfl z_1 ?_
        (refine ga_read_k 1 rfl z_11 (s_load_blk rfl .del z_7) k_ rfl rfl rfl z_4 ?_)
        refine w_ 2 rfl (s_move rfl) ?_
        refine w_ 3 rfl (s_move rfl) ?_
        refine w_ 4 rfl (s_indexAddr rfl (by assumption) rfl (by omega)) ?_
        refine ga_readF 5 rfl (s_loadN rfl (fun w hw => rdE hw hrl (i := k) (by omega) hk') rfl) k_ rfl rfl rfl z_4 ?_
        refine ga_one 6 rfl z_4 ?_
        refine gl_buildSliceU rfl rfl rfl rfl rfl rfl (xs := enV [l.getD k E0]) rfl rfl ?_; intro a106 ha106
        refine gl_nil ?_
        refine at_ga (.inr (by exact keeps_of k_)) ?_
        refine ga_one 7 rfl z_4 ?_
        refine gl_append rfl rfl (fun a' c' => .there (.there .here)) (fun w hw => (hw.ownN .del).2.2.1) rfl rfl rfl (enV_one _) (by show (_ + 1) * 32 ≤ _; omega) (by omega) rfl ?_; intro a107 c107 hc107
        refine gl_nil ?_
        refine at_ga (.inl z_4) ?_
        refine w_ 8 rfl z_1 ?_
        refine ga_one 9 rfl z_4 ?_
        (refine gl_store_blkC (pre := [_, _, _]) (post := []) rfl rfl z_5 z_7 z_7 z_7 ?_)
        refine gl_nil ?_
        refine at_ga (.inl z_4) ?_
        refine ga_done z_4 ?_
        repeat refine x_ ?_
        refine m_ ?_
        refine f_ (s_add_i64 rfl rfl (by omega)) ?_
        refine a_ ?_
        repeat refine n_ ?_
        refine at_next (k + 1, at_, out ++ [l.getD k E0], a107, c107) ⟨by simp only; omega, by simp only; omega, hI2⟩ (by simp only; omega) ?_ ?_
        ·(repeat (first | exact Sub.nil _ | refine Sub.cons rfl ?_))
        ·intro w hw
         simp only
         rw [el, enV_append]
         exact hw.drop.drop
      ·have hkl : k = l.length := by simp at h; omega
       subst hkl
       rw [beh_end hI hok]
       by_cases ha : at_ = 0
       ·rw [if_pos ha]
        repeat refine x_ ?_
        refine m_ ?_
        refine f_ ((s_eql rfl rfl).eq (v' := .bool true) (congrArg Value.bool (decide_eq_true ha))) ?_
        repeat refine x_ ?_
        refine r_ z_14 ?_
        (refine gl_store_blkW rfl rfl z_5 z_7 z_7 z_3 ?_)
        refine a_ ?_
        refine a_ ?_
        repeat refine n_ ?_
        refine g_ret ?_
        exact at_endB2 rfl rfl rfl rfl z_2 rfl [] (.inl ⟨rfl, rfl, rfl⟩) (fun _ h => h.dropAll)
       ·rw [if_neg ha]
        repeat refine x_ ?_
        refine m_ ?_
        refine f_ ((s_eql rfl rfl).eq (v' := .bool false) (congrArg Value.bool (decide_eq_false ha))) ?_
        repeat refine x_ ?_
        refine r_ z_14 ?_
        refine m_ ?_
        (refine gl_store_blkW rfl rfl z_5 z_7 z_7 z_3 ?_)
        refine a_ ?_
        refine a_ ?_
        repeat refine n_ ?_
        refine g_ret ?_
        exact at_endB2 rfl rfl rfl rfl z_2 rfl [OwnL a out c] (.inr ⟨a, c, rfl, rfl⟩) (fun w hw => Hp.left (R := [_, _, _]) hw)
end Go.Proofs.YtodcghipfolejaaGreat
namespace Go.Proofs.YtodcghipfolejaaGreat
open Go Go.Sl
theorem cut_ents {h : Heap} {a : Option Addr} {l : List Ent} {c : Nat} (r : RdS h a (enV l)) (hc : l.length ≤ c) (k : Nat) (hk : k ≤ l.length) : RdS h (cutA a c k 3) (enV (l.drop k)) := by
 have hcut := (r.cut (sz := 3) (enV_length l) hc k l.length (by omega) (Nat.le_refl _))
 have hx : ((enV l).drop (k * 3)).take ((l.length - k) * 3) = enV (l.drop k) := by
  rw [List.take_of_length_le (by rw [List.length_drop, enV_length]; omega), enV_drop]
 rwa [hx] at hcut
set_option maxRecDepth 4000 in
set_option maxHeartbeats 2000000 in
theorem rMerge_ct (g : LM) (prev term : Int) (l : List Ent) (lb : Option Addr) (ld : Nat) (hf : g.fit) (hp : 0 ≤ prev ∧ prev ≤ 18446744073709551615) (hl : l.length ≤ 1000000) (hld : l.length ≤ ld) : Ct Tryz.prog 106 [g.v, .int .u64 prev, .int .u64 term, .slice lb l.length ld] (fun h => RdS h g.la (enV g.l) ∧ RdS h lb (enV l)) [] (RefP g (mrgL g prev term l)) := by
 have h1 := hf.lo
 have h2 := hf.hi
 have h3 := hf.len
 refine ct_enter 46 Tryz.func106 rfl rfl rfl ?_
 intro F hr
 obtain ⟨hrd, hrl⟩ := hr
 repeat refine x_ ?_
 refine gl_boxA rfl rfl ?_; intro g4
 refine gl_allocA rfl ?_; intro g8
 refine a_ ?_
 refine a_ ?_
 repeat refine x_ ?_
 refine m_ ?_
 refine f_ z_1 ?_
 refine r_ z_10 ?_
 refine f_ (s_geq rfl rfl) ?_
 repeat refine n_ ?_
 refine g_cond rfl (fun h => ?_) (fun h => ?_)
 ·have hb : g.base ≤ prev := of_decide_eq_true h
  rw [mrgL, if_neg (by omega)]
  repeat refine x_ ?_
  refine r_ z_14 ?_
  refine m_ ?_
  refine m_ ?_
  refine m_ ?_
  refine gl_call _ rfl (behind_ct g prev term l lb ld hf hb hp.2 hl) i_ (fun h hh _ => ⟨hrd.le hh, hrl.le hh⟩) rfl ?_; rintro v A (⟨e, rfl, rfl⟩ | ⟨la, lc, rfl, rfl⟩)
  all_goals (refine f_ (s_extract rfl rfl) ?_)
  all_goals (refine f_ (s_extract rfl rfl) ?_)
  all_goals (refine f_ (s_extract rfl rfl) ?_)
  all_goals ((refine gl_store_blkW rfl rfl z_5 z_7 z_7 z_3 ?_))
  all_goals (refine a_ ?_)
  all_goals (refine a_ ?_)
  all_goals (refine gl_nil ?_)
  all_goals (repeat refine y_ ?_)
  ·refine g_ret ?_
   exact at_endB2 rfl rfl rfl rfl z_2 rfl [] (.inl ⟨e, rfl, rfl⟩) (fun _ h => h.dropAll)
  ·refine g_ret ?_
   exact at_endB2 rfl rfl rfl rfl z_2 rfl [OwnL la (mrgB g prev term l).l lc] (.inr ⟨la, lc, rfl, rfl⟩) (fun w hw => Hp.left (R := [_, _]) hw)
 ·have hb : prev < g.base := by have := of_decide_eq_false h; omega
  rw [mrgL, if_pos hb]
  clear h
  repeat refine y_ ?_
  refine g_loop (ι := Nat × Int × Option Addr × Nat × List Ent) (fun i => i.2.1 = prev + (i.1 : Nat) ∧ i.2.1 ≤ g.base ∧ i.1 ≤ l.length ∧ i.2.2.2.2 = l.drop i.1 ∧ i.2.2.2.2.length ≤ i.2.2.2.1 ∧ RdS F.heap i.2.2.1 (enV i.2.2.2.2)) (fun i => [(1, .int .u64 i.2.1), (3, .slice i.2.2.1 i.2.2.2.2.length i.2.2.2.1), (4, Ptr g4), (8, Ptr g8)]) (fun i => [blkG g8 0 0 none 0 0 none 0 0, blkG g4 g.base g.bt g.ca g.conf.length g.cc g.la g.l.length g.lc]) (fun i => l.length - i.1) (0, prev, lb, ld, l) ⟨by simp, by simp only; omega, by simp, by simp, hld, hrl⟩ ?_ ?_ ?_
  ·(repeat (first | exact Sub.nil _ | refine Sub.cons rfl ?_))
  ·intro w hw; exact hw
  ·rintro ⟨k, pz, a, c, m⟩ ⟨hpz, hpb, hk, hm, hmc, hrm⟩
   simp only at hpz hpb hk hm hmc hrm
   have hml : m.length = l.length - k := by rw [hm, List.length_drop]
   obtain ⟨q1, hq1⟩ : ∃ q, q = decide (pz < g.base) := ⟨_, rfl⟩
   obtain ⟨q2, hq2⟩ : ∃ q, q = decide ((0 : Int) < (m.length : Nat)) := ⟨_, rfl⟩
   repeat refine y_ ?_
   refine g_cutK [(1, .int .u64 pz), (3, .slice a m.length c), (4, Ptr g4), (8, Ptr g8), (31, .bool (q1 && q2))] [blkG g8 0 0 none 0 0 none 0 0, blkG g4 g.base g.bt g.ca g.conf.length g.cc g.la g.l.length g.lc] ?_ ?_
   ·cases q1
    all_goals (
     repeat refine x_ ?_
     refine m_ ?_
     refine f_ z_1 ?_
     refine r_ z_10 ?_
     refine f_ ((s_lss rfl rfl).eb hq1) ?_
     refine m_ ?_
     (first | refine gl_guard_no rfl rfl rfl rfl rfl rfl rfl ?_ | (refine v_ ?_; refine m_ ?_))
     (first | refine gl_guard_no rfl rfl rfl rfl rfl rfl rfl ?_ | (refine v_ ?_; refine f_ (s_len_sl rfl) ?_))
     (first | refine gl_guard_no rfl rfl rfl rfl rfl rfl rfl ?_ | (refine v_ ?_; refine f_ ((s_gtr rfl rfl).eb hq2) ?_))
     refine f_ z_6 ?_
     refine gl_nil ?_
     repeat refine y_ ?_)
    all_goals exact at_cut j_ i_
   ·repeat refine y_ ?_
    refine g_cond rfl (fun h => ?_) (fun h => ?_)
    ·have hh : pz < g.base ∧ 0 < m.length := by
      rw [hq1, hq2, Bool.and_eq_true, decide_eq_true_eq, decide_eq_true_eq] at h; omega
     have hlen1 : (m.drop 1).length = m.length - 1 := by rw [List.length_drop]
     repeat refine x_ ?_
     refine m_ ?_
     refine f_ (s_add_u64 rfl rfl (by omega)) ?_
     refine a_ ?_
     repeat refine x_ ?_
     refine m_ ?_
     refine f_ ((s_slice_sl rfl rfl rfl (by omega)).eq (v' := .slice (cutA a c 1 3) (m.drop 1).length (c - 1)) (by rw [hlen1]; rfl)) ?_
     refine a_ ?_
     repeat refine n_ ?_
     refine at_next (k + 1, pz + 1, cutA a c 1 3, c - 1, m.drop 1) ⟨by simp only; omega, by simp only; omega, by simp only; omega, by simp only [hm, List.drop_drop], by simp only [hlen1]; omega, cut_ents hrm hmc 1 (by omega)⟩ (by simp only; omega) ?_ ?_
     ·(repeat (first | exact Sub.nil _ | refine Sub.cons rfl ?_))
     ·intro w hw; exact hw
    ·have hh : ¬ (pz < g.base ∧ 0 < m.length) := by
      rw [hq1, hq2, Bool.and_eq_false_iff, decide_eq_false_iff_not, decide_eq_false_iff_not] at h; omega
     have hmd : m = l.drop (g.base - prev).toNat := by
      by_cases h5 : pz < g.base
      ·have h6 : m.length = 0 := by omega
       rw [List.eq_nil_of_length_eq_zero h6, List.drop_of_length_le (by omega)]
      ·rw [hm]; congr 1; omega
     rw [← hmd]
     repeat refine x_ ?_
     refine r_ z_14 ?_
     refine f_ z_1 ?_
     refine r_ z_10 ?_
     refine f_ z_1 ?_
     refine r_ z_10 ?_
     refine m_ ?_
     refine gl_call _ rfl (behind_ct g g.base g.bt m a c hf (Int.le_refl _) (by omega) (by omega)) i_ (fun h hh _ => ⟨hrd.le hh, hrm.le hh⟩) rfl ?_; rintro v A (⟨e, rfl, rfl⟩ | ⟨la, lc, rfl, rfl⟩)
     all_goals (refine f_ (s_extract rfl rfl) ?_)
     all_goals (refine f_ (s_extract rfl rfl) ?_)
     all_goals (refine f_ (s_extract rfl rfl) ?_)
     all_goals ((refine gl_store_blkW rfl rfl z_5 z_7 z_7 z_3 ?_))
     all_goals (refine a_ ?_)
     all_goals (refine a_ ?_)
     all_goals (refine gl_nil ?_)
     all_goals (repeat refine y_ ?_)
     ·refine g_ret ?_
      exact at_endB2 rfl rfl rfl rfl z_2 rfl [] (.inl ⟨e, rfl, rfl⟩) (fun _ h => h.dropAll)
     ·refine g_ret ?_
      exact at_endB2 rfl rfl rfl rfl z_2 rfl [OwnL la (mrgB g g.base g.bt m).l lc] (.inr ⟨la, lc, rfl, rfl⟩) (fun w hw => Hp.left (R := [_, _]) hw)
def MrgP (g : LM) (r : Mrg) (v : Value) (A : List As) : Prop := ∃ ca cc la lc, v = .tuple #[LM.v ⟨g.base, g.bt, g.conf, r.l, ca, cc, la, lc⟩, .int .u64 r.at_, .bool r.ok] ∧ A = OwnG ⟨g.base, g.bt, g.conf, r.l, ca, cc, la, lc⟩
set_option maxRecDepth 4000 in
set_option maxHeartbeats 4000000 in
theorem Merge_ct (g : LM) (prev term : Int) (l : List Ent) (lb : Option Addr) (ld : Nat) (hf : g.fit) (hp : 0 ≤ prev ∧ prev ≤ 18446744073709551615) (hl : l.length ≤ 1000000) (hld : l.length ≤ ld) : Ct Tryz.prog 122 [g.v, .int .u64 prev, .int .u64 term, .slice lb l.length ld] (fun h => g.ok h ∧ RdS h lb (enV l)) [] (MrgP g (mrgL g prev term l)) := by
 have h1 := hf.lo
 have h2 := hf.hi
 have h3 := hf.len
 have h3c := hf.cl
 refine ct_enter 94 Tryz.func122 rfl rfl rfl ?_
 intro F hr
 obtain ⟨hrg, hrl⟩ := hr
 repeat refine x_ ?_
 refine gl_boxA rfl rfl ?_; intro g4
 refine gl_allocA rfl ?_; intro g8
 refine a_ ?_
 refine a_ ?_
 repeat refine x_ ?_
 refine r_ z_14 ?_
 refine gl_call _ rfl (clone_ct g (by omega) (by omega)) i_ (fun h hh _ => hrg.le hh) rfl ?_; rintro v A ⟨ca, cc, la, lc, rfl, rfl⟩
 (refine gl_store_blkW rfl rfl z_5 z_7 z_7 z_3 ?_)
 repeat refine n_ ?_
 obtain ⟨pz, hpz⟩ : ∃ x, x = if prev < g.base then g.base else prev := ⟨_, rfl⟩
 obtain ⟨tz, htz⟩ : ∃ x, x = if prev < g.base then g.bt else term := ⟨_, rfl⟩
 obtain ⟨k0, hk0⟩ : ∃ x : Nat, x = if prev < g.base then min l.length (g.base - prev).toNat else 0 := ⟨_, rfl⟩
 obtain ⟨b, hbz⟩ : ∃ x, x = if prev < g.base then cutA lb ld k0 3 else lb := ⟨_, rfl⟩
 obtain ⟨m, hm⟩ : ∃ x, x = l.drop k0 := ⟨_, rfl⟩
 have hml : m.length = l.length - k0 := by rw [hm, List.length_drop]
 have hk0l : k0 ≤ l.length := by rw [hk0]; split <;> omega
 have hmrg : mrgL g prev term l = mrgB g pz tz m := by
  rw [mrgL, hpz, htz, hm, hk0]
  split
  ·congr 1
   by_cases h5 : l.length ≤ (g.base - prev).toNat
   ·rw [Nat.min_eq_left h5, List.drop_length, List.drop_of_length_le h5]
   ·rw [Nat.min_eq_right (by omega)]
  ·rfl
 have hrm : RdS F.heap b (enV m) := by
  rw [hbz, hm]
  split
  ·exact cut_ents hrl hld k0 hk0l
  ·rename_i h5; rw [hk0, if_neg h5]; exact hrl
 have hpz2 : g.base ≤ pz ∧ pz ≤ 18446744073709551615 := by rw [hpz]; split <;> omega
 rw [hmrg]
 refine g_pull (H' := [OwnL la g.l lc, OwnC ca g.conf cc, blkG g8 0 0 none 0 0 none 0 0, blkG g4 g.base g.bt ca g.conf.length cc la g.l.length lc]) i_ ?_
 repeat refine x_ ?_
 refine m_ ?_
 refine f_ z_1 ?_
 refine r_ z_10 ?_
 refine f_ (s_lss rfl rfl) ?_
 repeat refine n_ ?_
 refine g_cutK [(1, .int .u64 pz), (2, .int .u64 tz), (3, .slice b m.length (ld - k0)), (4, Ptr g4), (8, Ptr g8)] [OwnL la g.l lc, OwnC ca g.conf cc, blkG g8 0 0 none 0 0 none 0 0, blkG g4 g.base g.bt ca g.conf.length cc la g.l.length lc] ?_ ?_
 ·refine g_cond rfl (fun h => ?_) (fun h => ?_)
  ·have hlt : prev < g.base := of_decide_eq_true h
   have e1 : pz = g.base := by rw [hpz, if_pos hlt]
   have e2 : tz = g.bt := by rw [htz, if_pos hlt]
   have e3 : k0 = min l.length (g.base - prev).toNat := by rw [hk0, if_pos hlt]
   have e4 : b = cutA lb ld k0 3 := by rw [hbz, if_pos hlt]
   repeat refine x_ ?_
   refine m_ ?_
   refine m_ ?_
   refine f_ (s_len_sl rfl) ?_
   refine f_ (s_conv_keep_u64 rfl (by omega)) ?_
   refine f_ z_1 ?_
   refine r_ z_10 ?_
   refine m_ ?_
   refine f_ (s_sub_u64 rfl rfl (by omega)) ?_
   refine f_ ((s_min2 rfl rfl).eq (v' := .int .u64 (k0 : Nat)) (by congr 1; omega)) ?_
   refine f_ ((s_slice_sl rfl rfl rfl (by omega)).eq (v' := .slice b m.length (ld - k0)) (by rw [e4, hml]; rfl)) ?_
   refine a_ ?_
   repeat refine n_ ?_
   rw [e1, e2]
   repeat refine y_ ?_
   refine g_draw0 ([1, 3], [0, 1, 0, 4, 3, 31], []) 6 rfl ?_
   refine w_ 0 rfl z_1 ?_
   (refine ga_read 1 rfl z_2 (s_load_blk rfl .del z_7) rfl rfl rfl z_4 ?_)
   refine w_ 2 rfl z_1 ?_
   (refine ga_read 3 rfl z_2 (s_load_blk rfl .del z_7) rfl rfl rfl z_4 ?_)
   refine w_ 4 rfl (s_assign rfl) ?_
   refine w_ 5 rfl (s_assign rfl) ?_
   refine ga_done z_4 ?_
   repeat refine y_ ?_
   exact at_cut j_ i_
  ·have hlt : ¬ prev < g.base := of_decide_eq_false h
   have e1 : pz = prev := by rw [hpz, if_neg hlt]
   have e2 : tz = term := by rw [htz, if_neg hlt]
   have e3 : k0 = 0 := by rw [hk0, if_neg hlt]
   have e4 : b = lb := by rw [hbz, if_neg hlt]
   have e5 : m.length = l.length := by omega
   have e6 : ld - k0 = ld := by omega
   rw [e1, e2, e4, e5, e6]
   repeat refine y_ ?_
   exact at_cut j_ i_
 ·repeat refine y_ ?_
  refine g_ownN .del (fun _ hcap _ => ?_)
  have hf1 : (⟨g.base, g.bt, g.conf, g.l, ca, cc, la, lc⟩ : LM).fit := ⟨h1, h2, h3, h3c, hcap⟩
  have ht1 : ∀ i, termV (⟨g.base, g.bt, g.conf, g.l, ca, cc, la, lc⟩ : LM) i = termV g i := fun i => rfl
  have hh1 : ∀ i, hasL (⟨g.base, g.bt, g.conf, g.l, ca, cc, la, lc⟩ : LM) i = hasL g i := fun i => rfl
  repeat refine x_ ?_
  refine r_ z_14 ?_
  refine m_ ?_
  refine gl_callp rfl (Term_ct ⟨g.base, g.bt, g.conf, g.l, ca, cc, la, lc⟩ pz hf1 (by omega)) (fun h hh ⟨bs, hb⟩ => Sat.rd (a := la) hb z_2) rfl ?_; rw [ht1, hh1]
  refine m_ ?_
  refine f_ (s_extract rfl rfl) ?_
  refine f_ (s_extract rfl rfl) ?_
  refine a_ ?_
  refine a_ ?_
  repeat refine n_ ?_
  obtain ⟨q1, hq1⟩ : ∃ q, q = hasL g pz := ⟨_, rfl⟩
  obtain ⟨q2, hq2⟩ : ∃ q, q = decide (termV g pz = tz) := ⟨_, rfl⟩
  rw [← hq1]
  refine g_cutK [(1, .int .u64 pz), (3, .slice b m.length (ld - k0)), (4, Ptr g4), (8, Ptr g8), (50, .bool (!(q1 && q2)))] [OwnL la g.l lc, OwnC ca g.conf cc, blkG g8 0 0 none 0 0 none 0 0, blkG g4 g.base g.bt ca g.conf.length cc la g.l.length lc] ?_ ?_
  ·cases q1
   all_goals (
    repeat refine x_ ?_
    refine m_ ?_
    refine f_ (s_not rfl) ?_
    refine m_ ?_
    (first | refine gl_guard_no rfl rfl rfl rfl rfl rfl rfl ?_ | (refine v_ ?_; refine m_ ?_))
    (first | refine gl_guard_no rfl rfl rfl rfl rfl rfl rfl ?_ | (refine v_ ?_; refine m_ ?_))
    (first | refine gl_guard_no rfl rfl rfl rfl rfl rfl rfl ?_ | (refine v_ ?_; refine f_ ((s_neq rfl rfl).eq (congrArg (fun q => Value.bool (!q)) hq2.symm)) ?_))
    refine f_ z_6 ?_
    refine gl_nil ?_
    repeat refine y_ ?_)
   all_goals exact at_cut j_ i_
  ·repeat refine y_ ?_
   refine g_cond rfl (fun h => ?_) (fun h => ?_)
   ·have e : mrgB g pz tz m = ⟨g.l, 0, false⟩ := by rw [mrgB, if_pos (by rw [← hq1, ← hq2]; cases q1 <;> cases q2 <;> first | rfl | cases h)]
    rw [e]
    repeat refine x_ ?_
    refine r_ z_14 ?_
    (refine gl_store_blkW rfl rfl z_5 z_7 z_7 z_3 ?_)
    refine a_ ?_
    refine a_ ?_
    repeat refine n_ ?_
    refine g_ret ?_
    exact at_endB2 rfl rfl rfl rfl z_2 rfl _ ⟨ca, cc, la, lc, rfl, rfl⟩ (fun w hw => Hp.left (A := OwnG ⟨g.base, g.bt, g.conf, g.l, ca, cc, la, lc⟩) (R := [_, _]) hw)
   ·have hok : (hasL g pz && decide (termV g pz = tz)) = true := by rw [← hq1, ← hq2]; cases q1 <;> cases q2 <;> first | rfl | cases h
    have hhp : hasL g pz = true := by rw [Bool.and_eq_true] at hok; exact hok.1
    simp only [hasL, Bool.and_eq_true, decide_eq_true_eq] at hhp
    clear hq1 hq2 h
    repeat refine x_ ?_
    refine m_ ?_
    refine f_ (s_len_sl rfl) ?_
    refine m_ ?_
    repeat refine n_ ?_
    refine g_loop (ι := Nat) (fun k => k ≤ m.length ∧ ∀ j, j < k → same g pz m j = true) (fun k => [(1, .int .u64 pz), (3, .slice b m.length (ld - k0)), (4, Ptr g4), (8, Ptr g8), (52, .slice b m.length (ld - k0)), (53, .int .i64 (m.length : Nat)), (54, .int .i64 (k : Nat))]) (fun k => [OwnL la g.l lc, OwnC ca g.conf cc, blkG g8 0 0 none 0 0 none 0 0, blkG g4 g.base g.bt ca g.conf.length cc la g.l.length lc]) (fun k => m.length - k) 0 ⟨by omega, fun j hj => absurd hj (by omega)⟩ ?_ ?_ ?_
    ·(repeat (first | exact Sub.nil _ | refine Sub.cons rfl ?_))
    ·intro w hw; exact hw
    ·rintro k ⟨hk, hall⟩
     repeat refine x_ ?_
     refine f_ (s_lss rfl rfl) ?_
     repeat refine n_ ?_
     refine g_cond rfl (fun h => ?_) (fun h => ?_)
     ·have hk' : k < m.length := by simp at h; omega
      have hsome := rdE_some hrm hk'
      have hj : (pz - g.base).toNat + k ≤ g.l.length := by
       by_cases hk1 : k = 0
       ·omega
       ·have h5 := hall (k - 1) (by omega)
        simp only [same, hasL, Bool.and_eq_true, decide_eq_true_eq] at h5
        omega
      obtain ⟨q, hq⟩ : ∃ q, q = hasL g (pz + 1 + (k : Int)) := ⟨_, rfl⟩
      obtain ⟨q3, hq3⟩ : ∃ q, q = decide (termV g (pz + 1 + (k : Int)) = (m.getD k E0).1) := ⟨_, rfl⟩
      have hsm : same g pz m k = (q && q3) := by rw [same, hq, hq3]
      repeat refine x_ ?_
      refine m_ ?_
      refine f_ (s_indexAddr rfl (by assumption) rfl (by omega)) ?_
      refine r_ (s_loadN rfl (fun w hw => rdE hw hrm (i := k) (by omega) hk') rfl) ?_
      refine gl_allocA rfl ?_; intro g14
      refine a_ ?_
      (refine gl_store_blkW rfl rfl z_5 z_7 z_7 z_3 ?_)
      repeat refine x_ ?_
      refine m_ ?_
      refine f_ (s_add_u64 rfl rfl (by omega)) ?_
      refine m_ ?_
      refine f_ (s_conv_keep_u64 rfl (by omega)) ?_
      refine f_ (s_add_u64 rfl rfl (by omega)) ?_
      refine a_ ?_
      repeat refine x_ ?_
      refine r_ z_14 ?_
      refine m_ ?_
      refine gl_callp rfl (Term_ct ⟨g.base, g.bt, g.conf, g.l, ca, cc, la, lc⟩ (pz + 1 + (k : Int)) hf1 (by omega)) (fun h hh ⟨bs, hb⟩ => Sat.rd (a := la) hb z_2) rfl ?_; rw [ht1, hh1, ← hq]
      refine m_ ?_
      refine f_ (s_extract rfl rfl) ?_
      refine f_ (s_extract rfl rfl) ?_
      refine a_ ?_
      refine a_ ?_
      repeat refine n_ ?_
      refine g_cutK [(1, .int .u64 pz), (3, .slice b m.length (ld - k0)), (4, Ptr g4), (8, Ptr g8), (13, .int .i64 (k : Nat)), (15, .int .u64 (pz + 1 + (k : Int))), (52, .slice b m.length (ld - k0)), (53, .int .i64 (m.length : Nat)), (54, .int .i64 (k : Nat)), (76, .bool (q && q3))] [OwnL la g.l lc, OwnC ca g.conf cc, blkG g8 0 0 none 0 0 none 0 0, blkG g4 g.base g.bt ca g.conf.length cc la g.l.length lc] ?_ ?_
      ·cases q
       all_goals (
        repeat refine x_ ?_
        refine m_ ?_
        refine m_ ?_
        (first | refine gl_guard_no rfl rfl rfl rfl rfl rfl rfl ?_ | (refine v_ ?_; refine m_ ?_))
        (first | refine gl_guard_no rfl rfl rfl rfl rfl rfl rfl ?_ | (refine v_ ?_; refine f_ z_1 ?_))
        (first | refine gl_guard_no rfl rfl rfl rfl rfl rfl rfl ?_ | (refine v_ ?_; refine r_ z_10 ?_))
        (first | refine gl_guard_no rfl rfl rfl rfl rfl rfl rfl ?_ | (refine v_ ?_; refine f_ ((s_eql rfl rfl).eb hq3) ?_))
        refine f_ z_6 ?_
        refine gl_nil ?_
        repeat refine y_ ?_)
       all_goals exact at_cut j_ (fun w hw => hw.drop)
      ·repeat refine y_ ?_
       refine g_cond rfl (fun h2 => ?_) (fun h2 => ?_)
       ·repeat refine y_ ?_
        repeat refine x_ ?_
        refine f_ (s_add_i64 rfl rfl (by omega)) ?_
        refine m_ ?_
        repeat refine n_ ?_
        refine at_next (k + 1) ⟨by omega, fun j hj => ?_⟩ (by omega) ?_ ?_
        ·rcases Nat.lt_succ_iff_lt_or_eq.1 hj with h4 | rfl
         ·exact hall j h4
         ·rw [hsm, h2]
        ·(repeat (first | exact Sub.nil _ | refine Sub.cons rfl ?_))
        ·intro w hw; exact hw
       ·have hss : same g pz m k = false := by rw [hsm, h2]
        have hfd := firstD_at hk' hall hss
        have e : mrgB g pz tz m = ⟨g.l.take ((pz - g.base).toNat + k) ++ m.drop k, pz + 1 + (k : Nat), true⟩ := by
         rw [mrgB, if_neg (by rw [hok]; simp), hfd, if_neg (by omega)]
        rw [e]
        obtain ⟨j, hjj⟩ : ∃ j, j = (pz - g.base).toNat + k := ⟨_, rfl⟩
        rw [← hjj] at hj ⊢
        have hmd : (m.drop k).length = m.length - k := by rw [List.length_drop]
        have htl : (g.l.take j).length = j := by rw [List.length_take]; omega
        have hcutm := cut_ents hrm (c := ld - k0) (by omega) k (by omega)
        have el : (g.l.take j ++ m.drop k).length = j + (m.drop k).length := by rw [List.length_append, htl]
        repeat refine y_ ?_
        refine g_draw ([1, 4], [0, 1, 0, 0, 8, 28, 60, 127, 0, 0, 768, 2047, 4095, 8191], [11, 13]) [blkG g4 g.base g.bt ca g.conf.length cc la g.l.length lc] 14 rfl ?_
        refine w_ 0 rfl z_1 ?_
        (refine ga_read_k 1 rfl z_11 (s_load_blk rfl .del z_7) k_ rfl rfl rfl z_4 ?_)
        refine w_ 2 rfl (s_move rfl) ?_
        refine w_ 3 rfl z_1 ?_
        (refine ga_read_k 4 rfl z_11 (s_load_blk rfl .del z_7) k_ rfl rfl rfl z_4 ?_)
        refine w_ 5 rfl (s_sub_u64 rfl rfl (by omega)) ?_
        refine w_ 6 rfl (s_sub_u64 rfl rfl (by omega)) ?_
        refine w_ 7 rfl ((s_slice_sl rfl rfl rfl (by omega)).eq (v' := .slice la j lc) (by rw [show (0 : Int).toNat = 0 from rfl, cutA_zero]; congr 1; omega)) ?_
        refine w_ 8 rfl (s_move rfl) ?_
        refine w_ 9 rfl (s_move rfl) ?_
        refine w_ 10 rfl ((s_slice_sl rfl rfl rfl (by omega)).eq (v' := .slice (cutA b (ld - k0) k 3) (m.drop k).length (ld - k0 - k)) (by rw [hmd]; rfl)) ?_
        refine ga_one 11 rfl z_4 ?_
        refine gl_pull (H' := [.own (.slice la j lc) 51 3 ((enV g.l).take (j * 3)), OwnC ca g.conf cc, blkG g8 0 0 none 0 0 none 0 0, blkG g4 g.base g.bt ca g.conf.length cc la g.l.length lc]) (fun w hw => hw.cutOwn .here hj) ?_; rw [← enV_take]; refine gl_append rfl rfl (fun a' c' => .here) (fun w hw => hcutm.le hw.keep) (enV_length _) rfl rfl (enV_one _) (by show (_ + _) * 32 ≤ _; omega) (by omega) rfl ?_; intro a88 c88 hc88
        refine gl_nil ?_
        refine at_ga (.inl z_4) ?_
        refine w_ 12 rfl z_1 ?_
        refine ga_one 13 rfl z_4 ?_
        (refine gl_store_blkC (pre := [_, _, _]) (post := []) rfl rfl z_5 z_7 z_7 z_7 ?_)
        refine gl_nil ?_
        refine at_ga (.inl z_4) ?_
        refine ga_done z_4 ?_
        repeat refine x_ ?_
        refine r_ z_14 ?_
        refine m_ ?_
        (refine gl_store_blkW rfl rfl z_5 z_7 z_7 z_3 ?_)
        refine a_ ?_
        refine a_ ?_
        repeat refine n_ ?_
        refine g_ret ?_
        rw [← enV_append]
        exact at_endB2 rfl rfl rfl rfl z_2 rfl _ ⟨ca, cc, a88, c88, by rw [← el]; rfl, rfl⟩ (fun w hw => by rw [← el] at hw; exact Hp.left (A := OwnG ⟨g.base, g.bt, g.conf, g.l.take j ++ m.drop k, ca, cc, a88, c88⟩) (R := [_, _]) hw)
     ·have hkl : k = m.length := by simp at h; omega
      subst hkl
      have e : mrgB g pz tz m = ⟨g.l, 0, true⟩ := by
       rw [mrgB, if_neg (by rw [hok]; simp), if_pos (firstD_end hall)]
      rw [e]
      repeat refine x_ ?_
      refine r_ z_14 ?_
      (refine gl_store_blkW rfl rfl z_5 z_7 z_7 z_3 ?_)
      refine a_ ?_
      refine a_ ?_
      repeat refine n_ ?_
      refine g_ret ?_
      exact at_endB2 rfl rfl rfl rfl z_2 rfl _ ⟨ca, cc, la, lc, rfl, rfl⟩ (fun w hw => Hp.left (A := OwnG ⟨g.base, g.bt, g.conf, g.l, ca, cc, la, lc⟩) (R := [_, _]) hw)
end Go.Proofs.YtodcghipfolejaaGreat
namespace Go.Proofs.YtodcghipfolejaaGreat
open Go Go.Sl
theorem readE_ok (s : List UInt8) : decide (readE s = 0) = okR s := by
 unfold readE; cases okR s <;> rfl
theorem conf_no {g : LM} {to : Int} {k : Nat} (h : ¬ g.base + 1 + (k : Int) ≤ to) : min (k + 1) (to - g.base).toNat = min k (to - g.base).toNat := by omega
theorem conf_yes {g : LM} {to : Int} {k : Nat} (h : g.base + 1 + (k : Int) ≤ to) : min (k + 1) (to - g.base).toNat = k + 1 ∧ min k (to - g.base).toNat = k := by omega
def ConfP (g : LM) (r : List Int × Int) (v : Value) (A : List As) : Prop := ∃ a c, v = .tuple #[.slice a r.1.length c, .int .u64 r.2] ∧ ((r.1 = g.conf ∧ a = g.ca ∧ c = g.cc ∧ A = []) ∨ A = [OwnC a r.1 c])
def ownIf (own : Bool) (a : Option Addr) (l : List Int) (c : Nat) : List As := bif own then [OwnC a l c] else []
set_option maxRecDepth 4000 in
set_option maxHeartbeats 4000000 in
theorem rConf_ct (g : LM) (to : Int) (hf : g.fit) (hdat : ∀ i, i < g.l.length → (g.l.getD i E0).2.2.length ≤ 1000000000000) (hto : 0 ≤ to ∧ to ≤ 18446744073709551615) : Ct Tryz.prog 30 [g.v, .int .u64 to] (fun h => RdS h g.la (enV g.l)) [] (ConfP g (confAt g to)) := by
 have h1 := hf.lo
 have h2 := hf.hi
 have h3 := hf.len
 refine ct_enter 59 Tryz.func30 rfl rfl rfl ?_
 intro F hrd
 repeat refine x_ ?_
 refine gl_boxA rfl rfl ?_; intro g2
 refine a_ ?_
 refine a_ ?_
 repeat refine n_ ?_
 refine g_draw0 ([1, 3], [0, 1, 0, 4, 3, 31], []) 6 rfl ?_
 refine w_ 0 rfl z_1 ?_
 (refine ga_read 1 rfl z_2 (s_load_blk rfl .del z_7) rfl rfl rfl z_4 ?_)
 refine w_ 2 rfl z_1 ?_
 (refine ga_read 3 rfl z_2 (s_load_blk rfl .del z_7) rfl rfl rfl z_4 ?_)
 refine w_ 4 rfl (s_assign rfl) ?_
 refine w_ 5 rfl (s_assign rfl) ?_
 refine ga_done z_4 ?_
 repeat refine x_ ?_
 refine a_ ?_
 repeat refine n_ ?_
 refine g_loop (ι := Nat × (List Int × Int) × Option Addr × Nat × Bool) (fun i => i.1 ≤ g.l.length ∧ i.2.1 = confN g (min i.1 (to - g.base).toNat) ∧ (i.2.2.2.2 = false → i.2.1.1 = g.conf ∧ i.2.2.1 = g.ca ∧ i.2.2.2.1 = g.cc)) (fun i => [(1, .int .u64 to), (2, Ptr g2), (6, .slice i.2.2.1 i.2.1.1.length i.2.2.2.1), (7, .int .u64 i.2.1.2), (8, .int .i64 (i.1 : Nat))]) (fun i => blkG g2 g.base g.bt g.ca g.conf.length g.cc g.la g.l.length g.lc :: ownIf i.2.2.2.2 i.2.2.1 i.2.1.1 i.2.2.2.1) (fun i => g.l.length - i.1) (0, (g.conf, g.base), g.ca, g.cc, false) ⟨by simp, by simp [confN], fun _ => ⟨rfl, rfl, rfl⟩⟩ ?_ ?_ ?_
 ·(repeat (first | exact Sub.nil _ | refine Sub.cons rfl ?_))
 ·intro w hw; exact hw
 ·rintro ⟨k, r, a, c, own⟩ ⟨hk, hr, hown⟩
  simp only at hk hr hown
  repeat refine x_ ?_
  refine m_ ?_
  refine f_ z_1 ?_
  refine r_ z_10 ?_
  refine f_ (s_len_sl rfl) ?_
  refine f_ (s_lss rfl rfl) ?_
  repeat refine n_ ?_
  refine g_cond rfl (fun h => ?_) (fun h => ?_)
  ·have hk' : k < g.l.length := by simp at h; omega
   have hsome := rdE_some hrd hk'
   obtain ⟨e, he⟩ : ∃ e, e = g.l.getD k E0 := ⟨_, rfl⟩
   have hed := hdat k hk'
   rw [← he] at hed
   repeat refine x_ ?_
   refine f_ z_1 ?_
   refine r_ z_10 ?_
   refine f_ (s_add_u64 rfl rfl (by omega)) ?_
   refine m_ ?_
   refine f_ (s_conv_keep_u64 rfl (by omega)) ?_
   refine f_ (s_add_u64 rfl rfl (by omega)) ?_
   refine a_ ?_
   repeat refine x_ ?_
   refine f_ z_1 ?_
   refine r_ z_10 ?_
   refine m_ ?_
   refine f_ (s_indexAddr rfl (by assumption) rfl (by omega)) ?_
   refine f_ z_8 ?_
   refine r_ ((s_load1 rfl (fun w hw => rdE2 hw hrd (i := k) (by omega) hk')).eq (congrArg (fun e : Ent => B e.2.2) he.symm)) ?_
   refine gl_call _ rfl (rRead_ct e.2.2 hed) i_ (fun _ _ _ => trivial) rfl ?_; rintro v A ⟨ra, rc, rfl, rfl⟩
   refine m_ ?_
   refine f_ (s_extract rfl rfl) ?_
   refine f_ (s_extract rfl rfl) ?_
   refine a_ ?_
   refine a_ ?_
   repeat refine n_ ?_
   obtain ⟨q1, hq1⟩ : ∃ q, q = decide (g.base + 1 + (k : Int) ≤ to) := ⟨_, rfl⟩
   obtain ⟨q2, hq2⟩ : ∃ q, q = decide (e.2.1 = 2) := ⟨_, rfl⟩
   obtain ⟨q3, hq3⟩ : ∃ q, q = okR e.2.2 := ⟨_, rfl⟩
   have hq3' : decide (readE e.2.2 = 0) = q3 := by rw [readE_ok, hq3]
   have hC : isC (g.l.getD k E0) = (q2 && q3) := by rw [← he, isC, hq2, hq3]
   refine g_cutK [(1, .int .u64 to), (2, Ptr g2), (6, .slice a r.1.length c), (7, .int .u64 r.2), (8, .int .i64 (k : Nat)), (9, .int .u64 (g.base + 1 + (k : Int))), (10, .slice ra (readL e.2.2).length rc), (54, .bool ((q1 && q2) && q3))] (OwnC ra (readL e.2.2) rc :: blkG g2 g.base g.bt g.ca g.conf.length g.cc g.la g.l.length g.lc :: ownIf own a r.1 c) ?_ ?_
   ·cases q1 <;> cases q2
    all_goals (
     repeat refine x_ ?_
     refine m_ ?_
     refine m_ ?_
     refine f_ ((s_leq rfl rfl).eb hq1) ?_
     refine m_ ?_
     (first | refine gl_guard_no rfl rfl rfl rfl rfl rfl rfl ?_ | (refine v_ ?_; refine f_ z_1 ?_))
     (first | refine gl_guard_no rfl rfl rfl rfl rfl rfl rfl ?_ | (refine v_ ?_; refine r_ z_10 ?_))
     (first | refine gl_guard_no rfl rfl rfl rfl rfl rfl rfl ?_ | (refine v_ ?_; refine m_ ?_))
     (first | refine gl_guard_no rfl rfl rfl rfl rfl rfl rfl ?_ | (refine v_ ?_; refine f_ (s_indexAddr rfl (by assumption) rfl (by omega)) ?_))
     (first | refine gl_guard_no rfl rfl rfl rfl rfl rfl rfl ?_ | (refine v_ ?_; refine f_ z_8 ?_))
     (first | refine gl_guard_no rfl rfl rfl rfl rfl rfl rfl ?_ | (refine v_ ?_; refine r_ (s_load1 rfl (fun w hw => rdE1 hw hrd (i := k) (by omega) hk')) ?_))
     (first | refine gl_guard_no rfl rfl rfl rfl rfl rfl rfl ?_ | (refine v_ ?_; refine f_ ((s_eql rfl rfl).eq (v' := .bool _) (by rw [← he, ← hq2])) ?_))
     refine f_ z_6 ?_
     refine m_ ?_
     (first | refine gl_guard_no rfl rfl rfl rfl rfl rfl rfl ?_ | (refine v_ ?_; refine m_ ?_))
     (first | refine gl_guard_no rfl rfl rfl rfl rfl rfl rfl ?_ | (refine v_ ?_; refine f_ ((s_eql rfl rfl).eq (congrArg Value.bool hq3')) ?_))
     refine f_ z_6 ?_
     refine gl_nil ?_
     repeat refine y_ ?_)
    all_goals exact at_cut j_ i_
   ·repeat refine y_ ?_
    refine g_cond rfl (fun h2 => ?_) (fun h2 => ?_)
    ·have hh : q1 = true ∧ (q2 && q3) = true := by cases q1 <;> cases q2 <;> cases q3 <;> first | exact ⟨rfl, rfl⟩ | cases h2
     have hle : g.base + 1 + (k : Int) ≤ to := of_decide_eq_true (by rw [← hq1]; exact hh.1)
     have hy := conf_yes hle
     repeat refine x_ ?_
     refine m_ ?_
     refine m_ ?_
     refine a_ ?_
     refine a_ ?_
     repeat refine x_ ?_
     refine m_ ?_
     refine f_ (s_add_i64 rfl rfl (by omega)) ?_
     refine a_ ?_
     repeat refine n_ ?_
     refine at_next (k + 1, (readL e.2.2, g.base + 1 + (k : Int)), ra, rc, true) ⟨by simp only; omega, ?_, fun h => by cases h⟩ (by simp only; omega) ?_ ?_
     ·simp only
      rw [hy.1, confN, hC, if_pos hh.2, ← he]
      congr 1
      omega
     ·(repeat (first | exact Sub.nil _ | refine Sub.cons rfl ?_))
     ·intro w hw
      exact (Hp.left (A := [OwnC ra (readL e.2.2) rc, blkG g2 g.base g.bt g.ca g.conf.length g.cc g.la g.l.length g.lc]) hw).perm (.swap _ _ _)
    ·have hh : q1 = false ∨ (q2 && q3) = false := by cases q1 <;> cases q2 <;> cases q3 <;> first | exact .inl rfl | exact .inr rfl | cases h2
     repeat refine x_ ?_
     refine m_ ?_
     refine f_ (s_add_i64 rfl rfl (by omega)) ?_
     refine a_ ?_
     repeat refine n_ ?_
     refine at_next (k + 1, r, a, c, own) ⟨by simp only; omega, ?_, hown⟩ (by simp only; omega) ?_ ?_
     ·simp only
      by_cases hle : g.base + 1 + (k : Int) ≤ to
      ·have hy := conf_yes hle
       have hC2 : (q2 && q3) = false := by
        rcases hh with h5 | h5
        ·rw [hq1, decide_eq_false_iff_not] at h5; exact absurd hle h5
        ·exact h5
       rw [hy.1, confN, hC, hC2, if_neg (by simp), hr, hy.2]
      ·rw [conf_no hle]; exact hr
     ·(repeat (first | exact Sub.nil _ | refine Sub.cons rfl ?_))
     ·intro w hw; exact hw.drop
  ·have hkl : k = g.l.length := by simp at h; omega
   subst hkl
   have hr2 : confAt g to = r := by rw [hr, confAt]
   rw [hr2]
   repeat refine x_ ?_
   refine m_ ?_
   refine m_ ?_
   refine a_ ?_
   refine a_ ?_
   repeat refine n_ ?_
   refine g_ret ?_
   cases own
   ·exact at_end2 rfl rfl rfl [] ⟨a, c, rfl, .inl ⟨(hown rfl).1, (hown rfl).2.1, (hown rfl).2.2, rfl⟩⟩ (fun _ h => h.dropAll)
   ·exact at_end2 rfl rfl rfl [OwnC a r.1 c] ⟨a, c, rfl, .inr rfl⟩ (fun w hw => hw.drop)
theorem inst_term (g : LM) (i : Int) (h : hasL g i = true) : instL g i (termV g i) = g.l.drop (i - g.base).toNat := by
 rw [instL, h, decide_eq_true rfl]; rfl
def CmpR (g : LM) (i : Int) (v : Value) (A : List As) : Prop := (hasL g i = false ∧ v = .tuple #[g.v, .bool false] ∧ A = []) ∨
 (hasL g i = true ∧ ∃ ca cc la lc, v = .tuple #[LM.v ⟨i, termV g i, (confAt g i).1, g.l.drop (i - g.base).toNat, ca, cc, la, lc⟩, .bool true] ∧ (((confAt g i).1 = g.conf ∧ ca = g.ca ∧ cc = g.cc ∧ A = [OwnL la (g.l.drop (i - g.base).toNat) lc]) ∨ A = [OwnL la (g.l.drop (i - g.base).toNat) lc, OwnC ca (confAt g i).1 cc]))
set_option maxRecDepth 4000 in
set_option maxHeartbeats 4000000 in
theorem rCompact_ct (g : LM) (i : Int) (hf : g.fit) (hdat : ∀ i, i < g.l.length → (g.l.getD i E0).2.2.length ≤ 1000000000000) (hi : 0 ≤ i ∧ i ≤ 18446744073709551615) : Ct Tryz.prog 84 [g.v, .int .u64 i] (fun h => RdS h g.la (enV g.l)) [] (CmpR g i) := by
 have hcl := confN_le g hf.cl (min g.l.length (i - g.base).toNat)
 refine ct_enter 30 Tryz.func84 rfl rfl rfl ?_
 intro F hrd
 repeat refine x_ ?_
 refine gl_boxA rfl rfl ?_; intro g2
 refine gl_allocA rfl ?_; intro g4
 refine a_ ?_
 repeat refine x_ ?_
 refine r_ z_14 ?_
 refine m_ ?_
 refine gl_callp rfl (rTerm_ct g i hf hi) (fun h hh _ => hrd.le hh) rfl ?_
 refine m_ ?_
 refine f_ (s_extract rfl rfl) ?_
 refine f_ (s_extract rfl rfl) ?_
 refine a_ ?_
 refine a_ ?_
 repeat refine n_ ?_
 obtain ⟨q, hq⟩ : ∃ q, q = hasL g i := ⟨_, rfl⟩
 rw [← hq]
 cases q
 ·repeat refine y_ ?_
  refine g_region ?_
  refine m_ ?_
  refine f_ (s_not rfl) ?_
  repeat refine x_ ?_
  refine r_ z_14 ?_
  (refine gl_store_blkW rfl rfl z_5 z_7 z_7 z_3 ?_)
  refine a_ ?_
  repeat refine n_ ?_
  refine g_ret ?_
  exact at_endB1 rfl rfl rfl z_2 rfl [] (.inl ⟨hq.symm, rfl, rfl⟩) (fun _ h => h.dropAll)
 ·repeat refine y_ ?_
  refine g_region ?_
  refine m_ ?_
  refine f_ (s_not rfl) ?_
  repeat refine x_ ?_
  refine r_ z_14 ?_
  refine m_ ?_
  refine gl_call _ rfl (rConf_ct g i hf hdat hi) i_ (fun h hh _ => hrd.le hh) rfl ?_; rintro v A ⟨a, c, rfl, (⟨e1, e2, e3, rfl⟩ | rfl)⟩
  all_goals (refine m_ ?_)
  all_goals (refine f_ (s_extract rfl rfl) ?_)
  all_goals (refine f_ (s_extract rfl rfl) ?_)
  all_goals (refine a_ ?_)
  all_goals (refine a_ ?_)
  all_goals (refine gl_nil ?_)
  all_goals (repeat refine y_ ?_)
  all_goals (
   repeat refine x_ ?_
   refine r_ z_14 ?_
   refine m_ ?_
   refine m_ ?_
   refine m_ ?_
   refine gl_call _ rfl (rInstall_ct g i (termV g i) (confAt g i).1 a c hf hi) i_ (fun h hh _ => hrd.le hh) rfl ?_; rintro v A ⟨la, lc, rfl, rfl⟩
   (refine gl_store_blkW rfl rfl z_5 z_7 z_7 z_3 ?_)
   refine a_ ?_
   refine gl_nil ?_
   repeat refine y_ ?_)
  all_goals (
   refine g_ret ?_
   rw [inst_term g i hq.symm])
  ·exact at_endB1 rfl rfl rfl z_2 rfl [OwnL la (g.l.drop (i - g.base).toNat) lc] (.inr ⟨hq.symm, a, c, la, lc, rfl, .inl ⟨e1, e2, e3, rfl⟩⟩) (fun w hw => Hp.left (R := [_, _]) hw)
  ·exact at_endB1 rfl rfl rfl z_2 rfl [OwnL la (g.l.drop (i - g.base).toNat) lc, OwnC a (confAt g i).1 c] (.inr ⟨hq.symm, a, c, la, lc, rfl, .inr rfl⟩) (fun w hw => Hp.left (R := [_, _]) hw)
end Go.Proofs.YtodcghipfolejaaGreat
namespace Go.Proofs.YtodcghipfolejaaGreat
open Go Go.Sl Go.RowKit
abbrev Yl := Int × Ent
def encY (x : Yl) : Array Value := #[.int .u64 x.1, entV x.2]
def backN (g : LM) (i : Int) : Nat := min g.l.length (i - g.base).toNat
def backAt (g : LM) (m j : Nat) : Yl := (g.base + ((m - j : Nat) : Int), g.l.getD (m - j - 1) E0)
def Dt (x : Yl) : Prop := x.2.2.2.length ≤ 9223372036854775807
abbrev Yd := {x : Yl // Dt x}
def encD (x : Yd) : Array Value := encY x.1
def LM.dat (g : LM) : Prop := ∀ i, i < g.l.length → (g.l.getD i E0).2.2.length ≤ 9223372036854775807
theorem backAt_dt {g : LM} (hd : g.dat) (m j : Nat) : Dt (backAt g m j) := by
 unfold Dt backAt
 simp only
 rcases Nat.lt_or_ge (m - j - 1) g.l.length with h | h
 ·exact hd _ h
 ·rw [List.getD_eq_getElem?_getD, List.getElem?_eq_none h]; decide
def backE (g : LM) (hd : g.dat) (m j : Nat) : Yd := ⟨backAt g m j, backAt_dt hd m j⟩
def backL (g : LM) (hd : g.dat) (m k : Nat) : List Yd := (List.range k).map (backE g hd m)
theorem backL_succ (g : LM) (hd : g.dat) (m k : Nat) : backL g hd m (k + 1) = backL g hd m k ++ [backE g hd m k] := by simp [backL, List.range_succ]
theorem backL_length (g : LM) (hd : g.dat) (m k : Nat) : (backL g hd m k).length = k := by simp [backL]
theorem peekF {F : Snap} {w : World} {H : List As} {b o : Nat} {cs : Array Value} {te : TypeId} {fr : Nat × Nat} {v : Value} (hw : Hp F w H) (hb : F.heap b = some (.cells cs te fr)) (hv : cs[o]? = some v) : PeekC (hp w) (some ⟨b, o, none⟩) [v] :=
 ⟨_, rfl, fun j q hj => by
  match j, hj with
  | 0, hj =>
   simp at hj; subst hj
   have h1 := hw.keep b _ hb
   have h2 : w.heap[b]? = some (.cells cs te fr) := h1
   simp [Heap.cell?, hp, Addr.add, h2, hv]⟩
theorem peekFN {F : Snap} {w : World} {H : List As} {b : Nat} {cs : Array Value} {te : TypeId} {fr : Nat × Nat} (hw : Hp F w H) (hb : F.heap b = some (.cells cs te fr)) : PeekC (hp w) (some ⟨b, 0, none⟩) cs.toList :=
 ⟨_, rfl, fun j q hj => by
  have h1 := hw.keep b _ hb
  have h2 : w.heap[b]? = some (.cells cs te fr) := h1
  have e : (⟨b, 0, none⟩ : Addr).add j = ⟨b, j, none⟩ := by rw [Addr.add_lit]; simp
  rw [e]
  simp [Heap.cell?, hp, h2]
  simpa using hj⟩
abbrev gcells (g : LM) : Array Value := #[.int .u64 g.base, .int .u64 g.bt, .slice g.ca g.conf.length g.cc, .slice g.la g.l.length g.lc]
def KpG (G0 : Heap) (W W' : World) : Prop := Heap.le G0 (hp W) → Heap.le G0 (hp W')
theorem bodyPost_none {P : Program} {fn : Func} {R : Ending → World → Prop} {N : Nat} {L : Lcs} {a : Act} {w : World} (hr : fn.results = #[]) (hf : Fits N L a) (h : R (.returned (.tuple #[])) w) : bodyPost P fn R .normal a w ∧ bodyPost P fn R .ret a w :=
 ⟨⟨hf.defers, _, results_none hr _ _ _, h⟩, ⟨hf.defers, _, results_none hr _ _ _, h⟩⟩
def mu4 (b : Int) (a : Act) : Nat := match a.tmps.getD 4 undef with
 | .int _ z => (z - b).toNat
 | _ => 0
theorem mu4_eq {N : Nat} {L : Lcs} {a : Act} {z b : Int} (h : Fits N L a) (hz : find L 4 = some (.int .u64 z)) : mu4 b a = (z - b).toNat := by
 unfold mu4
 rw [show a.tmps.getD 4 undef = .int .u64 z from h.eval (x := .tmp 4) hz]
set_option maxHeartbeats 4000000 in
theorem back_stops (g : LM) (i : Int) (hf : g.fit) (hd : g.dat) (hi : 0 ≤ i ∧ i ≤ 18446744073709551615) (Bi Bg : Nat) (w0 : World) (G0 : Heap) (hG : Heap.le G0 (hp w0)) (hBi : G0 Bi = some (.cells #[.int .u64 i] 34)) (hBg : G0 Bg = some (.cells (gcells g) 46)) (hrd : RdS G0 g.la (enV g.l)) (n : Nat) :
  SeqStopsK Fence.wide n Tryz.prog 113 #[Ptr Bi, Ptr Bg] encD (KpG G0) (fun ys => ys = backL g hd (backN g i) (backN g i)) (fun pre => ∃ k, k ≤ backN g i ∧ pre = backL g hd (backN g i) k) (backN g i) w0 := by
 intro l J Jx W hW hJ hJx hY h0
 have h1 := hf.lo
 have h2 := hf.hi
 have h3 := hf.len
 have hGW : Heap.le G0 (hp W) := fun b o hb => by
  have h4 := hG b o hb
  have h5 : b < w0.heap.size := (Array.getElem?_eq_some_iff.1 h4).1
  exact (hW.block b h5).trans h4
 obtain ⟨m, hm⟩ : ∃ m, m = backN g i := ⟨_, rfl⟩
 rw [← hm] at hY ⊢
 obtain ⟨z0, hz0⟩ : ∃ z, z = min i (lastI g) := ⟨_, rfl⟩
 have hmz : (g.base < z0 → (m : Int) = z0 - g.base) ∧ (z0 ≤ g.base → m = 0) ∧ m ≤ g.l.length ∧ 0 ≤ z0 ∧ z0 ≤ 18446744073709551615 := by
  rw [hm, hz0, backN, lastI]; omega
 refine callsIn_of_wp Tryz.func113 rfl trivial ?_ rfl
 refine (?_ : GN none n Tryz.prog 28 _ _ (argLoc 0 [.func (.yield l) #[] #[], Ptr Bi, Ptr Bg]) (snap W) []) _ _ (fits_enter 28 _ rfl) (hp_snap W)
 have hBi' : (snap W).heap Bi = some (.cells #[.int .u64 i] 34) := by rw [snap_heap]; exact hGW _ _ hBi
 have hBg' : (snap W).heap Bg = some (.cells (gcells g) 46) := by rw [snap_heap]; exact hGW _ _ hBg
 refine gn_seq ?_
 refine gn_plain ?_
 repeat refine y_ ?_
 refine g_draw0 ([0, 1], [0, 0, 2, 7, 15], [2]) 5 rfl ?_
 refine ga_readF 0 rfl (s_load1 rfl (fun w hw => peekF hw hBi' rfl)) z_15 rfl rfl rfl z_4 ?_
 refine ga_readF 1 rfl ((s_loadN rfl (fun w hw => peekFN hw hBg') rfl).eq (v' := g.v) rfl) z_15 rfl rfl rfl z_4 ?_
 refine ga_one 2 rfl z_4 ?_
 refine gl_callp rfl (end_ct g hf) (fun _ _ _ => trivial) rfl ?_
 refine gl_nil ?_
 refine at_ga (.inr (by exact keeps_of z_15)) ?_
 refine w_ 3 rfl ((s_min2 rfl rfl).eq (v' := .int .u64 z0) (by rw [hz0])) ?_
 refine w_ 4 rfl (s_assign rfl) ?_
 refine ga_done z_4 ?_
 repeat refine y_ ?_
 refine at_gn ?_
 refine gn_block ?_
 intro a w hfa hwa
 have hgw := grown_of_hp hwa
 have hGw : Heap.le G0 (hp w) := Heap.le_trans hGW (by have := hwa.keep; rwa [snap_heap] at this)
 refine wpIn_loop (fun a w => ∃ k, k ≤ m ∧ Fits 28 [(0, .func (.yield l) #[] #[]), (2, Ptr Bg), (4, .int .u64 (z0 - (k : Nat)))] a ∧ J (backL g hd m k) w ∧ Heap.le G0 (hp w)) (fun a _ => mu4 g.base a) ⟨0, by omega, ?_, hJ [] W w none h0 hgw (fun r e => by cases e), hGw⟩ ?_
 ·have h5 := hfa.sub (L' := [(0, .func (.yield l) #[] #[]), (2, Ptr Bg), (4, .int .u64 z0)]) j_
  simpa using h5
 ·rintro a w ⟨k, hk, hfk, hJk, hGk⟩
  have hmu := mu4_eq (b := g.base) hfk rfl
  have hBg' : (snap w).heap Bg = some (.cells (gcells g) 46) := by rw [snap_heap]; exact hGk _ _ hBg
  have hrd' : RdS (snap w).heap g.la (enV g.l) := by rw [snap_heap]; exact hrd.le hGk
  refine (?_ : GN none n Tryz.prog 28 _ _ [(0, .func (.yield l) #[] #[]), (2, Ptr Bg), (4, .int .u64 (z0 - (k : Nat)))] (snap w) []) a w hfk (hp_snap w)
  refine gn_seq ?_
  refine gn_seq ?_
  refine gn_plain ?_
  repeat refine x_ ?_
  refine m_ ?_
  refine f_ z_1 ?_
  refine r_ (s_load1 rfl (fun w hw => peekF hw hBg' rfl)) ?_
  refine f_ (s_gtr rfl rfl) ?_
  repeat refine n_ ?_
  refine at_gn ?_
  refine gn_cond rfl (fun h => ?_) (fun h => ?_)
  ·have hz : g.base < z0 - (k : Nat) := of_decide_eq_true h
   have hkm : k < m := by omega
   have hsome := rdE_some (i := m - k - 1) hrd' (by omega)
   refine gn_skip ?_
   refine at_gn ?_
   refine gn_seq ?_
   refine gn_block ?_
   refine gn_seq ?_
   refine gn_region2 (pre := List.take 11 _) (suf := List.drop 11 _) (List.take_append_drop 11 _).symm (.inl rfl) ?_
   refine m_ ?_
   refine m_ ?_
   refine f_ z_1 ?_
   refine r_ (s_load1 rfl (fun w hw => peekF hw hBg' rfl)) ?_
   refine m_ ?_
   refine f_ z_1 ?_
   refine r_ (s_load1 rfl (fun w hw => peekF hw hBg' rfl)) ?_
   refine f_ (s_sub_u64 rfl rfl (by omega)) ?_
   refine f_ (s_sub_u64 rfl rfl (by omega)) ?_
   refine f_ (s_indexAddr rfl (by assumption) rfl (by omega)) ?_
   refine r_ ((s_loadN rfl (fun w hw => rdE hw hrd' (i := m - k - 1) (by omega) (by omega)) rfl).eq (v' := entV (g.l.getD (m - k - 1) E0)) rfl) ?_
   refine gl_nil ?_
   unfold At
   intro a1 w1 hf1 hw1
   have hJ1 : J (backL g hd m k) w1 := hJ _ w w1 none hJk (grown_of_hp hw1) (fun r e => by cases e)
   have hG1 : Heap.le G0 (hp w1) := Heap.le_trans hGk (by have := hw1.keep; rwa [snap_heap] at this)
   have hx : backAt g m k = (z0 - (k : Nat), g.l.getD (m - k - 1) E0) := by
    rw [backAt]; congr 1; omega
   have hYk := hY (backL g hd m k) (backE g hd m k) w1 hJ1 (by rw [backL_length]; exact hkm)
   have he : encD (backE g hd m k) = [.int .u64 (z0 - (k : Nat)), entV (g.l.getD (m - k - 1) E0)].toArray := (show encD (backE g hd m k) = encY (backAt g m k) from rfl).trans (by rw [hx]; rfl)
   rw [he] at hYk
   refine yield_at (m := n - 1) (l := l) (vs := [.int .u64 (z0 - (k : Nat)), entV (g.l.getD (m - k - 1) E0)]) (hf1.eval (x := .tmp 15) rfl) (by simp only [List.map_cons, List.map_nil]; rw [hf1.eval (x := .tmp 16) rfl, hf1.eval (x := .tmp 25) rfl]) hYk rfl ?_
   have hbs : backL g hd m k ++ [backE g hd m k] = backL g hd m (k + 1) := (backL_succ g hd m k).symm
   rw [hbs]
   rintro e W' (⟨rfl, hJ', hKp⟩ | ⟨rfl, hJx'⟩)
   ·refine ⟨_, rfl, ?_⟩
    have hG' := hKp hG1
    refine listIn_rest (F := snap W') (H := []) (.inl rfl) ?_ (hf1.put rfl _) (hp_snap W')
    refine f_ (s_not rfl) ?_
    refine gl_nil ?_
    refine at_gn ?_
    refine gn_cond rfl (fun h => absurd h (by decide)) (fun _ => ?_)
    refine gn_skip ?_
    refine at_gn ?_
    refine gn_plain ?_
    repeat refine x_ ?_
    refine m_ ?_
    refine f_ (s_sub_u64 rfl rfl (by omega)) ?_
    refine a_ ?_
    repeat refine n_ ?_
    unfold At
    intro a2 w2 hf2 hw2
    refine ⟨⟨k + 1, by omega, ?_, hJ _ W' w2 none hJ' (grown_of_hp hw2) (fun r e => by cases e), Heap.le_trans hG' (by have := hw2.keep; rwa [snap_heap] at this)⟩, ?_⟩
    ·have e9 : z0 - ((k + 1 : Nat) : Int) = z0 - (k : Nat) - 1 := by omega
     rw [e9]
     exact hf2.sub j_
    ·rw [hmu, mu4_eq (b := g.base) hf2 rfl]; omega
   ·refine ⟨_, rfl, ?_⟩
    refine listIn_rest (F := snap W') (H := []) (.inl rfl) ?_ (hf1.put rfl _) (hp_snap W')
    refine f_ (s_not rfl) ?_
    refine gl_nil ?_
    refine at_gn ?_
    refine gn_cond rfl (fun _ => ?_) (fun h => absurd h (by decide))
    refine gn_ret ?_
    unfold At
    intro a2 w2 hf2 hw2
    have hb := bodyPost_none (P := Tryz.prog) (fn := Tryz.f113) (R := fun e W' => (∃ v, e = .returned v) ∧ ((∃ ys, (ys = backL g hd m m) ∧ J ys W') ∨ (∃ pre, (∃ k, k ≤ m ∧ pre = backL g hd m k) ∧ Jx pre W'))) rfl hf2 ⟨⟨_, rfl⟩, .inr ⟨_, ⟨k + 1, by omega, rfl⟩, hJx _ W' w2 none hJx' (grown_of_hp hw2) (fun r e => by cases e)⟩⟩
    exact hb.2
  ·have hz : z0 - (k : Nat) ≤ g.base := by have := of_decide_eq_false h; omega
   have hkm : k = m := by omega
   refine gn_exit ?_
   unfold At
   intro a2 w2 hf2 hw2
   have hb := bodyPost_none (P := Tryz.prog) (fn := Tryz.f113) (R := fun e W' => (∃ v, e = .returned v) ∧ ((∃ ys, (ys = backL g hd m m) ∧ J ys W') ∨ (∃ pre, (∃ k, k ≤ m ∧ pre = backL g hd m k) ∧ Jx pre W'))) rfl hf2 ⟨⟨_, rfl⟩, .inl ⟨_, rfl, by have h9 := hJ _ w w2 none hJk (grown_of_hp hw2) (fun r e => by cases e); have e9 : backL g hd m k = backL g hd m m := congrArg _ hkm; rw [← e9]; exact h9⟩⟩
   exact hb.1
end Go.Proofs.YtodcghipfolejaaGreat
