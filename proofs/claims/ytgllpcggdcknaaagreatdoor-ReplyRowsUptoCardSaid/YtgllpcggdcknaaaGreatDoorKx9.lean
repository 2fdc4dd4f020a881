import Derived.Test.YtgllpcggdcknaaaGreatDoorKx8
set_option linter.unusedVariables false
set_option linter.unusedSimpArgs false
namespace Go.Proofs.YtgllpcggdcknaaaGreatDoor.Rp
open Go Go.Sl Go.RowKit
theorem sc5t (q1 q2 q3 q4 q5 : Bool) : q1 = false ∨ (q1 = true ∧ q2 = false) ∨ (q1 = true ∧ q2 = true ∧ q3 = false) ∨ (q1 = true ∧ q2 = true ∧ q3 = true ∧ q4 = false) ∨ (q1 = true ∧ q2 = true ∧ q3 = true ∧ q4 = true ∧ q5 = true) ∨ (q1 = true ∧ q2 = true ∧ q3 = true ∧ q4 = true ∧ q5 = false) := by
 cases q1 <;> cases q2 <;> cases q3 <;> cases q4 <;> cases q5 <;> simp
set_option maxRecDepth 8000 in
theorem told_ct (b : Nat) (s tag : Bs) (p : Nat) (ok : Bool) (hs : s.length < 4294967281) (hp : p ≤ s.length) : Ct Tryz.prog 26 [Ptr b, B tag] (fun _ => True) [rdp b s p ok] (RdP b s (toldS s tag ⟨p, ok⟩)) := by
 obtain ⟨w, p1, o1, e1, h1p, h1b, h1o, c1⟩ := until_ex b s [32, 13] p ok hs hp (by decide)
 obtain ⟨p2, o2, e2, h2a, h2b, c2⟩ := need_ex b s [32] p1 o1 hs h1b (by decide)
 obtain ⟨q3, p3, o3, e3, h3a, h3b, h3o, h3t, h3f, c3⟩ := eat_ex b s [91] p2 o2 hs h2b (by decide)
 obtain ⟨cd, ⟨pc, oc⟩, ec⟩ : ∃ cd st, codeS s ⟨p2, o2⟩ = (cd, st) := ⟨_, _, rfl⟩
 refine ct_enter 79 Tryz.func26 rfl rfl rfl ?_
 intro F _
 repeat refine x_ ?_
 refine gl_allocA rfl ?_; intro g4
 repeat refine x_ ?_
 refine m_ ?_
 refine f_ (s_bld rfl rfl) ?_
 refine gl_allocA rfl ?_; intro g5
 (refine gl_store_blkW rfl rfl z_6 z_7 z_7 z_2 ?_)
 repeat refine x_ ?_
 refine m_ ?_
 refine gl_call [blkR g5 ⟨0, tag, [], [], 0, [], 0, [], [], []⟩ L0, blkR g4 R0 L0] rfl c1 (fun w hw => hw.perm (List.perm_append_comm (l₁ := [_, _]) (l₂ := [_]))) (fun _ _ _ => trivial) rfl ?_; rintro v A ⟨rfl, rfl⟩
 refine a_ ?_
 repeat refine x_ ?_
 refine a_ ?_
 repeat refine n_ ?_
 refine g_loop (ι := Nat) (fun k => k ≤ 4) (fun k => [(0, Ptr b), (1, B tag), (4, Ptr g4), (5, Ptr g5), (6, B w), (7, .int .i64 ((k : Int) + 1))]) (fun k => [rdp b s p1 o1, blkR g5 ⟨((if statK w ≤ k then statK w else 0 : Nat) : Int), tag, [], [], 0, [], 0, [], [], []⟩ L0, blkR g4 R0 L0]) (fun k => 4 - k) 0 (by omega) ?_ ?_ ?_
 ·(repeat (first | exact Sub.nil _ | refine Sub.cons rfl ?_))
 ·intro w' hw
  have e : (if statK w ≤ 0 then statK w else 0 : Nat) = 0 := by split <;> omega
  simp only [e]
  exact hw
 ·rintro k hk
  repeat refine x_ ?_
  refine m_ ?_
  refine f_ (s_leq rfl rfl) ?_
  repeat refine n_ ?_
  refine g_cond rfl (fun h => ?_) (fun h => ?_)
  ·have hk' : k < 4 := by simp at h; omega
   obtain ⟨q, hq⟩ : ∃ q, q = decide (statK w = k + 1) := ⟨_, rfl⟩
   repeat refine x_ ?_
   refine m_ ?_
   refine gl_callp rfl (status_ct k hk') (fun _ _ _ => trivial) rfl ?_
   refine m_ ?_
   refine f_ ((s_eql_str rfl rfl).eq (v' := .bool q) (congrArg Value.bool ((stat_iff hk' w).trans hq.symm))) ?_
   repeat refine n_ ?_
   refine g_cutK [(0, Ptr b), (1, B tag), (4, Ptr g4), (5, Ptr g5), (6, B w), (7, .int .i64 ((k : Int) + 1))] [rdp b s p1 o1, blkR g5 ⟨((if statK w ≤ k + 1 then statK w else 0 : Nat) : Int), tag, [], [], 0, [], 0, [], [], []⟩ L0, blkR g4 R0 L0] ?_ ?_
   ·refine g_cond rfl (fun h2 => ?_) (fun h2 => ?_)
    ·have hsk : statK w = k + 1 := of_decide_eq_true (hq.symm.trans h2)
     repeat refine x_ ?_
     refine m_ ?_
     refine f_ z_1 ?_
     (refine gl_store_blkC (pre := []) (post := [_, _, _, _, _, _, _, _, _]) rfl rfl z_6 z_7 z_7 z_7 ?_)
     repeat refine n_ ?_
     refine at_cut j_ (fun w' hw => ?_)
     have e : (((if statK w ≤ k + 1 then statK w else 0 : Nat) : Nat) : Int) = (k : Int) + 1 := by rw [if_pos (by omega), hsk]; rfl
     simp only [blkR, e]
     exact hw
    ·have hsk : statK w ≠ k + 1 := of_decide_eq_false (hq.symm.trans h2)
     repeat refine y_ ?_
     refine at_cut j_ (fun w' hw => ?_)
     have e : (if statK w ≤ k + 1 then statK w else 0 : Nat) = (if statK w ≤ k then statK w else 0 : Nat) := by split <;> split <;> omega
     rw [e]
     exact hw
   ·repeat refine y_ ?_
    repeat refine x_ ?_
    refine m_ ?_
    refine f_ ((s_add_i64 rfl rfl (by omega)).eq (v' := .int .i64 ((((k + 1 : Nat) : Int)) + 1)) (by congr 1)) ?_
    refine a_ ?_
    repeat refine n_ ?_
    refine at_next (k + 1) (by omega) (by omega) ?_ ?_
    ·(repeat (first | exact Sub.nil _ | refine Sub.cons rfl ?_))
    ·intro w' hw; exact hw
  have hk4 : k = 4 := by simp at h; omega
  subst hk4
  rw [if_pos (statK_le w)]
  obtain ⟨kw, hkw⟩ : ∃ z, z = statK w := ⟨_, rfl⟩
  rw [← hkw]
  repeat refine x_ ?_
  refine m_ ?_
  refine gl_call _ rfl c2 i_ (fun _ _ _ => trivial) rfl ?_; rintro v A ⟨rfl, rfl⟩
  repeat refine x_ ?_
  refine m_ ?_
  refine gl_call _ rfl c3 i_ (fun _ _ _ => trivial) rfl ?_; rintro v A ⟨rfl, rfl⟩
  refine gl_nil ?_
  repeat (first | refine g_seq ?_ | refine at_code ?_ | refine g_skip ?_ | refine g_exit rfl ?_ | refine g_cond_t rfl ?_ | refine g_cond_f rfl ?_)
  have hcl : cd.length ≤ s.length ∧ pc ≤ s.length := by
   unfold codeS at ec
   rw [e3] at ec
   simp only at ec
   split at ec
   ·obtain ⟨t, p4, o4, e4, h4p, h4b, h4o, c4⟩ := until_ex b s [93, 13] p3 o3 hs h3b (by decide)
    obtain ⟨p5, o5, e5, h5a, h5b, c5⟩ := need_ex b s [93, 32] p4 o4 hs h4b (by decide)
    rw [e4] at ec
    simp only at ec
    rw [e5] at ec
    cases ec
    exact ⟨by omega, h5b⟩
   ·cases ec
    exact ⟨by simp, h3b⟩
  refine g_cutK [(0, Ptr b), (1, B tag), (4, Ptr g4), (5, Ptr g5)] [rdp b s pc oc, blkR g5 ⟨kw, tag, cd, [], 0, [], 0, [], [], []⟩ L0, blkR g4 R0 L0] ?_ ?_
  ·unfold codeS at ec
   rw [e3] at ec
   simp only at ec
   refine g_cond rfl (fun h2 => ?_) (fun h2 => ?_)
   ·rw [if_pos h2] at ec
    obtain ⟨t, p4, o4, e4, h4p, h4b, h4o, c4⟩ := until_ex b s [93, 13] p3 o3 hs h3b (by decide)
    obtain ⟨p5, o5, e5, h5a, h5b, c5⟩ := need_ex b s [93, 32] p4 o4 hs h4b (by decide)
    rw [e4] at ec
    simp only at ec
    rw [e5] at ec
    cases ec
    repeat refine x_ ?_
    refine m_ ?_
    refine gl_call _ rfl c4 i_ (fun _ _ _ => trivial) rfl ?_; rintro v A ⟨rfl, rfl⟩
    refine f_ z_1 ?_
    (refine gl_store_blkC (pre := [_, _]) (post := [_, _, _, _, _, _, _]) rfl rfl z_6 z_7 z_7 z_7 ?_)
    repeat refine x_ ?_
    refine m_ ?_
    refine gl_call _ rfl c5 i_ (fun _ _ _ => trivial) rfl ?_; rintro v A ⟨rfl, rfl⟩
    repeat refine n_ ?_
    cases o5
    all_goals (
     repeat refine x_ ?_
     refine m_ ?_
     refine m_ ?_
     refine f_ (s_nilCheck rfl) ?_
     refine f_ z_1 ?_
     refine r_ (by exact s_load_blk rfl z_3 a3_2) ?_
     refine m_ ?_
     (first | refine gl_guard_no rfl rfl rfl rfl rfl rfl rfl ?_ | (refine v_ ?_; refine f_ z_1 ?_))
     (first | refine gl_guard_no rfl rfl rfl rfl rfl rfl rfl ?_ | (refine v_ ?_; refine r_ (by exact s_load_blk rfl z_3 a10_2) ?_))
     (first | refine gl_guard_no rfl rfl rfl rfl rfl rfl rfl ?_ | (refine v_ ?_; refine gl_callp rfl (plainS_ct cd (by omega)) (fun _ _ _ => trivial) rfl ?_))
     refine f_ z_4 ?_
     refine f_ (s_nilCheck rfl) ?_
     refine f_ z_1 ?_
     (refine gl_store_blkC (pre := [_, _]) (post := []) rfl rfl z_6 z_7 z_7 z_7 ?_)
     refine gl_nil ?_
     repeat refine y_ ?_)
    all_goals exact at_cut j_ i_
   ·rw [if_neg (by rw [h2]; simp)] at ec
    cases ec
    repeat refine y_ ?_
    exact at_cut j_ i_
  obtain ⟨x, p6, o6, e6, h6p, h6b, h6o, c6⟩ := until_ex b s [13] pc oc hs hcl.2 (by decide)
  obtain ⟨q2, hq2⟩ : ∃ q, q = decide (0 < kw) := ⟨_, rfl⟩
  obtain ⟨q3', hq3⟩ : ∃ q, q = plainS x := ⟨_, rfl⟩
  obtain ⟨q4, hq4⟩ : ∃ q, q = decide (x.head? ≠ some 91) := ⟨_, rfl⟩
  obtain ⟨q5, hq5⟩ : ∃ q, q = decide (kw ≠ 4) := ⟨_, rfl⟩
  obtain ⟨q6, hq6⟩ : ∃ q, q = decide (tag = [42]) := ⟨_, rfl⟩
  have e : toldS s tag ⟨p, ok⟩ = (⟨kw, tag, cd, x, 0, [], 0, [], [], []⟩, ⟨p6, o6 && q2 && q3' && q4 && (q5 || q6)⟩) := by
   unfold toldS
   simp only
   rw [e1]
   simp only
   rw [e2, ec]
   simp only
   rw [e6, hq2, hq3, hq4, hq5, hq6, hkw]
  rw [e]
  repeat refine x_ ?_
  refine m_ ?_
  refine gl_call _ rfl c6 i_ (fun _ _ _ => trivial) rfl ?_; rintro v A ⟨rfl, rfl⟩
  refine f_ z_1 ?_
  (refine gl_store_blkC (pre := [_, _, _]) (post := [_, _, _, _, _, _]) rfl rfl z_6 z_7 z_7 z_7 ?_)
  repeat refine n_ ?_
  refine g_cutK [(0, Ptr b), (1, B tag), (4, Ptr g4), (5, Ptr g5)] [rdp b s p6 (o6 && q2 && q3' && q4 && (q5 || q6)), blkR g5 ⟨kw, tag, cd, x, 0, [], 0, [], [], []⟩ L0, blkR g4 R0 L0] ?_ ?_
  ·have hpl : q3' = true → 0 < x.length ∧ (!decide (((x.getD 0 0).toNat : Int) = 91)) = q4 := fun h => by
    have h1 := (plain_facts (hq3.symm.trans h)).2.1
    rw [hq4]
    cases x with
    | nil => exact absurd rfl h1
    | cons c t =>
     refine ⟨by simp, ?_⟩
     have hh : ((c.toNat : Int) = 91) ↔ c = 91 := by
      constructor
      ·intro h; exact UInt8.toNat_inj.1 (by show c.toNat = 91; omega)
      ·rintro rfl; rfl
     simp only [List.getD_cons_zero, List.head?_cons, hh]
     by_cases hc : c = 91 <;> simp [hc]
   rcases sc5t o6 q2 q3' q4 q5 with rfl | ⟨rfl, rfl⟩ | ⟨rfl, rfl, rfl⟩ | ⟨rfl, rfl, rfl, rfl⟩ | ⟨rfl, rfl, rfl, rfl, rfl⟩ | ⟨rfl, rfl, rfl, rfl, rfl⟩
   all_goals (
    repeat refine x_ ?_
    refine m_ ?_
    refine m_ ?_
    refine f_ (s_nilCheck rfl) ?_
    refine f_ z_1 ?_
    refine r_ (by exact s_load_blk rfl z_3 a3_2) ?_
    refine m_ ?_
    (first | refine gl_guard_no rfl rfl rfl rfl rfl rfl rfl ?_ | (refine v_ ?_; refine f_ z_1 ?_))
    (first | refine gl_guard_no rfl rfl rfl rfl rfl rfl rfl ?_ | (refine v_ ?_; refine r_ (by exact s_load_blk rfl z_3 a10_0) ?_))
    (first | refine gl_guard_no rfl rfl rfl rfl rfl rfl rfl ?_ | (refine v_ ?_; refine f_ ((s_gtr rfl rfl).eq (congrArg Value.bool ((show decide ((kw : Int) > 0) = _ from decide_eq_decide.mpr (by omega)).trans hq2.symm))) ?_))
    refine f_ z_4 ?_
    refine m_ ?_
    (first | refine gl_guard_no rfl rfl rfl rfl rfl rfl rfl ?_ | (refine v_ ?_; refine f_ z_1 ?_))
    (first | refine gl_guard_no rfl rfl rfl rfl rfl rfl rfl ?_ | (refine v_ ?_; refine r_ (by exact s_load_blk rfl z_3 a10_3) ?_))
    (first | refine gl_guard_no rfl rfl rfl rfl rfl rfl rfl ?_ | (refine v_ ?_; refine gl_callp rfl (plainS_ct x (by omega)) (fun _ _ _ => trivial) rfl ?_; rw [← hq3]))
    refine f_ z_4 ?_
    refine m_ ?_
    (first | refine gl_guard_no rfl rfl rfl rfl rfl rfl rfl ?_ | (refine v_ ?_; refine f_ z_1 ?_))
    (first | refine gl_guard_no rfl rfl rfl rfl rfl rfl rfl ?_ | (refine v_ ?_; refine r_ (by exact s_load_blk rfl z_3 a10_3) ?_))
    (first | refine gl_guard_no rfl rfl rfl rfl rfl rfl rfl ?_ | (refine v_ ?_; refine f_ ((s_index_str rfl rfl (by have := (hpl rfl).1; omega)).eq (v' := U8 (x.getD 0 0)) rfl) ?_))
    (first | refine gl_guard_no rfl rfl rfl rfl rfl rfl rfl ?_ | (refine v_ ?_; refine f_ ((s_neq rfl rfl).eq (congrArg Value.bool (hpl rfl).2)) ?_))
    refine f_ z_4 ?_
    refine m_ ?_
    (first | refine gl_guard_no rfl rfl rfl rfl rfl rfl rfl ?_ | (refine v_ ?_; refine f_ z_1 ?_))
    (first | refine gl_guard_no rfl rfl rfl rfl rfl rfl rfl ?_ | (refine v_ ?_; refine r_ (by exact s_load_blk rfl z_3 a10_0) ?_))
    (first | refine gl_guard_no rfl rfl rfl rfl rfl rfl rfl ?_ | (refine v_ ?_; refine f_ ((s_neq rfl rfl).eq (congrArg Value.bool ((show (!decide ((kw : Int) = 4)) = _ from by rw [Bool.eq_iff_iff]; simp; omega).trans hq5.symm))) ?_))
    (first | refine gl_guard_no rfl rfl rfl rfl rfl rfl rfl ?_ | (refine v_ ?_; refine m_ ?_))
    (first|refine u_ ?_|(refine v_ ?_; refine m_ ?_))
    (first|refine u_ ?_|(refine v_ ?_; refine f_ ((s_eql_str rfl rfl).eb hq6) ?_))
    (first | refine gl_guard_no rfl rfl rfl rfl rfl rfl rfl ?_ | (refine v_ ?_; refine f_ z_4 ?_))
    refine f_ z_4 ?_
    refine f_ (s_nilCheck rfl) ?_
    refine f_ z_1 ?_
    (refine gl_store_blkC (pre := [_, _]) (post := []) rfl rfl z_6 z_7 z_7 z_7 ?_)
    refine gl_nil ?_
    repeat refine y_ ?_)
   all_goals exact at_cut j_ i_
  repeat refine x_ ?_
  refine r_ ((s_load_blkW rfl z_3 z_7).eq (v' := rrA ⟨kw, tag, cd, x, 0, [], 0, [], [], []⟩ L0) rfl) ?_
  (refine gl_store_blkW rfl rfl z_6 z_7 z_7 z_2 ?_)
  repeat refine n_ ?_
  refine g_ret ?_
  exact at_endB rfl rfl z_3 rfl _ ⟨⟨_, ⟨L0, rfl, rfl, rfl⟩, rfl⟩, h6b⟩ (fun w hw => by
   have h1 : Hp F w [rdp b s p6 (o6 && q2 && q3' && q4 && (q5 || q6))] := hw.left (A := [_])
   exact (((h1.addNil 46 6).addNil 9 1).addNil 22 1).perm (List.perm_append_comm (l₁ := [_, _, _]) (l₂ := [_])))
end Go.Proofs.YtgllpcggdcknaaaGreatDoor.Rp
namespace Go.Proofs.YtgllpcggdcknaaaGreatDoor.Rp
open Go Go.Sl Go.RowKit
def OneC (f : FuncId) (b : Nat) (s : Bs) (one : RS → RV × RS) : Prop := ∀ p ok, p ≤ s.length → ∃ v p1 o1, one ⟨p, ok⟩ = (v, ⟨p1, o1⟩) ∧ p1 ≤ s.length ∧ Ct Tryz.prog f [Ptr b] Gl [rdp b s p ok] (fun val A => ∃ x : VM, x.v = v ∧ val = vmA x ∧ A = [rdp b s p1 o1, OwnS x.a x.v.flags x.c])
def RdRows (b : Nat) (s : Bs) (q : List RV × RS) (v : Value) (A : List As) : Prop := (∃ A', RowsP q.1 v A' ∧ A = rdr b s q.2 :: A') ∧ q.2.p ≤ s.length
set_option maxRecDepth 8000 in
theorem rows_ct (f : FuncId) [hF : HF Tryz.prog f] (one : RS → RV × RS) (b : Nat) (s : Bs) (hone : OneC f b s one) (p : Nat) (ok : Bool) (hs : s.length < 4294967281) (hp : p ≤ s.length) : Ct Tryz.prog 53 [Ptr b, .func (.func f) #[Ptr b] #[]] Gl [rdp b s p ok] (RdRows b s (rowsS s one ⟨p, ok⟩)) := by
 obtain ⟨p1, o1, e1, h1a, h1b, c1⟩ := need_ex b s [40] p ok hs hp (by decide)
 obtain ⟨v1, p2, o2, e2, h2b, c2⟩ := hone p1 o1 h1b
 refine ct_enter 38 Tryz.func53 rfl rfl rfl ?_
 intro F hg
 repeat refine x_ ?_
 refine a_ ?_
 repeat refine x_ ?_
 refine m_ ?_
 refine gl_call _ rfl c1 i_ (fun _ _ _ => trivial) rfl ?_; rintro v A ⟨rfl, rfl⟩
 repeat refine x_ ?_
 refine m_ ?_
 refine gl_callv [] rfl rfl (ps := [Ptr b]) (qs := []) rfl c2 i_ (fun h hh hb => hg.le hh) rfl ?_; rintro v A ⟨x1, hx1, rfl, rfl⟩
 refine gl_buildSliceU rfl rfl rfl rfl rfl rfl (xs := vmV [x1]) rfl rfl ?_; intro a38 ha38
 refine a_ ?_
 repeat refine n_ ?_
 refine g_loop (ι := Nat × Nat × Bool × List VM × Option Addr × Nat) (fun i => i.2.1 ≤ s.length ∧ i.1 + i.2.2.2.1.length = 11 ∧ rowsL s one 10 [v1] ⟨p2, o2⟩ = rowsL s one i.1 (i.2.2.2.1.map VM.v) ⟨i.2.1, i.2.2.1⟩) (fun i => [(0, Ptr b), (1, .func (.func f) #[Ptr b] #[]), (5, .slice i.2.2.2.2.1 i.2.2.2.1.length i.2.2.2.2.2)]) (fun i => rdp b s i.2.1 i.2.2.1 :: .own (.slice i.2.2.2.2.1 i.2.2.2.1.length i.2.2.2.2.2) 46 6 (vmV i.2.2.2.1) :: vsH i.2.2.2.1) (fun i => i.1) (10, p2, o2, [x1], a38, 1) ⟨h2b, rfl, by simp only [List.map_cons, List.map_nil, hx1]⟩ ?_ ?_ ?_
 ·(repeat (first | exact Sub.nil _ | refine Sub.cons rfl ?_))
 ·intro w hw; exact hw.perm (.swap _ _ _)
 rintro ⟨k, p', o', l, bb, d⟩ ⟨hp', hk, he⟩
 simp only at hp' hk he
 obtain ⟨q1, p3, o3, e3, h3a, h3b, h3o, h3t, h3f, c3⟩ := eat_ex b s [32] p' o' hs hp' (by decide)
 obtain ⟨q2, hq2⟩ : ∃ q, q = decide (l.length ≤ 10) := ⟨_, rfl⟩
 repeat refine y_ ?_
 refine g_cutK [(0, Ptr b), (1, .func (.func f) #[Ptr b] #[]), (5, .slice bb l.length d), (17, .bool (q1 && q2))] (rdp b s p3 o3 :: .own (.slice bb l.length d) 46 6 (vmV l) :: vsH l) ?_ ?_
 ·cases q1
  all_goals (
   repeat refine x_ ?_
   refine m_ ?_
   refine gl_call _ rfl c3 i_ (fun _ _ _ => trivial) rfl ?_; rintro v A ⟨rfl, rfl⟩
   refine m_ ?_
   (first | refine gl_guard_no rfl rfl rfl rfl rfl rfl rfl ?_ | (refine v_ ?_; refine m_ ?_))
   (first | refine gl_guard_no rfl rfl rfl rfl rfl rfl rfl ?_ | (refine v_ ?_; refine f_ (s_len_sl rfl) ?_))
   (first | refine gl_guard_no rfl rfl rfl rfl rfl rfl rfl ?_ | (refine v_ ?_; refine f_ ((s_leq rfl rfl).eq (congrArg Value.bool ((show decide ((l.length : Int) ≤ 10) = _ from decide_eq_decide.mpr (by omega)).trans hq2.symm))) ?_))
   refine f_ z_4 ?_
   refine gl_nil ?_
   repeat refine y_ ?_)
  all_goals exact at_cut j_ i_
 repeat refine y_ ?_
 refine g_cond rfl (fun h => ?_) (fun h => ?_)
 ·simp only [Bool.and_eq_true] at h
  have hl10 : l.length ≤ 10 := of_decide_eq_true (hq2.symm.trans h.2)
  obtain ⟨k', rfl⟩ : ∃ k', k = k' + 1 := ⟨k - 1, by omega⟩
  obtain ⟨v4, p4, o4, e4, h4b, c4⟩ := hone p3 o3 h3b
  have hst : rowsL s one (k' + 1) (l.map VM.v) ⟨p', o'⟩ = rowsL s one k' (l.map VM.v ++ [v4]) ⟨p4, o4⟩ := by
   rw [rowsL, e3]
   simp only
   rw [if_pos h.1, e4]
  rw [hst] at he
  repeat refine x_ ?_
  refine m_ ?_
  refine m_ ?_
  refine gl_callv _ rfl rfl (ps := [Ptr b]) (qs := []) rfl c4 i_ (fun h hh hb => hg.le hh) rfl ?_; rintro v A ⟨x, hx, rfl, rfl⟩
  refine gl_buildSliceU rfl rfl rfl rfl rfl rfl (xs := vmV [x]) rfl rfl ?_; intro a39 ha39
  refine gl_append rfl rfl (fun a' c' => .there (.there (.there .here))) (fun w hw => (hw.ownN z_3).2.2.1) rfl rfl rfl (vmV_one _) (by show (l.length + 1) * 72 ≤ _; omega) (by omega) rfl ?_; intro a5 c5 hc5
  refine a_ ?_
  repeat refine n_ ?_
  have hvv : vmV (l ++ [x]) = vmV l ++ vmV [x] := vmV_append _ _
  have hmap : (l ++ [x]).map VM.v = l.map VM.v ++ [v4] := by rw [List.map_append, ← hx]; rfl
  refine at_next (k', p4, o4, l ++ [x], a5, c5) ⟨h4b, by simp; omega, by simp only; rw [hmap]; exact he⟩ z_8 ?_ ?_
  ·simp only [List.length_append, List.length_singleton]
   (repeat (first | exact Sub.nil _ | refine Sub.cons rfl ?_))
  ·intro w hw
   simp only
   rw [hvv, vsH_append, List.length_append]
   exact hw.drop.perm (.cons _ (perm_last _ _ _))
 ·have hst : rowsL s one k (l.map VM.v) ⟨p', o'⟩ = (l.map VM.v, ⟨p3, o3⟩) := by
   cases k with
   | zero => rw [rowsL, e3]
   | succ k' =>
    have h2 : q2 = true := hq2.trans (decide_eq_true (by omega))
    rw [h2, Bool.and_true] at h
    rw [rowsL, e3]
    simp only
    rw [if_neg (by rw [h]; simp)]
  obtain ⟨p5, o5, e5, h5a, h5b, c5⟩ := need_ex b s [41] p3 o3 hs h3b (by decide)
  have e : rowsS s one ⟨p, ok⟩ = (l.map VM.v, ⟨p5, o5 && q2⟩) := by
   unfold rowsS
   simp only
   rw [e1, e2]
   simp only
   rw [he, hst]
   simp only
   rw [e5, List.length_map, hq2]
  rw [e]
  repeat refine x_ ?_
  refine m_ ?_
  refine gl_call _ rfl c5 i_ (fun _ _ _ => trivial) rfl ?_; rintro v A ⟨rfl, rfl⟩
  repeat refine n_ ?_
  refine g_cutK [(5, .slice bb l.length d)] (rdp b s p5 (o5 && q2) :: .own (.slice bb l.length d) 46 6 (vmV l) :: vsH l) ?_ ?_
  ·cases o5
   all_goals (
    repeat refine x_ ?_
    refine m_ ?_
    refine m_ ?_
    refine f_ (s_nilCheck rfl) ?_
    refine f_ z_1 ?_
    refine r_ (by exact s_load_blk rfl z_3 a3_2) ?_
    refine m_ ?_
    (first | refine gl_guard_no rfl rfl rfl rfl rfl rfl rfl ?_ | (refine v_ ?_; refine m_ ?_))
    (first | refine gl_guard_no rfl rfl rfl rfl rfl rfl rfl ?_ | (refine v_ ?_; refine f_ (s_len_sl rfl) ?_))
    (first | refine gl_guard_no rfl rfl rfl rfl rfl rfl rfl ?_ | (refine v_ ?_; refine f_ ((s_leq rfl rfl).eq (congrArg Value.bool ((show decide ((l.length : Int) ≤ 10) = _ from decide_eq_decide.mpr (by omega)).trans hq2.symm))) ?_))
    refine f_ z_4 ?_
    refine f_ (s_nilCheck rfl) ?_
    refine f_ z_1 ?_
    (refine gl_store_blkC (pre := [_, _]) (post := []) rfl rfl z_6 z_7 z_7 z_7 ?_)
    refine gl_nil ?_
    repeat refine y_ ?_)
   all_goals exact at_cut j_ i_
  repeat refine x_ ?_
  refine m_ ?_
  refine a_ ?_
  repeat refine n_ ?_
  refine g_ret ?_
  exact at_end1 rfl rfl _ ⟨⟨_, ⟨bb, d, l, rfl, rfl, rfl⟩, rfl⟩, h5b⟩ i_
end Go.Proofs.YtgllpcggdcknaaaGreatDoor.Rp
namespace Go.Proofs.YtgllpcggdcknaaaGreatDoor.Rp
open Go Go.Sl Go.RowKit
def OneP (b : Nat) (s : Bs) (q : RV × RS) (v : Value) (A : List As) : Prop := ∃ x : VM, x.v = q.1 ∧ v = vmA x ∧ A = [rdr b s q.2, OwnS x.a x.v.flags x.c]
theorem one_mk {f : FuncId} {b : Nat} {s : Bs} {one : RS → RV × RS} (h : ∀ p ok, p ≤ s.length → Ct Tryz.prog f [Ptr b] Gl [rdp b s p ok] (OneP b s (one ⟨p, ok⟩)) ∧ (one ⟨p, ok⟩).2.p ≤ s.length) : OneC f b s one := fun p ok hp => by
 obtain ⟨h1, h2⟩ := h p ok hp
 obtain ⟨⟨v, ⟨p1, o1⟩⟩, hv⟩ : ∃ z, z = one ⟨p, ok⟩ := ⟨_, rfl⟩
 rw [← hv] at h1 h2
 exact ⟨v, p1, o1, hv.symm, h2, h1⟩
theorem item_nd : itemW.Nodup := by decide
theorem item_len : itemW.length = 12 := rfl
theorem countedS_le {s : Bs} {p : Nat} {ok : Bool} (hs : s.length < 4294967281) (hp : p ≤ s.length) : (countedS s ⟨p, ok⟩).2.p ≤ s.length := by
 obtain ⟨w, p1, o1, e1, h1p, h1b, h1o, c1⟩ := until_ex 0 s [32, 13] p ok hs hp (by decide)
 obtain ⟨p2, o2, e2, h2a, h2b, c2⟩ := need_ex 0 s [32] p1 o1 hs h1b (by decide)
 obtain ⟨n, p3, o3, e3, h3a, h3b, h3g, c3⟩ := number_ex 0 s p2 o2 hs h2b
 unfold countedS
 simp only
 rw [e1]
 simp only
 rw [e2, e3]
 split
 ·exact h2b
 ·exact h3b
set_option maxRecDepth 8000 in
theorem counted_ct (b : Nat) (s : Bs) (hs : s.length < 4294967281) : OneC 54 b s (countedS s) := one_mk fun p ok hp => by
 refine ⟨?_, countedS_le hs hp⟩
 obtain ⟨w, p1, o1, e1, h1p, h1b, h1o, c1⟩ := until_ex b s [32, 13] p ok hs hp (by decide)
 obtain ⟨p2, o2, e2, h2a, h2b, c2⟩ := need_ex b s [32] p1 o1 hs h1b (by decide)
 have e : countedS s ⟨p, ok⟩ = if countK w = 0 then (V0, ⟨p2, false⟩) else (⟨countK w, (numberS s ⟨p2, o2⟩).1, [], [], false, 0⟩, (numberS s ⟨p2, o2⟩).2) := by
  unfold countedS
  simp only
  rw [e1]
  simp only
  rw [e2]
 rw [e]
 clear e
 refine ct_enter 31 Tryz.func54 rfl rfl rfl ?_
 intro F hg
 repeat refine x_ ?_
 refine gl_allocA rfl ?_; intro g2
 repeat refine x_ ?_
 refine m_ ?_
 refine gl_call [blkV g2 V0 none 0] rfl c1 (fun w hw => hw.perm (List.perm_append_comm (l₁ := [_]) (l₂ := [_]))) (fun _ _ _ => trivial) rfl ?_; rintro v A ⟨rfl, rfl⟩
 refine a_ ?_
 repeat refine x_ ?_
 refine m_ ?_
 refine gl_call _ rfl c2 i_ (fun _ _ _ => trivial) rfl ?_; rintro v A ⟨rfl, rfl⟩
 repeat refine x_ ?_
 refine gl_call _ rfl itemWords_ct i_ (fun _ _ _ => trivial) rfl ?_; rintro v A ⟨a10, rfl, rfl⟩
 refine f_ ((s_slice_sl rfl rfl rfl (by omega)).eq (v' := .slice (some a10) 5 12) rfl) ?_
 refine f_ (s_len_sl rfl) ?_
 refine m_ ?_
 repeat refine n_ ?_
 refine g_loop (ι := Nat) (fun j => j ≤ 5 ∧ ∀ i, i < j → itemW.idxOf w ≠ i) (fun j => [(0, Ptr b), (2, Ptr g2), (3, B w), (11, .slice (some a10) 5 12), (12, .int .i64 5), (13, .int .i64 (j : Nat))]) (fun _ => [rdp b s p2 o2, OwnS (some a10) itemW 12, blkV g2 V0 none 0]) (fun j => 5 - j) 0 ⟨by omega, fun i h => by omega⟩ ?_ ?_ ?_
 ·(repeat (first | exact Sub.nil _ | refine Sub.cons rfl ?_))
 ·intro w' hw; exact hw.perm (.swap _ _ _)
 rintro j ⟨hj, hno⟩
 repeat refine x_ ?_
 refine f_ (s_lss rfl rfl) ?_
 repeat refine n_ ?_
 refine g_cond rfl (fun h => ?_) (fun h => ?_)
 ·have hj' : j < 5 := by simp at h; omega
  have hjl : j < itemW.length := by rw [item_len]; omega
  have hii := idx_iff item_nd hjl w
  repeat refine x_ ?_
  refine m_ ?_
  refine f_ ((s_indexAddr rfl ⟨a10, rfl⟩ rfl (by omega))) ?_
  refine r_ (s_load1 rfl (fun w hw => rdB_own hw z_3 (i := j) z_8 hjl)) ?_
  refine a_ ?_
  refine a_ ?_
  repeat refine x_ ?_
  refine m_ ?_
  refine m_ ?_
  refine f_ ((s_eql_str rfl rfl).eq (v' := .bool (decide (itemW.idxOf w = j))) (congrArg Value.bool (decide_eq_decide.mpr hii))) ?_
  repeat refine n_ ?_
  refine g_cond rfl (fun h2 => ?_) (fun h2 => ?_)
  ·have hij : itemW.idxOf w = j := of_decide_eq_true h2
   have hk : countK w = j + 1 := by unfold countK; rw [hij, if_pos hj']
   rw [hk, if_neg (by omega)]
   obtain ⟨n, p3, o3, e3, h3a, h3b, h3g, c3⟩ := number_ex b s p2 o2 hs h2b
   rw [e3]
   repeat refine x_ ?_
   refine m_ ?_
   refine f_ ((s_add_i64 rfl rfl (by omega)).eq (v' := .int .i64 ((j + 1 : Nat) : Int)) (by congr 1)) ?_
   refine m_ ?_
   refine gl_call _ rfl c3 i_ (fun h hh hb => hg.le hh) rfl ?_; rintro v A ⟨rfl, rfl⟩
   refine f_ (s_bld rfl rfl) ?_
   (refine gl_store_blkW rfl rfl z_6 z_7 z_7 z_2 ?_)
   repeat refine n_ ?_
   refine g_ret ?_
   exact at_endB rfl rfl z_3 rfl _ ⟨⟨⟨(j + 1 : Nat), n, [], [], false, 0⟩, none, 0⟩, rfl, rfl, rfl⟩ (fun w hw => by
    have h1 : Hp F w [rdp b s p3 o3] := hw.left (A := [_])
    exact (h1.addNil 9 1).perm (.swap _ _ _))
  ·have hij : itemW.idxOf w ≠ j := of_decide_eq_false h2
   repeat refine x_ ?_
   refine f_ ((s_add_i64 rfl rfl (by omega)).eq (v' := .int .i64 ((j + 1 : Nat) : Int)) (by congr 1)) ?_
   refine m_ ?_
   repeat refine n_ ?_
   refine at_next (j + 1) ⟨by omega, fun i hi => ?_⟩ (by omega) ?_ ?_
   ·rcases Nat.lt_succ_iff_lt_or_eq.1 hi with h4 | rfl
    ·exact hno i h4
    ·exact hij
   ·(repeat (first | exact Sub.nil _ | refine Sub.cons rfl ?_))
   ·intro w' hw; exact hw
 ·have hj5 : j = 5 := by simp at h; omega
  subst hj5
  have hk : countK w = 0 := by
   unfold countK
   rw [if_neg fun hlt => hno _ hlt rfl]
  rw [if_pos hk]
  repeat refine x_ ?_
  refine m_ ?_
  refine f_ (s_nilCheck rfl) ?_
  refine f_ z_1 ?_
  (refine gl_store_blkC (pre := [_, _]) (post := []) rfl rfl z_6 z_7 z_7 z_7 ?_)
  repeat refine x_ ?_
  refine f_ (s_bld rfl rfl) ?_
  (refine gl_store_blkW rfl rfl z_6 z_7 z_7 z_2 ?_)
  repeat refine n_ ?_
  refine g_ret ?_
  exact at_endB rfl rfl z_3 rfl _ ⟨VM0, rfl, rfl, rfl⟩ (fun w hw => by
   have h1 : Hp F w [rdp b s p2 false] := hw.left (A := [_])
   exact (h1.addNil 9 1).perm (.swap _ _ _))
end Go.Proofs.YtgllpcggdcknaaaGreatDoor.Rp
namespace Go.Proofs.YtgllpcggdcknaaaGreatDoor.Rp
open Go Go.Sl Go.RowKit
theorem fetchK_le (w : Bs) : fetchK w ≤ 12 := by
 unfold fetchK
 split <;> omega
theorem partS_ex (b : Nat) (s : Bs) (k p : Nat) (ok : Bool) (hs : s.length < 4294967281) (hp : p ≤ s.length) : ∃ part fr p1 o1, partS s k ⟨p, ok⟩ = ((part, fr), ⟨p1, o1⟩) ∧ p1 ≤ s.length := by
 obtain ⟨q1, p1, o1, e1, h1a, h1b, h1o, h1t, h1f, c1⟩ := eat_ex b s [60] p ok hs hp (by decide)
 obtain ⟨n, p2, o2, e2, h2a, h2b, h2g, c2⟩ := number_ex b s p1 o1 hs h1b
 obtain ⟨p3, o3, e3, h3a, h3b, c3⟩ := need_ex b s [62] p2 o2 hs h2b (by decide)
 unfold partS
 rw [e1]
 simp only
 rw [e2]
 simp only
 rw [e3]
 split
 ·exact ⟨_, _, _, _, rfl, h3b⟩
 ·exact ⟨_, _, _, _, rfl, hp⟩
def tailS (s : Bs) (k : Nat) (part : Bool) (fr : Nat) (st4 : RS) : RV × RS :=
 if k = 0 then (⟨0, 0, [], [], part, fr⟩, ⟨st4.p, false⟩)
 else if k = 6 then (⟨6, 0, (flagsS s st4).1, [], part, fr⟩, (flagsS s st4).2)
 else if k = 9 then (let m := numberS s (needS s [40] st4); (⟨9, m.1, [], [], part, fr⟩, needS s [41] m.2))
 else if k = 7 ∨ k = 8 then (⟨k, (numberS s st4).1, [], [], part, fr⟩, (numberS s st4).2)
 else (⟨k, 0, [], (litS s st4).1, part, fr⟩, (litS s st4).2)
theorem flagsS_le {s : Bs} {p : Nat} {ok : Bool} (h : p ≤ s.length) : (flagsS s ⟨p, ok⟩).2.p ≤ s.length := by
 unfold flagsS
 split
 ·simp only
  split
  ·exact (needS_le h).1
  ·exact h
 ·exact h
theorem tailS_le {s : Bs} {k : Nat} {part : Bool} {fr p : Nat} {ok : Bool} (hs : s.length < 4294967281) (hp : p ≤ s.length) : (tailS s k part fr ⟨p, ok⟩).2.p ≤ s.length := by
 obtain ⟨p1, o1, e1, h1a, h1b, c1⟩ := need_ex 0 s [40] p ok hs hp (by decide)
 obtain ⟨n, p2, o2, e2, h2a, h2b, h2g, c2⟩ := number_ex 0 s p1 o1 hs h1b
 obtain ⟨p3, o3, e3, h3a, h3b, c3⟩ := need_ex 0 s [41] p2 o2 hs h2b (by decide)
 obtain ⟨m, p4, o4, e4, h4a, h4b, h4g, c4⟩ := number_ex 0 s p ok hs hp
 unfold tailS
 split
 ·exact hp
 split
 ·exact flagsS_le hp
 split
 ·simp only; rw [e1, e2]; simp only; rw [e3]; exact h3b
 split
 ·rw [e4]; exact h4b
 ·exact (litS_le hp).1
set_option maxRecDepth 8000 in
theorem fetched_ct (b : Nat) (s : Bs) (hs : s.length < 4294967281) : OneC 56 b s (fetchedS s) := one_mk fun p ok hp => by
 obtain ⟨w, p1, o1, e1, h1p, h1b, h1o, c1⟩ := until_ex b s [32, 60, 13] p ok hs hp (by decide)
 obtain ⟨part, fr, p2, o2, e2, h2b⟩ := partS_ex b s (fetchK w) p1 o1 hs h1b
 obtain ⟨p4, o4, e4, h4a, h4b, c4⟩ := need_ex b s [32] p2 o2 hs h2b (by decide)
 have e : fetchedS s ⟨p, ok⟩ = tailS s (fetchK w) part fr ⟨p4, o4⟩ := by
  unfold fetchedS
  simp only
  rw [e1]
  simp only
  rw [e2]
  simp only
  rw [e4]
  rfl
 rw [e]
 refine ⟨?_, tailS_le hs h4b⟩
 clear e
 obtain ⟨k, hk⟩ : ∃ k, k = fetchK w := ⟨_, rfl⟩
 rw [← hk] at e2 ⊢
 have hk12 : k ≤ 12 := by rw [hk]; exact fetchK_le w
 refine ct_enter 74 Tryz.func56 rfl rfl rfl ?_
 intro F hg
 repeat refine x_ ?_
 refine gl_allocA rfl ?_; intro g2
 repeat refine x_ ?_
 refine gl_allocA rfl ?_; intro g3
 repeat refine x_ ?_
 refine m_ ?_
 refine gl_call [blkV g3 V0 none 0, blkV g2 V0 none 0] rfl c1 (fun w hw => hw.perm (List.perm_append_comm (l₁ := [_, _]) (l₂ := [_]))) (fun _ _ _ => trivial) rfl ?_; rintro v A ⟨rfl, rfl⟩
 refine a_ ?_
 repeat refine x_ ?_
 refine gl_call _ rfl itemWords_ct i_ (fun _ _ _ => trivial) rfl ?_; rintro v A ⟨a10, rfl, rfl⟩
 refine f_ (s_len_sl rfl) ?_
 refine m_ ?_
 repeat refine n_ ?_
 refine g_loop (ι := Nat) (fun j => j ≤ 12) (fun j => [(0, Ptr b), (2, Ptr g2), (3, Ptr g3), (4, B w), (9, .slice (some a10) 12 12), (10, .int .i64 12), (11, .int .i64 (j : Nat))]) (fun j => [rdp b s p1 o1, OwnS (some a10) itemW 12, blkV g3 ⟨((if 5 ≤ itemW.idxOf w ∧ itemW.idxOf w < j then itemW.idxOf w + 1 else 0 : Nat) : Int), 0, [], [], false, 0⟩ none 0, blkV g2 V0 none 0]) (fun j => 12 - j) 0 (by omega) ?_ ?_ ?_
 ·(repeat (first | exact Sub.nil _ | refine Sub.cons rfl ?_))
 ·intro w' hw
  have e : (if 5 ≤ itemW.idxOf w ∧ itemW.idxOf w < 0 then itemW.idxOf w + 1 else 0 : Nat) = 0 := by rw [if_neg (by omega)]
  simp only [e]
  exact hw.perm (.swap _ _ _)
 rintro j hj
 repeat refine x_ ?_
 refine f_ (s_lss rfl rfl) ?_
 repeat refine n_ ?_
 refine g_cond rfl (fun h => ?_) (fun h => ?_)
 ·have hj' : j < 12 := by simp at h; omega
  have hjl : j < itemW.length := by rw [item_len]; omega
  have hii := idx_iff item_nd hjl w
  obtain ⟨q1, hq1⟩ : ∃ q, q = decide (itemW.idxOf w = j) := ⟨_, rfl⟩
  obtain ⟨q2, hq2⟩ : ∃ q, q = decide (5 ≤ j) := ⟨_, rfl⟩
  repeat refine x_ ?_
  refine m_ ?_
  refine f_ ((s_indexAddr rfl ⟨a10, rfl⟩ rfl (by omega))) ?_
  refine r_ (s_load1 rfl (fun w hw => rdB_own hw z_3 (i := j) z_8 hjl)) ?_
  refine a_ ?_
  refine a_ ?_
  repeat refine n_ ?_
  refine g_cutK [(0, Ptr b), (2, Ptr g2), (3, Ptr g3), (4, B w), (5, .int .i64 (j : Nat)), (9, .slice (some a10) 12 12), (10, .int .i64 12), (11, .int .i64 (j : Nat)), (23, .bool (q1 && q2))] [rdp b s p1 o1, OwnS (some a10) itemW 12, blkV g3 ⟨((if 5 ≤ itemW.idxOf w ∧ itemW.idxOf w < j then itemW.idxOf w + 1 else 0 : Nat) : Int), 0, [], [], false, 0⟩ none 0, blkV g2 V0 none 0] ?_ ?_
  ·cases q1
   all_goals (
    repeat refine x_ ?_
    refine m_ ?_
    refine m_ ?_
    refine f_ ((s_eql_str rfl rfl).eq (congrArg Value.bool ((decide_eq_decide.mpr hii).trans hq1.symm))) ?_
    refine m_ ?_
    (first | refine gl_guard_no rfl rfl rfl rfl rfl rfl rfl ?_ | (refine v_ ?_; refine m_ ?_))
    (first | refine gl_guard_no rfl rfl rfl rfl rfl rfl rfl ?_ | (refine v_ ?_; refine f_ ((s_add_i64 rfl rfl (by omega)).eq (v' := .int .i64 ((j + 1 : Nat) : Int)) (by congr 1)) ?_))
    (first | refine gl_guard_no rfl rfl rfl rfl rfl rfl rfl ?_ | (refine v_ ?_; refine f_ ((s_geq rfl rfl).eq (congrArg Value.bool ((show decide (((j + 1 : Nat) : Int) ≥ 6) = _ from decide_eq_decide.mpr (by omega)).trans hq2.symm))) ?_))
    refine f_ z_4 ?_
    refine gl_nil ?_
    repeat refine y_ ?_)
   all_goals exact at_cut j_ i_
  repeat refine y_ ?_
  refine g_cutK [(0, Ptr b), (2, Ptr g2), (3, Ptr g3), (4, B w), (9, .slice (some a10) 12 12), (10, .int .i64 12), (11, .int .i64 (j : Nat))] [rdp b s p1 o1, OwnS (some a10) itemW 12, blkV g3 ⟨((if 5 ≤ itemW.idxOf w ∧ itemW.idxOf w < j + 1 then itemW.idxOf w + 1 else 0 : Nat) : Int), 0, [], [], false, 0⟩ none 0, blkV g2 V0 none 0] ?_ ?_
  ·refine g_cond rfl (fun h2 => ?_) (fun h2 => ?_)
   ·simp only [Bool.and_eq_true] at h2
    have hi1 : itemW.idxOf w = j := of_decide_eq_true (hq1.symm.trans h2.1)
    have hi2 : 5 ≤ j := of_decide_eq_true (hq2.symm.trans h2.2)
    repeat refine x_ ?_
    refine m_ ?_
    refine f_ ((s_add_i64 rfl rfl (by omega)).eq (v' := .int .i64 ((j + 1 : Nat) : Int)) (by congr 1)) ?_
    refine f_ z_1 ?_
    (refine gl_store_blkC (pre := []) (post := [_, _, _, _, _]) rfl rfl z_6 z_7 z_7 z_7 ?_)
    repeat refine n_ ?_
    refine at_cut j_ (fun w' hw => ?_)
    have e : (if 5 ≤ itemW.idxOf w ∧ itemW.idxOf w < j + 1 then itemW.idxOf w + 1 else 0 : Nat) = j + 1 := by rw [if_pos (by omega), hi1]
    simp only [e]
    exact hw
   ·have hi : ¬(itemW.idxOf w = j ∧ 5 ≤ j) := by
     rintro ⟨a, c⟩
     rw [hq1.trans (decide_eq_true a), hq2.trans (decide_eq_true c)] at h2
     cases h2
    repeat refine y_ ?_
    refine at_cut j_ (fun w' hw => ?_)
    have e : (if 5 ≤ itemW.idxOf w ∧ itemW.idxOf w < j + 1 then itemW.idxOf w + 1 else 0 : Nat) = (if 5 ≤ itemW.idxOf w ∧ itemW.idxOf w < j then itemW.idxOf w + 1 else 0 : Nat) := by split <;> split <;> omega
    simp only [e]
    exact hw
  repeat refine x_ ?_
  refine f_ ((s_add_i64 rfl rfl (by omega)).eq (v' := .int .i64 ((j + 1 : Nat) : Int)) (by congr 1)) ?_
  refine m_ ?_
  repeat refine n_ ?_
  refine at_next (j + 1) (by omega) (by omega) ?_ ?_
  ·(repeat (first | exact Sub.nil _ | refine Sub.cons rfl ?_))
  ·intro w' hw; exact hw
 have hj12 : j = 12 := by simp at h; omega
 subst hj12
 have ek : (if 5 ≤ itemW.idxOf w ∧ itemW.idxOf w < 12 then itemW.idxOf w + 1 else 0 : Nat) = k := by rw [hk]; rfl
 rw [ek]
 repeat refine y_ ?_
 obtain ⟨q1, p5, o5, e5, h5a, h5b, h5o, h5t, h5f, c5⟩ := eat_ex b s [60] p1 o1 hs h1b (by decide)
 obtain ⟨q2, hq2⟩ : ∃ q, q = decide (10 ≤ k) := ⟨_, rfl⟩
 obtain ⟨q, pe, oe, hqt, hqf⟩ : ∃ (q : Bool) (pe : Nat) (oe : Bool), (q2 = true → q = q1 ∧ pe = p5 ∧ oe = o5) ∧ (q2 = false → q = false ∧ pe = p1 ∧ oe = o1) := by
  cases q2 with
  | true => exact ⟨q1, p5, o5, fun _ => ⟨rfl, rfl, rfl⟩, (fun h => nomatch h)⟩
  | false => exact ⟨false, p1, o1, (fun h => nomatch h), fun _ => ⟨rfl, rfl, rfl⟩⟩
 refine g_cutK [(0, Ptr b), (2, Ptr g2), (3, Ptr g3), (34, .bool q)] [rdp b s pe oe, blkV g3 ⟨k, 0, [], [], false, 0⟩ none 0, blkV g2 V0 none 0] ?_ ?_
 ·cases q2
  ·obtain ⟨rfl, rfl, rfl⟩ := hqf rfl
   repeat refine x_ ?_
   refine f_ z_1 ?_
   refine r_ (by exact s_load_blk rfl z_3 a6_0) ?_
   refine f_ ((s_geq rfl rfl).eq (congrArg Value.bool ((show decide ((k : Int) ≥ 10) = _ from decide_eq_decide.mpr (by omega)).trans hq2.symm))) ?_
   refine m_ ?_
   (refine gl_guard_no rfl rfl rfl rfl rfl rfl rfl ?_)
   (refine gl_guard_no rfl rfl rfl rfl rfl rfl rfl ?_)
   refine f_ (by exact s_pick_f rfl rfl) ?_
   repeat refine n_ ?_
   exact at_cut j_ (fun w hw => (hw.perm (.swap _ _ _)).drop)
  ·obtain ⟨rfl, rfl, rfl⟩ := hqt rfl
   repeat refine x_ ?_
   refine f_ z_1 ?_
   refine r_ (by exact s_load_blk rfl z_3 a6_0) ?_
   refine f_ ((s_geq rfl rfl).eq (congrArg Value.bool ((show decide ((k : Int) ≥ 10) = _ from decide_eq_decide.mpr (by omega)).trans hq2.symm))) ?_
   refine m_ ?_
   (refine v_ ?_; refine m_ ?_)
   (refine v_ ?_; refine gl_call _ rfl c5 i_ (fun _ _ _ => trivial) rfl ?_; rintro v A ⟨rfl, rfl⟩)
   refine f_ (by exact s_pick_t rfl rfl) ?_
   repeat refine n_ ?_
   exact at_cut j_ (fun w hw => (hw.perm (.swap _ _ _)).drop)
 repeat refine y_ ?_
 refine g_cutK [(0, Ptr b), (2, Ptr g2), (3, Ptr g3)] [rdp b s p2 o2, blkV g3 ⟨k, 0, [], [], part, fr⟩ none 0, blkV g2 V0 none 0] ?_ ?_
 ·unfold partS at e2
  rw [e5] at e2
  simp only at e2
  refine g_cond rfl (fun h => ?_) (fun h => ?_)
  ·have h2 : q2 = true := by
    cases q2 with
    | true => rfl
    | false => rw [(hqf rfl).1] at h; cases h
   obtain ⟨hq, rfl, rfl⟩ := hqt h2
   have hk10 : 10 ≤ k := of_decide_eq_true (hq2.symm.trans h2)
   rw [if_pos ⟨hk10, by rw [← hq]; exact h⟩] at e2
   obtain ⟨n, p6, o6, e6, h6a, h6b, h6g, c6⟩ := number_ex b s pe oe hs h5b
   obtain ⟨p7, o7, e7, h7a, h7b, c7⟩ := need_ex b s [62] p6 o6 hs h6b (by decide)
   rw [e6] at e2
   simp only at e2
   rw [e7] at e2
   cases e2
   repeat refine x_ ?_
   refine f_ z_1 ?_
   (refine gl_store_blkC (pre := [_, _, _, _]) (post := [_]) rfl rfl z_6 z_7 z_7 z_7 ?_)
   repeat refine x_ ?_
   refine m_ ?_
   refine gl_call _ rfl c6 i_ (fun h hh hb => hg.le hh) rfl ?_; rintro v A ⟨rfl, rfl⟩
   refine f_ z_1 ?_
   (refine gl_store_blkC (pre := [_, _, _, _, _]) (post := []) rfl rfl z_6 z_7 z_7 z_7 ?_)
   repeat refine x_ ?_
   refine m_ ?_
   refine gl_call _ rfl c7 i_ (fun _ _ _ => trivial) rfl ?_; rintro v A ⟨rfl, rfl⟩
   repeat refine n_ ?_
   exact at_cut j_ i_
  ·have hno : ¬(10 ≤ k ∧ q1 = true) := by
    rintro ⟨a, c⟩
    rw [(hqt (hq2.trans (decide_eq_true a))).1, c] at h
    cases h
   rw [if_neg hno] at e2
   cases e2
   have hpe : pe = p1 ∧ oe = o1 := by
    cases q2 with
    | false => exact ⟨(hqf rfl).2.1, (hqf rfl).2.2⟩
    | true =>
     obtain ⟨a, b, c⟩ := hqt rfl
     exact ⟨by rw [b]; exact h5f (by rw [← a]; exact h), by rw [c]; exact h5o⟩
   obtain ⟨rfl, rfl⟩ := hpe
   repeat refine y_ ?_
   exact at_cut j_ i_
 clear hqt hqf hq2
 repeat refine x_ ?_
 refine m_ ?_
 refine gl_call _ rfl c4 i_ (fun _ _ _ => trivial) rfl ?_; rintro v A ⟨rfl, rfl⟩
 repeat refine x_ ?_
 refine f_ z_1 ?_
 refine r_ (by exact s_load_blk rfl z_3 a6_0) ?_
 repeat refine x_ ?_
 refine f_ ((s_eql rfl rfl).eq (v' := .bool (decide (k = 0))) (congrArg Value.bool (show decide ((k : Int) = 0) = _ from decide_eq_decide.mpr (by omega)))) ?_
 refine a_ ?_
 repeat refine n_ ?_
 refine g_cond rfl (fun h => ?_) (fun h => ?_)
 ·have hk0 : k = 0 := of_decide_eq_true h
  have e : tailS s k part fr ⟨p4, o4⟩ = (⟨(k : Nat), 0, [], [], part, fr⟩, ⟨p4, false⟩) := by unfold tailS; rw [if_pos hk0, hk0]; rfl
  rw [e]
  repeat refine x_ ?_
  refine m_ ?_
  refine f_ (s_nilCheck rfl) ?_
  refine f_ z_1 ?_
  (refine gl_store_blkC (pre := [_, _]) (post := []) rfl rfl z_6 z_7 z_7 z_7 ?_)
  repeat refine x_ ?_
  refine r_ ((s_load_blkW rfl z_3 z_7).eq (v' := vmA ⟨⟨(k : Nat), 0, [], [], part, fr⟩, none, 0⟩) rfl) ?_
  (refine gl_store_blkW rfl rfl z_6 z_7 z_7 z_2 ?_)
  repeat refine n_ ?_
  refine g_ret ?_
  exact at_endB rfl rfl z_3 rfl _ ⟨⟨⟨(k : Nat), 0, [], [], part, fr⟩, none, 0⟩, rfl, rfl, rfl⟩ (fun w hw => by
   have h1 : Hp F w [rdp b s p4 false] := hw.left (A := [_])
   exact (h1.addNil 9 1).perm (.swap _ _ _))
 have hk0 : k ≠ 0 := of_decide_eq_false h
 repeat refine x_ ?_
 refine f_ ((s_eql rfl rfl).eq (v' := .bool (decide (k = 6))) (congrArg Value.bool (show decide ((k : Int) = 6) = _ from decide_eq_decide.mpr (by omega)))) ?_
 refine a_ ?_
 repeat refine n_ ?_
 refine g_cond rfl (fun h => ?_) (fun h => ?_)
 ·have hk6 : k = 6 := of_decide_eq_true h
  have c8 := flags_ct b s p4 o4 hs h4b
  obtain ⟨⟨fl, ⟨p8, o8⟩⟩, e8⟩ : ∃ z, z = flagsS s ⟨p4, o4⟩ := ⟨_, rfl⟩
  rw [← e8] at c8
  have e : tailS s k part fr ⟨p4, o4⟩ = (⟨(k : Nat), 0, fl, [], part, fr⟩, ⟨p8, o8⟩) := by unfold tailS; rw [if_neg hk0, if_pos hk6, ← e8, hk6]; rfl
  rw [e]
  repeat refine x_ ?_
  refine m_ ?_
  refine gl_call _ rfl c8 i_ (fun h hh hb => hg.le hh) rfl ?_; rintro v A ⟨a8, n8, rfl, rfl⟩
  refine f_ z_1 ?_
  (refine gl_store_blkC (pre := [_, _]) (post := [_, _, _]) rfl rfl z_6 z_7 z_7 z_7 ?_)
  repeat refine x_ ?_
  refine r_ ((s_load_blkW rfl z_3 z_7).eq (v' := vmA ⟨⟨(k : Nat), 0, fl, [], part, fr⟩, a8, n8⟩) rfl) ?_
  (refine gl_store_blkW rfl rfl z_6 z_7 z_7 z_2 ?_)
  repeat refine n_ ?_
  refine g_ret ?_
  exact at_endB rfl rfl z_3 rfl _ ⟨⟨⟨(k : Nat), 0, fl, [], part, fr⟩, a8, n8⟩, rfl, rfl, rfl⟩ (fun w hw => by
   exact hw.left (A := [_, _]))
 have hk6 : k ≠ 6 := of_decide_eq_false h
 repeat refine x_ ?_
 refine f_ ((s_eql rfl rfl).eq (v' := .bool (decide (k = 9))) (congrArg Value.bool (show decide ((k : Int) = 9) = _ from decide_eq_decide.mpr (by omega)))) ?_
 refine a_ ?_
 repeat refine n_ ?_
 refine g_cond rfl (fun h => ?_) (fun h => ?_)
 ·have hk9 : k = 9 := of_decide_eq_true h
  obtain ⟨p8, o8, e8, h8a, h8b, c8⟩ := need_ex b s [40] p4 o4 hs h4b (by decide)
  obtain ⟨n, p9, o9, e9, h9a, h9b, h9g, c9⟩ := number_ex b s p8 o8 hs h8b
  obtain ⟨pa, oa, ea, haa, hab, ca⟩ := need_ex b s [41] p9 o9 hs h9b (by decide)
  have e : tailS s k part fr ⟨p4, o4⟩ = (⟨(k : Nat), n, [], [], part, fr⟩, ⟨pa, oa⟩) := by
   unfold tailS
   rw [if_neg hk0, if_neg hk6, if_pos hk9]
   simp only
   rw [e8, e9]
   simp only
   rw [ea, hk9]
   rfl
  rw [e]
  repeat refine x_ ?_
  refine m_ ?_
  refine gl_call _ rfl c8 i_ (fun _ _ _ => trivial) rfl ?_; rintro v A ⟨rfl, rfl⟩
  repeat refine x_ ?_
  refine m_ ?_
  refine gl_call _ rfl c9 i_ (fun h hh hb => hg.le hh) rfl ?_; rintro v A ⟨rfl, rfl⟩
  refine f_ z_1 ?_
  (refine gl_store_blkC (pre := [_]) (post := [_, _, _, _]) rfl rfl z_6 z_7 z_7 z_7 ?_)
  repeat refine x_ ?_
  refine m_ ?_
  refine gl_call _ rfl ca i_ (fun _ _ _ => trivial) rfl ?_; rintro v A ⟨rfl, rfl⟩
  repeat refine x_ ?_
  refine r_ ((s_load_blkW rfl z_3 z_7).eq (v' := vmA ⟨⟨(k : Nat), n, [], [], part, fr⟩, none, 0⟩) rfl) ?_
  (refine gl_store_blkW rfl rfl z_6 z_7 z_7 z_2 ?_)
  repeat refine n_ ?_
  refine g_ret ?_
  exact at_endB rfl rfl z_3 rfl _ ⟨⟨⟨(k : Nat), n, [], [], part, fr⟩, none, 0⟩, rfl, rfl, rfl⟩ (fun w hw => by
   have h1 : Hp F w [rdp b s pa oa] := hw.left (A := [_])
   exact (h1.addNil 9 1).perm (.swap _ _ _))
 have hk9 : k ≠ 9 := of_decide_eq_false h
 repeat refine x_ ?_
 refine f_ ((s_eql rfl rfl).eq (v' := .bool (decide (k = 7))) (congrArg Value.bool (show decide ((k : Int) = 7) = _ from decide_eq_decide.mpr (by omega)))) ?_
 refine a_ ?_
 refine gl_nil ?_
 repeat (first | refine g_seq ?_ | refine at_code ?_ | refine g_skip ?_ | refine g_exit rfl ?_ | refine g_cond_t rfl ?_ | refine g_cond_f rfl ?_)
 refine g_cutK [(0, Ptr b), (2, Ptr g2), (3, Ptr g3), (67, .bool (decide (k = 7 ∨ k = 8)))] [rdp b s p4 o4, blkV g3 ⟨k, 0, [], [], part, fr⟩ none 0, blkV g2 V0 none 0] ?_ ?_
 ·refine g_cond rfl (fun h => ?_) (fun h => ?_)
  ·have hk7 : k = 7 := of_decide_eq_true h
   repeat refine y_ ?_
   refine at_cut ?_ i_
   rw [decide_eq_true (.inl hk7), ← h]
   (repeat (first | exact Sub.nil _ | refine Sub.cons rfl ?_))
  ·have hk7 : k ≠ 7 := of_decide_eq_false h
   repeat refine x_ ?_
   refine f_ ((s_eql rfl rfl).eq (v' := .bool (decide (k = 7 ∨ k = 8))) (congrArg Value.bool (show decide ((k : Int) = 8) = _ from decide_eq_decide.mpr (by omega)))) ?_
   refine a_ ?_
   repeat refine n_ ?_
   exact at_cut j_ i_
 repeat refine y_ ?_
 refine g_cond rfl (fun h => ?_) (fun h => ?_)
 ·have hk7 : k = 7 ∨ k = 8 := of_decide_eq_true h
  obtain ⟨n, p9, o9, e9, h9a, h9b, h9g, c9⟩ := number_ex b s p4 o4 hs h4b
  have e : tailS s k part fr ⟨p4, o4⟩ = (⟨(k : Nat), n, [], [], part, fr⟩, ⟨p9, o9⟩) := by unfold tailS; rw [if_neg hk0, if_neg hk6, if_neg hk9, if_pos hk7, e9]
  rw [e]
  repeat refine x_ ?_
  refine m_ ?_
  refine gl_call _ rfl c9 i_ (fun h hh hb => hg.le hh) rfl ?_; rintro v A ⟨rfl, rfl⟩
  refine f_ z_1 ?_
  (refine gl_store_blkC (pre := [_]) (post := [_, _, _, _]) rfl rfl z_6 z_7 z_7 z_7 ?_)
  repeat refine x_ ?_
  refine r_ ((s_load_blkW rfl z_3 z_7).eq (v' := vmA ⟨⟨(k : Nat), n, [], [], part, fr⟩, none, 0⟩) rfl) ?_
  (refine gl_store_blkW rfl rfl z_6 z_7 z_7 z_2 ?_)
  repeat refine n_ ?_
  refine g_ret ?_
  exact at_endB rfl rfl z_3 rfl _ ⟨⟨⟨(k : Nat), n, [], [], part, fr⟩, none, 0⟩, rfl, rfl, rfl⟩ (fun w hw => by
   have h1 : Hp F w [rdp b s p9 o9] := hw.left (A := [_])
   exact (h1.addNil 9 1).perm (.swap _ _ _))
 ·have hk7 : ¬(k = 7 ∨ k = 8) := of_decide_eq_false h
  have c9 := literal_ct b s p4 o4 (by omega) h4b
  obtain ⟨⟨t, ⟨p9, o9⟩⟩, e9⟩ : ∃ z, z = litS s ⟨p4, o4⟩ := ⟨_, rfl⟩
  rw [← e9] at c9
  have e : tailS s k part fr ⟨p4, o4⟩ = (⟨(k : Nat), 0, [], t, part, fr⟩, ⟨p9, o9⟩) := by unfold tailS; rw [if_neg hk0, if_neg hk6, if_neg hk9, if_neg hk7, ← e9]
  rw [e]
  repeat refine x_ ?_
  refine m_ ?_
  refine gl_call _ rfl c9 i_ (fun h hh hb => hg.le hh) rfl ?_; rintro v A ⟨rfl, rfl⟩
  refine f_ z_1 ?_
  (refine gl_store_blkC (pre := [_, _, _]) (post := [_, _]) rfl rfl z_6 z_7 z_7 z_7 ?_)
  repeat refine x_ ?_
  refine r_ ((s_load_blkW rfl z_3 z_7).eq (v' := vmA ⟨⟨(k : Nat), 0, [], t, part, fr⟩, none, 0⟩) rfl) ?_
  (refine gl_store_blkW rfl rfl z_6 z_7 z_7 z_2 ?_)
  repeat refine n_ ?_
  refine g_ret ?_
  exact at_endB rfl rfl z_3 rfl _ ⟨⟨⟨(k : Nat), 0, [], t, part, fr⟩, none, 0⟩, rfl, rfl, rfl⟩ (fun w hw => by
   have h1 : Hp F w [rdp b s p9 o9] := hw.left (A := [_])
   exact (h1.addNil 9 1).perm (.swap _ _ _))
end Go.Proofs.YtgllpcggdcknaaaGreatDoor.Rp
namespace Go.Proofs.YtgllpcggdcknaaaGreatDoor.Rp
open Go Go.Sl Go.RowKit
theorem rp_flags {F : Snap} {w : World} {x : As} {fl : List Bs} {a : Option Addr} {c : Nat} {r : RR} (hr : r.flags = fl) (hn : r.nums = []) (h : Hp F w [x, OwnS a fl c]) : Hp F w (x :: rrH r ⟨none, 0, a, c, none, 0, []⟩) := by
 have h1 := (h.addNil 46 6).addNil 22 1
 unfold rrH
 rw [hr, hn]
 refine h1.perm ?_
 exact (((List.Perm.swap _ _ _).cons _).trans (List.Perm.swap _ _ _)).trans (((List.Perm.swap _ _ _).cons _).cons _)
theorem rp_none {F : Snap} {w : World} {x : As} {r : RR} (hr : r.flags = []) (hn : r.nums = []) (h : Hp F w [x]) : Hp F w (x :: rrH r L0) := by
 have h1 := ((h.addNil 46 6).addNil 9 1).addNil 22 1
 unfold rrH
 rw [hr, hn]
 exact h1.perm (List.perm_append_comm (l₁ := [_, _, _]) (l₂ := [_]))
theorem rp_rows {F : Snap} {w : World} {x : As} {a : Option Addr} {c : Nat} {vs : List VM} {r : RR} (hr : r.flags = []) (hn : r.nums = []) (h : Hp F w (x :: .own (.slice a vs.length c) 46 6 (vmV vs) :: vsH vs)) : Hp F w (x :: rrH r ⟨none, 0, none, 0, a, c, vs⟩) := by
 have h1 := (h.addNil 9 1).addNil 22 1
 unfold rrH
 rw [hr, hn]
 refine h1.perm ?_
 exact (List.Perm.cons _ (.swap _ _ _)).trans (.swap _ _ _)
theorem sc3' (q1 q2 : Bool) : q1 = false ∨ (q1 = true ∧ q2 = false) ∨ (q1 = true ∧ q2 = true) := by
 cases q1 <;> cases q2 <;> simp
theorem digit_head (s : Bs) (p : Nat) : (s.drop p).head?.any isDig = (decide (p < s.length) && isDig (s.getD p 0)) := by
 by_cases h : p < s.length
 ·rw [drop_get h]
  simp [h]
 ·rw [List.drop_of_length_le (by omega), decide_eq_false h]
  rfl
theorem flags_ex (b : Nat) (s : Bs) (p : Nat) (ok : Bool) (hs : s.length < 4294967281) (hp : p ≤ s.length) : ∃ fl p1 o1, flagsS s ⟨p, ok⟩ = (fl, ⟨p1, o1⟩) ∧ p1 ≤ s.length ∧ Ct Tryz.prog 50 [Ptr b] Gl [rdp b s p ok] (fun v A => ∃ a c, v = .slice a fl.length c ∧ A = [rdp b s p1 o1, OwnS a fl c]) := by
 have h1 := flagsS_le (s := s) (ok := ok) hp
 have h2 := flags_ct b s p ok hs hp
 obtain ⟨⟨fl, ⟨p1, o1⟩⟩, he⟩ : ∃ z, z = flagsS s ⟨p, ok⟩ := ⟨_, rfl⟩
 rw [← he] at h1 h2
 exact ⟨fl, p1, o1, he.symm, h1, h2⟩
theorem boxS_le {s : Bs} {p : Nat} {ok : Bool} (hp : p ≤ s.length) : (boxS s ⟨p, ok⟩).2.p ≤ s.length := by
 unfold boxS
 split
 ·simp only
  unfold boxT
  simp only
  have h1 := untilS_le (s := s) (w := [32, 13]) (ok := ok) hp
  have h2 := uqS_le (s := s.drop p)
  rw [List.length_drop] at h2
  split
  ·simp only; omega
  ·exact h1.1
 ·exact hp
theorem box_ex (b : Nat) (s : Bs) (p : Nat) (ok : Bool) (hs : s.length < 4294967281) (hp : p ≤ s.length) : ∃ t p1 o1, boxS s ⟨p, ok⟩ = (t, ⟨p1, o1⟩) ∧ p1 ≤ s.length ∧ Ct Tryz.prog 51 [Ptr b] Gl [rdp b s p ok] (fun v A => v = B t ∧ A = [rdp b s p1 o1]) := by
 have h1 := boxS_le (s := s) (ok := ok) hp
 have h2 := boxR_ct b s p ok hs hp
 obtain ⟨⟨t, ⟨p1, o1⟩⟩, he⟩ : ∃ z, z = boxS s ⟨p, ok⟩ := ⟨_, rfl⟩
 rw [← he] at h1 h2
 exact ⟨t, p1, o1, he.symm, h1, h2⟩
set_option maxRecDepth 8000 in
theorem untagged_ct (b : Nat) (s : Bs) (p : Nat) (ok : Bool) (hs : s.length < 4294967281) (hp : p ≤ s.length) : Ct Tryz.prog 22 [Ptr b] Gl [rdp b s p ok] (RdP b s (untaggedS s ⟨p, ok⟩)) := by
 obtain ⟨q1, p1, o1, e1, h1a, h1b, h1o, h1t, h1f, c1⟩ := eat_ex b s wFlags p ok hs hp (by decide)
 refine ct_enter 92 Tryz.func22 rfl rfl rfl ?_
 intro F hg
 repeat refine x_ ?_
 refine gl_allocA rfl ?_; intro g2
 repeat refine x_ ?_
 refine m_ ?_
 refine gl_call [blkR g2 R0 L0] rfl c1 (fun w hw => hw.perm (.swap _ _ _)) (fun _ _ _ => trivial) rfl ?_; rintro v A ⟨rfl, rfl⟩
 refine a_ ?_
 repeat refine n_ ?_
 refine g_cond rfl (fun h => ?_) (fun h => ?_)
 ·obtain ⟨fl, p2, o2, e2, h2b, c2⟩ := flags_ex b s p1 o1 hs h1b
  have e : untaggedS s ⟨p, ok⟩ = (⟨10, [], [], [], 0, [], 0, fl, [], []⟩, ⟨p2, o2⟩) := by
   unfold untaggedS
   rw [e1, if_pos h, e2]
  rw [e]
  repeat refine x_ ?_
  refine m_ ?_
  refine gl_call _ rfl c2 i_ (fun h hh hb => hg.le hh) rfl ?_; rintro v A ⟨a2, n2, rfl, rfl⟩
  refine f_ (s_bld rfl rfl) ?_
  (refine gl_store_blkW rfl rfl z_6 z_7 z_7 z_2 ?_)
  repeat refine n_ ?_
  refine g_ret ?_
  exact at_endB rfl rfl z_3 rfl _ ⟨⟨_, ⟨⟨none, 0, a2, n2, none, 0, []⟩, rfl, rfl, rfl⟩, rfl⟩, h2b⟩ (fun w hw => rp_flags rfl rfl (hw.left (A := [_, _])))
 have z1 : q1 = false := h
 obtain rfl : p1 = p := h1f z1
 obtain rfl : o1 = ok := h1o
 obtain ⟨q2, p2, o2, e2, h2a, h2b, h2o, h2t, h2f, c2⟩ := eat_ex b s wList p1 o1 hs h1b (by decide)
 repeat refine x_ ?_
 refine m_ ?_
 refine gl_call _ rfl c2 i_ (fun _ _ _ => trivial) rfl ?_; rintro v A ⟨rfl, rfl⟩
 refine a_ ?_
 repeat refine n_ ?_
 refine g_cond rfl (fun h => ?_) (fun h => ?_)
 ·obtain ⟨t, p3, o3, e3, h3b, c3⟩ := box_ex b s p2 o2 hs h2b
  have e : untaggedS s ⟨p1, o1⟩ = (⟨11, [], [], [], 0, [], 0, [], t, []⟩, ⟨p3, o3⟩) := by
   unfold untaggedS
   rw [e1, if_neg (by rw [z1]; simp), e2, if_pos h, e3]
  rw [e]
  repeat refine x_ ?_
  refine m_ ?_
  refine gl_call _ rfl c3 i_ (fun h hh hb => hg.le hh) rfl ?_; rintro v A ⟨rfl, rfl⟩
  refine f_ (s_bld rfl rfl) ?_
  (refine gl_store_blkW rfl rfl z_6 z_7 z_7 z_2 ?_)
  repeat refine n_ ?_
  refine g_ret ?_
  exact at_endB rfl rfl z_3 rfl _ ⟨⟨_, ⟨L0, rfl, rfl, rfl⟩, rfl⟩, h3b⟩ (fun w hw => rp_none rfl rfl (hw.left (A := [_])))
 have z2 : q2 = false := h
 obtain rfl : p2 = p1 := h2f z2
 obtain rfl : o2 = o1 := h2o
 obtain ⟨q3, p3, o3, e3, h3a, h3b, h3o, h3t, h3f, c3⟩ := eat_ex b s wSearch p2 o2 hs h2b (by decide)
 repeat refine x_ ?_
 refine m_ ?_
 refine gl_call _ rfl c3 i_ (fun _ _ _ => trivial) rfl ?_; rintro v A ⟨rfl, rfl⟩
 refine a_ ?_
 repeat refine n_ ?_
 refine g_cond rfl (fun h => ?_) (fun h => ?_)
 ·have e : untaggedS s ⟨p2, o2⟩ = searchS s ⟨p3, o3⟩ := by
   unfold untaggedS
   rw [e1, if_neg (by rw [z1]; simp), e2, if_neg (by rw [z2]; simp), e3, if_pos h]
  rw [e]
  repeat refine x_ ?_
  refine m_ ?_
  refine gl_call _ rfl (search_ct b s p3 o3 hs h3b) i_ (fun h hh hb => hg.le hh) rfl ?_; rintro v A ⟨⟨A', ⟨x, hx, rfl, rfl⟩, rfl⟩, hle⟩; refine gl_pull (fun w hw => hw.perm List.perm_append_comm) ?_; simp only [List.cons_append, List.nil_append]
  (refine gl_store_blkW rfl rfl z_6 z_7 z_7 z_2 ?_)
  repeat refine n_ ?_
  refine g_ret ?_
  exact at_endB rfl rfl z_3 rfl _ ⟨⟨_, ⟨x, hx, rfl, rfl⟩, rfl⟩, hle⟩ (fun w hw => hw.drop)
 have z3 : q3 = false := h
 obtain rfl : p3 = p2 := h3f z3
 obtain rfl : o3 = o2 := h3o
 obtain ⟨q4, p4, o4, e4, h4a, h4b, h4o, h4t, h4f, c4⟩ := eat_ex b s wStatus p3 o3 hs h3b (by decide)
 repeat refine x_ ?_
 refine m_ ?_
 refine gl_call _ rfl c4 i_ (fun _ _ _ => trivial) rfl ?_; rintro v A ⟨rfl, rfl⟩
 refine a_ ?_
 repeat refine n_ ?_
 refine g_cond rfl (fun h => ?_) (fun h => ?_)
 ·obtain ⟨t, p5, o5, e5, h5b, c5⟩ := box_ex b s p4 o4 hs h4b
  obtain ⟨p6, o6, e6, h6a, h6b, c6⟩ := need_ex b s [32] p5 o5 hs h5b (by decide)
  have c7 := rows_ct 54 (countedS s) b s (counted_ct b s hs) p6 o6 hs h6b
  obtain ⟨⟨l, ⟨p7, o7⟩⟩, e7⟩ : ∃ z, z = rowsS s (countedS s) ⟨p6, o6⟩ := ⟨_, rfl⟩
  rw [← e7] at c7
  have e : untaggedS s ⟨p3, o3⟩ = (⟨12, [], [], [], 0, [], 0, [], t, l⟩, ⟨p7, o7⟩) := by
   unfold untaggedS
   rw [e1, if_neg (by rw [z1]; simp), e2, if_neg (by rw [z2]; simp), e3, if_neg (by rw [z3]; simp), e4, if_pos h]
   simp only
   rw [e5]
   simp only
   rw [e6, ← e7]
  rw [e]
  repeat refine x_ ?_
  refine m_ ?_
  refine gl_call _ rfl c5 i_ (fun h hh hb => hg.le hh) rfl ?_; rintro v A ⟨rfl, rfl⟩
  refine a_ ?_
  repeat refine x_ ?_
  refine m_ ?_
  refine gl_call _ rfl c6 i_ (fun _ _ _ => trivial) rfl ?_; rintro v A ⟨rfl, rfl⟩
  repeat refine x_ ?_
  refine m_ ?_
  refine m_ ?_
  refine m_ ?_
  refine f_ (s_makeFunc rfl rfl) ?_
  refine gl_call _ rfl c7 i_ (fun h hh hb => hg.le hh) rfl ?_; rintro v A ⟨⟨A', ⟨a7, n7, vs, hvs, rfl, rfl⟩, rfl⟩, hle⟩; refine gl_pull (fun w hw => hw.perm List.perm_append_comm) ?_; simp only [List.cons_append, List.nil_append]
  refine f_ (s_bld rfl rfl) ?_
  (refine gl_store_blkW rfl rfl z_6 z_7 z_7 z_2 ?_)
  repeat refine n_ ?_
  refine g_ret ?_
  exact at_endB rfl rfl z_3 rfl _ ⟨⟨_, ⟨⟨none, 0, none, 0, a7, n7, vs⟩, hvs, rfl, rfl⟩, rfl⟩, hle⟩ (fun w hw => rp_rows rfl rfl hw.drop)
 have z4 : q4 = false := h
 obtain rfl : p4 = p3 := h4f z4
 obtain rfl : o4 = o3 := h4o
 have e : untaggedS s ⟨p4, o4⟩ = if (s.drop p4).head?.any isDig = true then numbered s ⟨p4, o4⟩ else toldS s [42] ⟨p4, o4⟩ := by
  unfold untaggedS
  rw [e1, if_neg (by rw [z1]; simp), e2, if_neg (by rw [z2]; simp), e3, if_neg (by rw [z3]; simp), e4, if_neg (by rw [z4]; simp)]
 rw [e]
 clear e
 obtain ⟨r1, hr1⟩ : ∃ q, q = decide ((p4 : Int) < (s.length : Nat)) := ⟨_, rfl⟩
 obtain ⟨r2, hr2⟩ : ∃ q, q = decide (((s.getD p4 0).toNat : Int) ≥ 48) := ⟨_, rfl⟩
 obtain ⟨r3, hr3⟩ : ∃ q, q = decide ((((s.getD p4 0).toNat : Nat) : Int) ≤ 57) := ⟨_, rfl⟩
 have hdg : (s.drop p4).head?.any isDig = (r1 && (r2 && r3)) := by
  rw [digit_head]
  have h1 : decide (p4 < s.length) = r1 := by rw [hr1]; exact decide_eq_decide.mpr (by omega)
  have h2 : isDig (s.getD p4 0) = (r2 && r3) := by
   rw [hr2, hr3, Bool.eq_iff_iff]
   simp only [isDig, Bool.and_eq_true, decide_eq_true_eq]
   omega
  rw [h1, h2]
 rw [hdg]
 repeat refine y_ ?_
 refine g_cutK [(0, Ptr b), (2, Ptr g2), (35, .bool (r1 && (r2 && r3)))] [rdp b s p4 o4, blkR g2 R0 L0] ?_ ?_
 ·rcases sc3' r1 r2 with rfl | ⟨rfl, rfl⟩ | ⟨rfl, rfl⟩
  all_goals (
   repeat refine y_ ?_
   refine g_draw0 ([3, 7, 14, 18, 26, 30], [0, 1, 3, 7, 0, 16, 48, 112, 240, 511, 1023, 2047, 4095, 8191, 16383, 2047, 34815, 100351, 231423, 524287, 1048575, 2097151, 4194303, 8388607, 16777215, 33554431, 67108863, 8388607, 142606335, 411041791, 947912703, 2147483647, 4294967295, 8589934591, 17179869183], []) 35 rfl ?_
   refine w_ 0 rfl (s_move rfl) ?_
   refine w_ 1 rfl (s_nilCheck rfl) ?_
   refine w_ 2 rfl z_1 ?_
   (refine ga_read 3 rfl z_3 (s_load_blk rfl .del a3_1) rfl rfl rfl z_5 ?_)
   refine w_ 4 rfl (s_move rfl) ?_
   refine w_ 5 rfl (s_nilCheck rfl) ?_
   refine w_ 6 rfl z_1 ?_
   (refine ga_read 7 rfl z_3 (s_load_blk rfl .del a3_0) rfl rfl rfl z_5 ?_)
   refine w_ 8 rfl (s_len_str rfl) ?_
   refine w_ 9 rfl ((s_lss rfl rfl).eb hr1) ?_
   refine w_ 10 rfl (s_move rfl) ?_
   (first | refine s_ 11 ?_ | refine ga_free_g 11 rfl (s_move rfl) rfl rfl rfl rfl rfl rfl z_5 ?_)
   (first | refine s_ 12 ?_ | refine ga_free_g 12 rfl (s_nilCheck rfl) rfl rfl rfl rfl rfl rfl z_5 ?_)
   (first | refine s_ 13 ?_ | refine ga_free_g 13 rfl z_1 rfl rfl rfl rfl rfl rfl z_5 ?_)
   (first | refine s_ 14 ?_ | refine ga_read_g 14 rfl z_3 (s_load_blk rfl .del a3_0) rfl rfl rfl rfl rfl rfl z_5 ?_)
   (first | refine s_ 15 ?_ | refine ga_free_g 15 rfl (s_move rfl) rfl rfl rfl rfl rfl rfl z_5 ?_)
   (first | refine s_ 16 ?_ | refine ga_free_g 16 rfl (s_nilCheck rfl) rfl rfl rfl rfl rfl rfl z_5 ?_)
   (first | refine s_ 17 ?_ | refine ga_free_g 17 rfl z_1 rfl rfl rfl rfl rfl rfl z_5 ?_)
   (first | refine s_ 18 ?_ | refine ga_read_g 18 rfl z_3 (s_load_blk rfl .del a3_1) rfl rfl rfl rfl rfl rfl z_5 ?_)
   (first | refine s_ 19 ?_ | refine ga_free_g 19 rfl ((s_index_str rfl rfl (by have := of_decide_eq_true hr1.symm; omega)).eq (v' := U8 (s.getD p4 0)) (by simp only [Int.toNat_natCast])) rfl rfl rfl rfl rfl rfl z_5 ?_)
   (first | refine s_ 20 ?_ | refine ga_free_g 20 rfl ((s_geq rfl rfl).eb hr2) rfl rfl rfl rfl rfl rfl z_5 ?_)
   refine w_ 21 rfl z_4 ?_
   refine w_ 22 rfl (s_move rfl) ?_
   (first | refine s_ 23 ?_ | refine ga_free_g 23 rfl (s_move rfl) rfl rfl rfl rfl rfl rfl z_5 ?_)
   (first | refine s_ 24 ?_ | refine ga_free_g 24 rfl (s_nilCheck rfl) rfl rfl rfl rfl rfl rfl z_5 ?_)
   (first | refine s_ 25 ?_ | refine ga_free_g 25 rfl z_1 rfl rfl rfl rfl rfl rfl z_5 ?_)
   (first | refine s_ 26 ?_ | refine ga_read_g 26 rfl z_3 (s_load_blk rfl .del a3_0) rfl rfl rfl rfl rfl rfl z_5 ?_)
   (first | refine s_ 27 ?_ | refine ga_free_g 27 rfl (s_move rfl) rfl rfl rfl rfl rfl rfl z_5 ?_)
   (first | refine s_ 28 ?_ | refine ga_free_g 28 rfl (s_nilCheck rfl) rfl rfl rfl rfl rfl rfl z_5 ?_)
   (first | refine s_ 29 ?_ | refine ga_free_g 29 rfl z_1 rfl rfl rfl rfl rfl rfl z_5 ?_)
   (first | refine s_ 30 ?_ | refine ga_read_g 30 rfl z_3 (s_load_blk rfl .del a3_1) rfl rfl rfl rfl rfl rfl z_5 ?_)
   (first | refine s_ 31 ?_ | refine ga_free_g 31 rfl ((s_index_str rfl rfl (by have := of_decide_eq_true hr1.symm; omega)).eq (v' := U8 (s.getD p4 0)) (by simp only [Int.toNat_natCast])) rfl rfl rfl rfl rfl rfl z_5 ?_)
   (first | refine s_ 32 ?_ | refine ga_free_g 32 rfl ((s_leq rfl rfl).eb hr3) rfl rfl rfl rfl rfl rfl z_5 ?_)
   refine w_ 33 rfl z_4 ?_
   refine w_ 34 rfl (s_assign rfl) ?_
   refine ga_done z_5 ?_
   repeat refine y_ ?_)
  all_goals exact at_cut j_ i_
 repeat refine y_ ?_
 refine g_cond rfl (fun h => ?_) (fun h => ?_)
 ·rw [if_pos h]
  obtain ⟨n, p5, o5, e5, h5a, h5b, h5g, c5⟩ := number_ex b s p4 o4 hs h4b
  obtain ⟨q6, p6, o6, e6, h6a, h6b, h6o, h6t, h6f, c6⟩ := eat_ex b s wExists p5 o5 hs h5b (by decide)
  repeat refine x_ ?_
  refine m_ ?_
  refine gl_call _ rfl c5 i_ (fun h hh hb => hg.le hh) rfl ?_; rintro v A ⟨rfl, rfl⟩
  refine f_ (s_bld rfl rfl) ?_
  refine gl_allocA rfl ?_; intro g4
  (refine gl_store_blkW rfl rfl z_6 z_7 z_7 z_2 ?_)
  repeat refine x_ ?_
  refine m_ ?_
  refine gl_call [blkR g4 ⟨0, [], [], [], n, [], 0, [], [], []⟩ L0, blkR g2 R0 L0] rfl c6 (fun w hw => hw.perm (.swap _ _ _)) (fun _ _ _ => trivial) rfl ?_; rintro v A ⟨rfl, rfl⟩
  refine a_ ?_
  repeat refine n_ ?_
  refine g_cond rfl (fun h => ?_) (fun h => ?_)
  ·have e : numbered s ⟨p4, o4⟩ = (⟨8, [], [], [], n, [], 0, [], [], []⟩, ⟨p6, o6⟩) := by
    unfold numbered
    simp only
    rw [e5, e6, if_pos h]
   rw [e]
   repeat refine x_ ?_
   refine f_ z_1 ?_
   (refine gl_store_blkC (pre := []) (post := [_, _, _, _, _, _, _, _, _]) rfl rfl z_6 z_7 z_7 z_7 ?_)
   repeat refine x_ ?_
   refine r_ ((s_load_blkW rfl z_3 z_7).eq (v' := rrA ⟨8, [], [], [], n, [], 0, [], [], []⟩ L0) rfl) ?_
   (refine gl_store_blkW rfl rfl z_6 z_7 z_7 z_2 ?_)
   repeat refine n_ ?_
   refine g_ret ?_
   exact at_endB rfl rfl z_3 rfl _ ⟨⟨_, ⟨L0, rfl, rfl, rfl⟩, rfl⟩, h6b⟩ (fun w hw => rp_none rfl rfl (hw.left (A := [_])))
  have z6 : q6 = false := h
  obtain rfl : p6 = p5 := h6f z6
  obtain rfl : o6 = o5 := h6o
  obtain ⟨q7, p7, o7, e7, h7a, h7b, h7o, h7t, h7f, c7⟩ := eat_ex b s wExpunge p6 o6 hs h6b (by decide)
  repeat refine x_ ?_
  refine m_ ?_
  refine gl_call _ rfl c7 i_ (fun _ _ _ => trivial) rfl ?_; rintro v A ⟨rfl, rfl⟩
  refine a_ ?_
  repeat refine n_ ?_
  refine g_cond rfl (fun h => ?_) (fun h => ?_)
  ·have e : numbered s ⟨p4, o4⟩ = (⟨9, [], [], [], n, [], 0, [], [], []⟩, ⟨p7, o7⟩) := by
    unfold numbered
    simp only
    rw [e5, e6, if_neg (by rw [z6]; simp), e7, if_pos h]
   rw [e]
   repeat refine x_ ?_
   refine f_ z_1 ?_
   (refine gl_store_blkC (pre := []) (post := [_, _, _, _, _, _, _, _, _]) rfl rfl z_6 z_7 z_7 z_7 ?_)
   repeat refine x_ ?_
   refine r_ ((s_load_blkW rfl z_3 z_7).eq (v' := rrA ⟨9, [], [], [], n, [], 0, [], [], []⟩ L0) rfl) ?_
   (refine gl_store_blkW rfl rfl z_6 z_7 z_7 z_2 ?_)
   repeat refine n_ ?_
   refine g_ret ?_
   exact at_endB rfl rfl z_3 rfl _ ⟨⟨_, ⟨L0, rfl, rfl, rfl⟩, rfl⟩, h7b⟩ (fun w hw => rp_none rfl rfl (hw.left (A := [_])))
  have z7 : q7 = false := h
  obtain rfl : p7 = p6 := h7f z7
  obtain rfl : o7 = o6 := h7o
  obtain ⟨p8, o8, e8, h8a, h8b, c8⟩ := need_ex b s wFetch p7 o7 hs h7b (by decide)
  have c9 := rows_ct 56 (fetchedS s) b s (fetched_ct b s hs) p8 o8 hs h8b
  obtain ⟨⟨l, ⟨p9, o9⟩⟩, e9⟩ : ∃ z, z = rowsS s (fetchedS s) ⟨p8, o8⟩ := ⟨_, rfl⟩
  rw [← e9] at c9
  have e : numbered s ⟨p4, o4⟩ = (⟨14, [], [], [], n, [], 0, [], [], l⟩, ⟨p9, o9⟩) := by
   unfold numbered
   simp only
   rw [e5, e6, if_neg (by rw [z6]; simp), e7, if_neg (by rw [z7]; simp)]
   simp only
   rw [e8, ← e9]
  rw [e]
  repeat refine x_ ?_
  refine m_ ?_
  refine gl_call _ rfl c8 i_ (fun _ _ _ => trivial) rfl ?_; rintro v A ⟨rfl, rfl⟩
  repeat refine x_ ?_
  refine f_ z_1 ?_
  (refine gl_store_blkC (pre := []) (post := [_, _, _, _, _, _, _, _, _]) rfl rfl z_6 z_7 z_7 z_7 ?_)
  repeat refine x_ ?_
  refine m_ ?_
  refine m_ ?_
  refine f_ (s_makeFunc rfl rfl) ?_
  refine gl_call _ rfl c9 i_ (fun h hh hb => hg.le hh) rfl ?_; rintro v A ⟨⟨A', ⟨a7, n7, vs, hvs, rfl, rfl⟩, rfl⟩, hle⟩; refine gl_pull (fun w hw => hw.perm List.perm_append_comm) ?_; simp only [List.cons_append, List.nil_append]
  refine f_ z_1 ?_
  (refine gl_store_blkC (pre := [_, _, _, _, _, _, _, _, _]) (post := []) rfl rfl z_6 z_7 z_7 z_7 ?_)
  repeat refine x_ ?_
  refine r_ ((s_load_blkW rfl z_3 z_7).eq (v' := rrA ⟨14, [], [], [], n, [], 0, [], [], l⟩ ⟨none, 0, none, 0, a7, n7, vs⟩) rfl) ?_
  (refine gl_store_blkW rfl rfl z_6 z_7 z_7 z_2 ?_)
  repeat refine n_ ?_
  refine g_ret ?_
  exact at_endB rfl rfl z_3 rfl _ ⟨⟨_, ⟨⟨none, 0, none, 0, a7, n7, vs⟩, hvs, rfl, rfl⟩, rfl⟩, hle⟩ (fun w hw => rp_rows rfl rfl hw.drop.drop)
 ·rw [if_neg (by rw [h]; simp)]
  repeat refine x_ ?_
  refine m_ ?_
  refine gl_call _ rfl (told_ct b s [42] p4 o4 hs h4b) i_ (fun _ _ _ => trivial) rfl ?_; rintro v A ⟨⟨A', ⟨x, hx, rfl, rfl⟩, rfl⟩, hle⟩; refine gl_pull (fun w hw => hw.perm List.perm_append_comm) ?_; simp only [List.cons_append, List.nil_append]
  (refine gl_store_blkW rfl rfl z_6 z_7 z_7 z_2 ?_)
  repeat refine n_ ?_
  refine g_ret ?_
  exact at_endB rfl rfl z_3 rfl _ ⟨⟨_, ⟨x, hx, rfl, rfl⟩, rfl⟩, hle⟩ (fun w hw => hw.drop)
end Go.Proofs.YtgllpcggdcknaaaGreatDoor.Rp
namespace Go.Proofs.YtgllpcggdcknaaaGreatDoor.Rp
open Go Go.Sl Go.RowKit
def ReadW (o : Option (RR × Nat)) (v : Value) (A : List As) : Prop := ∃ x : RL, (o.getD (R0, 0)).1.values = x.vs.map VM.v ∧ v = .tuple #[rrA (o.getD (R0, 0)).1 x, .int .i64 ((o.getD (R0, 0)).2 : Nat), .int .i64 (if o.isSome = true then 0 else 4)] ∧ A = rrH (o.getD (R0, 0)).1 x
theorem perm_r3 {α : Type} (a b c : α) (Z : List α) : List.Perm (a :: b :: c :: Z) (c :: a :: b :: Z) := (List.Perm.cons a (.swap _ _ _)).trans (.swap _ _ _)
set_option maxRecDepth 8000 in
theorem Read_ct (s : Bs) (hs : s.length < 4294967281) : Ct Tryz.prog 12 [B s] Gl [] (ReadW (readS s)) := by
 refine ct_enter 85 Tryz.func12 rfl rfl rfl ?_
 intro F hg
 repeat refine x_ ?_
 refine gl_allocA rfl ?_; intro g2
 refine a_ ?_
 refine a_ ?_
 repeat refine x_ ?_
 refine m_ ?_
 refine f_ ((s_build (v := .agg #[B s, .int .i64 0, .bool true]) rfl (fun w => run_build w _ _ _ z_5))) ?_
 refine gl_boxA rfl rfl ?_; intro g10
 refine a_ ?_
 repeat refine x_ ?_
 refine gl_allocA rfl ?_; intro g6
 repeat refine n_ ?_
 obtain ⟨q1, p1, o1, e1, h1a, h1b, h1o, h1t, h1f, c1⟩ := eat_ex g10 s (caps ++ crlf) 0 true hs (by omega) (by decide)
 repeat refine x_ ?_
 refine m_ ?_
 refine gl_call [blkR g6 R0 L0, blkR g2 R0 L0] rfl c1 (fun w hw => hw.perm (.swap _ _ _)) (fun _ _ _ => trivial) rfl ?_; rintro v A ⟨rfl, rfl⟩
 refine a_ ?_
 repeat refine n_ ?_
 refine g_cond rfl (fun h => ?_) (fun h => ?_)
 ·have e : readS s = some (⟨6, [], [], [], 0, [], 0, [], [], []⟩, p1) := by
   unfold readS
   simp only
   rw [e1, if_pos h]
  rw [e]
  repeat refine y_ ?_
  refine g_draw ([4], [0, 0, 2, 6, 14, 1, 63, 127], [5]) [rdp g10 s p1 o1] 8 rfl ?_
  refine w_ 0 rfl (s_bld rfl rfl) ?_
  refine w_ 1 rfl (s_move rfl) ?_
  refine w_ 2 rfl (s_nilCheck rfl) ?_
  refine w_ 3 rfl z_1 ?_
  (refine ga_read_k 4 rfl (by exact .head _) (s_load_blk rfl .del a3_1) k_ rfl rfl rfl z_5 ?_)
  refine ga_one 5 rfl z_5 ?_
  (refine gl_store_blkW rfl rfl z_6 z_7 z_7 z_2 ?_)
  refine gl_nil ?_
  refine at_ga (.inr (by exact keeps_of k_)) ?_
  refine w_ 6 rfl (s_assign rfl) ?_
  refine w_ 7 rfl (s_assign rfl) ?_
  refine ga_done z_5 ?_
  repeat refine y_ ?_
  refine g_ret ?_
  exact at_endB2 rfl rfl rfl rfl z_3 rfl _ ⟨L0, rfl, rfl, rfl⟩ (fun w hw => ((hw.dropAll.addNil 46 6).addNil 9 1).addNil 22 1)
 have z1 : q1 = false := h
 obtain rfl : p1 = 0 := h1f z1
 obtain rfl : o1 = true := h1o
 obtain ⟨q2, p2, o2, e2, h2a, h2b, h2o, h2t, h2f, c2⟩ := eat_ex g10 s (enab ++ crlf) 0 true hs (by omega) (by decide)
 repeat refine x_ ?_
 refine m_ ?_
 refine gl_call _ rfl c2 i_ (fun _ _ _ => trivial) rfl ?_; rintro v A ⟨rfl, rfl⟩
 refine a_ ?_
 repeat refine n_ ?_
 refine g_cond rfl (fun h => ?_) (fun h => ?_)
 ·have e : readS s = some (⟨7, [], [], [], 0, [], 0, [], [], []⟩, p2) := by
   unfold readS
   simp only
   rw [e1, if_neg (by rw [z1]; simp), e2, if_pos h]
  rw [e]
  repeat refine y_ ?_
  refine g_draw ([4], [0, 0, 2, 6, 14, 1, 63, 127], [5]) [rdp g10 s p2 o2] 8 rfl ?_
  refine w_ 0 rfl (s_bld rfl rfl) ?_
  refine w_ 1 rfl (s_move rfl) ?_
  refine w_ 2 rfl (s_nilCheck rfl) ?_
  refine w_ 3 rfl z_1 ?_
  (refine ga_read_k 4 rfl (by exact .head _) (s_load_blk rfl .del a3_1) k_ rfl rfl rfl z_5 ?_)
  refine ga_one 5 rfl z_5 ?_
  (refine gl_store_blkW rfl rfl z_6 z_7 z_7 z_2 ?_)
  refine gl_nil ?_
  refine at_ga (.inr (by exact keeps_of k_)) ?_
  refine w_ 6 rfl (s_assign rfl) ?_
  refine w_ 7 rfl (s_assign rfl) ?_
  refine ga_done z_5 ?_
  repeat refine y_ ?_
  refine g_ret ?_
  exact at_endB2 rfl rfl rfl rfl z_3 rfl _ ⟨L0, rfl, rfl, rfl⟩ (fun w hw => ((hw.dropAll.addNil 46 6).addNil 9 1).addNil 22 1)
 have z2 : q2 = false := h
 obtain rfl : p2 = 0 := h2f z2
 obtain rfl : o2 = true := h2o
 obtain ⟨q3, p3, o3, e3, h3a, h3b, h3o, h3t, h3f, c3⟩ := eat_ex g10 s [43, 32] 0 true hs (by omega) (by decide)
 repeat refine x_ ?_
 refine m_ ?_
 refine gl_call _ rfl c3 i_ (fun _ _ _ => trivial) rfl ?_; rintro v A ⟨rfl, rfl⟩
 refine a_ ?_
 repeat refine n_ ?_
 refine g_cond rfl (fun h => ?_) (fun h => ?_)
 ·obtain ⟨t, p4, o4, e4, h4p, h4b, h4o, c4⟩ := until_ex g10 s [13] p3 o3 hs h3b (by decide)
  have hr : restS s ⟨0, true⟩ = (⟨5, [], [], t, 0, [], 0, [], [], []⟩, ⟨p4, plainS t⟩) := by
   unfold restS
   rw [e3, if_pos h]
   simp only
   rw [e4]
  repeat refine x_ ?_
  refine m_ ?_
  refine gl_call _ rfl c4 i_ (fun _ _ _ => trivial) rfl ?_; rintro v A ⟨rfl, rfl⟩
  refine f_ (s_bld rfl rfl) ?_
  (refine gl_store_blkW rfl rfl z_6 z_7 z_7 z_2 ?_)
  repeat refine x_ ?_
  refine m_ ?_
  refine f_ z_1 ?_
  refine r_ (by exact s_load_blk rfl z_3 a10_3) ?_
  refine gl_callp rfl (plainS_ct t (by omega)) (fun _ _ _ => trivial) rfl ?_
  refine f_ (s_nilCheck rfl) ?_
  refine f_ z_1 ?_
  (refine gl_store_blkC (pre := [_, _]) (post := []) rfl rfl z_6 z_7 z_7 z_7 ?_)
  repeat refine n_ ?_
  refine G.weaken (L' := [(2, Ptr g2), (5, Ptr g10), (6, Ptr g6)]) (H' := rdp g10 s p4 (plainS t) :: blkR g6 ⟨5, [], [], t, 0, [], 0, [], [], []⟩ L0 :: blkR g2 R0 L0 :: rrH ⟨5, [], [], t, 0, [], 0, [], [], []⟩ L0) ?_ j_ (fun w hw => (((hw.addNil 46 6).addNil 9 1).addNil 22 1).perm (List.perm_append_comm (l₁ := [_, _, _]) (l₂ := [_, _, _])))
  obtain ⟨pc, oc, ec, hca, hcb, cc⟩ := need_ex g10 s crlf p4 (plainS t) hs h4b (by decide)
  have e : readS s = if oc = true then some (⟨5, [], [], t, 0, [], 0, [], [], []⟩, pc) else none := by
   unfold readS
   simp only
   rw [e1, if_neg (by rw [z1]; simp), e2, if_neg (by rw [z2]; simp), hr]
   simp only
   rw [ec]
  rw [e]
  repeat refine x_ ?_
  refine m_ ?_
  refine gl_call _ rfl cc i_ (fun _ _ _ => trivial) rfl ?_; rintro v A ⟨rfl, rfl⟩
  repeat refine x_ ?_
  refine m_ ?_
  refine f_ (s_nilCheck rfl) ?_
  refine f_ z_1 ?_
  refine r_ (by exact s_load_blk rfl z_3 a3_2) ?_
  refine f_ (s_not rfl) ?_
  repeat refine n_ ?_
  refine g_cond rfl (fun h => ?_) (fun h => ?_)
  ·have hoc : oc = false := by simpa using h
   rw [if_neg (by rw [hoc]; simp)]
   repeat refine x_ ?_
   refine f_ (s_bld rfl rfl) ?_
   (refine gl_store_blkW rfl rfl z_6 z_7 z_7 z_2 ?_)
   refine a_ ?_
   refine a_ ?_
   repeat refine n_ ?_
   refine g_ret ?_
   exact at_endB2 rfl rfl rfl rfl z_3 rfl _ ⟨L0, rfl, rfl, rfl⟩ (fun w hw => ((hw.dropAll.addNil 46 6).addNil 9 1).addNil 22 1)
  ·have hoc : oc = true := by simpa using h
   rw [if_pos hoc]
   repeat refine y_ ?_
   refine g_draw ([0, 4], [0, 0, 2, 6, 14, 1, 63, 127], [5]) [rdp g10 s pc oc, blkR g6 ⟨5, [], [], t, 0, [], 0, [], [], []⟩ L0] 8 rfl ?_
   (refine ga_read_k 0 rfl (by exact .tail _ (.head _)) (s_load_blkW rfl .del z_7) k_ rfl rfl rfl z_5 ?_)
   refine w_ 1 rfl (s_move rfl) ?_
   refine w_ 2 rfl (s_nilCheck rfl) ?_
   refine w_ 3 rfl z_1 ?_
   (refine ga_read_k 4 rfl (by exact .head _) (s_load_blk rfl .del a3_1) k_ rfl rfl rfl z_5 ?_)
   refine ga_one 5 rfl z_5 ?_
   (refine gl_store_blkW rfl rfl z_6 z_7 z_7 z_2 ?_)
   refine gl_nil ?_
   refine at_ga (.inr (by exact keeps_of k_)) ?_
   refine w_ 6 rfl (s_assign rfl) ?_
   refine w_ 7 rfl (s_assign rfl) ?_
   refine ga_done z_5 ?_
   repeat refine y_ ?_
   refine g_ret ?_
   exact at_endB2 rfl rfl rfl rfl z_3 rfl _ ⟨L0, rfl, rfl, rfl⟩ (fun w hw => hw.drop.drop.drop)
 have z3 : q3 = false := h
 obtain rfl : p3 = 0 := h3f z3
 obtain rfl : o3 = true := h3o
 obtain ⟨q4, p4, o4, e4, h4a, h4b, h4o, h4t, h4f, c4⟩ := eat_ex g10 s [42, 32] 0 true hs (by omega) (by decide)
 repeat refine x_ ?_
 refine m_ ?_
 refine gl_call _ rfl c4 i_ (fun _ _ _ => trivial) rfl ?_; rintro v A ⟨rfl, rfl⟩
 refine a_ ?_
 repeat refine n_ ?_
 refine g_cond rfl (fun h => ?_) (fun h => ?_)
 ·have c5 := untagged_ct g10 s p4 o4 hs h4b
  obtain ⟨⟨rz, ⟨pz, oz⟩⟩, ez⟩ : ∃ z, z = untaggedS s ⟨p4, o4⟩ := ⟨_, rfl⟩
  rw [← ez] at c5
  have hr : restS s ⟨0, true⟩ = (rz, ⟨pz, oz⟩) := by
   unfold restS
   rw [e3, if_neg (by rw [z3]; simp), e4, if_pos h, ez]
  repeat refine x_ ?_
  refine m_ ?_
  refine gl_call _ rfl c5 i_ (fun h hh hb => hg.le hh) rfl ?_; rintro v A ⟨⟨A', ⟨x, hx, rfl, rfl⟩, rfl⟩, hle⟩; refine gl_pull (fun w hw => hw.perm List.perm_append_comm) ?_; simp only [List.cons_append, List.nil_append]
  (refine gl_store_blkW rfl rfl z_6 z_7 z_7 z_2 ?_)
  repeat refine n_ ?_
  refine G.weaken (L' := [(2, Ptr g2), (5, Ptr g10), (6, Ptr g6)]) (H' := rdp g10 s pz oz :: blkR g6 rz x :: blkR g2 R0 L0 :: rrH rz x) ?_ j_ (fun w hw => hw.perm (perm_r3 _ _ _ _))
  obtain ⟨pc, oc, ec, hca, hcb, cc⟩ := need_ex g10 s crlf pz oz hs hle (by decide)
  have e : readS s = if oc = true then some (rz, pc) else none := by
   unfold readS
   simp only
   rw [e1, if_neg (by rw [z1]; simp), e2, if_neg (by rw [z2]; simp), hr]
   simp only
   rw [ec]
  rw [e]
  repeat refine x_ ?_
  refine m_ ?_
  refine gl_call _ rfl cc i_ (fun _ _ _ => trivial) rfl ?_; rintro v A ⟨rfl, rfl⟩
  repeat refine x_ ?_
  refine m_ ?_
  refine f_ (s_nilCheck rfl) ?_
  refine f_ z_1 ?_
  refine r_ (by exact s_load_blk rfl z_3 a3_2) ?_
  refine f_ (s_not rfl) ?_
  repeat refine n_ ?_
  refine g_cond rfl (fun h => ?_) (fun h => ?_)
  ·have hoc : oc = false := by simpa using h
   rw [if_neg (by rw [hoc]; simp)]
   repeat refine x_ ?_
   refine f_ (s_bld rfl rfl) ?_
   (refine gl_store_blkW rfl rfl z_6 z_7 z_7 z_2 ?_)
   refine a_ ?_
   refine a_ ?_
   repeat refine n_ ?_
   refine g_ret ?_
   exact at_endB2 rfl rfl rfl rfl z_3 rfl _ ⟨L0, rfl, rfl, rfl⟩ (fun w hw => ((hw.dropAll.addNil 46 6).addNil 9 1).addNil 22 1)
  ·have hoc : oc = true := by simpa using h
   rw [if_pos hoc]
   repeat refine y_ ?_
   refine g_draw ([0, 4], [0, 0, 2, 6, 14, 1, 63, 127], [5]) [rdp g10 s pc oc, blkR g6 rz x] 8 rfl ?_
   (refine ga_read_k 0 rfl (by exact .tail _ (.head _)) (s_load_blkW rfl .del z_7) k_ rfl rfl rfl z_5 ?_)
   refine w_ 1 rfl (s_move rfl) ?_
   refine w_ 2 rfl (s_nilCheck rfl) ?_
   refine w_ 3 rfl z_1 ?_
   (refine ga_read_k 4 rfl (by exact .head _) (s_load_blk rfl .del a3_1) k_ rfl rfl rfl z_5 ?_)
   refine ga_one 5 rfl z_5 ?_
   (refine gl_store_blkW rfl rfl z_6 z_7 z_7 z_2 ?_)
   refine gl_nil ?_
   refine at_ga (.inr (by exact keeps_of k_)) ?_
   refine w_ 6 rfl (s_assign rfl) ?_
   refine w_ 7 rfl (s_assign rfl) ?_
   refine ga_done z_5 ?_
   repeat refine y_ ?_
   refine g_ret ?_
   exact at_endB2 rfl rfl rfl rfl z_3 rfl _ ⟨x, hx, rfl, rfl⟩ (fun w hw => hw.drop.drop.drop)
 have z4 : q4 = false := h
 obtain rfl : p4 = 0 := h4f z4
 obtain rfl : o4 = true := h4o
 obtain ⟨u, p5, o5, e5, h5p, h5b, h5o, c5⟩ := until_ex g10 s [32, 13] 0 true hs (by omega) (by decide)
 obtain ⟨p6, o6, e6, h6a, h6b, c6⟩ := need_ex g10 s [32] p5 o5 hs h5b (by decide)
 obtain ⟨r2, hr2⟩ : ∃ q, q = atomS u := ⟨_, rfl⟩
 obtain ⟨r3, hr3⟩ : ∃ q, q = decide (u.length ≤ 32) := ⟨_, rfl⟩
 obtain ⟨r4, hr4⟩ : ∃ q, q = !u.contains 43 := ⟨_, rfl⟩
 have c7 := told_ct g10 s u p6 (o6 && r2 && r3 && r4) hs h6b
 obtain ⟨⟨rz, ⟨pz, oz⟩⟩, ez⟩ : ∃ z, z = toldS s u ⟨p6, o6 && r2 && r3 && r4⟩ := ⟨_, rfl⟩
 rw [← ez] at c7
 have hr : restS s ⟨0, true⟩ = (rz, ⟨pz, oz⟩) := by
  unfold restS
  rw [e3, if_neg (by rw [z3]; simp), e4, if_neg (by rw [z4]; simp)]
  simp only
  rw [e5]
  simp only
  rw [e6, ez, hr2, hr3, hr4]
 repeat refine x_ ?_
 refine m_ ?_
 refine gl_call _ rfl c5 i_ (fun _ _ _ => trivial) rfl ?_; rintro v A ⟨rfl, rfl⟩
 refine a_ ?_
 repeat refine x_ ?_
 refine m_ ?_
 refine gl_call _ rfl c6 i_ (fun _ _ _ => trivial) rfl ?_; rintro v A ⟨rfl, rfl⟩
 repeat refine n_ ?_
 refine g_cutK [(2, Ptr g2), (5, Ptr g10), (6, Ptr g6), (7, B u)] [rdp g10 s p6 (o6 && r2 && r3 && r4), blkR g6 R0 L0, blkR g2 R0 L0] ?_ ?_
 ·rcases sc4' o6 r2 r3 with rfl | ⟨rfl, rfl⟩ | ⟨rfl, rfl, rfl⟩ | ⟨rfl, rfl, rfl⟩
  all_goals (
   repeat refine x_ ?_
   refine m_ ?_
   refine m_ ?_
   refine f_ (s_nilCheck rfl) ?_
   refine f_ z_1 ?_
   refine r_ (by exact s_load_blk rfl z_3 a3_2) ?_
   refine m_ ?_
   (first | refine gl_guard_no rfl rfl rfl rfl rfl rfl rfl ?_ | (refine v_ ?_; refine m_ ?_))
   (first | refine gl_guard_no rfl rfl rfl rfl rfl rfl rfl ?_ | (refine v_ ?_; refine gl_callp rfl (AtomW_ct u (by omega)) (fun _ _ _ => trivial) rfl ?_; rw [← hr2]))
   refine f_ z_4 ?_
   refine m_ ?_
   (first | refine gl_guard_no rfl rfl rfl rfl rfl rfl rfl ?_ | (refine v_ ?_; refine m_ ?_))
   (first | refine gl_guard_no rfl rfl rfl rfl rfl rfl rfl ?_ | (refine v_ ?_; refine f_ (s_len_str rfl) ?_))
   (first | refine gl_guard_no rfl rfl rfl rfl rfl rfl rfl ?_ | (refine v_ ?_; refine f_ ((s_leq rfl rfl).eq (congrArg Value.bool ((show decide ((u.length : Int) ≤ 32) = _ from decide_eq_decide.mpr (by omega)).trans hr3.symm))) ?_))
   refine f_ z_4 ?_
   refine m_ ?_
   (first | refine gl_guard_no rfl rfl rfl rfl rfl rfl rfl ?_ | (refine v_ ?_; refine m_ ?_))
   (first | refine gl_guard_no rfl rfl rfl rfl rfl rfl rfl ?_ | (refine v_ ?_; refine gl_callp rfl (IndexByte_ct u 43) (fun _ _ _ => trivial) rfl ?_))
   (first | refine gl_guard_no rfl rfl rfl rfl rfl rfl rfl ?_ | (refine v_ ?_; refine f_ ((s_lss rfl rfl).eq (congrArg Value.bool ((idx_lt u 43).trans hr4.symm))) ?_))
   refine f_ z_4 ?_
   refine f_ (s_nilCheck rfl) ?_
   refine f_ z_1 ?_
   (refine gl_store_blkC (pre := [_, _]) (post := []) rfl rfl z_6 z_7 z_7 z_7 ?_)
   refine gl_nil ?_
   repeat refine y_ ?_)
  all_goals exact at_cut j_ i_
 repeat refine x_ ?_
 refine m_ ?_
 refine m_ ?_
 refine gl_call _ rfl c7 i_ (fun _ _ _ => trivial) rfl ?_; rintro v A ⟨⟨A', ⟨x, hx, rfl, rfl⟩, rfl⟩, hle⟩; refine gl_pull (fun w hw => hw.perm List.perm_append_comm) ?_; simp only [List.cons_append, List.nil_append]
 (refine gl_store_blkW rfl rfl z_6 z_7 z_7 z_2 ?_)
 repeat refine n_ ?_
 refine G.weaken (L' := [(2, Ptr g2), (5, Ptr g10), (6, Ptr g6)]) (H' := rdp g10 s pz oz :: blkR g6 rz x :: blkR g2 R0 L0 :: rrH rz x) ?_ j_ (fun w hw => hw.perm (perm_r3 _ _ _ _))
 obtain ⟨pc, oc, ec, hca, hcb, cc⟩ := need_ex g10 s crlf pz oz hs hle (by decide)
 have e : readS s = if oc = true then some (rz, pc) else none := by
  unfold readS
  simp only
  rw [e1, if_neg (by rw [z1]; simp), e2, if_neg (by rw [z2]; simp), hr]
  simp only
  rw [ec]
 rw [e]
 repeat refine x_ ?_
 refine m_ ?_
 refine gl_call _ rfl cc i_ (fun _ _ _ => trivial) rfl ?_; rintro v A ⟨rfl, rfl⟩
 repeat refine x_ ?_
 refine m_ ?_
 refine f_ (s_nilCheck rfl) ?_
 refine f_ z_1 ?_
 refine r_ (by exact s_load_blk rfl z_3 a3_2) ?_
 refine f_ (s_not rfl) ?_
 repeat refine n_ ?_
 refine g_cond rfl (fun h => ?_) (fun h => ?_)
 ·have hoc : oc = false := by simpa using h
  rw [if_neg (by rw [hoc]; simp)]
  repeat refine x_ ?_
  refine f_ (s_bld rfl rfl) ?_
  (refine gl_store_blkW rfl rfl z_6 z_7 z_7 z_2 ?_)
  refine a_ ?_
  refine a_ ?_
  repeat refine n_ ?_
  refine g_ret ?_
  exact at_endB2 rfl rfl rfl rfl z_3 rfl _ ⟨L0, rfl, rfl, rfl⟩ (fun w hw => ((hw.dropAll.addNil 46 6).addNil 9 1).addNil 22 1)
 ·have hoc : oc = true := by simpa using h
  rw [if_pos hoc]
  repeat refine y_ ?_
  refine g_draw ([0, 4], [0, 0, 2, 6, 14, 1, 63, 127], [5]) [rdp g10 s pc oc, blkR g6 rz x] 8 rfl ?_
  (refine ga_read_k 0 rfl (by exact .tail _ (.head _)) (s_load_blkW rfl .del z_7) k_ rfl rfl rfl z_5 ?_)
  refine w_ 1 rfl (s_move rfl) ?_
  refine w_ 2 rfl (s_nilCheck rfl) ?_
  refine w_ 3 rfl z_1 ?_
  (refine ga_read_k 4 rfl (by exact .head _) (s_load_blk rfl .del a3_1) k_ rfl rfl rfl z_5 ?_)
  refine ga_one 5 rfl z_5 ?_
  (refine gl_store_blkW rfl rfl z_6 z_7 z_7 z_2 ?_)
  refine gl_nil ?_
  refine at_ga (.inr (by exact keeps_of k_)) ?_
  refine w_ 6 rfl (s_assign rfl) ?_
  refine w_ 7 rfl (s_assign rfl) ?_
  refine ga_done z_5 ?_
  repeat refine y_ ?_
  refine g_ret ?_
  exact at_endB2 rfl rfl rfl rfl z_3 rfl _ ⟨x, hx, rfl, rfl⟩ (fun w hw => hw.drop.drop.drop)
end Go.Proofs.YtgllpcggdcknaaaGreatDoor.Rp
namespace Go.Proofs.YtgllpcggdcknaaaGreatDoor.Rp
open Go Go.Sl Go.RowKit
set_option maxRecDepth 8000 in
theorem valueW_ct (x : VM) (hz : SzV x.v) (hc : x.v.flags.length ≤ x.c) : Pu Tryz.prog 33 [vmA x] (fun h => Gl h ∧ RdS h x.a (fV x.v.flags)) (B (valueP x.v)) := by
 obtain ⟨⟨kind, n, fl, text, part, fr⟩, a, c⟩ := x
 obtain ⟨h1, h2, h3, h4, h5, h6⟩ := hz
 simp only at h1 h2 h3 h4 h5 h6 hc ⊢
 have h4' := h4
 unfold big at h1 h3 h4
 obtain ⟨q1, hq1⟩ : ∃ q, q = decide (kind < 6) := ⟨_, rfl⟩
 obtain ⟨q2, hq2⟩ : ∃ q, q = decide (kind > 12) := ⟨_, rfl⟩
 have hqq : (kind < 6 ∨ 12 < kind) ↔ (q1 || q2) = true := by
  rw [Bool.or_eq_true, hq1, hq2, decide_eq_true_eq, decide_eq_true_eq]
 refine ct_enter 65 Tryz.func33 rfl rfl rfl ?_
 intro F hh
 have hg := hh.1
 have hrd := hh.2
 repeat refine x_ ?_
 refine gl_boxA rfl rfl ?_; intro g1
 refine a_ ?_
 repeat refine n_ ?_
 refine g_cutK [(1, Ptr g1), (11, .bool (q1 || q2))] [blkV g1 ⟨kind, n, fl, text, part, fr⟩ a c] ?_ ?_
 ·cases q1
  all_goals (
   repeat refine x_ ?_
   refine f_ z_1 ?_
   refine r_ (by exact s_load_blk rfl z_3 a6_0) ?_
   refine f_ ((s_lss rfl rfl).eb hq1) ?_
   refine m_ ?_
   (first | refine gl_guard_no rfl rfl rfl rfl rfl rfl rfl ?_ | (refine v_ ?_; refine f_ z_1 ?_))
   (first | refine gl_guard_no rfl rfl rfl rfl rfl rfl rfl ?_ | (refine v_ ?_; refine r_ (by exact s_load_blk rfl z_3 a6_0) ?_))
   (first | refine gl_guard_no rfl rfl rfl rfl rfl rfl rfl ?_ | (refine v_ ?_; refine f_ ((s_gtr rfl rfl).eb hq2) ?_))
   refine f_ z_4 ?_
   refine gl_nil ?_
   repeat refine y_ ?_)
  all_goals exact at_cut j_ i_
 repeat refine y_ ?_
 refine g_cond rfl (fun h => ?_) (fun h => ?_)
 ·have e1 : valueP ⟨kind, n, fl, text, part, fr⟩ = [] := by unfold valueP; rw [if_pos (hqq.2 h)]
  rw [e1]
  repeat refine x_ ?_
  refine a_ ?_
  repeat refine n_ ?_
  refine g_ret ?_
  exact at_end1 rfl rfl [] ⟨rfl, rfl⟩ (fun w hw => hw.dropAll)
 have hno : ¬(kind < 6 ∨ 12 < kind) := fun x => by rw [hqq.1 x] at h; cases h
 have e3 : valueP ⟨kind, n, fl, text, part, fr⟩ = if kind = 6 then itemA 6 ++ 32 :: printF fl
   else if kind = 9 then itemA 9 ++ [32, 40] ++ digS n ++ [41]
   else if kind < 10 then itemA kind.toNat ++ 32 :: digS n
   else itemA kind.toNat ++ partP ⟨kind, n, fl, text, part, fr⟩ ++ 32 :: literalS text := by unfold valueP; simp only; rw [if_neg (by omega)]
 rw [e3]
 obtain ⟨k, rfl⟩ : ∃ k : Nat, kind = (k : Int) := ⟨kind.toNat, by omega⟩
 have hk : 6 ≤ k ∧ k ≤ 12 := by omega
 have hil := itemA_len k hk.2
 have hdl := digS_len64 h5
 have hdf := digS_len64 h6
 have hkl : k - 1 < itemW.length := by rw [item_len]; omega
 have hia : B (itemW.getD (k - 1) []) = B (itemA k) := rfl
 rw [Int.toNat_natCast]
 repeat refine y_ ?_
 refine g_draw ([2], [0, 0, 2, 6, 15, 31, 63], [0, 5]) [blkV g1 ⟨k, n, fl, text, part, fr⟩ a c] 7 rfl ?_
 refine w_ 1 rfl z_1 ?_
 (refine ga_read_k 2 rfl (by exact .head _) (s_load_blk rfl .del a6_0) (by (exact fun _ h => h)) rfl rfl rfl z_5 ?_)
 refine w_ 3 rfl ((s_sub_i64 (m := (k : Nat)) rfl rfl (by omega)).eq (v' := .int .i64 ((k - 1 : Nat) : Int)) (by congr 1; omega)) ?_
 refine ga_one 0 rfl z_5 ?_
 refine gl_call _ rfl itemWords_ct i_ (fun _ _ _ => trivial) rfl ?_; rintro v A ⟨a12, rfl, rfl⟩
 refine gl_nil ?_
 refine at_ga (.inr (by exact keeps_of k_)) ?_
 refine w_ 4 rfl ((s_indexAddr rfl ⟨_, rfl⟩ rfl (by omega))) ?_
 refine ga_one 5 rfl z_5 ?_
 refine r_ ((s_load1 rfl (fun w hw => rdB_own hw z_3 (i := k - 1) z_8 hkl)).eq hia) ?_
 refine gl_nil ?_
 refine at_ga (.inl z_5) ?_
 refine w_ 6 rfl (s_assign rfl) ?_
 refine ga_done z_5 ?_
 repeat refine y_ ?_
 refine G.weaken (L' := [(1, Ptr g1), (3, B (itemA k))]) (H' := [blkV g1 ⟨k, n, fl, text, part, fr⟩ a c]) ?_ j_ (fun w hw => hw.drop)
 repeat refine x_ ?_
 refine f_ z_1 ?_
 refine r_ (by exact s_load_blk rfl z_3 a6_0) ?_
 refine f_ ((s_eql rfl rfl).eq (v' := .bool (decide (k = 6))) (congrArg Value.bool (decide_eq_decide.mpr (show ((k : Nat) : Int) = 6 ↔ k = 6 by omega)))) ?_
 refine a_ ?_
 repeat refine n_ ?_
 refine g_cond rfl (fun h => ?_) (fun h => ?_)
 ·have hk6 := of_decide_eq_true h
  subst hk6
  rw [if_pos (show ((6 : Nat) : Int) = 6 from rfl)]
  have hpl : (printF fl).length ≤ (joinS [32] fl).length + 2 := by unfold printF; simp
  repeat refine x_ ?_
  refine m_ ?_
  refine f_ (s_add_str rfl rfl (by simp only [List.length_singleton]; omega)) ?_
  refine f_ z_1 ?_
  refine r_ (by exact s_load_blk rfl z_3 a6_2) ?_
  refine gl_callp rfl (PrintP_ct fl a c hc (by omega) (by omega)) (fun h hh hb => hrd.le hh) rfl ?_
  refine f_ ((s_add_str rfl rfl (by simp only [List.length_append, List.length_singleton]; omega)).eq (v' := B (itemA 6 ++ 32 :: printF fl)) z_8) ?_
  refine a_ ?_
  repeat refine n_ ?_
  refine g_ret ?_
  exact at_end1 rfl rfl [] ⟨rfl, rfl⟩ (fun w hw => hw.dropAll)
 have hk6 := of_decide_eq_false h
 rw [if_neg (show ¬((k : Nat) : Int) = 6 by omega)]
 repeat refine x_ ?_
 refine f_ z_1 ?_
 refine r_ (by exact s_load_blk rfl z_3 a6_0) ?_
 refine f_ ((s_eql rfl rfl).eq (v' := .bool (decide (k = 9))) (congrArg Value.bool (decide_eq_decide.mpr (show ((k : Nat) : Int) = 9 ↔ k = 9 by omega)))) ?_
 refine a_ ?_
 repeat refine n_ ?_
 refine g_cond rfl (fun h => ?_) (fun h => ?_)
 ·have hk9 := of_decide_eq_true h
  subst hk9
  rw [if_pos (show ((9 : Nat) : Int) = 9 from rfl)]
  repeat refine x_ ?_
  refine m_ ?_
  refine f_ (s_add_str rfl rfl (by simp only [List.length_cons, List.length_nil]; omega)) ?_
  refine f_ z_1 ?_
  refine r_ (by exact s_load_blk rfl z_3 a6_1) ?_
  refine gl_callp rfl (Digits_ct n (by omega)) (fun h hh hb => hg.le hh) rfl ?_
  refine f_ (s_add_str rfl rfl (by simp only [List.length_append, List.length_cons, List.length_nil]; omega)) ?_
  refine f_ ((s_add_str rfl rfl (by simp only [List.length_append, List.length_cons, List.length_nil]; omega)).eq (v' := B (itemA 9 ++ [32, 40] ++ digS n ++ [41])) z_8) ?_
  refine a_ ?_
  repeat refine n_ ?_
  refine g_ret ?_
  exact at_end1 rfl rfl [] ⟨rfl, rfl⟩ (fun w hw => hw.dropAll)
 have hk9 := of_decide_eq_false h
 rw [if_neg (show ¬((k : Nat) : Int) = 9 by omega)]
 repeat refine x_ ?_
 refine f_ z_1 ?_
 refine r_ (by exact s_load_blk rfl z_3 a6_0) ?_
 refine f_ ((s_lss rfl rfl).eq (v' := .bool (decide (k < 10))) (congrArg Value.bool (decide_eq_decide.mpr (show ((k : Nat) : Int) < 10 ↔ k < 10 by omega)))) ?_
 refine a_ ?_
 repeat refine n_ ?_
 refine g_cond rfl (fun h => ?_) (fun h => ?_)
 ·have hk10 := of_decide_eq_true h
  rw [if_pos (show ((k : Nat) : Int) < 10 by omega)]
  repeat refine x_ ?_
  refine m_ ?_
  refine f_ (s_add_str rfl rfl (by simp only [List.length_singleton]; omega)) ?_
  refine f_ z_1 ?_
  refine r_ (by exact s_load_blk rfl z_3 a6_1) ?_
  refine gl_callp rfl (Digits_ct n (by omega)) (fun h hh hb => hg.le hh) rfl ?_
  refine f_ ((s_add_str rfl rfl (by simp only [List.length_append, List.length_singleton]; omega)).eq (v' := B (itemA k ++ 32 :: digS n)) z_8) ?_
  refine a_ ?_
  repeat refine n_ ?_
  refine g_ret ?_
  exact at_end1 rfl rfl [] ⟨rfl, rfl⟩ (fun w hw => hw.dropAll)
 have hk10 := of_decide_eq_false h
 rw [if_neg (show ¬((k : Nat) : Int) < 10 by omega)]
 have hpl := partP_len ⟨k, n, fl, text, part, fr⟩ h6
 have hll := litS_len text h4'
 obtain ⟨pp, hpp⟩ : ∃ z, z = partP ⟨k, n, fl, text, part, fr⟩ := ⟨_, rfl⟩
 rw [← hpp] at hpl ⊢
 repeat refine x_ ?_
 refine f_ z_1 ?_
 refine r_ (by exact s_load_blk rfl z_3 a6_4) ?_
 refine a_ ?_
 refine gl_nil ?_
 repeat (first | refine g_seq ?_ | refine at_code ?_ | refine g_skip ?_ | refine g_exit rfl ?_ | refine g_cond_t rfl ?_ | refine g_cond_f rfl ?_)
 refine g_cutK [(1, Ptr g1), (3, B (itemA k ++ pp))] [blkV g1 ⟨k, n, fl, text, part, fr⟩ a c] ?_ ?_
 ·cases part with
  | true =>
   obtain rfl : pp = 60 :: digS fr ++ [62] := by rw [hpp]; unfold partP; rw [if_pos rfl]
   refine g_cond rfl (fun h => ?_) (fun h => by cases h)
   repeat refine x_ ?_
   refine m_ ?_
   refine f_ z_1 ?_
   refine r_ (by exact s_load_blk rfl z_3 a6_5) ?_
   refine gl_callp rfl (Digits_ct fr (by omega)) (fun h hh hb => hg.le hh) rfl ?_
   refine f_ (s_add_str rfl rfl (by simp only [List.length_cons, List.length_nil]; omega)) ?_
   refine f_ (s_add_str rfl rfl (by simp only [List.length_append, List.length_cons, List.length_nil]; omega)) ?_
   refine f_ ((s_add_str rfl rfl (by simp only [List.length_append, List.length_cons, List.length_nil]; omega)).eq (v' := B (itemA k ++ (60 :: digS fr ++ [62]))) z_8) ?_
   refine a_ ?_
   repeat refine n_ ?_
   exact at_cut j_ i_
  | false =>
   obtain rfl : pp = [] := by rw [hpp]; unfold partP; simp
   rw [List.append_nil]
   refine g_cond rfl (fun h => by cases h) (fun h => ?_)
   repeat refine y_ ?_
   exact at_cut j_ i_
 repeat refine x_ ?_
 refine m_ ?_
 refine f_ (s_add_str rfl rfl (by simp only [List.length_append, List.length_singleton]; omega)) ?_
 refine f_ z_1 ?_
 refine r_ (by exact s_load_blk rfl z_3 a6_3) ?_
 refine gl_callp rfl (LiteralW_ct text h4') (fun h hh hb => hg.le hh) rfl ?_
 refine f_ ((s_add_str rfl rfl (by simp only [List.length_append, List.length_singleton]; omega)).eq (v' := B (itemA k ++ pp ++ 32 :: literalS text)) z_8) ?_
 refine a_ ?_
 repeat refine n_ ?_
 refine g_ret ?_
 exact at_end1 rfl rfl [] ⟨rfl, rfl⟩ (fun w hw => hw.dropAll)
end Go.Proofs.YtgllpcggdcknaaaGreatDoor.Rp
