import Derived.Test.YtodcghipfolejaaGreatHx6
/- A mind's calls: may, update, all. -/
namespace Go.Proofs.YtodcghipfolejaaGreat.Rf
open Go Go.Sl
set_option linter.unusedVariables false
set_option linter.unusedSimpArgs false
-- ARR

set_option maxRecDepth 8000 in
set_option maxHeartbeats 1000000 in
theorem may_ct (X : Nat) (d : MD) (hf : PFit d.p) (hc : d.p.l.length ≤ d.a.lc) : Ct Tryz.prog 54 [Ptr X] (fun h => h X = some (mdO d) ∧ (d.p.lm d.a).ok h) [] (fun v A => v = .bool (mayP d.p) ∧ A = []) := by
  have hcn := hf.cn (lastI d.p.g)
  have hca := hf.ca (lastI d.p.g)
  refine ct_enter 44 Tryz.func54 rfl rfl rfl ?_
  intro F hF
  have hX := hF.1
  have hg := hF.2
  obtain ⟨cl, hcl⟩ : ∃ l, l = (confAt d.p.g (lastI d.p.g)) := ⟨_, rfl⟩
  have hm : mayP d.p = (inB cl.1 d.p.id || (decide (d.p.commit < cl.2) && inB (confAt d.p.g (cl.2 - 1)).1 d.p.id)) := by rw [hcl]; rfl
  rw [hm]
  rw [← hcl] at hcn hca
  obtain ⟨q1, hq1⟩ : ∃ q, q = inB cl.1 d.p.id := ⟨_, rfl⟩
  obtain ⟨q2, hq2⟩ : ∃ q, q = decide (d.p.commit < cl.2) := ⟨_, rfl⟩
  repeat refine y_ ?_
  refine g_region ?_
  refine f_ (s_assign rfl) ?_
  refine gl_nil ?_
  repeat refine y_ ?_
  refine g_region ?_
  refine m_ ?_
  refine f_ (s_nilCheck rfl) ?_
  refine f_ z_1 ?_
  refine f_ z_1 ?_
  refine r_ ((s_loadN (n := 4) rfl (fun w hw => peekBS (o := 5) (n := 4) hw hX) z_10).eq (v' := (d.p.lm d.a).v) rfl) ?_
  refine gl_call _ rfl (Conf_ct (d.p.lm d.a) (hf.fit d.a hc) (hf.datL d.a)) (fun w hw => hw) (fun h hh _ => hg.le hh) rfl ?_; rw [show lastI (d.p.lm d.a) = lastI d.p.g from rfl, confAt_any, ← hcl]; rintro v A ⟨ca, cc, rfl, rfl⟩
  refine m_ ?_
  refine f_ (s_extract rfl rfl) ?_
  refine f_ (s_extract rfl rfl) ?_
  refine f_ (s_assign rfl) ?_
  refine f_ (s_assign rfl) ?_
  refine gl_nil ?_
  repeat refine y_ ?_
  refine g_region ?_
  refine m_ ?_
  refine m_ ?_
  refine f_ (s_nilCheck rfl) ?_
  refine f_ z_1 ?_
  refine f_ z_1 ?_
  refine r_ (by first | exact s_load_blk rfl z_3 a19_0 | exact s_load1 rfl (fun w hw => peekB hw (by assumption) a19_0)) ?_
  refine gl_callp rfl (Contains_ct cl.1 d.p.id ca cc (by omega)) (fun h hh ⟨bs, hb⟩ => Sat.rd (a := ca) hb z_3) rfl ?_; rw [← hq1]
  refine gl_nil ?_
  repeat refine y_ ?_
  rw [← hq2]
  cases q1
  rotate_left
  · repeat refine y_ ?_
    refine g_region ?_
    refine f_ (s_assign rfl) ?_
    refine gl_nil ?_
    repeat refine y_ ?_
    refine g_ret ?_
    exact at_end1 rfl rfl [] ⟨rfl, rfl⟩ (fun _ h => h.dropAll)
  cases q2
  · repeat refine y_ ?_
    refine g_draw ([5, 12, 20], [0, 0, 2, 6, 14, 30, 63, 127, 255, 511, 1023, 2047, 4095, 255, 8447, 32767, 255, 65791, 196863, 459007, 983295, 2097151, 4194303, 8388607], []) [] 24 rfl ?_
    refine w_ 0 rfl (s_move rfl) ?_
    refine w_ 1 rfl (s_move rfl) ?_
    refine w_ 2 rfl (s_nilCheck rfl) ?_
    refine w_ 3 rfl z_1 ?_
    refine w_ 4 rfl z_1 ?_
    (first | refine ga_read_k 5 rfl z_5 (s_load_blk rfl .del a19_10) (by (first | exact fun _ h => h | (repeat first | exact sub_nil | refine sub_cons z_4 ?_))) rfl rfl rfl z_7 ?_ | refine ga_readF 5 rfl (s_load1 rfl (fun w hw => peekB hw (by assumption) a19_10)) (by (first | exact fun _ h => h | (repeat first | exact sub_nil | refine sub_cons z_4 ?_))) rfl rfl rfl z_7 ?_)
    refine w_ 6 rfl ((s_gtr rfl rfl).eq (congrArg Value.bool hq2.symm)) ?_
    refine w_ 7 rfl (s_move rfl) ?_
    (first | refine s_ 8 ?_ | refine t_ 8 ?_ | refine ga_free_g 8 rfl (s_move rfl) rfl rfl rfl rfl rfl rfl z_7 ?_)
    (first | refine s_ 9 ?_ | refine t_ 9 ?_ | refine ga_free_g 9 rfl (s_nilCheck rfl) rfl rfl rfl rfl rfl rfl z_7 ?_)
    (first | refine s_ 10 ?_ | refine t_ 10 ?_ | refine ga_free_g 10 rfl z_1 rfl rfl rfl rfl rfl rfl z_7 ?_)
    (first | refine s_ 11 ?_ | refine t_ 11 ?_ | refine ga_free_g 11 rfl z_1 rfl rfl rfl rfl rfl rfl z_7 ?_)
    (first | refine s_ 12 ?_ | refine t_ 12 ?_ | refine ga_read_kg 12 rfl z_5 (s_load_blkW rfl .del z_10) (by (first | exact fun _ h => h | (repeat first | exact sub_nil | refine sub_cons z_4 ?_))) rfl rfl rfl rfl rfl rfl z_7 ?_ | refine ga_read_kg 12 rfl z_5 (s_load_blkN rfl .del z_10) (by (first | exact fun _ h => h | (repeat first | exact sub_nil | refine sub_cons z_4 ?_))) rfl rfl rfl rfl rfl rfl z_7 ?_ | refine ga_readF_g 12 rfl (s_loadN rfl (fun w hw => peekBN hw (by assumption)) z_10) (by (first | exact fun _ h => h | (repeat first | exact sub_nil | refine sub_cons z_4 ?_))) rfl rfl rfl rfl rfl rfl z_7 ?_)
    (first | refine s_ 13 ?_ | refine t_ 13 ?_ | refine ga_free_g 13 rfl (s_move rfl) rfl rfl rfl rfl rfl rfl z_7 ?_)
    (first | refine s_ 14 ?_ | refine t_ 14 ?_ | refine ga_free_g 14 rfl (s_sub_u64 rfl rfl (by omega)) rfl rfl rfl rfl rfl rfl z_7 ?_)
    (first | refine s_ 16 ?_ | refine t_ 16 ?_ | refine ga_free_g 16 rfl (s_move rfl) rfl rfl rfl rfl rfl rfl z_7 ?_)
    (first | refine s_ 17 ?_ | refine t_ 17 ?_ | refine ga_free_g 17 rfl (s_nilCheck rfl) rfl rfl rfl rfl rfl rfl z_7 ?_)
    (first | refine s_ 18 ?_ | refine t_ 18 ?_ | refine ga_free_g 18 rfl z_1 rfl rfl rfl rfl rfl rfl z_7 ?_)
    (first | refine s_ 19 ?_ | refine t_ 19 ?_ | refine ga_free_g 19 rfl z_1 rfl rfl rfl rfl rfl rfl z_7 ?_)
    (first | refine s_ 20 ?_ | refine t_ 20 ?_ | refine ga_read_kg 20 rfl z_5 (s_load_blk rfl .del a19_0) (by (first | exact fun _ h => h | (repeat first | exact sub_nil | refine sub_cons z_4 ?_))) rfl rfl rfl rfl rfl rfl z_7 ?_ | refine ga_readF_g 20 rfl (s_load1 rfl (fun w hw => peekB hw (by assumption) a19_0)) (by (first | exact fun _ h => h | (repeat first | exact sub_nil | refine sub_cons z_4 ?_))) rfl rfl rfl rfl rfl rfl z_7 ?_)
    refine ga_one 15 rfl z_7 ?_
    (first|refine u_ ?_|(refine v_ ?_; fail))
    refine gl_nil ?_
    refine at_ga (.inr (by exact keeps_of (by (first | exact fun _ h => h | (repeat first | exact sub_nil | refine sub_cons z_4 ?_))))) ?_
    refine ga_one 21 rfl z_7 ?_
    (first|refine u_ ?_|(refine v_ ?_; refine gl_callp rfl (Contains_ct _ _ _ _ (by omega)) (fun h hh hb => by first | trivial | (first | exact RdS.le (by assumption) hh | (obtain ⟨bs, hb⟩ := hb; exact Sat.rd hb (z_3))) | (refine ⟨?_, ?_⟩ <;> (first | exact RdS.le (by assumption) hh | (obtain ⟨bs, hb⟩ := hb; exact Sat.rd hb (z_3)))) | (refine ⟨?_, ?_, ?_⟩ <;> (first | exact RdS.le (by assumption) hh | (obtain ⟨bs, hb⟩ := hb; exact Sat.rd hb (z_3))))) rfl ?_))
    refine gl_nil ?_
    refine at_ga (.inl z_7) ?_
    refine w_ 22 rfl z_8 ?_
    refine w_ 23 rfl (s_assign rfl) ?_
    refine ga_done z_7 ?_
    repeat refine y_ ?_
    refine g_ret ?_
    exact at_end1 rfl rfl [] ⟨rfl, rfl⟩ (fun _ h => h.dropAll)
  · have h1 : d.p.commit < cl.2 := of_decide_eq_true hq2.symm
    have h2 := hf.commit
    repeat refine y_ ?_
    refine g_draw ([5, 12, 20], [0, 0, 2, 6, 14, 30, 63, 127, 255, 511, 1023, 2047, 4095, 255, 8447, 32767, 255, 65791, 196863, 459007, 983295, 2097151, 4194303, 8388607], []) [] 24 rfl ?_
    refine w_ 0 rfl (s_move rfl) ?_
    refine w_ 1 rfl (s_move rfl) ?_
    refine w_ 2 rfl (s_nilCheck rfl) ?_
    refine w_ 3 rfl z_1 ?_
    refine w_ 4 rfl z_1 ?_
    (first | refine ga_read_k 5 rfl z_5 (s_load_blk rfl .del a19_10) (by (first | exact fun _ h => h | (repeat first | exact sub_nil | refine sub_cons z_4 ?_))) rfl rfl rfl z_7 ?_ | refine ga_readF 5 rfl (s_load1 rfl (fun w hw => peekB hw (by assumption) a19_10)) (by (first | exact fun _ h => h | (repeat first | exact sub_nil | refine sub_cons z_4 ?_))) rfl rfl rfl z_7 ?_)
    refine w_ 6 rfl ((s_gtr rfl rfl).eq (congrArg Value.bool hq2.symm)) ?_
    refine w_ 7 rfl (s_move rfl) ?_
    (first | refine s_ 8 ?_ | refine t_ 8 ?_ | refine ga_free_g 8 rfl (s_move rfl) rfl rfl rfl rfl rfl rfl z_7 ?_)
    (first | refine s_ 9 ?_ | refine t_ 9 ?_ | refine ga_free_g 9 rfl (s_nilCheck rfl) rfl rfl rfl rfl rfl rfl z_7 ?_)
    (first | refine s_ 10 ?_ | refine t_ 10 ?_ | refine ga_free_g 10 rfl z_1 rfl rfl rfl rfl rfl rfl z_7 ?_)
    (first | refine s_ 11 ?_ | refine t_ 11 ?_ | refine ga_free_g 11 rfl z_1 rfl rfl rfl rfl rfl rfl z_7 ?_)
    (first | refine s_ 12 ?_ | refine t_ 12 ?_ | refine ga_readF_g 12 rfl ((s_loadN (n := 4) rfl (fun w hw => peekBS (o := 5) (n := 4) hw hX) z_10).eq (v' := (d.p.lm d.a).v) rfl) (by (first | exact fun _ h => h | (repeat first | exact sub_nil | refine sub_cons z_4 ?_))) rfl rfl rfl rfl rfl rfl z_7 ?_)
    (first | refine s_ 13 ?_ | refine t_ 13 ?_ | refine ga_free_g 13 rfl (s_move rfl) rfl rfl rfl rfl rfl rfl z_7 ?_)
    (first | refine s_ 14 ?_ | refine t_ 14 ?_ | refine ga_free_g 14 rfl (s_sub_u64 rfl rfl (by omega)) rfl rfl rfl rfl rfl rfl z_7 ?_)
    (first | refine s_ 16 ?_ | refine t_ 16 ?_ | refine ga_free_g 16 rfl (s_move rfl) rfl rfl rfl rfl rfl rfl z_7 ?_)
    (first | refine s_ 17 ?_ | refine t_ 17 ?_ | refine ga_free_g 17 rfl (s_nilCheck rfl) rfl rfl rfl rfl rfl rfl z_7 ?_)
    (first | refine s_ 18 ?_ | refine t_ 18 ?_ | refine ga_free_g 18 rfl z_1 rfl rfl rfl rfl rfl rfl z_7 ?_)
    (first | refine s_ 19 ?_ | refine t_ 19 ?_ | refine ga_free_g 19 rfl z_1 rfl rfl rfl rfl rfl rfl z_7 ?_)
    (first | refine s_ 20 ?_ | refine t_ 20 ?_ | refine ga_read_kg 20 rfl z_5 (s_load_blk rfl .del a19_0) (by (first | exact fun _ h => h | (repeat first | exact sub_nil | refine sub_cons z_4 ?_))) rfl rfl rfl rfl rfl rfl z_7 ?_ | refine ga_readF_g 20 rfl (s_load1 rfl (fun w hw => peekB hw (by assumption) a19_0)) (by (first | exact fun _ h => h | (repeat first | exact sub_nil | refine sub_cons z_4 ?_))) rfl rfl rfl rfl rfl rfl z_7 ?_)
    refine ga_one 15 rfl z_7 ?_
    (first|refine u_ ?_|(refine v_ ?_; refine gl_call _ rfl (ConfAt_ct (d.p.lm d.a) (cl.2 - 1) (hf.fit d.a hc) (hf.datL d.a) (by omega)) (fun w hw => hw) (fun h hh _ => hg.le hh) rfl ?_; rw [confAt_any]; rintro v A ⟨da, dc, rfl, rfl⟩))
    refine gl_nil ?_
    refine at_ga (.inr (by exact keeps_of (by (first | exact fun _ h => h | (repeat first | exact sub_nil | refine sub_cons z_4 ?_))))) ?_
    refine ga_one 21 rfl z_7 ?_
    (first|refine u_ ?_|(refine v_ ?_; refine gl_callp rfl (Contains_ct (confAt d.p.g (cl.2 - 1)).1 d.p.id da dc (by have := hf.cn (cl.2 - 1); omega)) (fun h hh ⟨bs, hb⟩ => Sat.rd (a := da) hb z_3) rfl ?_))
    refine gl_nil ?_
    refine at_ga (.inl z_7) ?_
    refine w_ 22 rfl z_8 ?_
    refine w_ 23 rfl (s_assign rfl) ?_
    refine ga_done z_7 ?_
    repeat refine y_ ?_
    refine g_ret ?_
    exact at_end1 rfl rfl [] ⟨by simp, rfl⟩ (fun _ h => h.dropAll)
/-- what is said more -/
def OutP (X : Nat) (p : RP) (a : RA) (outs : List MM) (new : List MP) (v : Value) (A : List As) : Prop :=
  v = .tuple #[] ∧ ∃ ms oa oc Z, ms.map MM.p = new ∧ A = mdH X ⟨p, a, outs ++ ms, oa, oc⟩ ++ Z ∧ ∀ h, (∃ bs, Sat h Z bs) → ∀ m ∈ ms, MOk h m
structure QFit (p : RP) (q : Pr) : Prop where
  next : 1 ≤ q.next ∧ q.next ≤ 4611686018427387904
  off : 0 ≤ q.off ∧ q.off ≤ p.img.length
theorem piece_ok (h : Heap) (p : RP) (q : Pr) (ca : Option Addr) (cc : Nat) (hs : RdS h ca (intsV p.conf)) : MOk h ⟨pieceP p q, none, 0, ca, cc⟩ := ⟨RdS.nil _ _, hs, Nat.le_refl _⟩
set_option maxRecDepth 8000 in
set_option maxHeartbeats 2000000 in
theorem update_ct (X : Nat) (d : MD) (q : Pr) (hf : PFit d.p) (hq : QFit d.p q) (ho : d.outs.length ≤ 10000000) : Ct Tryz.prog 88 [Ptr X, prA q] (fun _ => True) (mdH X d) (OutP X d.p d.a d.outs [updateP d.p q]) := by
  have hi := hf.img
  have hb := hf.base
  have hcl := hf.cl
  obtain ⟨n1, n2⟩ := hq.next
  obtain ⟨o1, o2⟩ := hq.off
  refine ct_enter 83 Tryz.func88 rfl rfl rfl ?_
  intro F _
  refine g_ownN (a := d.a.la) z_3 (fun _ hcap _ => ?_)
  have hfit := hf.fit d.a hcap
  obtain ⟨b, hbq⟩ : ∃ b, b = decide (q.next ≤ d.p.base) := ⟨_, rfl⟩
  repeat refine y_ ?_
  refine g_region ?_
  refine gl_boxA rfl rfl ?_; intro g3
  refine gl_nil ?_
  repeat refine y_ ?_
  refine g_region ?_
  refine m_ ?_
  refine f_ (s_nilCheck rfl) ?_
  refine f_ z_1 ?_
  refine f_ z_1 ?_
  refine r_ ((s_load_blkN rfl z_3 z_10).eq (v' := (d.p.lm d.a).v) rfl) ?_
  refine gl_allocA rfl ?_; intro g4
  (first | refine gl_store_blkW rfl rfl z_6 z_10 z_10 z_2 ?_ | refine gl_store_blk rfl rfl z_6 z_10 z_2 z_10 ?_)
  refine gl_nil ?_
  repeat refine y_ ?_
  refine g_region ?_
  refine f_ z_1 ?_
  refine r_ (by first | exact s_load_blk rfl z_3 a4_1 | exact s_load1 rfl (fun w hw => peekB hw (by assumption) a4_1)) ?_
  refine f_ z_1 ?_
  refine r_ (by first | exact s_load_blk rfl z_3 a4_0 | exact s_load1 rfl (fun w hw => peekB hw (by assumption) a4_0)) ?_
  refine f_ ((s_leq rfl rfl).eq (congrArg Value.bool hbq.symm)) ?_
  refine gl_nil ?_
  repeat refine y_ ?_
  cases b
  rotate_left
  · have h1 : q.next ≤ d.p.base := of_decide_eq_true hbq.symm
    have e : updateP d.p q = pieceP d.p q := if_pos h1
    rw [e]
    obtain ⟨k, hk⟩ : ∃ k : Int, k = min (d.p.img.length : Int) (q.off + 4096) := ⟨_, rfl⟩
    repeat refine y_ ?_
    refine g_draw ([4, 7], [0, 1, 3, 7, 15, 31, 0, 64, 192, 511, 1023], []) [.blk X (mdO d), .blk g3 (.cells #[.int .i64 q.node, .int .u64 q.next, .int .u64 q.mtc, .int .i64 q.off] 100)] 11 rfl ?_
    refine w_ 0 rfl (s_move rfl) ?_
    refine w_ 1 rfl (s_nilCheck rfl) ?_
    refine w_ 2 rfl z_1 ?_
    refine w_ 3 rfl z_1 ?_
    (first | refine ga_read_k 4 rfl z_5 (s_load_blk rfl .del a19_9) (by (first | exact fun _ h => h | (repeat first | exact sub_nil | refine sub_cons z_4 ?_))) rfl rfl rfl z_7 ?_ | refine ga_readF 4 rfl (s_load1 rfl (fun w hw => peekB hw (by assumption) a19_9)) (by (first | exact fun _ h => h | (repeat first | exact sub_nil | refine sub_cons z_4 ?_))) rfl rfl rfl z_7 ?_)
    refine w_ 5 rfl (s_len_str rfl) ?_
    refine w_ 6 rfl z_1 ?_
    (first | refine ga_read_k 7 rfl z_5 (s_load_blk rfl .del a4_3) (by (first | exact fun _ h => h | (repeat first | exact sub_nil | refine sub_cons z_4 ?_))) rfl rfl rfl z_7 ?_ | refine ga_readF 7 rfl (s_load1 rfl (fun w hw => peekB hw (by assumption) a4_3)) (by (first | exact fun _ h => h | (repeat first | exact sub_nil | refine sub_cons z_4 ?_))) rfl rfl rfl z_7 ?_)
    refine w_ 8 rfl (s_add_i64 rfl rfl (by omega)) ?_
    refine w_ 9 rfl ((s_min2 rfl rfl).eq (v' := .int .i64 k) (by rw [hk])) ?_
    refine w_ 10 rfl (s_assign rfl) ?_
    refine ga_done z_7 ?_
    repeat refine y_ ?_
    refine g_draw ([2, 4, 6, 8, 11, 16, 22, 24], [0, 0, 2, 0, 8, 0, 32, 0, 128, 384, 0, 1024, 0, 4096, 12288, 28672, 61440, 126976, 0, 262144, 786432, 1835008, 3932160, 0, 8388608, 0, 66846720, 134217720, 268435455], [9, 28]) [.blk X (mdO d), .blk g4 (.cells #[.int .u64 d.p.base, .int .u64 d.p.bt, .slice d.a.ca d.p.conf.length d.a.cc, .slice d.a.la d.p.l.length d.a.lc] 46), .blk g3 (.cells #[.int .i64 q.node, .int .u64 q.next, .int .u64 q.mtc, .int .i64 q.off] 100)] 29 rfl ?_
    refine w_ 0 rfl (s_move rfl) ?_
    refine w_ 1 rfl z_1 ?_
    (first | refine ga_read_k 2 rfl z_5 (s_load_blk rfl .del a4_0) (by (first | exact fun _ h => h | (repeat first | exact sub_nil | refine sub_cons z_4 ?_))) rfl rfl rfl z_7 ?_ | refine ga_readF 2 rfl (s_load1 rfl (fun w hw => peekB hw (by assumption) a4_0)) (by (first | exact fun _ h => h | (repeat first | exact sub_nil | refine sub_cons z_4 ?_))) rfl rfl rfl z_7 ?_)
    refine w_ 3 rfl z_1 ?_
    (first | refine ga_read_k 4 rfl z_5 (s_load_blk rfl .del a4_0) (by (first | exact fun _ h => h | (repeat first | exact sub_nil | refine sub_cons z_4 ?_))) rfl rfl rfl z_7 ?_ | refine ga_readF 4 rfl (s_load1 rfl (fun w hw => peekB hw (by assumption) a4_0)) (by (first | exact fun _ h => h | (repeat first | exact sub_nil | refine sub_cons z_4 ?_))) rfl rfl rfl z_7 ?_)
    refine w_ 5 rfl z_1 ?_
    (first | refine ga_read_k 6 rfl z_5 (s_load_blk rfl .del a4_1) (by (first | exact fun _ h => h | (repeat first | exact sub_nil | refine sub_cons z_4 ?_))) rfl rfl rfl z_7 ?_ | refine ga_readF 6 rfl (s_load1 rfl (fun w hw => peekB hw (by assumption) a4_1)) (by (first | exact fun _ h => h | (repeat first | exact sub_nil | refine sub_cons z_4 ?_))) rfl rfl rfl z_7 ?_)
    refine w_ 7 rfl z_1 ?_
    (first | refine ga_read_k 8 rfl z_5 (s_load_blk rfl .del a4_2) (by (first | exact fun _ h => h | (repeat first | exact sub_nil | refine sub_cons z_4 ?_))) rfl rfl rfl z_7 ?_ | refine ga_readF 8 rfl (s_load1 rfl (fun w hw => peekB hw (by assumption) a4_2)) (by (first | exact fun _ h => h | (repeat first | exact sub_nil | refine sub_cons z_4 ?_))) rfl rfl rfl z_7 ?_)
    refine w_ 10 rfl z_1 ?_
    (first | refine ga_read_k 11 rfl z_5 (s_load_blk rfl .del a4_3) (by (first | exact fun _ h => h | (repeat first | exact sub_nil | refine sub_cons z_4 ?_))) rfl rfl rfl z_7 ?_ | refine ga_readF 11 rfl (s_load1 rfl (fun w hw => peekB hw (by assumption) a4_3)) (by (first | exact fun _ h => h | (repeat first | exact sub_nil | refine sub_cons z_4 ?_))) rfl rfl rfl z_7 ?_)
    refine w_ 12 rfl (s_move rfl) ?_
    refine w_ 13 rfl (s_nilCheck rfl) ?_
    refine w_ 14 rfl z_1 ?_
    refine w_ 15 rfl z_1 ?_
    (first | refine ga_read_k 16 rfl z_5 (s_load_blk rfl .del a19_9) (by (first | exact fun _ h => h | (repeat first | exact sub_nil | refine sub_cons z_4 ?_))) rfl rfl rfl z_7 ?_ | refine ga_readF 16 rfl (s_load1 rfl (fun w hw => peekB hw (by assumption) a19_9)) (by (first | exact fun _ h => h | (repeat first | exact sub_nil | refine sub_cons z_4 ?_))) rfl rfl rfl z_7 ?_)
    refine w_ 17 rfl (s_len_str rfl) ?_
    refine w_ 18 rfl (s_move rfl) ?_
    refine w_ 19 rfl (s_nilCheck rfl) ?_
    refine w_ 20 rfl z_1 ?_
    refine w_ 21 rfl z_1 ?_
    (first | refine ga_read_k 22 rfl z_5 (s_load_blk rfl .del a19_9) (by (first | exact fun _ h => h | (repeat first | exact sub_nil | refine sub_cons z_4 ?_))) rfl rfl rfl z_7 ?_ | refine ga_readF 22 rfl (s_load1 rfl (fun w hw => peekB hw (by assumption) a19_9)) (by (first | exact fun _ h => h | (repeat first | exact sub_nil | refine sub_cons z_4 ?_))) rfl rfl rfl z_7 ?_)
    refine w_ 23 rfl z_1 ?_
    (first | refine ga_read_k 24 rfl z_5 (s_load_blk rfl .del a4_3) (by (first | exact fun _ h => h | (repeat first | exact sub_nil | refine sub_cons z_4 ?_))) rfl rfl rfl z_7 ?_ | refine ga_readF 24 rfl (s_load1 rfl (fun w hw => peekB hw (by assumption) a4_3)) (by (first | exact fun _ h => h | (repeat first | exact sub_nil | refine sub_cons z_4 ?_))) rfl rfl rfl z_7 ?_)
    refine w_ 25 rfl (s_move rfl) ?_
    refine w_ 26 rfl ((s_slice_str rfl rfl rfl ⟨by omega, by omega, by omega⟩).eq (v' := B (pieceP d.p q).data) (congrArg B (List.take_eq_take_iff.2 (by rw [List.length_drop, hk]; omega)))) ?_
    refine ga_one 9 rfl z_7 ?_
    refine gl_call _ rfl (CloneI_ct d.p.conf d.a.ca d.a.cc (by omega)) (fun w hw => hw) (fun h hh ⟨bs, hs⟩ => Sat.rd (a := d.a.ca) hs z_3) rfl ?_; rintro v A ⟨ka, kc, rfl, rfl⟩
    refine gl_nil ?_
    refine at_ga (.inr (by exact keeps_of (by (first | exact fun _ h => h | (repeat first | exact sub_nil | refine sub_cons z_4 ?_))))) ?_
    refine w_ 27 rfl ((s_bld (cells := (mmC ⟨{ pieceP d.p q with frm := 0, to := 0, term := 0 }, none, 0, ka, kc⟩).toArray) rfl z_7).eq (v' := mmA ⟨{ pieceP d.p q with frm := 0, to := 0, term := 0 }, none, 0, ka, kc⟩) rfl) ?_
    refine ga_one 28 rfl z_7 ?_
    refine gl_call [OwnC ka d.p.conf kc, .blk g4 (.cells #[.int .u64 d.p.base, .int .u64 d.p.bt, .slice d.a.ca d.p.conf.length d.a.cc, .slice d.a.la d.p.l.length d.a.lc] 46), .blk g3 (.cells #[.int .i64 q.node, .int .u64 q.next, .int .u64 q.mtc, .int .i64 q.off] 100)] rfl (say_ct X d q.node ⟨{ pieceP d.p q with frm := 0, to := 0, term := 0 }, none, 0, ka, kc⟩ (by omega)) (fun w hw => hw.perm (perm_up z_3 (perm_up z_3 (perm_up z_3 (perm_up z_3 (perm_up z_3 (perm_up z_3 (.refl _)))))))) (fun _ _ _ => trivial) rfl ?_; rintro v A ⟨rfl, oa, oc, rfl⟩
    refine gl_nil ?_
    refine at_ga (.inl z_7) ?_
    refine ga_done z_7 ?_
    repeat refine y_ ?_
    refine g_ret ?_
    exact at_end0 rfl (mdH X ⟨d.p, d.a, d.outs ++ [⟨pieceP d.p q, none, 0, ka, kc⟩], oa, oc⟩ ++ [OwnC ka d.p.conf kc]) ⟨rfl, [⟨pieceP d.p q, none, 0, ka, kc⟩], oa, oc, _, rfl, rfl, fun h ⟨bs, hs⟩ m hm => by
      rw [List.mem_singleton.1 hm]
      exact piece_ok h d.p q ka kc (Sat.rd (a := ka) hs z_3)⟩ (fun w hw => Hp.left (R := [_, _]) hw)
  have h1 : ¬ q.next ≤ d.p.base := of_decide_eq_false hbq.symm
  have e : updateP d.p q = appendP d.p q := if_neg h1
  rw [e]
  repeat refine y_ ?_
  refine g_region ?_
  refine r_ ((s_load_blkW rfl z_3 z_10).eq (v' := (d.p.lm d.a).v) rfl) ?_
  refine f_ z_1 ?_
  refine r_ (by first | exact s_load_blk rfl z_3 a4_1 | exact s_load1 rfl (fun w hw => peekB hw (by assumption) a4_1)) ?_
  refine f_ (s_sub_u64 rfl rfl (by omega)) ?_
  refine gl_callp rfl (Term_ct (d.p.lm d.a) (q.next - 1) hfit (by omega)) (fun h hh ⟨bs, hs⟩ => Sat.rd (a := d.a.la) hs z_3) rfl ?_; rw [show termV (d.p.lm d.a) (q.next - 1) = termV d.p.g (q.next - 1) from rfl, show hasL (d.p.lm d.a) (q.next - 1) = hasL d.p.g (q.next - 1) from rfl]
  refine m_ ?_
  refine f_ (s_extract rfl rfl) ?_
  refine f_ (s_extract rfl rfl) ?_
  refine f_ (s_assign rfl) ?_
  refine f_ (s_assign rfl) ?_
  refine gl_nil ?_
  repeat refine y_ ?_
  refine g_draw ([2, 4, 7, 9, 15], [0, 0, 2, 0, 8, 24, 0, 0, 0, 256, 896, 0, 2048, 6144, 14336, 30720, 65528, 131071], [10, 17]) [.blk X (mdO d), .blk g4 (.cells #[.int .u64 d.p.base, .int .u64 d.p.bt, .slice d.a.ca d.p.conf.length d.a.cc, .slice d.a.la d.p.l.length d.a.lc] 46), .blk g3 (.cells #[.int .i64 q.node, .int .u64 q.next, .int .u64 q.mtc, .int .i64 q.off] 100)] 18 rfl ?_
  refine w_ 0 rfl (s_move rfl) ?_
  refine w_ 1 rfl z_1 ?_
  (first | refine ga_read_k 2 rfl z_5 (s_load_blk rfl .del a4_0) (by (first | exact fun _ h => h | (repeat first | exact sub_nil | refine sub_cons z_4 ?_))) rfl rfl rfl z_7 ?_ | refine ga_readF 2 rfl (s_load1 rfl (fun w hw => peekB hw (by assumption) a4_0)) (by (first | exact fun _ h => h | (repeat first | exact sub_nil | refine sub_cons z_4 ?_))) rfl rfl rfl z_7 ?_)
  refine w_ 3 rfl z_1 ?_
  (first | refine ga_read_k 4 rfl z_5 (s_load_blk rfl .del a4_1) (by (first | exact fun _ h => h | (repeat first | exact sub_nil | refine sub_cons z_4 ?_))) rfl rfl rfl z_7 ?_ | refine ga_readF 4 rfl (s_load1 rfl (fun w hw => peekB hw (by assumption) a4_1)) (by (first | exact fun _ h => h | (repeat first | exact sub_nil | refine sub_cons z_4 ?_))) rfl rfl rfl z_7 ?_)
  refine w_ 5 rfl (s_sub_u64 rfl rfl (by omega)) ?_
  refine w_ 6 rfl (s_move rfl) ?_
  refine ga_read_k 7 rfl z_5 ((s_load_blkW rfl .del z_10).eq (v' := (d.p.lm d.a).v) rfl) (by (first | exact fun _ h => h | (repeat first | exact sub_nil | refine sub_cons z_4 ?_))) rfl rfl rfl z_7 ?_
  refine w_ 8 rfl z_1 ?_
  (first | refine ga_read_k 9 rfl z_5 (s_load_blk rfl .del a4_1) (by (first | exact fun _ h => h | (repeat first | exact sub_nil | refine sub_cons z_4 ?_))) rfl rfl rfl z_7 ?_ | refine ga_readF 9 rfl (s_load1 rfl (fun w hw => peekB hw (by assumption) a4_1)) (by (first | exact fun _ h => h | (repeat first | exact sub_nil | refine sub_cons z_4 ?_))) rfl rfl rfl z_7 ?_)
  refine w_ 11 rfl (s_move rfl) ?_
  refine w_ 12 rfl (s_nilCheck rfl) ?_
  refine w_ 13 rfl z_1 ?_
  refine w_ 14 rfl z_1 ?_
  (first | refine ga_read_k 15 rfl z_5 (s_load_blk rfl .del a19_10) (by (first | exact fun _ h => h | (repeat first | exact sub_nil | refine sub_cons z_4 ?_))) rfl rfl rfl z_7 ?_ | refine ga_readF 15 rfl (s_load1 rfl (fun w hw => peekB hw (by assumption) a19_10)) (by (first | exact fun _ h => h | (repeat first | exact sub_nil | refine sub_cons z_4 ?_))) rfl rfl rfl z_7 ?_)
  refine ga_one 10 rfl z_7 ?_
  refine gl_call _ rfl (Slice_ct (d.p.lm d.a) q.next 8 hfit (by omega) (by omega)) (fun w hw => hw) (fun h hh ⟨bs, hs⟩ => Sat.rd (a := d.a.la) hs z_3) rfl ?_; rw [show sliceL (d.p.lm d.a) q.next 8 = sliceL d.p.g q.next 8 from rfl]; rintro v A ⟨ea, ec, rfl, rfl⟩; refine gl_ownN (a := ea) .del (fun _ hec _ => ?_)
  refine gl_nil ?_
  refine at_ga (.inr (by exact keeps_of (by (first | exact fun _ h => h | (repeat first | exact sub_nil | refine sub_cons z_4 ?_))))) ?_
  refine w_ 16 rfl ((s_bld (cells := (mmC ⟨{ appendP d.p q with frm := 0, to := 0, term := 0 }, ea, ec, none, 0⟩).toArray) rfl z_7).eq (v' := mmA ⟨{ appendP d.p q with frm := 0, to := 0, term := 0 }, ea, ec, none, 0⟩) rfl) ?_
  refine ga_one 17 rfl z_7 ?_
  refine gl_call [OwnL ea (sliceL d.p.g q.next 8) ec, .blk g4 (.cells #[.int .u64 d.p.base, .int .u64 d.p.bt, .slice d.a.ca d.p.conf.length d.a.cc, .slice d.a.la d.p.l.length d.a.lc] 46), .blk g3 (.cells #[.int .i64 q.node, .int .u64 q.next, .int .u64 q.mtc, .int .i64 q.off] 100)] rfl (say_ct X d q.node ⟨{ appendP d.p q with frm := 0, to := 0, term := 0 }, ea, ec, none, 0⟩ (by omega)) (fun w hw => hw.perm (perm_up z_3 (perm_up z_3 (perm_up z_3 (perm_up z_3 (perm_up z_3 (perm_up z_3 (.refl _)))))))) (fun _ _ _ => trivial) rfl ?_; rintro v A ⟨rfl, oa, oc, rfl⟩
  refine gl_nil ?_
  refine at_ga (.inl z_7) ?_
  refine ga_done z_7 ?_
  repeat refine y_ ?_
  exact at_end0 rfl (mdH X ⟨d.p, d.a, d.outs ++ [⟨appendP d.p q, ea, ec, none, 0⟩], oa, oc⟩ ++ [OwnL ea (sliceL d.p.g q.next 8) ec]) ⟨rfl, [⟨appendP d.p q, ea, ec, none, 0⟩], oa, oc, _, rfl, rfl, fun h ⟨bs, hs⟩ m hm => by
    rw [List.mem_singleton.1 hm]
    exact ⟨Sat.rd (a := ea) hs z_3, RdS.nil _ _, hec⟩⟩ (fun w hw => Hp.left (R := [_, _]) hw)
end Go.Proofs.YtodcghipfolejaaGreat.Rf
/- A mind's calls: all, commit. -/
namespace Go.Proofs.YtodcghipfolejaaGreat.Rf
open Go Go.Sl
set_option linter.unusedVariables false
set_option linter.unusedSimpArgs false
-- ARR

theorem com_ex (l : List Int) (hs : List At2) : ∀ k, k ≤ hs.length → ∃ b, ComI l hs k b ∧ (b = 0 ∨ ∃ p ∈ hs, b = p.2) := by
  intro k
  induction k with
  | zero => intro _; exact ⟨0, ⟨Int.le_refl _, .inl rfl, fun j hj => absurd hj (by omega)⟩, .inl rfl⟩
  | succ k ih =>
    intro hk
    obtain ⟨b, hb, hb2⟩ := ih (by omega)
    have hp := hb.pos
    by_cases h : b < (hs.getD k (0, 0)).2 ∧ mostB l (whoL hs (hs.getD k (0, 0)).2) = true
    · refine ⟨_, ⟨by omega, .inr h.2, fun j hj hm => ?_⟩, .inr ⟨hs.getD k (0, 0), ?_, rfl⟩⟩
      · rcases Nat.lt_succ_iff_lt_or_eq.1 hj with h4 | rfl
        · have := hb.all j h4 hm; omega
        · exact Int.le_refl _
      · rw [List.getD_eq_getElem?_getD, List.getElem?_eq_getElem (by omega)]; exact List.getElem_mem (by omega)
    · refine ⟨b, ⟨hp, hb.has, fun j hj hm => ?_⟩, hb2⟩
      rcases Nat.lt_succ_iff_lt_or_eq.1 hj with h4 | rfl
      · exact hb.all j h4 hm
      · apply Classical.byContradiction
        intro hn
        exact h ⟨by omega, hm⟩
theorem com_bd {l : List Int} {hs : List At2} {M : Int} (hM : 0 ≤ M) (h : ∀ p ∈ hs, p.2 ≤ M) : 0 ≤ com l hs ∧ com l hs ≤ M := by
  obtain ⟨b, hb, hb2⟩ := com_ex l hs hs.length (Nat.le_refl _)
  rw [comI_end hb]
  refine ⟨hb.pos, ?_⟩
  rcases hb2 with rfl | ⟨p, hp, rfl⟩
  · exact hM
  · exact h p hp
theorem PFit.com {p : RP} (h : PFit p) : 0 ≤ comP p ∧ comP p ≤ 4611686018427387904 := by
  refine com_bd (by omega) (fun q hq => ?_)
  have := h.last
  rcases List.mem_cons.1 hq with rfl | hq
  · show lastI p.g ≤ _; omega
  · obtain ⟨r, hr, rfl⟩ := List.mem_map.1 hq
    exact (h.prs r hr).2.2.2.1
theorem getD_memP {l : List Pr} {k : Nat} (hk : k < l.length) : l.getD k P0 ∈ l := by
  rw [List.getD_eq_getElem?_getD, List.getElem?_eq_getElem hk]; exact List.getElem_mem hk
theorem takeP {l : List Pr} {k : Nat} (hk : k < l.length) : l.take (k + 1) = l.take k ++ [l.getD k P0] := by
  rw [List.take_succ_eq_append_getElem hk]; simp [hk]
theorem rdQ_own {F : Snap} {w : World} {H H' : List As} {a : Option Addr} {l : List Pr} {n c q i : Nat} {te : TypeId} (hw : Hp F w H) (u : Upd H (.own (.slice a n c) te 4 (prV l)) [] H') (h : q = 4 * i) (hi : i < l.length) : PeekC (hp w) (addO a q) (prC (l.getD i P0)) := rec_rdN (C := prC) (hw.ownN u).2.2.1 prC_len (by decide) P0 h hi
structure AI (p : RP) (k : Nat) (ms : List MM) (Z : List As) : Prop where
  le : k ≤ p.peers.length
  me : ms.map MM.p = (p.peers.take k).map (updateP p)
  len : ms.length = k
  ok : ∀ h, (∃ bs, Sat h Z bs) → ∀ m ∈ ms, MOk h m
set_option maxRecDepth 8000 in
set_option maxHeartbeats 2000000 in
theorem all_ct (X : Nat) (d : MD) (hf : PFit d.p) (ho : d.outs.length ≤ 1000000) : Ct Tryz.prog 53 [Ptr X] (fun _ => True) (mdH X d) (OutP X d.p d.a d.outs (allP d.p)) := by
  obtain ⟨p, a, outs, oa0, oc0⟩ := d
  simp only at hf ho
  have hpl := hf.peers
  refine ct_enter 24 Tryz.func53 rfl rfl rfl ?_
  intro F _
  obtain ⟨b, hb⟩ : ∃ b, b = decide (p.role = 2) := ⟨_, rfl⟩
  repeat refine y_ ?_
  refine g_region ?_
  refine m_ ?_
  refine f_ (s_nilCheck rfl) ?_
  refine f_ z_1 ?_
  refine f_ z_1 ?_
  refine r_ (by first | exact s_load_blk rfl z_3 a19_3 | exact s_load1 rfl (fun w hw => peekB hw (by assumption) a19_3)) ?_
  refine f_ ((s_neq rfl rfl).eq (v' := .bool (!b)) (by rw [hb])) ?_
  refine gl_nil ?_
  repeat refine y_ ?_
  cases b
  · have e : allP p = [] := if_neg (of_decide_eq_false hb.symm)
    simp only [e]
    repeat refine y_ ?_
    refine g_ret ?_
    exact at_end0 rfl (mdH X ⟨p, a, outs, oa0, oc0⟩ ++ []) ⟨rfl, [], oa0, oc0, [], rfl, by simp only [List.append_nil], fun h _ m hm => by cases hm⟩ (fun w hw => hw)
  have e : allP p = p.peers.map (updateP p) := if_pos (of_decide_eq_true hb.symm)
  simp only [e]
  repeat refine y_ ?_
  refine g_ownN (a := a.pa) z_3 (fun _ _ hpa => ?_)
  repeat refine y_ ?_
  refine g_region ?_
  refine m_ ?_
  refine f_ (s_nilCheck rfl) ?_
  refine f_ z_1 ?_
  refine f_ z_1 ?_
  refine r_ (by first | exact s_load_blk rfl z_3 a19_14 | exact s_load1 rfl (fun w hw => peekB hw (by assumption) a19_14)) ?_
  refine f_ (s_len_sl rfl) ?_
  refine m_ ?_
  refine gl_nil ?_
  repeat refine y_ ?_
  refine g_loop (ι := Nat × List MM × Option Addr × Nat × List As) (fun i => AI p i.1 i.2.1 i.2.2.2.2) (fun i => [(0, Ptr X), (14, .slice a.pa p.peers.length a.pc), (15, .int .i64 (p.peers.length : Nat)), (16, .int .i64 (i.1 : Nat))]) (fun i => mdH X ⟨p, a, outs ++ i.2.1, i.2.2.1, i.2.2.2.1⟩ ++ i.2.2.2.2) (fun i => p.peers.length - i.1) (0, [], oa0, oc0, []) ⟨Nat.zero_le _, rfl, rfl, fun h _ m hm => by cases hm⟩ ?_ ?_ ?_
  · (repeat (first | exact Sub.nil _ | refine Sub.cons rfl ?_))
  · intro w hw
    simp only [List.append_nil]
    exact hw
  rintro ⟨k, ms, oa, oc, Z⟩ hI
  obtain ⟨hk, hms, hln, hok⟩ := hI
  simp only at hk hms hln hok
  repeat refine y_ ?_
  refine g_region ?_
  refine f_ (s_lss rfl rfl) ?_
  refine gl_nil ?_
  repeat refine y_ ?_
  refine g_cond rfl (fun h => ?_) (fun h => ?_)
  rotate_left
  · have hkl : k = p.peers.length := by simp at h; omega
    rw [hkl, List.take_length] at hms
    repeat refine y_ ?_
    exact at_end0 rfl (mdH X ⟨p, a, outs ++ ms, oa, oc⟩ ++ Z) ⟨rfl, ms, oa, oc, Z, hms, rfl, hok⟩ (fun w hw => hw)
  have hkl : k < p.peers.length := by simp at h; omega
  have hsome : ∃ ad, a.pa = some ad := hpa (by show 0 < p.peers.length; omega)
  have hq := hf.prs _ (getD_memP hkl)
  have htk := takeP hkl
  obtain ⟨q, hqe⟩ : ∃ q, q = p.peers.getD k P0 := ⟨_, rfl⟩
  rw [← hqe] at hq htk
  have hkk : ((k, ms, oa, oc, Z) : Nat × List MM × Option Addr × Nat × List As).1 < p.peers.length := hkl
  repeat refine y_ ?_
  refine g_region ?_
  refine f_ (s_indexAddr rfl (by assumption) rfl (by omega)) ?_
  refine r_ (s_loadN (cs := prC q) rfl (fun w hw => by rw [hqe]; exact rdQ_own (a := a.pa) hw z_3 (i := k) (by simp only; omega) hkl) rfl) ?_
  refine gl_allocA rfl ?_; intro g3
  (first | refine gl_store_blkW rfl rfl z_6 z_10 z_10 z_2 ?_ | refine gl_store_blk rfl rfl z_6 z_10 z_2 z_10 ?_)
  refine gl_nil ?_
  repeat refine y_ ?_
  refine g_region ?_
  refine m_ ?_
  refine r_ z_11 ?_
  refine gl_call (.blk g3 (.cells #[.int .i64 q.node, .int .u64 q.next, .int .u64 q.mtc, .int .i64 q.off] 100) :: Z) rfl (update_ct X ⟨p, a, outs ++ ms, oa, oc⟩ q hf ⟨⟨hq.1, hq.2.1⟩, hq.2.2.2.2⟩ (by simp only [List.length_append]; omega)) (fun w hw => hw.perm (perm_up z_3 (perm_up z_3 (perm_up z_3 (perm_up z_3 (perm_up z_3 (perm_up z_3 (.refl _)))))))) (fun _ _ _ => trivial) rfl ?_; rintro v A ⟨rfl, ms1, oa1, oc1, Z1, e1, rfl, f1⟩
  refine gl_nil ?_
  repeat refine y_ ?_
  refine g_region ?_
  refine f_ (s_add_i64 rfl rfl (by omega)) ?_
  refine m_ ?_
  refine gl_nil ?_
  repeat refine y_ ?_
  refine at_next (k + 1, ms ++ ms1, oa1, oc1, Z1 ++ (.blk g3 (.cells #[.int .i64 q.node, .int .u64 q.next, .int .u64 q.mtc, .int .i64 q.off] 100) :: Z)) ⟨by simp only; omega, ?_, ?_, ?_⟩ (by simp only; omega) ?_ ?_
  · rw [List.map_append, hms, e1, htk, List.map_append]; rfl
  · have := congrArg List.length e1
    simp at this
    simp only [List.length_append]; omega
  · intro h hs m hm
    obtain ⟨s1, s2⟩ := Sat.two2 hs
    obtain ⟨bs, b1, b2, _, _, s3⟩ := s2
    rcases List.mem_append.1 hm with hm | hm
    · exact hok h ⟨b2, s3⟩ m hm
    · exact f1 h s1 m hm
  · (repeat (first | exact Sub.nil _ | refine Sub.cons rfl ?_))
  · intro w hw
    simp only
    rw [← List.append_assoc outs ms ms1, ← List.append_assoc]
    exact hw
end Go.Proofs.YtodcghipfolejaaGreat.Rf
/- A mind's calls: commit. -/
namespace Go.Proofs.YtodcghipfolejaaGreat.Rf
open Go Go.Sl
set_option linter.unusedVariables false
set_option linter.unusedSimpArgs false
-- ARR

def haveK (p : RP) (k : Nat) : List At2 := (p.id, lastI p.g) :: (p.peers.take k).map fun q => (q.node, q.mtc)
theorem haveK_all (p : RP) : haveK p p.peers.length = haveP p := by rw [haveK, List.take_length]; rfl
theorem haveK_succ {p : RP} {k : Nat} (hk : k < p.peers.length) : haveK p (k + 1) = haveK p k ++ [((p.peers.getD k P0).node, (p.peers.getD k P0).mtc)] := by
  rw [haveK, haveK, takeP hk, List.map_append]; rfl
theorem haveK_len (p : RP) (k : Nat) : (haveK p k).length ≤ p.peers.length + 1 := by
  rw [haveK, List.length_cons, List.length_map, List.length_take]; omega
abbrev OwnA (a : Option Addr) (l : List At2) (c : Nat) : As := .own (.slice a l.length c) 143 2 (atV l)
theorem own_snocA {a : Option Addr} {l : List At2} {q : At2} {c n : Nat} (hn : n = l.length + 1) : As.own (.slice a n c) 143 2 (atV l ++ atV [q]) = OwnA a (l ++ [q]) c := by
  subst hn
  show _ = As.own (.slice a (l ++ [q]).length c) 143 2 (atV (l ++ [q]))
  rw [atV_append, List.length_append, List.length_singleton]
set_option maxRecDepth 8000 in
set_option maxHeartbeats 2000000 in
theorem commit_ct (X : Nat) (d : MD) (hf : PFit d.p) : Ct Tryz.prog 64 [Ptr X] (fun _ => True) (mdH X d) (MdP X d (commitP d.p) [] (.tuple #[])) := by
  obtain ⟨p, a, outs, oa0, oc0⟩ := d
  simp only at hf
  have hpl := hf.peers
  have hcn := hf.cn (lastI p.g)
  have hca := hf.ca (lastI p.g)
  have hcb := hf.com
  obtain ⟨cl, hcl⟩ : ∃ l, l = confAt p.g (lastI p.g) := ⟨_, rfl⟩
  rw [← hcl] at hcn hca
  have hcL : confL p = cl.1 := by rw [hcl]; rfl
  have hcI : confI p = cl.2 := by rw [hcl]; rfl
  obtain ⟨cm, hcm⟩ : ∃ c, c = comP p := ⟨_, rfl⟩
  have hcm2 : com cl.1 (haveP p) = cm := by rw [hcm, comP, hcL]
  rw [← hcm] at hcb
  obtain ⟨p1, hp1⟩ : ∃ q, q = commit1 p := ⟨_, rfl⟩
  have hP : commitP p = if inB cl.1 p.id = false ∧ cl.2 ≤ p1.commit then followP p1 p1.term 0 else p1 := by rw [commitP, hcL, hcI, hp1]
  simp only [hP]
  rw [commit1, ← hcm] at hp1
  refine ct_enter 108 Tryz.func64 rfl rfl rfl ?_
  intro F _
  refine g_ownN (a := a.la) z_3 (fun _ hcap _ => ?_)
  refine g_ownN (a := a.pa) z_3 (fun _ _ hpa => ?_)
  have hfit := hf.fit a hcap
  repeat refine y_ ?_
  refine g_region ?_
  refine m_ ?_
  refine f_ (s_nilCheck rfl) ?_
  refine f_ z_1 ?_
  refine f_ z_1 ?_
  refine r_ ((s_load_blkN rfl z_3 z_10).eq (v' := (p.lm a).v) rfl) ?_
  refine gl_call _ rfl (Conf_ct (p.lm a) hfit (hf.datL a)) (fun w hw => hw) (fun h hh ⟨bs, hb⟩ => ⟨Sat.rd (a := a.ca) hb z_3, Sat.rd (a := a.la) hb z_3⟩) rfl ?_; rw [show lastI (p.lm a) = lastI p.g from rfl, confAt_any, ← hcl]; rintro v A ⟨ca, cc, rfl, rfl⟩
  refine m_ ?_
  refine f_ (s_extract rfl rfl) ?_
  refine f_ (s_extract rfl rfl) ?_
  refine f_ (s_assign rfl) ?_
  refine f_ (s_assign rfl) ?_
  refine gl_nil ?_
  repeat refine y_ ?_
  refine g_draw ([4], [0, 1, 3, 7, 15, 0, 32, 127, 255, 511], [6, 8]) [.blk X (mdO ⟨p, a, outs, oa0, oc0⟩)] 10 rfl ?_
  refine w_ 0 rfl (s_move rfl) ?_
  refine w_ 1 rfl (s_nilCheck rfl) ?_
  refine w_ 2 rfl z_1 ?_
  refine w_ 3 rfl z_1 ?_
  (first | refine ga_read_k 4 rfl z_5 (s_load_blk rfl .del a19_0) (by (first | exact fun _ h => h | (repeat first | exact sub_nil | refine sub_cons z_4 ?_))) rfl rfl rfl z_7 ?_ | refine ga_readF 4 rfl (s_load1 rfl (fun w hw => peekB hw (by assumption) a19_0)) (by (first | exact fun _ h => h | (repeat first | exact sub_nil | refine sub_cons z_4 ?_))) rfl rfl rfl z_7 ?_)
  refine w_ 5 rfl (s_move rfl) ?_
  refine ga_one 6 rfl z_7 ?_
  refine gl_callp rfl (rend_ct X ⟨p, a, outs, oa0, oc0⟩ hf hcap) (fun h hh ⟨bs, hb⟩ => ⟨Sat.blk hb z_3, Sat.rd (a := a.la) hb z_3⟩) rfl ?_
  refine gl_nil ?_
  refine at_ga (.inr (by exact keeps_of (by (first | exact fun _ h => h | (repeat first | exact sub_nil | refine sub_cons z_4 ?_))))) ?_
  refine w_ 7 rfl (s_build rfl (run_build_struct (places := [(0, 1), (1, 1)]) rfl (by intro f hf; simp at hf; rcases hf with rfl | rfl <;> rfl) rfl)) ?_
  refine ga_one 8 rfl z_7 ?_
  refine gl_buildSliceU rfl rfl rfl rfl rfl rfl (xs := atV [(p.id, lastI p.g)]) rfl rfl ?_; intro a27 ha27
  refine gl_nil ?_
  refine at_ga (.inl z_7) ?_
  refine w_ 9 rfl (s_assign rfl) ?_
  refine ga_done z_7 ?_
  repeat refine y_ ?_
  refine g_region ?_
  refine m_ ?_
  refine f_ (s_nilCheck rfl) ?_
  refine f_ z_1 ?_
  refine f_ z_1 ?_
  refine r_ (by first | exact s_load_blk rfl z_3 a19_14 | exact s_load1 rfl (fun w hw => peekB hw (by assumption) a19_14)) ?_
  refine f_ (s_len_sl rfl) ?_
  refine m_ ?_
  refine gl_nil ?_
  repeat refine y_ ?_
  refine g_loop (ι := Nat × Option Addr × Nat) (fun i => i.1 ≤ p.peers.length) (fun i => [(0, Ptr X), (2, .slice ca cl.1.length cc), (3, .int .u64 cl.2), (4, .slice i.2.1 (haveK p i.1).length i.2.2), (32, .slice a.pa p.peers.length a.pc), (33, .int .i64 (p.peers.length : Nat)), (34, .int .i64 (i.1 : Nat))]) (fun i => OwnA i.2.1 (haveK p i.1) i.2.2 :: OwnC ca cl.1 cc :: mdH X ⟨p, a, outs, oa0, oc0⟩) (fun i => p.peers.length - i.1) (0, a27, 1) (Nat.zero_le _) ?_ ?_ ?_
  · (repeat (first | exact Sub.nil _ | refine Sub.cons rfl ?_))
  · intro w hw; exact hw
  rintro ⟨k, b, c⟩ hk
  simp only at hk
  have hkl2 := haveK_len p k
  have hkl3 : (haveK p ((k, b, c) : Nat × Option Addr × Nat).1).length ≤ p.peers.length + 1 := hkl2
  repeat refine y_ ?_
  refine g_region ?_
  refine f_ (s_lss rfl rfl) ?_
  refine gl_nil ?_
  repeat refine y_ ?_
  refine g_cond rfl (fun h => ?_) (fun h => ?_)
  · have hkl : k < p.peers.length := by simp at h; omega
    have hkk : ((k, b, c) : Nat × Option Addr × Nat).1 < p.peers.length := hkl
    have hsome : ∃ ad, a.pa = some ad := hpa (by show 0 < p.peers.length; omega)
    have hsu := haveK_succ hkl
    obtain ⟨q, hqe⟩ : ∃ q, q = p.peers.getD k P0 := ⟨_, rfl⟩
    rw [← hqe] at hsu
    repeat refine y_ ?_
    refine g_region ?_
    refine f_ (s_indexAddr rfl (by assumption) rfl (by omega)) ?_
    refine r_ (s_loadN (cs := prC q) rfl (fun w hw => by rw [hqe]; exact rdQ_own (a := a.pa) hw z_3 (i := k) (by simp only; omega) hkl) rfl) ?_
    refine gl_allocA rfl ?_; intro g6
    (first | refine gl_store_blkW rfl rfl z_6 z_10 z_10 z_2 ?_ | refine gl_store_blk rfl rfl z_6 z_10 z_2 z_10 ?_)
    refine gl_nil ?_
    repeat refine y_ ?_
    refine g_region ?_
    refine m_ ?_
    refine f_ z_1 ?_
    refine r_ (by first | exact s_load_blk rfl z_3 a4_0 | exact s_load1 rfl (fun w hw => peekB hw (by assumption) a4_0)) ?_
    refine f_ z_1 ?_
    refine r_ (by first | exact s_load_blk rfl z_3 a4_2 | exact s_load1 rfl (fun w hw => peekB hw (by assumption) a4_2)) ?_
    refine f_ (s_build rfl (run_build_struct (places := [(0, 1), (1, 1)]) rfl (by intro f hf; simp at hf; rcases hf with rfl | rfl <;> rfl) rfl)) ?_
    refine gl_buildSliceU rfl rfl rfl rfl rfl rfl (xs := atV [(q.node, q.mtc)]) rfl rfl ?_; intro a44 ha44
    refine gl_append (sz := 2) rfl rfl (fun a' c' => z_6) (fun w hw => (hw.ownN z_3).2.2.1) rfl rfl rfl (fun v hv => by simp [atV] at hv; rcases hv with rfl | rfl <;> rfl) (by show (_ + 1) * 16 ≤ _; omega) (by omega) rfl ?_; intro a45 c45 hc45
    refine f_ (s_assign rfl) ?_
    refine gl_nil ?_
    repeat refine y_ ?_
    refine g_region ?_
    refine f_ (s_add_i64 rfl rfl (by omega)) ?_
    refine m_ ?_
    refine gl_nil ?_
    repeat refine y_ ?_
    refine at_next (k + 1, a45, c45) (by simp only; omega) (by simp only; omega) ?_ ?_
    · simp only [hsu, List.length_append, List.length_singleton]
      (repeat (first | exact Sub.nil _ | refine Sub.cons rfl ?_))
    · intro w hw
      simp only [hsu]
      rw [← own_snocA rfl]
      exact hw.drop.upd_same z_3
  have hkl : k = p.peers.length := by simp at h; omega
  subst hkl
  rw [haveK_all] at hkl2
  simp only [haveK_all]
  repeat refine y_ ?_
  refine g_region ?_
  refine m_ ?_
  refine m_ ?_
  refine gl_callp rfl (Commit_ct cl.1 (haveP p) ca b cc c (by omega) (by omega)) (fun h hh ⟨bs, hb⟩ => ⟨Sat.rd (a := ca) hb z_3, Sat.rd (a := b) hb z_3⟩) rfl ?_; rw [hcm2]
  refine f_ (s_assign rfl) ?_
  refine gl_nil ?_
  repeat refine y_ ?_
  obtain ⟨q1, hq1⟩ : ∃ q, q = decide (p.commit < cm) := ⟨_, rfl⟩
  obtain ⟨q2, hq2⟩ : ∃ q, q = hasL p.g cm := ⟨_, rfl⟩
  obtain ⟨q3, hq3⟩ : ∃ q, q = decide (termV p.g cm = p.term) := ⟨_, rfl⟩
  repeat refine y_ ?_
  refine g_region ?_
  refine m_ ?_
  refine f_ (s_nilCheck rfl) ?_
  refine f_ z_1 ?_
  refine f_ z_1 ?_
  refine r_ ((s_load_blkN rfl z_3 z_10).eq (v' := (p.lm a).v) rfl) ?_
  refine m_ ?_
  refine gl_callp rfl (Term_ct (p.lm a) cm hfit (by omega)) (fun h hh ⟨bs, hs⟩ => Sat.rd (a := a.la) hs z_3) rfl ?_; rw [show termV (p.lm a) cm = termV p.g cm from rfl, show hasL (p.lm a) cm = hasL p.g cm from rfl, ← hq2]
  refine m_ ?_
  refine f_ (s_extract rfl rfl) ?_
  refine f_ (s_extract rfl rfl) ?_
  refine f_ (s_assign rfl) ?_
  refine f_ (s_assign rfl) ?_
  refine gl_nil ?_
  repeat refine y_ ?_
  have hcond : ∀ b, (q1 && (q2 && q3)) = b → p1 = if b = true then { p with commit := cm } else p := by
    intro b hb
    rw [hp1]
    have e : (p.commit < cm ∧ hasL p.g cm = true ∧ termV p.g cm = p.term) ↔ b = true := by
      rw [← hb, hq1, ← hq2, hq3]; simp
    by_cases hbb : b = true
    · rw [if_pos hbb, if_pos (e.2 hbb)]
    · rw [if_neg hbb, if_neg (fun h => hbb (e.1 h))]
  rcases (show (q1 = true ∧ q2 = true ∧ q3 = true) ∨ q1 = false ∨ (q1 = true ∧ q2 = false) ∨ (q1 = true ∧ q2 = true ∧ q3 = false) by cases q1 <;> cases q2 <;> cases q3 <;> simp) with ⟨rfl, rfl, rfl⟩ | rfl | ⟨rfl, rfl⟩ | ⟨rfl, rfl, rfl⟩
  case' inl =>
    have e1 : p1 = { p with commit := cm } := hcond true rfl
    repeat refine y_ ?_
    refine g_region ?_
    refine m_ ?_
    refine m_ ?_
    refine f_ (s_nilCheck rfl) ?_
    refine f_ z_1 ?_
    refine f_ z_1 ?_
    refine r_ (by first | exact s_load_blk rfl z_3 a19_10 | exact s_load1 rfl (fun w hw => peekB hw (by assumption) a19_10)) ?_
    refine f_ ((s_gtr rfl rfl).eq (congrArg Value.bool hq1.symm)) ?_
    refine m_ ?_
    (first|refine u_ ?_|(refine v_ ?_; refine m_ ?_))
    refine f_ z_8 ?_
    refine m_ ?_
    (first|refine u_ ?_|(refine v_ ?_; refine m_ ?_))
    (first|refine u_ ?_|(refine v_ ?_; refine m_ ?_))
    (first|refine u_ ?_|(refine v_ ?_; refine f_ (s_nilCheck rfl) ?_))
    (first|refine u_ ?_|(refine v_ ?_; refine f_ z_1 ?_))
    (first|refine u_ ?_|(refine v_ ?_; refine f_ z_1 ?_))
    (first|refine u_ ?_|(refine v_ ?_; refine r_ (by first | exact s_load_blk rfl z_3 a19_1 | exact s_load1 rfl (fun w hw => peekB hw (by assumption) a19_1)) ?_))
    (first|refine u_ ?_|(refine v_ ?_; refine f_ ((s_eql rfl rfl).eq (congrArg Value.bool hq3.symm)) ?_))
    refine f_ z_8 ?_
    refine gl_nil ?_
    repeat refine y_ ?_
    refine g_region ?_
    refine m_ ?_
    refine m_ ?_
    refine f_ (s_nilCheck rfl) ?_
    refine f_ z_1 ?_
    refine f_ z_1 ?_
    (first | refine gl_store_blkC (pre := [_, _, _, _, _, _, _, _, _, _]) (post := [_, _, _, _, _, _, _, _]) rfl rfl z_6 z_10 z_10 z_10 ?_ | refine gl_store_blk rfl rfl z_6 z_10 z_2 z_10 ?_)
    refine gl_nil ?_
    repeat refine y_ ?_
    refine g_pull (H' := OwnA b (haveP p) c :: OwnC ca cl.1 cc :: mdH X ⟨p1, a, outs, oa0, oc0⟩) (fun w hw => by rw [e1]; exact hw) ?_
  case' inr.inl =>
    have e1 : p1 = p := hcond false rfl
    repeat refine y_ ?_
    refine g_region ?_
    refine m_ ?_
    refine m_ ?_
    refine f_ (s_nilCheck rfl) ?_
    refine f_ z_1 ?_
    refine f_ z_1 ?_
    refine r_ (by first | exact s_load_blk rfl z_3 a19_10 | exact s_load1 rfl (fun w hw => peekB hw (by assumption) a19_10)) ?_
    refine f_ ((s_gtr rfl rfl).eq (congrArg Value.bool hq1.symm)) ?_
    refine m_ ?_
    (first|refine u_ ?_|(refine v_ ?_; refine m_ ?_))
    refine f_ z_8 ?_
    refine m_ ?_
    (first|refine u_ ?_|(refine v_ ?_; refine m_ ?_))
    (first|refine u_ ?_|(refine v_ ?_; refine m_ ?_))
    (first|refine u_ ?_|(refine v_ ?_; refine f_ (s_nilCheck rfl) ?_))
    (first|refine u_ ?_|(refine v_ ?_; refine f_ z_1 ?_))
    (first|refine u_ ?_|(refine v_ ?_; refine f_ z_1 ?_))
    (first|refine u_ ?_|(refine v_ ?_; refine r_ (by first | exact s_load_blk rfl z_3 a19_1 | exact s_load1 rfl (fun w hw => peekB hw (by assumption) a19_1)) ?_))
    (first|refine u_ ?_|(refine v_ ?_; refine f_ (s_eql rfl rfl) ?_))
    refine f_ z_8 ?_
    refine gl_nil ?_
    repeat refine y_ ?_
    refine g_pull (H' := OwnA b (haveP p) c :: OwnC ca cl.1 cc :: mdH X ⟨p1, a, outs, oa0, oc0⟩) (fun w hw => by rw [e1]; exact hw) ?_
  case' inr.inr.inl =>
    have e1 : p1 = p := hcond false rfl
    repeat refine y_ ?_
    refine g_region ?_
    refine m_ ?_
    refine m_ ?_
    refine f_ (s_nilCheck rfl) ?_
    refine f_ z_1 ?_
    refine f_ z_1 ?_
    refine r_ (by first | exact s_load_blk rfl z_3 a19_10 | exact s_load1 rfl (fun w hw => peekB hw (by assumption) a19_10)) ?_
    refine f_ ((s_gtr rfl rfl).eq (congrArg Value.bool hq1.symm)) ?_
    refine m_ ?_
    (first|refine u_ ?_|(refine v_ ?_; refine m_ ?_))
    refine f_ z_8 ?_
    refine m_ ?_
    (first|refine u_ ?_|(refine v_ ?_; refine m_ ?_))
    (first|refine u_ ?_|(refine v_ ?_; refine m_ ?_))
    (first|refine u_ ?_|(refine v_ ?_; refine f_ (s_nilCheck rfl) ?_))
    (first|refine u_ ?_|(refine v_ ?_; refine f_ z_1 ?_))
    (first|refine u_ ?_|(refine v_ ?_; refine f_ z_1 ?_))
    (first|refine u_ ?_|(refine v_ ?_; refine r_ (by first | exact s_load_blk rfl z_3 a19_1 | exact s_load1 rfl (fun w hw => peekB hw (by assumption) a19_1)) ?_))
    (first|refine u_ ?_|(refine v_ ?_; refine f_ (s_eql rfl rfl) ?_))
    refine f_ z_8 ?_
    refine gl_nil ?_
    repeat refine y_ ?_
    refine g_pull (H' := OwnA b (haveP p) c :: OwnC ca cl.1 cc :: mdH X ⟨p1, a, outs, oa0, oc0⟩) (fun w hw => by rw [e1]; exact hw) ?_
  case' inr.inr.inr =>
    have e1 : p1 = p := hcond false rfl
    repeat refine y_ ?_
    refine g_region ?_
    refine m_ ?_
    refine m_ ?_
    refine f_ (s_nilCheck rfl) ?_
    refine f_ z_1 ?_
    refine f_ z_1 ?_
    refine r_ (by first | exact s_load_blk rfl z_3 a19_10 | exact s_load1 rfl (fun w hw => peekB hw (by assumption) a19_10)) ?_
    refine f_ ((s_gtr rfl rfl).eq (congrArg Value.bool hq1.symm)) ?_
    refine m_ ?_
    (first|refine u_ ?_|(refine v_ ?_; refine m_ ?_))
    refine f_ z_8 ?_
    refine m_ ?_
    (first|refine u_ ?_|(refine v_ ?_; refine m_ ?_))
    (first|refine u_ ?_|(refine v_ ?_; refine m_ ?_))
    (first|refine u_ ?_|(refine v_ ?_; refine f_ (s_nilCheck rfl) ?_))
    (first|refine u_ ?_|(refine v_ ?_; refine f_ z_1 ?_))
    (first|refine u_ ?_|(refine v_ ?_; refine f_ z_1 ?_))
    (first|refine u_ ?_|(refine v_ ?_; refine r_ (by first | exact s_load_blk rfl z_3 a19_1 | exact s_load1 rfl (fun w hw => peekB hw (by assumption) a19_1)) ?_))
    (first|refine u_ ?_|(refine v_ ?_; refine f_ ((s_eql rfl rfl).eq (congrArg Value.bool hq3.symm)) ?_))
    refine f_ z_8 ?_
    refine gl_nil ?_
    repeat refine y_ ?_
    refine g_pull (H' := OwnA b (haveP p) c :: OwnC ca cl.1 cc :: mdH X ⟨p1, a, outs, oa0, oc0⟩) (fun w hw => by rw [e1]; exact hw) ?_
  all_goals
    have hid : p1.id = p.id := by rw [e1]
    obtain ⟨q4, hq4⟩ : ∃ q, q = inB cl.1 p.id := ⟨_, rfl⟩
    obtain ⟨q5, hq5⟩ : ∃ q, q = decide (cl.2 ≤ p1.commit) := ⟨_, rfl⟩
    rw [← hq4]
    cases q4
    rotate_left
    · rw [if_neg (by simp)]
      repeat refine y_ ?_
      refine g_region ?_
      refine m_ ?_
      refine m_ ?_
      refine f_ (s_nilCheck rfl) ?_
      refine f_ z_1 ?_
      refine f_ z_1 ?_
      refine r_ (by first | exact s_load_blk rfl z_3 a19_0 | exact s_load1 rfl (fun w hw => peekB hw (by assumption) a19_0)) ?_
      refine gl_callp rfl (Contains_ct cl.1 p1.id ca cc (by omega)) (fun h hh ⟨bs, hb⟩ => Sat.rd (a := ca) hb z_3) rfl ?_; rw [hid, ← hq4]
      refine f_ (s_not rfl) ?_
      refine m_ ?_
      (first|refine u_ ?_|(refine v_ ?_; refine m_ ?_))
      (first|refine u_ ?_|(refine v_ ?_; refine m_ ?_))
      (first|refine u_ ?_|(refine v_ ?_; refine f_ (s_nilCheck rfl) ?_))
      (first|refine u_ ?_|(refine v_ ?_; refine f_ z_1 ?_))
      (first|refine u_ ?_|(refine v_ ?_; refine f_ z_1 ?_))
      (first|refine u_ ?_|(refine v_ ?_; refine r_ (by first | exact s_load_blk rfl z_3 a19_10 | exact s_load1 rfl (fun w hw => peekB hw (by assumption) a19_10)) ?_))
      (first|refine u_ ?_|(refine v_ ?_; refine f_ (s_leq rfl rfl) ?_))
      refine f_ z_8 ?_
      refine gl_nil ?_
      repeat refine y_ ?_
      exact at_end0 rfl (mdH X ⟨p1, a, outs, oa0, oc0⟩ ++ []) (MdP.same X ⟨p, a, outs, oa0, oc0⟩ ⟨p1, a, outs, oa0, oc0⟩ _ rfl) (fun w hw => hw.drop.drop)
    cases q5
    · have h5 := of_decide_eq_false hq5.symm
      rw [if_neg (fun h => h5 h.2)]
      repeat refine y_ ?_
      refine g_region ?_
      refine m_ ?_
      refine m_ ?_
      refine f_ (s_nilCheck rfl) ?_
      refine f_ z_1 ?_
      refine f_ z_1 ?_
      refine r_ (by first | exact s_load_blk rfl z_3 a19_0 | exact s_load1 rfl (fun w hw => peekB hw (by assumption) a19_0)) ?_
      refine gl_callp rfl (Contains_ct cl.1 p1.id ca cc (by omega)) (fun h hh ⟨bs, hb⟩ => Sat.rd (a := ca) hb z_3) rfl ?_; rw [hid, ← hq4]
      refine f_ (s_not rfl) ?_
      refine m_ ?_
      (first|refine u_ ?_|(refine v_ ?_; refine m_ ?_))
      (first|refine u_ ?_|(refine v_ ?_; refine m_ ?_))
      (first|refine u_ ?_|(refine v_ ?_; refine f_ (s_nilCheck rfl) ?_))
      (first|refine u_ ?_|(refine v_ ?_; refine f_ z_1 ?_))
      (first|refine u_ ?_|(refine v_ ?_; refine f_ z_1 ?_))
      (first|refine u_ ?_|(refine v_ ?_; refine r_ (by first | exact s_load_blk rfl z_3 a19_10 | exact s_load1 rfl (fun w hw => peekB hw (by assumption) a19_10)) ?_))
      (first|refine u_ ?_|(refine v_ ?_; refine f_ ((s_leq rfl rfl).eq (congrArg Value.bool hq5.symm)) ?_))
      refine f_ z_8 ?_
      refine gl_nil ?_
      repeat refine y_ ?_
      exact at_end0 rfl (mdH X ⟨p1, a, outs, oa0, oc0⟩ ++ []) (MdP.same X ⟨p, a, outs, oa0, oc0⟩ ⟨p1, a, outs, oa0, oc0⟩ _ rfl) (fun w hw => hw.drop.drop)
    · have h5 := of_decide_eq_true hq5.symm
      rw [if_pos ⟨rfl, h5⟩]
      repeat refine y_ ?_
      refine g_region ?_
      refine m_ ?_
      refine m_ ?_
      refine f_ (s_nilCheck rfl) ?_
      refine f_ z_1 ?_
      refine f_ z_1 ?_
      refine r_ (by first | exact s_load_blk rfl z_3 a19_0 | exact s_load1 rfl (fun w hw => peekB hw (by assumption) a19_0)) ?_
      refine gl_callp rfl (Contains_ct cl.1 p1.id ca cc (by omega)) (fun h hh ⟨bs, hb⟩ => Sat.rd (a := ca) hb z_3) rfl ?_; rw [hid, ← hq4]
      refine f_ (s_not rfl) ?_
      refine m_ ?_
      (first|refine u_ ?_|(refine v_ ?_; refine m_ ?_))
      (first|refine u_ ?_|(refine v_ ?_; refine m_ ?_))
      (first|refine u_ ?_|(refine v_ ?_; refine f_ (s_nilCheck rfl) ?_))
      (first|refine u_ ?_|(refine v_ ?_; refine f_ z_1 ?_))
      (first|refine u_ ?_|(refine v_ ?_; refine f_ z_1 ?_))
      (first|refine u_ ?_|(refine v_ ?_; refine r_ (by first | exact s_load_blk rfl z_3 a19_10 | exact s_load1 rfl (fun w hw => peekB hw (by assumption) a19_10)) ?_))
      (first|refine u_ ?_|(refine v_ ?_; refine f_ ((s_leq rfl rfl).eq (congrArg Value.bool hq5.symm)) ?_))
      refine f_ z_8 ?_
      refine gl_nil ?_
      repeat refine y_ ?_
      refine g_region ?_
      refine m_ ?_
      refine m_ ?_
      refine f_ (s_nilCheck rfl) ?_
      refine f_ z_1 ?_
      refine f_ z_1 ?_
      refine r_ (by first | exact s_load_blk rfl z_3 a19_1 | exact s_load1 rfl (fun w hw => peekB hw (by assumption) a19_1)) ?_
      refine gl_call [OwnA b (haveP p) c, OwnC ca cl.1 cc] rfl (follow_ct X ⟨p1, a, outs, oa0, oc0⟩ p1.term 0) (fun w hw => hw.perm (perm_up z_3 (perm_up z_3 (perm_up z_3 (perm_up z_3 (perm_up z_3 (perm_up z_3 (.refl _)))))))) (fun _ _ _ => trivial) rfl ?_; rintro v A ⟨rfl, d2, Z2, e2, o2, rfl, f2⟩
      refine gl_nil ?_
      repeat refine y_ ?_
      exact at_end0 rfl (mdH X d2 ++ Z2) ⟨rfl, d2, Z2, e2, o2, rfl, f2⟩ (fun w hw => Hp.left hw)
end Go.Proofs.YtodcghipfolejaaGreat.Rf
/- A mind's calls: peers, lead. -/
namespace Go.Proofs.YtodcghipfolejaaGreat.Rf
open Go Go.Sl
set_option linter.unusedVariables false
set_option linter.unusedSimpArgs false
-- ARR

def outK (p : RP) (k : Nat) : List Pr := (((confL p).take k).filter fun n => decide (n ≠ p.id)).map (peerOf p)
theorem outK_all (p : RP) : outK p (confL p).length = peersL p := by rw [outK, List.take_length]; rfl
theorem takeI {l : List Int} {k : Nat} (hk : k < l.length) : l.take (k + 1) = l.take k ++ [l.getD k 0] := by
  rw [List.take_succ_eq_append_getElem hk]; simp [hk]
theorem outK_succ {p : RP} {k : Nat} (hk : k < (confL p).length) : outK p (k + 1) = outK p k ++ (if (confL p).getD k 0 = p.id then [] else [peerOf p ((confL p).getD k 0)]) := by
  rw [outK, outK, takeI hk, List.filter_append, List.map_append]
  congr 1
  by_cases h : (confL p).getD k 0 = p.id
  · rw [if_pos h]; simp only [List.filter_cons, List.filter_nil]; rw [if_neg (by simp only [ne_eq, decide_not]; rw [decide_eq_true h]; decide)]; rfl
  · rw [if_neg h]; simp only [List.filter_cons, List.filter_nil]; rw [if_pos (by simpa using h)]; rfl
theorem outK_len (p : RP) (k : Nat) : (outK p k).length ≤ (confL p).length := by
  rw [outK, List.length_map]
  exact Nat.le_trans (List.length_filter_le _ _) (by rw [List.length_take]; omega)
def bstK (p : RP) (n : Int) (j : Nat) : Pr := (p.peers.take j).foldl (fun b q => if q.node = n then q else b) ⟨n, lastI p.g + 1, 0, 0⟩
theorem bstK_all (p : RP) (n : Int) : bstK p n p.peers.length = peerOf p n := by rw [bstK, List.take_length]; rfl
theorem bstK_succ {p : RP} {n : Int} {j : Nat} (hj : j < p.peers.length) : bstK p n (j + 1) = if (p.peers.getD j P0).node = n then p.peers.getD j P0 else bstK p n j := by
  rw [bstK, takeP hj, List.foldl_append]; rfl
theorem own_snocP {a : Option Addr} {l : List Pr} {q : Pr} {c n : Nat} (hn : n = l.length + 1) : As.own (.slice a n c) 100 4 (prV l ++ prC q) = OwnP a (l ++ [q]) c := by
  subst hn
  show _ = As.own (.slice a (l ++ [q]).length c) 100 4 (prV (l ++ [q]))
  rw [prV_append, List.length_append, List.length_singleton]; simp
theorem rdN_own {F : Snap} {w : World} {H H' : List As} {a : Option Addr} {l : List Int} {n c q i : Nat} {te : TypeId} (hw : Hp F w H) (u : Upd H (.own (.slice a n c) te 1 (intsV l)) [] H') (h : q = i) (hi : i < l.length) : PeekC (hp w) (addO a q) [.int .i64 (l.getD i 0)] := rdI_own hw u h hi
set_option maxRecDepth 8000 in
set_option maxHeartbeats 4000000 in
theorem peers_ct (X : Nat) (d : MD) (hf : PFit d.p) : Ct Tryz.prog 63 [Ptr X] (fun _ => True) (mdH X d) (MdP X d { d.p with peers := peersL d.p } [] (.tuple #[])) := by
  obtain ⟨p, a, outs, oa0, oc0⟩ := d
  simp only at hf
  have hpl := hf.peers
  have hcn : (confL p).length ≤ 1000000 := hf.cn (lastI p.g)
  have hla := hf.last
  refine ct_enter 56 Tryz.func63 rfl rfl rfl ?_
  intro F _
  refine g_ownN (a := a.la) z_3 (fun _ hcap _ => ?_)
  refine g_ownN (a := a.pa) z_3 (fun _ _ hpa => ?_)
  repeat refine y_ ?_
  refine g_region ?_
  refine f_ (s_assign rfl) ?_
  refine gl_nil ?_
  repeat refine y_ ?_
  refine g_region ?_
  refine m_ ?_
  refine f_ (s_nilCheck rfl) ?_
  refine f_ z_1 ?_
  refine r_ ((s_load_blkN rfl z_3 z_10).eq (v' := rsV p a) rfl) ?_
  refine gl_call _ rfl (Members_ct p a hf hcap) (fun w hw => hw) (fun h hh ⟨bs, hb⟩ => ⟨Sat.rd (a := a.ca) hb z_3, Sat.rd (a := a.la) hb z_3⟩) rfl ?_; rintro v A ⟨ca, cc, rfl, rfl⟩
  refine f_ (s_len_sl rfl) ?_
  refine m_ ?_
  refine gl_nil ?_
  repeat refine y_ ?_
  obtain ⟨cl, hcl⟩ : ∃ l, l = confL p := ⟨_, rfl⟩
  rw [← hcl] at hcn
  rw [← hcl]
  refine g_own_nil 100 4 ?_
  refine g_ownN (a := ca) z_3 (fun _ _ hca => ?_)
  refine g_loop (ι := Nat × Option Addr × Nat) (fun i => i.1 ≤ cl.length) (fun i => [(0, Ptr X), (2, .slice i.2.1 (outK p i.1).length i.2.2), (12, .slice ca cl.length cc), (13, .int .i64 (cl.length : Nat)), (14, .int .i64 (i.1 : Nat))]) (fun i => OwnP i.2.1 (outK p i.1) i.2.2 :: OwnC ca cl cc :: mdH X ⟨p, a, outs, oa0, oc0⟩) (fun i => cl.length - i.1) (0, none, 0) (Nat.zero_le _) ?_ ?_ ?_
  · (repeat (first | exact Sub.nil _ | refine Sub.cons rfl ?_))
  · intro w hw; exact hw
  rintro ⟨k, b, c⟩ hk
  simp only at hk
  have hol := outK_len p k
  rw [← hcl] at hol
  have hol2 : (outK p ((k, b, c) : Nat × Option Addr × Nat).1).length ≤ cl.length := hol
  repeat refine y_ ?_
  refine g_region ?_
  refine f_ (s_lss rfl rfl) ?_
  refine gl_nil ?_
  repeat refine y_ ?_
  refine g_cond rfl (fun h => ?_) (fun h => ?_)
  rotate_left
  · have hkl : k = cl.length := by simp at h; omega
    subst hkl
    have e : outK p cl.length = peersL p := by rw [hcl, outK_all]
    simp only [e]
    repeat refine y_ ?_
    refine g_region ?_
    refine m_ ?_
    refine m_ ?_
    refine f_ (s_nilCheck rfl) ?_
    refine f_ z_1 ?_
    refine f_ z_1 ?_
    (first | refine gl_store_blkC (pre := [_, _, _, _, _, _, _, _, _, _, _, _, _, _]) (post := [_, _, _, _]) rfl rfl z_6 z_10 z_10 z_10 ?_ | refine gl_store_blk rfl rfl z_6 z_10 z_2 z_10 ?_)
    refine gl_nil ?_
    repeat refine y_ ?_
    exact at_end0 rfl _ (MdP.same X ⟨p, a, outs, oa0, oc0⟩ ⟨{ p with peers := peersL p }, { a with pa := b, pc := c }, outs, oa0, oc0⟩ _ rfl) (fun w hw => by rw [List.append_nil]; exact Hp.left (R := [OwnC ca cl cc, OwnP a.pa p.peers a.pc]) (hw.perm (perm_up z_3 (perm_up z_3 (perm_up z_3 (perm_up z_3 (perm_up z_3 (perm_up z_3 (.refl _)))))))))
  have hkl : k < cl.length := by simp at h; omega
  have hkk : ((k, b, c) : Nat × Option Addr × Nat).1 < cl.length := hkl
  have hsome : ∃ ad, ca = some ad := hca (by omega)
  have hsu := outK_succ (p := p) (k := k) (by rw [← hcl]; exact hkl)
  rw [← hcl] at hsu
  obtain ⟨n, hne⟩ : ∃ n, n = cl.getD k 0 := ⟨_, rfl⟩
  rw [← hne] at hsu
  obtain ⟨q, hq⟩ : ∃ q, q = decide (n = p.id) := ⟨_, rfl⟩
  repeat refine y_ ?_
  refine g_region ?_
  refine f_ (s_indexAddr rfl (by assumption) rfl (by omega)) ?_
  refine r_ (s_load1 (v := .int .i64 n) rfl (fun w hw => by rw [hne]; exact rdN_own (a := ca) hw z_3 (i := k) (by simp only; omega) hkl)) ?_
  refine f_ (s_assign rfl) ?_
  refine gl_nil ?_
  repeat refine y_ ?_
  refine g_region ?_
  refine m_ ?_
  refine m_ ?_
  refine f_ (s_nilCheck rfl) ?_
  refine f_ z_1 ?_
  refine f_ z_1 ?_
  refine r_ (by first | exact s_load_blk rfl z_3 a19_0 | exact s_load1 rfl (fun w hw => peekB hw (by assumption) a19_0)) ?_
  refine f_ ((s_eql rfl rfl).eq (congrArg Value.bool hq.symm)) ?_
  refine gl_nil ?_
  repeat refine y_ ?_
  cases q
  rotate_left
  · rw [if_pos (of_decide_eq_true hq.symm), List.append_nil] at hsu
    repeat refine y_ ?_
    refine g_region ?_
    refine f_ (s_add_i64 rfl rfl (by omega)) ?_
    refine m_ ?_
    refine gl_nil ?_
    repeat refine y_ ?_
    refine at_next (k + 1, b, c) (by simp only; omega) (by simp only; omega) ?_ ?_
    · simp only [hsu]; (repeat (first | exact Sub.nil _ | refine Sub.cons rfl ?_))
    · intro w hw; simp only [hsu]; exact hw
  rw [if_neg (of_decide_eq_false hq.symm)] at hsu
  repeat refine y_ ?_
  refine g_region ?_
  refine m_ ?_
  refine m_ ?_
  refine gl_callp rfl (rend_ct X ⟨p, a, outs, oa0, oc0⟩ hf hcap) (fun h hh ⟨bs, hb⟩ => ⟨Sat.blk hb z_3, Sat.rd (a := a.la) hb z_3⟩) rfl ?_; rw [show lastI (⟨p, a, outs, oa0, oc0⟩ : MD).p.g = lastI p.g from rfl]
  refine f_ (s_add_u64 rfl rfl (by omega)) ?_
  refine f_ (s_build rfl (run_build_struct (places := [(0, 1), (1, 1), (2, 1), (3, 1)]) rfl (by intro f hf; simp at hf; rcases hf with rfl | rfl | rfl | rfl <;> rfl) rfl)) ?_
  refine gl_allocA rfl ?_; intro g5
  (first | refine gl_store_blkW rfl rfl z_6 z_10 z_10 z_2 ?_ | refine gl_store_blk rfl rfl z_6 z_10 z_2 z_10 ?_)
  refine gl_nil ?_
  repeat refine y_ ?_
  refine g_region ?_
  refine m_ ?_
  refine f_ (s_nilCheck rfl) ?_
  refine f_ z_1 ?_
  refine f_ z_1 ?_
  refine r_ (by first | exact s_load_blk rfl z_3 a19_14 | exact s_load1 rfl (fun w hw => peekB hw (by assumption) a19_14)) ?_
  refine f_ (s_len_sl rfl) ?_
  refine m_ ?_
  refine gl_nil ?_
  repeat refine y_ ?_
  refine g_loop (ι := Nat) (fun j => j ≤ p.peers.length) (fun j => [(0, Ptr X), (2, .slice b (outK p k).length c), (4, .int .i64 n), (5, Ptr g5), (12, .slice ca cl.length cc), (13, .int .i64 (cl.length : Nat)), (14, .int .i64 (k : Nat)), (34, .slice a.pa p.peers.length a.pc), (35, .int .i64 (p.peers.length : Nat)), (36, .int .i64 (j : Nat))]) (fun j => .blk g5 (.cells #[.int .i64 (bstK p n j).node, .int .u64 (bstK p n j).next, .int .u64 (bstK p n j).mtc, .int .i64 (bstK p n j).off] 100) :: OwnP b (outK p k) c :: OwnC ca cl cc :: mdH X ⟨p, a, outs, oa0, oc0⟩) (fun j => p.peers.length - j) 0 (Nat.zero_le _) ?_ ?_ ?_
  · (repeat (first | exact Sub.nil _ | refine Sub.cons rfl ?_))
  · intro w hw; exact hw
  rintro j hj
  repeat refine y_ ?_
  refine g_region ?_
  refine f_ (s_lss rfl rfl) ?_
  refine gl_nil ?_
  repeat refine y_ ?_
  refine g_cond rfl (fun h => ?_) (fun h => ?_)
  · have hjl : j < p.peers.length := by simp at h; omega
    have hsomep : ∃ ad, a.pa = some ad := hpa (by show 0 < p.peers.length; omega)
    have hbs := bstK_succ (p := p) (n := n) hjl
    obtain ⟨u, hue⟩ : ∃ u, u = p.peers.getD j P0 := ⟨_, rfl⟩
    rw [← hue] at hbs
    obtain ⟨q2, hq2⟩ : ∃ q, q = decide (u.node = n) := ⟨_, rfl⟩
    repeat refine y_ ?_
    refine g_region ?_
    refine f_ (s_indexAddr rfl (by assumption) rfl (by omega)) ?_
    refine r_ (s_loadN (cs := prC u) rfl (fun w hw => by rw [hue]; exact rdQ_own (a := a.pa) hw z_3 (i := j) (by omega) hjl) rfl) ?_
    refine gl_allocA rfl ?_; intro g7
    (first | refine gl_store_blkW rfl rfl z_6 z_10 z_10 z_2 ?_ | refine gl_store_blk rfl rfl z_6 z_10 z_2 z_10 ?_)
    refine gl_nil ?_
    repeat refine y_ ?_
    refine g_region ?_
    refine f_ z_1 ?_
    refine r_ (by first | exact s_load_blk rfl z_3 a4_0 | exact s_load1 rfl (fun w hw => peekB hw (by assumption) a4_0)) ?_
    refine m_ ?_
    refine f_ ((s_eql rfl rfl).eq (congrArg Value.bool hq2.symm)) ?_
    refine gl_nil ?_
    repeat refine y_ ?_
    cases q2
    · rw [if_neg (of_decide_eq_false hq2.symm)] at hbs
      repeat refine y_ ?_
      refine g_region ?_
      refine f_ (s_add_i64 rfl rfl (by omega)) ?_
      refine m_ ?_
      refine gl_nil ?_
      repeat refine y_ ?_
      refine at_next (j + 1) (by omega) (by omega) ?_ ?_
      · (repeat (first | exact Sub.nil _ | refine Sub.cons rfl ?_))
      · intro w hw; rw [hbs]; exact hw.drop
    · rw [if_pos (of_decide_eq_true hq2.symm)] at hbs
      repeat refine y_ ?_
      refine g_region ?_
      refine r_ z_11 ?_
      (first | refine gl_store_blkW rfl rfl z_6 z_10 z_10 z_2 ?_ | refine gl_store_blk rfl rfl z_6 z_10 z_2 z_10 ?_)
      refine gl_nil ?_
      repeat refine y_ ?_
      refine g_region ?_
      refine f_ (s_add_i64 rfl rfl (by omega)) ?_
      refine m_ ?_
      refine gl_nil ?_
      repeat refine y_ ?_
      refine at_next (j + 1) (by omega) (by omega) ?_ ?_
      · (repeat (first | exact Sub.nil _ | refine Sub.cons rfl ?_))
      · intro w hw; rw [hbs]; exact hw.drop
  have hjl : j = p.peers.length := by simp at h; omega
  subst hjl
  rw [bstK_all]
  obtain ⟨r, hr⟩ : ∃ r, r = peerOf p n := ⟨_, rfl⟩
  rw [← hr] at hsu
  rw [← hr]
  repeat refine y_ ?_
  refine g_region ?_
  refine m_ ?_
  refine r_ z_11 ?_
  refine gl_buildSliceU rfl rfl rfl rfl rfl rfl (xs := prC r) rfl rfl ?_; intro a48 ha48
  refine gl_append (sz := 4) rfl rfl (fun a' c' => z_6) (fun w hw => (hw.ownN z_3).2.2.1) rfl rfl rfl (prC_one r) (by show (_ + 1) * 32 ≤ _; omega) (by omega) rfl ?_; intro a49 c49 hc49
  refine f_ (s_assign rfl) ?_
  refine gl_nil ?_
  repeat refine y_ ?_
  refine g_region ?_
  refine f_ (s_add_i64 rfl rfl (by omega)) ?_
  refine m_ ?_
  refine gl_nil ?_
  repeat refine y_ ?_
  refine at_next (k + 1, a49, c49) (by simp only; omega) (by simp only; omega) ?_ ?_
  · simp only [hsu, List.length_append, List.length_singleton]; (repeat (first | exact Sub.nil _ | refine Sub.cons rfl ?_))
  · intro w hw
    simp only [hsu]
    rw [← own_snocP rfl]
    exact hw.drop.drop
end Go.Proofs.YtodcghipfolejaaGreat.Rf
/- A mind's calls: lead. -/
namespace Go.Proofs.YtodcghipfolejaaGreat.Rf
open Go Go.Sl
set_option linter.unusedVariables false
set_option linter.unusedSimpArgs false
-- ARR

theorem pf_follow {p : RP} (h : PFit p) (t n : Int) (ht : 0 ≤ t ∧ t ≤ 4611686018427387904) : PFit (followP p t n) :=
  ⟨h.base, h.len, h.cl, h.dat, h.img, Nat.zero_le _, Nat.zero_le _, fun q hq => (by cases hq), h.ticks, by
    have := h.term
    show 0 ≤ (if p.term < t then t else p.term) ∧ (if p.term < t then t else p.term) ≤ _
    split <;> omega, h.commit⟩
theorem pf_commit1 {p : RP} (h : PFit p) : PFit (commit1 p) := by
  unfold commit1
  split
  · exact ⟨h.base, h.len, h.cl, h.dat, h.img, h.votes, h.peers, h.prs, h.ticks, h.term, h.com⟩
  · exact h
theorem pf_commit {p : RP} (h : PFit p) : PFit (commitP p) := by
  unfold commitP
  split
  · exact pf_follow (pf_commit1 h) _ _ (pf_commit1 h).term
  · exact pf_commit1 h
theorem pf_lead1 {p : RP} (h : PFit p) : PFit (lead1 p) := ⟨h.base, h.len, h.cl, h.dat, h.img, Nat.zero_le _, Nat.zero_le _, fun q hq => (by cases hq), h.ticks, h.term, h.commit⟩
theorem peers_none {p : RP} (hp : p.peers = []) (h : PFit p) : ∀ q ∈ peersL p, 1 ≤ q.next ∧ q.next ≤ 4611686018427387904 ∧ 0 ≤ q.mtc ∧ q.mtc ≤ 4611686018427387904 ∧ 0 ≤ q.off ∧ q.off ≤ p.img.length := fun q hq => by
  obtain ⟨n, _, rfl⟩ := List.mem_map.1 hq
  have := h.last
  have e : peerOf p n = ⟨n, lastI p.g + 1, 0, 0⟩ := by rw [peerOf, hp]; rfl
  rw [e]
  simp only
  omega
theorem peersL_len (p : RP) (h : PFit p) : (peersL p).length ≤ 1000000 := by
  have := h.cn (lastI p.g)
  rw [peersL, List.length_map]
  exact Nat.le_trans (List.length_filter_le _ _) this
theorem pf_lead2 {p : RP} (h : PFit p) (hl : p.l.length ≤ 99999) : PFit (lead2 p) := by
  have h1 := pf_lead1 h
  refine ⟨h.base, ?_, h.cl, fun i hi => ?_, h.img, Nat.zero_le _, peersL_len (lead1 p) h1, peers_none rfl h1, h.ticks, h.term, h.commit⟩
  · show (p.l ++ [(p.term, 1, [])]).length ≤ _
    simp; omega
  · show ((p.l ++ [((p.term, 1, []) : Ent)]).getD i E0).2.2.length ≤ _
    replace hi : i < (p.l ++ [((p.term, 1, []) : Ent)]).length := hi
    rw [List.length_append, List.length_singleton] at hi
    by_cases e : i < p.l.length
    · rw [List.getD_eq_getElem?_getD, List.getElem?_append_left e, ← List.getD_eq_getElem?_getD]
      exact h.dat i e
    · have : i = p.l.length := by omega
      subst this
      simp
theorem pf_lead {p : RP} (h : PFit p) (hl : p.l.length ≤ 99999) : PFit (leadP p) := pf_commit (pf_lead2 h hl)
abbrev mdHL (X : Nat) (p : RP) (a : RA) (n : Nat) (xs : List Value) (outs : List MM) (oa : Option Addr) (oc : Nat) : List As := [.blk X (.cells #[.int .i64 p.id, .int .u64 p.term, .int .i64 p.vote, .int .i64 p.role, .int .i64 p.leader, .int .u64 p.base, .int .u64 p.bt, .slice a.ca p.conf.length a.cc, .slice a.la n a.lc, B p.img, .int .u64 p.commit, .int .i64 p.ticks, .int .i64 p.tout, .slice a.va p.votes.length a.vc, .slice a.pa p.peers.length a.pc, B p.piece, .int .u64 p.pix, .int .u64 p.pt, .slice oa outs.length oc] 91), .own (.slice a.la n a.lc) 51 3 xs, OwnC a.ca p.conf a.cc, OwnC a.va p.votes a.vc, OwnP a.pa p.peers a.pc, OwnM oa outs oc]
theorem mdH_ent (X : Nat) (p : RP) (a : RA) (e : Ent) (outs : List MM) (oa : Option Addr) (oc : Nat) : mdH X ⟨{ p with l := p.l ++ [e] }, a, outs, oa, oc⟩ = mdHL X p a (p.l.length + 1) (enV p.l ++ entC e) outs oa oc := by
  have e1 : (p.l ++ [e]).length = p.l.length + 1 := by simp
  have e2 : enV (p.l ++ [e]) = enV p.l ++ entC e := by rw [enV_append]; simp [enV]
  show mdHL X p a (p.l ++ [e]).length (enV (p.l ++ [e])) outs oa oc = _
  rw [e1, e2]
theorem entC_one (e : Ent) : ∀ q ∈ entC e, q.oneCell' = true := fun q hq => by simp at hq; rcases hq with rfl | rfl | rfl <;> rfl
theorem outs_len {d d' : MD} {new : List MP} (h : d'.outs.map MM.p = d.outs.map MM.p ++ new) : d'.outs.length = d.outs.length + new.length := by
  have := congrArg List.length h
  simpa using this
set_option maxRecDepth 8000 in
set_option maxHeartbeats 4000000 in
theorem lead_ct (X : Nat) (d : MD) (hf : PFit d.p) (hl : d.p.l.length ≤ 99999) (ho : d.outs.length ≤ 1000000) : Ct Tryz.prog 92 [Ptr X] (fun _ => True) (mdH X d) (MdP X d (leadP d.p) (leadM d.p) (.tuple #[])) := by
  obtain ⟨p, a, outs, oa0, oc0⟩ := d
  simp only at hf hl ho
  have hf1 := pf_lead1 hf
  have hf2 := pf_lead2 hf hl
  have hf3 := pf_lead hf hl
  refine ct_enter 48 Tryz.func92 rfl rfl rfl ?_
  intro F _
  repeat refine y_ ?_
  refine g_region ?_
  refine m_ ?_
  refine m_ ?_
  refine m_ ?_
  refine m_ ?_
  refine m_ ?_
  refine f_ (s_nilCheck rfl) ?_
  refine f_ z_1 ?_
  refine f_ z_1 ?_
  refine r_ (by first | exact s_load_blk rfl z_3 a19_0 | exact s_load1 rfl (fun w hw => peekB hw (by assumption) a19_0)) ?_
  refine f_ (s_nilCheck rfl) ?_
  refine f_ z_1 ?_
  refine f_ z_1 ?_
  (first | refine gl_store_blkC (pre := [_, _, _]) (post := [_, _, _, _, _, _, _, _, _, _, _, _, _, _, _]) rfl rfl z_6 z_10 z_10 z_10 ?_ | refine gl_store_blk rfl rfl z_6 z_10 z_2 z_10 ?_)
  refine f_ (s_nilCheck rfl) ?_
  refine f_ z_1 ?_
  refine f_ z_1 ?_
  (first | refine gl_store_blkC (pre := [_, _, _, _]) (post := [_, _, _, _, _, _, _, _, _, _, _, _, _, _]) rfl rfl z_6 z_10 z_10 z_10 ?_ | refine gl_store_blk rfl rfl z_6 z_10 z_2 z_10 ?_)
  refine f_ (s_nilCheck rfl) ?_
  refine f_ z_1 ?_
  refine f_ z_1 ?_
  (first | refine gl_store_blkC (pre := [_, _, _, _, _, _, _, _, _, _, _, _, _]) (post := [_, _, _, _, _]) rfl rfl z_6 z_10 z_10 z_10 ?_ | refine gl_store_blk rfl rfl z_6 z_10 z_2 z_10 ?_)
  refine f_ (s_nilCheck rfl) ?_
  refine f_ z_1 ?_
  refine f_ z_1 ?_
  (first | refine gl_store_blkC (pre := [_, _, _, _, _, _, _, _, _, _, _, _, _, _]) (post := [_, _, _, _]) rfl rfl z_6 z_10 z_10 z_10 ?_ | refine gl_store_blk rfl rfl z_6 z_10 z_2 z_10 ?_)
  refine gl_nil ?_
  repeat refine y_ ?_
  refine g_own_nil 3 1 ?_
  refine g_own_nil 100 4 ?_
  refine g_pull (H' := mdH X ⟨lead1 p, { a with va := none, vc := 0, pa := none, pc := 0 }, outs, oa0, oc0⟩) (fun w hw => Hp.left (R := [OwnC a.va p.votes a.vc, OwnP a.pa p.peers a.pc]) (hw.perm (perm_up z_3 (perm_up z_3 (perm_up z_3 (perm_up z_3 (perm_up z_3 (perm_up z_3 (.refl _))))))))) ?_
  repeat refine y_ ?_
  refine g_region ?_
  refine m_ ?_
  refine gl_call [] rfl (peers_ct X ⟨lead1 p, { a with va := none, vc := 0, pa := none, pc := 0 }, outs, oa0, oc0⟩ hf1) (fun w hw => hw) (fun _ _ _ => trivial) rfl ?_; rintro v A ⟨rfl, d2, Z2, e2, o2, rfl, f2⟩; rw [List.append_nil]
  refine gl_nil ?_
  repeat refine y_ ?_
  obtain ⟨p2, a2, outs2, oa2, oc2⟩ := d2
  simp only at e2
  subst e2
  repeat refine y_ ?_
  refine g_draw ([6, 11], [0, 0, 2, 6, 14, 30, 62, 0, 128, 384, 896, 1920, 3968, 8064, 16382, 32767, 65535, 131071, 262143, 524287], [13, 14, 19]) [.blk X (mdO ⟨{ lead1 p with peers := peersL (lead1 p) }, a2, outs2, oa2, oc2⟩)] 20 rfl ?_
  refine w_ 0 rfl (s_move rfl) ?_
  refine w_ 1 rfl (s_move rfl) ?_
  refine w_ 2 rfl (s_nilCheck rfl) ?_
  refine w_ 3 rfl z_1 ?_
  refine w_ 4 rfl z_1 ?_
  refine w_ 5 rfl z_1 ?_
  (first | refine ga_read_k 6 rfl z_5 (s_load_blk rfl .del a19_8) (by (first | exact fun _ h => h | (repeat first | exact sub_nil | refine sub_cons z_4 ?_))) rfl rfl rfl z_7 ?_ | refine ga_readF 6 rfl (s_load1 rfl (fun w hw => peekB hw (by assumption) a19_8)) (by (first | exact fun _ h => h | (repeat first | exact sub_nil | refine sub_cons z_4 ?_))) rfl rfl rfl z_7 ?_)
  refine w_ 7 rfl (s_move rfl) ?_
  refine w_ 8 rfl (s_nilCheck rfl) ?_
  refine w_ 9 rfl z_1 ?_
  refine w_ 10 rfl z_1 ?_
  (first | refine ga_read_k 11 rfl z_5 (s_load_blk rfl .del a19_1) (by (first | exact fun _ h => h | (repeat first | exact sub_nil | refine sub_cons z_4 ?_))) rfl rfl rfl z_7 ?_ | refine ga_readF 11 rfl (s_load1 rfl (fun w hw => peekB hw (by assumption) a19_1)) (by (first | exact fun _ h => h | (repeat first | exact sub_nil | refine sub_cons z_4 ?_))) rfl rfl rfl z_7 ?_)
  refine w_ 12 rfl (s_build rfl (run_build_struct (places := [(0, 1), (1, 1), (2, 1)]) rfl (by intro f hf; simp at hf; rcases hf with rfl | rfl | rfl <;> rfl) rfl)) ?_
  refine ga_one 13 rfl z_7 ?_
  refine gl_buildSliceU rfl rfl rfl rfl rfl rfl (xs := entC (p.term, 1, [])) rfl rfl ?_; intro a38 ha38
  refine gl_nil ?_
  refine at_ga (.inr (by exact keeps_of (by (first | exact fun _ h => h | (repeat first | exact sub_nil | refine sub_cons z_4 ?_))))) ?_
  refine ga_one 14 rfl z_7 ?_
  refine gl_append (sz := 3) rfl rfl (fun a' c' => z_6) (fun w hw => (hw.ownN z_3).2.2.1) rfl rfl rfl (entC_one _) (by show (p.l.length + 1) * 32 ≤ 140737488355328; omega) (by show p.l.length + 1 ≤ 9223372036854775807; omega) rfl ?_; intro a39 c39 hc39
  refine gl_nil ?_
  refine at_ga (.inl z_7) ?_
  refine w_ 15 rfl (s_nilCheck rfl) ?_
  refine w_ 16 rfl z_1 ?_
  refine w_ 17 rfl z_1 ?_
  refine w_ 18 rfl z_1 ?_
  refine ga_one 19 rfl z_7 ?_
  (first | refine gl_store_blkC (pre := [_, _, _, _, _, _, _, _]) (post := [_, _, _, _, _, _, _, _, _, _]) rfl rfl z_6 z_10 z_10 z_10 ?_ | refine gl_store_blk rfl rfl z_6 z_10 z_2 z_10 ?_)
  refine gl_nil ?_
  refine at_ga (.inl z_7) ?_
  refine ga_done z_7 ?_
  repeat refine y_ ?_
  refine g_pull (H' := mdH X ⟨lead2 p, { a2 with la := a39, lc := c39 }, outs2, oa2, oc2⟩ ++ Z2) (fun w hw => by rw [show lead2 p = { ({ lead1 p with peers := peersL (lead1 p) } : RP) with l := (lead1 p).l ++ [((p.term, 1, []) : Ent)] } from rfl, mdH_ent]; exact hw.drop) ?_
  repeat refine y_ ?_
  refine g_region ?_
  refine m_ ?_
  refine gl_call Z2 rfl (commit_ct X ⟨lead2 p, { a2 with la := a39, lc := c39 }, outs2, oa2, oc2⟩ hf2) (fun w hw => hw) (fun _ _ _ => trivial) rfl ?_; rintro v A ⟨rfl, d3, Z3, e3, o3, rfl, f3⟩
  refine gl_nil ?_
  repeat refine y_ ?_
  have l2 := outs_len o2
  have l3 := outs_len o3
  simp only [List.length_nil] at l2 l3
  obtain ⟨p3, a3, outs3, oa3, oc3⟩ := d3
  simp only at e3 l3
  subst e3
  repeat refine y_ ?_
  refine g_region ?_
  refine m_ ?_
  refine gl_call (Z3 ++ Z2) rfl (all_ct X ⟨commitP (lead2 p), a3, outs3, oa3, oc3⟩ hf3 (by simp only; omega)) (fun w hw => by rwa [List.append_assoc] at hw) (fun _ _ _ => trivial) rfl ?_; rintro v A ⟨rfl, ms, oa4, oc4, Z4, e4, rfl, f4⟩
  refine gl_nil ?_
  repeat refine y_ ?_
  simp only [List.append_nil] at o2 o3
  exact at_end0 rfl (mdH X ⟨leadP p, a3, outs3 ++ ms, oa4, oc4⟩ ++ (Z4 ++ (Z3 ++ Z2))) ⟨rfl, ⟨leadP p, a3, outs3 ++ ms, oa4, oc4⟩, Z4 ++ (Z3 ++ Z2), rfl, by rw [List.map_append, e4, o3, o2]; rfl, rfl, fun h f hs m hm => by
    obtain ⟨s4, s32⟩ := Sat.two2 hs
    obtain ⟨s3, s2⟩ := Sat.two2 s32
    rcases List.mem_append.1 hm with hm | hm
    · exact f3 h (f2 h f s2) s3 m hm
    · exact f4 h s4 m hm⟩ (fun w hw => by rwa [List.append_assoc] at hw)
end Go.Proofs.YtodcghipfolejaaGreat.Rf
