import Derived.Test.YtodcghipfolejaaGreatJx13
set_option linter.unusedVariables false
set_option linter.unusedSimpArgs false
namespace Go.Proofs.YtodcghipfolejaaGreat.Rf
open Go Go.Sl
abbrev sdO (X : Nat) (s : SD) : As := .blk X (.cells (sdC s).toArray 60)
abbrev sdZ (X : Nat) : As := .blk X (.cells #[.int .i64 0, .int .u64 0, .int .i64 0, .int .i64 0, .int .i64 0, .int .u64 0, .int .u64 0, .slice none 0 0, .slice none 0 0, B [], .int .u64 0, .int .i64 0, .int .i64 0, .slice none 0 0, .slice none 0 0, B [], .int .u64 0, .int .u64 0, .slice none 0 0, .int .i64 0] 60)
abbrev prO (X : Nat) (q : Pr) : As := .blk X (.cells #[.int .i64 q.node, .int .u64 q.next, .int .u64 q.mtc, .int .i64 q.off] 100)
theorem SdP.mono {Pre Pre' : Heap → Prop} {p : RP} {ms : List MP} {er : Int} {v : Value} {A A' : List As} (h : SdP Pre p ms er v A) (k : ∀ h, Pre' h → (∃ bs, Sat h A' bs) → Pre h ∧ ∃ bs, Sat h A bs) : SdP Pre' p ms er v A' := by
 obtain ⟨s', h1, h2, h3, h4, h5, h6⟩ := h
 exact ⟨s', h1, h2, h3, h4, h5, fun h hp hs => h6 h (k h hp hs).1 (k h hp hs).2⟩
set_option maxRecDepth 16000 in
set_option maxHeartbeats 8000000 in
theorem rUpdate_ct (s : SD) (q : Pr) (hf : PFit s.p) (hq : QFit s.p q) (hc : s.p.l.length ≤ s.a.lc) (ho : s.outs.length ≤ 10000000) : Ct Tryz.prog 105 [sdV s, prA q] (fun h => SdOk h s) [] (SdP (fun h => SdOk h s) s.p (s.outs.map MM.p ++ [updateP s.p q]) s.er) := by
 have hi := hf.img
 have hb := hf.base
 have hcl := hf.cl
 obtain ⟨n1, n2⟩ := hq.next
 obtain ⟨o1, o2⟩ := hq.off
 have hfit := hf.fit s.a hc
 refine ct_enter 75 Tryz.func105 rfl rfl rfl ?_
 intro F hs
 obtain ⟨b, hbq⟩ : ∃ b, b = decide (q.next ≤ s.p.base) := ⟨_, rfl⟩
 repeat refine x_ ?_
 refine gl_boxA rfl rfl ?_; intro g2
 refine gl_boxA rfl rfl ?_; intro g3
 refine gl_allocA rfl ?_; intro g4
 repeat refine x_ ?_
 refine f_ z_1 ?_
 refine f_ z_1 ?_
 refine r_ ((s_load_blkN rfl z_2 z_7).eq (v' := (s.p.lm s.a).v) rfl) ?_
 refine gl_allocA rfl ?_; intro g5
 (refine gl_store_blkW rfl rfl z_5 z_7 z_7 z_3 ?_)
 repeat refine x_ ?_
 refine f_ z_1 ?_
 refine r_ (by exact s_load_blk rfl z_2 a4_1) ?_
 refine f_ z_1 ?_
 refine r_ (by exact s_load_blk rfl z_2 a4_0) ?_
 refine f_ ((s_leq rfl rfl).eb hbq) ?_
 repeat refine n_ ?_
 cases b
 rotate_left
 ·have h1 : q.next ≤ s.p.base := of_decide_eq_true hbq.symm
  have e : updateP s.p q = pieceP s.p q := if_pos h1
  rw [e]
  obtain ⟨k, hk⟩ : ∃ k : Int, k = min ((s.p.img.length : Int) - q.off) 4096 := ⟨_, rfl⟩
  obtain ⟨q2, hq2⟩ : ∃ q', q' = decide ((4096 : Int) < (s.p.img.length : Int) - q.off) := ⟨_, rfl⟩
  repeat refine x_ ?_
  refine f_ z_1 ?_
  refine f_ z_1 ?_
  refine r_ (by exact s_load_blk rfl z_2 a20_9) ?_
  refine a_ ?_
  repeat refine x_ ?_
  refine m_ ?_
  refine f_ (s_len_str rfl) ?_
  refine f_ z_1 ?_
  refine r_ (by exact s_load_blk rfl z_2 a4_3) ?_
  refine f_ (s_sub_i64 rfl rfl (by omega)) ?_
  refine a_ ?_
  repeat refine x_ ?_
  refine m_ ?_
  refine f_ ((s_gtr rfl rfl).eb hq2) ?_
  repeat refine n_ ?_
  refine g_cutK [(2, Ptr g2), (3, Ptr g3), (4, Ptr g4), (5, Ptr g5), (6, B s.p.img), (7, .int .i64 k)] [lgO g5 (s.p.lm s.a), sdZ g4, prO g3 q, sdO g2 s] ?_ ?_
  ·cases q2
   ·have ek : k = (s.p.img.length : Int) - q.off := by have := of_decide_eq_false hq2.symm; omega
    rw [ek]
    repeat refine y_ ?_
    exact at_cut j_ i_
   ·have ek : k = 4096 := by have := of_decide_eq_true hq2.symm; omega
    rw [ek]
    repeat refine x_ ?_
    refine a_ ?_
    repeat refine n_ ?_
    exact at_cut j_ i_
  repeat refine y_ ?_
  refine g_draw ([0, 2, 4, 6, 8, 10, 15, 17], [0, 0, 2, 0, 8, 0, 32, 0, 128, 0, 512, 0, 2048, 0, 0, 16384, 0, 65536, 0, 458752, 1040384, 2097144, 4194303, 8388607], [22, 23]) [sdO g2 s, lgO g5 (s.p.lm s.a), prO g3 q] 24 rfl ?_
  refine ga_read_k 0 rfl z_11 ((s_load_blkW rfl .del z_7).eq (v' := sdV s) rfl) k_ rfl rfl rfl z_4 ?_
  refine w_ 1 rfl z_1 ?_
  (refine ga_read_k 2 rfl z_17 (s_load_blk rfl .del a4_0) k_ rfl rfl rfl z_4 ?_)
  refine w_ 3 rfl z_1 ?_
  (refine ga_read_k 4 rfl z_9 (s_load_blk rfl .del a4_0) k_ rfl rfl rfl z_4 ?_)
  refine w_ 5 rfl z_1 ?_
  (refine ga_read_k 6 rfl z_9 (s_load_blk rfl .del a4_1) k_ rfl rfl rfl z_4 ?_)
  refine w_ 7 rfl z_1 ?_
  (refine ga_read_k 8 rfl z_9 (s_load_blk rfl .del a4_2) k_ rfl rfl rfl z_4 ?_)
  refine w_ 9 rfl z_1 ?_
  (refine ga_read_k 10 rfl z_17 (s_load_blk rfl .del a4_3) k_ rfl rfl rfl z_4 ?_)
  refine w_ 11 rfl (s_move rfl) ?_
  refine w_ 12 rfl (s_len_str rfl) ?_
  refine w_ 13 rfl (s_move rfl) ?_
  refine w_ 14 rfl z_1 ?_
  (refine ga_read_k 15 rfl z_17 (s_load_blk rfl .del a4_3) k_ rfl rfl rfl z_4 ?_)
  refine w_ 16 rfl z_1 ?_
  (refine ga_read_k 17 rfl z_17 (s_load_blk rfl .del a4_3) k_ rfl rfl rfl z_4 ?_)
  refine w_ 18 rfl (s_move rfl) ?_
  refine w_ 19 rfl (s_add_i64 rfl rfl (by omega)) ?_
  refine w_ 20 rfl ((s_slice_str rfl rfl rfl ⟨by omega, by omega, by omega⟩).eq (v' := B (pieceP s.p q).data) (congrArg B (List.take_eq_take_iff.2 (by rw [List.length_drop, hk]; omega)))) ?_
  refine w_ 21 rfl ((s_bld (cells := (mmC ⟨{ pieceP s.p q with frm := 0, to := 0, term := 0 }, none, 0, s.a.ca, s.a.cc⟩).toArray) rfl z_4).eq (v' := mmA ⟨{ pieceP s.p q with frm := 0, to := 0, term := 0 }, none, 0, s.a.ca, s.a.cc⟩) rfl) ?_
  refine ga_one 22 rfl z_4 ?_
  refine gl_call [sdZ g4, lgO g5 (s.p.lm s.a), prO g3 q, sdO g2 s] rfl (rTell_ct s q.node ⟨{ pieceP s.p q with frm := 0, to := 0, term := 0 }, none, 0, s.a.ca, s.a.cc⟩ hc (by omega)) (fun w hw => hw.perm (perm_up z_2 (.refl _))) (fun h hh _ => ⟨hs.le hh, RdS.nil _ _, hs.r.rc.le hh, Nat.le_refl _⟩) rfl ?_; rintro v A hA; obtain ⟨s', rfl, hA2⟩ := hA; refine gl_rot ?_
  refine gl_nil ?_
  refine at_ga (.inl z_4) ?_
  refine ga_one 23 rfl z_4 ?_
  (refine gl_store_blkW rfl rfl z_5 z_7 z_7 z_3 ?_)
  refine gl_nil ?_
  refine at_ga (.inl z_4) ?_
  refine ga_done z_4 ?_
  repeat refine y_ ?_
  refine g_ret ?_
  exact at_endB rfl rfl .del rfl (A ++ [lgO g5 (s.p.lm s.a), prO g3 q, sdO g2 s]) (SdP.mono (A := A) ⟨s', rfl, hA2⟩ (fun h hp hs2 => ⟨⟨hp, RdS.nil _ _, hp.r.rc, Nat.le_refl _⟩, (Sat.two2 hs2).1⟩)) (fun w hw => hw.drop)
 have h1 : ¬ q.next ≤ s.p.base := of_decide_eq_false hbq.symm
 have e : updateP s.p q = appendP s.p q := if_neg h1
 rw [e]
 repeat refine x_ ?_
 refine r_ ((s_load_blkW rfl z_2 z_7).eq (v' := (s.p.lm s.a).v) rfl) ?_
 refine f_ z_1 ?_
 refine r_ (by exact s_load_blk rfl z_2 a4_1) ?_
 refine f_ (s_sub_u64 rfl rfl (by omega)) ?_
 refine gl_callp rfl (rTerm_ct (s.p.lm s.a) (q.next - 1) hfit (by omega)) (fun h hh _ => hs.r.rl.le hh) rfl ?_; rw [show termV (s.p.lm s.a) (q.next - 1) = termV s.p.g (q.next - 1) from rfl, show hasL (s.p.lm s.a) (q.next - 1) = hasL s.p.g (q.next - 1) from rfl]
 refine m_ ?_
 refine f_ (s_extract rfl rfl) ?_
 refine f_ (s_extract rfl rfl) ?_
 refine a_ ?_
 refine a_ ?_
 repeat refine n_ ?_
 refine g_draw ([0, 2, 4, 7, 9, 13], [0, 0, 2, 0, 8, 24, 0, 0, 0, 256, 896, 0, 2048, 6144, 16376, 32767, 65535], [10, 15, 16]) [sdO g2 s, lgO g5 (s.p.lm s.a), prO g3 q] 17 rfl ?_
 refine ga_read_k 0 rfl z_11 ((s_load_blkW rfl .del z_7).eq (v' := sdV s) rfl) k_ rfl rfl rfl z_4 ?_
 refine w_ 1 rfl z_1 ?_
 (refine ga_read_k 2 rfl z_17 (s_load_blk rfl .del a4_0) k_ rfl rfl rfl z_4 ?_)
 refine w_ 3 rfl z_1 ?_
 (refine ga_read_k 4 rfl z_17 (s_load_blk rfl .del a4_1) k_ rfl rfl rfl z_4 ?_)
 refine w_ 5 rfl (s_sub_u64 rfl rfl (by omega)) ?_
 refine w_ 6 rfl (s_move rfl) ?_
 refine ga_read_k 7 rfl z_9 ((s_load_blkW rfl .del z_7).eq (v' := (s.p.lm s.a).v) rfl) k_ rfl rfl rfl z_4 ?_
 refine w_ 8 rfl z_1 ?_
 (refine ga_read_k 9 rfl z_17 (s_load_blk rfl .del a4_1) k_ rfl rfl rfl z_4 ?_)
 refine w_ 11 rfl z_1 ?_
 refine w_ 12 rfl z_1 ?_
 (refine ga_read_k 13 rfl z_11 (s_load_blk rfl .del a20_10) k_ rfl rfl rfl z_4 ?_)
 refine ga_one 10 rfl z_4 ?_
 refine gl_call _ rfl (rSlice_ct (s.p.lm s.a) q.next 8 hfit (by omega) (by omega)) i_ (fun h hh _ => hs.r.rl.le hh) rfl ?_; rw [show sliceL (s.p.lm s.a) q.next 8 = sliceL s.p.g q.next 8 from rfl]; rintro v A ⟨ea, ec, rfl, rfl⟩; refine gl_ownN (a := ea) .del (fun _ hec _ => ?_)
 refine gl_nil ?_
 refine at_ga (.inr (by exact keeps_of k_)) ?_
 refine w_ 14 rfl ((s_bld (cells := (mmC ⟨{ appendP s.p q with frm := 0, to := 0, term := 0 }, ea, ec, none, 0⟩).toArray) rfl z_4).eq (v' := mmA ⟨{ appendP s.p q with frm := 0, to := 0, term := 0 }, ea, ec, none, 0⟩) rfl) ?_
 refine ga_one 15 rfl z_4 ?_
 refine gl_call [sdZ g4, OwnL ea (sliceL s.p.g q.next 8) ec, lgO g5 (s.p.lm s.a), prO g3 q, sdO g2 s] rfl (rTell_ct s q.node ⟨{ appendP s.p q with frm := 0, to := 0, term := 0 }, ea, ec, none, 0⟩ hc (by omega)) (fun w hw => hw.perm (perm_up z_2 (.refl _))) (fun h hh ⟨bs, hb⟩ => ⟨hs.le hh, Sat.rd (a := ea) hb z_2, RdS.nil _ _, hec⟩) rfl ?_; rintro v A hA; obtain ⟨s', rfl, hA2⟩ := hA; refine gl_rot ?_
 refine gl_nil ?_
 refine at_ga (.inl z_4) ?_
 refine ga_one 16 rfl z_4 ?_
 (refine gl_store_blkW rfl rfl z_5 z_7 z_7 z_3 ?_)
 refine gl_nil ?_
 refine at_ga (.inl z_4) ?_
 refine ga_done z_4 ?_
 repeat refine y_ ?_
 refine g_ret ?_
 exact at_endB rfl rfl .del rfl (A ++ [OwnL ea (sliceL s.p.g q.next 8) ec, lgO g5 (s.p.lm s.a), prO g3 q, sdO g2 s]) (SdP.mono (A := A) ⟨s', rfl, hA2⟩ (fun h hp hs2 => ⟨⟨hp, Sat.rd (a := ea) (Sat.two2 hs2).2.choose_spec .del, RdS.nil _ _, hec⟩, (Sat.two2 hs2).1⟩)) (fun w hw => hw.drop)
end Go.Proofs.YtodcghipfolejaaGreat.Rf
namespace Go.Proofs.YtodcghipfolejaaGreat.Rf
open Go Go.Sl
section
variable {P : Program} {N : Nat} {K R : Kont} {E : List (Nat × Kont)} {L : Lcs} {F : Snap} {x y z : As} {A T : List As} {ops : Array Oper} {rest : List Oper}
theorem perm_rot2 : (A ++ (x :: y :: T)).Perm (x :: y :: (A ++ T)) := List.perm_middle.trans (List.perm_middle.cons x)
theorem perm_rot3 : (A ++ (x :: y :: z :: T)).Perm (x :: y :: z :: (A ++ T)) := List.perm_middle.trans (perm_rot2.cons x)
theorem perm_rot4 {u : As} : (A ++ (x :: y :: z :: u :: T)).Perm (x :: y :: z :: u :: (A ++ T)) := List.perm_middle.trans (perm_rot3.cons x)
theorem gl_rot4 {u : As} (h : GL P N ops rest K E R L F (x :: y :: z :: u :: (A ++ T))) : GL P N ops rest K E R L F (A ++ (x :: y :: z :: u :: T)) := gl_pull (fun w hw => hw.perm perm_rot4) h
theorem gl_rot2 (h : GL P N ops rest K E R L F (x :: y :: (A ++ T))) : GL P N ops rest K E R L F (A ++ (x :: y :: T)) := gl_pull (fun w hw => hw.perm perm_rot2) h
theorem gl_rot3 (h : GL P N ops rest K E R L F (x :: y :: z :: (A ++ T))) : GL P N ops rest K E R L F (A ++ (x :: y :: z :: T)) := gl_pull (fun w hw => hw.perm perm_rot3) h
end
theorem sat_mem {h : Heap} {X : List As} {bs : List Nat} (hs : Sat h X bs) : ∀ {Z : List As}, (∀ y ∈ Z, y ∈ X) → ∃ b, Sat h Z b
 | [], _ => ⟨[], rfl⟩
 | z :: Z, hz => by
  obtain ⟨b2, h2⟩ := sat_mem hs (Z := Z) (fun y hy => hz y (.tail _ hy))
  have key : ∀ {X : List As} {bs : List Nat}, Sat h X bs → z ∈ X → ∃ b, z.sat h b := by
   intro X
   induction X with
   | nil => intro bs _ hm; cases hm
   | cons x X ih =>
    intro bs hs hm
    obtain ⟨b1, b3, _, k1, k2⟩ := hs
    rcases List.mem_cons.1 hm with rfl | hm
    ·exact ⟨b1, k1⟩
    ·exact ih k2 hm
  obtain ⟨b1, h1⟩ := key hs (hz z (.head _))
  exact ⟨b1 ++ b2, b1, b2, rfl, h1, h2⟩
section
variable {P : Program} {N : Nat} {K R : Kont} {E : List (Nat × Kont)} {L : Lcs} {F : Snap} {H Hk : List As} {ops : Array Oper} {rs : Rs} {done : List Nat} {n d : Nat}
theorem ga_readZ (i : Nat) {o : Oper} {v : Value} (hi : ops[i]? = some o) (s : ∀ H', (∀ w, Hp F w H' → ∃ bs, Sat (hp w) Hk bs) → OpR P o L F H' v) (hk : ∀ y ∈ Hk, y ∈ H) (hg : o.guard = none) (hdst : o.dst = some d) (hd : Nat.blt d N = true) (hc : readOk ops rs done i = true)
  (h : GA P N ops rs Hk n (i :: done) K E R ((d, v) :: L) F H) : GA P N ops rs Hk (n + 1) done K E R L F H :=
 ga_readW i hi (fun ρ w ha ⟨X, hX, hin⟩ => by
  have h9 := s X (fun w hw => by obtain ⟨bs, h1, _⟩ := hw.own; exact sat_mem h1 hin)
  unfold OpR at h9
  exact h9 ρ w ha hX) (fun a _ => wanted_none hg a) hdst hd hc (fun w hw => ⟨H, hw, hk⟩) h
end
theorem sub_skip {Z H : List As} {x : As} (h : ∀ y ∈ Z, y ∈ H) : ∀ y ∈ Z, y ∈ x :: H := fun y hy => .tail _ (h y hy)
theorem hp_sat {F : Snap} {w : World} {H : List As} (hw : Hp F w H) : ∃ bs, Sat (hp w) H bs := by
 obtain ⟨bs, h, _⟩ := hw.own; exact ⟨bs, h⟩
theorem rdPr {h : Heap} {a : Option Addr} {l : List Pr} {q i : Nat} (r : RdS h a (prV l)) (e : q = 4 * i) (hi : i < l.length) : PeekC h (addO a q) (prC (l.getD i P0)) := rec_rdN (C := prC) r prC_len (by decide) P0 e hi
theorem rdP0 {h : Heap} {a : Option Addr} {l : List Pr} {q i : Nat} (r : RdS h a (prV l)) (e : q = 4 * i) (hi : i < l.length) : PeekC h (addO a q) [.int .i64 (l.getD i P0).node] := rec_rd1 (C := prC) r prC_len P0 (j := 0) e hi rfl
theorem rdP1 {h : Heap} {a : Option Addr} {l : List Pr} {q i : Nat} (r : RdS h a (prV l)) (e : q = 4 * i + 1) (hi : i < l.length) : PeekC h (addO a q) [.int .u64 (l.getD i P0).next] := rec_rd1 (C := prC) r prC_len P0 (j := 1) e hi rfl
theorem rdP2 {h : Heap} {a : Option Addr} {l : List Pr} {q i : Nat} (r : RdS h a (prV l)) (e : q = 4 * i + 2) (hi : i < l.length) : PeekC h (addO a q) [.int .u64 (l.getD i P0).mtc] := rec_rd1 (C := prC) r prC_len P0 (j := 2) e hi rfl
theorem rdPr_some {h : Heap} {a : Option Addr} {l : List Pr} {i : Nat} (r : RdS h a (prV l)) (hi : i < l.length) : ∃ ad, a = some ad := rec_some (C := prC) r prC_len (by decide) hi
theorem g_some {P : Program} {N : Nat} {K R : Kont} {E : List (Nat × Kont)} {L : Lcs} {F : Snap} {H : List As} {c : Code} {Q : Prop} (k : ∀ w, Hp F w H → Q) (h : Q → G P N c K E R L F H) : G P N c K E R L F H := by
 unfold G at h ⊢
 exact fun a w hf hw => h (k w hw) a w hf hw
structure AlI (s : SD) (k : Nat) (s' : SD) (Z : List As) : Prop where
 le : k ≤ s.p.peers.length
 p : s'.p = s.p
 outs : s'.outs.map MM.p = s.outs.map MM.p ++ (s.p.peers.take k).map (updateP s.p)
 er : s'.er = s.er
 cap : s'.p.l.length ≤ s'.a.lc
 ok : ∀ h, SdOk h s → (∃ bs, Sat h Z bs) → SdOk h s'
 r : 0 < k → s.p.role = 2
theorem AlI.len {s : SD} {k : Nat} {s' : SD} {Z : List As} (h : AlI s k s' Z) : s'.outs.length = s.outs.length + k := by
 have := congrArg List.length h.outs
 have := h.le
 simp at *; omega
set_option maxRecDepth 16000 in
set_option maxHeartbeats 8000000 in
theorem rAll_ct (s : SD) (hf : PFit s.p) (hc : s.p.l.length ≤ s.a.lc) (ho : s.outs.length ≤ 1000000) : Ct Tryz.prog 66 [sdV s] (fun h => SdOk h s) [] (SdP (fun h => SdOk h s) s.p (s.outs.map MM.p ++ allP s.p) s.er) := by
 have hpl := hf.peers
 refine ct_enter 27 Tryz.func66 rfl rfl rfl ?_
 intro F hs
 repeat refine x_ ?_
 refine gl_boxA rfl rfl ?_; intro g1
 refine gl_allocA rfl ?_; intro g2
 repeat refine x_ ?_
 refine a_ ?_
 repeat refine n_ ?_
 refine g_loop (ι := Nat × SD × List As) (fun i => AlI s i.1 i.2.1 i.2.2) (fun i => [(1, Ptr g1), (2, Ptr g2), (3, .int .i64 (i.1 : Nat))]) (fun i => sdO g1 i.2.1 :: sdZ g2 :: i.2.2) (fun i => s.p.peers.length - i.1) (0, s, []) ⟨Nat.zero_le _, rfl, by simp, rfl, hc, fun h h1 _ => h1, fun h => absurd h (Nat.lt_irrefl 0)⟩ ?_ ?_ ?_
 ·(repeat (first | exact Sub.nil _ | refine Sub.cons rfl ?_))
 ·intro w hw; exact hw.perm (perm_up z_2 (perm_up z_2 (.refl _)))
 rintro ⟨k, s1, Z⟩ hI
 have hln := hI.len
 obtain ⟨hk, hp, hout, her, hcap, hok, hrr⟩ := hI
 simp only at hk hp hout her hcap hok hrr hln
 have hpp : s1.p.peers.length = s.p.peers.length := by rw [hp]
 obtain ⟨q1, hq1⟩ : ∃ q, q = decide ((k : Int) < (s1.p.peers.length : Nat)) := ⟨_, rfl⟩
 obtain ⟨q2, hq2⟩ : ∃ q, q = decide (s1.p.role = 2) := ⟨_, rfl⟩
 have hend : (q1 = false ∨ q2 = false) → (s.p.peers.take k).map (updateP s.p) = allP s.p := by
  intro h
  unfold allP
  by_cases hr : s.p.role = 2
  ·rw [if_pos hr]
   rcases h with h | h
   ·rw [h] at hq1
    have := of_decide_eq_false hq1.symm
    rw [List.take_of_length_le (by omega)]
   ·rw [h, hp] at hq2; exact absurd hr (of_decide_eq_false hq2.symm)
  ·have : k = 0 := by
    rcases Nat.eq_zero_or_pos k with h0 | h0
    ·exact h0
    ·exact absurd (hrr h0) hr
   rw [if_neg hr, this]; rfl
 rcases (show (q1 = true ∧ q2 = true) ∨ q1 = false ∨ (q1 = true ∧ q2 = false) by cases q1 <;> cases q2 <;> simp) with ⟨rfl, rfl⟩ | rfl | ⟨rfl, rfl⟩
 rotate_left
 ·have he := hend (.inl rfl)
  repeat refine x_ ?_
  refine m_ ?_
  refine f_ z_1 ?_
  refine f_ z_1 ?_
  refine r_ (by exact s_load_blk rfl z_2 a20_14) ?_
  refine f_ (s_len_sl rfl) ?_
  refine f_ ((s_lss rfl rfl).eb hq1) ?_
  refine m_ ?_
  (refine gl_guard_no rfl rfl rfl rfl rfl rfl rfl ?_)
  (refine gl_guard_no rfl rfl rfl rfl rfl rfl rfl ?_)
  (refine gl_guard_no rfl rfl rfl rfl rfl rfl rfl ?_)
  (refine gl_guard_no rfl rfl rfl rfl rfl rfl rfl ?_)
  refine f_ z_12 ?_
  repeat refine x_ ?_
  refine r_ z_14 ?_
  (refine gl_store_blkW rfl rfl z_5 z_7 z_7 z_3 ?_)
  repeat refine n_ ?_
  refine g_ret ?_
  exact at_endB rfl rfl z_2 rfl Z ⟨s1, rfl, hp, by rw [hout, he], her, hcap, hok⟩ (fun w hw => hw.drop.drop)
 ·have he := hend (.inr rfl)
  repeat refine x_ ?_
  refine m_ ?_
  refine f_ z_1 ?_
  refine f_ z_1 ?_
  refine r_ (by exact s_load_blk rfl z_2 a20_14) ?_
  refine f_ (s_len_sl rfl) ?_
  refine f_ ((s_lss rfl rfl).eb hq1) ?_
  refine m_ ?_
  (refine v_ ?_; refine f_ z_1 ?_)
  (refine v_ ?_; refine f_ z_1 ?_)
  (refine v_ ?_; refine r_ (by exact s_load_blk rfl z_2 a20_3) ?_)
  (refine v_ ?_; refine f_ ((s_eql rfl rfl).eb hq2) ?_)
  refine f_ z_13 ?_
  repeat refine x_ ?_
  refine r_ z_14 ?_
  (refine gl_store_blkW rfl rfl z_5 z_7 z_7 z_3 ?_)
  repeat refine n_ ?_
  refine g_ret ?_
  exact at_endB rfl rfl z_2 rfl Z ⟨s1, rfl, hp, by rw [hout, he], her, hcap, hok⟩ (fun w hw => hw.drop.drop)
 have hkl : k < s.p.peers.length := by have := of_decide_eq_true hq1.symm; omega
 have hkk : k < s1.p.peers.length := by omega
 have hk0 : ((k, s1, Z) : Nat × SD × List As).1 < s1.p.peers.length := hkk
 have hrole : s.p.role = 2 := by rw [← hp]; exact of_decide_eq_true hq2.symm
 have hqm := hf.prs _ (getD_memP hkl)
 have htk := takeP hkl
 obtain ⟨q, hqe⟩ : ∃ q, q = s1.p.peers.getD k P0 := ⟨_, rfl⟩
 have hqe2 : q = s.p.peers.getD k P0 := by rw [hqe, hp]
 rw [← hqe2] at hqm htk
 repeat refine x_ ?_
 refine m_ ?_
 refine f_ z_1 ?_
 refine f_ z_1 ?_
 refine r_ (by exact s_load_blk rfl z_2 a20_14) ?_
 refine f_ (s_len_sl rfl) ?_
 refine f_ ((s_lss rfl rfl).eb hq1) ?_
 refine m_ ?_
 (refine v_ ?_; refine f_ z_1 ?_)
 (refine v_ ?_; refine f_ z_1 ?_)
 (refine v_ ?_; refine r_ (by exact s_load_blk rfl z_2 a20_3) ?_)
 (refine v_ ?_; refine f_ ((s_eql rfl rfl).eb hq2) ?_)
 refine f_ z_13 ?_
 repeat refine n_ ?_
 refine g_some (Q := ∃ ad, s1.a.pa = some ad) (fun w hw => rdPr_some (hok _ (hs.le hw.keep) (sat_tail (sat_tail (hp_sat hw)))).r.rp hkk) (fun hsome => ?_)
 repeat refine y_ ?_
 refine g_draw ([0, 3, 6], [0, 0, 2, 6, 0, 30, 62, 127, 255], [7, 8]) (sdO g1 s1 :: sdZ g2 :: Z) 9 rfl ?_
 refine ga_read_k 0 rfl z_11 ((s_load_blkW rfl .del z_7).eq (v' := sdV s1) rfl) z_15 rfl rfl rfl z_4 ?_
 refine w_ 1 rfl z_1 ?_
 refine w_ 2 rfl z_1 ?_
 (refine ga_read_k 3 rfl z_11 (s_load_blk rfl .del a20_14) z_15 rfl rfl rfl z_4 ?_)
 refine w_ 4 rfl (s_move rfl) ?_
 refine w_ 5 rfl (s_indexAddr rfl (by assumption) rfl (by omega)) ?_
 refine ga_readZ 6 rfl (fun H' hz => s_loadN (cs := prC q) rfl (fun w hw => by rw [hqe]; exact rdPr (hok _ (hs.le hw.keep) (sat_tail (sat_tail (hz w hw)))).r.rp (i := k) (by simp only; omega) hkk) rfl) z_15 rfl rfl rfl z_4 ?_
 refine ga_one 7 rfl z_4 ?_
 refine gl_call (sdO g1 s1 :: sdZ g2 :: Z) rfl (rUpdate_ct s1 q (by rw [hp]; exact hf) (by rw [hp]; exact ⟨⟨hqm.1, hqm.2.1⟩, hqm.2.2.2.2⟩) hcap (by omega)) i_ (fun h hh hb => hok h (hs.le hh) (sat_tail (sat_tail hb))) rfl ?_; rintro v A ⟨s2, rfl, e1, e2, e3, e4, e5⟩; refine gl_rot2 ?_
 refine gl_nil ?_
 refine at_ga (.inl z_4) ?_
 refine ga_one 8 rfl z_4 ?_
 (refine gl_store_blkW rfl rfl z_5 z_7 z_7 z_3 ?_)
 refine gl_nil ?_
 refine at_ga (.inl z_4) ?_
 refine ga_done z_4 ?_
 repeat refine x_ ?_
 refine m_ ?_
 refine f_ (s_add_i64 rfl rfl (by omega)) ?_
 refine a_ ?_
 repeat refine n_ ?_
 refine at_next (k + 1, s2, A ++ Z) ⟨hkl, e1.trans hp, ?_, e3.trans her, e4, fun h h1 h2 => e5 h (hok h h1 (Sat.two2 h2).2) (Sat.two2 h2).1, fun _ => hrole⟩ (by simp only; omega) ?_ ?_
 ·simp only
  rw [e2, hout, htk, List.map_append, List.append_assoc, hp]; rfl
 ·(repeat (first | exact Sub.nil _ | refine Sub.cons rfl ?_))
 ·intro w hw; exact hw
end Go.Proofs.YtodcghipfolejaaGreat.Rf
namespace Go.Proofs.YtodcghipfolejaaGreat.Rf
open Go Go.Sl
abbrev rsO (X : Nat) (p : RP) (a : RA) : As := .blk X (.cells (rsC p a).toArray 49)
abbrev rsZ (X : Nat) : As := .blk X (.cells #[.int .i64 0, .int .u64 0, .int .i64 0, .int .i64 0, .int .i64 0, .int .u64 0, .int .u64 0, .slice none 0 0, .slice none 0 0, B [], .int .u64 0, .int .i64 0, .int .i64 0, .slice none 0 0, .slice none 0 0, B [], .int .u64 0, .int .u64 0] 49)
def RtP (Pre : Heap → Prop) (p' : RP) (v : Value) (A : List As) : Prop :=
 ∃ a' : RA, v = rsV p' a' ∧ p'.l.length ≤ a'.lc ∧ ∀ h, Pre h → (∃ bs, Sat h A bs) → RRd h p' a'
theorem commit1_rd {h : Heap} {p : RP} {a : RA} (r : RRd h p a) : RRd h (commit1 p) a := by
 unfold commit1; split
 ·exact ⟨r.rc, r.rl, r.rv, r.rp⟩
 ·exact r
set_option maxRecDepth 16000 in
set_option maxHeartbeats 8000000 in
theorem rCommit17_ct (p : RP) (a : RA) (hf : PFit p) (hc : p.l.length ≤ a.lc) : Ct Tryz.prog 83 [rsV p a] (fun h => RRd h p a) [] (RtP (fun h => RRd h p a) (commitP p)) := by
 have hpl := hf.peers
 have hcn := hf.cn (lastI p.g)
 have hca := hf.ca (lastI p.g)
 have hcb := hf.com
 have hg := hf.fit a hc
 have hla := hf.last
 have hla' : 0 ≤ lastI (p.lm a) ∧ lastI (p.lm a) ≤ 18446744073709551615 := by show 0 ≤ lastI p.g ∧ lastI p.g ≤ _; omega
 obtain ⟨cl, hcl⟩ : ∃ l, l = confAt p.g (lastI p.g) := ⟨_, rfl⟩
 have ecl : confAt (p.lm a) (lastI (p.lm a)) = cl := by rw [hcl]; exact confAt_any p a _
 rw [← hcl] at hcn hca
 have hcL : confL p = cl.1 := by rw [hcl]; rfl
 have hcI : confI p = cl.2 := by rw [hcl]; rfl
 obtain ⟨cm, hcm⟩ : ∃ c, c = comP p := ⟨_, rfl⟩
 have hcm2 : com cl.1 (haveP p) = cm := by rw [hcm, comP, hcL]
 rw [← hcm] at hcb
 obtain ⟨p1, hp1⟩ : ∃ q, q = commit1 p := ⟨_, rfl⟩
 have hP : commitP p = if inB cl.1 p.id = false ∧ cl.2 ≤ p1.commit then followP p1 p1.term 0 else p1 := by rw [commitP, hcL, hcI, hp1]
 simp only [hP]
 have hrd1 : ∀ h, RRd h p a → RRd h p1 a := fun h r => by rw [hp1]; exact commit1_rd r
 rw [commit1, ← hcm] at hp1
 refine ct_enter 90 Tryz.func83 rfl rfl rfl ?_
 intro F hr
 repeat refine x_ ?_
 refine gl_boxA rfl rfl ?_; intro g1
 refine gl_allocA rfl ?_; intro g2
 repeat refine n_ ?_
 refine g_pull (H' := [rsO g1 p a, rsZ g2]) (fun w hw => hw.perm (perm_up z_2 (perm_up z_2 (.refl _)))) ?_
 repeat refine y_ ?_
 refine g_draw ([1, 3], [0, 1, 0, 4, 12, 31, 63, 127, 127, 255, 1023], [4, 5]) [rsO g1 p a] 11 rfl ?_
 refine w_ 0 rfl z_1 ?_
 refine ga_read_k 1 rfl z_11 ((s_load_blkN rfl .del z_7).eq (v' := (p.lm a).v) rfl) k_ rfl rfl rfl z_4 ?_
 refine w_ 2 rfl z_1 ?_
 refine ga_read_k 3 rfl z_11 ((s_load_blkN rfl .del z_7).eq (v' := (p.lm a).v) rfl) k_ rfl rfl rfl z_4 ?_
 refine ga_one 4 rfl z_4 ?_
 refine gl_callp rfl (rLast_ct (p.lm a) hg) (fun _ _ _ => trivial) rfl ?_
 refine gl_nil ?_
 refine at_ga (.inr (by exact keeps_of k_)) ?_
 refine ga_one 5 rfl z_4 ?_
 refine gl_call _ rfl (rConf_ct (p.lm a) (lastI (p.lm a)) hg hf.dat hla') i_ (fun h hh _ => hr.rl.le hh) rfl ?_; rintro v A ⟨ca, cc, rfl, hA⟩; rw [ecl] at hA ⊢; refine gl_rot2 ?_
 refine gl_nil ?_
 refine at_ga (.inl z_4) ?_
 refine w_ 6 rfl (s_move rfl) ?_
 refine w_ 7 rfl (s_extract rfl rfl) ?_
 refine w_ 8 rfl (s_extract rfl rfl) ?_
 refine w_ 9 rfl (s_assign rfl) ?_
 refine w_ 10 rfl (s_assign rfl) ?_
 refine ga_done z_4 ?_
 repeat refine y_ ?_
 have hrx : ∀ h, RRd h p a → (∃ bs, Sat h A bs) → RdS h ca (intsV cl.1) := by
  have := conf_ints (p := p) (a := a) hA
  exact this
 repeat refine y_ ?_
 refine g_draw ([1, 3], [0, 1, 0, 4, 12, 31, 63, 127], [4, 6]) [rsO g1 p a] 8 rfl ?_
 refine w_ 0 rfl z_1 ?_
 (refine ga_read_k 1 rfl z_11 (s_load_blk rfl .del a18_0) k_ rfl rfl rfl z_4 ?_)
 refine w_ 2 rfl z_1 ?_
 refine ga_read_k 3 rfl z_11 ((s_load_blkN rfl .del z_7).eq (v' := (p.lm a).v) rfl) k_ rfl rfl rfl z_4 ?_
 refine ga_one 4 rfl z_4 ?_
 refine gl_callp rfl (rLast_ct (p.lm a) hg) (fun _ _ _ => trivial) rfl ?_; rw [show lastI (p.lm a) = lastI p.g from rfl]
 refine gl_nil ?_
 refine at_ga (.inr (by exact keeps_of k_)) ?_
 refine w_ 5 rfl (s_build rfl (run_build_struct (places := [(0, 1), (1, 1)]) rfl (by intro f hf; simp at hf; rcases hf with rfl | rfl <;> rfl) rfl)) ?_
 refine ga_one 6 rfl z_4 ?_
 refine gl_buildSliceU rfl rfl rfl rfl rfl rfl (xs := atV [(p.id, lastI p.g)]) rfl rfl ?_; intro a25 ha25
 refine gl_nil ?_
 refine at_ga (.inl z_4) ?_
 refine w_ 7 rfl (s_assign rfl) ?_
 refine ga_done z_4 ?_
 repeat refine x_ ?_
 refine a_ ?_
 repeat refine n_ ?_
 refine g_loop (ι := Nat × Option Addr × Nat) (fun i => i.1 ≤ p.peers.length) (fun i => [(1, Ptr g1), (2, Ptr g2), (3, .slice ca cl.1.length cc), (4, .int .u64 cl.2), (5, .slice i.2.1 (haveK p i.1).length i.2.2), (6, .int .i64 (i.1 : Nat))]) (fun i => OwnA i.2.1 (haveK p i.1) i.2.2 :: rsO g1 p a :: rsZ g2 :: A) (fun i => p.peers.length - i.1) (0, a25, 1) (Nat.zero_le _) ?_ ?_ ?_
 ·(repeat (first | exact Sub.nil _ | refine Sub.cons rfl ?_))
 ·intro w hw; rw [List.append_nil] at hw; exact hw
 rintro ⟨k, b, c⟩ hk
 simp only at hk
 have hkl2 := haveK_len p k
 have hkl3 : (haveK p ((k, b, c) : Nat × Option Addr × Nat).1).length ≤ p.peers.length + 1 := hkl2
 repeat refine x_ ?_
 refine m_ ?_
 refine f_ z_1 ?_
 refine r_ (by exact s_load_blk rfl z_2 a18_14) ?_
 refine f_ (s_len_sl rfl) ?_
 refine f_ (s_lss rfl rfl) ?_
 repeat refine n_ ?_
 refine g_cond rfl (fun h => ?_) (fun h => ?_)
 ·have hkl : k < p.peers.length := by simp at h; omega
  have hkk : ((k, b, c) : Nat × Option Addr × Nat).1 < p.peers.length := hkl
  have hsome := rdPr_some hr.rp hkl
  have hsu := haveK_succ hkl
  obtain ⟨q, hqe⟩ : ∃ q, q = p.peers.getD k P0 := ⟨_, rfl⟩
  rw [← hqe] at hsu
  repeat refine y_ ?_
  refine g_draw ([2, 6, 8, 12], [0, 0, 2, 0, 14, 30, 62, 0, 128, 0, 896, 1920, 3968, 8190, 16382, 32767, 65535], [14, 15]) [rsO g1 p a] 17 rfl ?_
  refine w_ 0 rfl (s_move rfl) ?_
  refine w_ 1 rfl z_1 ?_
  (refine ga_read_k 2 rfl z_11 (s_load_blk rfl .del a18_14) k_ rfl rfl rfl z_4 ?_)
  refine w_ 3 rfl (s_move rfl) ?_
  refine w_ 4 rfl (s_indexAddr rfl (by assumption) rfl (by omega)) ?_
  refine w_ 5 rfl z_8 ?_
  refine ga_readF 6 rfl ((s_load1 (v := .int .i64 q.node) rfl (fun w hw => by rw [hqe]; exact rdP0 (hr.rp.le hw.keep) (i := k) (by simp only; omega) hkl))) k_ rfl rfl rfl z_4 ?_
  refine w_ 7 rfl z_1 ?_
  (refine ga_read_k 8 rfl z_11 (s_load_blk rfl .del a18_14) k_ rfl rfl rfl z_4 ?_)
  refine w_ 9 rfl (s_move rfl) ?_
  refine w_ 10 rfl (s_indexAddr rfl (by assumption) rfl (by omega)) ?_
  refine w_ 11 rfl z_8 ?_
  refine ga_readF 12 rfl ((s_load1 (v := .int .u64 q.mtc) rfl (fun w hw => by rw [hqe]; exact rdP2 (hr.rp.le hw.keep) (i := k) (by simp only; omega) hkl))) k_ rfl rfl rfl z_4 ?_
  refine w_ 13 rfl (s_build rfl (run_build_struct (places := [(0, 1), (1, 1)]) rfl (by intro f hf; simp at hf; rcases hf with rfl | rfl <;> rfl) rfl)) ?_
  refine ga_one 14 rfl z_4 ?_
  refine gl_buildSliceU rfl rfl rfl rfl rfl rfl (xs := atV [(q.node, q.mtc)]) rfl rfl ?_; intro a44 ha44
  refine gl_nil ?_
  refine at_ga (.inl z_4) ?_
  refine ga_one 15 rfl z_4 ?_
  refine gl_append (sz := 2) rfl rfl (fun a' c' => z_5) (fun w hw => (hw.ownN z_2).2.2.1) rfl rfl rfl (fun v hv => by simp [atV] at hv; rcases hv with rfl | rfl <;> rfl) (by show (_ + 1) * 16 ≤ _; omega) (by omega) rfl ?_; intro a45 c45 hc45
  refine gl_nil ?_
  refine at_ga (.inl z_4) ?_
  refine w_ 16 rfl (s_assign rfl) ?_
  refine ga_done z_4 ?_
  repeat refine x_ ?_
  refine m_ ?_
  refine f_ (s_add_i64 rfl rfl (by omega)) ?_
  refine a_ ?_
  repeat refine n_ ?_
  refine at_next (k + 1, a45, c45) (by simp only; omega) (by simp only; omega) ?_ ?_
  ·simp only [hsu, List.length_append, List.length_singleton]
   (repeat (first | exact Sub.nil _ | refine Sub.cons rfl ?_))
  ·intro w hw
   simp only [hsu]
   rw [← own_snocA rfl]
   exact hw.drop
 have hkl : k = p.peers.length := by simp at h; omega
 subst hkl
 rw [haveK_all] at hkl2
 simp only [haveK_all]
 repeat refine x_ ?_
 refine m_ ?_
 refine m_ ?_
 refine gl_callp rfl (rCommit_ct cl.1 (haveP p) ca b cc c (by omega) (by omega)) (fun h hh hb => ⟨hrx h (hr.le hh) (sat_tail (sat_tail (sat_tail hb))), (by obtain ⟨bs, hb⟩ := hb; exact Sat.rd (a := b) hb .del)⟩) rfl ?_; rw [hcm2]
 refine a_ ?_
 repeat refine n_ ?_
 obtain ⟨q1, hq1⟩ : ∃ q, q = decide (p.commit < cm) := ⟨_, rfl⟩
 obtain ⟨q2, hq2⟩ : ∃ q, q = hasL p.g cm := ⟨_, rfl⟩
 obtain ⟨q3, hq3⟩ : ∃ q, q = decide (termV p.g cm = p.term) := ⟨_, rfl⟩
 repeat refine x_ ?_
 refine f_ z_1 ?_
 refine r_ ((s_load_blkN rfl z_2 z_7).eq (v' := (p.lm a).v) rfl) ?_
 refine m_ ?_
 refine gl_callp rfl (rTerm_ct (p.lm a) cm hg (by omega)) (fun h hh _ => hr.rl.le hh) rfl ?_; rw [show termV (p.lm a) cm = termV p.g cm from rfl, show hasL (p.lm a) cm = hasL p.g cm from rfl, ← hq2]
 refine m_ ?_
 refine f_ (s_extract rfl rfl) ?_
 refine f_ (s_extract rfl rfl) ?_
 refine a_ ?_
 refine a_ ?_
 repeat refine n_ ?_
 have hcond : ∀ b, (q1 && (q2 && q3)) = b → p1 = if b = true then { p with commit := cm } else p := by
  intro b hb
  rw [hp1]
  have e : (p.commit < cm ∧ hasL p.g cm = true ∧ termV p.g cm = p.term) ↔ b = true := by
   rw [← hb, hq1, ← hq2, hq3]; simp
  by_cases hbb : b = true
  ·rw [if_pos hbb, if_pos (e.2 hbb)]
  ·rw [if_neg hbb, if_neg (fun h => hbb (e.1 h))]
 rcases (show (q1 = true ∧ q2 = true ∧ q3 = true) ∨ q1 = false ∨ (q1 = true ∧ q2 = false) ∨ (q1 = true ∧ q2 = true ∧ q3 = false) by cases q1 <;> cases q2 <;> cases q3 <;> simp) with ⟨rfl, rfl, rfl⟩ | rfl | ⟨rfl, rfl⟩ | ⟨rfl, rfl, rfl⟩
 case' inl =>
  have e1 : p1 = { p with commit := cm } := hcond true rfl
  repeat refine x_ ?_
  refine m_ ?_
  refine f_ z_1 ?_
  refine r_ (by exact s_load_blk rfl z_2 a18_10) ?_
  refine f_ ((s_gtr rfl rfl).eb hq1) ?_
  refine m_ ?_
  (refine v_ ?_; refine m_ ?_)
  refine f_ z_13 ?_
  refine m_ ?_
  (refine v_ ?_; refine m_ ?_)
  (refine v_ ?_; refine f_ z_1 ?_)
  (refine v_ ?_; refine r_ (by exact s_load_blk rfl z_2 a18_1) ?_)
  (refine v_ ?_; refine f_ ((s_eql rfl rfl).eb hq3) ?_)
  refine f_ z_13 ?_
  repeat refine x_ ?_
  refine m_ ?_
  refine f_ z_1 ?_
  (refine gl_store_blkC (pre := [_, _, _, _, _, _, _, _, _, _]) (post := [_, _, _, _, _, _, _]) rfl rfl z_5 z_7 z_7 z_7 ?_)
  repeat refine n_ ?_
  refine g_pull (H' := rsO g1 p1 a :: rsZ g2 :: A) (fun w hw => by rw [e1]; exact hw.drop) ?_
 case' inr.inl =>
  have e1 : p1 = p := hcond false rfl
  repeat refine x_ ?_
  refine m_ ?_
  refine f_ z_1 ?_
  refine r_ (by exact s_load_blk rfl z_2 a18_10) ?_
  refine f_ ((s_gtr rfl rfl).eb hq1) ?_
  refine m_ ?_
  (refine gl_guard_no rfl rfl rfl rfl rfl rfl rfl ?_)
  refine f_ z_12 ?_
  refine m_ ?_
  (refine gl_guard_no rfl rfl rfl rfl rfl rfl rfl ?_)
  (refine gl_guard_no rfl rfl rfl rfl rfl rfl rfl ?_)
  (refine gl_guard_no rfl rfl rfl rfl rfl rfl rfl ?_)
  (refine gl_guard_no rfl rfl rfl rfl rfl rfl rfl ?_)
  refine f_ z_12 ?_
  repeat refine n_ ?_
  refine g_pull (H' := rsO g1 p1 a :: rsZ g2 :: A) (fun w hw => by rw [e1]; exact hw.drop) ?_
 case' inr.inr.inl =>
  have e1 : p1 = p := hcond false rfl
  repeat refine x_ ?_
  refine m_ ?_
  refine f_ z_1 ?_
  refine r_ (by exact s_load_blk rfl z_2 a18_10) ?_
  refine f_ ((s_gtr rfl rfl).eb hq1) ?_
  refine m_ ?_
  (refine v_ ?_; refine m_ ?_)
  refine f_ z_13 ?_
  refine m_ ?_
  (refine gl_guard_no rfl rfl rfl rfl rfl rfl rfl ?_)
  (refine gl_guard_no rfl rfl rfl rfl rfl rfl rfl ?_)
  (refine gl_guard_no rfl rfl rfl rfl rfl rfl rfl ?_)
  (refine gl_guard_no rfl rfl rfl rfl rfl rfl rfl ?_)
  refine f_ z_12 ?_
  repeat refine n_ ?_
  refine g_pull (H' := rsO g1 p1 a :: rsZ g2 :: A) (fun w hw => by rw [e1]; exact hw.drop) ?_
 case' inr.inr.inr =>
  have e1 : p1 = p := hcond false rfl
  repeat refine x_ ?_
  refine m_ ?_
  refine f_ z_1 ?_
  refine r_ (by exact s_load_blk rfl z_2 a18_10) ?_
  refine f_ ((s_gtr rfl rfl).eb hq1) ?_
  refine m_ ?_
  (refine v_ ?_; refine m_ ?_)
  refine f_ z_13 ?_
  refine m_ ?_
  (refine v_ ?_; refine m_ ?_)
  (refine v_ ?_; refine f_ z_1 ?_)
  (refine v_ ?_; refine r_ (by exact s_load_blk rfl z_2 a18_1) ?_)
  (refine v_ ?_; refine f_ ((s_eql rfl rfl).eb hq3) ?_)
  refine f_ z_13 ?_
  repeat refine n_ ?_
  refine g_pull (H' := rsO g1 p1 a :: rsZ g2 :: A) (fun w hw => by rw [e1]; exact hw.drop) ?_
 all_goals
  have hid : p1.id = p.id ∧ p1.l = p.l := by rw [hp1]; split <;> exact ⟨rfl, rfl⟩
  have hcap1 : p1.l.length ≤ a.lc := by rw [hid.2]; exact hc
  obtain ⟨q4, hq4⟩ : ∃ q, q = inB cl.1 p.id := ⟨_, rfl⟩
  obtain ⟨q5, hq5⟩ : ∃ q, q = decide (cl.2 ≤ p1.commit) := ⟨_, rfl⟩
  rw [← hq4]
  repeat refine y_ ?_
  cases q4
  rotate_left
  ·rw [if_neg (by simp)]
   repeat refine x_ ?_
   refine m_ ?_
   refine f_ z_1 ?_
   refine r_ (by exact s_load_blk rfl z_2 a18_0) ?_
   refine gl_callp rfl (In_ct cl.1 p1.id ca cc (by omega)) (fun h hh hb => hrx h (hr.le hh) (sat_tail (sat_tail hb))) rfl ?_; rw [hid.1, ← hq4]
   refine f_ (s_not rfl) ?_
   refine m_ ?_
   (refine gl_guard_no rfl rfl rfl rfl rfl rfl rfl ?_)
   (refine gl_guard_no rfl rfl rfl rfl rfl rfl rfl ?_)
   (refine gl_guard_no rfl rfl rfl rfl rfl rfl rfl ?_)
   (refine gl_guard_no rfl rfl rfl rfl rfl rfl rfl ?_)
   refine f_ z_12 ?_
   repeat refine x_ ?_
   refine r_ z_14 ?_
   (refine gl_store_blkW rfl rfl z_5 z_7 z_7 z_3 ?_)
   repeat refine n_ ?_
   refine g_ret ?_
   exact at_endB rfl rfl z_2 rfl [] ⟨a, rfl, hcap1, fun h hp _ => hrd1 h hp⟩ (fun w hw => hw.dropAll)
  cases q5
  ·have h5 := of_decide_eq_false hq5.symm
   rw [if_neg (fun h => h5 h.2)]
   repeat refine x_ ?_
   refine m_ ?_
   refine f_ z_1 ?_
   refine r_ (by exact s_load_blk rfl z_2 a18_0) ?_
   refine gl_callp rfl (In_ct cl.1 p1.id ca cc (by omega)) (fun h hh hb => hrx h (hr.le hh) (sat_tail (sat_tail hb))) rfl ?_; rw [hid.1, ← hq4]
   refine f_ (s_not rfl) ?_
   refine m_ ?_
   (refine v_ ?_; refine m_ ?_)
   (refine v_ ?_; refine f_ z_1 ?_)
   (refine v_ ?_; refine r_ (by exact s_load_blk rfl z_2 a18_10) ?_)
   (refine v_ ?_; refine f_ ((s_leq rfl rfl).eb hq5) ?_)
   refine f_ z_13 ?_
   repeat refine x_ ?_
   refine r_ z_14 ?_
   (refine gl_store_blkW rfl rfl z_5 z_7 z_7 z_3 ?_)
   repeat refine n_ ?_
   refine g_ret ?_
   exact at_endB rfl rfl z_2 rfl [] ⟨a, rfl, hcap1, fun h hp _ => hrd1 h hp⟩ (fun w hw => hw.dropAll)
  ·have h5 := of_decide_eq_true hq5.symm
   rw [if_pos ⟨rfl, h5⟩]
   repeat refine x_ ?_
   refine m_ ?_
   refine f_ z_1 ?_
   refine r_ (by exact s_load_blk rfl z_2 a18_0) ?_
   refine gl_callp rfl (In_ct cl.1 p1.id ca cc (by omega)) (fun h hh hb => hrx h (hr.le hh) (sat_tail (sat_tail hb))) rfl ?_; rw [hid.1, ← hq4]
   refine f_ (s_not rfl) ?_
   refine m_ ?_
   (refine v_ ?_; refine m_ ?_)
   (refine v_ ?_; refine f_ z_1 ?_)
   (refine v_ ?_; refine r_ (by exact s_load_blk rfl z_2 a18_10) ?_)
   (refine v_ ?_; refine f_ ((s_leq rfl rfl).eb hq5) ?_)
   refine f_ z_13 ?_
   repeat refine x_ ?_
   refine r_ ((s_load_blkW rfl z_2 z_7).eq (v' := rsV p1 a) rfl) ?_
   refine f_ z_1 ?_
   refine r_ (by exact s_load_blk rfl z_2 a18_1) ?_
   refine gl_callp rfl (rFollow_ct p1 a p1.term 0) (fun _ _ _ => trivial) rfl ?_
   (refine gl_store_blkW rfl rfl z_5 z_7 z_7 z_3 ?_)
   repeat refine n_ ?_
   refine g_ret ?_
   exact at_endB rfl rfl z_2 rfl [] ⟨folA a, rfl, hcap1, fun h hp _ => fol_rd (hrd1 h hp) _ _⟩ (fun w hw => hw.dropAll)
end Go.Proofs.YtodcghipfolejaaGreat.Rf
namespace Go.Proofs.YtodcghipfolejaaGreat.Rf
open Go Go.Sl
def PrsP (l : List Pr) (v : Value) (A : List As) : Prop := ∃ a c Z, v = .slice a l.length c ∧ A = OwnP a l c :: Z
theorem rdI_at {h : Heap} {a : Option Addr} {l : List Int} {q i : Nat} (r : RdS h a (intsV l)) (e : q = i) (hi : i < l.length) : PeekC h (addO a q) [.int .i64 (l.getD i 0)] :=
 r.peek q (by simp) (fun k u hu => by
  match k, hu with
  | 0, hu =>
   simp at hu; subst hu; subst e
   rw [Nat.add_zero, intsV, List.getElem?_map, List.getElem?_eq_getElem hi]; rfl)
theorem rdI_some {h : Heap} {a : Option Addr} {l : List Int} {i : Nat} (r : RdS h a (intsV l)) (hi : i < l.length) : ∃ ad, a = some ad := by
 obtain ⟨ad, e, _⟩ := r (by intro e; rw [intsV, List.map_eq_nil_iff] at e; rw [e] at hi; cases hi)
 exact ⟨ad, e⟩
set_option maxRecDepth 16000 in
set_option maxHeartbeats 8000000 in
theorem rPeers_ct (p : RP) (a : RA) (hf : PFit p) (hc : p.l.length ≤ a.lc) : Ct Tryz.prog 82 [rsV p a] (fun h => RRd h p a) [] (PrsP (peersL p)) := by
 have hpl := hf.peers
 have hcn : (confL p).length ≤ 1000000 := hf.cn (lastI p.g)
 have hg := hf.fit a hc
 have hla := hf.last
 refine ct_enter 60 Tryz.func82 rfl rfl rfl ?_
 intro F hr
 repeat refine x_ ?_
 refine gl_boxA rfl rfl ?_; intro g1
 refine a_ ?_
 repeat refine x_ ?_
 refine a_ ?_
 repeat refine x_ ?_
 refine r_ ((s_load_blkN rfl .del z_7).eq (v' := rsV p a) rfl) ?_
 refine gl_call _ rfl (rMembers_ct p a hf hc) i_ (fun h hh _ => hr.le hh) rfl ?_; rintro v A ⟨ca, cc, rfl, hA⟩; refine gl_rot ?_
 refine a_ ?_
 repeat refine n_ ?_
 obtain ⟨cl, hcl⟩ : ∃ l, l = confL p := ⟨_, rfl⟩
 rw [← hcl] at hcn hA
 rw [← hcl]
 repeat refine x_ ?_
 refine a_ ?_
 repeat refine n_ ?_
 refine g_own_nil 100 4 ?_
 refine g_loop (ι := Nat × Option Addr × Nat × List As) (fun i => i.1 ≤ cl.length ∧ (∀ h, (∃ bs, Sat h i.2.2.2 bs) → ∃ bs, Sat h A bs)) (fun i => [(1, Ptr g1), (3, .slice i.2.1 (outK p i.1).length i.2.2.1), (4, .slice ca cl.length cc), (5, .int .i64 (i.1 : Nat))]) (fun i => OwnP i.2.1 (outK p i.1) i.2.2.1 :: rsO g1 p a :: i.2.2.2) (fun i => cl.length - i.1) (0, none, 0, A) ⟨Nat.zero_le _, fun _ h => h⟩ ?_ ?_ ?_
 ·(repeat (first | exact Sub.nil _ | refine Sub.cons rfl ?_))
 ·intro w hw; rw [List.append_nil] at hw; exact hw
 rintro ⟨k, b, c, Z⟩ ⟨hk, hZ⟩
 simp only at hk hZ
 have hol := outK_len p k
 rw [← hcl] at hol
 have hol2 : (outK p ((k, b, c, Z) : Nat × Option Addr × Nat × List As).1).length ≤ cl.length := hol
 repeat refine x_ ?_
 refine m_ ?_
 refine m_ ?_
 refine f_ (s_len_sl rfl) ?_
 refine f_ (s_lss rfl rfl) ?_
 repeat refine n_ ?_
 refine g_cond rfl (fun h => ?_) (fun h => ?_)
 rotate_left
 ·have hkl : k = cl.length := by simp at h; omega
  subst hkl
  have e : outK p cl.length = peersL p := by rw [hcl, outK_all]
  simp only [e]
  repeat refine x_ ?_
  refine m_ ?_
  refine a_ ?_
  repeat refine n_ ?_
  refine g_ret ?_
  exact at_end1 rfl rfl (OwnP b (peersL p) c :: rsO g1 p a :: Z) ⟨b, c, _, rfl, rfl⟩ i_
 have hkl : k < cl.length := by simp at h; omega
 have hkk : ((k, b, c, Z) : Nat × Option Addr × Nat × List As).1 < cl.length := hkl
 have hsu := outK_succ (p := p) (k := k) (by rw [← hcl]; exact hkl)
 rw [← hcl] at hsu
 obtain ⟨n, hne⟩ : ∃ n, n = cl.getD k 0 := ⟨_, rfl⟩
 rw [← hne] at hsu
 obtain ⟨q, hq⟩ : ∃ q, q = decide (n = p.id) := ⟨_, rfl⟩
 have hcr : ∀ h, Heap.le F.heap h → (∃ bs, Sat h Z bs) → RdS h ca (intsV cl) := fun h hh hb => hA h (hr.le hh) (hZ h hb)
 refine g_some (Q := ∃ ad, ca = some ad) (fun w hw => rdI_some (hcr _ hw.keep (sat_tail (sat_tail (hp_sat hw)))) hkl) (fun hsome => ?_)
 repeat refine y_ ?_
 refine g_draw ([3, 5], [0, 0, 3, 7, 0, 16, 63], []) (rsO g1 p a :: Z) 7 rfl ?_
 refine w_ 0 rfl (s_move rfl) ?_
 refine w_ 1 rfl (s_move rfl) ?_
 refine w_ 2 rfl (s_indexAddr rfl (by assumption) rfl (by omega)) ?_
 refine ga_readZ 3 rfl (fun H' hz => s_load1 (v := .int .i64 n) rfl (fun w hw => by rw [hne]; exact rdI_at (hcr _ hw.keep (sat_tail (hz w hw))) (by simp only; omega) hkl)) (by (repeat first | exact sub_nil | refine sub_cons z_16 ?_ | exact fun _ h => h | refine sub_skip ?_)) rfl rfl rfl z_4 ?_
 refine w_ 4 rfl z_1 ?_
 (refine ga_read_k 5 rfl z_11 (s_load_blk rfl .del a18_0) (by (repeat first | exact sub_nil | refine sub_cons z_16 ?_ | exact fun _ h => h | refine sub_skip ?_)) rfl rfl rfl z_4 ?_)
 refine w_ 6 rfl ((s_eql rfl rfl).eb hq) ?_
 refine ga_done z_4 ?_
 repeat refine y_ ?_
 cases q
 rotate_left
 ·rw [if_pos (of_decide_eq_true hq.symm), List.append_nil] at hsu
  repeat refine x_ ?_
  refine m_ ?_
  refine f_ (s_add_i64 rfl rfl (by omega)) ?_
  refine a_ ?_
  repeat refine n_ ?_
  refine at_next (k + 1, b, c, Z) ⟨by simp only; omega, hZ⟩ (by simp only; omega) ?_ ?_
  ·simp only [hsu]; (repeat (first | exact Sub.nil _ | refine Sub.cons rfl ?_))
  ·intro w hw; simp only [hsu]; exact hw
 rw [if_neg (of_decide_eq_false hq.symm)] at hsu
 repeat refine y_ ?_
 refine g_cutE (ι := Nat) (fun g6 => [(1, Ptr g1), (3, .slice b (outK p k).length c), (4, .slice ca cl.length cc), (5, .int .i64 (k : Nat)), (6, Ptr g6)]) (fun g6 => .blk g6 (.cells #[.int .i64 n, .int .u64 (lastI p.g + 1), .int .u64 0, .int .i64 0] 100) :: OwnP b (outK p k) c :: rsO g1 p a :: Z) ?_ (fun g6 => ?_)
 ·repeat refine y_ ?_
  refine g_draw ([3, 5], [0, 0, 3, 7, 0, 16, 48, 112, 255, 0, 1023], [6, 9, 10]) (rsO g1 p a :: Z) 11 rfl ?_
  refine w_ 0 rfl (s_move rfl) ?_
  refine w_ 1 rfl (s_move rfl) ?_
  refine w_ 2 rfl (s_indexAddr rfl (by assumption) rfl (by omega)) ?_
  refine ga_readZ 3 rfl (fun H' hz => s_load1 (v := .int .i64 n) rfl (fun w hw => by rw [hne]; exact rdI_at (hcr _ hw.keep (sat_tail (hz w hw))) (by simp only; omega) hkl)) (by (repeat first | exact sub_nil | refine sub_cons z_16 ?_ | exact fun _ h => h | refine sub_skip ?_)) rfl rfl rfl z_4 ?_
  refine w_ 4 rfl z_1 ?_
  refine ga_read_k 5 rfl z_11 ((s_load_blkN rfl .del z_7).eq (v' := (p.lm a).v) rfl) (by (repeat first | exact sub_nil | refine sub_cons z_16 ?_ | exact fun _ h => h | refine sub_skip ?_)) rfl rfl rfl z_4 ?_
  refine ga_two 6 9 rfl rfl z_4 ?_ ?_
  refine gl_callp rfl (rLast_ct (p.lm a) hg) (fun _ _ _ => trivial) rfl ?_; rw [show lastI (p.lm a) = lastI p.g from rfl]
  refine gl_nil ?_
  refine at_ga (.inr (by exact keeps_of (by (repeat first | exact sub_nil | refine sub_cons z_16 ?_ | exact fun _ h => h | refine sub_skip ?_)))) ?_
  refine w_ 7 rfl ((s_add_u64 rfl rfl (by omega)).eq (v' := .int .u64 (lastI p.g + 1)) rfl) ?_
  refine w_ 8 rfl (s_build rfl (run_build_struct (places := [(0, 1), (1, 1), (2, 1), (3, 1)]) rfl (by intro f hf; simp at hf; rcases hf with rfl | rfl | rfl | rfl <;> rfl) rfl)) ?_
  refine ga_one 9 rfl z_4 ?_
  refine gl_allocA rfl ?_; intro g6
  refine gl_nil ?_
  refine at_ga (.inr (by exact keeps_of (by (repeat first | exact sub_nil | refine sub_cons z_16 ?_ | exact fun _ h => h | refine sub_skip ?_)))) ?_
  refine ga_one 10 rfl z_4 ?_
  (refine gl_store_blkW rfl rfl z_5 z_7 z_7 z_3 ?_)
  refine gl_nil ?_
  refine at_ga (.inl z_4) ?_
  refine ga_done z_4 ?_
  rotate_left 1
  refine gl_allocA rfl ?_; intro g6
  refine gl_nil ?_
  refine at_ga (.inr (by exact keeps_of (by (repeat first | exact sub_nil | refine sub_cons z_16 ?_ | exact fun _ h => h | refine sub_skip ?_)))) ?_
  refine ga_one 6 rfl z_4 ?_
  refine gl_callp rfl (rLast_ct (p.lm a) hg) (fun _ _ _ => trivial) rfl ?_; rw [show lastI (p.lm a) = lastI p.g from rfl]
  refine gl_nil ?_
  refine at_ga (.inr (by exact keeps_of (by (repeat first | exact sub_nil | refine sub_cons z_16 ?_ | exact fun _ h => h | refine sub_skip ?_)))) ?_
  refine w_ 7 rfl ((s_add_u64 rfl rfl (by omega)).eq (v' := .int .u64 (lastI p.g + 1)) rfl) ?_
  refine w_ 8 rfl (s_build rfl (run_build_struct (places := [(0, 1), (1, 1), (2, 1), (3, 1)]) rfl (by intro f hf; simp at hf; rcases hf with rfl | rfl | rfl | rfl <;> rfl) rfl)) ?_
  refine ga_one 10 rfl z_4 ?_
  (refine gl_store_blkW rfl rfl z_5 z_7 z_7 z_3 ?_)
  refine gl_nil ?_
  refine at_ga (.inl z_4) ?_
  refine ga_done z_4 ?_
  rotate_left 1
  all_goals (repeat refine y_ ?_)
  all_goals exact at_cutE g6 j_ i_
 repeat refine x_ ?_
 refine a_ ?_
 repeat refine n_ ?_
 refine g_loop (ι := Nat) (fun j => j ≤ p.peers.length) (fun j => [(1, Ptr g1), (3, .slice b (outK p k).length c), (4, .slice ca cl.length cc), (5, .int .i64 (k : Nat)), (6, Ptr g6), (7, .int .i64 (j : Nat))]) (fun j => .blk g6 (.cells #[.int .i64 (bstK p n j).node, .int .u64 (bstK p n j).next, .int .u64 (bstK p n j).mtc, .int .i64 (bstK p n j).off] 100) :: OwnP b (outK p k) c :: rsO g1 p a :: Z) (fun j => p.peers.length - j) 0 (Nat.zero_le _) ?_ ?_ ?_
 ·(repeat (first | exact Sub.nil _ | refine Sub.cons rfl ?_))
 ·intro w hw; exact hw
 rintro j hj
 repeat refine x_ ?_
 refine m_ ?_
 refine f_ z_1 ?_
 refine r_ (by exact s_load_blk rfl z_2 a18_14) ?_
 refine f_ (s_len_sl rfl) ?_
 refine f_ (s_lss rfl rfl) ?_
 repeat refine n_ ?_
 refine g_cond rfl (fun h => ?_) (fun h => ?_)
 ·have hjl : j < p.peers.length := by simp at h; omega
  have hsomep := rdPr_some hr.rp hjl
  have hbs := bstK_succ (p := p) (n := n) hjl
  obtain ⟨u, hue⟩ : ∃ u, u = p.peers.getD j P0 := ⟨_, rfl⟩
  rw [← hue] at hbs
  obtain ⟨q2, hq2⟩ : ∃ q, q = decide (u.node = n) := ⟨_, rfl⟩
  repeat refine y_ ?_
  refine g_draw ([1, 5, 9], [0, 1, 0, 7, 15, 31, 0, 0, 192, 448, 1023], []) (rsO g1 p a :: Z) 11 rfl ?_
  refine w_ 0 rfl z_1 ?_
  (refine ga_read_k 1 rfl z_11 (s_load_blk rfl .del a18_14) (by (repeat first | exact sub_nil | refine sub_cons z_16 ?_ | exact fun _ h => h | refine sub_skip ?_)) rfl rfl rfl z_4 ?_)
  refine w_ 2 rfl (s_move rfl) ?_
  refine w_ 3 rfl (s_indexAddr rfl (by assumption) rfl (by omega)) ?_
  refine w_ 4 rfl z_8 ?_
  refine ga_readF 5 rfl ((s_load1 (v := .int .i64 u.node) rfl (fun w hw => by rw [hue]; exact rdP0 (hr.rp.le hw.keep) (i := j) (by omega) hjl))) (by (repeat first | exact sub_nil | refine sub_cons z_16 ?_ | exact fun _ h => h | refine sub_skip ?_)) rfl rfl rfl z_4 ?_
  refine w_ 6 rfl (s_move rfl) ?_
  refine w_ 7 rfl (s_move rfl) ?_
  refine w_ 8 rfl (s_indexAddr rfl (by assumption) rfl (by omega)) ?_
  refine ga_readZ 9 rfl (fun H' hz => s_load1 (v := .int .i64 n) rfl (fun w hw => by rw [hne]; exact rdI_at (hcr _ hw.keep (sat_tail (hz w hw))) (by omega) hkl)) (by (repeat first | exact sub_nil | refine sub_cons z_16 ?_ | exact fun _ h => h | refine sub_skip ?_)) rfl rfl rfl z_4 ?_
  refine w_ 10 rfl ((s_eql rfl rfl).eb hq2) ?_
  refine ga_done z_4 ?_
  repeat refine y_ ?_
  cases q2
  ·rw [if_neg (of_decide_eq_false hq2.symm)] at hbs
   repeat refine x_ ?_
   refine m_ ?_
   refine f_ (s_add_i64 rfl rfl (by omega)) ?_
   refine a_ ?_
   repeat refine n_ ?_
   refine at_next (j + 1) (by omega) (by omega) ?_ ?_
   ·(repeat (first | exact Sub.nil _ | refine Sub.cons rfl ?_))
   ·intro w hw; rw [hbs]; exact hw
  ·rw [if_pos (of_decide_eq_true hq2.symm)] at hbs
   repeat refine x_ ?_
   refine f_ z_1 ?_
   refine r_ (by exact s_load_blk rfl z_2 a18_14) ?_
   refine m_ ?_
   refine f_ (s_indexAddr rfl (by assumption) rfl (by omega)) ?_
   refine r_ (s_loadN (cs := prC u) rfl (fun w hw => by rw [hue]; exact rdPr (hr.rp.le hw.keep) (i := j) (by omega) hjl) rfl) ?_
   (refine gl_store_blkW rfl rfl z_5 z_7 z_7 z_3 ?_)
   repeat refine x_ ?_
   refine m_ ?_
   refine f_ (s_add_i64 rfl rfl (by omega)) ?_
   refine a_ ?_
   repeat refine n_ ?_
   refine at_next (j + 1) (by omega) (by omega) ?_ ?_
   ·(repeat (first | exact Sub.nil _ | refine Sub.cons rfl ?_))
   ·intro w hw; rw [hbs]; exact hw
 have hjl : j = p.peers.length := by simp at h; omega
 subst hjl
 rw [bstK_all]
 obtain ⟨r, hr2⟩ : ∃ r, r = peerOf p n := ⟨_, rfl⟩
 rw [← hr2] at hsu
 rw [← hr2]
 repeat refine x_ ?_
 refine m_ ?_
 refine r_ z_14 ?_
 refine gl_buildSliceU rfl rfl rfl rfl rfl rfl (xs := prC r) rfl rfl ?_; intro a57 ha57
 refine gl_append (sz := 4) rfl rfl (fun a' c' => z_5) (fun w hw => (hw.ownN z_2).2.2.1) rfl rfl rfl (prC_one r) (by show (_ + 1) * 32 ≤ _; omega) (by omega) rfl ?_; intro a58 c58 hc58
 refine a_ ?_
 repeat refine x_ ?_
 refine m_ ?_
 refine f_ (s_add_i64 rfl rfl (by omega)) ?_
 refine a_ ?_
 repeat refine n_ ?_
 refine at_next (k + 1, a58, c58, .own (.slice a57 1 1) 100 4 (prC r) :: .blk g6 (.cells #[.int .i64 r.node, .int .u64 r.next, .int .u64 r.mtc, .int .i64 r.off] 100) :: Z) ⟨by simp only; omega, fun h hb => hZ h (sat_tail (sat_tail hb))⟩ (by simp only; omega) ?_ ?_
 ·simp only [hsu, List.length_append, List.length_singleton]; (repeat (first | exact Sub.nil _ | refine Sub.cons rfl ?_))
 ·intro w hw
  simp only [hsu]
  rw [← own_snocP rfl]
  exact hw.perm (perm_up z_2 (perm_up z_2 (perm_up z_2 (perm_up z_2 (.refl _)))))
set_option maxRecDepth 16000 in
set_option maxHeartbeats 8000000 in
theorem rLead_ct (s : SD) (hf : PFit s.p) (hc : s.p.l.length ≤ s.a.lc) (hl : s.p.l.length ≤ 99999) (ho : s.outs.length ≤ 1000000) : Ct Tryz.prog 69 [sdV s] (fun h => SdOk h s) [] (SdP (fun h => SdOk h s) (leadP s.p) (s.outs.map MM.p ++ leadM s.p) s.er) := by
 obtain ⟨p, a, outs, oa, oc, er⟩ := s
 simp only at hf hc hl ho
 have hf1 := pf_lead1 hf
 have hf2 := pf_lead2 hf hl
 have hf3 := pf_lead hf hl
 refine ct_enter 27 Tryz.func69 rfl rfl rfl ?_
 intro F hs
 repeat refine x_ ?_
 refine gl_boxA rfl rfl ?_; intro g1
 refine gl_allocA rfl ?_; intro g2
 repeat refine x_ ?_
 refine f_ z_1 ?_
 refine r_ ((s_load_blkN rfl z_2 z_7).eq (v' := rsV p a) rfl) ?_
 refine gl_allocA rfl ?_; intro g3
 (refine gl_store_blkW rfl rfl z_5 z_7 z_7 z_3 ?_)
 repeat refine x_ ?_
 refine f_ z_1 ?_
 (refine gl_store_blkC (pre := [_, _, _]) (post := [_, _, _, _, _, _, _, _, _, _, _, _, _, _]) rfl rfl z_5 z_7 z_7 z_7 ?_)
 repeat refine x_ ?_
 refine f_ z_1 ?_
 refine r_ (by exact s_load_blk rfl z_2 a18_0) ?_
 refine f_ z_1 ?_
 (refine gl_store_blkC (pre := [_, _, _, _]) (post := [_, _, _, _, _, _, _, _, _, _, _, _, _]) rfl rfl z_5 z_7 z_7 z_7 ?_)
 repeat refine x_ ?_
 refine f_ z_1 ?_
 (refine gl_store_blkC (pre := [_, _, _, _, _, _, _, _, _, _, _, _, _]) (post := [_, _, _, _]) rfl rfl z_5 z_7 z_7 z_7 ?_)
 repeat refine x_ ?_
 refine f_ z_1 ?_
 (refine gl_store_blkC (pre := [_, _, _, _, _, _, _, _, _, _, _, _, _, _]) (post := [_, _, _]) rfl rfl z_5 z_7 z_7 z_7 ?_)
 repeat refine n_ ?_
 refine g_pull (H' := [rsO g3 (lead1 p) { a with va := none, vc := 0, pa := none, pc := 0 }, sdO g1 ⟨p, a, outs, oa, oc, er⟩, sdZ g2]) (fun w hw => hw.perm (perm_up z_2 (perm_up z_2 (perm_up z_2 (.refl _))))) ?_
 have hr1 : ∀ h, Heap.le F.heap h → RRd h (lead1 p) { a with va := none, vc := 0, pa := none, pc := 0 } := fun h hh => ⟨(hs.le hh).r.rc, (hs.le hh).r.rl, RdS.nil _ _, RdS.nil _ _⟩
 repeat refine x_ ?_
 refine r_ ((s_load_blkW rfl z_2 z_7).eq (v' := rsV (lead1 p) { a with va := none, vc := 0, pa := none, pc := 0 }) rfl) ?_
 refine gl_call _ rfl (rPeers_ct (lead1 p) { a with va := none, vc := 0, pa := none, pc := 0 } hf1 hc) i_ (fun h hh _ => hr1 h hh) rfl ?_; rintro v A ⟨pa, pc, Z, rfl, rfl⟩; refine gl_rot3 ?_
 refine f_ z_1 ?_
 (refine gl_store_blkC (pre := [_, _, _, _, _, _, _, _, _, _, _, _, _, _]) (post := [_, _, _]) rfl rfl z_5 z_7 z_7 z_7 ?_)
 repeat refine n_ ?_
 refine g_pull (H' := rsO g3 { lead1 p with peers := peersL (lead1 p) } { a with va := none, vc := 0, pa := pa, pc := pc } :: sdO g1 ⟨p, a, outs, oa, oc, er⟩ :: sdZ g2 :: OwnP pa (peersL (lead1 p)) pc :: Z) (fun w hw => by rw [List.append_nil] at hw; exact hw) ?_
 repeat refine x_ ?_
 refine f_ z_1 ?_
 refine r_ ((s_load_blkN rfl z_2 z_7).eq (v' := (p.lm a).v) rfl) ?_
 refine f_ z_1 ?_
 refine r_ (by exact s_load_blk rfl z_2 a18_1) ?_
 refine f_ ((s_bld (cells := #[.int .u64 p.term, .int .i64 1, B []]) rfl z_4).eq (v' := entV (p.term, 1, [])) rfl) ?_
 refine gl_call _ rfl (rWith_ct (p.lm a) (p.term, 1, []) (hf.fit a hc)) i_ (fun h hh _ => (hs.le hh).r.rl) rfl ?_; rintro v A ⟨la, lc, rfl, hlc, hA⟩; refine gl_rot3 ?_
 refine f_ z_1 ?_
 (refine gl_store_blk rfl rfl z_5 z_7 z_3 z_7 ?_)
 repeat refine n_ ?_
 refine g_pull (H' := rsO g3 (lead2 p) { a with va := none, vc := 0, pa := pa, pc := pc, la := la, lc := lc } :: sdO g1 ⟨p, a, outs, oa, oc, er⟩ :: sdZ g2 :: (A ++ (OwnP pa (peersL (lead1 p)) pc :: Z))) i_ ?_
 obtain ⟨a2, ha2⟩ : ∃ a2 : RA, a2 = { a with va := none, vc := 0, pa := pa, pc := pc, la := la, lc := lc } := ⟨_, rfl⟩
 have hr2 : ∀ h, Heap.le F.heap h → (∃ bs, Sat h (A ++ (OwnP pa (peersL (lead1 p)) pc :: Z)) bs) → RRd h (lead2 p) a2 := fun h hh hb => by
  obtain ⟨s1, bs, s2⟩ := Sat.two2 hb
  rw [ha2]
  exact ⟨(hs.le hh).r.rc, hA h s1, RdS.nil _ _, Sat.rd (a := pa) s2 .del⟩
 have hc2 : (lead2 p).l.length ≤ a2.lc := by rw [ha2]; exact hlc
 rw [← ha2]
 repeat refine x_ ?_
 refine r_ ((s_load_blkW rfl z_2 z_7).eq (v' := rsV (lead2 p) a2) rfl) ?_
 refine gl_call _ rfl (rCommit17_ct (lead2 p) a2 hf2 hc2) i_ (fun h hh hb => hr2 h hh (sat_tail (sat_tail (sat_tail hb)))) rfl ?_; rintro v A3 ⟨a3, rfl, hc3, hA3⟩; refine gl_rot3 ?_
 refine f_ z_1 ?_
 (refine gl_store_blk rfl rfl z_5 z_7 z_3 z_7 ?_)
 repeat refine n_ ?_
 refine g_pull (H' := sdO g1 ⟨leadP p, a3, outs, oa, oc, er⟩ :: sdZ g2 :: (A3 ++ (A ++ (OwnP pa (peersL (lead1 p)) pc :: Z)))) (fun w hw => hw.drop) ?_
 repeat refine x_ ?_
 refine r_ ((s_load_blkW rfl z_2 z_7).eq (v' := sdV ⟨leadP p, a3, outs, oa, oc, er⟩) rfl) ?_
 refine gl_call _ rfl (rAll_ct ⟨leadP p, a3, outs, oa, oc, er⟩ hf3 hc3 ho) i_ (fun h hh hb => ⟨hA3 h (hr2 h hh (Sat.two2 (sat_tail (sat_tail hb))).2) (Sat.two2 (sat_tail (sat_tail hb))).1, (hs.le hh).o, (hs.le hh).m⟩) rfl ?_; rintro v A4 ⟨s4, rfl, e1, e2, e3, e4, e5⟩; refine gl_rot2 ?_
 (refine gl_store_blkW rfl rfl z_5 z_7 z_7 z_3 ?_)
 repeat refine n_ ?_
 refine g_ret ?_
 refine at_endB rfl rfl z_2 rfl (A4 ++ (A3 ++ (A ++ (OwnP pa (peersL (lead1 p)) pc :: Z)))) ⟨s4, rfl, e1, e2, e3, e4, fun h hp hb => ?_⟩ (fun w hw => hw.drop.drop)
 obtain ⟨s1, s2⟩ := Sat.two2 hb
 obtain ⟨s3, s5⟩ := Sat.two2 s2
 obtain ⟨s6, bs, s7⟩ := Sat.two2 s5
 refine e5 h ⟨hA3 h ?_ s3, hp.o, hp.m⟩ s1
 rw [ha2]
 exact ⟨hp.r.rc, hA h s6, RdS.nil _ _, Sat.rd (a := pa) s7 .del⟩
end Go.Proofs.YtodcghipfolejaaGreat.Rf
namespace Go.Proofs.YtodcghipfolejaaGreat.Rf
open Go Go.Sl
abbrev sd1 (p : RP) (a : RA) (er : Int) : SD := ⟨p, a, [], none, 0, er⟩
theorem sd1_ok {h : Heap} {p : RP} {a : RA} (r : RRd h p a) (er : Int) : SdOk h (sd1 p a er) := ⟨r, RdS.nil _ _, fun m hm => by cases hm⟩
theorem SdP.le {Pre Pre' : Heap → Prop} {p : RP} {ms : List MP} {er : Int} {v : Value} {A : List As} (T : List As) (h : SdP Pre p ms er v A) (k : ∀ h, Pre' h → (∃ bs, Sat h T bs) → Pre h) : SdP Pre' p ms er v (A ++ T) :=
 SdP.mono h (fun h hp hs => ⟨k h hp (Sat.two2 hs).2, (Sat.two2 hs).1⟩)
structure VoI (p2 : RP) (k : Nat) (Pre : Heap → Prop) (s' : SD) (Z : List As) : Prop where
 le : k ≤ (confL p2).length
 p : s'.p = stand1 p2
 outs : s'.outs.map MM.p = voteK p2 k
 er : s'.er = 0
 cap : s'.p.l.length ≤ s'.a.lc
 len : s'.outs.length ≤ k
 ok : ∀ h, Pre h → (∃ bs, Sat h Z bs) → SdOk h s'
set_option maxRecDepth 16000 in
set_option maxHeartbeats 8000000 in
theorem rTick_ct (p : RP) (a : RA) (hf : PFit p) (ht : p.ticks < 4611686018427387904) (hc : p.l.length ≤ a.lc) (hl : p.l.length ≤ 99999) : Ct Tryz.prog 39 [rsV p a] (fun h => RRd h p a) [] (SdP (fun h => RRd h p a) (tickP p) (tickM p) 0) := by
 have h0 := hf.ticks
 have hf1 := pf_tick1 hf ht
 have hc1 : (tick1 p).l.length ≤ a.lc := hc
 have hr1 : ∀ h, RRd h p a → RRd h (tick1 p) a := fun h r => ⟨r.rc, r.rl, r.rv, r.rp⟩
 refine ct_enter 89 Tryz.func39 rfl rfl rfl ?_
 intro F hr
 obtain ⟨q, hq⟩ : ∃ q, q = decide (p.role = 2) := ⟨_, rfl⟩
 repeat refine x_ ?_
 refine gl_boxA rfl rfl ?_; intro g1
 refine gl_allocA rfl ?_; intro g2
 repeat refine n_ ?_
 refine g_pull (H' := [rsO g1 p a, sdZ g2]) (fun w hw => hw.perm (perm_up z_2 (perm_up z_2 (.refl _)))) ?_
 repeat refine x_ ?_
 refine f_ z_1 ?_
 refine r_ (by exact s_load_blk rfl z_2 a18_3) ?_
 refine f_ ((s_eql rfl rfl).eb hq) ?_
 repeat refine n_ ?_
 cases q
 rotate_left
 ·have hrl := of_decide_eq_true hq.symm
  have e1 : tickP p = p := if_pos hrl
  have e2 : tickM p = allP p := if_pos hrl
  rw [e1, e2]
  repeat refine x_ ?_
  refine r_ ((s_load_blkW rfl z_2 z_7).eq (v' := rsV p a) rfl) ?_
  refine f_ ((s_bld (cells := (sdC (sd1 p a 0)).toArray) rfl z_4).eq (v' := sdV (sd1 p a 0)) rfl) ?_
  refine gl_call _ rfl (rAll_ct (sd1 p a 0) hf hc (Nat.zero_le _)) i_ (fun h hh _ => sd1_ok (hr.le hh) 0) rfl ?_; rintro v A hA; obtain ⟨s2, rfl, hA2⟩ := hA; refine gl_rot2 ?_
  (refine gl_store_blkW rfl rfl z_5 z_7 z_7 z_3 ?_)
  repeat refine n_ ?_
  refine g_ret ?_
  exact at_endB rfl rfl z_2 rfl (A ++ []) (SdP.le [] (A := A) ⟨s2, rfl, hA2⟩ (fun h hp _ => sd1_ok hp 0)) (fun w hw => hw.drop.drop)
 have hrl := of_decide_eq_false hq.symm
 repeat refine x_ ?_
 refine f_ z_1 ?_
 refine r_ (by exact s_load_blk rfl z_2 a18_11) ?_
 refine f_ ((s_add_i64 rfl rfl (by show -9223372036854775808 ≤ p.ticks + 1 ∧ p.ticks + 1 ≤ 9223372036854775807; omega)).eq (v' := .int .i64 (p.ticks + 1)) rfl) ?_
 refine f_ z_1 ?_
 (refine gl_store_blkC (pre := [_, _, _, _, _, _, _, _, _, _, _]) (post := [_, _, _, _, _, _]) rfl rfl z_5 z_7 z_7 z_7 ?_)
 repeat refine n_ ?_
 refine g_pull (H' := [rsO g1 (tick1 p) a, sdZ g2]) i_ ?_
 obtain ⟨q1, hq1⟩ : ∃ q, q = decide (p.ticks + 1 < p.tout) := ⟨_, rfl⟩
 obtain ⟨q2, hq2⟩ : ∃ q, q = decide (4611686018427387904 ≤ p.term) := ⟨_, rfl⟩
 obtain ⟨q3, hq3⟩ : ∃ q, q = mayP (tick1 p) := ⟨_, rfl⟩
 have hst : stands (tick1 p) = (!q1 && (!q2 && q3)) := by
  unfold stands
  rw [hq1, hq2, hq3, ← decide_not, ← decide_not]
  congr 1
  ·exact decide_eq_decide.2 (by show p.tout ≤ p.ticks + 1 ↔ _; omega)
  ·congr 1
   exact decide_eq_decide.2 (by show p.term < _ ↔ _; omega)
 rcases (show (q1 = false ∧ q2 = false ∧ q3 = true) ∨ q1 = true ∨ (q1 = false ∧ q2 = true) ∨ (q1 = false ∧ q2 = false ∧ q3 = false) by cases q1 <;> cases q2 <;> cases q3 <;> simp) with ⟨rfl, rfl, rfl⟩ | rfl | ⟨rfl, rfl⟩ | ⟨rfl, rfl, rfl⟩
 rotate_left
 all_goals try
  have e1 : tickP p = tick1 p := by rw [tickP, if_neg hrl, hst, if_neg (by simp)]
  have e2 : tickM p = [] := by rw [tickM, if_neg hrl, hst, if_neg (by simp)]
  rw [e1, e2]
  repeat refine x_ ?_
  refine f_ z_1 ?_
  refine r_ (by exact s_load_blk rfl z_2 a18_11) ?_
  refine f_ z_1 ?_
  refine r_ (by exact s_load_blk rfl z_2 a18_12) ?_
  refine f_ ((s_lss rfl rfl).eb hq1) ?_
  refine m_ ?_
  (first | refine gl_guard_no rfl rfl rfl rfl rfl rfl rfl ?_ | (refine v_ ?_; refine f_ z_1 ?_))
  (first | refine gl_guard_no rfl rfl rfl rfl rfl rfl rfl ?_ | (refine v_ ?_; refine r_ (by exact s_load_blk rfl z_2 a18_1) ?_))
  (first | refine gl_guard_no rfl rfl rfl rfl rfl rfl rfl ?_ | (refine v_ ?_; refine f_ ((s_geq rfl rfl).eb hq2) ?_))
  refine f_ z_6 ?_
  refine m_ ?_
  (first | refine gl_guard_no rfl rfl rfl rfl rfl rfl rfl ?_ | (refine v_ ?_; refine r_ ((s_load_blkW rfl z_2 z_7).eq (v' := rsV (tick1 p) a) rfl) ?_))
  (first | refine gl_guard_no rfl rfl rfl rfl rfl rfl rfl ?_ | (refine v_ ?_; refine gl_callp rfl (rStands_ct (tick1 p) a hf1 hc1) (fun h hh _ => hr1 h (hr.le hh)) rfl ?_; rw [← hq3]))
  (first | refine gl_guard_no rfl rfl rfl rfl rfl rfl rfl ?_ | (refine v_ ?_; refine f_ (s_not rfl) ?_))
  refine f_ z_6 ?_
  repeat refine x_ ?_
  refine r_ ((s_load_blkW rfl z_2 z_7).eq (v' := rsV (tick1 p) a) rfl) ?_
  refine f_ ((s_bld (cells := (sdC (sd1 (tick1 p) a 0)).toArray) rfl z_4).eq (v' := sdV (sd1 (tick1 p) a 0)) rfl) ?_
  (refine gl_store_blkW rfl rfl z_5 z_7 z_7 z_3 ?_)
  repeat refine n_ ?_
  refine g_ret ?_
  exact at_endB rfl rfl z_2 rfl [] ⟨sd1 (tick1 p) a 0, rfl, rfl, rfl, rfl, hc1, fun h hp _ => sd1_ok (hr1 h hp) 0⟩ (fun w hw => hw.dropAll)
 have e1 : tickP p = standP (tick1 p) := by rw [tickP, if_neg hrl, hst, if_pos (by decide)]
 have e2 : tickM p = standM (tick1 p) := by rw [tickM, if_neg hrl, hst, if_pos (by decide)]
 rw [e1, e2]
 have hterm : (tick1 p).term < 4611686018427387904 := by have := of_decide_eq_false hq2.symm; show p.term < _; omega
 repeat refine x_ ?_
 refine f_ z_1 ?_
 refine r_ (by exact s_load_blk rfl z_2 a18_11) ?_
 refine f_ z_1 ?_
 refine r_ (by exact s_load_blk rfl z_2 a18_12) ?_
 refine f_ ((s_lss rfl rfl).eb hq1) ?_
 refine m_ ?_
 (refine v_ ?_; refine f_ z_1 ?_)
 (refine v_ ?_; refine r_ (by exact s_load_blk rfl z_2 a18_1) ?_)
 (refine v_ ?_; refine f_ ((s_geq rfl rfl).eb hq2) ?_)
 refine f_ z_12 ?_
 refine m_ ?_
 (refine v_ ?_; refine r_ ((s_load_blkW rfl z_2 z_7).eq (v' := rsV (tick1 p) a) rfl) ?_)
 (refine v_ ?_; refine gl_callp rfl (rStands_ct (tick1 p) a hf1 hc1) (fun h hh _ => hr1 h (hr.le hh)) rfl ?_; rw [← hq3])
 (refine v_ ?_; refine f_ (s_not rfl) ?_)
 refine f_ z_12 ?_
 repeat refine n_ ?_
 have hr2 : ∀ h, RRd h p a → RRd h (tick1 p) a := hr1
 have hlen : (tick1 p).l.length ≤ 99999 := hl
 obtain ⟨p2, hp2⟩ : ∃ q, q = tick1 p := ⟨_, rfl⟩
 rw [← hp2] at hf1 hc1 hterm hr2 hlen
 rw [← hp2]
 have ht0 := hf1.term
 have hfs := pf_stand1 hf1 hterm
 have hcn : (confL p2).length ≤ 1000000 := hf1.cn (lastI p2.g)
 repeat refine x_ ?_
 refine f_ z_1 ?_
 refine r_ (by exact s_load_blk rfl z_2 a18_1) ?_
 refine f_ ((s_add_u64 rfl rfl (by show 0 ≤ p2.term + 1 ∧ p2.term + 1 ≤ 18446744073709551615; omega)).eq (v' := .int .u64 (p2.term + 1)) rfl) ?_
 refine f_ z_1 ?_
 (refine gl_store_blkC (pre := [_]) (post := [_, _, _, _, _, _, _, _, _, _, _, _, _, _, _, _]) rfl rfl z_5 z_7 z_7 z_7 ?_)
 repeat refine x_ ?_
 refine f_ z_1 ?_
 refine r_ (by exact s_load_blk rfl z_2 a18_0) ?_
 refine f_ z_1 ?_
 (refine gl_store_blkC (pre := [_, _]) (post := [_, _, _, _, _, _, _, _, _, _, _, _, _, _, _]) rfl rfl z_5 z_7 z_7 z_7 ?_)
 repeat refine x_ ?_
 refine f_ z_1 ?_
 (refine gl_store_blkC (pre := [_, _, _]) (post := [_, _, _, _, _, _, _, _, _, _, _, _, _, _]) rfl rfl z_5 z_7 z_7 z_7 ?_)
 repeat refine x_ ?_
 refine f_ z_1 ?_
 (refine gl_store_blkC (pre := [_, _, _, _]) (post := [_, _, _, _, _, _, _, _, _, _, _, _, _]) rfl rfl z_5 z_7 z_7 z_7 ?_)
 repeat refine x_ ?_
 refine f_ z_1 ?_
 refine r_ (by exact s_load_blk rfl z_2 a18_0) ?_
 refine gl_buildSliceU rfl rfl rfl rfl rfl rfl (xs := intsV [p2.id]) rfl rfl ?_; intro va hva
 refine f_ z_1 ?_
 (refine gl_store_blkC (pre := [_, _, _, _, _, _, _, _, _, _, _, _, _]) (post := [_, _, _, _]) rfl rfl z_5 z_7 z_7 z_7 ?_)
 repeat refine x_ ?_
 refine f_ z_1 ?_
 (refine gl_store_blkC (pre := [_, _, _, _, _, _, _, _, _, _, _, _, _, _]) (post := [_, _, _]) rfl rfl z_5 z_7 z_7 z_7 ?_)
 repeat refine x_ ?_
 refine f_ z_1 ?_
 (refine gl_store_blkC (pre := [_, _, _, _, _, _, _, _, _, _, _]) (post := [_, _, _, _, _, _]) rfl rfl z_5 z_7 z_7 z_7 ?_)
 repeat refine n_ ?_
 obtain ⟨a1, ha1⟩ : ∃ a1 : RA, a1 = { a with va := va, vc := 1, pa := none, pc := 0 } := ⟨_, rfl⟩
 have hcs : (stand1 p2).l.length ≤ a1.lc := by rw [ha1]; exact hc1
 have hrs : ∀ h, RRd h p a → (∃ bs, Sat h [OwnC va [p2.id] 1] bs) → RRd h (stand1 p2) a1 := fun h hp ⟨bs, hb⟩ => by
  rw [ha1]
  exact ⟨(hr2 h hp).rc, (hr2 h hp).rl, Sat.rd (a := va) hb .del, RdS.nil _ _⟩
 refine g_pull (H' := [rsO g1 (stand1 p2) a1, sdZ g2, OwnC va [p2.id] 1]) (fun w hw => by rw [ha1]; exact hw.perm (perm_up z_2 (perm_up z_2 (perm_up z_2 (.refl _))))) ?_
 repeat refine x_ ?_
 refine r_ ((s_load_blkW rfl z_2 z_7).eq (v' := rsV (stand1 p2) a1) rfl) ?_
 refine f_ ((s_bld (cells := (sdC (sd1 (stand1 p2) a1 0)).toArray) rfl z_4).eq (v' := sdV (sd1 (stand1 p2) a1 0)) rfl) ?_
 refine gl_allocA rfl ?_; intro g3
 (refine gl_store_blkW rfl rfl z_5 z_7 z_7 z_3 ?_)
 repeat refine x_ ?_
 refine r_ ((s_load_blkW rfl z_2 z_7).eq (v' := rsV (stand1 p2) a1) rfl) ?_
 refine gl_call _ rfl (rMembers_ct (stand1 p2) a1 hfs hcs) i_ (fun h hh hb => hrs h (hr.le hh) (sat_tail (sat_tail (sat_tail hb)))) rfl ?_; rintro v A ⟨ca, cc, rfl, hA⟩; rw [show confL (stand1 p2) = confL p2 from rfl] at hA ⊢; refine gl_rot3 ?_
 refine a_ ?_
 repeat refine n_ ?_
 refine g_pull (H' := rsO g1 (stand1 p2) a1 :: sdZ g2 :: sdO g3 (sd1 (stand1 p2) a1 0) :: (A ++ [OwnC va [p2.id] 1])) (fun w hw => hw.perm (perm_up z_2 (perm_up z_2 (perm_up z_2 (.refl _))))) ?_
 obtain ⟨Z0, hZ0⟩ : ∃ Z, Z = A ++ [OwnC va [p2.id] 1] := ⟨_, rfl⟩
 have hok0 : ∀ h, RRd h p a → (∃ bs, Sat h Z0 bs) → RRd h (stand1 p2) a1 ∧ RdS h ca (intsV (confL p2)) := fun h hp hb => by
  rw [hZ0] at hb
  have h1 := hrs h hp (Sat.two2 hb).2
  exact ⟨h1, hA h h1 (Sat.two2 hb).1⟩
 rw [← hZ0]
 obtain ⟨q, hq⟩ : ∃ q, q = wins (stand1 p2) := ⟨_, rfl⟩
 repeat refine x_ ?_
 refine m_ ?_
 refine f_ z_1 ?_
 refine r_ (by exact s_load_blk rfl z_2 a18_13) ?_
 refine gl_callp rfl (rMost_ct (confL p2) [p2.id] ca a1.va cc a1.vc (by omega) (by simp)) (fun h hh hb => ⟨(hok0 h (hr.le hh) (sat_tail (sat_tail (sat_tail hb)))).2, (hok0 h (hr.le hh) (sat_tail (sat_tail (sat_tail hb)))).1.rv⟩) rfl ?_; rw [show mostB (confL p2) [p2.id] = q from hq.symm]
 repeat refine n_ ?_
 cases q
 rotate_left
 ·have e3 : standP p2 = leadP (stand1 p2) := if_pos hq.symm
  have e4 : standM p2 = leadM (stand1 p2) := if_pos hq.symm
  rw [e3, e4]
  repeat refine x_ ?_
  refine r_ ((s_load_blkW rfl z_2 z_7).eq (v' := sdV (sd1 (stand1 p2) a1 0)) rfl) ?_
  refine gl_call _ rfl (rLead_ct (sd1 (stand1 p2) a1 0) hfs hcs hlen (Nat.zero_le _)) i_ (fun h hh hb => sd1_ok (hok0 h (hr.le hh) (sat_tail (sat_tail (sat_tail hb)))).1 0) rfl ?_; rintro v A2 hA; obtain ⟨s2, rfl, hA2⟩ := hA; refine gl_rot3 ?_
  (refine gl_store_blkW rfl rfl z_5 z_7 z_7 z_3 ?_)
  repeat refine n_ ?_
  refine g_ret ?_
  exact at_endB rfl rfl z_2 rfl (A2 ++ Z0) (SdP.le Z0 (A := A2) ⟨s2, rfl, hA2⟩ (fun h hp hb => sd1_ok (hok0 h hp hb).1 0)) (fun w hw => hw.drop.drop.drop)
 have e3 : standP p2 = stand1 p2 := if_neg (by rw [← hq]; decide)
 have e4 : standM p2 = voteK p2 (confL p2).length := by rw [voteK_all]; exact if_neg (by rw [← hq]; decide)
 rw [e3, e4]
 repeat refine x_ ?_
 refine f_ z_1 ?_
 refine r_ ((s_load_blkN rfl z_2 z_7).eq (v' := ((stand1 p2).lm a1).v) rfl) ?_
 refine gl_callp rfl (rEnd_ct ((stand1 p2).lm a1) (hfs.fit a1 hcs)) (fun h hh hb => (hok0 h (hr.le hh) (sat_tail (sat_tail (sat_tail hb)))).1.rl) rfl ?_; rw [show lastI ((stand1 p2).lm a1) = lastI p2.g from rfl, show lastT ((stand1 p2).lm a1) = lastT p2.g from rfl]
 refine m_ ?_
 refine f_ (s_extract rfl rfl) ?_
 refine f_ (s_extract rfl rfl) ?_
 refine a_ ?_
 refine a_ ?_
 repeat refine x_ ?_
 refine a_ ?_
 repeat refine n_ ?_
 refine g_loop (ι := Nat × SD × List As) (fun i => VoI p2 i.1 (fun h => RRd h p a) i.2.1 i.2.2 ∧ ∀ h, (∃ bs, Sat h i.2.2 bs) → ∃ bs, Sat h Z0 bs) (fun i => [(1, Ptr g1), (2, Ptr g2), (3, Ptr g3), (4, .slice ca (confL p2).length cc), (5, .int .u64 (lastI p2.g)), (6, .int .u64 (lastT p2.g)), (7, .int .i64 (i.1 : Nat))]) (fun i => sdO g3 i.2.1 :: rsO g1 (stand1 p2) a1 :: sdZ g2 :: i.2.2) (fun i => (confL p2).length - i.1) (0, sd1 (stand1 p2) a1 0, Z0) ⟨⟨Nat.zero_le _, rfl, rfl, rfl, hcs, Nat.le_refl _, fun h h1 h2 => sd1_ok (hok0 h h1 h2).1 0⟩, fun _ h => h⟩ ?_ ?_ ?_
 ·(repeat (first | exact Sub.nil _ | refine Sub.cons rfl ?_))
 ·intro w hw; exact hw.perm (perm_up z_2 (perm_up z_2 (perm_up z_2 (.refl _))))
 rintro ⟨k, s1, Z⟩ ⟨⟨hk, hp, hout, her, hcap, hln, hok⟩, hZ⟩
 simp only at hk hp hout her hcap hln hok hZ
 repeat refine x_ ?_
 refine m_ ?_
 refine m_ ?_
 refine f_ (s_len_sl rfl) ?_
 refine f_ (s_lss rfl rfl) ?_
 repeat refine n_ ?_
 refine g_cond rfl (fun h => ?_) (fun h => ?_)
 rotate_left
 ·have hkl : k = (confL p2).length := by simp at h; omega
  subst hkl
  repeat refine x_ ?_
  refine r_ ((s_load_blkW rfl z_2 z_7).eq (v' := sdV s1) rfl) ?_
  (refine gl_store_blkW rfl rfl z_5 z_7 z_7 z_3 ?_)
  repeat refine n_ ?_
  refine g_ret ?_
  exact at_endB rfl rfl z_2 rfl Z ⟨s1, rfl, hp, hout, her, hcap, hok⟩ (fun w hw => hw.drop.drop.drop)
 have hkl : k < (confL p2).length := by simp at h; omega
 have hkk : ((k, s1, Z) : Nat × SD × List As).1 < (confL p2).length := hkl
 have hsu := voteK_succ hkl
 obtain ⟨n, hne⟩ : ∃ n, n = (confL p2).getD k 0 := ⟨_, rfl⟩
 rw [← hne] at hsu
 obtain ⟨q, hq⟩ : ∃ q, q = decide (n = p2.id) := ⟨_, rfl⟩
 have hcr : ∀ h, Heap.le F.heap h → (∃ bs, Sat h Z bs) → RdS h ca (intsV (confL p2)) := fun h hh hb => (hok0 h (hr.le hh) (hZ h hb)).2
 refine g_some (Q := ∃ ad, ca = some ad) (fun w hw => rdI_some (hcr _ hw.keep (sat_tail (sat_tail (sat_tail (hp_sat hw))))) hkl) (fun hsome => ?_)
 repeat refine y_ ?_
 refine g_draw ([3, 5], [0, 0, 3, 7, 0, 16, 63], []) (rsO g1 (stand1 p2) a1 :: Z) 7 rfl ?_
 refine w_ 0 rfl (s_move rfl) ?_
 refine w_ 1 rfl (s_move rfl) ?_
 refine w_ 2 rfl (s_indexAddr rfl (by assumption) rfl (by omega)) ?_
 refine ga_readZ 3 rfl (fun H' hz => s_load1 (v := .int .i64 n) rfl (fun w hw => by rw [hne]; exact rdI_at (hcr _ hw.keep (sat_tail (hz w hw))) (by simp only; omega) hkl)) (by (repeat first | exact sub_nil | refine sub_cons z_16 ?_ | exact fun _ h => h | refine sub_skip ?_)) rfl rfl rfl z_4 ?_
 refine w_ 4 rfl z_1 ?_
 (refine ga_read_k 5 rfl z_11 (s_load_blk rfl .del a18_0) (by (repeat first | exact sub_nil | refine sub_cons z_16 ?_ | exact fun _ h => h | refine sub_skip ?_)) rfl rfl rfl z_4 ?_)
 refine w_ 6 rfl ((s_neq rfl rfl).eq (v' := .bool (!q)) (by rw [hq]; rfl)) ?_
 refine ga_done z_4 ?_
 repeat refine y_ ?_
 cases q
 rotate_left
 ·rw [if_pos (of_decide_eq_true hq.symm), List.append_nil] at hsu
  repeat refine x_ ?_
  refine m_ ?_
  refine f_ (s_add_i64 rfl rfl (by omega)) ?_
  refine a_ ?_
  repeat refine n_ ?_
  refine at_next (k + 1, s1, Z) ⟨⟨hkl, hp, by simp only; rw [hsu]; exact hout, her, hcap, by simp only; omega, hok⟩, hZ⟩ (by simp only; omega) ?_ ?_
  ·(repeat (first | exact Sub.nil _ | refine Sub.cons rfl ?_))
  ·intro w hw; exact hw
 rw [if_neg (of_decide_eq_false hq.symm)] at hsu
 repeat refine y_ ?_
 refine g_draw ([0, 4], [0, 0, 0, 6, 14, 0, 0, 96, 255, 511], [8, 9]) (sdO g3 s1 :: Z) 10 rfl ?_
 refine ga_read_k 0 rfl z_11 ((s_load_blkW rfl .del z_7).eq (v' := sdV s1) rfl) (by (repeat first | exact sub_nil | refine sub_cons z_16 ?_ | exact fun _ h => h | refine sub_skip ?_)) rfl rfl rfl z_4 ?_
 refine w_ 1 rfl (s_move rfl) ?_
 refine w_ 2 rfl (s_move rfl) ?_
 refine w_ 3 rfl (s_indexAddr rfl (by assumption) rfl (by omega)) ?_
 refine ga_readZ 4 rfl (fun H' hz => s_load1 (v := .int .i64 n) rfl (fun w hw => by rw [hne]; exact rdI_at (hcr _ hw.keep (sat_tail (hz w hw))) (by simp only; omega) hkl)) (by (repeat first | exact sub_nil | refine sub_cons z_16 ?_ | exact fun _ h => h | refine sub_skip ?_)) rfl rfl rfl z_4 ?_
 refine w_ 5 rfl (s_move rfl) ?_
 refine w_ 6 rfl (s_move rfl) ?_
 refine w_ 7 rfl ((s_bld (cells := (mmC ⟨{ voteM (stand1 p2) n with frm := 0, to := 0, term := 0 }, none, 0, none, 0⟩).toArray) rfl z_4).eq (v' := mmA ⟨{ voteM (stand1 p2) n with frm := 0, to := 0, term := 0 }, none, 0, none, 0⟩) rfl) ?_
 refine ga_one 8 rfl z_4 ?_
 refine gl_call (sdO g3 s1 :: rsO g1 (stand1 p2) a1 :: sdZ g2 :: Z) rfl (rTell_ct s1 n ⟨{ voteM (stand1 p2) n with frm := 0, to := 0, term := 0 }, none, 0, none, 0⟩ hcap (by omega)) i_ (fun h hh hb => ⟨hok h (hr.le hh) (sat_tail (sat_tail (sat_tail hb))), RdS.nil _ _, RdS.nil _ _, Nat.le_refl _⟩) rfl ?_; rintro v A2 ⟨s2, rfl, e5, e6, e7, e8, e9⟩; refine gl_rot3 ?_
 refine gl_nil ?_
 refine at_ga (.inl z_4) ?_
 refine ga_one 9 rfl z_4 ?_
 (refine gl_store_blkW rfl rfl z_5 z_7 z_7 z_3 ?_)
 refine gl_nil ?_
 refine at_ga (.inl z_4) ?_
 refine ga_done z_4 ?_
 repeat refine x_ ?_
 refine m_ ?_
 refine f_ (s_add_i64 rfl rfl (by omega)) ?_
 refine a_ ?_
 repeat refine n_ ?_
 have hl2 : s2.outs.length = s1.outs.length + 1 := by have := congrArg List.length e6; simpa using this
 refine at_next (k + 1, s2, A2 ++ Z) ⟨⟨hkl, e5.trans hp, ?_, e7.trans her, e8, by simp only; omega, fun h h1 h2 => e9 h ⟨hok h h1 (Sat.two2 h2).2, RdS.nil _ _, RdS.nil _ _, Nat.le_refl _⟩ (Sat.two2 h2).1⟩, fun h hb => hZ h (Sat.two2 hb).2⟩ (by simp only; omega) ?_ ?_
 ·simp only
  rw [e6, hout, hsu, hp]; rfl
 ·(repeat (first | exact Sub.nil _ | refine Sub.cons rfl ?_))
 ·intro w hw; exact hw
end Go.Proofs.YtodcghipfolejaaGreat.Rf
