import Derived.Test.YtodcghipfolejaaGreatJx12
import Derived.Test.YtodcghipfolejaaGreatJx9
import Derived.Test.YtodcghipfolejaaGreatJx4
import Derived.Test.YtodcghipfolejaaGreatJx8
set_option linter.unusedVariables false
set_option linter.unusedSimpArgs false
namespace Go.Proofs.YtodcghipfolejaaGreat.Rf
open Go Go.Sl
theorem allP_5 {K : Int} {p : RP} (h : BI K p) : (allP p).length ≤ 5 := by
 unfold allP; split
 ·rw [List.length_map]; exact h.peers
 ·simp
theorem step_few {K : Int} {p : RP} {e : EP} (h : BI K p) (hK : 0 ≤ K) (hid : 1 ≤ p.id ∧ p.id ≤ 5) (he : BE K e) : (stepM p e).length ≤ 5 := by
 have hlead : ∀ {K : Int} {p : RP}, BI K p → 0 ≤ K → (leadM p).length ≤ 5 := fun h hK => allP_5 (bi_lead h hK)
 unfold stepM
 split
 ·unfold tickM
  split
  ·exact allP_5 h
  ·split
   ·have h1 : BI (K + 1) (stand1 (tick1 p)) := by
     have h' := bi_mono h (show K ≤ K + 1 by omega)
     have hv : VotesOk (stand1 (tick1 p)) := by
      unfold VotesOk
      show pick (inB [p.id]) 5 = [p.id]
      have : p.id = 1 ∨ p.id = 2 ∨ p.id = 3 ∨ p.id = 4 ∨ p.id = 5 := by omega
      rcases this with e | e | e | e | e <;> rw [e] <;> decide
     exact ⟨h'.base, h'.conf, h'.ent, h'.bt, h'.img, h'.piece, hv, Nat.zero_le _, (fun q hq => (by cases hq)), ⟨Int.le_refl _, by show (0 : Int) ≤ K + 1; omega⟩, by have := h.term; show 0 ≤ p.term + 1 ∧ p.term + 1 ≤ K + 1; omega, h'.commit⟩
    unfold standM
    split
    ·exact hlead h1 (by omega)
    ·rw [List.length_map]
     exact Nat.le_trans (List.length_filter_le _ _) (bi_conf h _).1
   ·simp
 split
 ·rename_i h2
  have hm := he.m h2
  unfold hearM
  split
  ·simp
  ·have h1 : BI K (hear1 p e.m) := by
    unfold hear1; split
    ·exact bi_follow h _ _ hm.term
    ·exact h
   unfold doesM
   split
   ·simp
   split
   ·unfold grantMs; split
    ·split
     ·exact hlead (K := K) ⟨h1.base, h1.conf, h1.ent, h1.bt, h1.img, h1.piece, votesL_ok _ _, h1.peers, h1.prs, h1.ticks, h1.term, h1.commit⟩ hK
     ·simp
    ·simp
   split
   ·unfold leadsM; split
    ·simp
    ·split
     ·simp
     ·split
      ·unfold tkM; split
       ·simp
       ·split <;> simp
      ·unfold pcM; split
       ·simp
       ·split
        ·simp
        ·split
         ·simp
         ·split <;> simp
   split
   ·unfold ackMs; split
    ·simp
    ·split
     ·simp
     ·split
      ·simp
      ·split <;> simp
   split
   ·unfold gotMs; split <;> simp
   ·simp
 split
 ·unfold propM; split
  ·have h1 : BI (K + 1) (prop2 p e.ek e.ed) := by
    have h0 := bi_app h (e := (p.term, e.ek, e.ed)) ⟨he.ed, h.term⟩
    unfold prop2
    split
    ·exact ⟨h0.base, h0.conf, h0.ent, h0.bt, h0.img, h0.piece, h0.votes, peersL_5 h0, peersL_qb h0, h0.ticks, h0.term, h0.commit⟩
    ·exact h0
   exact allP_5 (bi_commit h1 (by omega))
  ·simp
 ·simp
theorem gl_rot {P : Program} {N : Nat} {K R : Kont} {E : List (Nat × Kont)} {L : Lcs} {F : Snap} {x : As} {A T : List As} {ops : Array Oper} {rest : List Oper} (h : GL P N ops rest K E R L F (x :: (A ++ T))) : GL P N ops rest K E R L F (A ++ (x :: T)) :=
 gl_pull (fun w hw => hw.perm List.perm_middle) h
theorem act_c1 {F : Snap} {w : World} {b g M : As} {S Z2 R : List As} (h : Hp F w (b :: g :: ((S ++ (M :: Z2)) ++ R))) : Hp F w (b :: (S ++ (M :: (Z2 ++ R)))) := by
 have := (h.perm (.swap _ _ _)).drop
 simpa using this
theorem act_c2 {F : Snap} {w : World} {b g M : As} {S Z2 R : List As} (h : Hp F w (b :: ((S ++ (M :: Z2)) ++ (g :: R)))) : Hp F w (b :: (S ++ (M :: (Z2 ++ R)))) := by
 have := (h.perm ((List.perm_middle.cons _).trans (.swap _ _ _))).drop
 simpa using this
theorem rdMiX_own {F : Snap} {w : World} {H H' : List As} {a : Option Addr} {l : List Mi} {n c q i : Nat} {te : TypeId} {x : Mi} (hw : Hp F w H) (u : Upd H (.own (.slice a n c) te 18 (miV l)) [] H') (h : q = 18 * i) (hi : i < l.length) (hx : x = l.getD i Mi0) : PeekC (hp w) (addO a q) (miC x) := by
 rw [hx]; exact rdMi_own hw u h hi
def ActP (W : Nat) (s : WS) (r : AcR) (v : Value) (A : List As) : Prop :=
 ∃ (s' : WS) (Z : List As), v = .tuple #[.int .i64 r.n, .bool r.ok] ∧ s'.w = r.w ∧ A = wB W s' :: OwnMi s'.ma s'.ms s'.mc :: Z ∧ ∀ h, WS.ok h s → (∃ bs, Sat h Z bs) → WS.ok h s'
theorem hp_tail {F : Snap} {w : World} {H : List As} (hw : Hp F w H) : ∃ bs, Sat (hp w) H bs := by
 obtain ⟨bs, h, _⟩ := hw.own; exact ⟨bs, h⟩
set_option maxRecDepth 16000 in
set_option maxHeartbeats 8000000 in
theorem Act_ct (W : Nat) (s : WS) (a : AcM) (K : Int) (hwb : WB K s.w) (hK : 0 ≤ K ∧ K ≤ 80000) (hd : a.data.length ≤ 100000) :
  Ct Tryz.prog 11 [Ptr W, acA a] (fun h => WS.ok h s) [wB W s, OwnMi s.ma s.ms s.mc] (ActP W s (actP s.w a.p)) := by
 have hlen : s.ms.length = 5 := by have := hwb.len; simpa using this
 have hfew : s.fm.length ≤ 40 := by have := hwb.few; simpa using this
 have hnr := nOf_range a.p
 obtain ⟨nn, hnn⟩ : ∃ n, n = nOf a.p := ⟨_, rfl⟩
 rw [← hnn] at hnr
 obtain ⟨un, hun⟩ : ∃ u, u = IntKind.u64.wrap a.n := ⟨_, rfl⟩
 have hun0 : 0 ≤ un ∧ un ≤ 18446744073709551615 := by rw [hun, IntKind.wrap_u64]; omega
 have hnu : un % 5 = nn := by rw [hnn, nOf, uM, hun]
 refine ct_enter 87 Tryz.func11 rfl rfl rfl ?_
 intro F hok
 obtain ⟨q7, hq7⟩ : ∃ q, q = decide (a.kind = 7) := ⟨_, rfl⟩
 repeat refine x_ ?_
 refine gl_boxA rfl rfl ?_; intro g3
 refine a_ ?_
 refine a_ ?_
 repeat refine x_ ?_
 refine f_ z_1 ?_
 refine r_ (by exact s_load_blk rfl z_2 a18_0) ?_
 refine f_ ((s_eql rfl rfl).eb hq7) ?_
 repeat refine n_ ?_
 cases q7
 rotate_left
 ·have h7 : a.p.kind = 7 := of_decide_eq_true hq7.symm
  have hm := wb_mind hwb hnr
  have hbn := badNew_no (id := (mindAt s.w nn).id) (tout := (mindAt s.w nn).tout) (by omega) hm.2.2
  have e1 : actP s.w a.p = ⟨⟨s.w.ms.set nn.toNat (againP (mindAt s.w nn)), s.w.fl⟩, nn, true⟩ := by rw [actP, if_pos h7, ← hnn, hbn]; rfl
  rw [e1]
  repeat refine x_ ?_
  refine f_ z_1 ?_
  refine r_ (by exact s_load_blk rfl z_2 a18_1) ?_
  refine f_ ((s_conv_int rfl).eq (v' := .int .u64 un) (by rw [hun])) ?_
  refine f_ (s_rem_pos rfl rfl (by omega)) ?_
  refine f_ ((s_conv_keep_i64 rfl (by omega)).eq (v' := .int .i64 nn) (by rw [hnu])) ?_
  refine a_ ?_
  repeat refine x_ ?_
  refine m_ ?_
  refine m_ ?_
  refine m_ ?_
  refine gl_call [.blk g3 (.cells (acC a).toArray 40)] rfl (again_ct W s nn K hwb hK hnr) (fun w hw => hw.perm (perm_up z_2 (perm_up z_2 (.refl _)))) (fun h hh _ => hok.le hh) rfl ?_; rintro v A ⟨rfl, a1, rfl⟩
  refine a_ ?_
  refine a_ ?_
  repeat refine n_ ?_
  refine g_ret ?_
  exact at_end2 rfl rfl rfl _ ⟨{ s with ms := s.ms.set nn.toNat (againP (mindAt s.w nn), a1) }, OwnS (againP (mindAt s.w nn)) a1, rfl, ws_set_w _ _ _, rfl, fun h f hs => ws_set f (ownS_ok hs).1 (ownS_ok hs).2⟩ (fun w hw => Hp.left (R := [.blk g3 (.cells (acC a).toArray 40)]) hw)
 have n7 : ¬ a.p.kind = 7 := of_decide_eq_false hq7.symm
 repeat refine x_ ?_
 refine m_ ?_
 refine r_ ((s_load_blkW rfl z_2 z_7).eq (v' := acA a) rfl) ?_
 refine gl_call [.blk g3 (.cells (acC a).toArray 40)] rfl (event_ct W s a K hwb hK) (fun w hw => hw.perm (perm_up z_2 (perm_up z_2 (.refl _)))) (fun h hh _ => hok.le hh) rfl ?_; rintro v A ⟨e, fm, fa, fc, Z, rfl, hev, hfm, rfl, hZ⟩
 refine m_ ?_
 refine f_ (s_extract rfl rfl) ?_
 refine f_ (s_extract rfl rfl) ?_
 refine f_ (s_extract rfl rfl) ?_
 refine gl_allocA rfl ?_; intro g8
 refine a_ ?_
 (refine gl_store_blkW rfl rfl z_5 z_7 z_7 z_3 ?_)
 refine a_ ?_
 repeat refine n_ ?_
 obtain ⟨r, hr⟩ : ∃ r, r = evOf s.w a.p := ⟨_, rfl⟩
 rw [← hr] at hev hfm
 obtain ⟨s1, hs1⟩ : ∃ s1 : WS, s1 = { s with fm := fm, fa := fa, fc := fc } := ⟨_, rfl⟩
 have hZ1 : ∀ h, WS.ok h s → (∃ bs, Sat h Z bs) → WS.ok h s1 ∧ MOk h e.m := by rw [hs1]; exact hZ
 have h1w : s1.w = ⟨s.w.ms, r.fl⟩ := by rw [hs1]; show (⟨s.ms.map (·.1), fm.map MM.p⟩ : WP) = _; rw [hfm]
 have h1ms : s1.ms = s.ms := by rw [hs1]
 have h1fm : s1.fm = fm := by rw [hs1]
 have hfl : fm.length ≤ 40 := by
  have := ev_fllen s.w a.p
  rw [← hr, ← hfm, List.length_map] at this
  simp only [List.length_map] at this
  omega
 refine g_pull (H' := .blk g8 (.cells (evC e).toArray 53) :: wB W s1 :: OwnMi s1.ma s1.ms s1.mc :: Z) (fun w hw => by subst hs1; exact Hp.left (R := [.blk g3 (.cells (acC a).toArray 40)]) hw) ?_
 obtain ⟨ok, hoke⟩ : ∃ ok, ok = r.ok := ⟨_, rfl⟩
 rw [← hr, ← hoke]
 repeat refine x_ ?_
 refine m_ ?_
 refine f_ (s_not rfl) ?_
 repeat refine n_ ?_
 cases ok
 ·have e1 : actP s.w a.p = ⟨⟨s.w.ms, r.fl⟩, r.n, true⟩ := by rw [actP, if_neg n7, ← hr, if_pos hoke.symm]
  rw [e1]
  repeat refine x_ ?_
  refine m_ ?_
  refine a_ ?_
  refine a_ ?_
  repeat refine n_ ?_
  refine g_ret ?_
  exact at_end2 rfl rfl rfl (wB W s1 :: OwnMi s1.ma s1.ms s1.mc :: Z) ⟨s1, Z, rfl, h1w, rfl, fun h f hs => (hZ1 h f hs).1⟩ (fun w hw => hw.drop)
 have hev0 := ev_ok hwb hK.1 (a := a.p) hd (by rw [← hr]; exact hoke.symm)
 rw [← hr] at hev0
 have hrn := hev0.n
 obtain ⟨n, hn⟩ : ∃ n, n = r.n := ⟨_, rfl⟩
 rw [← hn] at hrn
 have hnl : n.toNat < s1.ms.length := by rw [h1ms]; omega
 obtain ⟨x, hx⟩ : ∃ x, x = s1.ms.getD n.toNat Mi0 := ⟨_, rfl⟩
 have hxp : mindAt s.w n = x.1 := by rw [← mi_mind, mi, hx, h1ms]
 have hxm : x ∈ s1.ms := by rw [hx, List.getD_eq_getElem?_getD, List.getElem?_eq_getElem hnl]; exact List.getElem_mem _
 have hxb := wb_mind hwb hrn
 rw [hxp] at hxb
 have hxs := bi_st hxb.1 (by omega)
 have hstf := step_few (e := r.e) hxb.1 hK.1 (by omega) hev0.be
 obtain ⟨p', hp'⟩ : ∃ p', p' = stepP x.1 r.e := ⟨_, rfl⟩
 obtain ⟨new, hnew⟩ : ∃ l, l = stepM x.1 r.e := ⟨_, rfl⟩
 rw [← hnew] at hstf
 have e1 : actP s.w a.p = ⟨⟨s.w.ms.set n.toNat p', cut40 (r.fl ++ new)⟩, n, true⟩ := by rw [actP, if_neg n7, ← hr, if_neg (by rw [← hoke]; decide), ← hn, hxp, hp', hnew]
 rw [e1, ← hn]
 have hstep := Step_ct' x.1 x.2 e hxs (by have := hev0.mfit (by omega); rw [← hev] at this; exact this) (by have := hev0.kind; rw [← hev] at this; exact this) (by have := hev0.index; rw [← hev] at this; show 0 ≤ e.index ∧ _; have h2 : 0 ≤ e.index ∧ e.index ≤ K := this; omega)
 rw [hev, ← hp', ← hnew] at hstep
 repeat refine y_ ?_
 refine g_ownN (a := s1.ma) z_2 (fun _ _ hma => ?_)
 have hmas : ∃ ad, s1.ma = some ad := hma (by omega)
 have hpre3 : ∀ h, Heap.le F.heap h → (∃ bs, Sat h Z bs) → RRd h x.1 x.2 ∧ MOk h e.m := fun h hh h2 => ⟨(hZ1 h (hok.le hh) h2).1.ms x hxm, (hZ1 h (hok.le hh) h2).2⟩
 refine g_cutE (ι := { y : Nat × RA × List MM × Option Addr × Nat × List As // y.2.2.1.map MM.p = new ∧ ∀ h, (∃ bs, Sat h y.2.2.2.2.2 bs) → ∀ m ∈ y.2.2.1, MOk h m }) (fun y => [(0, Ptr W), (7, .int .i64 n), (10, Ptr y.1.1), (11, .slice y.1.2.2.2.1 y.1.2.2.1.length y.1.2.2.2.2.1)]) (fun y => .blk y.1.1 (.cells (rsC p' y.1.2.1).toArray 49) :: (OwnS p' y.1.2.1 ++ (OwnM y.1.2.2.2.1 y.1.2.2.1 y.1.2.2.2.2.1 :: (y.1.2.2.2.2.2 ++ (wB W s1 :: OwnMi s1.ma s1.ms s1.mc :: Z))))) ?_ (fun y => ?_)
 ·repeat refine y_ ?_
  refine g_draw ([3, 6, 7], [0, 1, 3, 7, 0, 31, 63, 0, 255, 511, 1023, 1023, 1023, 0, 10239, 28671, 65535], [8, 13, 14]) [wB W s1, OwnMi s1.ma s1.ms s1.mc, .blk g8 (.cells (evC e).toArray 53)] 17 rfl ?_
  refine w_ 0 rfl (s_move rfl) ?_
  refine w_ 1 rfl (s_nilCheck rfl) ?_
  refine w_ 2 rfl z_1 ?_
  (refine ga_read_k 3 rfl z_11 (s_load_blk rfl .del a2_0) k_ rfl rfl rfl z_4 ?_)
  refine w_ 4 rfl (s_move rfl) ?_
  refine w_ 5 rfl (s_indexAddr rfl hmas rfl (by omega)) ?_
  refine ga_read_k 6 rfl z_9 ((s_loadN (cs := miC x) rfl (fun w hw => rdMiX_own (a := s1.ma) hw .del (i := n.toNat) (by omega) hnl hx) rfl).eq (v' := rsV x.1 x.2) rfl) k_ rfl rfl rfl z_4 ?_
  refine ga_read_k 7 rfl z_17 ((s_load_blkW rfl .del z_7).eq (v' := evA e) rfl) k_ rfl rfl rfl z_4 ?_
  refine ga_two 8 13 rfl rfl z_4 ?_ ?_
  refine gl_call _ rfl hstep i_ (fun h hh hs => hpre3 h hh (by exact sat_tail (sat_tail (sat_tail hs)))) rfl ?_; rintro v A ⟨a', outs, oa, oc, Z2, rfl, ho, rfl, hZ2⟩; refine gl_rot ?_
  refine gl_nil ?_
  refine at_ga (.inl z_4) ?_
  refine w_ 9 rfl (s_move rfl) ?_
  refine w_ 10 rfl (s_extract rfl rfl) ?_
  refine w_ 11 rfl (s_extract rfl rfl) ?_
  refine w_ 12 rfl (s_extract rfl rfl) ?_
  refine ga_one 13 rfl z_4 ?_
  refine gl_allocA rfl ?_; intro g10
  refine gl_nil ?_
  refine at_ga (.inl z_4) ?_
  refine ga_one 14 rfl z_4 ?_
  (refine gl_store_blkW rfl rfl z_5 z_7 z_7 z_3 ?_)
  refine gl_nil ?_
  refine at_ga (.inl z_4) ?_
  refine w_ 15 rfl (s_assign rfl) ?_
  refine w_ 16 rfl (s_assign rfl) ?_
  refine ga_done z_4 ?_
  rotate_left 1
  refine gl_allocA rfl ?_; intro g10
  refine gl_nil ?_
  refine at_ga (.inr (by exact keeps_of k_)) ?_
  refine ga_one 8 rfl z_4 ?_
  refine gl_call _ rfl hstep i_ (fun h hh hs => hpre3 h hh (by exact sat_tail (sat_tail (sat_tail (sat_tail hs))))) rfl ?_; rintro v A ⟨a', outs, oa, oc, Z2, rfl, ho, rfl, hZ2⟩; refine gl_rot ?_
  refine gl_nil ?_
  refine at_ga (.inl z_4) ?_
  refine w_ 9 rfl (s_move rfl) ?_
  refine w_ 10 rfl (s_extract rfl rfl) ?_
  refine w_ 11 rfl (s_extract rfl rfl) ?_
  refine w_ 12 rfl (s_extract rfl rfl) ?_
  refine ga_one 14 rfl z_4 ?_
  (refine gl_store_blkW rfl rfl z_5 z_7 z_7 z_3 ?_)
  refine gl_nil ?_
  refine at_ga (.inl z_4) ?_
  refine w_ 15 rfl (s_assign rfl) ?_
  refine w_ 16 rfl (s_assign rfl) ?_
  refine ga_done z_4 ?_
  rotate_left 1
  all_goals (repeat refine y_ ?_)
  all_goals
   exact at_cutE ⟨(g10, a', outs, oa, oc, Z2), ho, hZ2⟩ j_ (fun w hw => by first | exact act_c1 hw | exact act_c2 hw)
 obtain ⟨⟨g10, a', outs, oa, oc, Z2⟩, ho, hZ2⟩ := y
 simp only at ho hZ2 ⊢
 have hol : outs.length ≤ 5 := by rw [← List.length_map (f := MM.p), ho]; exact hstf
 obtain ⟨s2, hs2⟩ : ∃ s2 : WS, s2 = { s1 with ms := s1.ms.set n.toNat (p', a') } := ⟨_, rfl⟩
 have hpm := putx_mi (l := s1.ms) (i := n.toNat) (y := (p', a')) hnl
 have hsl : (s1.ms.set n.toNat (p', a')).length = s1.ms.length := List.length_set
 repeat refine y_ ?_
 refine g_pull (H' := .blk g10 (.cells (rsC p' a').toArray 49) :: wB W s1 :: OwnMi s1.ma s1.ms s1.mc :: OwnM oa outs oc :: (OwnS p' a' ++ (Z2 ++ Z))) (fun w hw => hw.perm ?_) ?_
 ·refine List.Perm.cons _ ?_
  have h1 : (Z2 ++ (wB W s1 :: OwnMi s1.ma s1.ms s1.mc :: Z)).Perm (wB W s1 :: OwnMi s1.ma s1.ms s1.mc :: (Z2 ++ Z)) := List.perm_middle.trans (List.perm_middle.cons _)
  have h2 : (OwnS p' a' ++ (OwnM oa outs oc :: (Z2 ++ (wB W s1 :: OwnMi s1.ma s1.ms s1.mc :: Z)))).Perm (OwnS p' a' ++ (OwnM oa outs oc :: (wB W s1 :: OwnMi s1.ma s1.ms s1.mc :: (Z2 ++ Z)))) := (h1.cons _).append_left _
  have h3 : (OwnS p' a' ++ (OwnM oa outs oc :: (wB W s1 :: OwnMi s1.ma s1.ms s1.mc :: (Z2 ++ Z)))).Perm (OwnM oa outs oc :: wB W s1 :: OwnMi s1.ma s1.ms s1.mc :: (OwnS p' a' ++ (Z2 ++ Z))) :=
   List.perm_middle.trans ((List.perm_middle.trans ((List.perm_middle).cons _)).cons _)
  exact (h2.trans h3).trans ((List.Perm.swap _ _ _).trans ((List.Perm.swap _ _ _).cons _))
 repeat refine y_ ?_
 refine g_draw ([3, 5], [0, 1, 3, 7, 0, 0, 63, 127], [7]) [wB W s1, .blk g10 (.cells (rsC p' a').toArray 49)] 8 rfl ?_
 refine w_ 0 rfl (s_move rfl) ?_
 refine w_ 1 rfl (s_nilCheck rfl) ?_
 refine w_ 2 rfl z_1 ?_
 (refine ga_read_k 3 rfl z_11 (s_load_blk rfl .del a2_0) k_ rfl rfl rfl z_4 ?_)
 refine w_ 4 rfl (s_move rfl) ?_
 refine ga_read_k 5 rfl z_9 ((s_load_blkW rfl .del z_7).eq (v' := rsV p' a') rfl) k_ rfl rfl rfl z_4 ?_
 refine w_ 6 rfl ((s_indexAddr rfl hmas rfl (by omega)).eq (v' := .pointer (addO s1.ma (18 * n.toNat))) (by congr 2; omega)) ?_
 refine ga_one 7 rfl z_4 ?_
 refine gl_store_own (q := 18 * n.toNat) rfl rfl z_5 z_7 (by decide) z_3 (by show 18 * n.toNat + 18 ≤ (miV s1.ms).length; rw [miV_len]; omega) ?_
 refine gl_nil ?_
 refine at_ga (.inl z_4) ?_
 refine ga_done z_4 ?_
 repeat refine y_ ?_
 refine g_pull (H' := wB W s2 :: OwnMi s2.ma s2.ms s2.mc :: OwnM oa outs oc :: (OwnS p' a' ++ (Z2 ++ Z))) (fun w hw => by
  subst hs2
  simp only [wB, OwnMi, hsl, ← hpm]
  exact hw.drop) ?_
 have h2fm : s2.fm = s1.fm := by rw [hs2]
 have h2fa : s2.fa = s1.fa := by rw [hs2]
 have hsrc : ∀ (w : World), Hp F w (wB W s2 :: OwnMi s2.ma s2.ms s2.mc :: OwnM oa outs oc :: (OwnS p' a' ++ (Z2 ++ Z))) → RdS (hp w) s2.fa (mmV s2.fm) := fun w hw => by
  have h4 := sat_tail (sat_tail (sat_tail (hp_tail hw)))
  have h5 : ∃ bs, Sat (hp w) Z bs := (Sat.two2 (Sat.two2 h4).2).2
  rw [h2fm, h2fa]
  exact (hZ1 _ (hok.le hw.keep) h5).1.fa
 have hf2 : s2.fm.length ≤ 40 := by rw [h2fm, h1fm]; exact hfl
 have hnlen : (s2.fm ++ outs).length = 0 + s2.fm.length + outs.length := by rw [List.length_append]; omega
 refine g_cutE (ι := Option Addr × Nat) (fun _ => [(0, Ptr W), (7, .int .i64 n)]) (fun y => wB W { s2 with fm := s2.fm ++ outs, fa := y.1, fc := y.2 } :: OwnMi s2.ma s2.ms s2.mc :: OwnM y.1 (s2.fm ++ outs) y.2 :: OwnM oa outs oc :: (OwnS p' a' ++ (Z2 ++ Z))) ?_ (fun y => ?_)
 ·repeat refine y_ ?_
  refine g_region ?_
  refine m_ ?_
  refine gl_buildSlice0 rfl ?_; intro a56
  refine m_ ?_
  refine f_ (s_nilCheck rfl) ?_
  refine f_ z_1 ?_
  refine r_ (by exact s_load_blk rfl z_2 a2_1) ?_
  refine gl_append (sz := 13) rfl rfl (fun a' c' => z_5) (fun w hw => hsrc w hw.drop) (mmV_len _) rfl rfl (mmV_one _) (by show (0 + s2.fm.length) * 144 ≤ 140737488355328; omega) (by omega) rfl ?_; intro a61 c61 hc61
  refine m_ ?_
  refine gl_append (sz := 13) rfl rfl (fun a' c' => z_5) (fun w hw => (hw.ownN (a := oa) z_2).2.2.1) (mmV_len _) rfl rfl (mmV_one _) (by show (0 + s2.fm.length + outs.length) * 144 ≤ 140737488355328; omega) (by omega) rfl ?_; intro a63 c63 hc63
  refine f_ (s_nilCheck rfl) ?_
  refine f_ z_1 ?_
  (refine gl_store_blkC (pre := [_]) (post := []) rfl rfl z_5 z_7 z_7 z_7 ?_)
  repeat refine n_ ?_
  exact at_cutE (a63, c63) j_ (fun w hw => by
   simp only [wB, OwnM, mmV_append, hnlen]
   rw [List.nil_append] at hw
   exact hw.perm (perm_up z_2 (perm_up z_2 (.refl _))))
 obtain ⟨ya, yc⟩ := y
 simp only
 obtain ⟨al, hal⟩ : ∃ al, al = s2.fm ++ outs := ⟨_, rfl⟩
 rw [← hal] at hnlen
 rw [← hal]
 have hal45 : al.length ≤ 45 := by omega
 obtain ⟨k, hk⟩ : ∃ k, k = al.length - 40 := ⟨_, rfl⟩
 have hkd : (al.drop k).length = al.length - k := List.length_drop
 obtain ⟨q, hq⟩ : ∃ q, q = decide ((40 : Int) < (al.length : Nat)) := ⟨_, rfl⟩
 repeat refine y_ ?_
 refine g_ownN (a := ya) z_2 (fun _ hyc hys => ?_)
 repeat refine x_ ?_
 refine m_ ?_
 refine f_ (s_nilCheck rfl) ?_
 refine f_ z_1 ?_
 refine r_ (by exact s_load_blk rfl z_2 a2_1) ?_
 refine f_ (s_len_sl rfl) ?_
 refine f_ ((s_gtr rfl rfl).eb hq) ?_
 repeat refine n_ ?_
 refine g_cutK [(7, .int .i64 n)] (wB W { s2 with fm := al.drop k, fa := cutA ya yc k 13, fc := yc - k } :: OwnMi s2.ma s2.ms s2.mc :: OwnM ya al yc :: OwnM oa outs oc :: (OwnS p' a' ++ (Z2 ++ Z))) ?_ ?_
 ·cases q
  ·have h0 : k = 0 := by have := of_decide_eq_false hq.symm; omega
   repeat refine y_ ?_
   exact at_cut j_ (fun w hw => by rw [h0, cutA_zero]; exact hw)
  ·have h0 : 40 < al.length := by have := of_decide_eq_true hq.symm; omega
   repeat refine y_ ?_
   refine g_draw ([4, 8], [0, 0, 2, 6, 14, 0, 32, 96, 224, 480, 992, 2046, 4095, 8191, 16383], [14]) [wB W { s2 with fm := al, fa := ya, fc := yc }] 15 rfl ?_
   refine w_ 0 rfl (s_move rfl) ?_
   refine w_ 1 rfl (s_move rfl) ?_
   refine w_ 2 rfl (s_nilCheck rfl) ?_
   refine w_ 3 rfl z_1 ?_
   (refine ga_read_k 4 rfl z_11 (s_load_blk rfl .del a2_1) k_ rfl rfl rfl z_4 ?_)
   refine w_ 5 rfl (s_move rfl) ?_
   refine w_ 6 rfl (s_nilCheck rfl) ?_
   refine w_ 7 rfl z_1 ?_
   (refine ga_read_k 8 rfl z_11 (s_load_blk rfl .del a2_1) k_ rfl rfl rfl z_4 ?_)
   refine w_ 9 rfl (s_len_sl rfl) ?_
   refine w_ 10 rfl ((s_sub_i64 rfl rfl (by show -9223372036854775808 ≤ (al.length : Int) - 40 ∧ (al.length : Int) - 40 ≤ 9223372036854775807; omega)).eq (v' := .int .i64 (k : Nat)) (by congr 1; show (al.length : Int) - 40 = (k : Nat); omega)) ?_
   refine w_ 11 rfl ((s_slice_sl rfl rfl rfl (by show 0 ≤ ((k : Nat) : Int) ∧ ((k : Nat) : Int) ≤ (al.length : Nat) ∧ ((al.length : Nat) : Int) ≤ (yc : Nat); omega)).eq (v' := .slice (cutA ya yc k 13) (al.drop k).length (yc - k)) (by rw [hkd]; rfl)) ?_
   refine w_ 12 rfl (s_nilCheck rfl) ?_
   refine w_ 13 rfl z_1 ?_
   refine ga_one 14 rfl z_4 ?_
   (refine gl_store_blkC (pre := [_]) (post := []) rfl rfl z_5 z_7 z_7 z_7 ?_)
   refine gl_nil ?_
   refine at_ga (.inl z_4) ?_
   refine ga_done z_4 ?_
   repeat refine y_ ?_
   exact at_cut j_ i_
 repeat refine x_ ?_
 refine m_ ?_
 refine a_ ?_
 refine a_ ?_
 repeat refine n_ ?_
 refine g_ret ?_
 exact at_end2 rfl rfl rfl _ ⟨{ s2 with fm := al.drop k, fa := cutA ya yc k 13, fc := yc - k }, OwnM ya al yc :: OwnM oa outs oc :: (OwnS p' a' ++ (Z2 ++ Z)), rfl, by
  rw [hs2]
  show (⟨(s1.ms.set n.toNat (p', a')).map (·.1), (al.drop k).map MM.p⟩ : WP) = ⟨s.w.ms.set n.toNat p', cut40 (r.fl ++ new)⟩
  rw [List.map_set, List.map_drop, hal, List.map_append, h2fm, h1fm, hfm, ho, cut40, h1ms]
  congr 2
  rw [hk, hal, List.length_append, List.length_append, ← hfm, ← ho, List.length_map, List.length_map, h2fm, h1fm], rfl, fun h f hs => by
  have t1 := sat_tail (sat_tail hs)
  have t2 := Sat.two2 t1
  have t3 := Sat.two2 t2.2
  have f1 := (hZ1 h f t3.2).1
  have f2 : WS.ok h s2 := by rw [hs2]; exact ws_set f1 (ownS_ok t2.1).1 (ownS_ok t2.1).2
  obtain ⟨bs, hb⟩ := hs
  refine ⟨f2.ms, f2.cap, rd_dropM (Sat.rd (a := ya) hb .del) hyc (i := k) (by omega), fun m hm => ?_, ?_⟩
  ·have hm2 : m ∈ al := List.mem_of_mem_drop hm
   rw [hal] at hm2
   rcases List.mem_append.1 hm2 with h1 | h1
   ·exact f2.fm m h1
   ·exact hZ2 h t3.1 m h1
  ·show (al.drop k).length ≤ yc - k
   rw [hkd]
   omega⟩ i_
end Go.Proofs.YtodcghipfolejaaGreat.Rf
namespace Go.Proofs.YtodcghipfolejaaGreat.Rf
open Go Go.Sl
structure PlM where
 mem : Int
 t0 : Int
 t1 : Int
 t2 : Int
 t3 : Int
 t4 : Int
 acts : List AcM
 pa : Option Addr
 pc : Nat
abbrev plC (p : PlM) : List Value := [.int .i64 p.mem, .int .i64 p.t0, .int .i64 p.t1, .int .i64 p.t2, .int .i64 p.t3, .int .i64 p.t4, .slice p.pa p.acts.length p.pc]
abbrev plA (p : PlM) : Value := .agg #[.int .i64 p.mem, .int .i64 p.t0, .int .i64 p.t1, .int .i64 p.t2, .int .i64 p.t3, .int .i64 p.t4, .slice p.pa p.acts.length p.pc]
abbrev PlM.p (p : PlM) : PlP := ⟨p.mem, [p.t0, p.t1, p.t2, p.t3, p.t4], p.acts.map AcM.p⟩
structure PlOk (h : Heap) (p : PlM) : Prop where
 rd : RdS h p.pa (acV p.acts)
 m : ∀ a ∈ p.acts, MOk h a.m
theorem PlOk.le {h h' : Heap} {p : PlM} (f : PlOk h p) (l : Heap.le h h') : PlOk h' p := ⟨f.rd.le l, fun a ha => (f.m a ha).le l⟩
structure SmA (a : AcM) : Prop where
 data : a.data.length ≤ 100000
 el : a.m.p.ents.length ≤ 100
 cl : a.m.p.conf.length ≤ 100
 md : a.m.p.data.length ≤ 100000
 ed : ∀ e ∈ a.m.p.ents, e.2.2.length ≤ 100000
def SmP (p : PlM) : Prop := p.acts.length ≤ 400 ∧ ∀ a ∈ p.acts, SmA a
theorem smP_small {p : PlM} (h : SmP p) : SmallA p.p := by
 refine ⟨by show (p.acts.map AcM.p).length ≤ 400; rw [List.length_map]; exact h.1, fun a ha => ?_⟩
 obtain ⟨x, hx, rfl⟩ := List.mem_map.1 ha
 exact (h.2 x hx).data
structure AcT (T : Int) (a : AcM) : Prop where
 el : a.m.p.ents.length ≤ 100
 cl : a.m.p.conf.length ≤ 100
 d : min (a.data.length : Int) 1048576 ≤ T
 md : min (a.m.p.data.length : Int) 1048576 ≤ T
 ed : ∀ e ∈ a.m.p.ents, min (e.2.2.length : Int) 1048576 ≤ T
theorem AcT.mono {T T' : Int} {a : AcM} (h : AcT T a) (hT : T ≤ T') : AcT T' a := ⟨h.el, h.cl, by have := h.d; omega, by have := h.md; omega, fun e he => by have := h.ed e he; omega⟩
theorem AcT.sm {T : Int} {a : AcM} (h : AcT T a) (hT : T ≤ 32768) : SmA a := ⟨by have := h.d; omega, h.el, h.cl, by have := h.md; omega, fun e he => by have := h.ed e he; omega⟩
theorem rdAc_some {h : Heap} {a : Option Addr} {l : List AcM} {i : Nat} (r : RdS h a (acV l)) (hi : i < l.length) : ∃ ad, a = some ad := rec_some (C := acC) r acC_len (by decide) hi
theorem rdAc {F : Snap} {w : World} {H : List As} {a : Option Addr} {l : List AcM} {q i : Nat} {x : AcM} (hw : Hp F w H) (r : RdS F.heap a (acV l)) (h : q = 18 * i) (hi : i < l.length) (hx : x = l.getD i AcM0) : PeekC (hp w) (addO a q) (acC x) := by
 rw [hx]; exact rec_rdN (C := acC) (r.le hw.keep) acC_len (by decide) AcM0 h hi
theorem rdAc1 {F : Snap} {w : World} {H : List As} {a : Option Addr} {l : List AcM} {q i j : Nat} {v : Value} {x : AcM} (hw : Hp F w H) (r : RdS F.heap a (acV l)) (h : q = 18 * i + j) (hi : i < l.length) (hx : x = l.getD i AcM0) (hv : (acC x)[j]? = some v) : PeekC (hp w) (addO a q) [v] := by
 subst hx
 exact rec_rd1 (C := acC) (r.le hw.keep) acC_len AcM0 h hi hv
theorem rdAcM {F : Snap} {w : World} {H : List As} {a : Option Addr} {l : List AcM} {q i : Nat} {x : AcM} (hw : Hp F w H) (r : RdS F.heap a (acV l)) (h : q = 18 * i + 5) (hi : i < l.length) (hx : x = l.getD i AcM0) : PeekC (hp w) (addO a q) (mmC x.m) := by
 subst hx
 refine rec_rd (C := acC) (r.le hw.keep) acC_len AcM0 h hi (by simp) (fun k u hu => ?_)
 generalize l.getD i AcM0 = y at hu ⊢
 have e : acC y = [.int .i64 y.kind, .int .i64 y.n, .int .i64 y.i, .bool y.add, B y.data] ++ mmC y.m := rfl
 rw [e, List.getElem?_append_right (by show 5 ≤ 5 + k; omega), show 5 + k - [Value.int .i64 y.kind, .int .i64 y.n, .int .i64 y.i, .bool y.add, B y.data].length = k by show 5 + k - 5 = k; omega]
 exact hu
set_option maxRecDepth 16000 in
set_option maxHeartbeats 8000000 in
theorem great_ct (p : PlM) (hpc : p.acts.length ≤ p.pc) : Ct Tryz.prog 9 [plA p] (fun h => PlOk h p) [] (fun v A => (∃ b, v = .bool b ∧ (b = false → SmP p)) ∧ A = []) := by
 refine ct_enter 77 Tryz.func9 rfl rfl rfl ?_
 intro F hok
 obtain ⟨q1, hq1⟩ : ∃ q, q = decide ((400 : Int) < (p.acts.length : Nat)) := ⟨_, rfl⟩
 repeat refine x_ ?_
 refine gl_boxA rfl rfl ?_; intro g1
 refine a_ ?_
 repeat refine x_ ?_
 refine f_ z_1 ?_
 refine r_ z_10 ?_
 refine f_ (s_len_sl rfl) ?_
 refine f_ ((s_gtr rfl rfl).eb hq1) ?_
 repeat refine n_ ?_
 cases q1
 rotate_left
 ·repeat refine y_ ?_
  repeat refine x_ ?_
  refine a_ ?_
  repeat refine n_ ?_
  refine g_ret ?_
  exact at_end1 rfl rfl [] ⟨⟨true, rfl, fun h => by cases h⟩, rfl⟩ (fun _ h => h.dropAll)
 have h400 : p.acts.length ≤ 400 := by have := of_decide_eq_false hq1.symm; omega
 repeat refine x_ ?_
 refine a_ ?_
 repeat refine x_ ?_
 refine a_ ?_
 repeat refine n_ ?_
 refine g_loop (ι := Nat × Int) (fun x => x.1 ≤ p.acts.length ∧ (0 ≤ x.2 ∧ x.2 ≤ (x.1 : Int) * 200000000) ∧ ∀ j, j < x.1 → AcT x.2 (p.acts.getD j AcM0)) (fun x => [(1, Ptr g1), (3, .int .i64 x.2), (4, .int .i64 (x.1 : Nat))]) (fun _ => [.blk g1 (.cells (plC p).toArray 25)]) (fun x => p.acts.length - x.1) (0, 0) ⟨Nat.zero_le _, ⟨Int.le_refl _, by show (0 : Int) ≤ ((0 : Nat) : Int) * 200000000; omega⟩, fun j hj => absurd hj (Nat.not_lt_zero _)⟩ ?_ ?_ ?_
 ·(repeat (first | exact Sub.nil _ | refine Sub.cons rfl ?_))
 ·intro w hw; exact hw
 rintro ⟨i, T⟩ ⟨hi, hT, hA⟩
 simp only at hi hT hA
 repeat refine x_ ?_
 refine m_ ?_
 refine f_ z_1 ?_
 refine r_ z_10 ?_
 refine f_ (s_len_sl rfl) ?_
 refine f_ (s_lss rfl rfl) ?_
 repeat refine n_ ?_
 refine g_cond rfl (fun h => ?_) (fun h => ?_)
 rotate_left
 ·have hil : i = p.acts.length := by simp at h; omega
  repeat refine x_ ?_
  refine m_ ?_
  refine f_ (s_gtr rfl rfl) ?_
  refine a_ ?_
  repeat refine n_ ?_
  refine g_ret ?_
  refine at_end1 rfl rfl [] ⟨⟨_, rfl, fun hb => ⟨h400, fun a ha => ?_⟩⟩, rfl⟩ (fun _ h => h.dropAll)
  obtain ⟨j, hj, rfl⟩ := List.mem_iff_getElem.1 ha
  have h1 := hA j (by omega)
  rw [List.getD_eq_getElem?_getD, List.getElem?_eq_getElem hj] at h1
  have hb2 := of_decide_eq_false hb
  exact AcT.sm h1 (by simp only at hb2; omega)
 have hil : i < p.acts.length := by simp at h; omega
 have hsome := rdAc_some hok.rd hil
 obtain ⟨a, ha⟩ : ∃ a, a = p.acts.getD i AcM0 := ⟨_, rfl⟩
 have ham : a ∈ p.acts := by rw [ha, List.getD_eq_getElem?_getD, List.getElem?_eq_getElem hil]; exact List.getElem_mem _
 have hmo := hok.m a ham
 repeat refine x_ ?_
 refine f_ z_1 ?_
 refine r_ z_10 ?_
 refine m_ ?_
 refine f_ ((s_indexAddr rfl hsome rfl (by show 0 ≤ (i : Int) ∧ (i : Int) < (p.acts.length : Nat); omega)).eq (v' := .pointer (addO p.pa (18 * i))) (by congr 2; show (i : Int).toNat * 18 = 18 * i; omega)) ?_
 refine f_ z_8 ?_
 refine r_ ((s_loadN (cs := mmC a.m) rfl (fun w hw => rdAcM hw hok.rd (i := i) rfl hil ha) rfl).eq (v' := mmA a.m) rfl) ?_
 refine gl_allocA rfl ?_; intro g5
 (refine gl_store_blkW rfl rfl z_5 z_7 z_7 z_3 ?_)
 repeat refine n_ ?_
 obtain ⟨q2, hq2⟩ : ∃ q, q = decide ((100 : Int) < (a.m.p.ents.length : Nat)) := ⟨_, rfl⟩
 obtain ⟨q3, hq3⟩ : ∃ q, q = decide ((100 : Int) < (a.m.p.conf.length : Nat)) := ⟨_, rfl⟩
 rcases (show (q2 = false ∧ q3 = false) ∨ q2 = true ∨ (q2 = false ∧ q3 = true) by cases q2 <;> cases q3 <;> simp) with ⟨rfl, rfl⟩ | rfl | ⟨rfl, rfl⟩
 rotate_left
 iterate 2
  ·repeat refine y_ ?_
   refine g_region ?_
   refine f_ z_1 ?_
   refine r_ (by exact s_load_blk rfl z_2 a13_8) ?_
   refine f_ (s_len_sl rfl) ?_
   refine f_ ((s_gtr rfl rfl).eb hq2) ?_
   refine m_ ?_
   (first | refine gl_guard_no rfl rfl rfl rfl rfl rfl rfl ?_ | (refine v_ ?_; refine f_ z_1 ?_))
   (first | refine gl_guard_no rfl rfl rfl rfl rfl rfl rfl ?_ | (refine v_ ?_; refine r_ (by exact s_load_blk rfl z_2 a13_9) ?_))
   (first | refine gl_guard_no rfl rfl rfl rfl rfl rfl rfl ?_ | (refine v_ ?_; refine f_ (s_len_sl rfl) ?_))
   (first | refine gl_guard_no rfl rfl rfl rfl rfl rfl rfl ?_ | (refine v_ ?_; refine f_ ((s_gtr rfl rfl).eb hq3) ?_))
   refine f_ z_6 ?_
   repeat refine x_ ?_
   refine a_ ?_
   repeat refine n_ ?_
   refine g_ret ?_
   exact at_end1 rfl rfl [] ⟨⟨true, rfl, fun h => by cases h⟩, rfl⟩ (fun _ h => h.dropAll)
 have n2 : a.m.p.ents.length ≤ 100 := by have := of_decide_eq_false hq2.symm; omega
 have n3 : a.m.p.conf.length ≤ 100 := by have := of_decide_eq_false hq3.symm; omega
 have hi2 : (i : Int) * 200000000 ≤ 80000000000 := by omega
 obtain ⟨f1, hf1⟩ : ∃ f, f = min (a.data.length : Int) 1048576 := ⟨_, rfl⟩
 obtain ⟨f2, hf2⟩ : ∃ f, f = min (a.m.p.data.length : Int) 1048576 := ⟨_, rfl⟩
 have hf1r : 0 ≤ f1 ∧ f1 ≤ 1048576 := by omega
 have hf2r : 0 ≤ f2 ∧ f2 ≤ 1048576 := by omega
 repeat refine x_ ?_
 refine f_ z_1 ?_
 refine r_ (by exact s_load_blk rfl z_2 a13_8) ?_
 refine f_ (s_len_sl rfl) ?_
 refine f_ ((s_gtr rfl rfl).eb hq2) ?_
 refine m_ ?_
 (refine v_ ?_; refine f_ z_1 ?_)
 (refine v_ ?_; refine r_ (by exact s_load_blk rfl z_2 a13_9) ?_)
 (refine v_ ?_; refine f_ (s_len_sl rfl) ?_)
 (refine v_ ?_; refine f_ ((s_gtr rfl rfl).eb hq3) ?_)
 refine f_ z_12 ?_
 repeat refine n_ ?_
 refine g_draw ([2, 6, 11, 16, 21], [0, 0, 2, 0, 14, 30, 62, 126, 254, 511, 0, 1024, 3072, 7678, 16383, 0, 32768, 98304, 229376, 524287, 0, 1048576, 3145728, 8388607, 16777215], [8, 13]) [.blk g1 (.cells (plC p).toArray 25), blkMsg g5 a.m] 25 rfl ?_
 refine w_ 0 rfl (s_move rfl) ?_
 refine w_ 1 rfl z_1 ?_
 (refine ga_read_k 2 rfl z_11 (s_load_blk rfl .del z_7) k_ rfl rfl rfl z_4 ?_)
 refine w_ 3 rfl (s_move rfl) ?_
 refine w_ 4 rfl ((s_indexAddr rfl hsome rfl (by show 0 ≤ (i : Int) ∧ (i : Int) < (p.acts.length : Nat); omega)).eq (v' := .pointer (addO p.pa (18 * i))) (by congr 2; show (i : Int).toNat * 18 = 18 * i; omega)) ?_
 refine w_ 5 rfl z_8 ?_
 refine ga_readF 6 rfl (s_load1 (v := B a.data) rfl (fun w hw => rdAc1 hw hok.rd (i := i) (j := 4) rfl hil ha rfl)) k_ rfl rfl rfl z_4 ?_
 refine w_ 7 rfl (s_len_str rfl) ?_
 refine w_ 10 rfl z_1 ?_
 (refine ga_read_k 11 rfl z_9 (s_load_blk rfl .del a13_12) k_ rfl rfl rfl z_4 ?_)
 refine w_ 12 rfl (s_len_str rfl) ?_
 refine w_ 15 rfl z_1 ?_
 (refine ga_read_k 16 rfl z_9 (s_load_blk rfl .del a13_8) k_ rfl rfl rfl z_4 ?_)
 refine w_ 17 rfl (s_len_sl rfl) ?_
 refine w_ 18 rfl (s_mul_i64 rfl rfl (by omega)) ?_
 refine w_ 20 rfl z_1 ?_
 (refine ga_read_k 21 rfl z_9 (s_load_blk rfl .del a13_9) k_ rfl rfl rfl z_4 ?_)
 refine w_ 22 rfl (s_len_sl rfl) ?_
 refine ga_one 8 rfl z_4 ?_
 refine gl_callp rfl (few_ct _) (fun _ _ _ => trivial) rfl ?_; rw [← hf1]
 refine gl_nil ?_
 refine at_ga (.inr (by exact keeps_of k_)) ?_
 refine w_ 9 rfl (s_add_i64 rfl rfl (by show -9223372036854775808 ≤ T + f1 ∧ T + f1 ≤ 9223372036854775807; omega)) ?_
 refine ga_one 13 rfl z_4 ?_
 refine gl_callp rfl (few_ct _) (fun _ _ _ => trivial) rfl ?_; rw [← hf2]
 refine gl_nil ?_
 refine at_ga (.inr (by exact keeps_of k_)) ?_
 refine w_ 14 rfl (s_add_i64 rfl rfl (by show -9223372036854775808 ≤ T + f1 + f2 ∧ T + f1 + f2 ≤ 9223372036854775807; omega)) ?_
 refine w_ 19 rfl (s_add_i64 rfl rfl (by show -9223372036854775808 ≤ T + f1 + f2 + (a.m.p.ents.length : Int) * 8 ∧ T + f1 + f2 + (a.m.p.ents.length : Int) * 8 ≤ 9223372036854775807; omega)) ?_
 refine w_ 23 rfl (s_add_i64 rfl rfl (by show -9223372036854775808 ≤ T + f1 + f2 + (a.m.p.ents.length : Int) * 8 + (a.m.p.conf.length : Int) ∧ T + f1 + f2 + (a.m.p.ents.length : Int) * 8 + (a.m.p.conf.length : Int) ≤ 9223372036854775807; omega)) ?_
 refine w_ 24 rfl (s_assign rfl) ?_
 refine ga_done z_4 ?_
 repeat refine y_ ?_
 obtain ⟨T1, hT1⟩ : ∃ T1, T1 = T + f1 + f2 + (a.m.p.ents.length : Int) * 8 + (a.m.p.conf.length : Int) := ⟨_, rfl⟩
 repeat refine x_ ?_
 refine a_ ?_
 repeat refine n_ ?_
 refine g_loop (ι := Nat × Int) (fun x => x.1 ≤ a.m.p.ents.length ∧ (T1 ≤ x.2 ∧ x.2 ≤ T1 + (x.1 : Int) * 1048576) ∧ ∀ j, j < x.1 → min ((a.m.p.ents.getD j E0).2.2.length : Int) 1048576 ≤ x.2) (fun x => [(1, Ptr g1), (3, .int .i64 x.2), (4, .int .i64 (i : Nat)), (5, Ptr g5), (6, .int .i64 (x.1 : Nat))]) (fun _ => [.blk g1 (.cells (plC p).toArray 25), blkMsg g5 a.m]) (fun x => a.m.p.ents.length - x.1) (0, T1) ⟨Nat.zero_le _, ⟨Int.le_refl _, by show T1 ≤ T1 + ((0 : Nat) : Int) * 1048576; omega⟩, fun j hj => absurd hj (Nat.not_lt_zero _)⟩ ?_ ?_ ?_
 ·rw [hT1]; (repeat (first | exact Sub.nil _ | refine Sub.cons rfl ?_))
 ·intro w hw; exact hw.perm (perm_up z_2 (perm_up z_2 (.refl _)))
 rintro ⟨k, T2⟩ ⟨hk, hT2, hB⟩
 simp only at hk hT2 hB
 repeat refine x_ ?_
 refine m_ ?_
 refine f_ z_1 ?_
 refine r_ (by exact s_load_blk rfl z_2 a13_8) ?_
 refine f_ (s_len_sl rfl) ?_
 refine f_ (s_lss rfl rfl) ?_
 repeat refine n_ ?_
 refine g_cond rfl (fun h2 => ?_) (fun h2 => ?_)
 ·have hkl : k < a.m.p.ents.length := by simp at h2; omega
  have hsome2 := rdE_some hmo.e hkl
  obtain ⟨f3, hf3⟩ : ∃ f, f = min ((a.m.p.ents.getD k E0).2.2.length : Int) 1048576 := ⟨_, rfl⟩
  have hf3r : 0 ≤ f3 ∧ f3 ≤ 1048576 := by omega
  repeat refine x_ ?_
  refine m_ ?_
  refine f_ z_1 ?_
  refine r_ (by exact s_load_blk rfl z_2 a13_8) ?_
  refine m_ ?_
  refine f_ ((s_indexAddr rfl hsome2 rfl (by show 0 ≤ (k : Int) ∧ (k : Int) < (a.m.p.ents.length : Nat); omega)).eq (v' := .pointer (addO a.m.ea (3 * k))) (by congr 2; show (k : Int).toNat * 3 = 3 * k; omega)) ?_
  refine f_ z_8 ?_
  refine r_ (s_load1 (v := B (a.m.p.ents.getD k E0).2.2) rfl (fun w hw => rdE2 hw hmo.e (i := k) rfl hkl)) ?_
  refine f_ (s_len_str rfl) ?_
  refine gl_callp rfl (few_ct _) (fun _ _ _ => trivial) rfl ?_; rw [← hf3]
  refine f_ (s_add_i64 rfl rfl (by show -9223372036854775808 ≤ T2 + f3 ∧ T2 + f3 ≤ 9223372036854775807; omega)) ?_
  refine a_ ?_
  repeat refine x_ ?_
  refine m_ ?_
  refine f_ (s_add_i64 rfl rfl (by omega)) ?_
  refine a_ ?_
  repeat refine n_ ?_
  refine at_next (k + 1, T2 + f3) ⟨by simp only; omega, ⟨by simp only; omega, by simp only; omega⟩, fun j hj => ?_⟩ (by simp only; omega) ?_ ?_
  ·rcases Nat.lt_succ_iff_lt_or_eq.1 hj with h4 | rfl
   ·have := hB j h4; simp only; omega
   ·simp only; omega
  ·(repeat (first | exact Sub.nil _ | refine Sub.cons rfl ?_))
  ·intro w hw; exact hw
 have hkl : k = a.m.p.ents.length := by simp at h2; omega
 subst hkl
 repeat refine x_ ?_
 refine m_ ?_
 refine f_ (s_add_i64 rfl rfl (by omega)) ?_
 refine a_ ?_
 repeat refine n_ ?_
 refine at_next (i + 1, T2) ⟨by simp only; omega, ⟨by simp only; omega, by simp only; omega⟩, fun j hj => ?_⟩ (by simp only; omega) ?_ ?_
 ·rcases Nat.lt_succ_iff_lt_or_eq.1 hj with h4 | rfl
  ·exact AcT.mono (hA j h4) (by simp only; omega)
  ·rw [← ha]
   refine ⟨n2, n3, by rw [← hf1]; simp only; omega, by rw [← hf2]; simp only; omega, fun e he => ?_⟩
   obtain ⟨j, hj, rfl⟩ := List.mem_iff_getElem.1 he
   have := hB j hj
   rwa [List.getD_eq_getElem?_getD, List.getElem?_eq_getElem hj] at this
 ·(repeat (first | exact Sub.nil _ | refine Sub.cons rfl ?_))
 ·intro w hw; exact Hp.left (R := [blkMsg g5 a.m]) hw
end Go.Proofs.YtodcghipfolejaaGreat.Rf
namespace Go.Proofs.YtodcghipfolejaaGreat.Rf
open Go Go.Sl
def BegP (p : PlM) (v : Value) (A : List As) : Prop :=
 ∃ (s : WS) (Z : List As), v = .tuple #[.agg #[.slice s.ma s.ms.length s.mc, .slice s.fa s.fm.length s.fc], .bool true] ∧ s.w = beginP p.p ∧ A = OwnMi s.ma s.ms s.mc :: Z ∧ ∀ h, (∃ bs, Sat h Z bs) → WS.ok h s
theorem pl_tos (p : PlM) {i : Nat} (hi : i < 5) : (plC p).toArray[1 + i]? = some (.int .i64 (p.p.tos.getD i 0)) := by
 have : i = 0 ∨ i = 1 ∨ i = 2 ∨ i = 3 ∨ i = 4 := by omega
 rcases this with rfl | rfl | rfl | rfl | rfl <;> rfl
structure BegI (p : PlM) (x : List Mi × Option Addr × Nat × List As) : Prop where
 len : x.1.length ≤ 5
 ms : x.1.map (·.1) = (List.range x.1.length).map (newN p.p)
 ok : ∀ h, (∃ bs, Sat h x.2.2.2 bs) → ∀ y ∈ x.1, RRd h y.1 y.2 ∧ y.1.l.length ≤ y.2.lc
set_option maxRecDepth 16000 in
set_option maxHeartbeats 8000000 in
theorem Begin_ct (p : PlM) : Ct Tryz.prog 10 [plA p] (fun _ => True) [] (BegP p) := by
 refine ct_enter 38 Tryz.func10 rfl rfl rfl ?_
 intro F _
 repeat refine x_ ?_
 refine gl_boxA rfl rfl ?_; intro g1
 refine gl_allocA rfl ?_; intro g2
 refine a_ ?_
 repeat refine x_ ?_
 refine gl_allocA rfl ?_; intro g4
 repeat refine x_ ?_
 refine a_ ?_
 repeat refine n_ ?_
 refine g_own_nil 49 18 ?_
 refine g_loop (ι := List Mi × Option Addr × Nat × List As) (BegI p) (fun x => [(1, Ptr g1), (2, Ptr g2), (4, Ptr g4), (5, .int .i64 ((x.1.length : Nat) + 1))]) (fun x => .blk g4 (.cells #[.slice x.2.1 x.1.length x.2.2.1, .slice none 0 0] 31) :: .blk g1 (.cells (plC p).toArray 25) :: .blk g2 (.cells #[.slice none 0 0, .slice none 0 0] 31) :: OwnMi x.2.1 x.1 x.2.2.1 :: x.2.2.2) (fun x => 5 - x.1.length) ([], none, 0, []) ⟨Nat.zero_le _, rfl, fun h _ y hy => by cases hy⟩ ?_ ?_ ?_
 ·(repeat (first | exact Sub.nil _ | refine Sub.cons rfl ?_))
 ·intro w hw; exact hw.perm (perm_up z_2 (perm_up z_2 (perm_up z_2 (.refl _))))
 rintro ⟨ms, ma, mc, Z⟩ ⟨hl, hms, hZ⟩
 simp only at hl hms hZ
 repeat refine x_ ?_
 refine m_ ?_
 refine f_ (s_leq rfl rfl) ?_
 repeat refine n_ ?_
 refine g_cond rfl (fun h => ?_) (fun h => ?_)
 rotate_left
 ·have h5 : ms.length = 5 := by simp at h; omega
  repeat refine x_ ?_
  refine r_ z_14 ?_
  (refine gl_store_blkW rfl rfl z_5 z_7 z_7 z_3 ?_)
  refine a_ ?_
  repeat refine n_ ?_
  refine g_ret ?_
  exact at_endB1 rfl rfl rfl z_2 rfl (OwnMi ma ms mc :: Z) ⟨⟨ms, [], ma, mc, none, 0⟩, Z, rfl, by
   show (⟨ms.map (·.1), []⟩ : WP) = beginP p.p
   rw [hms, h5]; rfl, rfl, fun h hs => ⟨fun y hy => (hZ h hs y hy).1, fun y hy => (hZ h hs y hy).2, RdS.nil _ _, (fun m hm => by cases hm), Nat.le_refl _⟩⟩ (fun w hw => hw.drop.drop.drop)
 have hlt : ms.length < 5 := by simp at h; omega
 obtain ⟨t, ht⟩ : ∃ t, t = p.p.tos.getD ms.length 0 := ⟨_, rfl⟩
 have htr := uM_range t (k := 1000) (by decide)
 have hbn : badNew ((ms.length : Int) + 1) (toP t) = false := badNew_no (by omega) (by unfold toP; omega)
 have hml := memP_le p.mem
 have hpn : ∀ (ca : Option Addr) (cc : Nat), newP ((ms.length : Int) + 1) ⟨0, 0, 0⟩ ⟨0, 0, memP p.mem, [], ca, cc, none, 0⟩ [] (toP t) = newN p.p ms.length := fun ca cc => by rw [ht]; rfl
 have hto := pl_tos p hlt
 rw [← ht] at hto
 obtain ⟨p1, hp1⟩ : ∃ p1, p1 = newN p.p ms.length := ⟨_, rfl⟩
 repeat refine y_ ?_
 refine g_cutE (ι := Nat × RA) (fun x => [(1, Ptr g1), (2, Ptr g2), (4, Ptr g4), (5, .int .i64 ((ms.length : Nat) + 1)), (6, Ptr x.1), (7, .int .i64 0)]) (fun x => .blk x.1 (.cells (rsC p1 x.2).toArray 49) :: .blk g4 (.cells #[.slice ma ms.length mc, .slice none 0 0] 31) :: .blk g1 (.cells (plC p).toArray 25) :: .blk g2 (.cells #[.slice none 0 0, .slice none 0 0] 31) :: OwnMi ma ms mc :: (OwnS p1 x.2 ++ Z)) ?_ (fun x => ?_)
 ·repeat refine y_ ?_
  refine g_draw ([3, 10], [0, 0, 0, 4, 12, 28, 0, 64, 0, 448, 960, 2012, 4095, 8191, 16383, 16383, 0, 98303, 262143], [4, 11, 12, 16, 17]) [.blk g1 (.cells (plC p).toArray 25)] 19 rfl ?_
  refine w_ 0 rfl (s_move rfl) ?_
  refine w_ 1 rfl ((s_bld (cells := #[.int .u64 0, .int .i64 0, .int .u64 0]) rfl z_4)) ?_
  refine w_ 2 rfl z_1 ?_
  (refine ga_read_k 3 rfl z_11 (s_load_blk rfl .del z_7) k_ rfl rfl rfl z_4 ?_)
  refine w_ 6 rfl (s_move rfl) ?_
  refine w_ 7 rfl ((s_sub_i64 rfl rfl (by show -9223372036854775808 ≤ (ms.length : Int) + 1 - 1 ∧ (ms.length : Int) + 1 - 1 ≤ 9223372036854775807; omega)).eq (v' := .int .i64 (ms.length : Nat)) (by congr 1; show (ms.length : Int) + 1 - 1 = (ms.length : Nat); omega)) ?_
  refine w_ 8 rfl z_1 ?_
  refine w_ 9 rfl (s_indexAddr_arr rfl rfl (by omega)) ?_
  refine ga_read_k 10 rfl z_11 (s_load_blk (v := .int .i64 t) rfl .del (by rw [show 0 + 1 + ((ms.length : Nat) : Int).toNat * 1 = 1 + ms.length by omega]; exact hto)) k_ rfl rfl rfl z_4 ?_
  refine ga_two 4 16 rfl rfl z_4 ?_ ?_
  refine gl_call _ rfl (rmem_ct p.mem) i_ (fun _ _ _ => trivial) rfl ?_; rintro v A ⟨ca, cc, rfl, rfl⟩
  refine gl_nil ?_
  refine at_ga (.inr (by exact keeps_of k_)) ?_
  refine w_ 5 rfl ((s_bld (cells := #[.int .u64 0, .int .u64 0, .slice ca (memP p.mem).length cc, .slice none 0 0]) rfl z_4).eq (v' := LM.v ⟨0, 0, memP p.mem, [], ca, cc, none, 0⟩) rfl) ?_
  refine ga_two 11 16 rfl rfl z_4 ?_ ?_
  refine gl_callp rfl (timeout_ct t) (fun _ _ _ => trivial) rfl ?_
  refine gl_nil ?_
  refine at_ga (.inl z_4) ?_
  refine ga_two 12 16 rfl rfl z_4 ?_ ?_
  refine gl_call _ rfl (New_ok ((ms.length : Int) + 1) ⟨0, 0, 0⟩ ⟨0, 0, memP p.mem, [], ca, cc, none, 0⟩ [] (toP t) (by show (memP p.mem).length ≤ _; omega) (Nat.zero_le _) hbn) i_ (fun h hh ⟨bs, hb⟩ => ⟨Sat.rd (a := ca) hb z_2, RdS.nil _ _⟩) rfl ?_; rw [hpn, ← hp1]; rintro v A ⟨a1, rfl, rfl⟩
  refine gl_nil ?_
  refine at_ga (.inl z_4) ?_
  refine w_ 13 rfl (s_move rfl) ?_
  refine w_ 14 rfl (s_extract rfl rfl) ?_
  refine w_ 15 rfl (s_extract rfl rfl) ?_
  refine ga_one 16 rfl z_4 ?_
  refine gl_allocA rfl ?_; intro g6
  refine gl_nil ?_
  refine at_ga (.inl z_4) ?_
  refine ga_one 17 rfl z_4 ?_
  (refine gl_store_blkW rfl rfl z_5 z_7 z_7 z_3 ?_)
  refine gl_nil ?_
  refine at_ga (.inl z_4) ?_
  refine w_ 18 rfl (s_assign rfl) ?_
  refine ga_done z_4 ?_
  rotate_left 1
  refine gl_allocA rfl ?_; intro g6
  refine gl_nil ?_
  refine at_ga (.inl z_4) ?_
  refine ga_one 12 rfl z_4 ?_
  refine gl_call _ rfl (New_ok ((ms.length : Int) + 1) ⟨0, 0, 0⟩ ⟨0, 0, memP p.mem, [], ca, cc, none, 0⟩ [] (toP t) (by show (memP p.mem).length ≤ _; omega) (Nat.zero_le _) hbn) i_ (fun h hh ⟨bs, hb⟩ => ⟨Sat.rd (a := ca) hb z_2, RdS.nil _ _⟩) rfl ?_; rw [hpn, ← hp1]; rintro v A ⟨a1, rfl, rfl⟩
  refine gl_nil ?_
  refine at_ga (.inl z_4) ?_
  refine w_ 13 rfl (s_move rfl) ?_
  refine w_ 14 rfl (s_extract rfl rfl) ?_
  refine w_ 15 rfl (s_extract rfl rfl) ?_
  refine ga_one 17 rfl z_4 ?_
  (refine gl_store_blkW rfl rfl z_5 z_7 z_7 z_3 ?_)
  refine gl_nil ?_
  refine at_ga (.inl z_4) ?_
  refine w_ 18 rfl (s_assign rfl) ?_
  refine ga_done z_4 ?_
  rotate_left 1
  refine gl_allocA rfl ?_; intro g6
  refine gl_nil ?_
  refine at_ga (.inr (by exact keeps_of k_)) ?_
  refine ga_one 11 rfl z_4 ?_
  refine gl_callp rfl (timeout_ct t) (fun _ _ _ => trivial) rfl ?_
  refine gl_nil ?_
  refine at_ga (.inl z_4) ?_
  refine ga_one 12 rfl z_4 ?_
  refine gl_call _ rfl (New_ok ((ms.length : Int) + 1) ⟨0, 0, 0⟩ ⟨0, 0, memP p.mem, [], ca, cc, none, 0⟩ [] (toP t) (by show (memP p.mem).length ≤ _; omega) (Nat.zero_le _) hbn) i_ (fun h hh ⟨bs, hb⟩ => ⟨Sat.rd (a := ca) hb z_2, RdS.nil _ _⟩) rfl ?_; rw [hpn, ← hp1]; rintro v A ⟨a1, rfl, rfl⟩
  refine gl_nil ?_
  refine at_ga (.inl z_4) ?_
  refine w_ 13 rfl (s_move rfl) ?_
  refine w_ 14 rfl (s_extract rfl rfl) ?_
  refine w_ 15 rfl (s_extract rfl rfl) ?_
  refine ga_one 17 rfl z_4 ?_
  (refine gl_store_blkW rfl rfl z_5 z_7 z_7 z_3 ?_)
  refine gl_nil ?_
  refine at_ga (.inl z_4) ?_
  refine w_ 18 rfl (s_assign rfl) ?_
  refine ga_done z_4 ?_
  rotate_left 1
  refine gl_allocA rfl ?_; intro g6
  refine gl_nil ?_
  refine at_ga (.inr (by exact keeps_of k_)) ?_
  refine ga_one 4 rfl z_4 ?_
  refine gl_call _ rfl (rmem_ct p.mem) i_ (fun _ _ _ => trivial) rfl ?_; rintro v A ⟨ca, cc, rfl, rfl⟩
  refine gl_nil ?_
  refine at_ga (.inr (by exact keeps_of k_)) ?_
  refine w_ 5 rfl ((s_bld (cells := #[.int .u64 0, .int .u64 0, .slice ca (memP p.mem).length cc, .slice none 0 0]) rfl z_4).eq (v' := LM.v ⟨0, 0, memP p.mem, [], ca, cc, none, 0⟩) rfl) ?_
  refine ga_one 11 rfl z_4 ?_
  refine gl_callp rfl (timeout_ct t) (fun _ _ _ => trivial) rfl ?_
  refine gl_nil ?_
  refine at_ga (.inl z_4) ?_
  refine ga_one 12 rfl z_4 ?_
  refine gl_call _ rfl (New_ok ((ms.length : Int) + 1) ⟨0, 0, 0⟩ ⟨0, 0, memP p.mem, [], ca, cc, none, 0⟩ [] (toP t) (by show (memP p.mem).length ≤ _; omega) (Nat.zero_le _) hbn) i_ (fun h hh ⟨bs, hb⟩ => ⟨Sat.rd (a := ca) hb z_2, RdS.nil _ _⟩) rfl ?_; rw [hpn, ← hp1]; rintro v A ⟨a1, rfl, rfl⟩
  refine gl_nil ?_
  refine at_ga (.inl z_4) ?_
  refine w_ 13 rfl (s_move rfl) ?_
  refine w_ 14 rfl (s_extract rfl rfl) ?_
  refine w_ 15 rfl (s_extract rfl rfl) ?_
  refine ga_one 17 rfl z_4 ?_
  (refine gl_store_blkW rfl rfl z_5 z_7 z_7 z_3 ?_)
  refine gl_nil ?_
  refine at_ga (.inl z_4) ?_
  refine w_ 18 rfl (s_assign rfl) ?_
  refine ga_done z_4 ?_
  rotate_left 1
  all_goals (repeat refine y_ ?_)
  all_goals
   exact at_cutE (g6, a1) j_ (fun w hw => Hp.drop (x := OwnC ca (memP p.mem) cc) (hw.perm (perm_up z_2 (perm_up z_2 (perm_up z_2 (perm_up z_2 (perm_up z_2 (perm_up z_2 (perm_up z_2 (perm_up z_2 (perm_up z_2 (perm_up z_2 (.refl _)))))))))))))
 obtain ⟨g6, a1⟩ := x
 repeat refine x_ ?_
 refine m_ ?_
 refine f_ ((s_neq rfl rfl).eq (v' := .bool false) rfl) ?_
 repeat refine n_ ?_
 have hbytes : (ms.length + 1) * 224 ≤ 140737488355328 := by omega
 repeat refine x_ ?_
 refine f_ z_1 ?_
 refine r_ (by exact s_load_blk rfl z_2 a2_0) ?_
 refine r_ ((s_load_blkW rfl z_2 z_7).eq (v' := rsV p1 a1) rfl) ?_
 refine gl_buildSliceU rfl rfl rfl rfl rfl rfl (xs := miC (p1, a1)) rfl rfl ?_; intro a34 ha34
 refine gl_append (sz := 18) rfl rfl (fun a' c' => z_5) (fun w hw => (hw.ownN z_2).2.2.1) rfl rfl rfl (miC_one _) hbytes (by omega) rfl ?_; intro a35 c35 hc35
 refine f_ z_1 ?_
 (refine gl_store_blkC (pre := []) (post := [_]) rfl rfl z_5 z_7 z_7 z_7 ?_)
 repeat refine x_ ?_
 refine m_ ?_
 refine f_ (s_add_i64 rfl rfl (by omega)) ?_
 refine a_ ?_
 repeat refine n_ ?_
 have hnl : (ms ++ [(p1, a1)]).length = ms.length + 1 := by simp
 refine at_next (ms ++ [(p1, a1)], a35, c35, OwnS p1 a1 ++ Z) (show BegI p (ms ++ [(p1, a1)], a35, c35, OwnS p1 a1 ++ Z) from ⟨by show (ms ++ [(p1, a1)]).length ≤ 5; omega, ?_, fun h hs y hy => ?_⟩) (by show 5 - (ms ++ [(p1, a1)]).length < 5 - ms.length; omega) ?_ ?_
 ·simp only [hnl]
  rw [List.map_append, hms, List.range_succ, List.map_append, hp1]; rfl
 ·obtain ⟨s1, s2⟩ := Sat.two2 hs
  rcases List.mem_append.1 hy with hy | hy
  ·exact hZ h s2 y hy
  ·rw [List.mem_singleton.1 hy]; exact ownS_ok s1
 ·simp only [hnl]
  (repeat (first | exact Sub.nil _ | refine Sub.cons rfl ?_))
 ·intro w hw
  have e : miV (ms ++ [(p1, a1)]) = miV ms ++ miC (p1, a1) := by simp [List.flatMap_append]
  simp only [OwnMi, hnl, e]
  exact Hp.drop (x := .blk g6 (.cells (rsC p1 a1).toArray 49)) (Hp.drop (x := .own (.slice a34 1 1) 49 18 (miC (p1, a1))) (hw.perm (perm_up z_2 (perm_up z_2 (perm_up z_2 (perm_up z_2 (perm_up z_2 (perm_up z_2 (perm_up z_2 (perm_up z_2 (perm_up z_2 (perm_up z_2 (.refl _)))))))))))))
end Go.Proofs.YtodcghipfolejaaGreat.Rf
namespace Go.Proofs.YtodcghipfolejaaGreat.Rf
open Go Go.Sl
structure MSm (m : MP) : Prop where
 e : m.ents.length ≤ 1000000
 k : m.conf.length ≤ 1000000
set_option maxRecDepth 16000 in
set_option maxHeartbeats 8000000 in
theorem SameMessage_ct (p : MP) (ea eb ka kb : Option Addr) (ec ed kc kd : Nat) (hs : MSm p) : Pu Tryz.prog 44 [mmA ⟨p, ea, ec, ka, kc⟩, mmA ⟨p, eb, ed, kb, kd⟩] (fun h => MOk h ⟨p, ea, ec, ka, kc⟩ ∧ MOk h ⟨p, eb, ed, kb, kd⟩) (.bool true) := by
 have h1 := hs.e
 have h2 := hs.k
 refine ct_enter 94 Tryz.func44 rfl rfl rfl ?_
 rintro F ⟨ra, rb⟩
 repeat refine x_ ?_
 refine gl_boxA rfl rfl ?_; intro g2
 refine gl_boxA rfl rfl ?_; intro g3
 refine a_ ?_
 repeat refine x_ ?_
 refine f_ z_1 ?_
 refine r_ (by exact s_load_blk rfl z_2 a13_0) ?_
 refine f_ z_1 ?_
 refine r_ (by exact s_load_blk rfl z_2 a13_0) ?_
 refine f_ ((s_eql rfl rfl).eq (v' := .bool true) (by rw [decide_eq_true rfl])) ?_
 refine m_ ?_
 (refine v_ ?_; refine f_ z_1 ?_)
 (refine v_ ?_; refine r_ (by exact s_load_blk rfl z_2 a13_1) ?_)
 (refine v_ ?_; refine f_ z_1 ?_)
 (refine v_ ?_; refine r_ (by exact s_load_blk rfl z_2 a13_1) ?_)
 (refine v_ ?_; refine f_ ((s_eql rfl rfl).eq (v' := .bool true) (by rw [decide_eq_true rfl])) ?_)
 refine f_ z_13 ?_
 refine m_ ?_
 (refine v_ ?_; refine f_ z_1 ?_)
 (refine v_ ?_; refine r_ (by exact s_load_blk rfl z_2 a13_2) ?_)
 (refine v_ ?_; refine f_ z_1 ?_)
 (refine v_ ?_; refine r_ (by exact s_load_blk rfl z_2 a13_2) ?_)
 (refine v_ ?_; refine f_ ((s_eql rfl rfl).eq (v' := .bool true) (by rw [decide_eq_true rfl])) ?_)
 refine f_ z_13 ?_
 refine m_ ?_
 (refine v_ ?_; refine f_ z_1 ?_)
 (refine v_ ?_; refine r_ (by exact s_load_blk rfl z_2 a13_3) ?_)
 (refine v_ ?_; refine f_ z_1 ?_)
 (refine v_ ?_; refine r_ (by exact s_load_blk rfl z_2 a13_3) ?_)
 (refine v_ ?_; refine f_ ((s_eql rfl rfl).eq (v' := .bool true) (by rw [decide_eq_true rfl])) ?_)
 refine f_ z_13 ?_
 refine m_ ?_
 (refine v_ ?_; refine f_ z_1 ?_)
 (refine v_ ?_; refine r_ (by exact s_load_blk rfl z_2 a13_4) ?_)
 (refine v_ ?_; refine f_ z_1 ?_)
 (refine v_ ?_; refine r_ (by exact s_load_blk rfl z_2 a13_4) ?_)
 (refine v_ ?_; refine f_ ((s_eql rfl rfl).eq (v' := .bool true) (by rw [decide_eq_true rfl])) ?_)
 refine f_ z_13 ?_
 refine m_ ?_
 (refine v_ ?_; refine f_ z_1 ?_)
 (refine v_ ?_; refine r_ (by exact s_load_blk rfl z_2 a13_5) ?_)
 (refine v_ ?_; refine f_ z_1 ?_)
 (refine v_ ?_; refine r_ (by exact s_load_blk rfl z_2 a13_5) ?_)
 (refine v_ ?_; refine f_ ((s_eql rfl rfl).eq (v' := .bool true) (by rw [decide_eq_true rfl])) ?_)
 refine f_ z_13 ?_
 refine m_ ?_
 (refine v_ ?_; refine f_ z_1 ?_)
 (refine v_ ?_; refine r_ (by exact s_load_blk rfl z_2 a13_6) ?_)
 (refine v_ ?_; refine f_ z_1 ?_)
 (refine v_ ?_; refine r_ (by exact s_load_blk rfl z_2 a13_6) ?_)
 (refine v_ ?_; refine f_ ((s_eql rfl rfl).eq (v' := .bool true) (by rw [decide_eq_true rfl])) ?_)
 refine f_ z_13 ?_
 refine m_ ?_
 (refine v_ ?_; refine f_ z_1 ?_)
 (refine v_ ?_; refine r_ (by exact s_load_blk rfl z_2 a13_7) ?_)
 (refine v_ ?_; refine f_ z_1 ?_)
 (refine v_ ?_; refine r_ (by exact s_load_blk rfl z_2 a13_7) ?_)
 (refine v_ ?_; refine f_ ((s_eql_bool rfl rfl).eq (v' := .bool true) (by rw [beq_self_eq_true])) ?_)
 refine f_ z_13 ?_
 refine m_ ?_
 (refine v_ ?_; refine f_ z_1 ?_)
 (refine v_ ?_; refine r_ (by exact s_load_blk rfl z_2 a13_10) ?_)
 (refine v_ ?_; refine f_ z_1 ?_)
 (refine v_ ?_; refine r_ (by exact s_load_blk rfl z_2 a13_10) ?_)
 (refine v_ ?_; refine f_ ((s_eql rfl rfl).eq (v' := .bool true) (by rw [decide_eq_true rfl])) ?_)
 refine f_ z_13 ?_
 refine m_ ?_
 (refine v_ ?_; refine f_ z_1 ?_)
 (refine v_ ?_; refine r_ (by exact s_load_blk rfl z_2 a13_11) ?_)
 (refine v_ ?_; refine f_ z_1 ?_)
 (refine v_ ?_; refine r_ (by exact s_load_blk rfl z_2 a13_11) ?_)
 (refine v_ ?_; refine f_ ((s_eql rfl rfl).eq (v' := .bool true) (by rw [decide_eq_true rfl])) ?_)
 refine f_ z_13 ?_
 refine m_ ?_
 (refine v_ ?_; refine f_ z_1 ?_)
 (refine v_ ?_; refine r_ (by exact s_load_blk rfl z_2 a13_12) ?_)
 (refine v_ ?_; refine f_ z_1 ?_)
 (refine v_ ?_; refine r_ (by exact s_load_blk rfl z_2 a13_12) ?_)
 (refine v_ ?_; refine f_ ((s_eql_str rfl rfl).eq (v' := .bool true) (by rw [decide_eq_true rfl])) ?_)
 refine f_ z_13 ?_
 refine m_ ?_
 (refine v_ ?_; refine f_ z_1 ?_)
 (refine v_ ?_; refine r_ (by exact s_load_blk rfl z_2 a13_8) ?_)
 (refine v_ ?_; refine f_ z_1 ?_)
 (refine v_ ?_; refine r_ (by exact s_load_blk rfl z_2 a13_8) ?_)
 (refine v_ ?_; refine gl_callp rfl (SameEntries_ct p.ents p.ents ea eb ec ed (by omega)) (fun h hh _ => ⟨ra.e.le hh, rb.e.le hh⟩) rfl ?_; rw [decide_eq_true rfl])
 refine f_ z_13 ?_
 refine m_ ?_
 (refine v_ ?_; refine f_ z_1 ?_)
 (refine v_ ?_; refine r_ (by exact s_load_blk rfl z_2 a13_9) ?_)
 (refine v_ ?_; refine f_ z_1 ?_)
 (refine v_ ?_; refine r_ (by exact s_load_blk rfl z_2 a13_9) ?_)
 (refine v_ ?_; refine gl_callp rfl (SameInts_ct p.conf p.conf ka kb kc kd (by omega)) (fun h hh _ => ⟨ra.k.le hh, rb.k.le hh⟩) rfl ?_; rw [decide_eq_true rfl])
 refine f_ z_13 ?_
 refine a_ ?_
 repeat refine n_ ?_
 refine g_ret ?_
 exact at_end1 rfl rfl [] ⟨rfl, rfl⟩ (fun _ h => h.dropAll)
set_option maxRecDepth 16000 in
set_option maxHeartbeats 8000000 in
theorem SameMessages_ct (l m : List MM) (a b : Option Addr) (c d : Nat) (hp : l.map MM.p = m.map MM.p) (hs : ∀ x ∈ l, MSm x.p) (hl : l.length ≤ 1000000) : Pu Tryz.prog 19 [.slice a l.length c, .slice b m.length d] (fun h => (RdS h a (mmV l) ∧ ∀ x ∈ l, MOk h x) ∧ (RdS h b (mmV m) ∧ ∀ x ∈ m, MOk h x)) (.bool true) := by
 have hlm : l.length = m.length := by have := congrArg List.length hp; simpa using this
 refine ct_enter 27 Tryz.func19 rfl rfl rfl ?_
 rintro F ⟨⟨ra, oa⟩, ⟨rb, ob⟩⟩
 repeat refine x_ ?_
 refine a_ ?_
 repeat refine x_ ?_
 refine m_ ?_
 refine f_ (s_len_sl rfl) ?_
 refine m_ ?_
 refine f_ (s_len_sl rfl) ?_
 refine f_ ((s_neq rfl rfl).eq (v' := .bool false) (by rw [hlm, decide_eq_true rfl]; rfl)) ?_
 repeat refine x_ ?_
 refine a_ ?_
 repeat refine n_ ?_
 refine g_loop (ι := Nat) (fun i => i ≤ l.length) (fun i => [(0, .slice a l.length c), (1, .slice b m.length d), (5, .int .i64 (i : Nat))]) (fun _ => []) (fun i => l.length - i) 0 (Nat.zero_le _) ?_ ?_ ?_
 ·(repeat (first | exact Sub.nil _ | refine Sub.cons rfl ?_))
 ·intro w hw; exact hw.dropAll
 intro i hi
 repeat refine x_ ?_
 refine m_ ?_
 refine m_ ?_
 refine f_ (s_len_sl rfl) ?_
 refine f_ (s_lss rfl rfl) ?_
 repeat refine n_ ?_
 refine g_cond rfl (fun h => ?_) (fun h => ?_)
 rotate_left
 ·repeat refine y_ ?_
  repeat refine x_ ?_
  refine a_ ?_
  repeat refine n_ ?_
  refine g_ret ?_
  exact at_end1 rfl rfl [] ⟨rfl, rfl⟩ (fun _ h => h.dropAll)
 have hil : i < l.length := by simp at h; omega
 have him : i < m.length := by omega
 have hsa := rdMM_some ra hil
 have hsb := rdMM_some rb him
 obtain ⟨x, hx⟩ : ∃ x, x = l.getD i MM0 := ⟨_, rfl⟩
 obtain ⟨y, hy⟩ : ∃ x, x = m.getD i MM0 := ⟨_, rfl⟩
 have hxm : x ∈ l := by rw [hx, List.getD_eq_getElem?_getD, List.getElem?_eq_getElem hil]; exact List.getElem_mem _
 have hym : y ∈ m := by rw [hy, List.getD_eq_getElem?_getD, List.getElem?_eq_getElem him]; exact List.getElem_mem _
 have hxy : y.p = x.p := by
  have h1 : (l.map MM.p)[i]? = (m.map MM.p)[i]? := by rw [hp]
  rw [List.getElem?_map, List.getElem?_map, List.getElem?_eq_getElem hil, List.getElem?_eq_getElem him] at h1
  rw [hx, hy, List.getD_eq_getElem?_getD, List.getD_eq_getElem?_getD, List.getElem?_eq_getElem hil, List.getElem?_eq_getElem him]
  simpa using h1.symm
 obtain ⟨xp, xe, xf, xk, xj⟩ := x
 obtain ⟨yp, ye, yf, yk, yj⟩ := y
 simp only at hxy
 subst hxy
 repeat refine y_ ?_
 refine g_draw0 ([3, 7], [0, 0, 3, 7, 0, 0, 48, 112, 255, 511], [8]) 10 rfl ?_
 refine w_ 0 rfl (s_move rfl) ?_
 refine w_ 1 rfl (s_move rfl) ?_
 refine w_ 2 rfl (s_indexAddr rfl hsa rfl (by omega)) ?_
 refine ga_readF 3 rfl ((s_loadN (cs := mmC ⟨yp, xe, xf, xk, xj⟩) rfl (fun w hw => by rw [hx]; exact rdMM hw ra (i := i) (by omega) hil) rfl).eq (v' := mmA ⟨yp, xe, xf, xk, xj⟩) rfl) z_15 rfl rfl rfl z_4 ?_
 refine w_ 4 rfl (s_move rfl) ?_
 refine w_ 5 rfl (s_move rfl) ?_
 refine w_ 6 rfl (s_indexAddr rfl hsb rfl (by omega)) ?_
 refine ga_readF 7 rfl ((s_loadN (cs := mmC ⟨yp, ye, yf, yk, yj⟩) rfl (fun w hw => by rw [hy]; exact rdMM hw rb (i := i) (by omega) him) rfl).eq (v' := mmA ⟨yp, ye, yf, yk, yj⟩) rfl) z_15 rfl rfl rfl z_4 ?_
 refine ga_one 8 rfl z_4 ?_
 refine gl_callp rfl (SameMessage_ct yp xe ye xk yk xf yf xj yj (hs _ hxm)) (fun h hh _ => ⟨(oa _ hxm).le hh, (ob _ hym).le hh⟩) rfl ?_
 refine gl_nil ?_
 refine at_ga (.inl z_4) ?_
 refine w_ 9 rfl (s_not rfl) ?_
 refine ga_done z_4 ?_
 repeat refine x_ ?_
 refine m_ ?_
 refine f_ ((s_add_i64 rfl rfl (by omega)).eq (v' := .int .i64 ((i + 1 : Nat) : Int)) rfl) ?_
 refine a_ ?_
 repeat refine n_ ?_
 refine at_next (i + 1) hil (by omega) ?_ ?_
 ·(repeat (first | exact Sub.nil _ | refine Sub.cons rfl ?_))
 ·intro w hw; exact hw.dropAll
end Go.Proofs.YtodcghipfolejaaGreat.Rf
namespace Go.Proofs.YtodcghipfolejaaGreat.Rf
open Go Go.Sl
abbrev folA (a : RA) : RA := ⟨a.ca, a.cc, a.la, a.lc, none, 0, none, 0⟩
theorem fol_rd {h : Heap} {p : RP} {a : RA} (r : RRd h p a) (t n : Int) : RRd h (followP p t n) (folA a) := ⟨r.rc, r.rl, RdS.nil _ _, RdS.nil _ _⟩
set_option maxRecDepth 8000 in
set_option maxHeartbeats 4000000 in
theorem rFollow_ct (p : RP) (a : RA) (t n : Int) : Pu Tryz.prog 72 [rsV p a, .int .u64 t, .int .i64 n] (fun _ => True) (rsV (followP p t n) (folA a)) := by
 refine ct_enter 20 Tryz.func72 rfl rfl rfl ?_
 intro F _
 obtain ⟨q, hq⟩ : ∃ q, q = decide (p.term < t) := ⟨_, rfl⟩
 repeat refine x_ ?_
 refine gl_boxA rfl rfl ?_; intro g3
 refine gl_allocA rfl ?_; intro g6
 repeat refine x_ ?_
 refine m_ ?_
 refine f_ z_1 ?_
 refine r_ (by exact s_load_blk rfl z_2 a18_1) ?_
 refine f_ ((s_gtr rfl rfl).eb hq) ?_
 repeat refine n_ ?_
 cases q
 ·have hn := of_decide_eq_false hq.symm
  have e : followP p t n = { p with role := 0, leader := n, votes := [], peers := [] } := by unfold followP; rw [if_neg hn, if_neg hn]
  rw [e]
  repeat refine x_ ?_
  refine f_ z_1 ?_
  (refine gl_store_blkC (pre := [_, _, _]) (post := [_, _, _, _, _, _, _, _, _, _, _, _, _, _]) rfl rfl z_5 z_7 z_7 z_7 ?_)
  repeat refine x_ ?_
  refine m_ ?_
  refine f_ z_1 ?_
  (refine gl_store_blkC (pre := [_, _, _, _]) (post := [_, _, _, _, _, _, _, _, _, _, _, _, _]) rfl rfl z_5 z_7 z_7 z_7 ?_)
  repeat refine x_ ?_
  refine f_ z_1 ?_
  (refine gl_store_blkC (pre := [_, _, _, _, _, _, _, _, _, _, _, _, _]) (post := [_, _, _, _]) rfl rfl z_5 z_7 z_7 z_7 ?_)
  repeat refine x_ ?_
  refine f_ z_1 ?_
  (refine gl_store_blkC (pre := [_, _, _, _, _, _, _, _, _, _, _, _, _, _]) (post := [_, _, _]) rfl rfl z_5 z_7 z_7 z_7 ?_)
  repeat refine x_ ?_
  refine r_ z_14 ?_
  (refine gl_store_blkW rfl rfl z_5 z_7 z_7 z_3 ?_)
  repeat refine n_ ?_
  refine g_ret ?_
  exact at_endB rfl rfl z_2 rfl [] ⟨rfl, rfl⟩ (fun w hw => hw.dropAll)
 ·have hn := of_decide_eq_true hq.symm
  have e : followP p t n = { p with term := t, vote := 0, role := 0, leader := n, votes := [], peers := [] } := by unfold followP; rw [if_pos hn, if_pos hn]
  rw [e]
  repeat refine x_ ?_
  refine m_ ?_
  refine f_ z_1 ?_
  (refine gl_store_blkC (pre := [_]) (post := [_, _, _, _, _, _, _, _, _, _, _, _, _, _, _, _]) rfl rfl z_5 z_7 z_7 z_7 ?_)
  repeat refine x_ ?_
  refine f_ z_1 ?_
  (refine gl_store_blkC (pre := [_, _]) (post := [_, _, _, _, _, _, _, _, _, _, _, _, _, _, _]) rfl rfl z_5 z_7 z_7 z_7 ?_)
  repeat refine x_ ?_
  refine f_ z_1 ?_
  (refine gl_store_blkC (pre := [_, _, _]) (post := [_, _, _, _, _, _, _, _, _, _, _, _, _, _]) rfl rfl z_5 z_7 z_7 z_7 ?_)
  repeat refine x_ ?_
  refine m_ ?_
  refine f_ z_1 ?_
  (refine gl_store_blkC (pre := [_, _, _, _]) (post := [_, _, _, _, _, _, _, _, _, _, _, _, _]) rfl rfl z_5 z_7 z_7 z_7 ?_)
  repeat refine x_ ?_
  refine f_ z_1 ?_
  (refine gl_store_blkC (pre := [_, _, _, _, _, _, _, _, _, _, _, _, _]) (post := [_, _, _, _]) rfl rfl z_5 z_7 z_7 z_7 ?_)
  repeat refine x_ ?_
  refine f_ z_1 ?_
  (refine gl_store_blkC (pre := [_, _, _, _, _, _, _, _, _, _, _, _, _, _]) (post := [_, _, _]) rfl rfl z_5 z_7 z_7 z_7 ?_)
  repeat refine x_ ?_
  refine r_ z_14 ?_
  (refine gl_store_blkW rfl rfl z_5 z_7 z_7 z_3 ?_)
  repeat refine n_ ?_
  refine g_ret ?_
  exact at_endB rfl rfl z_2 rfl [] ⟨rfl, rfl⟩ (fun w hw => hw.dropAll)
def IntsP (Pre : Heap → Prop) (l : List Int) (v : Value) (A : List As) : Prop := ∃ ma mc, v = .slice ma l.length mc ∧ ∀ h, Pre h → (∃ bs, Sat h A bs) → RdS h ma (intsV l)
theorem conf_ints {p : RP} {a : RA} {r : List Int × Int} {x : Option Addr} {c : Nat} {A : List As} (h : (r.1 = (p.lm a).conf ∧ x = (p.lm a).ca ∧ c = (p.lm a).cc ∧ A = []) ∨ A = [OwnC x r.1 c]) : ∀ h, RRd h p a → (∃ bs, Sat h A bs) → RdS h x (intsV r.1) := by
 intro hp hr ⟨bs, hb⟩
 rcases h with ⟨h1, h2, _, _⟩ | rfl
 ·rw [h1, h2]; exact hr.rc
 ·exact Sat.rd (a := x) hb z_2
set_option maxRecDepth 8000 in
set_option maxHeartbeats 4000000 in
theorem rMembers_ct (p : RP) (a : RA) (hf : PFit p) (hc : p.l.length ≤ a.lc) : Ct Tryz.prog 14 [rsV p a] (fun h => RRd h p a) [] (IntsP (fun h => RRd h p a) (confL p)) := by
 have hg := hf.fit a hc
 have hla := hf.last
 have hla' : 0 ≤ lastI (p.lm a) ∧ lastI (p.lm a) ≤ 18446744073709551615 := by show 0 ≤ lastI p.g ∧ lastI p.g ≤ _; omega
 refine ct_enter 15 Tryz.func14 rfl rfl rfl ?_
 intro F hr
 repeat refine x_ ?_
 refine gl_boxA rfl rfl ?_; intro g1
 refine a_ ?_
 repeat refine n_ ?_
 refine g_draw ([1, 3], [0, 1, 0, 4, 12, 31, 63, 127, 127, 255, 1023], [4, 5]) [.blk g1 (.cells (rsC p a).toArray 49)] 11 rfl ?_
 refine w_ 0 rfl z_1 ?_
 refine ga_read_k 1 rfl z_11 ((s_load_blkN rfl .del z_7).eq (v' := (p.lm a).v) rfl) z_15 rfl rfl rfl z_4 ?_
 refine w_ 2 rfl z_1 ?_
 refine ga_read_k 3 rfl z_11 ((s_load_blkN rfl .del z_7).eq (v' := (p.lm a).v) rfl) z_15 rfl rfl rfl z_4 ?_
 refine ga_one 4 rfl z_4 ?_
 refine gl_callp rfl (rLast_ct (p.lm a) hg) (fun _ _ _ => trivial) rfl ?_
 refine gl_nil ?_
 refine at_ga (.inr (by exact keeps_of z_15)) ?_
 refine ga_one 5 rfl z_4 ?_
 refine gl_call _ rfl (rConf_ct (p.lm a) (lastI (p.lm a)) hg hf.dat hla') i_ (fun h hh _ => hr.rl.le hh) rfl ?_; rintro v A ⟨x, c, rfl, hA⟩
 refine gl_nil ?_
 refine at_ga (.inl z_4) ?_
 refine w_ 6 rfl (s_move rfl) ?_
 refine w_ 7 rfl (s_extract rfl rfl) ?_
 refine w_ 8 rfl (s_extract rfl rfl) ?_
 refine w_ 9 rfl (s_assign rfl) ?_
 refine w_ 10 rfl (s_assign rfl) ?_
 refine ga_done z_4 ?_
 repeat refine x_ ?_
 refine m_ ?_
 refine a_ ?_
 repeat refine n_ ?_
 refine g_ret ?_
 have e : confAt (p.lm a) (lastI (p.lm a)) = confAt p.g (lastI p.g) := confAt_any p a _
 refine at_end1 rfl rfl A ⟨x, c, by rw [e]; rfl, ?_⟩ (fun w hw => Hp.left hw)
 have := conf_ints (p := p) (a := a) hA
 rw [e] at this
 exact this
set_option maxRecDepth 8000 in
set_option maxHeartbeats 4000000 in
theorem rStands_ct (p : RP) (a : RA) (hf : PFit p) (hc : p.l.length ≤ a.lc) : Pu Tryz.prog 67 [rsV p a] (fun h => RRd h p a) (.bool (mayP p)) := by
 have hg := hf.fit a hc
 have hla := hf.last
 have hla' : 0 ≤ lastI (p.lm a) ∧ lastI (p.lm a) ≤ 18446744073709551615 := by show 0 ≤ lastI p.g ∧ lastI p.g ≤ _; omega
 have hcn := hf.cn (lastI p.g)
 have hca := hf.ca (lastI p.g)
 have e : confAt (p.lm a) (lastI (p.lm a)) = confAt p.g (lastI p.g) := confAt_any p a _
 refine ct_enter 36 Tryz.func67 rfl rfl rfl ?_
 intro F hr
 obtain ⟨q1, hq1⟩ : ∃ q, q = inB (confL p) p.id := ⟨_, rfl⟩
 obtain ⟨q2, hq2⟩ : ∃ q, q = decide (confI p ≤ p.commit) := ⟨_, rfl⟩
 have hm : mayP p = (q1 || (!q2 && inB (confAt p.g (confI p - 1)).1 p.id)) := by
  unfold mayP
  rw [← hq1, hq2]
  congr 2
  rw [Bool.eq_iff_iff, Bool.not_eq_true', decide_eq_true_eq, decide_eq_false_iff_not]; omega
 repeat refine x_ ?_
 refine gl_boxA rfl rfl ?_; intro g1
 refine a_ ?_
 repeat refine n_ ?_
 refine g_draw ([1, 3], [0, 1, 0, 4, 12, 31, 63, 127, 127, 255, 1023], [4, 5]) [.blk g1 (.cells (rsC p a).toArray 49)] 11 rfl ?_
 refine w_ 0 rfl z_1 ?_
 refine ga_read_k 1 rfl z_11 ((s_load_blkN rfl .del z_7).eq (v' := (p.lm a).v) rfl) z_15 rfl rfl rfl z_4 ?_
 refine w_ 2 rfl z_1 ?_
 refine ga_read_k 3 rfl z_11 ((s_load_blkN rfl .del z_7).eq (v' := (p.lm a).v) rfl) z_15 rfl rfl rfl z_4 ?_
 refine ga_one 4 rfl z_4 ?_
 refine gl_callp rfl (rLast_ct (p.lm a) hg) (fun _ _ _ => trivial) rfl ?_
 refine gl_nil ?_
 refine at_ga (.inr (by exact keeps_of z_15)) ?_
 refine ga_one 5 rfl z_4 ?_
 refine gl_call _ rfl (rConf_ct (p.lm a) (lastI (p.lm a)) hg hf.dat hla') i_ (fun h hh _ => hr.rl.le hh) rfl ?_; rintro v A ⟨x, c, rfl, hA⟩; rw [e] at hA ⊢; refine gl_rot ?_
 refine gl_nil ?_
 refine at_ga (.inl z_4) ?_
 refine w_ 6 rfl (s_move rfl) ?_
 refine w_ 7 rfl (s_extract rfl rfl) ?_
 refine w_ 8 rfl (s_extract rfl rfl) ?_
 refine w_ 9 rfl (s_assign rfl) ?_
 refine w_ 10 rfl (s_assign rfl) ?_
 refine ga_done z_4 ?_
 repeat refine y_ ?_
 have hrx := conf_ints (p := p) (a := a) hA
 repeat refine x_ ?_
 refine m_ ?_
 refine f_ z_1 ?_
 refine r_ (by exact s_load_blk rfl z_2 a18_0) ?_
 refine gl_callp rfl (In_ct (confL p) p.id x c (by show (confAt p.g (lastI p.g)).1.length ≤ _; omega)) (fun h hh hs => hrx h (hr.le hh) (by have := sat_tail hs; rw [List.append_nil] at this; exact this)) rfl ?_; rw [← hq1]
 repeat refine n_ ?_
 cases q1
 rotate_left
 ·rw [hm]
  repeat refine x_ ?_
  refine a_ ?_
  repeat refine n_ ?_
  refine g_ret ?_
  exact at_end1 rfl rfl [] ⟨rfl, rfl⟩ (fun _ h => h.dropAll)
 repeat refine x_ ?_
 refine m_ ?_
 refine f_ z_1 ?_
 refine r_ (by exact s_load_blk rfl z_2 a18_10) ?_
 refine f_ ((s_leq rfl rfl).eb hq2) ?_
 repeat refine n_ ?_
 cases q2
 rotate_left
 ·rw [hm]
  repeat refine x_ ?_
  refine a_ ?_
  repeat refine n_ ?_
  refine g_ret ?_
  exact at_end1 rfl rfl [] ⟨rfl, rfl⟩ (fun _ h => h.dropAll)
 have hco : p.commit < confI p := by have := of_decide_eq_false hq2.symm; omega
 have hc0 := hf.commit
 have hcI : confI p = (confAt p.g (lastI p.g)).2 := rfl
 have hcn2 := hf.cn (confI p - 1)
 have e2 : confAt (p.lm a) (confI p - 1) = confAt p.g (confI p - 1) := confAt_any p a _
 rw [hm]
 repeat refine x_ ?_
 refine f_ z_1 ?_
 refine r_ ((s_load_blkN rfl z_2 z_7).eq (v' := (p.lm a).v) rfl) ?_
 refine m_ ?_
 refine f_ ((s_sub_u64 rfl rfl (by show 0 ≤ confI p - 1 ∧ confI p - 1 ≤ _; omega)).eq (v' := .int .u64 (confI p - 1)) rfl) ?_
 refine gl_call _ rfl (rConf_ct (p.lm a) (confI p - 1) hg hf.dat (by omega)) i_ (fun h hh _ => hr.rl.le hh) rfl ?_; rintro v B ⟨y, d, rfl, hB⟩; rw [e2] at hB ⊢; refine gl_rot ?_
 refine m_ ?_
 refine f_ (s_extract rfl rfl) ?_
 refine f_ (s_extract rfl rfl) ?_
 refine a_ ?_
 refine a_ ?_
 repeat refine n_ ?_
 have hry := conf_ints (p := p) (a := a) hB
 repeat refine x_ ?_
 refine m_ ?_
 refine f_ z_1 ?_
 refine r_ (by exact s_load_blk rfl z_2 a18_0) ?_
 refine gl_callp rfl (In_ct (confAt p.g (confI p - 1)).1 p.id y d (by omega)) (fun h hh hs => hry h (hr.le hh) (Sat.two2 (sat_tail hs)).1) rfl ?_
 refine a_ ?_
 repeat refine n_ ?_
 refine g_ret ?_
 exact at_end1 rfl rfl [] ⟨rfl, rfl⟩ (fun _ h => h.dropAll)
theorem end_term {g : LM} (hb : 0 ≤ g.base) : termV g (lastI g) = lastT g := (last_term g hb).1
set_option maxRecDepth 8000 in
set_option maxHeartbeats 4000000 in
theorem rEnd_ct (g : LM) (hf : g.fit) : Pu Tryz.prog 70 [g.v] (fun h => RdS h g.la (enV g.l)) (.tuple #[.int .u64 (lastI g), .int .u64 (lastT g)]) := by
 have h1 := hf.lo
 have h2 := hf.hi
 have h3 := hf.len
 have hl : 0 ≤ lastI g ∧ lastI g ≤ 18446744073709551615 := by unfold lastI; omega
 refine ct_enter 17 Tryz.func70 rfl rfl rfl ?_
 intro F hr
 repeat refine x_ ?_
 refine gl_boxA rfl rfl ?_; intro g1
 refine a_ ?_
 refine a_ ?_
 repeat refine x_ ?_
 refine r_ z_14 ?_
 refine gl_callp rfl (rLast_ct g hf) (fun _ _ _ => trivial) rfl ?_
 refine a_ ?_
 repeat refine x_ ?_
 refine r_ z_14 ?_
 refine m_ ?_
 refine gl_callp rfl (rTerm_ct g (lastI g) hf hl) (fun h hh _ => hr.le hh) rfl ?_; rw [end_term h1]
 refine m_ ?_
 refine f_ (s_extract rfl rfl) ?_
 refine f_ (s_extract rfl rfl) ?_
 refine a_ ?_
 refine a_ ?_
 repeat refine x_ ?_
 refine m_ ?_
 refine m_ ?_
 refine a_ ?_
 refine a_ ?_
 repeat refine n_ ?_
 refine g_ret ?_
 exact at_end2 rfl rfl rfl [] ⟨rfl, rfl⟩ (fun _ h => h.dropAll)
theorem rLeast_ct (a b c : Int) : Pu Tryz.prog 107 [.int .u64 a, .int .u64 b, .int .u64 c] (fun _ => True) (.int .u64 (min (min a b) c)) := by
 refine ct_enter 16 Tryz.func107 rfl rfl rfl ?_
 intro F _
 obtain ⟨q1, hq1⟩ : ∃ q, q = decide (b < a) := ⟨_, rfl⟩
 obtain ⟨m, hm⟩ : ∃ m, m = min a b := ⟨_, rfl⟩
 obtain ⟨q2, hq2⟩ : ∃ q, q = decide (c < m) := ⟨_, rfl⟩
 repeat refine x_ ?_
 refine a_ ?_
 repeat refine x_ ?_
 refine m_ ?_
 refine m_ ?_
 refine f_ ((s_lss rfl rfl).eb hq1) ?_
 repeat refine n_ ?_
 refine g_cutK [(0, .int .u64 m), (2, .int .u64 c)] [] ?_ ?_
 ·cases q1
  ·have e : m = a := by have := of_decide_eq_false hq1.symm; omega
   rw [e]
   repeat refine y_ ?_
   exact at_cut j_ (fun _ h => h.dropAll)
  ·have e : m = b := by have := of_decide_eq_true hq1.symm; omega
   rw [e]
   repeat refine x_ ?_
   refine m_ ?_
   refine a_ ?_
   repeat refine n_ ?_
   exact at_cut j_ (fun _ h => h.dropAll)
 repeat refine x_ ?_
 refine m_ ?_
 refine m_ ?_
 refine f_ ((s_lss rfl rfl).eb hq2) ?_
 repeat refine n_ ?_
 rw [← hm]
 cases q2
 ·have e : min m c = m := by have := of_decide_eq_false hq2.symm; omega
  rw [e]
  repeat refine x_ ?_
  refine m_ ?_
  refine a_ ?_
  repeat refine n_ ?_
  refine g_ret ?_
  exact at_end1 rfl rfl [] ⟨rfl, rfl⟩ (fun _ h => h.dropAll)
 ·have e : min m c = c := by have := of_decide_eq_true hq2.symm; omega
  rw [e]
  repeat refine x_ ?_
  refine m_ ?_
  refine a_ ?_
  repeat refine x_ ?_
  refine m_ ?_
  refine a_ ?_
  repeat refine n_ ?_
  refine g_ret ?_
  exact at_end1 rfl rfl [] ⟨rfl, rfl⟩ (fun _ h => h.dropAll)
end Go.Proofs.YtodcghipfolejaaGreat.Rf
namespace Go.Proofs.YtodcghipfolejaaGreat.Rf
open Go Go.Sl
abbrev Lg := List Ent
def cfN (C0 : List Int) (G : Lg) : Nat → List Int
 | 0 => C0
 | n + 1 => if isC (G.getD n E0) = true then readL (G.getD n E0).2.2 else cfN C0 G n
def ConfAt (G : Lg) (k : Nat) : Prop := ∃ e, G[k]? = some e ∧ isC e = true
structure Gh where
 L : Int → Lg
 B : Int → Lg
 CB : Int → Int → Lg
 Win : Int → Int → Prop
 PV : Int → Int → Int → Prop
 Acc : Int → Int → Nat → Prop
 Com : Int → Nat → Nat → Prop
variable {C0 : List Int} {g : Gh}
end Go.Proofs.YtodcghipfolejaaGreat.Rf
namespace Go.Proofs.YtodcghipfolejaaGreat.Rf
open Go Go.Sl
def tmI (G : Lg) (n : Nat) : Int := if n = 0 then 0 else (G.getD (n - 1) E0).1
structure Rep (C0 : List Int) (p : RP) (F : Lg) : Prop where
 b0 : 0 ≤ p.base
 bl : p.base.toNat ≤ F.length
 l : p.l = F.drop p.base.toNat
 bt : p.bt = tmI F p.base.toNat
 conf : p.conf = cfN C0 F p.base.toNat
variable {C0 : List Int} {p : RP} {F : Lg}
theorem Rep.getD (h : Rep C0 p F) (k : Nat) : p.l.getD k E0 = F.getD (p.base.toNat + k) E0 := by
 rw [h.l, List.getD_eq_getElem?_getD, List.getD_eq_getElem?_getD, List.getElem?_drop]
end Go.Proofs.YtodcghipfolejaaGreat.Rf
namespace Go.Proofs.YtodcghipfolejaaGreat.Rf
open Go Go.Sl
variable {C0 : List Int} {g g' : Gh}
theorem act_n {K : Int} {w : WP} {a : AcP} (B : WB K w) : 0 ≤ (actP w a).n ∧ (actP w a).n < 5 := by
 have hr := nOf_range a
 have he : 0 ≤ (evOf w a).n ∧ (evOf w a).n < 5 := by
  unfold evOf
  split
  ·split
   ·exact ⟨Int.le_refl _, (show (0 : Int) < 5 by decide)⟩
   ·have := (B.fl _ (flM_mem (w := w) (a := a) (by omega))).to
    unfold NB at this
    show 0 ≤ (flM w a).to - 1 ∧ (flM w a).to - 1 < 5
    omega
  ·split
   ·exact hr
   split
   ·exact hr
   split
   ·exact hr
   split
   ·exact hr
   ·exact hr
 unfold actP
 split
 ·exact hr
 split
 ·exact he
 ·exact he
end Go.Proofs.YtodcghipfolejaaGreat.Rf
namespace Go.Proofs.YtodcghipfolejaaGreat.Rf
open Go Go.Sl
abbrev lgO (X : Nat) (g : LM) : As := .blk X (.cells #[.int .u64 g.base, .int .u64 g.bt, .slice g.ca g.conf.length g.cc, .slice g.la g.l.length g.lc] 46)
abbrev enO (X : Nat) (e : Ent) : As := .blk X (.cells #[.int .u64 e.1, .int .i64 e.2.1, B e.2.2] 51)
end Go.Proofs.YtodcghipfolejaaGreat.Rf
namespace Go.Proofs.YtodcghipfolejaaGreat.Rf
open Go Go.Sl
structure SD where
 p : RP
 a : RA
 outs : List MM
 oa : Option Addr
 oc : Nat
 er : Int
abbrev sdC (s : SD) : List Value := [.int .i64 s.p.id, .int .u64 s.p.term, .int .i64 s.p.vote, .int .i64 s.p.role, .int .i64 s.p.leader, .int .u64 s.p.base, .int .u64 s.p.bt, .slice s.a.ca s.p.conf.length s.a.cc, .slice s.a.la s.p.l.length s.a.lc, B s.p.img, .int .u64 s.p.commit, .int .i64 s.p.ticks, .int .i64 s.p.tout, .slice s.a.va s.p.votes.length s.a.vc, .slice s.a.pa s.p.peers.length s.a.pc, B s.p.piece, .int .u64 s.p.pix, .int .u64 s.p.pt, .slice s.oa s.outs.length s.oc, .int .i64 s.er]
abbrev sdV (s : SD) : Value := .agg #[.int .i64 s.p.id, .int .u64 s.p.term, .int .i64 s.p.vote, .int .i64 s.p.role, .int .i64 s.p.leader, .int .u64 s.p.base, .int .u64 s.p.bt, .slice s.a.ca s.p.conf.length s.a.cc, .slice s.a.la s.p.l.length s.a.lc, B s.p.img, .int .u64 s.p.commit, .int .i64 s.p.ticks, .int .i64 s.p.tout, .slice s.a.va s.p.votes.length s.a.vc, .slice s.a.pa s.p.peers.length s.a.pc, B s.p.piece, .int .u64 s.p.pix, .int .u64 s.p.pt, .slice s.oa s.outs.length s.oc, .int .i64 s.er]
structure SdOk (h : Heap) (s : SD) : Prop where
 r : RRd h s.p s.a
 o : RdS h s.oa (mmV s.outs)
 m : ∀ m ∈ s.outs, MOk h m
theorem SdOk.le {h h' : Heap} {s : SD} (f : SdOk h s) (l : Heap.le h h') : SdOk h' s := ⟨f.r.le l, f.o.le l, fun m hm => (f.m m hm).le l⟩
def SdP (Pre : Heap → Prop) (p' : RP) (msgs : List MP) (er : Int) (v : Value) (A : List As) : Prop :=
 ∃ s' : SD, v = sdV s' ∧ s'.p = p' ∧ s'.outs.map MM.p = msgs ∧ s'.er = er ∧ s'.p.l.length ≤ s'.a.lc ∧ ∀ h, Pre h → (∃ bs, Sat h A bs) → SdOk h s'
instance : HBld Tryz.prog 60 #[{ name := "S", type := 49, offset := 0, embedded := false, tag := "", pkgPath := "", byteOffset := 0 }, { name := "Out", type := 29, offset := 18, embedded := false, tag := "", pkgPath := "", byteOffset := 224 }, { name := "Err", type := 3, offset := 19, embedded := false, tag := "", pkgPath := "", byteOffset := 248 }] [(0, 18), (18, 1), (19, 1)] := ⟨Tryz.underlying60, by kernel_rfl, by kernel_rfl⟩
def tellM (p : RP) (to : Int) (m : MP) : MP := { m with frm := p.id, to := to, term := p.term }
abbrev tellMM (p : RP) (to : Int) (m : MM) : MM := { m with p := tellM p to m.p }
set_option maxRecDepth 16000 in
set_option maxHeartbeats 8000000 in
theorem rTell_ct (s : SD) (to : Int) (m : MM) (hc : s.p.l.length ≤ s.a.lc) (ho : s.outs.length ≤ 100000000) : Ct Tryz.prog 71 [sdV s, .int .i64 to, mmA m] (fun h => SdOk h s ∧ MOk h m) [] (SdP (fun h => SdOk h s ∧ MOk h m) s.p (s.outs.map MM.p ++ [tellM s.p to m.p]) s.er) := by
 refine ct_enter 26 Tryz.func71 rfl rfl rfl ?_
 rintro F ⟨hs, hm⟩
 repeat refine x_ ?_
 refine gl_boxA rfl rfl ?_; intro g3
 refine gl_boxA rfl rfl ?_; intro g5
 refine gl_allocA rfl ?_; intro g6
 repeat refine n_ ?_
 refine g_draw ([2, 6], [0, 1, 3, 0, 0, 16, 48, 7, 135, 399, 911, 2047, 4095], [8, 10, 12]) [.blk g3 (.cells (sdC s).toArray 60)] 13 rfl ?_
 refine w_ 0 rfl z_1 ?_
 refine w_ 1 rfl z_1 ?_
 (refine ga_read_k 2 rfl z_11 (s_load_blk rfl .del a20_0) k_ rfl rfl rfl z_4 ?_)
 refine w_ 3 rfl (s_move rfl) ?_
 refine w_ 4 rfl z_1 ?_
 refine w_ 5 rfl z_1 ?_
 (refine ga_read_k 6 rfl z_11 (s_load_blk rfl .del a20_1) k_ rfl rfl rfl z_4 ?_)
 refine w_ 7 rfl z_1 ?_
 refine ga_one 8 rfl z_4 ?_
 (refine gl_store_blkC (pre := [_]) (post := [_, _, _, _, _, _, _, _, _, _, _]) rfl rfl z_5 z_7 z_7 z_7 ?_)
 refine gl_nil ?_
 refine at_ga (.inr (by exact keeps_of k_)) ?_
 refine w_ 9 rfl z_1 ?_
 refine ga_one 10 rfl z_4 ?_
 (refine gl_store_blkC (pre := [_, _]) (post := [_, _, _, _, _, _, _, _, _, _]) rfl rfl z_5 z_7 z_7 z_7 ?_)
 refine gl_nil ?_
 refine at_ga (.inr (by exact keeps_of k_)) ?_
 refine w_ 11 rfl z_1 ?_
 refine ga_one 12 rfl z_4 ?_
 (refine gl_store_blkC (pre := [_, _, _]) (post := [_, _, _, _, _, _, _, _, _]) rfl rfl z_5 z_7 z_7 z_7 ?_)
 refine gl_nil ?_
 refine at_ga (.inl z_4) ?_
 refine ga_done z_4 ?_
 repeat refine y_ ?_
 obtain ⟨mm, hmm⟩ : ∃ mm, mm = tellMM s.p to m := ⟨_, rfl⟩
 refine g_pull (H' := .blk g5 (.cells (mmC mm).toArray 38) :: .blk g6 (.cells #[.int .i64 0, .int .u64 0, .int .i64 0, .int .i64 0, .int .i64 0, .int .u64 0, .int .u64 0, .slice none 0 0, .slice none 0 0, B [], .int .u64 0, .int .i64 0, .int .i64 0, .slice none 0 0, .slice none 0 0, B [], .int .u64 0, .int .u64 0, .slice none 0 0, .int .i64 0] 60) :: .blk g3 (.cells (sdC s).toArray 60) :: []) (fun w hw => by rw [hmm]; exact hw.perm (perm_up z_2 (perm_up z_2 (perm_up z_2 (.refl _))))) ?_
 have hn1 : s.outs.length + 1 = (s.outs ++ [mm]).length := by rw [List.length_append]; rfl
 refine g_cutE (ι := Option Addr × Nat × List As) (fun _ => [(3, Ptr g3), (6, Ptr g6)]) (fun x => .blk g3 (.cells (sdC { s with outs := s.outs ++ [mm], oa := x.1, oc := x.2.1 }).toArray 60) :: .blk g6 (.cells #[.int .i64 0, .int .u64 0, .int .i64 0, .int .i64 0, .int .i64 0, .int .u64 0, .int .u64 0, .slice none 0 0, .slice none 0 0, B [], .int .u64 0, .int .i64 0, .int .i64 0, .slice none 0 0, .slice none 0 0, B [], .int .u64 0, .int .u64 0, .slice none 0 0, .int .i64 0] 60) :: OwnM x.1 (s.outs ++ [mm]) x.2.1 :: x.2.2) ?_ (fun x => ?_)
 ·repeat refine y_ ?_
  refine g_draw ([2, 4], [0, 0, 2, 7, 0, 16, 63, 127, 255], [0, 3, 5, 6, 8]) [.blk g3 (.cells (sdC s).toArray 60), .blk g5 (.cells (mmC mm).toArray 38)] 9 rfl ?_
  refine w_ 1 rfl z_1 ?_
  (refine ga_read_k 2 rfl z_11 (s_load_blk rfl .del a20_18) k_ rfl rfl rfl z_4 ?_)
  (refine ga_read_k 4 rfl z_9 (s_load_blkW rfl .del z_7) k_ rfl rfl rfl z_4 ?_)
  refine ga_two 0 5 rfl rfl z_4 ?_ ?_
  refine gl_buildSlice0 rfl ?_; intro a17
  refine gl_nil ?_
  refine at_ga (.inr (by exact keeps_of k_)) ?_
  refine ga_two 3 5 rfl rfl z_4 ?_ ?_
  refine gl_append (sz := 13) rfl rfl (fun a' c' => z_5) (fun w hw => hs.o.le hw.keep) (mmV_len _) rfl rfl (mmV_one _) (by show (0 + s.outs.length) * 144 ≤ 140737488355328; omega) (by omega) rfl ?_; intro a20 c20 hc20
  refine gl_nil ?_
  refine at_ga (.inr (by exact keeps_of k_)) ?_
  refine ga_one 5 rfl z_4 ?_
  refine gl_buildSliceU rfl rfl rfl rfl rfl rfl (xs := mmC mm) rfl rfl ?_; intro a22 ha22
  refine gl_nil ?_
  refine at_ga (.inl z_4) ?_
  refine ga_one 6 rfl z_4 ?_
  refine gl_append (sz := 13) rfl rfl (fun a' c' => z_5) (fun w hw => (hw.ownN (a := a22) z_2).2.2.1) rfl rfl rfl (mmC_one _) (by show (0 + s.outs.length + 1) * 144 ≤ _; omega) (by omega) rfl ?_; intro a23 c23 hc23
  refine gl_nil ?_
  refine at_ga (.inl z_4) ?_
  refine w_ 7 rfl z_1 ?_
  refine ga_one 8 rfl z_4 ?_
  (refine gl_store_blkC (pre := [_, _, _, _, _, _, _, _, _, _, _, _, _, _, _, _, _, _]) (post := [_]) rfl rfl z_5 z_7 z_7 z_7 ?_)
  refine gl_nil ?_
  refine at_ga (.inl z_4) ?_
  refine ga_done z_4 ?_
  rotate_left 1
  refine gl_buildSliceU rfl rfl rfl rfl rfl rfl (xs := mmC mm) rfl rfl ?_; intro a22 ha22
  refine gl_nil ?_
  refine at_ga (.inr (by exact keeps_of k_)) ?_
  refine ga_one 3 rfl z_4 ?_
  refine gl_append (sz := 13) rfl rfl (fun a' c' => z_5) (fun w hw => hs.o.le hw.keep) (mmV_len _) rfl rfl (mmV_one _) (by show (0 + s.outs.length) * 144 ≤ 140737488355328; omega) (by omega) rfl ?_; intro a20 c20 hc20
  refine gl_nil ?_
  refine at_ga (.inl z_4) ?_
  refine ga_one 6 rfl z_4 ?_
  refine gl_append (sz := 13) rfl rfl (fun a' c' => z_5) (fun w hw => (hw.ownN (a := a22) z_2).2.2.1) rfl rfl rfl (mmC_one _) (by show (0 + s.outs.length + 1) * 144 ≤ _; omega) (by omega) rfl ?_; intro a23 c23 hc23
  refine gl_nil ?_
  refine at_ga (.inl z_4) ?_
  refine w_ 7 rfl z_1 ?_
  refine ga_one 8 rfl z_4 ?_
  (refine gl_store_blkC (pre := [_, _, _, _, _, _, _, _, _, _, _, _, _, _, _, _, _, _]) (post := [_]) rfl rfl z_5 z_7 z_7 z_7 ?_)
  refine gl_nil ?_
  refine at_ga (.inl z_4) ?_
  refine ga_done z_4 ?_
  rotate_left 1
  refine gl_buildSliceU rfl rfl rfl rfl rfl rfl (xs := mmC mm) rfl rfl ?_; intro a22 ha22
  refine gl_nil ?_
  refine at_ga (.inr (by exact keeps_of k_)) ?_
  refine ga_one 0 rfl z_4 ?_
  refine gl_buildSlice0 rfl ?_; intro a17
  refine gl_nil ?_
  refine at_ga (.inr (by exact keeps_of k_)) ?_
  refine ga_one 3 rfl z_4 ?_
  refine gl_append (sz := 13) rfl rfl (fun a' c' => z_5) (fun w hw => hs.o.le hw.keep) (mmV_len _) rfl rfl (mmV_one _) (by show (0 + s.outs.length) * 144 ≤ 140737488355328; omega) (by omega) rfl ?_; intro a20 c20 hc20
  refine gl_nil ?_
  refine at_ga (.inl z_4) ?_
  refine ga_one 6 rfl z_4 ?_
  refine gl_append (sz := 13) rfl rfl (fun a' c' => z_5) (fun w hw => (hw.ownN (a := a22) z_2).2.2.1) rfl rfl rfl (mmC_one _) (by show (0 + s.outs.length + 1) * 144 ≤ _; omega) (by omega) rfl ?_; intro a23 c23 hc23
  refine gl_nil ?_
  refine at_ga (.inl z_4) ?_
  refine w_ 7 rfl z_1 ?_
  refine ga_one 8 rfl z_4 ?_
  (refine gl_store_blkC (pre := [_, _, _, _, _, _, _, _, _, _, _, _, _, _, _, _, _, _]) (post := [_]) rfl rfl z_5 z_7 z_7 z_7 ?_)
  refine gl_nil ?_
  refine at_ga (.inl z_4) ?_
  refine ga_done z_4 ?_
  rotate_left 1
  all_goals (repeat refine y_ ?_)
  all_goals
   exact at_cutE (a23, c23, [.own (.slice a22 1 1) 38 13 (mmC mm), .blk g5 (.cells (mmC mm).toArray 38)]) j_ (fun w hw => by
    have e : mmV (s.outs ++ [mm]) = mmV s.outs ++ mmC mm := by simp [List.flatMap_append]
    simp only [Nat.zero_add, List.nil_append, hn1, ← e] at hw
    exact hw.perm (perm_up z_2 (perm_up z_2 (perm_up z_2 (perm_up z_2 (perm_up z_2 (.refl _)))))))
 obtain ⟨oa, oc, Z⟩ := x
 repeat refine x_ ?_
 refine r_ z_14 ?_
 (refine gl_store_blkW rfl rfl z_5 z_7 z_7 z_3 ?_)
 repeat refine n_ ?_
 refine g_ret ?_
 refine at_endB rfl rfl z_2 rfl (OwnM oa (s.outs ++ [mm]) oc :: Z) ⟨{ s with outs := s.outs ++ [mm], oa := oa, oc := oc }, rfl, rfl, by rw [List.map_append, hmm]; rfl, rfl, hc, fun h hp hb => ⟨hp.1.r, ?_, fun x hx => ?_⟩⟩ (fun w hw => hw.drop.drop)
 ·obtain ⟨bs, hb⟩ := hb
  exact Sat.rd (a := oa) hb z_2
 ·rcases List.mem_append.1 hx with hx | hx
  ·exact hp.1.m x hx
  ·rw [List.mem_singleton.1 hx, hmm]
   exact ⟨hp.2.e, hp.2.k, hp.2.ec⟩
def WithP (g : LM) (e : Ent) (v : Value) (A : List As) : Prop := ∃ la lc, v = .agg #[.int .u64 g.base, .int .u64 g.bt, .slice g.ca g.conf.length g.cc, .slice la (g.l ++ [e]).length lc] ∧ (g.l ++ [e]).length ≤ lc ∧ ∀ h, (∃ bs, Sat h A bs) → RdS h la (enV (g.l ++ [e]))
set_option maxRecDepth 16000 in
set_option maxHeartbeats 8000000 in
theorem rWith_ct (g : LM) (e : Ent) (hf : g.fit) : Ct Tryz.prog 81 [g.v, entV e] (fun h => RdS h g.la (enV g.l)) [] (WithP g e) := by
 have h3 := hf.len
 refine ct_enter 14 Tryz.func81 rfl rfl rfl ?_
 intro F hr
 repeat refine x_ ?_
 refine gl_boxA rfl rfl ?_; intro g2
 refine gl_boxA rfl rfl ?_; intro g3
 refine gl_allocA rfl ?_; intro g4
 repeat refine n_ ?_
 have hn1 : g.l.length + 1 = (g.l ++ [e]).length := by rw [List.length_append]; rfl
 refine g_cutE (ι := { x : Option Addr × Nat × List As // (g.l ++ [e]).length ≤ x.2.1 }) (fun _ => [(2, Ptr g2), (4, Ptr g4)]) (fun x => .blk g2 (.cells #[.int .u64 g.base, .int .u64 g.bt, .slice g.ca g.conf.length g.cc, .slice x.1.1 (g.l ++ [e]).length x.1.2.1] 46) :: .blk g4 (.cells #[.int .u64 0, .int .u64 0, .slice none 0 0, .slice none 0 0] 46) :: OwnL x.1.1 (g.l ++ [e]) x.1.2.1 :: x.1.2.2) ?_ (fun x => ?_)
 ·repeat refine y_ ?_
  refine g_draw ([2, 4], [0, 0, 2, 7, 0, 16, 63, 127, 255], [0, 3, 5, 6, 8]) [lgO g2 g, enO g3 e] 9 rfl ?_
  refine w_ 1 rfl z_1 ?_
  (refine ga_read_k 2 rfl z_11 (s_load_blk rfl .del a4_3) k_ rfl rfl rfl z_4 ?_)
  (refine ga_read_k 4 rfl z_9 (s_load_blkW rfl .del z_7) k_ rfl rfl rfl z_4 ?_)
  refine ga_two 0 5 rfl rfl z_4 ?_ ?_
  refine gl_buildSlice0 rfl ?_; intro a5
  refine gl_nil ?_
  refine at_ga (.inr (by exact keeps_of k_)) ?_
  refine ga_two 3 5 rfl rfl z_4 ?_ ?_
  refine gl_append (sz := 3) rfl rfl (fun a' c' => z_5) (fun w hw => hr.le hw.keep) (enV_length _) rfl rfl (enV_one _) (by show (0 + g.l.length) * 32 ≤ 140737488355328; omega) (by omega) rfl ?_; intro a8 c8 hc8
  refine gl_nil ?_
  refine at_ga (.inr (by exact keeps_of k_)) ?_
  refine ga_one 5 rfl z_4 ?_
  refine gl_buildSliceU rfl rfl rfl rfl rfl rfl (xs := entC e) rfl rfl ?_; intro a10 ha10
  refine gl_nil ?_
  refine at_ga (.inl z_4) ?_
  refine ga_one 6 rfl z_4 ?_
  refine gl_append (sz := 3) rfl rfl (fun a' c' => z_5) (fun w hw => (hw.ownN (a := a10) z_2).2.2.1) rfl rfl rfl (entC_one _) (by show (0 + g.l.length + 1) * 32 ≤ _; omega) (by omega) rfl ?_; intro a11 c11 hc11
  refine gl_nil ?_
  refine at_ga (.inl z_4) ?_
  refine w_ 7 rfl z_1 ?_
  refine ga_one 8 rfl z_4 ?_
  (refine gl_store_blkC (pre := [_, _, _]) (post := []) rfl rfl z_5 z_7 z_7 z_7 ?_)
  refine gl_nil ?_
  refine at_ga (.inl z_4) ?_
  refine ga_done z_4 ?_
  rotate_left 1
  refine gl_buildSliceU rfl rfl rfl rfl rfl rfl (xs := entC e) rfl rfl ?_; intro a10 ha10
  refine gl_nil ?_
  refine at_ga (.inr (by exact keeps_of k_)) ?_
  refine ga_one 3 rfl z_4 ?_
  refine gl_append (sz := 3) rfl rfl (fun a' c' => z_5) (fun w hw => hr.le hw.keep) (enV_length _) rfl rfl (enV_one _) (by show (0 + g.l.length) * 32 ≤ 140737488355328; omega) (by omega) rfl ?_; intro a8 c8 hc8
  refine gl_nil ?_
  refine at_ga (.inl z_4) ?_
  refine ga_one 6 rfl z_4 ?_
  refine gl_append (sz := 3) rfl rfl (fun a' c' => z_5) (fun w hw => (hw.ownN (a := a10) z_2).2.2.1) rfl rfl rfl (entC_one _) (by show (0 + g.l.length + 1) * 32 ≤ _; omega) (by omega) rfl ?_; intro a11 c11 hc11
  refine gl_nil ?_
  refine at_ga (.inl z_4) ?_
  refine w_ 7 rfl z_1 ?_
  refine ga_one 8 rfl z_4 ?_
  (refine gl_store_blkC (pre := [_, _, _]) (post := []) rfl rfl z_5 z_7 z_7 z_7 ?_)
  refine gl_nil ?_
  refine at_ga (.inl z_4) ?_
  refine ga_done z_4 ?_
  rotate_left 1
  refine gl_buildSliceU rfl rfl rfl rfl rfl rfl (xs := entC e) rfl rfl ?_; intro a10 ha10
  refine gl_nil ?_
  refine at_ga (.inr (by exact keeps_of k_)) ?_
  refine ga_one 0 rfl z_4 ?_
  refine gl_buildSlice0 rfl ?_; intro a5
  refine gl_nil ?_
  refine at_ga (.inr (by exact keeps_of k_)) ?_
  refine ga_one 3 rfl z_4 ?_
  refine gl_append (sz := 3) rfl rfl (fun a' c' => z_5) (fun w hw => hr.le hw.keep) (enV_length _) rfl rfl (enV_one _) (by show (0 + g.l.length) * 32 ≤ 140737488355328; omega) (by omega) rfl ?_; intro a8 c8 hc8
  refine gl_nil ?_
  refine at_ga (.inl z_4) ?_
  refine ga_one 6 rfl z_4 ?_
  refine gl_append (sz := 3) rfl rfl (fun a' c' => z_5) (fun w hw => (hw.ownN (a := a10) z_2).2.2.1) rfl rfl rfl (entC_one _) (by show (0 + g.l.length + 1) * 32 ≤ _; omega) (by omega) rfl ?_; intro a11 c11 hc11
  refine gl_nil ?_
  refine at_ga (.inl z_4) ?_
  refine w_ 7 rfl z_1 ?_
  refine ga_one 8 rfl z_4 ?_
  (refine gl_store_blkC (pre := [_, _, _]) (post := []) rfl rfl z_5 z_7 z_7 z_7 ?_)
  refine gl_nil ?_
  refine at_ga (.inl z_4) ?_
  refine ga_done z_4 ?_
  rotate_left 1
  all_goals (repeat refine y_ ?_)
  all_goals
   exact at_cutE ⟨(a11, c11, [.own (.slice a10 1 1) 51 3 (entC e), enO g3 e]), by show (g.l ++ [e]).length ≤ c11; omega⟩ j_ (fun w hw => by
    have e : enV (g.l ++ [e]) = enV g.l ++ entC e := by simp [enV]
    simp only [Nat.zero_add, List.nil_append, hn1, ← e] at hw
    exact hw.perm (perm_up z_2 (perm_up z_2 (perm_up z_2 (perm_up z_2 (perm_up z_2 (.refl _)))))))
 obtain ⟨⟨la, lc, Z⟩, hlc⟩ := x
 repeat refine x_ ?_
 refine r_ z_14 ?_
 (refine gl_store_blkW rfl rfl z_5 z_7 z_7 z_3 ?_)
 repeat refine n_ ?_
 refine g_ret ?_
 refine at_endB rfl rfl z_2 rfl (OwnL la (g.l ++ [e]) lc :: Z) ⟨la, lc, rfl, hlc, fun h hb => ?_⟩ (fun w hw => hw.drop.drop)
 obtain ⟨bs, hb⟩ := hb
 exact Sat.rd (a := la) hb z_2
end Go.Proofs.YtodcghipfolejaaGreat.Rf
