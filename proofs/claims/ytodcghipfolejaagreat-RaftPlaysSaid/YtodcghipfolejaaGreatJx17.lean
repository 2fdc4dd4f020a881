import Derived.Test.YtodcghipfolejaaGreatJx16
import Derived.Test.YtodcghipfolejaaGreatJx1
import Derived.Carry
import Derived.ChangeSame
import Derived.OpenShut
import Derived.SizedLaws
import Derived.JoinedCond
import Derived.JoinedOf
import Derived.Deep.CondSized
import Derived.ChangeMaps5
import Derived.SliceStrings
import Derived.Test.YtodcghipfolejaaGreatJx7
set_option linter.unusedVariables false
set_option linter.unusedSimpArgs false
namespace Go.Proofs.YtodcghipfolejaaGreat.Rf
open Go Go.Sl
abbrev acO (X : Nat) (a : AcM) : As := .blk X (.cells (acC a).toArray 40)
abbrev pyO (X : Nat) (p : PlM) : As := .blk X (.cells (plC p).toArray 25)
section
variable {A T : List As} {b x y z u v : As}
theorem pl_a : (b :: x :: (A ++ (y :: z :: u :: T))).Perm (b :: x :: y :: z :: u :: (A ++ T)) := (perm_rot3.cons _).cons _
theorem pl_b : (b :: (A ++ (x :: y :: z :: u :: T))).Perm (b :: x :: y :: z :: u :: (A ++ T)) := perm_rot4.cons _
theorem pl_c : (b :: x :: (A ++ (y :: z :: u :: v :: T))).Perm (b :: x :: y :: z :: u :: v :: (A ++ T)) := (perm_rot4.cons _).cons _
theorem pl_d : (b :: (A ++ (x :: y :: z :: u :: v :: T))).Perm (b :: x :: y :: z :: u :: v :: (A ++ T)) := (List.perm_middle.trans (perm_rot4.cons _)).cons _
end
theorem sat_t4 {h : Heap} {a b c d : As} {T : List As} (hs : ∃ bs, Sat h (a :: b :: c :: d :: T) bs) : ∃ bs, Sat h T bs := sat_tail (sat_tail (sat_tail (sat_tail hs)))
theorem evOf8 {w : WP} {a : AcP} (h : a.kind = 8) : (evOf w a).ok = false ∧ (evOf w a).n = nOf a := by
 unfold evOf
 rw [if_neg (by omega), if_neg (by omega), if_neg (by omega), if_neg (by omega), if_neg (by omega)]
 exact ⟨rfl, rfl⟩
structure StI (Fh : Heap) (p' : RP) (new : List MP) (T : List As) (a' : RA) (outs : List MM) (oa : Option Addr) (Zt : List As) : Prop where
 o : outs.map MM.p = new
 r : ∀ h, Heap.le Fh h → (∃ bs, Sat h Zt bs) → RRd h p' a'
 oo : ∀ h, Heap.le Fh h → (∃ bs, Sat h Zt bs) → RdS h oa (mmV outs)
 om : ∀ h, Heap.le Fh h → (∃ bs, Sat h Zt bs) → ∀ m ∈ outs, MOk h m
 t : ∀ h, (∃ bs, Sat h Zt bs) → ∃ bs, Sat h T bs
theorem StI.of {Fh : Heap} {p' : RP} {new : List MP} {a' : RA} {outs : List MM} {oa : Option Addr} {oc : Nat} {Z2 T : List As} (ho : outs.map MM.p = new) (hz : ∀ h, (∃ bs, Sat h Z2 bs) → ∀ m ∈ outs, MOk h m) : StI Fh p' new T a' outs oa ((OwnS p' a' ++ (OwnM oa outs oc :: Z2)) ++ T) :=
 ⟨ho, fun h _ hs => (ownS_ok (Sat.two2 (Sat.two2 hs).1).1).1, fun h _ hs => by
  obtain ⟨bs, hb⟩ := (Sat.two2 (Sat.two2 hs).1).2
  exact Sat.rd (a := oa) hb .del, fun h _ hs => hz h (sat_tail (Sat.two2 (Sat.two2 hs).1).2), fun h hs => (Sat.two2 hs).2⟩
theorem StI.said {Fh : Heap} {p' : RP} {new : List MP} {Pre : Heap → Prop} {s' : SD} {A T : List As} (h1 : s'.p = p') (h2 : s'.outs.map MM.p = new) (h3 : ∀ h, Pre h → (∃ bs, Sat h A bs) → SdOk h s') (hp : ∀ h, Heap.le Fh h → (∃ bs, Sat h T bs) → Pre h) : StI Fh p' new T s'.a s'.outs s'.oa (A ++ T) :=
 ⟨h2, fun h hh hs => by have := (h3 h (hp h hh (Sat.two2 hs).2) (Sat.two2 hs).1).r; rwa [h1] at this, fun h hh hs => (h3 h (hp h hh (Sat.two2 hs).2) (Sat.two2 hs).1).o, fun h hh hs => (h3 h (hp h hh (Sat.two2 hs).2) (Sat.two2 hs).1).m, fun h hs => (Sat.two2 hs).2⟩
set_option maxRecDepth 16000 in
set_option maxHeartbeats 32000000 in
theorem RaftPlays_ct (p : PlM) (hpc : p.acts.length ≤ p.pc) (hrg : ∀ a ∈ p.acts, MRg a.m.p) : Pu Tryz.prog 3 [plA p] (fun h => PlOk h p) (.bool true) := by
 refine ct_enter 187 Tryz.func3 rfl rfl rfl ?_
 intro F hok
 repeat refine x_ ?_
 refine gl_boxA rfl rfl ?_; intro g1
 refine a_ ?_
 repeat refine x_ ?_
 refine gl_callp rfl ralive_ct (fun _ _ _ => trivial) rfl ?_
 refine f_ (s_not rfl) ?_
 refine m_ ?_
 (refine v_ ?_; refine r_ ((s_load_blkW rfl z_2 z_7).eq (v' := plA p) rfl) ?_)
 (refine v_ ?_; refine gl_call _ rfl (great_ct p hpc) i_ (fun h hh _ => hok.le hh) rfl ?_; rintro v A ⟨⟨b, rfl, hb⟩, rfl⟩)
 refine f_ z_12 ?_
 repeat refine n_ ?_
 cases b
 rotate_left
 ·repeat refine y_ ?_
  repeat refine x_ ?_
  refine gl_callp rfl ralive_ct (fun _ _ _ => trivial) rfl ?_
  refine a_ ?_
  repeat refine n_ ?_
  refine g_ret ?_
  exact at_end1 rfl rfl [] ⟨rfl, rfl⟩ (fun _ h => h.dropAll)
 have hp : SmP p := hb rfl
 have hpl := smP_small hp
 repeat refine x_ ?_
 refine r_ ((s_load_blkW rfl z_2 z_7).eq (v' := plA p) rfl) ?_
 refine gl_call [pyO g1 p] rfl (Begin_ct p) i_ (fun _ _ _ => trivial) rfl ?_; rintro v A ⟨s0, Z0, rfl, hw0, rfl, hZ0⟩; refine gl_rot ?_
 refine m_ ?_
 refine f_ (s_extract rfl rfl) ?_
 refine f_ (s_extract rfl rfl) ?_
 refine gl_allocA rfl ?_; intro g3
 (refine gl_store_blkW rfl rfl z_5 z_7 z_7 z_3 ?_)
 refine a_ ?_
 repeat refine x_ ?_
 refine m_ ?_
 refine f_ (s_not rfl) ?_
 repeat refine x_ ?_
 refine a_ ?_
 repeat refine n_ ?_
 refine g_loop (ι := Nat × WS × List As) (fun x => PlI p x.1 x.2.1 x.2.2) (fun x => [(1, Ptr g1), (3, Ptr g3), (5, .int .i64 (x.1 : Nat))]) (fun x => wB g3 x.2.1 :: OwnMi x.2.1.ma x.2.1.ms x.2.1.mc :: pyO g1 p :: x.2.2) (fun x => p.acts.length - x.1) (0, s0, Z0 ++ []) (PlI.begin_ hw0 (fun h hs => hZ0 h (Sat.two2 hs).1)) ?_ ?_ ?_
 ·(repeat (first | exact Sub.nil _ | refine Sub.cons rfl ?_))
 ·intro w hw; exact hw.perm (perm_up z_2 (perm_up z_2 (perm_up z_2 (.refl _))))
 rintro ⟨k, s, Z⟩ hI
 repeat refine x_ ?_
 refine m_ ?_
 refine f_ z_1 ?_
 refine r_ z_10 ?_
 refine f_ (s_len_sl rfl) ?_
 refine f_ (s_lss rfl rfl) ?_
 repeat refine n_ ?_
 refine g_cond rfl (fun h => ?_) (fun h => ?_)
 rotate_left
 ·repeat refine y_ ?_
  repeat refine x_ ?_
  refine a_ ?_
  repeat refine n_ ?_
  refine g_ret ?_
  exact at_end1 rfl rfl [] ⟨rfl, rfl⟩ (fun _ h => h.dropAll)
 have hk : k < p.acts.length := by simp at h; omega
 have hsome := rdAc_some hok.rd hk
 obtain ⟨a, ha⟩ : ∃ a, a = p.acts.getD k AcM0 := ⟨_, rfl⟩
 have ham : a ∈ p.acts := by rw [ha]; exact acAt_mem hk
 have had : a.data.length ≤ 100000 := by rw [ha]; exact acAt_data hp hk
 have hwb := hI.wb hp
 have hK := hI.k800 hp
 have hI' := hI
 have hsw : s.w = wAt p.p k := hI.w
 have haa : acAt p k = a := ha.symm
 have hwat : wAt p.p (k + 1) = (actP s.w a.p).w := by rw [PlI.wat hk, haa, hsw]
 have hwk : WB (2 * (k : Int)) s.w := hwb
 have hlen : s.ms.length = 5 := by have := hwb.len; simpa using this
 obtain ⟨q7, hq7⟩ : ∃ q, q = decide (a.kind = 7) := ⟨_, rfl⟩
 repeat refine x_ ?_
 refine f_ z_1 ?_
 refine r_ z_10 ?_
 refine m_ ?_
 refine f_ (s_indexAddr rfl (by assumption) rfl (by omega)) ?_
 refine r_ ((s_loadN (cs := acC a) rfl (fun w hw => rdAc hw hok.rd (i := k) (by omega) hk ha) rfl).eq (v' := acA a) rfl) ?_
 refine gl_allocA rfl ?_; intro g6
 (refine gl_store_blkW rfl rfl z_5 z_7 z_7 z_3 ?_)
 repeat refine x_ ?_
 refine f_ z_1 ?_
 refine r_ (by exact s_load_blk rfl z_2 a18_0) ?_
 refine f_ ((s_eql rfl rfl).eb hq7) ?_
 repeat refine n_ ?_
 cases q7
 rotate_left
 ·have h7 : a.p.kind = 7 := of_decide_eq_true hq7.symm
  obtain ⟨r, hr⟩ : ∃ r, r = actP s.w a.p := ⟨_, rfl⟩
  have hrok : r.ok = true := by rw [hr]; exact (wb_act hwb hK.1 had).2
  have hrn : 0 ≤ r.n ∧ r.n < 5 := by rw [hr]; exact act_n hwb
  obtain ⟨n, hn⟩ : ∃ n, n = r.n := ⟨_, rfl⟩
  obtain ⟨ok, hoke⟩ : ∃ ok, ok = r.ok := ⟨_, rfl⟩
  rw [← hn] at hrn
  rw [← hoke] at hrok
  subst hrok
  repeat refine x_ ?_
  refine r_ ((s_load_blkW rfl z_2 z_7).eq (v' := acA a) rfl) ?_
  refine gl_call (acO g6 a :: pyO g1 p :: Z) rfl (Act_ct g3 s a _ hwb hK had) (fun w hw => hw.perm (perm_up z_2 (perm_up z_2 (.refl _)))) (fun h hh hs => hI'.ok h (sat_tail (sat_tail hs))) rfl ?_; rw [← hr]; rintro v A ⟨s', Z', rfl, hw', rfl, hZ'⟩; rw [← hn, ← hoke]
  refine m_ ?_
  refine f_ (s_extract rfl rfl) ?_
  refine f_ (s_extract rfl rfl) ?_
  refine a_ ?_
  refine a_ ?_
  repeat refine n_ ?_
  have hI1 : PlI p (k + 1) s' (Z' ++ Z) := ⟨hk, by rw [hwat, ← hr]; exact hw', fun h hs => hZ' h (hI.ok h (Sat.two2 hs).2) (Sat.two2 hs).1⟩
  refine g_pull (H' := wB g3 s' :: OwnMi s'.ma s'.ms s'.mc :: pyO g1 p :: (Z' ++ Z)) (fun w hw => (hw.perm ((perm_rot2.cons _).cons _)).upd_same (.there (.there .del))) ?_
  have hmn := hI1.mind hp hrn
  have hK1 := hI1.k800 hp
  obtain ⟨x, hx⟩ : ∃ x, x = s'.ms.getD n.toNat Mi0 := ⟨_, rfl⟩
  have hx' : mi s' n = x := hx.symm
  rw [hx'] at hmn
  have hxm : x ∈ s'.ms := by rw [← hx']; exact mi_mem hmn.2.1
  have hxs := bi_st hmn.2.2 (by omega)
  have hlenn : n.toNat < s'.ms.length := hmn.2.1
  have hrx : ∀ h, (∃ bs, Sat h (Z' ++ Z) bs) → RRd h x.1 x.2 := fun h hs => (hI1.ok h hs).ms x hxm
  have hcn : (confL x.1).length ≤ 1000000 := hxs.fit.cn (lastI x.1.g)
  refine g_some (Q := x.1.l.length ≤ x.2.lc) (fun w hw => (hI1.ok _ (sat_tail (sat_tail (sat_tail (hp_sat hw))))).cap x hxm) (fun hcx => ?_)
  refine g_ownN (a := s'.ma) z_2 (fun _ _ hma => ?_)
  have hmas : ∃ ad, s'.ma = some ad := hma (by omega)
  repeat refine y_ ?_
  refine g_draw ([4, 7, 10, 13], [0, 1, 3, 7, 15, 7, 63, 127, 255, 7, 519, 7, 3591, 7687, 16383, 32767, 65535, 131071], []) [wB g3 s', OwnMi s'.ma s'.ms s'.mc] 18 rfl ?_
  refine w_ 0 rfl (s_move rfl) ?_
  refine w_ 1 rfl (s_not rfl) ?_
  refine w_ 2 rfl (s_move rfl) ?_
  (refine ga_free_g 3 rfl z_1 rfl rfl rfl rfl rfl rfl z_4 ?_)
  (refine ga_read_kg 4 rfl z_11 (s_load_blk rfl .del a2_0) k_ rfl rfl rfl rfl rfl rfl z_4 ?_)
  (refine ga_free_g 5 rfl (s_move rfl) rfl rfl rfl rfl rfl rfl z_4 ?_)
  (refine ga_free_g 6 rfl (s_indexAddr rfl hmas rfl (by omega)) rfl rfl rfl rfl rfl rfl z_4 ?_)
  (refine ga_read_kg 7 rfl z_9 ((s_loadN (cs := miC x) rfl (fun w hw => rdMiX_own (a := s'.ma) hw .del (i := n.toNat) (by omega) hlenn hx) rfl).eq (v' := rsV x.1 x.2) rfl) k_ rfl rfl rfl rfl rfl rfl z_4 ?_)
  (refine ga_free_g 9 rfl z_1 rfl rfl rfl rfl rfl rfl z_4 ?_)
  (refine ga_read_kg 10 rfl z_11 (s_load_blk rfl .del a2_0) k_ rfl rfl rfl rfl rfl rfl z_4 ?_)
  (refine ga_free_g 11 rfl (s_move rfl) rfl rfl rfl rfl rfl rfl z_4 ?_)
  (refine ga_free_g 12 rfl (s_indexAddr rfl hmas rfl (by omega)) rfl rfl rfl rfl rfl rfl z_4 ?_)
  (refine ga_read_kg 13 rfl z_9 ((s_loadN (cs := miC x) rfl (fun w hw => rdMiX_own (a := s'.ma) hw .del (i := n.toNat) (by omega) hlenn hx) rfl).eq (v' := rsV x.1 x.2) rfl) k_ rfl rfl rfl rfl rfl rfl z_4 ?_)
  refine ga_one 8 rfl z_4 ?_
  (refine v_ ?_; refine gl_call _ rfl (Members_ct x.1 x.2 hxs.fit hcx) i_ (fun h hh hs => ⟨(hrx h (sat_tail (sat_tail (sat_tail hs)))).rc, (hrx h (sat_tail (sat_tail (sat_tail hs)))).rl⟩) rfl ?_; rintro v A ⟨ca, cc, rfl, rfl⟩)
  refine gl_nil ?_
  refine at_ga (.inr (by exact keeps_of k_)) ?_
  refine ga_one 14 rfl z_4 ?_
  (refine v_ ?_; refine gl_call _ rfl (rMembers_ct x.1 x.2 hxs.fit hcx) i_ (fun h hh hs => hrx h (sat_t4 hs)) rfl ?_; rintro v A2 ⟨cb, cd, rfl, hA2⟩; refine gl_rot ?_)
  refine gl_nil ?_
  refine at_ga (.inl z_4) ?_
  refine ga_one 15 rfl z_4 ?_
  (refine v_ ?_; refine gl_callp rfl (SameInts_ct (confL x.1) (confL x.1) ca cb cc cd (by omega)) (fun h hh hs => ⟨(by obtain ⟨bs, hb⟩ := hs; exact Sat.rd (a := ca) hb .del), hA2 h (hrx h (sat_tail (sat_tail (sat_tail (Sat.two2 (sat_tail hs)).2)))) (Sat.two2 (sat_tail hs)).1⟩) rfl ?_; rw [decide_eq_true rfl])
  refine gl_nil ?_
  refine at_ga (.inl z_4) ?_
  (refine ga_free_g 16 rfl (s_not rfl) rfl rfl rfl rfl rfl rfl z_4 ?_)
  refine w_ 17 rfl z_12 ?_
  refine ga_done z_4 ?_
  repeat refine x_ ?_
  refine m_ ?_
  refine f_ ((s_add_i64 rfl rfl (by omega)).eq (v' := .int .i64 ((k + 1 : Nat) : Int)) rfl) ?_
  refine a_ ?_
  repeat refine n_ ?_
  refine at_next (k + 1, s', Z' ++ Z) hI1 (by show p.acts.length - (k + 1) < p.acts.length - k; omega) ?_ ?_
  ·(repeat (first | exact Sub.nil _ | refine Sub.cons rfl ?_))
  ·intro w hw; exact Hp.left (A := wB g3 s' :: OwnMi s'.ma s'.ms s'.mc :: pyO g1 p :: (Z' ++ Z)) (R := A2) (hw.drop.perm List.perm_append_comm)
 have n7 : ¬ a.p.kind = 7 := of_decide_eq_false hq7.symm
 obtain ⟨q8, hq8⟩ : ∃ q, q = decide (a.kind = 8) := ⟨_, rfl⟩
 repeat refine x_ ?_
 refine r_ ((s_load_blkW rfl z_2 z_7).eq (v' := acA a) rfl) ?_
 refine gl_call (acO g6 a :: pyO g1 p :: Z) rfl (event_ct g3 s a _ hwb hK) (fun w hw => hw.perm (perm_up z_2 (perm_up z_2 (.refl _)))) (fun h hh hs => hI'.ok h (sat_tail (sat_tail hs))) rfl ?_; rintro v A ⟨e, fm, fa, fc, Z1, rfl, hev, hfm, rfl, hZ1⟩
 refine m_ ?_
 refine f_ (s_extract rfl rfl) ?_
 refine f_ (s_extract rfl rfl) ?_
 refine f_ (s_extract rfl rfl) ?_
 refine gl_allocA rfl ?_; intro g10
 refine a_ ?_
 (refine gl_store_blkW rfl rfl z_5 z_7 z_7 z_3 ?_)
 refine a_ ?_
 repeat refine n_ ?_
 obtain ⟨r, hr⟩ : ∃ r, r = evOf s.w a.p := ⟨_, rfl⟩
 rw [← hr] at hev hfm
 obtain ⟨s1, hs1⟩ : ∃ s1 : WS, s1 = { s with fm := fm, fa := fa, fc := fc } := ⟨_, rfl⟩
 have h1w : s1.w = ⟨s.w.ms, r.fl⟩ := by rw [hs1]; show (⟨s.ms.map (·.1), fm.map MM.p⟩ : WP) = _; rw [hfm]
 have h1ms : s1.ms = s.ms := by rw [hs1]
 have h1fm : s1.fm = fm := by rw [hs1]
 have hfew : s.fm.length ≤ 40 := by have := hwb.few; simpa using this
 have hfl : fm.length ≤ 40 := by
  have := ev_fllen s.w a.p
  rw [← hr, ← hfm, List.length_map] at this
  simp only [List.length_map] at this
  omega
 obtain ⟨T1, hT1⟩ : ∃ T1, T1 = Z1 ++ Z := ⟨_, rfl⟩
 have hok1 : ∀ h, (∃ bs, Sat h T1 bs) → WS.ok h s1 ∧ MOk h e.m := fun h hs => by
  rw [hT1] at hs
  obtain ⟨t1, t2⟩ := Sat.two2 hs
  rw [hs1]
  exact hZ1 h (hI.ok h t2) t1
 refine g_pull (H' := evO g10 e :: wB g3 s1 :: OwnMi s1.ma s1.ms s1.mc :: acO g6 a :: pyO g1 p :: T1) (fun w hw => by
  rw [hT1]; subst hs1
  exact hw.perm (((perm_rot2.cons _).cons _).cons _)) ?_
 obtain ⟨ok, hoke⟩ : ∃ ok, ok = r.ok := ⟨_, rfl⟩
 obtain ⟨n, hn⟩ : ∃ n, n = r.n := ⟨_, rfl⟩
 rw [← hr, ← hoke, ← hn]
 -- one of the minds
 have hmind : (0 ≤ n ∧ n < 5) → ∃ x, x = s1.ms.getD n.toNat Mi0 ∧ x ∈ s1.ms ∧ n.toNat < s1.ms.length ∧ x.1 = mindAt s.w n ∧ BI (2 * (k : Int)) x.1 ∧ 1 ≤ x.1.id ∧ x.1.id ≤ 5 := fun hrn => by
  have hnl : n.toNat < s1.ms.length := by rw [h1ms]; omega
  refine ⟨_, rfl, ?_, hnl, ?_, ?_⟩
  ·rw [List.getD_eq_getElem?_getD, List.getElem?_eq_getElem hnl]; exact List.getElem_mem _
  ·rw [← mi_mind, mi, h1ms]
  ·have hxp : (s1.ms.getD n.toNat Mi0).1 = mindAt s.w n := by rw [← mi_mind, mi, h1ms]
   rw [hxp]
   have := wb_mind hwk hrn
   exact ⟨this.1, by omega, by omega⟩
 have hI1 : ok = false → PlI p (k + 1) s1 T1 := fun h0 => ⟨hk, by
  rw [hwat, actP, if_neg n7, ← hr, if_pos (hoke.symm.trans h0)]; exact h1w, fun h hs => (hok1 h hs).1⟩
 repeat refine x_ ?_
 refine f_ z_1 ?_
 refine r_ (by exact s_load_blk rfl z_2 a18_0) ?_
 refine f_ ((s_eql rfl rfl).eb hq8) ?_
 repeat refine n_ ?_
 cases q8
 rotate_left
 ·have h8 : a.p.kind = 8 := of_decide_eq_true hq8.symm
  have h8' := evOf8 (w := s.w) h8
  rw [← hr] at h8'
  have hok0 : ok = false := hoke.trans h8'.1
  have hrn : 0 ≤ n ∧ n < 5 := by rw [hn, h8'.2]; exact nOf_range a.p
  obtain ⟨x, hx, hxm, hnl, hxp, hxb, hid⟩ := hmind hrn
  have hxs := bi_st hxb (by omega)
  have hmf : MFit a.m.p := (hrg a ham).fit (hp.2 a ham)
  obtain ⟨m', hm'⟩ : ∃ m' : MM, m' = { a.m with p := { a.m.p with to := n + 1 } } := ⟨_, rfl⟩
  have hmf' : MFit m'.p := by rw [hm']; exact ⟨hmf.index, hmf.lt, hmf.commit, hmf.term, hmf.el, hmf.ed, hmf.conf, hmf.off⟩
  have hmok : ∀ h, Heap.le F.heap h → MOk h m' := fun h hh => by
   have x := (hok.le hh).m a ham
   rw [hm']; exact ⟨x.e, x.k, x.ec⟩
  repeat refine x_ ?_
  refine f_ z_1 ?_
  refine r_ ((s_load_blkN rfl z_2 z_7).eq (v' := mmA a.m) rfl) ?_
  refine gl_allocA rfl ?_; intro g12
  (refine gl_store_blkW rfl rfl z_5 z_7 z_7 z_3 ?_)
  repeat refine x_ ?_
  refine m_ ?_
  refine f_ (s_add_i64 rfl rfl (by omega)) ?_
  refine f_ z_1 ?_
  (refine gl_store_blkC (pre := [_, _]) (post := [_, _, _, _, _, _, _, _, _, _]) rfl rfl z_5 z_7 z_7 z_7 ?_)
  repeat refine n_ ?_
  refine g_pull (H' := mmO g12 m' :: wB g3 s1 :: OwnMi s1.ma s1.ms s1.mc :: pyO g1 p :: T1) (fun w hw => by rw [hm']; exact (hw.upd_same (.there .del)).upd_same (.there (.there (.there .del)))) ?_
  obtain ⟨e8, he8⟩ : ∃ e8 : EV, e8 = ⟨2, m', 0, 0, [], 0, []⟩ := ⟨_, rfl⟩
  have hst1 := Step_ct' x.1 x.2 e8 hxs (by rw [he8]; exact hmf') (by rw [he8]; exact ⟨by show (1 : Int) ≤ 2; decide, by show (2 : Int) ≤ 4; decide⟩) (by rw [he8]; exact ⟨Int.le_refl _, by show (0 : Int) ≤ _; decide⟩)
  have hsz := hear_sz hxs hmf'
  have ep : stepP x.1 (evp e8) = hearP x.1 m'.p := by rw [he8]; unfold stepP; rw [if_neg (show ¬ (2 : Int) = 1 by decide), if_pos rfl]
  have em : stepM x.1 (evp e8) = hearM x.1 m'.p := by rw [he8]; unfold stepM; rw [if_neg (show ¬ (2 : Int) = 1 by decide), if_pos rfl]
  rw [← ep, ← em] at hsz
  obtain ⟨p', hp'⟩ : ∃ p', p' = stepP x.1 (evp e8) := ⟨_, rfl⟩
  obtain ⟨new, hnew⟩ : ∃ l, l = stepM x.1 (evp e8) := ⟨_, rfl⟩
  obtain ⟨er, her⟩ : ∃ l, l = stepE x.1 (evp e8) := ⟨_, rfl⟩
  rw [← hp', ← hnew] at hsz
  rw [← hp', ← hnew, ← her] at hst1
  have hpre : ∀ h, Heap.le F.heap h → (∃ bs, Sat h T1 bs) → RRd h x.1 x.2 ∧ MOk h m' := fun h hh hs => ⟨(hok1 h hs).1.ms x hxm, hmok h hh⟩
  refine g_ownN (a := s1.ma) z_2 (fun _ _ hma => ?_)
  have hmas : ∃ ad, s1.ma = some ad := hma (by omega)
  refine g_some (Q := x.1.l.length ≤ x.2.lc) (fun w hw => (hok1 _ (sat_t4 (hp_sat hw))).1.cap x hxm) (fun hcx => ?_)
  refine g_cutE (ι := { y : Nat × RA × List MM × Option Addr × Nat × List As // StI F.heap p' new T1 y.2.1 y.2.2.1 y.2.2.2.1 y.2.2.2.2.2 }) (fun y => [(1, Ptr g1), (3, Ptr g3), (5, .int .i64 (k : Nat)), (9, .int .i64 n), (12, Ptr g12), (13, Ptr y.1.1), (14, .slice y.1.2.2.2.1 y.1.2.2.1.length y.1.2.2.2.2.1), (15, .int .i64 er)]) (fun y => rsO y.1.1 p' y.1.2.1 :: mmO g12 m' :: wB g3 s1 :: OwnMi s1.ma s1.ms s1.mc :: pyO g1 p :: y.1.2.2.2.2.2) ?_ (fun y => ?_)
  ·repeat refine y_ ?_
   refine g_draw ([1, 4, 5], [0, 1, 0, 7, 15, 0, 32, 127, 255, 511, 511, 511, 0, 5119, 14335, 32767], [7, 12, 13]) [mmO g12 m', wB g3 s1, OwnMi s1.ma s1.ms s1.mc] 16 rfl ?_
   refine w_ 0 rfl z_1 ?_
   (refine ga_read_k 1 rfl z_9 (s_load_blk rfl .del a2_0) k_ rfl rfl rfl z_4 ?_)
   refine w_ 2 rfl (s_move rfl) ?_
   refine w_ 3 rfl (s_indexAddr rfl hmas rfl (by omega)) ?_
   refine ga_read_k 4 rfl z_17 ((s_loadN (cs := miC x) rfl (fun w hw => rdMiX_own (a := s1.ma) hw .del (i := n.toNat) (by omega) hnl hx) rfl).eq (v' := rsV x.1 x.2) rfl) k_ rfl rfl rfl z_4 ?_
   refine ga_read_k 5 rfl z_11 ((s_load_blkW rfl .del z_7).eq (v' := mmA m') rfl) k_ rfl rfl rfl z_4 ?_
   refine w_ 6 rfl ((s_bld (cells := (evC ⟨2, m', 0, 0, [], 0, []⟩).toArray) rfl z_4).eq (v' := evA e8) (by rw [he8])) ?_
   refine ga_two 7 12 rfl rfl z_4 ?_ ?_
   refine gl_call _ rfl hst1 i_ (fun h hh hs => by rw [he8]; exact hpre h hh (by exact sat_t4 hs)) rfl ?_; rintro v A ⟨a', outs, oa, oc, Z2, rfl, ho, rfl, hZ2⟩; refine gl_rot ?_
   refine gl_nil ?_
   refine at_ga (.inl z_4) ?_
   refine w_ 8 rfl (s_move rfl) ?_
   refine w_ 9 rfl (s_extract rfl rfl) ?_
   refine w_ 10 rfl (s_extract rfl rfl) ?_
   refine w_ 11 rfl (s_extract rfl rfl) ?_
   refine ga_one 12 rfl z_4 ?_
   refine gl_allocA rfl ?_; intro g13
   refine gl_nil ?_
   refine at_ga (.inl z_4) ?_
   refine ga_one 13 rfl z_4 ?_
   (refine gl_store_blkW rfl rfl z_5 z_7 z_7 z_3 ?_)
   refine gl_nil ?_
   refine at_ga (.inl z_4) ?_
   refine w_ 14 rfl (s_assign rfl) ?_
   refine w_ 15 rfl (s_assign rfl) ?_
   refine ga_done z_4 ?_
   rotate_left 1
   refine gl_allocA rfl ?_; intro g13
   refine gl_nil ?_
   refine at_ga (.inr (by exact keeps_of k_)) ?_
   refine ga_one 7 rfl z_4 ?_
   refine gl_call _ rfl hst1 i_ (fun h hh hs => by rw [he8]; exact hpre h hh (by exact sat_tail (sat_t4 hs))) rfl ?_; rintro v A ⟨a', outs, oa, oc, Z2, rfl, ho, rfl, hZ2⟩; refine gl_rot ?_
   refine gl_nil ?_
   refine at_ga (.inl z_4) ?_
   refine w_ 8 rfl (s_move rfl) ?_
   refine w_ 9 rfl (s_extract rfl rfl) ?_
   refine w_ 10 rfl (s_extract rfl rfl) ?_
   refine w_ 11 rfl (s_extract rfl rfl) ?_
   refine ga_one 13 rfl z_4 ?_
   (refine gl_store_blkW rfl rfl z_5 z_7 z_7 z_3 ?_)
   refine gl_nil ?_
   refine at_ga (.inl z_4) ?_
   refine w_ 14 rfl (s_assign rfl) ?_
   refine w_ 15 rfl (s_assign rfl) ?_
   refine ga_done z_4 ?_
   rotate_left 1
   all_goals (repeat refine y_ ?_)
   all_goals
    exact at_cutE ⟨(g13, a', outs, oa, oc, (OwnS p' a' ++ (OwnM oa outs oc :: Z2)) ++ T1), StI.of ho hZ2⟩ j_ (fun w hw => by first | exact hw.perm pl_a | exact hw.perm pl_b)
  obtain ⟨⟨g13, a', outs, oa, oc, T2⟩, hS1⟩ := y
  simp only at hS1
  have hst2 := rStep17_ct x.1 x.2 e8 hxs (by rw [he8]; exact hmf') (by rw [he8]; exact ⟨by show (1 : Int) ≤ 2; decide, by show (2 : Int) ≤ 4; decide⟩) (by rw [he8]; exact ⟨Int.le_refl _, by show (0 : Int) ≤ _; decide⟩) hcx
  rw [← hp', ← hnew, ← her] at hst2
  repeat refine y_ ?_
  refine g_cutE (ι := { y : Nat × RA × List MM × Option Addr × Nat × List As // StI F.heap p' new T2 y.2.1 y.2.2.1 y.2.2.2.1 y.2.2.2.2.2 }) (fun y => [(1, Ptr g1), (3, Ptr g3), (5, .int .i64 (k : Nat)), (13, Ptr g13), (14, .slice oa outs.length oc), (15, .int .i64 er), (16, Ptr y.1.1)]) (fun y => sdO y.1.1 ⟨p', y.1.2.1, y.1.2.2.1, y.1.2.2.2.1, y.1.2.2.2.2.1, er⟩ :: rsO g13 p' a' :: mmO g12 m' :: wB g3 s1 :: OwnMi s1.ma s1.ms s1.mc :: pyO g1 p :: y.1.2.2.2.2.2) ?_ (fun y => ?_)
  ·repeat refine y_ ?_
   refine g_draw ([1, 4, 5], [0, 1, 0, 7, 15, 0, 32, 127, 0, 511], [7, 8, 9]) [mmO g12 m', wB g3 s1, OwnMi s1.ma s1.ms s1.mc] 10 rfl ?_
   refine w_ 0 rfl z_1 ?_
   (refine ga_read_k 1 rfl z_9 (s_load_blk rfl .del a2_0) k_ rfl rfl rfl z_4 ?_)
   refine w_ 2 rfl (s_move rfl) ?_
   refine w_ 3 rfl (s_indexAddr rfl hmas rfl (by omega)) ?_
   refine ga_read_k 4 rfl z_17 ((s_loadN (cs := miC x) rfl (fun w hw => rdMiX_own (a := s1.ma) hw .del (i := n.toNat) (by omega) hnl hx) rfl).eq (v' := rsV x.1 x.2) rfl) k_ rfl rfl rfl z_4 ?_
   refine ga_read_k 5 rfl z_11 ((s_load_blkW rfl .del z_7).eq (v' := mmA m') rfl) k_ rfl rfl rfl z_4 ?_
   refine w_ 6 rfl ((s_bld (cells := (evC ⟨2, m', 0, 0, [], 0, []⟩).toArray) rfl z_4).eq (v' := evA e8) (by rw [he8])) ?_
   refine ga_two 7 8 rfl rfl z_4 ?_ ?_
   refine gl_call _ rfl hst2 i_ (fun h hh hs => by rw [he8]; exact hpre h hh (hS1.t h (by exact sat_tail (sat_t4 hs)))) rfl ?_; rintro v A ⟨⟨ps, a2, outs2, oa2, oc2, er2⟩, rfl, e1, e2, e3, e4, e5⟩; refine gl_rot ?_
   refine gl_nil ?_
   refine at_ga (.inl z_4) ?_
   refine ga_one 8 rfl z_4 ?_
   refine gl_allocA rfl ?_; intro g16
   refine gl_nil ?_
   refine at_ga (.inl z_4) ?_
   refine ga_one 9 rfl z_4 ?_
   (refine gl_store_blkW rfl rfl z_5 z_7 z_7 z_3 ?_)
   refine gl_nil ?_
   refine at_ga (.inl z_4) ?_
   refine ga_done z_4 ?_
   rotate_left 1
   refine gl_allocA rfl ?_; intro g16
   refine gl_nil ?_
   refine at_ga (.inr (by exact keeps_of k_)) ?_
   refine ga_one 7 rfl z_4 ?_
   refine gl_call _ rfl hst2 i_ (fun h hh hs => by rw [he8]; exact hpre h hh (hS1.t h (by exact sat_tail (sat_tail (sat_t4 hs))))) rfl ?_; rintro v A ⟨⟨ps, a2, outs2, oa2, oc2, er2⟩, rfl, e1, e2, e3, e4, e5⟩; refine gl_rot ?_
   refine gl_nil ?_
   refine at_ga (.inl z_4) ?_
   refine ga_one 9 rfl z_4 ?_
   (refine gl_store_blkW rfl rfl z_5 z_7 z_7 z_3 ?_)
   refine gl_nil ?_
   refine at_ga (.inl z_4) ?_
   refine ga_done z_4 ?_
   rotate_left 1
   all_goals (repeat refine y_ ?_)
   all_goals
    simp only at e1 e3
    subst e1 e3
    exact at_cutE ⟨(g16, a2, outs2, oa2, oc2, A ++ T2), StI.said rfl e2 e5 (fun h hh hs => by rw [he8]; exact hpre h hh (hS1.t h hs))⟩ j_ (fun w hw => by first | exact hw.perm pl_c | exact hw.perm pl_d)
  obtain ⟨⟨g16, a2, outs2, oa2, oc2, T3⟩, hS2⟩ := y
  simp only at hS2
  repeat refine x_ ?_
  refine r_ ((s_load_blkW rfl z_2 z_7).eq (v' := rsV p' a') rfl) ?_
  refine f_ z_1 ?_
  refine r_ ((s_load_blkN rfl z_2 z_7).eq (v' := rsV p' a2) rfl) ?_
  refine gl_callp rfl (Same_ct p' a' a2 hsz.1) (fun h hh hs => ⟨hS1.r h hh (hS2.t h (sat_tail (sat_tail (sat_t4 hs)))), hS2.r h hh (sat_tail (sat_tail (sat_t4 hs)))⟩) rfl ?_
  refine f_ (s_not rfl) ?_
  refine m_ ?_
  (refine v_ ?_; refine m_ ?_)
  (refine v_ ?_; refine f_ z_1 ?_)
  (refine v_ ?_; refine r_ (by exact s_load_blk rfl z_2 a20_18) ?_)
  (refine v_ ?_; refine gl_callp rfl (SameMessages_ct outs outs2 oa oa2 oc oc2 (by rw [hS1.o, hS2.o]) (fun x hx => hsz.2.1 _ (by rw [← hS1.o]; exact List.mem_map_of_mem hx)) (by have := hsz.2.2; rw [← hS1.o, List.length_map] at this; exact this)) (fun h hh hs => ⟨⟨hS1.oo h hh (hS2.t h (sat_tail (sat_tail (sat_t4 hs)))), hS1.om h hh (hS2.t h (sat_tail (sat_tail (sat_t4 hs))))⟩, hS2.oo h hh (sat_tail (sat_tail (sat_t4 hs))), hS2.om h hh (sat_tail (sat_tail (sat_t4 hs)))⟩) rfl ?_)
  (refine v_ ?_; refine f_ (s_not rfl) ?_)
  refine f_ z_12 ?_
  refine m_ ?_
  (refine v_ ?_; refine m_ ?_)
  (refine v_ ?_; refine f_ z_1 ?_)
  (refine v_ ?_; refine r_ (by exact s_load_blk rfl z_2 a20_19) ?_)
  (refine v_ ?_; refine f_ ((s_neq rfl rfl).eq (v' := .bool false) (by rw [decide_eq_true rfl]; rfl)) ?_)
  refine f_ z_12 ?_
  repeat refine x_ ?_
  refine m_ ?_
  refine f_ ((s_add_i64 rfl rfl (by omega)).eq (v' := .int .i64 ((k + 1 : Nat) : Int)) rfl) ?_
  refine a_ ?_
  repeat refine n_ ?_
  have hI2 := hI1 hok0
  refine at_next (k + 1, s1, T3) ⟨hI2.kle, hI2.w, fun h hs => hI2.ok h (hS1.t h (hS2.t h hs))⟩ (by show p.acts.length - (k + 1) < p.acts.length - k; omega) ?_ ?_
  ·(repeat (first | exact Sub.nil _ | refine Sub.cons rfl ?_))
  ·intro w hw; exact hw.drop.drop.drop
 repeat refine x_ ?_
 refine m_ ?_
 refine f_ (s_not rfl) ?_
 repeat refine n_ ?_
 cases ok
 ·repeat refine y_ ?_
  repeat refine x_ ?_
  refine m_ ?_
  refine f_ ((s_add_i64 rfl rfl (by omega)).eq (v' := .int .i64 ((k + 1 : Nat) : Int)) rfl) ?_
  refine a_ ?_
  repeat refine n_ ?_
  refine at_next (k + 1, s1, T1) (hI1 rfl) (by show p.acts.length - (k + 1) < p.acts.length - k; omega) ?_ ?_
  ·(repeat (first | exact Sub.nil _ | refine Sub.cons rfl ?_))
  ·intro w hw; exact (hw.drop.upd_same (.there (.there .del)))
 have hev0 := ev_ok hwk hK.1 (a := a.p) had (by rw [← hr]; exact hoke.symm)
 rw [← hr] at hev0
 have hrn := hev0.n
 rw [← hn] at hrn
 obtain ⟨x, hx, hxm, hnl, hxp, hxb, hid⟩ := hmind hrn
 have hxs := bi_st hxb (by omega)
 have hK0 : (0 : Int) ≤ 2 * (k : Int) := by omega
 have hbs := bi_step (e := r.e) hxb hK0 hid hev0.be
 have hfw := step_few (e := r.e) hxb hK0 hid hev0.be
 obtain ⟨p', hp'⟩ : ∃ p', p' = stepP x.1 r.e := ⟨_, rfl⟩
 obtain ⟨new, hnew⟩ : ∃ l, l = stepM x.1 r.e := ⟨_, rfl⟩
 obtain ⟨er, her⟩ : ∃ l, l = stepE x.1 r.e := ⟨_, rfl⟩
 rw [← hp', ← hnew] at hbs
 rw [← hnew] at hfw
 have hsm : PSm p' := (bi_st hbs.1 (by omega)).fit.sm
 have hms : ∀ m ∈ new, MSm m := fun m hm => by
  have h1 := hbs.2 m hm
  exact ⟨by have := h1.el; omega, by have := h1.conf.1; omega⟩
 have e1 : (actP s.w a.p).w = ⟨s.w.ms.set n.toNat p', cut40 (r.fl ++ new)⟩ := by rw [actP, if_neg n7, ← hr, if_neg (by rw [← hoke]; decide), ← hn, ← hxp, hp', hnew]
 have hmf : MFit e.m.p := by have := hev0.mfit (by omega); rw [← hev] at this; exact this
 have hkd : 1 ≤ e.kind ∧ e.kind ≤ 4 := by have := hev0.kind; rw [← hev] at this; exact this
 have hix : 0 ≤ e.index ∧ e.index ≤ 18446744073709551615 := by
  have := hev0.index
  rw [← hev] at this
  have h2 : 0 ≤ e.index ∧ e.index ≤ 2 * (k : Int) := this
  omega
 have hpre : ∀ h, (∃ bs, Sat h T1 bs) → RRd h x.1 x.2 ∧ MOk h e.m := fun h hs => ⟨(hok1 h hs).1.ms x hxm, (hok1 h hs).2⟩
 have hst1 := Step_ct' x.1 x.2 e hxs hmf hkd hix
 rw [hev, ← hp', ← hnew, ← her] at hst1
 repeat refine y_ ?_
 refine g_pull (H' := evO g10 e :: wB g3 s1 :: OwnMi s1.ma s1.ms s1.mc :: pyO g1 p :: T1) (fun w hw => hw.upd_same (.there (.there (.there .del)))) ?_
 refine g_ownN (a := s1.ma) z_2 (fun _ _ hma => ?_)
 have hmas : ∃ ad, s1.ma = some ad := hma (by omega)
 refine g_some (Q := x.1.l.length ≤ x.2.lc) (fun w hw => (hok1 _ (sat_t4 (hp_sat hw))).1.cap x hxm) (fun hcx => ?_)
 have hst2 := rStep17_ct x.1 x.2 e hxs hmf hkd hix hcx
 rw [hev, ← hp', ← hnew, ← her] at hst2
 refine g_cutE (ι := { y : Nat × RA × List MM × Option Addr × Nat × List As // StI F.heap p' new T1 y.2.1 y.2.2.1 y.2.2.2.1 y.2.2.2.2.2 }) (fun y => [(1, Ptr g1), (3, Ptr g3), (5, .int .i64 (k : Nat)), (9, .int .i64 n), (10, Ptr g10), (17, Ptr y.1.1)]) (fun y => sdO y.1.1 ⟨p', y.1.2.1, y.1.2.2.1, y.1.2.2.2.1, y.1.2.2.2.2.1, er⟩ :: evO g10 e :: wB g3 s1 :: OwnMi s1.ma s1.ms s1.mc :: pyO g1 p :: y.1.2.2.2.2.2) ?_ (fun y => ?_)
 ·repeat refine y_ ?_
  refine g_draw ([1, 4, 5], [0, 1, 0, 7, 15, 0, 63, 0, 255], [6, 7, 8]) [evO g10 e, wB g3 s1, OwnMi s1.ma s1.ms s1.mc] 9 rfl ?_
  refine w_ 0 rfl z_1 ?_
  (refine ga_read_k 1 rfl z_9 (s_load_blk rfl .del a2_0) k_ rfl rfl rfl z_4 ?_)
  refine w_ 2 rfl (s_move rfl) ?_
  refine w_ 3 rfl (s_indexAddr rfl hmas rfl (by omega)) ?_
  refine ga_read_k 4 rfl z_17 ((s_loadN (cs := miC x) rfl (fun w hw => rdMiX_own (a := s1.ma) hw .del (i := n.toNat) (by omega) hnl hx) rfl).eq (v' := rsV x.1 x.2) rfl) k_ rfl rfl rfl z_4 ?_
  refine ga_read_k 5 rfl z_11 ((s_load_blkW rfl .del z_7).eq (v' := evA e) rfl) k_ rfl rfl rfl z_4 ?_
  refine ga_two 6 7 rfl rfl z_4 ?_ ?_
  refine gl_call _ rfl hst2 i_ (fun h hh hs => hpre h (by exact sat_t4 hs)) rfl ?_; rintro v A ⟨⟨ps, a2, outs2, oa2, oc2, er2⟩, rfl, f1, f2, f3, f4, f5⟩; refine gl_rot ?_
  refine gl_nil ?_
  refine at_ga (.inl z_4) ?_
  refine ga_one 7 rfl z_4 ?_
  refine gl_allocA rfl ?_; intro g17
  refine gl_nil ?_
  refine at_ga (.inl z_4) ?_
  refine ga_one 8 rfl z_4 ?_
  (refine gl_store_blkW rfl rfl z_5 z_7 z_7 z_3 ?_)
  refine gl_nil ?_
  refine at_ga (.inl z_4) ?_
  refine ga_done z_4 ?_
  rotate_left 1
  refine gl_allocA rfl ?_; intro g17
  refine gl_nil ?_
  refine at_ga (.inr (by exact keeps_of k_)) ?_
  refine ga_one 6 rfl z_4 ?_
  refine gl_call _ rfl hst2 i_ (fun h hh hs => hpre h (by exact sat_tail (sat_t4 hs))) rfl ?_; rintro v A ⟨⟨ps, a2, outs2, oa2, oc2, er2⟩, rfl, f1, f2, f3, f4, f5⟩; refine gl_rot ?_
  refine gl_nil ?_
  refine at_ga (.inl z_4) ?_
  refine ga_one 8 rfl z_4 ?_
  (refine gl_store_blkW rfl rfl z_5 z_7 z_7 z_3 ?_)
  refine gl_nil ?_
  refine at_ga (.inl z_4) ?_
  refine ga_done z_4 ?_
  rotate_left 1
  all_goals (repeat refine y_ ?_)
  all_goals
   simp only at f1 f3
   subst f1 f3
   exact at_cutE ⟨(g17, a2, outs2, oa2, oc2, A ++ T1), StI.said rfl f2 f5 (fun h _ hs => hpre h hs)⟩ j_ (fun w hw => by first | exact hw.perm pl_a | exact hw.perm pl_b)
 obtain ⟨⟨g17, a2, outs2, oa2, oc2, T2⟩, hS2⟩ := y
 simp only at hS2
 repeat refine y_ ?_
 refine g_cutE (ι := { y : Nat × RA × List MM × Option Addr × Nat × List As // y.2.2.1.map MM.p = new ∧ ∀ h, (∃ bs, Sat h y.2.2.2.2.2 bs) → ∀ m ∈ y.2.2.1, MOk h m }) (fun y => [(1, Ptr g1), (3, Ptr g3), (5, .int .i64 (k : Nat)), (9, .int .i64 n), (17, Ptr g17), (18, Ptr y.1.1), (19, .slice y.1.2.2.2.1 y.1.2.2.1.length y.1.2.2.2.2.1), (20, .int .i64 er)]) (fun y => rsO y.1.1 p' y.1.2.1 :: sdO g17 ⟨p', a2, outs2, oa2, oc2, er⟩ :: evO g10 e :: wB g3 s1 :: OwnMi s1.ma s1.ms s1.mc :: pyO g1 p :: ((OwnS p' y.1.2.1 ++ (OwnM y.1.2.2.2.1 y.1.2.2.1 y.1.2.2.2.2.1 :: y.1.2.2.2.2.2)) ++ T2)) ?_ (fun y => ?_)
 ·repeat refine y_ ?_
  refine g_draw ([1, 4, 5], [0, 1, 0, 7, 15, 0, 63, 127, 255, 255, 255, 0, 2559, 7167, 16383], [6, 11, 12]) [sdO g17 ⟨p', a2, outs2, oa2, oc2, er⟩, evO g10 e, wB g3 s1, OwnMi s1.ma s1.ms s1.mc] 15 rfl ?_
  refine w_ 0 rfl z_1 ?_
  (refine ga_read_k 1 rfl z_17 (s_load_blk rfl .del a2_0) k_ rfl rfl rfl z_4 ?_)
  refine w_ 2 rfl (s_move rfl) ?_
  refine w_ 3 rfl (s_indexAddr rfl hmas rfl (by omega)) ?_
  refine ga_read_k 4 rfl (by exact .tail _ (.tail _ (.tail _ (.head _)))) ((s_loadN (cs := miC x) rfl (fun w hw => rdMiX_own (a := s1.ma) hw .del (i := n.toNat) (by omega) hnl hx) rfl).eq (v' := rsV x.1 x.2) rfl) k_ rfl rfl rfl z_4 ?_
  refine ga_read_k 5 rfl z_9 ((s_load_blkW rfl .del z_7).eq (v' := evA e) rfl) k_ rfl rfl rfl z_4 ?_
  refine ga_two 6 11 rfl rfl z_4 ?_ ?_
  refine gl_call _ rfl hst1 i_ (fun h hh hs => hpre h (hS2.t h (by exact sat_tail (sat_t4 hs)))) rfl ?_; rintro v A ⟨a', outs, oa, oc, Z2, rfl, ho, rfl, hZ2⟩; refine gl_rot ?_
  refine gl_nil ?_
  refine at_ga (.inl z_4) ?_
  refine w_ 7 rfl (s_move rfl) ?_
  refine w_ 8 rfl (s_extract rfl rfl) ?_
  refine w_ 9 rfl (s_extract rfl rfl) ?_
  refine w_ 10 rfl (s_extract rfl rfl) ?_
  refine ga_one 11 rfl z_4 ?_
  refine gl_allocA rfl ?_; intro g18
  refine gl_nil ?_
  refine at_ga (.inl z_4) ?_
  refine ga_one 12 rfl z_4 ?_
  (refine gl_store_blkW rfl rfl z_5 z_7 z_7 z_3 ?_)
  refine gl_nil ?_
  refine at_ga (.inl z_4) ?_
  refine w_ 13 rfl (s_assign rfl) ?_
  refine w_ 14 rfl (s_assign rfl) ?_
  refine ga_done z_4 ?_
  rotate_left 1
  refine gl_allocA rfl ?_; intro g18
  refine gl_nil ?_
  refine at_ga (.inr (by exact keeps_of k_)) ?_
  refine ga_one 6 rfl z_4 ?_
  refine gl_call _ rfl hst1 i_ (fun h hh hs => hpre h (hS2.t h (by exact sat_tail (sat_tail (sat_t4 hs))))) rfl ?_; rintro v A ⟨a', outs, oa, oc, Z2, rfl, ho, rfl, hZ2⟩; refine gl_rot ?_
  refine gl_nil ?_
  refine at_ga (.inl z_4) ?_
  refine w_ 7 rfl (s_move rfl) ?_
  refine w_ 8 rfl (s_extract rfl rfl) ?_
  refine w_ 9 rfl (s_extract rfl rfl) ?_
  refine w_ 10 rfl (s_extract rfl rfl) ?_
  refine ga_one 12 rfl z_4 ?_
  (refine gl_store_blkW rfl rfl z_5 z_7 z_7 z_3 ?_)
  refine gl_nil ?_
  refine at_ga (.inl z_4) ?_
  refine w_ 13 rfl (s_assign rfl) ?_
  refine w_ 14 rfl (s_assign rfl) ?_
  refine ga_done z_4 ?_
  rotate_left 1
  all_goals (repeat refine y_ ?_)
  all_goals
   exact at_cutE ⟨(g18, a', outs, oa, oc, Z2), ho, hZ2⟩ j_ (fun w hw => by first | exact hw.perm pl_c | exact hw.perm pl_d)
 obtain ⟨⟨g18, a', outs, oa, oc, Z2⟩, ho, hZ2⟩ := y
 simp only at ho hZ2
 have hS1 : StI F.heap p' new T2 a' outs oa ((OwnS p' a' ++ (OwnM oa outs oc :: Z2)) ++ T2) := StI.of ho hZ2
 have hol : outs.length ≤ 5 := by rw [← List.length_map (f := MM.p), ho]; exact hfw
 have ht6 : ∀ {h : Heap} {b1 b2 : As} {T : List As}, (∃ bs, Sat h (b1 :: b2 :: evO g10 e :: wB g3 s1 :: OwnMi s1.ma s1.ms s1.mc :: pyO g1 p :: T) bs) → ∃ bs, Sat h T bs := fun hs => sat_tail (sat_tail (sat_t4 hs))
 repeat refine x_ ?_
 refine r_ ((s_load_blkW rfl z_2 z_7).eq (v' := rsV p' a') rfl) ?_
 refine f_ z_1 ?_
 refine r_ ((s_load_blkN rfl z_2 z_7).eq (v' := rsV p' a2) rfl) ?_
 refine gl_callp rfl (Same_ct p' a' a2 hsm) (fun h hh hs => ⟨hS1.r h hh (ht6 hs), hS2.r h hh (hS1.t h (ht6 hs))⟩) rfl ?_
 refine f_ (s_not rfl) ?_
 refine m_ ?_
 (refine v_ ?_; refine m_ ?_)
 (refine v_ ?_; refine f_ z_1 ?_)
 (refine v_ ?_; refine r_ (by exact s_load_blk rfl z_2 a20_18) ?_)
 (refine v_ ?_; refine gl_callp rfl (SameMessages_ct outs outs2 oa oa2 oc oc2 (by rw [ho, hS2.o]) (fun y hy => hms _ (by rw [← ho]; exact List.mem_map_of_mem hy)) (by omega)) (fun h hh hs => ⟨⟨hS1.oo h hh (ht6 hs), hS1.om h hh (ht6 hs)⟩, hS2.oo h hh (hS1.t h (ht6 hs)), hS2.om h hh (hS1.t h (ht6 hs))⟩) rfl ?_)
 (refine v_ ?_; refine f_ (s_not rfl) ?_)
 refine f_ z_12 ?_
 refine m_ ?_
 (refine v_ ?_; refine m_ ?_)
 (refine v_ ?_; refine f_ z_1 ?_)
 (refine v_ ?_; refine r_ (by exact s_load_blk rfl z_2 a20_19) ?_)
 (refine v_ ?_; refine f_ ((s_neq rfl rfl).eq (v' := .bool false) (by rw [decide_eq_true rfl]; rfl)) ?_)
 refine f_ z_12 ?_
 repeat refine n_ ?_
 obtain ⟨s2, hs2⟩ : ∃ s2 : WS, s2 = { s1 with ms := s1.ms.set n.toNat (p', a') } := ⟨_, rfl⟩
 have hpm := putx_mi (l := s1.ms) (i := n.toNat) (y := (p', a')) hnl
 have hsl : (s1.ms.set n.toNat (p', a')).length = s1.ms.length := List.length_set
 refine g_pull (H' := rsO g18 p' a' :: wB g3 s1 :: OwnMi s1.ma s1.ms s1.mc :: pyO g1 p :: OwnM oa outs oc :: (OwnS p' a' ++ (Z2 ++ T2))) (fun w hw => by
  have h1 := (hw.upd_same (.there .del)).upd_same (.there .del)
  exact h1.perm (((((by rw [List.append_assoc]; exact List.perm_middle : ((OwnS p' a' ++ (OwnM oa outs oc :: Z2)) ++ T2).Perm (OwnM oa outs oc :: (OwnS p' a' ++ (Z2 ++ T2)))).cons _).cons _).cons _).cons _)) ?_
 repeat refine x_ ?_
 refine f_ z_1 ?_
 refine r_ (by exact s_load_blk rfl z_2 a2_0) ?_
 refine m_ ?_
 refine r_ ((s_load_blkW rfl z_2 z_7).eq (v' := rsV p' a') rfl) ?_
 refine f_ ((s_indexAddr rfl hmas rfl (by omega)).eq (v' := .pointer (addO s1.ma (18 * n.toNat))) (by congr 2; omega)) ?_
 refine gl_store_own (q := 18 * n.toNat) rfl rfl z_5 z_7 (by decide) z_3 (by show 18 * n.toNat + 18 ≤ (miV s1.ms).length; rw [miV_len]; omega) ?_
 repeat refine n_ ?_
 refine g_pull (H' := wB g3 s2 :: OwnMi s2.ma s2.ms s2.mc :: OwnM oa outs oc :: pyO g1 p :: (OwnS p' a' ++ (Z2 ++ T2))) (fun w hw => by
  subst hs2
  simp only [wB, OwnMi, hsl, ← hpm]
  exact hw.drop.perm (((List.Perm.swap _ _ _).cons _).cons _)) ?_
 have h2fm : s2.fm = s1.fm := by rw [hs2]
 have h2fa : s2.fa = s1.fa := by rw [hs2]
 have htt : ∀ {h : Heap} {b1 b2 b3 b4 : As}, (∃ bs, Sat h (b1 :: b2 :: b3 :: b4 :: (OwnS p' a' ++ (Z2 ++ T2))) bs) → ∃ bs, Sat h T1 bs := fun hs => hS2.t _ (Sat.two2 (Sat.two2 (sat_t4 hs)).2).2
 have hsrc : ∀ (w : World), Hp F w (wB g3 s2 :: OwnMi s2.ma s2.ms s2.mc :: OwnM oa outs oc :: pyO g1 p :: (OwnS p' a' ++ (Z2 ++ T2))) → RdS (Go.Sl.hp w) s2.fa (mmV s2.fm) := fun w hw => by
  rw [h2fm, h2fa]
  exact (hok1 _ (htt (hp_tail hw))).1.fa
 have hf2 : s2.fm.length ≤ 40 := by rw [h2fm, h1fm]; exact hfl
 have hnlen : (s2.fm ++ outs).length = 0 + s2.fm.length + outs.length := by rw [List.length_append]; omega
 refine g_cutE (ι := Option Addr × Nat) (fun _ => [(1, Ptr g1), (3, Ptr g3), (5, .int .i64 (k : Nat))]) (fun y => wB g3 { s2 with fm := s2.fm ++ outs, fa := y.1, fc := y.2 } :: OwnMi s2.ma s2.ms s2.mc :: OwnM y.1 (s2.fm ++ outs) y.2 :: OwnM oa outs oc :: pyO g1 p :: (OwnS p' a' ++ (Z2 ++ T2))) ?_ (fun y => ?_)
 ·repeat refine y_ ?_
  refine g_region ?_
  refine gl_buildSlice0 rfl ?_; intro a168
  refine f_ z_1 ?_
  refine r_ (by exact s_load_blk rfl z_2 a2_1) ?_
  refine gl_append (sz := 13) rfl rfl (fun a' c' => z_5) (fun w hw => hsrc w hw.drop) (mmV_len _) rfl rfl (mmV_one _) (by show (0 + s2.fm.length) * 144 ≤ 140737488355328; omega) (by omega) rfl ?_; intro a61 c61 hc61
  refine m_ ?_
  refine gl_append (sz := 13) rfl rfl (fun a' c' => z_5) (fun w hw => (hw.ownN (a := oa) z_2).2.2.1) (mmV_len _) rfl rfl (mmV_one _) (by show (0 + s2.fm.length + outs.length) * 144 ≤ 140737488355328; omega) (by show 0 + s2.fm.length + outs.length ≤ _; omega) rfl ?_; intro a63 c63 hc63
  refine f_ z_1 ?_
  (refine gl_store_blkC (pre := [_]) (post := []) rfl rfl z_5 z_7 z_7 z_7 ?_)
  repeat refine n_ ?_
  exact at_cutE (a63, c63) j_ (fun w hw => by
   simp only [wB, OwnM, mmV_append, hnlen]
   rw [List.nil_append] at hw
   exact hw.perm (perm_up z_2 (perm_up z_2 (.refl _))))
 obtain ⟨ya, yc⟩ := y
 obtain ⟨al, hal⟩ : ∃ al, al = s2.fm ++ outs := ⟨_, rfl⟩
 rw [← hal] at hnlen
 rw [← hal]
 have hal45 : al.length ≤ 45 := by omega
 obtain ⟨kk, hkk⟩ : ∃ k, k = al.length - 40 := ⟨_, rfl⟩
 have hkd2 : (al.drop kk).length = al.length - kk := List.length_drop
 obtain ⟨q, hq⟩ : ∃ q, q = decide ((40 : Int) < (al.length : Nat)) := ⟨_, rfl⟩
 repeat refine y_ ?_
 refine g_ownN (a := ya) z_2 (fun _ hyc hys => ?_)
 repeat refine x_ ?_
 refine f_ z_1 ?_
 refine r_ (by exact s_load_blk rfl z_2 a2_1) ?_
 refine f_ (s_len_sl rfl) ?_
 refine f_ ((s_gtr rfl rfl).eb hq) ?_
 repeat refine n_ ?_
 refine g_cutK [(1, Ptr g1), (3, Ptr g3), (5, .int .i64 (k : Nat))] (wB g3 { s2 with fm := al.drop kk, fa := cutA ya yc kk 13, fc := yc - kk } :: OwnMi s2.ma s2.ms s2.mc :: OwnM ya al yc :: OwnM oa outs oc :: pyO g1 p :: (OwnS p' a' ++ (Z2 ++ T2))) ?_ ?_
 ·cases q
  ·have h0 : kk = 0 := by have := of_decide_eq_false hq.symm; omega
   repeat refine y_ ?_
   exact at_cut j_ (fun w hw => by rw [h0, cutA_zero]; exact hw)
  ·have h0 : 40 < al.length := by have := of_decide_eq_true hq.symm; omega
   repeat refine x_ ?_
   refine f_ z_1 ?_
   refine r_ (by exact s_load_blk rfl z_2 a2_1) ?_
   refine f_ z_1 ?_
   refine r_ (by exact s_load_blk rfl z_2 a2_1) ?_
   refine f_ (s_len_sl rfl) ?_
   refine f_ ((s_sub_i64 rfl rfl (by show -9223372036854775808 ≤ (al.length : Int) - 40 ∧ (al.length : Int) - 40 ≤ 9223372036854775807; omega)).eq (v' := .int .i64 (kk : Nat)) (by congr 1; show (al.length : Int) - 40 = (kk : Nat); omega)) ?_
   refine f_ ((s_slice_sl rfl rfl rfl (by show 0 ≤ ((kk : Nat) : Int) ∧ ((kk : Nat) : Int) ≤ (al.length : Nat) ∧ ((al.length : Nat) : Int) ≤ (yc : Nat); omega)).eq (v' := .slice (cutA ya yc kk 13) (al.drop kk).length (yc - kk)) (by rw [hkd2]; rfl)) ?_
   refine f_ z_1 ?_
   (refine gl_store_blkC (pre := [_]) (post := []) rfl rfl z_5 z_7 z_7 z_7 ?_)
   repeat refine n_ ?_
   exact at_cut j_ i_
 repeat refine x_ ?_
 refine m_ ?_
 refine f_ ((s_add_i64 rfl rfl (by omega)).eq (v' := .int .i64 ((k + 1 : Nat) : Int)) rfl) ?_
 refine a_ ?_
 repeat refine n_ ?_
 refine at_next (k + 1, { s2 with fm := al.drop kk, fa := cutA ya yc kk 13, fc := yc - kk }, OwnM ya al yc :: OwnM oa outs oc :: (OwnS p' a' ++ (Z2 ++ T2))) ⟨hk, ?_, fun h hs => ?_⟩ (by show p.acts.length - (k + 1) < p.acts.length - k; omega) ?_ ?_
 ·rw [hwat, e1, hs2]
  show (⟨(s1.ms.set n.toNat (p', a')).map (·.1), (al.drop kk).map MM.p⟩ : WP) = ⟨s.w.ms.set n.toNat p', cut40 (r.fl ++ new)⟩
  rw [List.map_set, List.map_drop, hal, List.map_append, h2fm, h1fm, hfm, ho, cut40, h1ms]
  congr 2
  rw [hkk, hal, List.length_append, List.length_append, ← hfm, ← ho, List.length_map, List.length_map, h2fm, h1fm]
 ·have t2 := Sat.two2 (sat_tail (sat_tail hs))
  have t3 := Sat.two2 t2.2
  have f1 := (hok1 h (hS2.t h t3.2)).1
  have f2 : WS.ok h s2 := by rw [hs2]; exact ws_set f1 (ownS_ok t2.1).1 (ownS_ok t2.1).2
  obtain ⟨bs, hb⟩ := hs
  refine ⟨f2.ms, f2.cap, rd_dropM (Sat.rd (a := ya) hb .del) hyc (i := kk) (by omega), fun m hm => ?_, ?_⟩
  ·have hm2 : m ∈ al := List.mem_of_mem_drop hm
   rw [hal] at hm2
   rcases List.mem_append.1 hm2 with h1 | h1
   ·exact f2.fm m h1
   ·exact hZ2 h t3.1 m h1
  ·show (al.drop kk).length ≤ yc - kk
   rw [hkd2]
   omega
 ·(repeat (first | exact Sub.nil _ | refine Sub.cons rfl ?_))
 ·intro w hw; exact hw.perm ((List.perm_append_comm (l₁ := [OwnM ya al yc, OwnM oa outs oc]) (l₂ := [pyO g1 p])).append_right _ |>.cons _ |>.cons _)
end Go.Proofs.YtodcghipfolejaaGreat.Rf
namespace Go.Sl
open Go Go.RowKit Go.WideShapes Go.ChangeShapes Go.ChangeMaps
theorem Hp.below {W w' : World} {A : List As} (h : Hp (snap W) w' A) : Below W.heap.size W w' := by
 have hk : ∀ k, k < W.heap.size → w'.heap[k]? = W.heap[k]? := fun k hk => by
  have e : W.heap[k]? = some W.heap[k] := Array.getElem?_eq_getElem hk
  rw [e]
  exact h.keep k _ (by show hpBut W [] k = _; rw [hpBut_nil]; exact e)
 refine ⟨h.os, h.tape, h.output, ?_, hk⟩
 rcases Nat.lt_or_ge w'.heap.size W.heap.size with hlt | hge
 ·have h1 := hk w'.heap.size hlt
  rw [Array.getElem?_eq_getElem hlt] at h1
  simp at h1
 ·exact hge
section
variable {H : Type} {enc : TypeId × Value → H} {P : Program}
theorem law_post {f : Func} {s : ChangeSpec} {apart fresh handsOn again : Bool} {W W' : World} {args : Array Value} {v : Value} {ds gs : List (DataW H)} {before pa pv : List MemPlace}
  (hW : DataW.Whole enc P f.params.toList s.vars apart W args.toList ds gs before)
  (hres : ∀ (b : Nat) (sp : Nat → Bool) (hd : Bool), DataW.TrodAll enc P W' b sp hd f.resultTypes.toList (v.resultList f.resultTypes.size) (s.fn H (ds ++ gs)).results [])
  (hargs : ∀ sp : Nat → Bool, (∀ p ∈ before, sp p.block = true) → DataW.TrodAll enc P W' 0 sp true f.params.toList args.toList (s.fn H (ds ++ gs)).args pa)
  (hvars : ∀ sp : Nat → Bool, (∀ p ∈ before, sp p.block = true) → DataW.TrodVars enc P W' sp s.vars (s.fn H (ds ++ gs)).vars pv)
  (hps : before = pa ++ pv) (hb : Below W.heap.size W W')
  (hok : ∀ (j : Nat) (t : TypeId) (r : Value), f.resultTypes[j]? = some t → (v.resultList f.resultTypes.size)[j]? = some r → Value.okWide P W' .any 0 t r) :
  s.post enc P f apart fresh handsOn again W args v W' := by
 have hlt : ∀ p ∈ before, p.block < W.heap.size := fun p hp => hW.lt p hp
 have hold : ∀ p ∈ before, (fun b => decide (b < W.heap.size)) p.block = true := fun p hp => by simpa using hlt p hp
 refine ⟨ds, gs, before, [], pa, pv, hW, hres _ _ _, hargs _ hold, hvars _ hold, World.keptBut_mono (fun p hp => ⟨hp, ?_⟩) (hb.frame (· ∈ before)), fun _ => ?_⟩
 ·rw [hps, List.mem_append] at hp
  exact Or.inr hp
 ·obtain ⟨_, _, _, _, _, hz, hn⟩ := hW
  refine ⟨hok, _, _, ([] ++ pa) ++ pv, ⟨[] ++ pa, pv, trodAll_append (hargs _ (fun _ _ => rfl)) (hres _ _ _), hvars _ (fun _ _ => rfl), rfl, ?_, ?_⟩, ?_⟩
  ·intro b off hp
   have hin : MemPlace.cell b off ∈ before := by rw [hps]; simpa using hp
   rw [hb.frozen (hlt _ hin)]
   exact hz b off hin
  ·intro ha
   have := hn ha
   rw [hps] at this
   simpa using this
  ·intro p hp _
   rw [hps]
   simpa using hp
theorem trodAll_below (hl : laidOutB P = true) {W W' : World} (hb : Below W.heap.size W W') (sp : Nat → Bool) : ∀ {ts : List TypeId} {vs : List Value} {ds : List (DataW H)} {ps : List MemPlace},
  (ts.all fun t => P.readableRec t && decide (t < P.types.size)) = true → DataW.TrodAll enc P W 0 (fun _ => true) true ts vs ds ps → (∀ p ∈ ps, p.block < W.heap.size) → (∀ p ∈ ps, sp p.block = true) →
   DataW.TrodAll enc P W' 0 sp true ts vs ds ps
 | [], vs, ds, ps, _, h, _, _ => by
  obtain ⟨rfl, rfl, rfl⟩ := trodAll_nil h
  rfl
 | t :: ts, vs, ds, ps, hr, h, hlt, hs => by
  obtain ⟨v, vs', d, ds', p, q, rfl, rfl, rfl, h1, h2⟩ := trodAll_cons h
  simp only [List.all_cons, Bool.and_eq_true, decide_eq_true_eq] at hr
  refine ⟨p, q, WideElems.Trod_stays hl hr.1.1 hr.1.2 h1 (fun x hx => hb.same (hlt x (List.mem_append.2 (.inl hx)))) (fun x hx => hs x (List.mem_append.2 (.inl hx))), ?_, rfl⟩
  exact trodAll_below hl hb sp (by simpa using hr.2) h2 (fun x hx => hlt x (List.mem_append.2 (.inr hx))) (fun x hx => hs x (List.mem_append.2 (.inr hx)))
theorem law_true {f : FuncId} {fn : Func} {s : ChangeSpec} {fresh handsOn again : Bool} {W : World} {vs : List Value} {ds gs : List (DataW H)} {before : List MemPlace} {Pre : Heap → Prop} {t : TypeId}
  (hc : Pu P f vs Pre (.bool true)) (hpre : Pre (hp W)) (hvs : s.vars = [])
  (hW : DataW.Whole enc P fn.params.toList s.vars false W vs ds gs before) (hres : fn.resultTypes = #[t]) (ht : P.underlying t = some .bool)
  (hl : laidOutB P = true) (hr : (fn.params.toList.all fun t => P.readableRec t && decide (t < P.types.size)) = true)
  (hs : s.fn H (ds ++ gs) = { results := [.lit (.bool true)], args := ds }) :
  Calls P f vs.toArray W fun e W' => ∃ v, e = .returned v ∧ s.post enc P fn false fresh handsOn again W vs.toArray v W' := by
 refine (hc W [] rfl List.nodup_nil (by rw [hpBut_nil]; exact hpre)).mono ?_
 rintro e W' ⟨v, A, rfl, ⟨rfl, rfl⟩, hh⟩
 refine ⟨_, rfl, ?_⟩
 have hW' := hW
 have hlt := fun p hp => hW'.lt p hp
 obtain ⟨p, q, hA, hV, hpq, hfz, hnd⟩ := hW
 rw [hvs] at hV
 obtain ⟨rfl, rfl⟩ := trodVars_none hV
 have hb := Hp.below hh
 refine law_post (pa := p) (pv := []) (args := vs.toArray) (by simpa using hW') (fun b sp hd => ?_) (fun sp hsp => ?_) (fun sp hsp => ?_) hpq hb ?_
 ·rw [hs, hres]
  exact trodAll_cons_mk (shut_bool ht true) trodAll_mk0
 ·rw [hs]
  refine trodAll_below hl hb sp hr hA (fun x hx => hlt x ?_) (fun x hx => hsp x ?_) <;> (rw [hpq]; simpa using hx)
 ·rw [hs, hvs]; rfl
 ·exact ok_one hres rfl (okWide_bool_mk ht true)
end
end Go.Sl
namespace Go.Sl
open Go Go.RowKit Go.WideShapes Go.ChangeShapes Go.ChangeMaps
mutual
def bulkOf {H : Type} : DataW H → Nat
 | .lit (.string bytes) => bytes.length + 1
 | .lit _ => 1
 | .nil => 1
 | .ptr d => bulkOf d + 1
 | .slice elems spare => bulkAll elems + bulkAll spare + 1
 | .agg parts => bulkAll parts + 1
 | .iface _ d => bulkOf d + 1
 | .map entries => bulkEntries entries + 1
 | .held _ => 1
def bulkAll {H : Type} : List (DataW H) → Nat
 | [] => 0
 | d :: r => bulkOf d + bulkAll r
def bulkEntries {H : Type} : List (Lit × DataW H) → Nat
 | [] => 0
 | x :: r => bulkEntry x + bulkEntries r
def bulkEntry {H : Type} : Lit × DataW H → Nat
 | (.string bytes, d) => bytes.length + bulkOf d + 1
 | (_, d) => bulkOf d + 1
end
theorem bulkAll_sum {H : Type} (l : List (DataW H)) : bulkAll l = (l.map bulkOf).sum := by
 induction l with
 | nil => rfl
 | cons d r ih => simp only [bulkAll, List.map_cons, List.sum_cons, ih]
structure Shp (P : Program) (t : TypeId) {α : Type} (cells : α → List Value) (ok : Heap → α → Prop) (bulk : α → Nat) : Prop where
 h : ∀ {H : Type} (enc : TypeId × Value → H) (w : World) (base : Nat) (sp : Nat → Bool) (held : Bool) (fuel : Nat) (cs : List Value) (x : DataW H × List MemPlace), DataW.trod enc P w base sp held fuel t cs = some x → ∃ y, cs = cells y ∧ ok (hp w) y ∧ bulk y ≤ bulkOf x.1
section
variable {P : Program} {t e : TypeId} {k : IntKind}
theorem shp_int (ht : P.underlying t = some (.int k)) : Shp P t (fun n : Int => [.int k n]) (fun _ n => (Lit.int k n).wf = true) (fun _ => 1) := ⟨fun enc w base sp held fuel cs x h => by
 obtain ⟨n, rfl, rfl, hw⟩ := DataW.trod_int ht h
 exact ⟨n, rfl, hw, Nat.le_refl _⟩⟩
theorem shp_bool (ht : P.underlying t = some .bool) : Shp P t (fun b : Bool => [.bool b]) (fun _ _ => True) (fun _ => 1) := ⟨fun enc w base sp held fuel cs x h => by
 obtain ⟨n, rfl, rfl⟩ := DataW.trod_bool ht h
 exact ⟨n, rfl, trivial, Nat.le_refl _⟩⟩
theorem shp_string (ht : P.underlying t = some .string) : Shp P t (fun l : List UInt8 => [B l]) (fun _ l => l.length ≤ maxLen) (fun l => l.length + 1) := ⟨fun enc w base sp held fuel cs x h => by
 obtain ⟨s, rfl, rfl, hs⟩ := DataW.trod_string ht h
 exact ⟨s.data.toList, rfl, by rw [Array.length_toList]; exact hs, by simp [bulkOf]⟩⟩
structure SlOk {α : Type} (cells : α → List Value) (ok : Heap → α → Prop) (h : Heap) (a : Option Addr) (ls : List α) (c : Nat) : Prop where
 le : ls.length ≤ c
 max : c ≤ maxLen
 rd : RdS h a (ls.flatMap cells)
 each : ∀ y ∈ ls, ok h y
theorem flat_get {α : Type} {cells : α → List Value} {n : Nat} (hn : ∀ y, (cells y).length = n) (hpos : 0 < n) : ∀ (ls : List α) (j : Nat) (u : Value), (ls.flatMap cells)[j]? = some u → ∃ y, ls[j / n]? = some y ∧ (cells y)[j % n]? = some u
 | [], j, u, h => by simp at h
 | x :: r, j, u, h => by
  rw [List.flatMap_cons] at h
  by_cases hj : j < n
  ·rw [List.getElem?_append_left (by rw [hn]; exact hj)] at h
   refine ⟨x, ?_, ?_⟩
   ·rw [Nat.div_eq_of_lt hj]; rfl
   ·rw [Nat.mod_eq_of_lt hj]; exact h
  ·rw [List.getElem?_append_right (by rw [hn]; omega), hn] at h
   obtain ⟨y, h1, h2⟩ := flat_get hn hpos r (j - n) u h
   refine ⟨y, ?_, ?_⟩
   ·have : j / n = (j - n) / n + 1 := by
     conv => lhs; rw [show j = (j - n) + n by omega]
     rw [Nat.add_div_right _ hpos]
    rw [this]; simpa using h1
   ·rw [Nat.mod_eq_sub_mod (by omega)]; exact h2
theorem slice_open {α : Type} {cells : α → List Value} {ok : Heap → α → Prop} {bulk : α → Nat} (ht : P.underlying t = some (.slice e)) (S : Shp P e cells ok bulk) {n : Nat} (hc : P.cellsOf e = n) (hn : ∀ y, (cells y).length = n) (hpos : 0 < n)
  {H : Type} {enc : TypeId × Value → H} {w : World} {base : Nat} {sp : Nat → Bool} {held : Bool} {fuel : Nat} {cs : List Value} {x : DataW H × List MemPlace} (h : DataW.trod enc P w base sp held fuel t cs = some x) :
  ∃ (a : Option Addr) (ls : List α) (c : Nat), cs = [.slice a ls.length c] ∧ SlOk cells ok (hp w) a ls c ∧ ((x.1 = .nil ∧ ls = []) ∨ ∃ elems spare, x.1 = .slice elems spare ∧ elems.length = ls.length) ∧ (ls.map bulk).sum + 1 ≤ bulkOf x.1 := by
 rcases DataW.trod_slice ht h with ⟨rfl, rfl⟩ | ⟨a, len, cap, elems, rest, m, _, rfl, rfl, hb, hl, hm, hlen, hel, _, _⟩
 ·exact ⟨none, [], 0, rfl, ⟨Nat.le_refl _, Nat.zero_le _, RdS.nil _ _, by simp⟩, .inl ⟨rfl, rfl⟩, by simp [bulkOf]⟩
 ·have key : ∀ (k : Nat), k ≤ len → ∃ ls : List α, ls.length = k ∧ (∀ i y, ls[i]? = some y → w.cells? base (a.add (i * n)) n = some (cells y) ∧ ok (hp w) y) ∧ (ls.map bulk).sum ≤ ((elems.take k).map (fun x => bulkOf x.1)).sum := by
   intro k
   induction k with
   | zero => intro _; exact ⟨[], rfl, by simp, by simp⟩
   | succ k ih =>
    intro hk
    obtain ⟨ls, h1, h2, h3⟩ := ih (by omega)
    have h4 := hel k (by omega)
    have hk' : k < elems.length := by omega
    rw [List.getElem?_eq_getElem hk', hc, Option.bind_eq_some_iff] at h4
    obtain ⟨cs, h5, h6⟩ := h4
    obtain ⟨y, rfl, h7, h8⟩ := S.h enc w base sp held m cs _ h6
    refine ⟨ls ++ [y], by simp [h1], fun i z hz => ?_, ?_⟩
    ·by_cases hi : i < k
     ·rw [List.getElem?_append_left (by omega)] at hz; exact h2 i z hz
     ·rw [List.getElem?_append_right (by omega)] at hz
      have hi0 : i = k := by
       have := (List.getElem?_eq_some_iff.1 hz).1
       simp at this; omega
      subst hi0
      simp [h1] at hz; subst hz
      exact ⟨h5, h7⟩
    ·rw [List.take_succ_eq_append_getElem hk']
     simp only [List.map_append, List.map_cons, List.map_nil, List.sum_append, List.sum_cons, List.sum_nil]
     omega
  obtain ⟨ls, h1, h2, h3⟩ := key len (Nat.le_refl _)
  subst h1
  refine ⟨some a, ls, cap, rfl, ⟨hl, hm, fun _ => ⟨a, rfl, fun j u hu => ?_⟩, fun y hy => ?_⟩, .inr ⟨_, _, rfl, by simp [hlen]⟩, ?_⟩
  ·obtain ⟨y, h4, h5⟩ := flat_get hn hpos ls j u hu
   obtain ⟨h6, _⟩ := h2 _ _ h4
   have h7 := (World.cells?_some h6).2.2 (j % n) (Nat.mod_lt _ hpos)
   rw [cell?_hp]
   rw [h5, add_add] at h7
   have : j / n * n + j % n = j := by rw [Nat.mul_comm]; exact Nat.div_add_mod j n
   rw [this] at h7; exact h7
  ·obtain ⟨i, hi⟩ := List.getElem?_of_mem hy
   exact (h2 i y hi).2
  ·simp only [bulkOf, bulkAll_sum, List.map_map]
   rw [List.take_of_length_le (by omega)] at h3
   simp only [Function.comp_def]
   omega
theorem shp_slice {α : Type} {cells : α → List Value} {ok : Heap → α → Prop} {bulk : α → Nat} (ht : P.underlying t = some (.slice e)) (S : Shp P e cells ok bulk) {n : Nat} (hc : P.cellsOf e = n) (hn : ∀ y, (cells y).length = n) (hpos : 0 < n) :
  Shp P t (fun y : Option Addr × List α × Nat => [.slice y.1 y.2.1.length y.2.2]) (fun h y => SlOk cells ok h y.1 y.2.1 y.2.2) (fun y => (y.2.1.map bulk).sum + 1) := ⟨fun enc w base sp held fuel cs x h => by
 obtain ⟨a, ls, c, h1, h2, _, h3⟩ := slice_open ht S hc hn hpos h
 exact ⟨(a, ls, c), h1, h2, h3⟩⟩
structure ShpF (P : Program) (fs : List Field) (off tot : Nat) {α : Type} (cells : α → List Value) (ok : Heap → α → Prop) (bulk : α → Nat) : Prop where
 h : ∀ {H : Type} (enc : TypeId × Value → H) (w : World) (base : Nat) (sp : Nat → Bool) (held : Bool) (n : Nat) (cs : List Value) (xs : List (DataW H × List MemPlace)), xs.length = fs.length → cs.length = tot →
  (∀ (i : Nat) (f : Field), fs[i]? = some f → DataW.trod enc P w base sp held n f.type ((cs.drop f.offset).take (P.cellsOf f.type)) = xs[i]?) → ∃ y, cs.drop off = cells y ∧ ok (hp w) y ∧ bulk y ≤ (xs.map fun x => bulkOf x.1).sum
theorem shpF_nil {tot : Nat} : ShpF P [] tot tot (fun _ : Unit => []) (fun _ _ => True) (fun _ => 0) := ⟨fun enc w base sp held n cs xs _ hl _ =>
 ⟨(), by rw [List.drop_of_length_le (by omega)], trivial, Nat.zero_le _⟩⟩
theorem shpF_cons {f : Field} {fs : List Field} {off off' tot k : Nat} {α β : Type} {c1 : α → List Value} {ok1 : Heap → α → Prop} {b1 : α → Nat} {c2 : β → List Value} {ok2 : Heap → β → Prop} {b2 : β → Nat}
  (S : Shp P f.type c1 ok1 b1) (ho : f.offset = off) (hk : P.cellsOf f.type = k) (ho2 : off' = off + k) (R : ShpF P fs off' tot c2 ok2 b2) :
  ShpF P (f :: fs) off tot (fun y : α × β => c1 y.1 ++ c2 y.2) (fun h y => ok1 h y.1 ∧ ok2 h y.2) (fun y => b1 y.1 + b2 y.2) := ⟨fun enc w base sp held n cs xs hl hcs hall => by
 cases xs with
 | nil => simp at hl
 | cons x xs =>
  have h0 := hall 0 f rfl
  rw [ho, hk] at h0
  obtain ⟨y, h1, h2, h3⟩ := S.h enc w base sp held n _ _ h0
  obtain ⟨z, h4, h5, h6⟩ := R.h enc w base sp held n cs xs (by simpa using hl) hcs (fun i g hg => by have := hall (i + 1) g (by simpa using hg); simpa using this)
  refine ⟨(y, z), ?_, ⟨h2, h5⟩, ?_⟩
  ·simp only
   rw [← h1, ← h4, ho2, ← List.drop_drop, List.take_append_drop]
  ·simp only [List.map_cons, List.sum_cons]; omega⟩
theorem shp_struct {fs : Array Field} {tot : Nat} {α : Type} {cells : α → List Value} {ok : Heap → α → Prop} {bulk : α → Nat} (ht : P.underlying t = some (.struct fs)) (hc : P.cellsOf t = tot) (R : ShpF P fs.toList 0 tot cells ok bulk) : Shp P t cells ok bulk := ⟨fun enc w base sp held fuel cs x h => by
 obtain ⟨xs, n, _, rfl, h1, h2, h3⟩ := DataW.trod_struct ht h
 obtain ⟨y, h4, h5, h6⟩ := R.h enc w base sp held n cs xs (by simpa using h2) (by rw [h1, hc]) (fun i f hf => h3 i f (by simpa using hf))
 refine ⟨y, by simpa using h4, h5, ?_⟩
 simp only [bulkOf, bulkAll_sum, List.map_map, Function.comp_def]
 omega⟩
theorem Shp.map {α β : Type} {c1 : α → List Value} {ok1 : Heap → α → Prop} {b1 : α → Nat} {c2 : β → List Value} {ok2 : Heap → β → Prop} {b2 : β → Nat} (S : Shp P t c1 ok1 b1) (f : α → β) (hc : ∀ y, c1 y = c2 (f y)) (ho : ∀ h y, ok1 h y → ok2 h (f y)) (hb : ∀ y, b2 (f y) ≤ b1 y) : Shp P t c2 ok2 b2 := ⟨fun enc w base sp held fuel cs x h => by
 obtain ⟨y, h1, h2, h3⟩ := S.h enc w base sp held fuel cs x h
 exact ⟨f y, by rw [h1, hc], ho _ _ h2, Nat.le_trans (hb y) h3⟩⟩
variable {H : Type} {enc : TypeId × Value → H} {w : World} {r : Reach} {b0 base : Nat} {sp : Nat → Bool} {held : Bool} {v : Value} {d : DataW H} {ps : List MemPlace}
theorem arg_struct {fs : Array Field} {α : Type} {cells : α → List Value} {ok : Heap → α → Prop} {bulk : α → Nat} (ht : P.underlying t = some (.struct fs)) (S : Shp P t cells ok bulk)
  (hval : Value.okWide P w r b0 t v) (hd : DataW.Trod enc P w base sp held t v d ps) :
  ∃ y : α, v = .agg (cells y).toArray ∧ ok (hp w) y ∧ bulk y ≤ bulkOf d := by
 obtain ⟨cs, rfl, _⟩ := okWide_struct ht hval
 obtain ⟨fuel, hf⟩ := hd
 obtain ⟨y, h1, h2, h3⟩ := S.h enc w base sp held fuel _ _ hf
 refine ⟨y, ?_, h2, h3⟩
 rw [← h1]; simp [Value.cells]
end
theorem flat_ints (l : List Int) : (l.flatMap fun n => [Value.int .i64 n]) = intsV l := by
 induction l with
 | nil => rfl
 | cons x r ih => rw [List.flatMap_cons, ih]; rfl
theorem wf_i64 {n : Int} (h : (Lit.int .i64 n).wf = true) : -9223372036854775808 ≤ n ∧ n ≤ 9223372036854775807 := by
 simp only [Lit.wf, Bool.and_eq_true, decide_eq_true_eq] at h
 have e1 : IntKind.i64.min = -9223372036854775808 := by decide
 have e2 : IntKind.i64.max = 9223372036854775807 := by decide
 omega
theorem wf_u64 {n : Int} (h : (Lit.int .u64 n).wf = true) : 0 ≤ n ∧ n ≤ 18446744073709551615 := by
 simp only [Lit.wf, Bool.and_eq_true, decide_eq_true_eq] at h
 have e1 : IntKind.u64.min = 0 := by decide
 have e2 : IntKind.u64.max = 18446744073709551615 := by decide
 omega
section
variable {P : Program} {t e : TypeId} {k : IntKind}
variable {H : Type} {enc : TypeId × Value → H} {w : World} {r : Reach} {b0 base : Nat} {sp : Nat → Bool} {held : Bool} {v : Value} {d : DataW H} {ps : List MemPlace}
end
section
variable {P : Program} {t e : TypeId} {k : IntKind} {n : Nat}
def intOf : Value → Int
 | .int _ z => z
 | _ => 0
theorem shp_ints (ht : P.underlying t = some (.array n e)) (he : P.underlying e = some (.int k)) (hce : P.cellsOf e = 1) (hct : P.cellsOf t = n) :
  Shp P t (fun l : List Int => l.map (.int k)) (fun _ l => l.length = n ∧ ∀ z ∈ l, (Lit.int k z).wf = true) (fun _ => 0) := ⟨fun enc w base sp held fuel cs x h => by
 obtain ⟨xs, m, _, _, h1, h2, h3⟩ := DataW.trod_array ht h
 rw [hct] at h1
 have key : ∀ i (hi : i < cs.length), ∃ z, cs[i] = .int k z ∧ (Lit.int k z).wf = true := fun i hi => by
  have h4 := h3 i (by omega)
  rw [List.getElem?_eq_getElem (by omega), hce, Nat.mul_one] at h4
  obtain ⟨z, h5, _, h6⟩ := DataW.trod_int he h4
  refine ⟨z, ?_, h6⟩
  have h7 : (cs.drop i).take 1 = [cs[i]] := by rw [List.drop_eq_getElem_cons hi]; rfl
  rw [h7] at h5
  injection h5
 refine ⟨cs.map intOf, ?_, ⟨by simp [h1], fun z hz => ?_⟩, Nat.zero_le _⟩
 ·apply List.ext_getElem (by simp)
  intro i hi _
  obtain ⟨z, h5, _⟩ := key i hi
  simp [h5, intOf]
 ·obtain ⟨v, hv, rfl⟩ := List.mem_map.1 hz
  obtain ⟨i, hi, rfl⟩ := List.getElem_of_mem hv
  obtain ⟨z, h5, h6⟩ := key i hi
  rw [h5]; exact h6⟩
variable {H : Type} {enc : TypeId × Value → H} {w : World} {r : Reach} {b0 base : Nat} {sp : Nat → Bool} {held : Bool} {v : Value} {d : DataW H} {ps : List MemPlace}
end
end Go.Sl
namespace Go.Proofs.YtodcghipfolejaaGreat
open Go Go.Sl Go.RowKit Go.WideShapes Go.ChangeShapes
theorem shpEnt : Shp Tryz.prog 51 (fun e : Ent => entC e) (fun _ e => (Lit.int .u64 e.1).wf = true ∧ e.2.2.length ≤ maxLen) (fun e => e.2.2.length + 3) :=
 (shp_struct Tryz.underlying51 z_4 (shpF_cons (k := 1) (off' := 1) (shp_int (k := .u64) z_4) rfl z_4 rfl (shpF_cons (k := 1) (off' := 2) (shp_int (k := .i64) z_4) rfl z_4 rfl (shpF_cons (k := 1) (off' := 3) (shp_string z_4) rfl z_4 rfl shpF_nil)))).map (fun y => (y.1, y.2.1, y.2.2.1)) (fun y => rfl) (fun h y o => ⟨o.1, o.2.2.1⟩) (fun y => by simp only; omega)
end Go.Proofs.YtodcghipfolejaaGreat
namespace Go.Proofs.YtodcghipfolejaaGreat.Rf
open Go Go.Sl Go.RowKit Go.WideShapes Go.ChangeShapes
theorem shpMsgR : Shp Tryz.prog 38 (fun m : MM => mmC m) (fun h m => MOk h m ∧ MRg m.p) (fun _ => 0) :=
 (shp_struct Tryz.underlying38 z_4
  (shpF_cons (k := 1) (off' := 1) (shp_int (k := .i64) z_4) rfl z_4 rfl
  (shpF_cons (k := 1) (off' := 2) (shp_int (k := .i64) z_4) rfl z_4 rfl
  (shpF_cons (k := 1) (off' := 3) (shp_int (k := .i64) z_4) rfl z_4 rfl
  (shpF_cons (k := 1) (off' := 4) (shp_int (k := .u64) z_4) rfl z_4 rfl
  (shpF_cons (k := 1) (off' := 5) (shp_int (k := .u64) z_4) rfl z_4 rfl
  (shpF_cons (k := 1) (off' := 6) (shp_int (k := .u64) z_4) rfl z_4 rfl
  (shpF_cons (k := 1) (off' := 7) (shp_int (k := .u64) z_4) rfl z_4 rfl
  (shpF_cons (k := 1) (off' := 8) (shp_bool z_4) rfl z_4 rfl
  (shpF_cons (k := 1) (off' := 9) (shp_slice (e := 51) z_4 shpEnt (n := 3) z_4 (fun _ => rfl) (by decide)) rfl z_4 rfl
  (shpF_cons (k := 1) (off' := 10) (shp_slice (e := 3) z_4 (shp_int (k := .i64) z_4) (n := 1) z_4 (fun _ => rfl) (by decide)) rfl z_4 rfl
  (shpF_cons (k := 1) (off' := 11) (shp_int (k := .i64) z_4) rfl z_4 rfl
  (shpF_cons (k := 1) (off' := 12) (shp_int (k := .i64) z_4) rfl z_4 rfl
  (shpF_cons (k := 1) (off' := 13) (shp_string z_4) rfl z_4 rfl shpF_nil)))))))))))))).map
  (fun y => (⟨⟨y.1, y.2.1, y.2.2.1, y.2.2.2.1, y.2.2.2.2.1, y.2.2.2.2.2.1, y.2.2.2.2.2.2.1, y.2.2.2.2.2.2.2.1, y.2.2.2.2.2.2.2.2.1.2.1, y.2.2.2.2.2.2.2.2.2.1.2.1, y.2.2.2.2.2.2.2.2.2.2.1, y.2.2.2.2.2.2.2.2.2.2.2.1, y.2.2.2.2.2.2.2.2.2.2.2.2.1⟩,
   y.2.2.2.2.2.2.2.2.1.1, y.2.2.2.2.2.2.2.2.1.2.2, y.2.2.2.2.2.2.2.2.2.1.1, y.2.2.2.2.2.2.2.2.2.1.2.2⟩ : MM)) (fun y => rfl)
  (fun h y o => by
   obtain ⟨_, _, _, o4, o5, o6, o7, _, o9, o10, o11, _⟩ := o
   have h7 := o10.rd
   rw [flat_ints] at h7
   exact ⟨⟨o9.rd, h7, o9.le⟩, wf_u64 o5, wf_u64 o6, wf_u64 o7, wf_u64 o4, wf_i64 o11⟩)
  (fun y => Nat.zero_le _)
theorem shpActR : Shp Tryz.prog 40 (fun a : AcM => acC a) (fun h a => MOk h a.m ∧ MRg a.m.p) (fun _ => 0) :=
 (shp_struct Tryz.underlying40 z_4
  (shpF_cons (k := 1) (off' := 1) (shp_int (k := .i64) z_4) rfl z_4 rfl
  (shpF_cons (k := 1) (off' := 2) (shp_int (k := .i64) z_4) rfl z_4 rfl
  (shpF_cons (k := 1) (off' := 3) (shp_int (k := .i64) z_4) rfl z_4 rfl
  (shpF_cons (k := 1) (off' := 4) (shp_bool z_4) rfl z_4 rfl
  (shpF_cons (k := 1) (off' := 5) (shp_string z_4) rfl z_4 rfl
  (shpF_cons (k := 13) (off' := 18) shpMsgR rfl z_4 rfl shpF_nil))))))).map
  (fun y => (⟨y.1, y.2.1, y.2.2.1, y.2.2.2.1, y.2.2.2.2.1, y.2.2.2.2.2.1⟩ : AcM)) (fun y => rfl)
  (fun h y o => o.2.2.2.2.2.1)
  (fun y => Nat.zero_le _)
theorem fiveR {l : List Int} (h : l.length = 5) : ∃ a b c d e, l = [a, b, c, d, e] := by
 match l, h with
 | [a, b, c, d, e], _ => exact ⟨a, b, c, d, e, rfl⟩
theorem shpPlayR : Shp Tryz.prog 25 (fun p : PlM => plC p) (fun h p => PlOk h p ∧ p.acts.length ≤ p.pc ∧ ∀ a ∈ p.acts, MRg a.m.p) (fun _ => 0) := ⟨fun enc w base sp held fuel cs x h => by
 obtain ⟨y, h1, h2, _⟩ := (shp_struct Tryz.underlying25 z_4
  (shpF_cons (k := 1) (off' := 1) (shp_int (k := .i64) z_4) rfl z_4 rfl
  (shpF_cons (k := 5) (off' := 6) (shp_ints (n := 5) (e := 3) (k := .i64) z_4 z_4 z_4 z_4) rfl z_4 rfl
  (shpF_cons (k := 1) (off' := 7) (shp_slice (e := 40) z_4 shpActR (n := 18) z_4 (fun _ => rfl) (by decide)) rfl z_4 rfl shpF_nil)))).h enc w base sp held fuel cs x h
 obtain ⟨mem, tos, sl, u⟩ := y
 obtain ⟨_, o2, o3, _⟩ := h2
 obtain ⟨a, b, c, d, e, rfl⟩ := fiveR o2.1
 exact ⟨⟨mem, a, b, c, d, e, sl.2.1, sl.1, sl.2.2⟩, h1, ⟨⟨o3.rd, fun x hx => (o3.each x hx).1⟩, o3.le, fun x hx => (o3.each x hx).2⟩, Nat.zero_le _⟩⟩
end Go.Proofs.YtodcghipfolejaaGreat.Rf
