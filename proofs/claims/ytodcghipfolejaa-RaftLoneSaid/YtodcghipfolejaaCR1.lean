/- A mind's first calls: clone, New, Members, end, follow, say. -/
import Derived.Test.YtodcghipfolejaaCRArr
namespace Go.Proofs.Ytodcghipfolejaa.Rf
open Go Go.Sl
set_option linter.unusedVariables false
set_option linter.unusedSimpArgs false
-- ARR

theorem peekBS {F : Snap} {w : World} {H : List As} {b o n : Nat} {cs : Array Value} {te : TypeId} {fr : Nat × Nat} (hw : Hp F w H) (hb : F.heap b = some (.cells cs te fr)) : PeekC (hp w) (some ⟨b, o, none⟩) (sl cs o n) := by
  have h1 := hw.keep b _ hb
  refine ⟨⟨b, o, none⟩, rfl, fun j u hu => ?_⟩
  have h2 : cs[o + j]? = some u := by
    unfold sl at hu
    rw [List.getElem?_take] at hu
    split at hu
    · rw [List.getElem?_drop, Array.getElem?_toList] at hu; exact hu
    · cases hu
  show (hp w).cell? _ = _
  unfold Heap.cell?
  have e : (Addr.add ⟨b, o, none⟩ j) = ⟨b, o + j, none⟩ := by unfold Addr.add; split <;> simp_all
  rw [e]
  simp only
  rw [h1]
  simpa using h2
theorem Sat.two2 {h : Heap} {A B : List As} (hs : ∃ bs, Sat h (A ++ B) bs) : (∃ bs, Sat h A bs) ∧ ∃ bs, Sat h B bs := by
  obtain ⟨bs, hs⟩ := hs
  obtain ⟨ba, bb, _, ha, hb⟩ := Sat.split hs
  exact ⟨⟨ba, ha⟩, ⟨bb, hb⟩⟩
def PrP (r : List Pr) (v : Value) (A : List As) : Prop := ∃ a c, v = .slice a r.length c ∧ A = [OwnP a r c]
theorem rdR_some {h : Heap} {a : Option Addr} {l : List Pr} {i : Nat} (r : RdS h a (prV l)) (hi : i < l.length) : ∃ ad, a = some ad := rec_some (C := prC) r prC_len (by decide) hi
theorem CloneP_ct (l : List Pr) (a : Option Addr) (c : Nat) (hl : l.length ≤ 1000000000) : Ct Try.prog 98 [.slice a l.length c] (fun h => RdS h a (prV l)) [] (PrP l) := by
  refine ct_enter 8 Try.func98 rfl rfl rfl ?_
  intro F hrd
  repeat (first | refine g_seq ?_ | refine at_code ?_ | refine g_skip ?_ | refine g_block ?_ | refine g_exit rfl ?_ | refine g_cond_t rfl ?_ | refine g_cond_f rfl ?_)
  refine g_region ?_
  refine gl_f (s_assign rfl) rfl rfl rfl ?_
  refine gl_nil ?_
  repeat (first | refine g_seq ?_ | refine at_code ?_ | refine g_skip ?_ | refine g_block ?_ | refine g_exit rfl ?_ | refine g_cond_t rfl ?_ | refine g_cond_f rfl ?_)
  refine g_region ?_
  refine gl_f (s_move rfl) rfl rfl rfl ?_
  refine gl_f (s_eql_slnil rfl rfl) rfl rfl rfl ?_
  refine gl_nil ?_
  repeat (first | refine g_seq ?_ | refine at_code ?_ | refine g_skip ?_ | refine g_block ?_ | refine g_exit rfl ?_ | refine g_cond_t rfl ?_ | refine g_cond_f rfl ?_)
  cases a with
  | none =>
    obtain rfl : l = [] := by
      cases l with
      | nil => rfl
      | cons x r => obtain ⟨ad, h⟩ := rdR_some (i := 0) hrd (by simp); cases h
    repeat (first | refine g_seq ?_ | refine at_code ?_ | refine g_skip ?_ | refine g_block ?_ | refine g_exit rfl ?_ | refine g_cond_t rfl ?_ | refine g_cond_f rfl ?_)
    refine g_region ?_
    refine gl_f (s_assign rfl) rfl rfl rfl ?_
    refine gl_nil ?_
    repeat (first | refine g_seq ?_ | refine at_code ?_ | refine g_skip ?_ | refine g_block ?_ | refine g_exit rfl ?_ | refine g_cond_t rfl ?_ | refine g_cond_f rfl ?_)
    refine g_ret ?_
    refine g_end_own 121 4 ?_
    exact at_end1 rfl rfl [OwnP none [] 0] ⟨none, 0, rfl, rfl⟩ (fun _ h => h)
  | some ad =>
    repeat (first | refine g_seq ?_ | refine at_code ?_ | refine g_skip ?_ | refine g_block ?_ | refine g_exit rfl ?_ | refine g_cond_t rfl ?_ | refine g_cond_f rfl ?_)
    repeat (first | refine g_seq ?_ | refine at_code ?_ | refine g_skip ?_ | refine g_block ?_ | refine g_exit rfl ?_ | refine g_cond_t rfl ?_ | refine g_cond_f rfl ?_)
    refine g_region ?_
    refine gl_buildSlice0 rfl ?_; intro a5
    refine gl_f (s_move rfl) rfl rfl rfl ?_
    refine gl_append rfl rfl (fun a' c' => .here) (fun w hw => hrd.le hw.keep) (prV_len l) rfl rfl (prV_one l) (by show (_ + _) * 32 ≤ _; omega) (by omega) rfl ?_; intro a2 c2 hc2
    refine gl_f (s_assign rfl) rfl rfl rfl ?_
    refine gl_nil ?_
    repeat (first | refine g_seq ?_ | refine at_code ?_ | refine g_skip ?_ | refine g_block ?_ | refine g_exit rfl ?_ | refine g_cond_t rfl ?_ | refine g_cond_f rfl ?_)
    refine g_ret ?_
    rw [Nat.zero_add, List.nil_append]
    exact at_end1 rfl rfl _ ⟨a2, c2, rfl, rfl⟩ (fun _ h => h)
abbrev OwnS (p : RP) (a : RA) : List As := [OwnL a.la p.l a.lc, OwnC a.ca p.conf a.cc, OwnC a.va p.votes a.vc, OwnP a.pa p.peers a.pc]
def RsP (p : RP) (v : Value) (A : List As) : Prop := ∃ a, v = rsV p a ∧ A = OwnS p a
structure PSm (p : RP) : Prop where
  conf : p.conf.length ≤ 1000000
  l : p.l.length ≤ 1000000
  votes : p.votes.length ≤ 1000000
  peers : p.peers.length ≤ 1000000
theorem PFit.sm {p : RP} (h : PFit p) : PSm p := ⟨by have := h.cl; omega, by have := h.len; omega, by have := h.votes; omega, h.peers⟩
structure RRd (h : Heap) (p : RP) (a : RA) : Prop where
  rc : RdS h a.ca (intsV p.conf)
  rl : RdS h a.la (enV p.l)
  rv : RdS h a.va (intsV p.votes)
  rp : RdS h a.pa (prV p.peers)
theorem RRd.le {h h' : Heap} {p : RP} {a : RA} (f : RRd h p a) (l : Heap.le h h') : RRd h' p a := ⟨f.rc.le l, f.rl.le l, f.rv.le l, f.rp.le l⟩
theorem ROk.rd {h : Heap} {p : RP} {a : RA} (f : ROk h p a) : RRd h p a := ⟨f.rc, f.rl, f.rv, f.rp⟩
set_option maxRecDepth 8000 in
set_option maxHeartbeats 1000000 in
theorem rclone_ct (p : RP) (a : RA) (hs : PSm p) : Ct Try.prog 86 [rsV p a] (fun h => RRd h p a) [] (RsP p) := by
  have h1 := hs.conf
  have h2 := hs.l
  have h3 := hs.votes
  have h4 := hs.peers
  refine ct_enter 24 Try.func86 rfl rfl rfl ?_
  intro F hr
  repeat (first | refine g_seq ?_ | refine at_code ?_ | refine g_skip ?_ | refine g_block ?_ | refine g_exit rfl ?_ | refine g_cond_t rfl ?_ | refine g_cond_f rfl ?_)
  refine g_region ?_
  refine gl_boxA rfl rfl ?_; intro g1
  refine gl_allocA rfl ?_; intro g2
  refine gl_nil ?_
  repeat (first | refine g_seq ?_ | refine at_code ?_ | refine g_skip ?_ | refine g_block ?_ | refine g_exit rfl ?_ | refine g_cond_t rfl ?_ | refine g_cond_f rfl ?_)
  repeat (first | refine g_seq ?_ | refine at_code ?_ | refine g_skip ?_ | refine g_block ?_ | refine g_exit rfl ?_ | refine g_cond_t rfl ?_ | refine g_cond_f rfl ?_)
  refine g_region ?_
  refine gl_f (by first | exact s_fieldAddr rfl (by rfl) (by infer_instance) (by decide) | exact s_fieldAddr_o rfl (by assumption) (by rfl) (by infer_instance) (by decide)) rfl rfl rfl ?_
  refine gl_f (by first | exact s_fieldAddr rfl (by rfl) (by infer_instance) (by decide) | exact s_fieldAddr_o rfl (by assumption) (by rfl) (by infer_instance) (by decide)) rfl rfl rfl ?_
  refine gl_r (by first | exact s_load_blk rfl (by repeat first|exact .del|apply Upd.there) a18_7 | exact s_load1 rfl (fun w hw => peekB hw (by assumption) a18_7)) rfl rfl rfl ?_
  refine gl_call _ rfl (CloneI_ct p.conf a.ca a.cc (by omega)) (fun w hw => hw) (fun h hh _ => hr.rc.le hh) rfl ?_; rintro v A ⟨ca, cc, rfl, rfl⟩
  refine gl_f (by first | exact s_fieldAddr rfl (by rfl) (by infer_instance) (by decide) | exact s_fieldAddr_o rfl (by assumption) (by rfl) (by infer_instance) (by decide)) rfl rfl rfl ?_
  refine gl_f (by first | exact s_fieldAddr rfl (by rfl) (by infer_instance) (by decide) | exact s_fieldAddr_o rfl (by assumption) (by rfl) (by infer_instance) (by decide)) rfl rfl rfl ?_
  (first | refine gl_store_blkC (pre := [_, _, _, _, _, _, _]) (post := [_, _, _, _, _, _, _, _, _, _]) rfl rfl (by repeat first|exact .here|apply Upd.there) (by rfl) (by rfl) (by rfl) ?_ | refine gl_store_blk rfl rfl (by repeat first|exact .here|apply Upd.there) (by rfl) (by (intro q hq; simp [Value.cells] at hq; first | (subst hq; rfl) | (rcases hq with rfl | rfl | rfl | rfl | rfl | rfl | rfl | rfl <;> rfl) | (rcases hq with rfl | rfl | rfl | rfl | rfl | rfl | rfl | rfl | rfl | rfl | rfl | rfl | rfl | rfl | rfl | rfl | rfl | rfl | rfl | rfl <;> rfl))) (by rfl) ?_)
  refine gl_nil ?_
  repeat (first | refine g_seq ?_ | refine at_code ?_ | refine g_skip ?_ | refine g_block ?_ | refine g_exit rfl ?_ | refine g_cond_t rfl ?_ | refine g_cond_f rfl ?_)
  repeat (first | refine g_seq ?_ | refine at_code ?_ | refine g_skip ?_ | refine g_block ?_ | refine g_exit rfl ?_ | refine g_cond_t rfl ?_ | refine g_cond_f rfl ?_)
  refine g_region ?_
  refine gl_f (by first | exact s_fieldAddr rfl (by rfl) (by infer_instance) (by decide) | exact s_fieldAddr_o rfl (by assumption) (by rfl) (by infer_instance) (by decide)) rfl rfl rfl ?_
  refine gl_f (by first | exact s_fieldAddr rfl (by rfl) (by infer_instance) (by decide) | exact s_fieldAddr_o rfl (by assumption) (by rfl) (by infer_instance) (by decide)) rfl rfl rfl ?_
  refine gl_r (by first | exact s_load_blk rfl (by repeat first|exact .del|apply Upd.there) a18_8 | exact s_load1 rfl (fun w hw => peekB hw (by assumption) a18_8)) rfl rfl rfl ?_
  refine gl_call _ rfl (CloneE_ct p.l a.la a.lc (by omega)) (fun w hw => hw) (fun h hh _ => hr.rl.le hh) rfl ?_; rintro v A ⟨la, lc, rfl, rfl⟩
  refine gl_f (by first | exact s_fieldAddr rfl (by rfl) (by infer_instance) (by decide) | exact s_fieldAddr_o rfl (by assumption) (by rfl) (by infer_instance) (by decide)) rfl rfl rfl ?_
  refine gl_f (by first | exact s_fieldAddr rfl (by rfl) (by infer_instance) (by decide) | exact s_fieldAddr_o rfl (by assumption) (by rfl) (by infer_instance) (by decide)) rfl rfl rfl ?_
  (first | refine gl_store_blkC (pre := [_, _, _, _, _, _, _, _]) (post := [_, _, _, _, _, _, _, _, _]) rfl rfl (by repeat first|exact .here|apply Upd.there) (by rfl) (by rfl) (by rfl) ?_ | refine gl_store_blk rfl rfl (by repeat first|exact .here|apply Upd.there) (by rfl) (by (intro q hq; simp [Value.cells] at hq; first | (subst hq; rfl) | (rcases hq with rfl | rfl | rfl | rfl | rfl | rfl | rfl | rfl <;> rfl) | (rcases hq with rfl | rfl | rfl | rfl | rfl | rfl | rfl | rfl | rfl | rfl | rfl | rfl | rfl | rfl | rfl | rfl | rfl | rfl | rfl | rfl <;> rfl))) (by rfl) ?_)
  refine gl_nil ?_
  repeat (first | refine g_seq ?_ | refine at_code ?_ | refine g_skip ?_ | refine g_block ?_ | refine g_exit rfl ?_ | refine g_cond_t rfl ?_ | refine g_cond_f rfl ?_)
  repeat (first | refine g_seq ?_ | refine at_code ?_ | refine g_skip ?_ | refine g_block ?_ | refine g_exit rfl ?_ | refine g_cond_t rfl ?_ | refine g_cond_f rfl ?_)
  refine g_region ?_
  refine gl_f (by first | exact s_fieldAddr rfl (by rfl) (by infer_instance) (by decide) | exact s_fieldAddr_o rfl (by assumption) (by rfl) (by infer_instance) (by decide)) rfl rfl rfl ?_
  refine gl_r (by first | exact s_load_blk rfl (by repeat first|exact .del|apply Upd.there) a18_13 | exact s_load1 rfl (fun w hw => peekB hw (by assumption) a18_13)) rfl rfl rfl ?_
  refine gl_call _ rfl (CloneI_ct p.votes a.va a.vc (by omega)) (fun w hw => hw) (fun h hh _ => hr.rv.le hh) rfl ?_; rintro v A ⟨va, vc, rfl, rfl⟩
  refine gl_f (by first | exact s_fieldAddr rfl (by rfl) (by infer_instance) (by decide) | exact s_fieldAddr_o rfl (by assumption) (by rfl) (by infer_instance) (by decide)) rfl rfl rfl ?_
  (first | refine gl_store_blkC (pre := [_, _, _, _, _, _, _, _, _, _, _, _, _]) (post := [_, _, _, _]) rfl rfl (by repeat first|exact .here|apply Upd.there) (by rfl) (by rfl) (by rfl) ?_ | refine gl_store_blk rfl rfl (by repeat first|exact .here|apply Upd.there) (by rfl) (by (intro q hq; simp [Value.cells] at hq; first | (subst hq; rfl) | (rcases hq with rfl | rfl | rfl | rfl | rfl | rfl | rfl | rfl <;> rfl) | (rcases hq with rfl | rfl | rfl | rfl | rfl | rfl | rfl | rfl | rfl | rfl | rfl | rfl | rfl | rfl | rfl | rfl | rfl | rfl | rfl | rfl <;> rfl))) (by rfl) ?_)
  refine gl_nil ?_
  repeat (first | refine g_seq ?_ | refine at_code ?_ | refine g_skip ?_ | refine g_block ?_ | refine g_exit rfl ?_ | refine g_cond_t rfl ?_ | refine g_cond_f rfl ?_)
  repeat (first | refine g_seq ?_ | refine at_code ?_ | refine g_skip ?_ | refine g_block ?_ | refine g_exit rfl ?_ | refine g_cond_t rfl ?_ | refine g_cond_f rfl ?_)
  refine g_region ?_
  refine gl_f (by first | exact s_fieldAddr rfl (by rfl) (by infer_instance) (by decide) | exact s_fieldAddr_o rfl (by assumption) (by rfl) (by infer_instance) (by decide)) rfl rfl rfl ?_
  refine gl_r (by first | exact s_load_blk rfl (by repeat first|exact .del|apply Upd.there) a18_14 | exact s_load1 rfl (fun w hw => peekB hw (by assumption) a18_14)) rfl rfl rfl ?_
  refine gl_call _ rfl (CloneP_ct p.peers a.pa a.pc (by omega)) (fun w hw => hw) (fun h hh _ => hr.rp.le hh) rfl ?_; rintro v A ⟨pa, pc, rfl, rfl⟩
  refine gl_f (by first | exact s_fieldAddr rfl (by rfl) (by infer_instance) (by decide) | exact s_fieldAddr_o rfl (by assumption) (by rfl) (by infer_instance) (by decide)) rfl rfl rfl ?_
  (first | refine gl_store_blkC (pre := [_, _, _, _, _, _, _, _, _, _, _, _, _, _]) (post := [_, _, _]) rfl rfl (by repeat first|exact .here|apply Upd.there) (by rfl) (by rfl) (by rfl) ?_ | refine gl_store_blk rfl rfl (by repeat first|exact .here|apply Upd.there) (by rfl) (by (intro q hq; simp [Value.cells] at hq; first | (subst hq; rfl) | (rcases hq with rfl | rfl | rfl | rfl | rfl | rfl | rfl | rfl <;> rfl) | (rcases hq with rfl | rfl | rfl | rfl | rfl | rfl | rfl | rfl | rfl | rfl | rfl | rfl | rfl | rfl | rfl | rfl | rfl | rfl | rfl | rfl <;> rfl))) (by rfl) ?_)
  refine gl_nil ?_
  repeat (first | refine g_seq ?_ | refine at_code ?_ | refine g_skip ?_ | refine g_block ?_ | refine g_exit rfl ?_ | refine g_cond_t rfl ?_ | refine g_cond_f rfl ?_)
  repeat (first | refine g_seq ?_ | refine at_code ?_ | refine g_skip ?_ | refine g_block ?_ | refine g_exit rfl ?_ | refine g_cond_t rfl ?_ | refine g_cond_f rfl ?_)
  refine g_region ?_
  refine gl_r (by first | exact s_load_blkW rfl (by repeat first|exact .del|apply Upd.there) (by rfl) | exact s_load_blkN rfl (by repeat first|exact .del|apply Upd.there) (by rfl) | exact s_loadN rfl (fun w hw => peekBN hw (by assumption)) (by rfl)) rfl rfl rfl ?_
  (first | refine gl_store_blkW rfl rfl (by repeat first|exact .here|apply Upd.there) (by rfl) (by rfl) (by (intro q hq; simp [Value.cells] at hq; first | (subst hq; rfl) | (rcases hq with rfl | rfl | rfl | rfl | rfl | rfl | rfl | rfl <;> rfl) | (rcases hq with rfl | rfl | rfl | rfl | rfl | rfl | rfl | rfl | rfl | rfl | rfl | rfl | rfl | rfl | rfl | rfl | rfl | rfl | rfl | rfl <;> rfl))) ?_ | refine gl_store_blk rfl rfl (by repeat first|exact .here|apply Upd.there) (by rfl) (by (intro q hq; simp [Value.cells] at hq; first | (subst hq; rfl) | (rcases hq with rfl | rfl | rfl | rfl | rfl | rfl | rfl | rfl <;> rfl) | (rcases hq with rfl | rfl | rfl | rfl | rfl | rfl | rfl | rfl | rfl | rfl | rfl | rfl | rfl | rfl | rfl | rfl | rfl | rfl | rfl | rfl <;> rfl))) (by rfl) ?_)
  refine gl_nil ?_
  repeat (first | refine g_seq ?_ | refine at_code ?_ | refine g_skip ?_ | refine g_block ?_ | refine g_exit rfl ?_ | refine g_cond_t rfl ?_ | refine g_cond_f rfl ?_)
  refine g_ret ?_
  exact at_endB rfl rfl (by repeat first|exact .del|apply Upd.there) rfl (OwnS p ⟨ca, cc, la, lc, va, vc, pa, pc⟩) ⟨⟨ca, cc, la, lc, va, vc, pa, pc⟩, rfl, rfl⟩ (fun w hw => Hp.left (hw.perm (perm_up (by repeat first|exact .del|apply Upd.there) (perm_up (by repeat first|exact .del|apply Upd.there) (perm_up (by repeat first|exact .del|apply Upd.there) (perm_up (by repeat first|exact .del|apply Upd.there) (.refl _)))))))
theorem Members_ct (p : RP) (a : RA) (hf : PFit p) (hc : p.l.length ≤ a.lc) : Ct Try.prog 114 [rsV p a] (fun h => (p.lm a).ok h) [] (LsP (confL p)) := by
  have hcn := confAt_any p a (lastI p.g)
  refine ct_enter 12 Try.func114 rfl rfl rfl ?_
  intro F hr
  repeat (first | refine g_seq ?_ | refine at_code ?_ | refine g_skip ?_ | refine g_block ?_ | refine g_exit rfl ?_ | refine g_cond_t rfl ?_ | refine g_cond_f rfl ?_)
  refine g_region ?_
  refine gl_boxA rfl rfl ?_; intro g1
  refine gl_f (s_assign rfl) rfl rfl rfl ?_
  refine gl_nil ?_
  repeat (first | refine g_seq ?_ | refine at_code ?_ | refine g_skip ?_ | refine g_block ?_ | refine g_exit rfl ?_ | refine g_cond_t rfl ?_ | refine g_cond_f rfl ?_)
  repeat (first | refine g_seq ?_ | refine at_code ?_ | refine g_skip ?_ | refine g_block ?_ | refine g_exit rfl ?_ | refine g_cond_t rfl ?_ | refine g_cond_f rfl ?_)
  refine g_region ?_
  refine gl_f (by first | exact s_fieldAddr rfl (by rfl) (by infer_instance) (by decide) | exact s_fieldAddr_o rfl (by assumption) (by rfl) (by infer_instance) (by decide)) rfl rfl rfl ?_
  refine gl_r ((s_load_blkN rfl (by repeat first|exact .del|apply Upd.there) (by rfl)).eq (v' := (p.lm a).v) rfl) rfl rfl rfl ?_
  refine gl_call _ rfl (Conf_ct (p.lm a) (hf.fit a hc) (hf.datL a)) (fun w hw => hw) (fun h hh _ => hr.le hh) rfl ?_; rw [show lastI (p.lm a) = lastI p.g from rfl, hcn]; rintro v A ⟨ca, cc, rfl, rfl⟩
  refine gl_f (s_move rfl) rfl rfl rfl ?_
  refine gl_f (s_extract rfl rfl) rfl rfl rfl ?_
  refine gl_f (s_extract rfl rfl) rfl rfl rfl ?_
  refine gl_f (s_assign rfl) rfl rfl rfl ?_
  refine gl_f (s_assign rfl) rfl rfl rfl ?_
  refine gl_nil ?_
  repeat (first | refine g_seq ?_ | refine at_code ?_ | refine g_skip ?_ | refine g_block ?_ | refine g_exit rfl ?_ | refine g_cond_t rfl ?_ | refine g_cond_f rfl ?_)
  repeat (first | refine g_seq ?_ | refine at_code ?_ | refine g_skip ?_ | refine g_block ?_ | refine g_exit rfl ?_ | refine g_cond_t rfl ?_ | refine g_cond_f rfl ?_)
  refine g_region ?_
  refine gl_f (s_move rfl) rfl rfl rfl ?_
  refine gl_f (s_assign rfl) rfl rfl rfl ?_
  refine gl_nil ?_
  repeat (first | refine g_seq ?_ | refine at_code ?_ | refine g_skip ?_ | refine g_block ?_ | refine g_exit rfl ?_ | refine g_cond_t rfl ?_ | refine g_cond_f rfl ?_)
  refine g_ret ?_
  exact at_end1 rfl rfl [OwnC ca (confL p) cc] ⟨ca, cc, rfl, rfl⟩ (fun w hw => Hp.left hw)
theorem rend_ct (X : Nat) (d : MD) (hf : PFit d.p) (hc : d.p.l.length ≤ d.a.lc) : Pu Try.prog 121 [Ptr X] (fun h => h X = some (mdO d) ∧ RdS h d.a.la (enV d.p.l)) (.int .u64 (lastI d.p.g)) := by
  refine ct_enter 15 Try.func121 rfl rfl rfl ?_
  intro F ⟨hX, hl⟩
  repeat (first | refine g_seq ?_ | refine at_code ?_ | refine g_skip ?_ | refine g_block ?_ | refine g_exit rfl ?_ | refine g_cond_t rfl ?_ | refine g_cond_f rfl ?_)
  refine g_region ?_
  refine gl_f (s_assign rfl) rfl rfl rfl ?_
  refine gl_nil ?_
  repeat (first | refine g_seq ?_ | refine at_code ?_ | refine g_skip ?_ | refine g_block ?_ | refine g_exit rfl ?_ | refine g_cond_t rfl ?_ | refine g_cond_f rfl ?_)
  refine g_region ?_
  refine gl_f (s_move rfl) rfl rfl rfl ?_
  refine gl_f (s_nilCheck rfl) rfl rfl rfl ?_
  refine gl_f (by first | exact s_fieldAddr rfl (by rfl) (by infer_instance) (by decide) | exact s_fieldAddr_o rfl (by assumption) (by rfl) (by infer_instance) (by decide)) rfl rfl rfl ?_
  refine gl_f (by first | exact s_fieldAddr rfl (by rfl) (by infer_instance) (by decide) | exact s_fieldAddr_o rfl (by assumption) (by rfl) (by infer_instance) (by decide)) rfl rfl rfl ?_
  refine gl_r ((s_loadN (n := 4) rfl (fun w hw => peekBS (o := 5) (n := 4) hw hX) (by rfl)).eq (v' := (d.p.lm d.a).v) rfl) rfl rfl rfl ?_
  refine gl_callp rfl (Last_ct (d.p.lm d.a) (hf.fit d.a hc)) (fun h hh _ => hl.le hh) rfl ?_; rw [show lastI (d.p.lm d.a) = lastI d.p.g from rfl]
  refine gl_f (s_move rfl) rfl rfl rfl ?_
  refine gl_f (s_extract rfl rfl) rfl rfl rfl ?_
  refine gl_f (s_extract rfl rfl) rfl rfl rfl ?_
  refine gl_f (s_assign rfl) rfl rfl rfl ?_
  refine gl_f (s_assign rfl) rfl rfl rfl ?_
  refine gl_nil ?_
  repeat (first | refine g_seq ?_ | refine at_code ?_ | refine g_skip ?_ | refine g_block ?_ | refine g_exit rfl ?_ | refine g_cond_t rfl ?_ | refine g_cond_f rfl ?_)
  repeat (first | refine g_seq ?_ | refine at_code ?_ | refine g_skip ?_ | refine g_block ?_ | refine g_exit rfl ?_ | refine g_cond_t rfl ?_ | refine g_cond_f rfl ?_)
  refine g_region ?_
  refine gl_f (s_move rfl) rfl rfl rfl ?_
  refine gl_f (s_assign rfl) rfl rfl rfl ?_
  refine gl_nil ?_
  repeat (first | refine g_seq ?_ | refine at_code ?_ | refine g_skip ?_ | refine g_block ?_ | refine g_exit rfl ?_ | refine g_cond_t rfl ?_ | refine g_cond_f rfl ?_)
  refine g_ret ?_
  exact at_end1 rfl rfl [] ⟨rfl, rfl⟩ (fun _ h => h)
set_option maxRecDepth 8000 in
set_option maxHeartbeats 1000000 in
theorem follow_ct (X : Nat) (d : MD) (t n : Int) : Ct Try.prog 102 [Ptr X, .int .u64 t, .int .i64 n] (fun _ => True) (mdH X d) (MdP X d (followP d.p t n) [] (.tuple #[])) := by
  refine ct_enter 39 Try.func102 rfl rfl rfl ?_
  intro F _
  obtain ⟨q, hq⟩ : ∃ q, q = decide (d.p.term < t) := ⟨_, rfl⟩
  repeat (first | refine g_seq ?_ | refine at_code ?_ | refine g_skip ?_ | refine g_block ?_ | refine g_exit rfl ?_ | refine g_cond_t rfl ?_ | refine g_cond_f rfl ?_)
  refine g_region ?_
  refine gl_f (s_move rfl) rfl rfl rfl ?_
  refine gl_f (s_move rfl) rfl rfl rfl ?_
  refine gl_f (s_nilCheck rfl) rfl rfl rfl ?_
  refine gl_f (by first | exact s_fieldAddr rfl (by rfl) (by infer_instance) (by decide) | exact s_fieldAddr_o rfl (by assumption) (by rfl) (by infer_instance) (by decide)) rfl rfl rfl ?_
  refine gl_f (by first | exact s_fieldAddr rfl (by rfl) (by infer_instance) (by decide) | exact s_fieldAddr_o rfl (by assumption) (by rfl) (by infer_instance) (by decide)) rfl rfl rfl ?_
  refine gl_r (by first | exact s_load_blk rfl (by repeat first|exact .del|apply Upd.there) a19_1 | exact s_load1 rfl (fun w hw => peekB hw (by assumption) a19_1)) rfl rfl rfl ?_
  refine gl_f ((s_gtr rfl rfl).eq (congrArg Value.bool hq.symm)) rfl rfl rfl ?_
  refine gl_nil ?_
  repeat (first | refine g_seq ?_ | refine at_code ?_ | refine g_skip ?_ | refine g_block ?_ | refine g_exit rfl ?_ | refine g_cond_t rfl ?_ | refine g_cond_f rfl ?_)
  cases q
  · have e : followP d.p t n = { d.p with role := 0, leader := n, votes := [], peers := [] } := by
      have := of_decide_eq_false hq.symm
      unfold followP; rw [if_neg this, if_neg this]
    rw [e]
    repeat (first | refine g_seq ?_ | refine at_code ?_ | refine g_skip ?_ | refine g_block ?_ | refine g_exit rfl ?_ | refine g_cond_t rfl ?_ | refine g_cond_f rfl ?_)
    repeat (first | refine g_seq ?_ | refine at_code ?_ | refine g_skip ?_ | refine g_block ?_ | refine g_exit rfl ?_ | refine g_cond_t rfl ?_ | refine g_cond_f rfl ?_)
    refine g_region ?_
    refine gl_f (s_move rfl) rfl rfl rfl ?_
    refine gl_f (s_move rfl) rfl rfl rfl ?_
    refine gl_f (s_move rfl) rfl rfl rfl ?_
    refine gl_f (s_move rfl) rfl rfl rfl ?_
    refine gl_f (s_move rfl) rfl rfl rfl ?_
    refine gl_f (s_nilCheck rfl) rfl rfl rfl ?_
    refine gl_f (by first | exact s_fieldAddr rfl (by rfl) (by infer_instance) (by decide) | exact s_fieldAddr_o rfl (by assumption) (by rfl) (by infer_instance) (by decide)) rfl rfl rfl ?_
    refine gl_f (by first | exact s_fieldAddr rfl (by rfl) (by infer_instance) (by decide) | exact s_fieldAddr_o rfl (by assumption) (by rfl) (by infer_instance) (by decide)) rfl rfl rfl ?_
    (first | refine gl_store_blkC (pre := [_, _, _]) (post := [_, _, _, _, _, _, _, _, _, _, _, _, _, _, _]) rfl rfl (by repeat first|exact .here|apply Upd.there) (by rfl) (by rfl) (by rfl) ?_ | refine gl_store_blk rfl rfl (by repeat first|exact .here|apply Upd.there) (by rfl) (by (intro q hq; simp [Value.cells] at hq; first | (subst hq; rfl) | (rcases hq with rfl | rfl | rfl | rfl | rfl | rfl | rfl | rfl <;> rfl) | (rcases hq with rfl | rfl | rfl | rfl | rfl | rfl | rfl | rfl | rfl | rfl | rfl | rfl | rfl | rfl | rfl | rfl | rfl | rfl | rfl | rfl <;> rfl))) (by rfl) ?_)
    refine gl_f (s_nilCheck rfl) rfl rfl rfl ?_
    refine gl_f (by first | exact s_fieldAddr rfl (by rfl) (by infer_instance) (by decide) | exact s_fieldAddr_o rfl (by assumption) (by rfl) (by infer_instance) (by decide)) rfl rfl rfl ?_
    refine gl_f (by first | exact s_fieldAddr rfl (by rfl) (by infer_instance) (by decide) | exact s_fieldAddr_o rfl (by assumption) (by rfl) (by infer_instance) (by decide)) rfl rfl rfl ?_
    (first | refine gl_store_blkC (pre := [_, _, _, _]) (post := [_, _, _, _, _, _, _, _, _, _, _, _, _, _]) rfl rfl (by repeat first|exact .here|apply Upd.there) (by rfl) (by rfl) (by rfl) ?_ | refine gl_store_blk rfl rfl (by repeat first|exact .here|apply Upd.there) (by rfl) (by (intro q hq; simp [Value.cells] at hq; first | (subst hq; rfl) | (rcases hq with rfl | rfl | rfl | rfl | rfl | rfl | rfl | rfl <;> rfl) | (rcases hq with rfl | rfl | rfl | rfl | rfl | rfl | rfl | rfl | rfl | rfl | rfl | rfl | rfl | rfl | rfl | rfl | rfl | rfl | rfl | rfl <;> rfl))) (by rfl) ?_)
    refine gl_f (s_nilCheck rfl) rfl rfl rfl ?_
    refine gl_f (by first | exact s_fieldAddr rfl (by rfl) (by infer_instance) (by decide) | exact s_fieldAddr_o rfl (by assumption) (by rfl) (by infer_instance) (by decide)) rfl rfl rfl ?_
    refine gl_f (by first | exact s_fieldAddr rfl (by rfl) (by infer_instance) (by decide) | exact s_fieldAddr_o rfl (by assumption) (by rfl) (by infer_instance) (by decide)) rfl rfl rfl ?_
    (first | refine gl_store_blkC (pre := [_, _, _, _, _, _, _, _, _, _, _, _, _]) (post := [_, _, _, _, _]) rfl rfl (by repeat first|exact .here|apply Upd.there) (by rfl) (by rfl) (by rfl) ?_ | refine gl_store_blk rfl rfl (by repeat first|exact .here|apply Upd.there) (by rfl) (by (intro q hq; simp [Value.cells] at hq; first | (subst hq; rfl) | (rcases hq with rfl | rfl | rfl | rfl | rfl | rfl | rfl | rfl <;> rfl) | (rcases hq with rfl | rfl | rfl | rfl | rfl | rfl | rfl | rfl | rfl | rfl | rfl | rfl | rfl | rfl | rfl | rfl | rfl | rfl | rfl | rfl <;> rfl))) (by rfl) ?_)
    refine gl_f (s_nilCheck rfl) rfl rfl rfl ?_
    refine gl_f (by first | exact s_fieldAddr rfl (by rfl) (by infer_instance) (by decide) | exact s_fieldAddr_o rfl (by assumption) (by rfl) (by infer_instance) (by decide)) rfl rfl rfl ?_
    refine gl_f (by first | exact s_fieldAddr rfl (by rfl) (by infer_instance) (by decide) | exact s_fieldAddr_o rfl (by assumption) (by rfl) (by infer_instance) (by decide)) rfl rfl rfl ?_
    (first | refine gl_store_blkC (pre := [_, _, _, _, _, _, _, _, _, _, _, _, _, _]) (post := [_, _, _, _]) rfl rfl (by repeat first|exact .here|apply Upd.there) (by rfl) (by rfl) (by rfl) ?_ | refine gl_store_blk rfl rfl (by repeat first|exact .here|apply Upd.there) (by rfl) (by (intro q hq; simp [Value.cells] at hq; first | (subst hq; rfl) | (rcases hq with rfl | rfl | rfl | rfl | rfl | rfl | rfl | rfl <;> rfl) | (rcases hq with rfl | rfl | rfl | rfl | rfl | rfl | rfl | rfl | rfl | rfl | rfl | rfl | rfl | rfl | rfl | rfl | rfl | rfl | rfl | rfl <;> rfl))) (by rfl) ?_)
    refine gl_nil ?_
    repeat (first | refine g_seq ?_ | refine at_code ?_ | refine g_skip ?_ | refine g_block ?_ | refine g_exit rfl ?_ | refine g_cond_t rfl ?_ | refine g_cond_f rfl ?_)
    refine g_end_own 3 1 ?_
    refine g_end_own 121 4 ?_
    exact at_end0 rfl _ (MdP.same X d ⟨{ d.p with role := 0, leader := n, votes := [], peers := [] }, { d.a with va := none, vc := 0, pa := none, pc := 0 }, d.outs, d.oa, d.oc⟩ _ rfl) (fun w hw => by rw [List.append_nil]; exact Hp.left (R := [OwnC d.a.va d.p.votes d.a.vc, OwnP d.a.pa d.p.peers d.a.pc]) (hw.perm (perm_up (by repeat first|exact .del|apply Upd.there) (perm_up (by repeat first|exact .del|apply Upd.there) (perm_up (by repeat first|exact .del|apply Upd.there) (perm_up (by repeat first|exact .del|apply Upd.there) (perm_up (by repeat first|exact .del|apply Upd.there) (perm_up (by repeat first|exact .del|apply Upd.there) (.refl _)))))))))
  · have e : followP d.p t n = { d.p with term := t, vote := 0, role := 0, leader := n, votes := [], peers := [] } := by
      have := of_decide_eq_true hq.symm
      unfold followP; rw [if_pos this, if_pos this]
    rw [e]
    repeat (first | refine g_seq ?_ | refine at_code ?_ | refine g_skip ?_ | refine g_block ?_ | refine g_exit rfl ?_ | refine g_cond_t rfl ?_ | refine g_cond_f rfl ?_)
    refine g_region ?_
    refine gl_f (s_move rfl) rfl rfl rfl ?_
    refine gl_f (s_move rfl) rfl rfl rfl ?_
    refine gl_f (s_move rfl) rfl rfl rfl ?_
    refine gl_f (s_nilCheck rfl) rfl rfl rfl ?_
    refine gl_f (by first | exact s_fieldAddr rfl (by rfl) (by infer_instance) (by decide) | exact s_fieldAddr_o rfl (by assumption) (by rfl) (by infer_instance) (by decide)) rfl rfl rfl ?_
    refine gl_f (by first | exact s_fieldAddr rfl (by rfl) (by infer_instance) (by decide) | exact s_fieldAddr_o rfl (by assumption) (by rfl) (by infer_instance) (by decide)) rfl rfl rfl ?_
    (first | refine gl_store_blkC (pre := [_]) (post := [_, _, _, _, _, _, _, _, _, _, _, _, _, _, _, _, _]) rfl rfl (by repeat first|exact .here|apply Upd.there) (by rfl) (by rfl) (by rfl) ?_ | refine gl_store_blk rfl rfl (by repeat first|exact .here|apply Upd.there) (by rfl) (by (intro q hq; simp [Value.cells] at hq; first | (subst hq; rfl) | (rcases hq with rfl | rfl | rfl | rfl | rfl | rfl | rfl | rfl <;> rfl) | (rcases hq with rfl | rfl | rfl | rfl | rfl | rfl | rfl | rfl | rfl | rfl | rfl | rfl | rfl | rfl | rfl | rfl | rfl | rfl | rfl | rfl <;> rfl))) (by rfl) ?_)
    refine gl_f (s_nilCheck rfl) rfl rfl rfl ?_
    refine gl_f (by first | exact s_fieldAddr rfl (by rfl) (by infer_instance) (by decide) | exact s_fieldAddr_o rfl (by assumption) (by rfl) (by infer_instance) (by decide)) rfl rfl rfl ?_
    refine gl_f (by first | exact s_fieldAddr rfl (by rfl) (by infer_instance) (by decide) | exact s_fieldAddr_o rfl (by assumption) (by rfl) (by infer_instance) (by decide)) rfl rfl rfl ?_
    (first | refine gl_store_blkC (pre := [_, _]) (post := [_, _, _, _, _, _, _, _, _, _, _, _, _, _, _, _]) rfl rfl (by repeat first|exact .here|apply Upd.there) (by rfl) (by rfl) (by rfl) ?_ | refine gl_store_blk rfl rfl (by repeat first|exact .here|apply Upd.there) (by rfl) (by (intro q hq; simp [Value.cells] at hq; first | (subst hq; rfl) | (rcases hq with rfl | rfl | rfl | rfl | rfl | rfl | rfl | rfl <;> rfl) | (rcases hq with rfl | rfl | rfl | rfl | rfl | rfl | rfl | rfl | rfl | rfl | rfl | rfl | rfl | rfl | rfl | rfl | rfl | rfl | rfl | rfl <;> rfl))) (by rfl) ?_)
    refine gl_nil ?_
    repeat (first | refine g_seq ?_ | refine at_code ?_ | refine g_skip ?_ | refine g_block ?_ | refine g_exit rfl ?_ | refine g_cond_t rfl ?_ | refine g_cond_f rfl ?_)
    repeat (first | refine g_seq ?_ | refine at_code ?_ | refine g_skip ?_ | refine g_block ?_ | refine g_exit rfl ?_ | refine g_cond_t rfl ?_ | refine g_cond_f rfl ?_)
    refine g_region ?_
    refine gl_f (s_move rfl) rfl rfl rfl ?_
    refine gl_f (s_move rfl) rfl rfl rfl ?_
    refine gl_f (s_move rfl) rfl rfl rfl ?_
    refine gl_f (s_move rfl) rfl rfl rfl ?_
    refine gl_f (s_move rfl) rfl rfl rfl ?_
    refine gl_f (s_nilCheck rfl) rfl rfl rfl ?_
    refine gl_f (by first | exact s_fieldAddr rfl (by rfl) (by infer_instance) (by decide) | exact s_fieldAddr_o rfl (by assumption) (by rfl) (by infer_instance) (by decide)) rfl rfl rfl ?_
    refine gl_f (by first | exact s_fieldAddr rfl (by rfl) (by infer_instance) (by decide) | exact s_fieldAddr_o rfl (by assumption) (by rfl) (by infer_instance) (by decide)) rfl rfl rfl ?_
    (first | refine gl_store_blkC (pre := [_, _, _]) (post := [_, _, _, _, _, _, _, _, _, _, _, _, _, _, _]) rfl rfl (by repeat first|exact .here|apply Upd.there) (by rfl) (by rfl) (by rfl) ?_ | refine gl_store_blk rfl rfl (by repeat first|exact .here|apply Upd.there) (by rfl) (by (intro q hq; simp [Value.cells] at hq; first | (subst hq; rfl) | (rcases hq with rfl | rfl | rfl | rfl | rfl | rfl | rfl | rfl <;> rfl) | (rcases hq with rfl | rfl | rfl | rfl | rfl | rfl | rfl | rfl | rfl | rfl | rfl | rfl | rfl | rfl | rfl | rfl | rfl | rfl | rfl | rfl <;> rfl))) (by rfl) ?_)
    refine gl_f (s_nilCheck rfl) rfl rfl rfl ?_
    refine gl_f (by first | exact s_fieldAddr rfl (by rfl) (by infer_instance) (by decide) | exact s_fieldAddr_o rfl (by assumption) (by rfl) (by infer_instance) (by decide)) rfl rfl rfl ?_
    refine gl_f (by first | exact s_fieldAddr rfl (by rfl) (by infer_instance) (by decide) | exact s_fieldAddr_o rfl (by assumption) (by rfl) (by infer_instance) (by decide)) rfl rfl rfl ?_
    (first | refine gl_store_blkC (pre := [_, _, _, _]) (post := [_, _, _, _, _, _, _, _, _, _, _, _, _, _]) rfl rfl (by repeat first|exact .here|apply Upd.there) (by rfl) (by rfl) (by rfl) ?_ | refine gl_store_blk rfl rfl (by repeat first|exact .here|apply Upd.there) (by rfl) (by (intro q hq; simp [Value.cells] at hq; first | (subst hq; rfl) | (rcases hq with rfl | rfl | rfl | rfl | rfl | rfl | rfl | rfl <;> rfl) | (rcases hq with rfl | rfl | rfl | rfl | rfl | rfl | rfl | rfl | rfl | rfl | rfl | rfl | rfl | rfl | rfl | rfl | rfl | rfl | rfl | rfl <;> rfl))) (by rfl) ?_)
    refine gl_f (s_nilCheck rfl) rfl rfl rfl ?_
    refine gl_f (by first | exact s_fieldAddr rfl (by rfl) (by infer_instance) (by decide) | exact s_fieldAddr_o rfl (by assumption) (by rfl) (by infer_instance) (by decide)) rfl rfl rfl ?_
    refine gl_f (by first | exact s_fieldAddr rfl (by rfl) (by infer_instance) (by decide) | exact s_fieldAddr_o rfl (by assumption) (by rfl) (by infer_instance) (by decide)) rfl rfl rfl ?_
    (first | refine gl_store_blkC (pre := [_, _, _, _, _, _, _, _, _, _, _, _, _]) (post := [_, _, _, _, _]) rfl rfl (by repeat first|exact .here|apply Upd.there) (by rfl) (by rfl) (by rfl) ?_ | refine gl_store_blk rfl rfl (by repeat first|exact .here|apply Upd.there) (by rfl) (by (intro q hq; simp [Value.cells] at hq; first | (subst hq; rfl) | (rcases hq with rfl | rfl | rfl | rfl | rfl | rfl | rfl | rfl <;> rfl) | (rcases hq with rfl | rfl | rfl | rfl | rfl | rfl | rfl | rfl | rfl | rfl | rfl | rfl | rfl | rfl | rfl | rfl | rfl | rfl | rfl | rfl <;> rfl))) (by rfl) ?_)
    refine gl_f (s_nilCheck rfl) rfl rfl rfl ?_
    refine gl_f (by first | exact s_fieldAddr rfl (by rfl) (by infer_instance) (by decide) | exact s_fieldAddr_o rfl (by assumption) (by rfl) (by infer_instance) (by decide)) rfl rfl rfl ?_
    refine gl_f (by first | exact s_fieldAddr rfl (by rfl) (by infer_instance) (by decide) | exact s_fieldAddr_o rfl (by assumption) (by rfl) (by infer_instance) (by decide)) rfl rfl rfl ?_
    (first | refine gl_store_blkC (pre := [_, _, _, _, _, _, _, _, _, _, _, _, _, _]) (post := [_, _, _, _]) rfl rfl (by repeat first|exact .here|apply Upd.there) (by rfl) (by rfl) (by rfl) ?_ | refine gl_store_blk rfl rfl (by repeat first|exact .here|apply Upd.there) (by rfl) (by (intro q hq; simp [Value.cells] at hq; first | (subst hq; rfl) | (rcases hq with rfl | rfl | rfl | rfl | rfl | rfl | rfl | rfl <;> rfl) | (rcases hq with rfl | rfl | rfl | rfl | rfl | rfl | rfl | rfl | rfl | rfl | rfl | rfl | rfl | rfl | rfl | rfl | rfl | rfl | rfl | rfl <;> rfl))) (by rfl) ?_)
    refine gl_nil ?_
    repeat (first | refine g_seq ?_ | refine at_code ?_ | refine g_skip ?_ | refine g_block ?_ | refine g_exit rfl ?_ | refine g_cond_t rfl ?_ | refine g_cond_f rfl ?_)
    refine g_end_own 3 1 ?_
    refine g_end_own 121 4 ?_
    exact at_end0 rfl _ (MdP.same X d ⟨{ d.p with term := t, vote := 0, role := 0, leader := n, votes := [], peers := [] }, { d.a with va := none, vc := 0, pa := none, pc := 0 }, d.outs, d.oa, d.oc⟩ _ rfl) (fun w hw => by rw [List.append_nil]; exact Hp.left (R := [OwnC d.a.va d.p.votes d.a.vc, OwnP d.a.pa d.p.peers d.a.pc]) (hw.perm (perm_up (by repeat first|exact .del|apply Upd.there) (perm_up (by repeat first|exact .del|apply Upd.there) (perm_up (by repeat first|exact .del|apply Upd.there) (perm_up (by repeat first|exact .del|apply Upd.there) (perm_up (by repeat first|exact .del|apply Upd.there) (perm_up (by repeat first|exact .del|apply Upd.there) (.refl _)))))))))
abbrev mdHn (X : Nat) (p : RP) (a : RA) (n : Nat) (xs : List Value) (oa : Option Addr) (oc : Nat) : List As := [.blk X (.cells #[.int .i64 p.id, .int .u64 p.term, .int .i64 p.vote, .int .i64 p.role, .int .i64 p.leader, .int .u64 p.base, .int .u64 p.bt, .slice a.ca p.conf.length a.cc, .slice a.la p.l.length a.lc, B p.img, .int .u64 p.commit, .int .i64 p.ticks, .int .i64 p.tout, .slice a.va p.votes.length a.vc, .slice a.pa p.peers.length a.pc, B p.piece, .int .u64 p.pix, .int .u64 p.pt, .slice oa n oc] 124), OwnL a.la p.l a.lc, OwnC a.ca p.conf a.cc, OwnC a.va p.votes a.vc, OwnP a.pa p.peers a.pc, .own (.slice oa n oc) 98 13 xs]
theorem mdH_snoc (X : Nat) (p : RP) (a : RA) (outs : List MM) (m : MM) (oa : Option Addr) (oc : Nat) : mdH X ⟨p, a, outs ++ [m], oa, oc⟩ = mdHn X p a (outs.length + 1) (mmV outs ++ mmC m) oa oc := by
  have e1 : (outs ++ [m]).length = outs.length + 1 := by simp
  have e2 : mmV (outs ++ [m]) = mmV outs ++ mmC m := by rw [mmV_append]; simp
  show mdHn X p a (outs ++ [m]).length (mmV (outs ++ [m])) oa oc = _
  rw [e1, e2]
abbrev sayM (d : MD) (n : Int) (m : MM) : MM := { m with p := { m.p with frm := d.p.id, to := n, term := d.p.term } }
def SayP (X : Nat) (d : MD) (m : MM) (v : Value) (A : List As) : Prop := v = .tuple #[] ∧ ∃ oa oc, A = mdH X ⟨d.p, d.a, d.outs ++ [m], oa, oc⟩
set_option maxRecDepth 8000 in
set_option maxHeartbeats 1000000 in
theorem say_ct (X : Nat) (d : MD) (n : Int) (m : MM) (ho : d.outs.length ≤ 100000000) : Ct Try.prog 116 [Ptr X, .int .i64 n, mmA m] (fun _ => True) (mdH X d) (SayP X d (sayM d n m)) := by
  refine ct_enter 30 Try.func116 rfl rfl rfl ?_
  intro F _
  repeat (first | refine g_seq ?_ | refine at_code ?_ | refine g_skip ?_ | refine g_block ?_ | refine g_exit rfl ?_ | refine g_cond_t rfl ?_ | refine g_cond_f rfl ?_)
  refine g_region ?_
  refine gl_boxA rfl rfl ?_; intro g5
  refine gl_nil ?_
  repeat (first | refine g_seq ?_ | refine at_code ?_ | refine g_skip ?_ | refine g_block ?_ | refine g_exit rfl ?_ | refine g_cond_t rfl ?_ | refine g_cond_f rfl ?_)
  refine g_draw ([4, 10], [0, 1, 3, 7, 15, 0, 0, 64, 192, 448, 960, 31, 2079, 6207, 14399, 32767, 65535], [12, 14, 16]) [.blk X (mdO d)] 17 rfl ?_
  refine ga_free 0 rfl (s_move rfl) rfl rfl rfl (by kernel_rfl) ?_
  refine ga_free 1 rfl (s_nilCheck rfl) rfl rfl rfl (by kernel_rfl) ?_
  refine ga_free 2 rfl (by first | exact s_fieldAddr rfl (by rfl) (by infer_instance) (by decide) | exact s_fieldAddr_o rfl (by assumption) (by rfl) (by infer_instance) (by decide)) rfl rfl rfl (by kernel_rfl) ?_
  refine ga_free 3 rfl (by first | exact s_fieldAddr rfl (by rfl) (by infer_instance) (by decide) | exact s_fieldAddr_o rfl (by assumption) (by rfl) (by infer_instance) (by decide)) rfl rfl rfl (by kernel_rfl) ?_
  (first | refine ga_read_k 4 rfl (by first | exact .head _ | exact .tail _ (.head _) | exact .tail _ (.tail _ (.head _)) | exact .tail _ (.tail _ (.tail _ (.head _)))) (s_load_blk rfl .del a19_0) (by (first | exact fun _ h => h | (repeat first | exact sub_nil | refine sub_cons (by repeat first | exact List.Mem.head _ | apply List.Mem.tail) ?_))) rfl rfl rfl (by kernel_rfl) ?_ | refine ga_readF 4 rfl (s_load1 rfl (fun w hw => peekB hw (by assumption) a19_0)) (by (first | exact fun _ h => h | (repeat first | exact sub_nil | refine sub_cons (by repeat first | exact List.Mem.head _ | apply List.Mem.tail) ?_))) rfl rfl rfl (by kernel_rfl) ?_)
  refine ga_free 5 rfl (s_move rfl) rfl rfl rfl (by kernel_rfl) ?_
  refine ga_free 6 rfl (s_move rfl) rfl rfl rfl (by kernel_rfl) ?_
  refine ga_free 7 rfl (s_nilCheck rfl) rfl rfl rfl (by kernel_rfl) ?_
  refine ga_free 8 rfl (by first | exact s_fieldAddr rfl (by rfl) (by infer_instance) (by decide) | exact s_fieldAddr_o rfl (by assumption) (by rfl) (by infer_instance) (by decide)) rfl rfl rfl (by kernel_rfl) ?_
  refine ga_free 9 rfl (by first | exact s_fieldAddr rfl (by rfl) (by infer_instance) (by decide) | exact s_fieldAddr_o rfl (by assumption) (by rfl) (by infer_instance) (by decide)) rfl rfl rfl (by kernel_rfl) ?_
  (first | refine ga_read_k 10 rfl (by first | exact .head _ | exact .tail _ (.head _) | exact .tail _ (.tail _ (.head _)) | exact .tail _ (.tail _ (.tail _ (.head _)))) (s_load_blk rfl .del a19_1) (by (first | exact fun _ h => h | (repeat first | exact sub_nil | refine sub_cons (by repeat first | exact List.Mem.head _ | apply List.Mem.tail) ?_))) rfl rfl rfl (by kernel_rfl) ?_ | refine ga_readF 10 rfl (s_load1 rfl (fun w hw => peekB hw (by assumption) a19_1)) (by (first | exact fun _ h => h | (repeat first | exact sub_nil | refine sub_cons (by repeat first | exact List.Mem.head _ | apply List.Mem.tail) ?_))) rfl rfl rfl (by kernel_rfl) ?_)
  refine ga_free 11 rfl (by first | exact s_fieldAddr rfl (by rfl) (by infer_instance) (by decide) | exact s_fieldAddr_o rfl (by assumption) (by rfl) (by infer_instance) (by decide)) rfl rfl rfl (by kernel_rfl) ?_
  refine ga_one 12 rfl (by kernel_rfl) ?_
  (first | refine gl_store_blkC (pre := [_]) (post := [_, _, _, _, _, _, _, _, _, _, _]) rfl rfl (by repeat first|exact .here|apply Upd.there) (by rfl) (by rfl) (by rfl) ?_ | refine gl_store_blk rfl rfl (by repeat first|exact .here|apply Upd.there) (by rfl) (by (intro q hq; simp [Value.cells] at hq; first | (subst hq; rfl) | (rcases hq with rfl | rfl | rfl | rfl | rfl | rfl | rfl | rfl <;> rfl) | (rcases hq with rfl | rfl | rfl | rfl | rfl | rfl | rfl | rfl | rfl | rfl | rfl | rfl | rfl | rfl | rfl | rfl | rfl | rfl | rfl | rfl <;> rfl))) (by rfl) ?_)
  refine gl_nil ?_
  refine at_ga (.inr (by exact keeps_of (by (first | exact fun _ h => h | (repeat first | exact sub_nil | refine sub_cons (by repeat first | exact List.Mem.head _ | apply List.Mem.tail) ?_))))) ?_
  refine ga_free 13 rfl (by first | exact s_fieldAddr rfl (by rfl) (by infer_instance) (by decide) | exact s_fieldAddr_o rfl (by assumption) (by rfl) (by infer_instance) (by decide)) rfl rfl rfl (by kernel_rfl) ?_
  refine ga_one 14 rfl (by kernel_rfl) ?_
  (first | refine gl_store_blkC (pre := [_, _]) (post := [_, _, _, _, _, _, _, _, _, _]) rfl rfl (by repeat first|exact .here|apply Upd.there) (by rfl) (by rfl) (by rfl) ?_ | refine gl_store_blk rfl rfl (by repeat first|exact .here|apply Upd.there) (by rfl) (by (intro q hq; simp [Value.cells] at hq; first | (subst hq; rfl) | (rcases hq with rfl | rfl | rfl | rfl | rfl | rfl | rfl | rfl <;> rfl) | (rcases hq with rfl | rfl | rfl | rfl | rfl | rfl | rfl | rfl | rfl | rfl | rfl | rfl | rfl | rfl | rfl | rfl | rfl | rfl | rfl | rfl <;> rfl))) (by rfl) ?_)
  refine gl_nil ?_
  refine at_ga (.inr (by exact keeps_of (by (first | exact fun _ h => h | (repeat first | exact sub_nil | refine sub_cons (by repeat first | exact List.Mem.head _ | apply List.Mem.tail) ?_))))) ?_
  refine ga_free 15 rfl (by first | exact s_fieldAddr rfl (by rfl) (by infer_instance) (by decide) | exact s_fieldAddr_o rfl (by assumption) (by rfl) (by infer_instance) (by decide)) rfl rfl rfl (by kernel_rfl) ?_
  refine ga_one 16 rfl (by kernel_rfl) ?_
  (first | refine gl_store_blkC (pre := [_, _, _]) (post := [_, _, _, _, _, _, _, _, _]) rfl rfl (by repeat first|exact .here|apply Upd.there) (by rfl) (by rfl) (by rfl) ?_ | refine gl_store_blk rfl rfl (by repeat first|exact .here|apply Upd.there) (by rfl) (by (intro q hq; simp [Value.cells] at hq; first | (subst hq; rfl) | (rcases hq with rfl | rfl | rfl | rfl | rfl | rfl | rfl | rfl <;> rfl) | (rcases hq with rfl | rfl | rfl | rfl | rfl | rfl | rfl | rfl | rfl | rfl | rfl | rfl | rfl | rfl | rfl | rfl | rfl | rfl | rfl | rfl <;> rfl))) (by rfl) ?_)
  refine gl_nil ?_
  refine at_ga (.inl (by kernel_rfl)) ?_
  refine ga_done (by kernel_rfl) ?_
  repeat (first | refine g_seq ?_ | refine at_code ?_ | refine g_skip ?_ | refine g_block ?_ | refine g_exit rfl ?_ | refine g_cond_t rfl ?_ | refine g_cond_f rfl ?_)
  repeat (first | refine g_seq ?_ | refine at_code ?_ | refine g_skip ?_ | refine g_block ?_ | refine g_exit rfl ?_ | refine g_cond_t rfl ?_ | refine g_cond_f rfl ?_)
  refine g_draw ([4, 5], [0, 0, 2, 6, 14, 0, 32, 126, 255, 511, 1023], [6, 7, 10]) [.blk g5 (.cells #[.int .i64 m.p.kind, .int .i64 d.p.id, .int .i64 n, .int .u64 d.p.term, .int .u64 m.p.index, .int .u64 m.p.lt, .int .u64 m.p.commit, .bool m.p.ok, .slice m.ea m.p.ents.length m.ec, .slice m.ka m.p.conf.length m.kc, .int .i64 m.p.off, .int .i64 m.p.size, B m.p.data] 98), .blk X (mdO d)] 11 rfl ?_
  refine ga_free 0 rfl (s_move rfl) rfl rfl rfl (by kernel_rfl) ?_
  refine ga_free 1 rfl (s_move rfl) rfl rfl rfl (by kernel_rfl) ?_
  refine ga_free 2 rfl (s_nilCheck rfl) rfl rfl rfl (by kernel_rfl) ?_
  refine ga_free 3 rfl (by first | exact s_fieldAddr rfl (by rfl) (by infer_instance) (by decide) | exact s_fieldAddr_o rfl (by assumption) (by rfl) (by infer_instance) (by decide)) rfl rfl rfl (by kernel_rfl) ?_
  (first | refine ga_read_k 4 rfl (by first | exact .head _ | exact .tail _ (.head _) | exact .tail _ (.tail _ (.head _)) | exact .tail _ (.tail _ (.tail _ (.head _)))) (s_load_blk rfl .del a19_18) (by (first | exact fun _ h => h | (repeat first | exact sub_nil | refine sub_cons (by repeat first | exact List.Mem.head _ | apply List.Mem.tail) ?_))) rfl rfl rfl (by kernel_rfl) ?_ | refine ga_readF 4 rfl (s_load1 rfl (fun w hw => peekB hw (by assumption) a19_18)) (by (first | exact fun _ h => h | (repeat first | exact sub_nil | refine sub_cons (by repeat first | exact List.Mem.head _ | apply List.Mem.tail) ?_))) rfl rfl rfl (by kernel_rfl) ?_)
  (first | refine ga_read_k 5 rfl (by first | exact .head _ | exact .tail _ (.head _) | exact .tail _ (.tail _ (.head _)) | exact .tail _ (.tail _ (.tail _ (.head _)))) (s_load_blkW rfl .del (by rfl)) (by (first | exact fun _ h => h | (repeat first | exact sub_nil | refine sub_cons (by repeat first | exact List.Mem.head _ | apply List.Mem.tail) ?_))) rfl rfl rfl (by kernel_rfl) ?_ | refine ga_read_k 5 rfl (by first | exact .head _ | exact .tail _ (.head _) | exact .tail _ (.tail _ (.head _)) | exact .tail _ (.tail _ (.tail _ (.head _)))) (s_load_blkN rfl .del (by rfl)) (by (first | exact fun _ h => h | (repeat first | exact sub_nil | refine sub_cons (by repeat first | exact List.Mem.head _ | apply List.Mem.tail) ?_))) rfl rfl rfl (by kernel_rfl) ?_ | refine ga_readF 5 rfl (s_loadN rfl (fun w hw => peekBN hw (by assumption)) (by rfl)) (by (first | exact fun _ h => h | (repeat first | exact sub_nil | refine sub_cons (by repeat first | exact List.Mem.head _ | apply List.Mem.tail) ?_))) rfl rfl rfl (by kernel_rfl) ?_)
  refine ga_one 6 rfl (by kernel_rfl) ?_
  refine gl_buildSliceU rfl rfl rfl rfl rfl rfl (xs := mmC (sayM d n m)) rfl rfl ?_; intro a26 ha26
  refine gl_nil ?_
  refine at_ga (.inr (by exact keeps_of (by (first | exact fun _ h => h | (repeat first | exact sub_nil | refine sub_cons (by repeat first | exact List.Mem.head _ | apply List.Mem.tail) ?_))))) ?_
  refine ga_one 7 rfl (by kernel_rfl) ?_
  refine gl_append (sz := 13) rfl rfl (fun a' c' => (by repeat first|exact .here|apply Upd.there)) (fun w hw => (hw.ownN (by repeat first|exact .del|apply Upd.there)).2.2.1) rfl rfl rfl (mmC_one _) (by show (_ + 1) * 144 ≤ _; omega) (by omega) rfl ?_; intro a27 c27 hc27
  refine gl_nil ?_
  refine at_ga (.inl (by kernel_rfl)) ?_
  refine ga_free 8 rfl (s_nilCheck rfl) rfl rfl rfl (by kernel_rfl) ?_
  refine ga_free 9 rfl (by first | exact s_fieldAddr rfl (by rfl) (by infer_instance) (by decide) | exact s_fieldAddr_o rfl (by assumption) (by rfl) (by infer_instance) (by decide)) rfl rfl rfl (by kernel_rfl) ?_
  refine ga_one 10 rfl (by kernel_rfl) ?_
  (first | refine gl_store_blkC (pre := [_, _, _, _, _, _, _, _, _, _, _, _, _, _, _, _, _, _]) (post := []) rfl rfl (by repeat first|exact .here|apply Upd.there) (by rfl) (by rfl) (by rfl) ?_ | refine gl_store_blk rfl rfl (by repeat first|exact .here|apply Upd.there) (by rfl) (by (intro q hq; simp [Value.cells] at hq; first | (subst hq; rfl) | (rcases hq with rfl | rfl | rfl | rfl | rfl | rfl | rfl | rfl <;> rfl) | (rcases hq with rfl | rfl | rfl | rfl | rfl | rfl | rfl | rfl | rfl | rfl | rfl | rfl | rfl | rfl | rfl | rfl | rfl | rfl | rfl | rfl <;> rfl))) (by rfl) ?_)
  refine gl_nil ?_
  refine at_ga (.inl (by kernel_rfl)) ?_
  refine ga_done (by kernel_rfl) ?_
  repeat (first | refine g_seq ?_ | refine at_code ?_ | refine g_skip ?_ | refine g_block ?_ | refine g_exit rfl ?_ | refine g_cond_t rfl ?_ | refine g_cond_f rfl ?_)
  exact at_end0 rfl _ ⟨rfl, a27, c27, rfl⟩ (fun w hw => by rw [mdH_snoc]; exact hw.drop.drop)
end Go.Proofs.Ytodcghipfolejaa.Rf
