/- A mind's calls: changes, propose. -/
import Derived.Test.YtodcghipfolejaaCR8
namespace Go.Proofs.Ytodcghipfolejaa.Rf
open Go Go.Sl
set_option linter.unusedVariables false
set_option linter.unusedSimpArgs false
-- ARR

/-- an event -/
structure EV where
  kind : Int
  m : MM
  et : Int
  ek : Int
  ed : Bs
  index : Int
  img : Bs
abbrev evC (e : EV) : List Value := [.int .i64 e.kind, .int .i64 e.m.p.kind, .int .i64 e.m.p.frm, .int .i64 e.m.p.to, .int .u64 e.m.p.term, .int .u64 e.m.p.index, .int .u64 e.m.p.lt, .int .u64 e.m.p.commit, .bool e.m.p.ok, .slice e.m.ea e.m.p.ents.length e.m.ec, .slice e.m.ka e.m.p.conf.length e.m.kc, .int .i64 e.m.p.off, .int .i64 e.m.p.size, B e.m.p.data, .int .u64 e.et, .int .i64 e.ek, B e.ed, .int .u64 e.index, B e.img]
abbrev evA (e : EV) : Value := .agg #[.int .i64 e.kind, .int .i64 e.m.p.kind, .int .i64 e.m.p.frm, .int .i64 e.m.p.to, .int .u64 e.m.p.term, .int .u64 e.m.p.index, .int .u64 e.m.p.lt, .int .u64 e.m.p.commit, .bool e.m.p.ok, .slice e.m.ea e.m.p.ents.length e.m.ec, .slice e.m.ka e.m.p.conf.length e.m.kc, .int .i64 e.m.p.off, .int .i64 e.m.p.size, B e.m.p.data, .int .u64 e.et, .int .i64 e.ek, B e.ed, .int .u64 e.index, B e.img]
def changesE (p : RP) (s : Bs) : Int := if readE s ≠ 0 ∨ stepS (confL p) (readL s) = false then 1 else if p.commit < confI p ∨ termV p.g p.commit ≠ p.term then 17 else 0
set_option maxRecDepth 8000 in
set_option maxHeartbeats 2000000 in
theorem changes_ct (X : Nat) (d : MD) (s : Bs) (hf : PFit d.p) (hc : d.p.l.length ≤ d.a.lc) (hs : s.length ≤ 9223372036854775807) : Ct Try.prog 108 [Ptr X, B s] (fun h => h X = some (mdO d) ∧ (d.p.lm d.a).ok h) [] (fun v A => v = .int .i64 (changesE d.p s) ∧ A = []) := by
  obtain ⟨p, a, outs, oa0, oc0⟩ := d
  simp only at hf hc
  have hcn := hf.cn (lastI p.g)
  have hca := hf.ca (lastI p.g)
  have hcm := hf.commit
  have hrl := read_le s
  obtain ⟨cl, hcl⟩ : ∃ l, l = confAt p.g (lastI p.g) := ⟨_, rfl⟩
  rw [← hcl] at hcn hca
  have hE : changesE p s = if readE s ≠ 0 ∨ stepS cl.1 (readL s) = false then 1 else if p.commit < cl.2 ∨ termV p.g p.commit ≠ p.term then 17 else 0 := by rw [hcl]; rfl
  simp only [hE]
  refine ct_enter 63 Try.func108 rfl rfl rfl ?_
  intro F hF
  have hX := hF.1
  have hg := hF.2
  obtain ⟨q1, hq1⟩ : ∃ q, q = decide (readE s = 0) := ⟨_, rfl⟩
  obtain ⟨q2, hq2⟩ : ∃ q, q = stepS cl.1 (readL s) := ⟨_, rfl⟩
  obtain ⟨q3, hq3⟩ : ∃ q, q = decide (p.commit < cl.2) := ⟨_, rfl⟩
  obtain ⟨q4, hq4⟩ : ∃ q, q = decide (termV p.g p.commit = p.term) := ⟨_, rfl⟩
  have hE2 : (if readE s ≠ 0 ∨ stepS cl.1 (readL s) = false then (1 : Int) else if p.commit < cl.2 ∨ termV p.g p.commit ≠ p.term then 17 else 0) = if (!q1 || !q2) = true then 1 else if (q3 || !q4) = true then 17 else 0 := by
    rw [← hq2, hq1, hq3, hq4]
    simp only [ne_eq, Bool.or_eq_true, Bool.not_eq_true', decide_eq_true_eq, decide_eq_false_iff_not]
  rw [hE2]
  repeat (first | refine g_seq ?_ | refine at_code ?_ | refine g_skip ?_ | refine g_block ?_ | refine g_exit rfl ?_ | refine g_cond_t rfl ?_ | refine g_cond_f rfl ?_)
  refine g_region ?_
  refine gl_f (s_assign rfl) rfl rfl rfl ?_
  refine gl_nil ?_
  repeat (first | refine g_seq ?_ | refine at_code ?_ | refine g_skip ?_ | refine g_block ?_ | refine g_exit rfl ?_ | refine g_cond_t rfl ?_ | refine g_cond_f rfl ?_)
  refine g_region ?_
  refine gl_f (s_move rfl) rfl rfl rfl ?_
  refine gl_f (s_nilCheck rfl) rfl rfl rfl ?_
  refine gl_f (by first | exact s_fieldAddr rfl (by rfl) (by infer_instance) (by decide) | exact s_fieldAddr_o rfl (by assumption) (by rfl) (by infer_instance) (by decide)) rfl rfl rfl ?_
  refine gl_f (by first | exact s_fieldAddr rfl (by rfl) (by infer_instance) (by decide) | exact s_fieldAddr_o rfl (by assumption) (by rfl) (by infer_instance) (by decide)) rfl rfl rfl ?_
  refine gl_r ((s_loadN (n := 4) rfl (fun w hw => peekBS (o := 5) (n := 4) hw hX) (by rfl)).eq (v' := (p.lm a).v) rfl) rfl rfl rfl ?_
  refine gl_call _ rfl (Conf_ct (p.lm a) (hf.fit a hc) (hf.datL a)) (fun w hw => hw) (fun h hh _ => hg.le hh) rfl ?_; rw [show lastI (p.lm a) = lastI p.g from rfl, confAt_any, ← hcl]; rintro v A ⟨ca, cc, rfl, rfl⟩
  refine gl_f (s_move rfl) rfl rfl rfl ?_
  refine gl_f (s_extract rfl rfl) rfl rfl rfl ?_
  refine gl_f (s_extract rfl rfl) rfl rfl rfl ?_
  refine gl_f (s_assign rfl) rfl rfl rfl ?_
  refine gl_f (s_assign rfl) rfl rfl rfl ?_
  refine gl_nil ?_
  repeat (first | refine g_seq ?_ | refine at_code ?_ | refine g_skip ?_ | refine g_block ?_ | refine g_exit rfl ?_ | refine g_cond_t rfl ?_ | refine g_cond_f rfl ?_)
  repeat (first | refine g_seq ?_ | refine at_code ?_ | refine g_skip ?_ | refine g_block ?_ | refine g_exit rfl ?_ | refine g_cond_t rfl ?_ | refine g_cond_f rfl ?_)
  refine g_region ?_
  refine gl_f (s_move rfl) rfl rfl rfl ?_
  refine gl_call _ rfl (Read_ct s hs) (fun w hw => hw) (fun _ _ _ => trivial) rfl ?_; rintro v A ⟨ta, tc, rfl, rfl⟩
  refine gl_f (s_move rfl) rfl rfl rfl ?_
  refine gl_f (s_extract rfl rfl) rfl rfl rfl ?_
  refine gl_f (s_extract rfl rfl) rfl rfl rfl ?_
  refine gl_f (s_assign rfl) rfl rfl rfl ?_
  refine gl_f (s_assign rfl) rfl rfl rfl ?_
  refine gl_nil ?_
  repeat (first | refine g_seq ?_ | refine at_code ?_ | refine g_skip ?_ | refine g_block ?_ | refine g_exit rfl ?_ | refine g_cond_t rfl ?_ | refine g_cond_f rfl ?_)
  rcases (show (q1 = true ∧ q2 = true) ∨ q1 = false ∨ (q1 = true ∧ q2 = false) by cases q1 <;> cases q2 <;> simp) with ⟨rfl, rfl⟩ | rfl | ⟨rfl, rfl⟩
  rotate_left
  · repeat (first | refine g_seq ?_ | refine at_code ?_ | refine g_skip ?_ | refine g_block ?_ | refine g_exit rfl ?_ | refine g_cond_t rfl ?_ | refine g_cond_f rfl ?_)
    refine g_region ?_
    refine gl_f (s_move rfl) rfl rfl rfl ?_
    refine gl_f ((s_neq rfl rfl).eq (v' := .bool true) (by rw [← hq1]; rfl)) rfl rfl rfl ?_
    refine gl_f (s_move rfl) rfl rfl rfl ?_
    (first | refine gl_guard_no rfl rfl rfl rfl rfl rfl rfl ?_ | refine gl_guard_un rfl rfl rfl rfl rfl rfl ?_ | (refine gl_guard_yes rfl rfl rfl ?_; refine gl_f (s_move rfl) rfl rfl rfl ?_))
    (first | refine gl_guard_no rfl rfl rfl rfl rfl rfl rfl ?_ | refine gl_guard_un rfl rfl rfl rfl rfl rfl ?_ | (refine gl_guard_yes rfl rfl rfl ?_; refine gl_f (s_move rfl) rfl rfl rfl ?_))
    (first | refine gl_guard_no rfl rfl rfl rfl rfl rfl rfl ?_ | refine gl_guard_un rfl rfl rfl rfl rfl rfl ?_ | (refine gl_guard_yes rfl rfl rfl ?_; refine gl_callp rfl (Step_ct _ _ _ _ _ _ (by omega) (by omega)) (fun h hh hb => by first | trivial | (first | exact RdS.le (by assumption) hh | (obtain ⟨bs, hb⟩ := hb; exact Sat.rd hb ((by repeat first|exact .del|apply Upd.there)))) | (refine ⟨?_, ?_⟩ <;> (first | exact RdS.le (by assumption) hh | (obtain ⟨bs, hb⟩ := hb; exact Sat.rd hb ((by repeat first|exact .del|apply Upd.there))))) | (refine ⟨?_, ?_, ?_⟩ <;> (first | exact RdS.le (by assumption) hh | (obtain ⟨bs, hb⟩ := hb; exact Sat.rd hb ((by repeat first|exact .del|apply Upd.there)))))) rfl ?_))
    (first | refine gl_guard_no rfl rfl rfl rfl rfl rfl rfl ?_ | refine gl_guard_un rfl rfl rfl rfl rfl rfl ?_ | (refine gl_guard_yes rfl rfl rfl ?_; refine gl_f (s_not rfl) rfl rfl rfl ?_))
    refine gl_f (by first | exact s_pick_t rfl rfl | exact s_pick_f rfl rfl) rfl rfl rfl ?_
    refine gl_nil ?_
    repeat (first | refine g_seq ?_ | refine at_code ?_ | refine g_skip ?_ | refine g_block ?_ | refine g_exit rfl ?_ | refine g_cond_t rfl ?_ | refine g_cond_f rfl ?_)
    repeat (first | refine g_seq ?_ | refine at_code ?_ | refine g_skip ?_ | refine g_block ?_ | refine g_exit rfl ?_ | refine g_cond_t rfl ?_ | refine g_cond_f rfl ?_)
    refine g_region ?_
    refine gl_f (s_assign rfl) rfl rfl rfl ?_
    refine gl_nil ?_
    repeat (first | refine g_seq ?_ | refine at_code ?_ | refine g_skip ?_ | refine g_block ?_ | refine g_exit rfl ?_ | refine g_cond_t rfl ?_ | refine g_cond_f rfl ?_)
    refine g_ret ?_
    exact at_end1 rfl rfl [] ⟨by simp, rfl⟩ (fun _ h => h.dropAll)
  · repeat (first | refine g_seq ?_ | refine at_code ?_ | refine g_skip ?_ | refine g_block ?_ | refine g_exit rfl ?_ | refine g_cond_t rfl ?_ | refine g_cond_f rfl ?_)
    refine g_region ?_
    refine gl_f (s_move rfl) rfl rfl rfl ?_
    refine gl_f ((s_neq rfl rfl).eq (v' := .bool false) (by rw [← hq1]; rfl)) rfl rfl rfl ?_
    refine gl_f (s_move rfl) rfl rfl rfl ?_
    (first | refine gl_guard_no rfl rfl rfl rfl rfl rfl rfl ?_ | refine gl_guard_un rfl rfl rfl rfl rfl rfl ?_ | (refine gl_guard_yes rfl rfl rfl ?_; refine gl_f (s_move rfl) rfl rfl rfl ?_))
    (first | refine gl_guard_no rfl rfl rfl rfl rfl rfl rfl ?_ | refine gl_guard_un rfl rfl rfl rfl rfl rfl ?_ | (refine gl_guard_yes rfl rfl rfl ?_; refine gl_f (s_move rfl) rfl rfl rfl ?_))
    (first | refine gl_guard_no rfl rfl rfl rfl rfl rfl rfl ?_ | refine gl_guard_un rfl rfl rfl rfl rfl rfl ?_ | (refine gl_guard_yes rfl rfl rfl ?_; refine gl_callp rfl (Step_ct cl.1 (readL s) ca ta cc tc (by omega) (by omega)) (fun h hh ⟨bs, hb⟩ => ⟨Sat.rd (a := ca) hb (by repeat first|exact .del|apply Upd.there), Sat.rd (a := ta) hb (by repeat first|exact .del|apply Upd.there)⟩) rfl ?_; rw [← hq2]))
    (first | refine gl_guard_no rfl rfl rfl rfl rfl rfl rfl ?_ | refine gl_guard_un rfl rfl rfl rfl rfl rfl ?_ | (refine gl_guard_yes rfl rfl rfl ?_; refine gl_f (s_not rfl) rfl rfl rfl ?_))
    refine gl_f (by first | exact s_pick_t rfl rfl | exact s_pick_f rfl rfl) rfl rfl rfl ?_
    refine gl_nil ?_
    repeat (first | refine g_seq ?_ | refine at_code ?_ | refine g_skip ?_ | refine g_block ?_ | refine g_exit rfl ?_ | refine g_cond_t rfl ?_ | refine g_cond_f rfl ?_)
    repeat (first | refine g_seq ?_ | refine at_code ?_ | refine g_skip ?_ | refine g_block ?_ | refine g_exit rfl ?_ | refine g_cond_t rfl ?_ | refine g_cond_f rfl ?_)
    refine g_region ?_
    refine gl_f (s_assign rfl) rfl rfl rfl ?_
    refine gl_nil ?_
    repeat (first | refine g_seq ?_ | refine at_code ?_ | refine g_skip ?_ | refine g_block ?_ | refine g_exit rfl ?_ | refine g_cond_t rfl ?_ | refine g_cond_f rfl ?_)
    refine g_ret ?_
    exact at_end1 rfl rfl [] ⟨by simp, rfl⟩ (fun _ h => h.dropAll)
  repeat (first | refine g_seq ?_ | refine at_code ?_ | refine g_skip ?_ | refine g_block ?_ | refine g_exit rfl ?_ | refine g_cond_t rfl ?_ | refine g_cond_f rfl ?_)
  refine g_region ?_
  refine gl_f (s_move rfl) rfl rfl rfl ?_
  refine gl_f ((s_neq rfl rfl).eq (v' := .bool false) (by rw [← hq1]; rfl)) rfl rfl rfl ?_
  refine gl_f (s_move rfl) rfl rfl rfl ?_
  (first | refine gl_guard_no rfl rfl rfl rfl rfl rfl rfl ?_ | refine gl_guard_un rfl rfl rfl rfl rfl rfl ?_ | (refine gl_guard_yes rfl rfl rfl ?_; refine gl_f (s_move rfl) rfl rfl rfl ?_))
  (first | refine gl_guard_no rfl rfl rfl rfl rfl rfl rfl ?_ | refine gl_guard_un rfl rfl rfl rfl rfl rfl ?_ | (refine gl_guard_yes rfl rfl rfl ?_; refine gl_f (s_move rfl) rfl rfl rfl ?_))
  (first | refine gl_guard_no rfl rfl rfl rfl rfl rfl rfl ?_ | refine gl_guard_un rfl rfl rfl rfl rfl rfl ?_ | (refine gl_guard_yes rfl rfl rfl ?_; refine gl_callp rfl (Step_ct cl.1 (readL s) ca ta cc tc (by omega) (by omega)) (fun h hh ⟨bs, hb⟩ => ⟨Sat.rd (a := ca) hb (by repeat first|exact .del|apply Upd.there), Sat.rd (a := ta) hb (by repeat first|exact .del|apply Upd.there)⟩) rfl ?_; rw [← hq2]))
  (first | refine gl_guard_no rfl rfl rfl rfl rfl rfl rfl ?_ | refine gl_guard_un rfl rfl rfl rfl rfl rfl ?_ | (refine gl_guard_yes rfl rfl rfl ?_; refine gl_f (s_not rfl) rfl rfl rfl ?_))
  refine gl_f (by first | exact s_pick_t rfl rfl | exact s_pick_f rfl rfl) rfl rfl rfl ?_
  refine gl_nil ?_
  repeat (first | refine g_seq ?_ | refine at_code ?_ | refine g_skip ?_ | refine g_block ?_ | refine g_exit rfl ?_ | refine g_cond_t rfl ?_ | refine g_cond_f rfl ?_)
  repeat (first | refine g_seq ?_ | refine at_code ?_ | refine g_skip ?_ | refine g_block ?_ | refine g_exit rfl ?_ | refine g_cond_t rfl ?_ | refine g_cond_f rfl ?_)
  refine g_draw ([4, 9], [0, 1, 3, 7, 15, 0, 32, 96, 224, 480, 1023, 2047, 4095, 4095, 8191, 32767], [10]) [] 16 rfl ?_
  refine ga_free 0 rfl (s_move rfl) rfl rfl rfl (by kernel_rfl) ?_
  refine ga_free 1 rfl (s_nilCheck rfl) rfl rfl rfl (by kernel_rfl) ?_
  refine ga_free 2 rfl (by first | exact s_fieldAddr rfl (by rfl) (by infer_instance) (by decide) | exact s_fieldAddr_o rfl (by assumption) (by rfl) (by infer_instance) (by decide)) rfl rfl rfl (by kernel_rfl) ?_
  refine ga_free 3 rfl (by first | exact s_fieldAddr rfl (by rfl) (by infer_instance) (by decide) | exact s_fieldAddr_o rfl (by assumption) (by rfl) (by infer_instance) (by decide)) rfl rfl rfl (by kernel_rfl) ?_
  refine ga_readF 4 rfl ((s_loadN (n := 4) rfl (fun w hw => peekBS (o := 5) (n := 4) hw hX) (by rfl)).eq (v' := (p.lm a).v) rfl) (by (first | exact fun _ h => h | (repeat first | exact sub_nil | refine sub_cons (by repeat first | exact List.Mem.head _ | apply List.Mem.tail) ?_))) rfl rfl rfl (by kernel_rfl) ?_
  refine ga_free 5 rfl (s_move rfl) rfl rfl rfl (by kernel_rfl) ?_
  refine ga_free 6 rfl (s_nilCheck rfl) rfl rfl rfl (by kernel_rfl) ?_
  refine ga_free 7 rfl (by first | exact s_fieldAddr rfl (by rfl) (by infer_instance) (by decide) | exact s_fieldAddr_o rfl (by assumption) (by rfl) (by infer_instance) (by decide)) rfl rfl rfl (by kernel_rfl) ?_
  refine ga_free 8 rfl (by first | exact s_fieldAddr rfl (by rfl) (by infer_instance) (by decide) | exact s_fieldAddr_o rfl (by assumption) (by rfl) (by infer_instance) (by decide)) rfl rfl rfl (by kernel_rfl) ?_
  refine ga_readF 9 rfl (s_load1 rfl (fun w hw => peekB hw hX a19_10)) (by (first | exact fun _ h => h | (repeat first | exact sub_nil | refine sub_cons (by repeat first | exact List.Mem.head _ | apply List.Mem.tail) ?_))) rfl rfl rfl (by kernel_rfl) ?_
  refine ga_one 10 rfl (by kernel_rfl) ?_
  refine gl_callp rfl (Term_ct (p.lm a) p.commit (hf.fit a hc) (by omega)) (fun h hh _ => hg.2.le hh) rfl ?_; rw [show termV (p.lm a) p.commit = termV p.g p.commit from rfl]
  refine gl_nil ?_
  refine at_ga (.inl (by kernel_rfl)) ?_
  refine ga_free 11 rfl (s_move rfl) rfl rfl rfl (by kernel_rfl) ?_
  refine ga_free 12 rfl (s_extract rfl rfl) rfl rfl rfl (by kernel_rfl) ?_
  refine ga_free 13 rfl (s_extract rfl rfl) rfl rfl rfl (by kernel_rfl) ?_
  refine ga_free 14 rfl (s_assign rfl) rfl rfl rfl (by kernel_rfl) ?_
  refine ga_free 15 rfl (s_assign rfl) rfl rfl rfl (by kernel_rfl) ?_
  refine ga_done (by kernel_rfl) ?_
  repeat (first | refine g_seq ?_ | refine at_code ?_ | refine g_skip ?_ | refine g_block ?_ | refine g_exit rfl ?_ | refine g_cond_t rfl ?_ | refine g_cond_f rfl ?_)
  rcases (show (q3 = false ∧ q4 = true) ∨ q3 = true ∨ (q3 = false ∧ q4 = false) by cases q3 <;> cases q4 <;> simp) with ⟨rfl, rfl⟩ | rfl | ⟨rfl, rfl⟩
  · repeat (first | refine g_seq ?_ | refine at_code ?_ | refine g_skip ?_ | refine g_block ?_ | refine g_exit rfl ?_ | refine g_cond_t rfl ?_ | refine g_cond_f rfl ?_)
    refine g_region ?_
    refine gl_f (s_move rfl) rfl rfl rfl ?_
    refine gl_f (s_move rfl) rfl rfl rfl ?_
    refine gl_f (s_nilCheck rfl) rfl rfl rfl ?_
    refine gl_f (by first | exact s_fieldAddr rfl (by rfl) (by infer_instance) (by decide) | exact s_fieldAddr_o rfl (by assumption) (by rfl) (by infer_instance) (by decide)) rfl rfl rfl ?_
    refine gl_f (by first | exact s_fieldAddr rfl (by rfl) (by infer_instance) (by decide) | exact s_fieldAddr_o rfl (by assumption) (by rfl) (by infer_instance) (by decide)) rfl rfl rfl ?_
    refine gl_r (by first | exact s_load_blk rfl (by repeat first|exact .del|apply Upd.there) a19_10 | exact s_load1 rfl (fun w hw => peekB hw (by assumption) a19_10)) rfl rfl rfl ?_
    refine gl_f ((s_gtr rfl rfl).eq (congrArg Value.bool hq3.symm)) rfl rfl rfl ?_
    refine gl_f (s_move rfl) rfl rfl rfl ?_
    (first | refine gl_guard_no rfl rfl rfl rfl rfl rfl rfl ?_ | refine gl_guard_un rfl rfl rfl rfl rfl rfl ?_ | (refine gl_guard_yes rfl rfl rfl ?_; refine gl_f (s_move rfl) rfl rfl rfl ?_))
    (first | refine gl_guard_no rfl rfl rfl rfl rfl rfl rfl ?_ | refine gl_guard_un rfl rfl rfl rfl rfl rfl ?_ | (refine gl_guard_yes rfl rfl rfl ?_; refine gl_f (s_move rfl) rfl rfl rfl ?_))
    (first | refine gl_guard_no rfl rfl rfl rfl rfl rfl rfl ?_ | refine gl_guard_un rfl rfl rfl rfl rfl rfl ?_ | (refine gl_guard_yes rfl rfl rfl ?_; refine gl_f (s_nilCheck rfl) rfl rfl rfl ?_))
    (first | refine gl_guard_no rfl rfl rfl rfl rfl rfl rfl ?_ | refine gl_guard_un rfl rfl rfl rfl rfl rfl ?_ | (refine gl_guard_yes rfl rfl rfl ?_; refine gl_f (by first | exact s_fieldAddr rfl (by rfl) (by infer_instance) (by decide) | exact s_fieldAddr_o rfl (by assumption) (by rfl) (by infer_instance) (by decide)) rfl rfl rfl ?_))
    (first | refine gl_guard_no rfl rfl rfl rfl rfl rfl rfl ?_ | refine gl_guard_un rfl rfl rfl rfl rfl rfl ?_ | (refine gl_guard_yes rfl rfl rfl ?_; refine gl_f (by first | exact s_fieldAddr rfl (by rfl) (by infer_instance) (by decide) | exact s_fieldAddr_o rfl (by assumption) (by rfl) (by infer_instance) (by decide)) rfl rfl rfl ?_))
    (first | refine gl_guard_no rfl rfl rfl rfl rfl rfl rfl ?_ | refine gl_guard_un rfl rfl rfl rfl rfl rfl ?_ | (refine gl_guard_yes rfl rfl rfl ?_; refine gl_r (by first | exact s_load_blk rfl (by repeat first|exact .del|apply Upd.there) a19_1 | exact s_load1 rfl (fun w hw => peekB hw (by assumption) a19_1)) rfl rfl rfl ?_))
    (first | refine gl_guard_no rfl rfl rfl rfl rfl rfl rfl ?_ | refine gl_guard_un rfl rfl rfl rfl rfl rfl ?_ | (refine gl_guard_yes rfl rfl rfl ?_; refine gl_f ((s_neq rfl rfl).eq (v' := .bool false) (by rw [← hq4]; rfl)) rfl rfl rfl ?_))
    refine gl_f (by first | exact s_pick_t rfl rfl | exact s_pick_f rfl rfl) rfl rfl rfl ?_
    refine gl_nil ?_
    repeat (first | refine g_seq ?_ | refine at_code ?_ | refine g_skip ?_ | refine g_block ?_ | refine g_exit rfl ?_ | refine g_cond_t rfl ?_ | refine g_cond_f rfl ?_)
    repeat (first | refine g_seq ?_ | refine at_code ?_ | refine g_skip ?_ | refine g_block ?_ | refine g_exit rfl ?_ | refine g_cond_t rfl ?_ | refine g_cond_f rfl ?_)
    refine g_region ?_
    refine gl_f (s_assign rfl) rfl rfl rfl ?_
    refine gl_nil ?_
    repeat (first | refine g_seq ?_ | refine at_code ?_ | refine g_skip ?_ | refine g_block ?_ | refine g_exit rfl ?_ | refine g_cond_t rfl ?_ | refine g_cond_f rfl ?_)
    refine g_ret ?_
    exact at_end1 rfl rfl [] ⟨by simp, rfl⟩ (fun _ h => h.dropAll)
  · repeat (first | refine g_seq ?_ | refine at_code ?_ | refine g_skip ?_ | refine g_block ?_ | refine g_exit rfl ?_ | refine g_cond_t rfl ?_ | refine g_cond_f rfl ?_)
    refine g_region ?_
    refine gl_f (s_move rfl) rfl rfl rfl ?_
    refine gl_f (s_move rfl) rfl rfl rfl ?_
    refine gl_f (s_nilCheck rfl) rfl rfl rfl ?_
    refine gl_f (by first | exact s_fieldAddr rfl (by rfl) (by infer_instance) (by decide) | exact s_fieldAddr_o rfl (by assumption) (by rfl) (by infer_instance) (by decide)) rfl rfl rfl ?_
    refine gl_f (by first | exact s_fieldAddr rfl (by rfl) (by infer_instance) (by decide) | exact s_fieldAddr_o rfl (by assumption) (by rfl) (by infer_instance) (by decide)) rfl rfl rfl ?_
    refine gl_r (by first | exact s_load_blk rfl (by repeat first|exact .del|apply Upd.there) a19_10 | exact s_load1 rfl (fun w hw => peekB hw (by assumption) a19_10)) rfl rfl rfl ?_
    refine gl_f ((s_gtr rfl rfl).eq (congrArg Value.bool hq3.symm)) rfl rfl rfl ?_
    refine gl_f (s_move rfl) rfl rfl rfl ?_
    (first | refine gl_guard_no rfl rfl rfl rfl rfl rfl rfl ?_ | refine gl_guard_un rfl rfl rfl rfl rfl rfl ?_ | (refine gl_guard_yes rfl rfl rfl ?_; refine gl_f (s_move rfl) rfl rfl rfl ?_))
    (first | refine gl_guard_no rfl rfl rfl rfl rfl rfl rfl ?_ | refine gl_guard_un rfl rfl rfl rfl rfl rfl ?_ | (refine gl_guard_yes rfl rfl rfl ?_; refine gl_f (s_move rfl) rfl rfl rfl ?_))
    (first | refine gl_guard_no rfl rfl rfl rfl rfl rfl rfl ?_ | refine gl_guard_un rfl rfl rfl rfl rfl rfl ?_ | (refine gl_guard_yes rfl rfl rfl ?_; refine gl_f (s_nilCheck rfl) rfl rfl rfl ?_))
    (first | refine gl_guard_no rfl rfl rfl rfl rfl rfl rfl ?_ | refine gl_guard_un rfl rfl rfl rfl rfl rfl ?_ | (refine gl_guard_yes rfl rfl rfl ?_; refine gl_f (by first | exact s_fieldAddr rfl (by rfl) (by infer_instance) (by decide) | exact s_fieldAddr_o rfl (by assumption) (by rfl) (by infer_instance) (by decide)) rfl rfl rfl ?_))
    (first | refine gl_guard_no rfl rfl rfl rfl rfl rfl rfl ?_ | refine gl_guard_un rfl rfl rfl rfl rfl rfl ?_ | (refine gl_guard_yes rfl rfl rfl ?_; refine gl_f (by first | exact s_fieldAddr rfl (by rfl) (by infer_instance) (by decide) | exact s_fieldAddr_o rfl (by assumption) (by rfl) (by infer_instance) (by decide)) rfl rfl rfl ?_))
    (first | refine gl_guard_no rfl rfl rfl rfl rfl rfl rfl ?_ | refine gl_guard_un rfl rfl rfl rfl rfl rfl ?_ | (refine gl_guard_yes rfl rfl rfl ?_; refine gl_r (by first | exact s_load_blk rfl (by repeat first|exact .del|apply Upd.there) a19_1 | exact s_load1 rfl (fun w hw => peekB hw (by assumption) a19_1)) rfl rfl rfl ?_))
    (first | refine gl_guard_no rfl rfl rfl rfl rfl rfl rfl ?_ | refine gl_guard_un rfl rfl rfl rfl rfl rfl ?_ | (refine gl_guard_yes rfl rfl rfl ?_; refine gl_f (s_neq rfl rfl) rfl rfl rfl ?_))
    refine gl_f (by first | exact s_pick_t rfl rfl | exact s_pick_f rfl rfl) rfl rfl rfl ?_
    refine gl_nil ?_
    repeat (first | refine g_seq ?_ | refine at_code ?_ | refine g_skip ?_ | refine g_block ?_ | refine g_exit rfl ?_ | refine g_cond_t rfl ?_ | refine g_cond_f rfl ?_)
    repeat (first | refine g_seq ?_ | refine at_code ?_ | refine g_skip ?_ | refine g_block ?_ | refine g_exit rfl ?_ | refine g_cond_t rfl ?_ | refine g_cond_f rfl ?_)
    refine g_region ?_
    refine gl_f (s_assign rfl) rfl rfl rfl ?_
    refine gl_nil ?_
    repeat (first | refine g_seq ?_ | refine at_code ?_ | refine g_skip ?_ | refine g_block ?_ | refine g_exit rfl ?_ | refine g_cond_t rfl ?_ | refine g_cond_f rfl ?_)
    refine g_ret ?_
    exact at_end1 rfl rfl [] ⟨by simp, rfl⟩ (fun _ h => h.dropAll)
  · repeat (first | refine g_seq ?_ | refine at_code ?_ | refine g_skip ?_ | refine g_block ?_ | refine g_exit rfl ?_ | refine g_cond_t rfl ?_ | refine g_cond_f rfl ?_)
    refine g_region ?_
    refine gl_f (s_move rfl) rfl rfl rfl ?_
    refine gl_f (s_move rfl) rfl rfl rfl ?_
    refine gl_f (s_nilCheck rfl) rfl rfl rfl ?_
    refine gl_f (by first | exact s_fieldAddr rfl (by rfl) (by infer_instance) (by decide) | exact s_fieldAddr_o rfl (by assumption) (by rfl) (by infer_instance) (by decide)) rfl rfl rfl ?_
    refine gl_f (by first | exact s_fieldAddr rfl (by rfl) (by infer_instance) (by decide) | exact s_fieldAddr_o rfl (by assumption) (by rfl) (by infer_instance) (by decide)) rfl rfl rfl ?_
    refine gl_r (by first | exact s_load_blk rfl (by repeat first|exact .del|apply Upd.there) a19_10 | exact s_load1 rfl (fun w hw => peekB hw (by assumption) a19_10)) rfl rfl rfl ?_
    refine gl_f ((s_gtr rfl rfl).eq (congrArg Value.bool hq3.symm)) rfl rfl rfl ?_
    refine gl_f (s_move rfl) rfl rfl rfl ?_
    (first | refine gl_guard_no rfl rfl rfl rfl rfl rfl rfl ?_ | refine gl_guard_un rfl rfl rfl rfl rfl rfl ?_ | (refine gl_guard_yes rfl rfl rfl ?_; refine gl_f (s_move rfl) rfl rfl rfl ?_))
    (first | refine gl_guard_no rfl rfl rfl rfl rfl rfl rfl ?_ | refine gl_guard_un rfl rfl rfl rfl rfl rfl ?_ | (refine gl_guard_yes rfl rfl rfl ?_; refine gl_f (s_move rfl) rfl rfl rfl ?_))
    (first | refine gl_guard_no rfl rfl rfl rfl rfl rfl rfl ?_ | refine gl_guard_un rfl rfl rfl rfl rfl rfl ?_ | (refine gl_guard_yes rfl rfl rfl ?_; refine gl_f (s_nilCheck rfl) rfl rfl rfl ?_))
    (first | refine gl_guard_no rfl rfl rfl rfl rfl rfl rfl ?_ | refine gl_guard_un rfl rfl rfl rfl rfl rfl ?_ | (refine gl_guard_yes rfl rfl rfl ?_; refine gl_f (by first | exact s_fieldAddr rfl (by rfl) (by infer_instance) (by decide) | exact s_fieldAddr_o rfl (by assumption) (by rfl) (by infer_instance) (by decide)) rfl rfl rfl ?_))
    (first | refine gl_guard_no rfl rfl rfl rfl rfl rfl rfl ?_ | refine gl_guard_un rfl rfl rfl rfl rfl rfl ?_ | (refine gl_guard_yes rfl rfl rfl ?_; refine gl_f (by first | exact s_fieldAddr rfl (by rfl) (by infer_instance) (by decide) | exact s_fieldAddr_o rfl (by assumption) (by rfl) (by infer_instance) (by decide)) rfl rfl rfl ?_))
    (first | refine gl_guard_no rfl rfl rfl rfl rfl rfl rfl ?_ | refine gl_guard_un rfl rfl rfl rfl rfl rfl ?_ | (refine gl_guard_yes rfl rfl rfl ?_; refine gl_r (by first | exact s_load_blk rfl (by repeat first|exact .del|apply Upd.there) a19_1 | exact s_load1 rfl (fun w hw => peekB hw (by assumption) a19_1)) rfl rfl rfl ?_))
    (first | refine gl_guard_no rfl rfl rfl rfl rfl rfl rfl ?_ | refine gl_guard_un rfl rfl rfl rfl rfl rfl ?_ | (refine gl_guard_yes rfl rfl rfl ?_; refine gl_f ((s_neq rfl rfl).eq (v' := .bool true) (by rw [← hq4]; rfl)) rfl rfl rfl ?_))
    refine gl_f (by first | exact s_pick_t rfl rfl | exact s_pick_f rfl rfl) rfl rfl rfl ?_
    refine gl_nil ?_
    repeat (first | refine g_seq ?_ | refine at_code ?_ | refine g_skip ?_ | refine g_block ?_ | refine g_exit rfl ?_ | refine g_cond_t rfl ?_ | refine g_cond_f rfl ?_)
    repeat (first | refine g_seq ?_ | refine at_code ?_ | refine g_skip ?_ | refine g_block ?_ | refine g_exit rfl ?_ | refine g_cond_t rfl ?_ | refine g_cond_f rfl ?_)
    refine g_region ?_
    refine gl_f (s_assign rfl) rfl rfl rfl ?_
    refine gl_nil ?_
    repeat (first | refine g_seq ?_ | refine at_code ?_ | refine g_skip ?_ | refine g_block ?_ | refine g_exit rfl ?_ | refine g_cond_t rfl ?_ | refine g_cond_f rfl ?_)
    refine g_ret ?_
    exact at_end1 rfl rfl [] ⟨by simp, rfl⟩ (fun _ h => h.dropAll)
end Go.Proofs.Ytodcghipfolejaa.Rf
