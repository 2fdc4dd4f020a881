import Derived.Test.YtodcghipfolejaaGreatHx7
/- A mind's calls: stand, tick. -/
namespace Go.Proofs.YtodcghipfolejaaGreat.Rf
open Go Go.Sl
set_option linter.unusedVariables false
set_option linter.unusedSimpArgs false
-- ARR

theorem g_cutE {P : Program} {N : Nat} {c : Code} {K R : Kont} {E : List (Nat × Kont)} {L : Lcs} {F : Snap} {H : List As} {ι : Type} (L' : ι → Lcs) (H' : ι → List As) (h1 : G P N c (fun a w => ∃ i, Fits N (L' i) a ∧ Hp F w (H' i)) E R L F H) (h2 : ∀ i, At N K (L' i) F (H' i)) : G P N c K E R L F H := by
  unfold G at h1 ⊢
  unfold At at h2
  intro a w hf hw
  exact Code.wp_mono (fun e a w q => by
    cases e with
    | normal => obtain ⟨i, h3, h4⟩ := q; exact h2 i a w h3 h4
    | _ => exact q) (h1 a w hf hw)
theorem pf_stand1 {p : RP} (h : PFit p) (ht : p.term < 4611686018427387904) : PFit (stand1 p) := ⟨h.base, h.len, h.cl, h.dat, h.img, (by show [p.id].length ≤ _; simp), Nat.zero_le _, fun q hq => (by cases hq), ⟨Int.le_refl _, (by show (0 : Int) ≤ _; omega)⟩, (by have := h.term; show 0 ≤ p.term + 1 ∧ p.term + 1 ≤ _; omega), h.commit⟩
def voteK (p : RP) (k : Nat) : List MP := (((confL p).take k).filter fun n => decide (n ≠ p.id)).map (voteM (stand1 p))
theorem voteK_all (p : RP) : voteK p (confL p).length = ((confL p).filter fun n => decide (n ≠ p.id)).map (voteM (stand1 p)) := by rw [voteK, List.take_length]
theorem voteK_succ {p : RP} {k : Nat} (hk : k < (confL p).length) : voteK p (k + 1) = voteK p k ++ (if (confL p).getD k 0 = p.id then [] else [voteM (stand1 p) ((confL p).getD k 0)]) := by
  rw [voteK, voteK, takeI hk, List.filter_append, List.map_append]
  congr 1
  by_cases h : (confL p).getD k 0 = p.id
  · rw [if_pos h]; simp only [List.filter_cons, List.filter_nil]; rw [if_neg (by simp only [ne_eq, decide_not]; rw [decide_eq_true h]; decide)]; rfl
  · rw [if_neg h]; simp only [List.filter_cons, List.filter_nil]; rw [if_pos (by simpa using h)]; rfl
structure VI (p : RP) (k : Nat) (ms : List MM) : Prop where
  le : k ≤ (confL p).length
  me : ms.map MM.p = voteK p k
  len : ms.length ≤ k
  ok : ∀ h, ∀ m ∈ ms, MOk h m
set_option maxRecDepth 8000 in
set_option maxHeartbeats 4000000 in
theorem stand_ct (X : Nat) (d : MD) (hf : PFit d.p) (ht : d.p.term < 4611686018427387904) (hl : d.p.l.length ≤ 99999) (ho : d.outs.length ≤ 1000000) : Ct Tryz.prog 55 [Ptr X] (fun _ => True) (mdH X d) (MdP X d (standP d.p) (standM d.p) (.tuple #[])) := by
  obtain ⟨p, a, outs, oa0, oc0⟩ := d
  simp only at hf ht hl ho
  have h0 := hf.term
  have hf1 := pf_stand1 hf ht
  have hcn : (confL p).length ≤ 1000000 := hf.cn (lastI p.g)
  refine ct_enter 94 Tryz.func55 rfl rfl rfl ?_
  intro F _
  refine g_ownN (a := a.la) z_3 (fun _ hcap _ => ?_)
  repeat refine y_ ?_
  refine g_region ?_
  refine m_ ?_
  refine f_ (s_nilCheck rfl) ?_
  refine f_ z_1 ?_
  refine f_ z_1 ?_
  refine r_ (by first | exact s_load_blk rfl z_3 a19_1 | exact s_load1 rfl (fun w hw => peekB hw (by assumption) a19_1)) ?_
  refine f_ ((s_add_u64 rfl rfl (by show 0 ≤ p.term + 1 ∧ p.term + 1 ≤ 18446744073709551615; omega)).eq (v' := .int .u64 (p.term + 1)) rfl) ?_
  refine f_ (s_nilCheck rfl) ?_
  refine f_ z_1 ?_
  refine f_ z_1 ?_
  (first | refine gl_store_blkC (pre := [_]) (post := [_, _, _, _, _, _, _, _, _, _, _, _, _, _, _, _, _]) rfl rfl z_6 z_10 z_10 z_10 ?_ | refine gl_store_blk rfl rfl z_6 z_10 z_2 z_10 ?_)
  refine gl_nil ?_
  repeat refine y_ ?_
  refine g_cutE (ι := Option Addr) (fun _ => [(0, Ptr X)]) (fun va => mdH X ⟨stand1 p, { a with va := va, vc := 1, pa := none, pc := 0 }, outs, oa0, oc0⟩) ?_ (fun va => ?_)
  · repeat refine y_ ?_
    refine g_draw ([10, 15], [0, 0, 0, 0, 0, 0, 0, 64, 192, 448, 960, 0, 2048, 6144, 14336, 30720, 63488, 65473, 196545, 458689, 982977, 2031555, 4128707, 8323011, 16711619, 33488839, 67043271, 134152135, 268369863, 536870863, 1073741775, 2147483599, 4294967247, 8589934559, 17179869151, 34359738335, 68719476703, 137438953471, 274877906943, 549755813887, 1099511627775], [16, 20, 24, 28, 32, 36, 40]) [.blk X (mdO ⟨{ p with term := p.term + 1 }, a, outs, oa0, oc0⟩)] 41 rfl ?_
    refine w_ 0 rfl (s_move rfl) ?_
    refine w_ 1 rfl (s_move rfl) ?_
    refine w_ 2 rfl (s_move rfl) ?_
    refine w_ 3 rfl (s_move rfl) ?_
    refine w_ 4 rfl (s_move rfl) ?_
    refine w_ 5 rfl (s_move rfl) ?_
    refine w_ 6 rfl (s_move rfl) ?_
    refine w_ 7 rfl (s_nilCheck rfl) ?_
    refine w_ 8 rfl z_1 ?_
    refine w_ 9 rfl z_1 ?_
    (first | refine ga_read_k 10 rfl z_5 (s_load_blk rfl .del a19_0) (by (first | exact fun _ h => h | (repeat first | exact sub_nil | refine sub_cons z_4 ?_))) rfl rfl rfl z_7 ?_ | refine ga_readF 10 rfl (s_load1 rfl (fun w hw => peekB hw (by assumption) a19_0)) (by (first | exact fun _ h => h | (repeat first | exact sub_nil | refine sub_cons z_4 ?_))) rfl rfl rfl z_7 ?_)
    refine w_ 11 rfl (s_move rfl) ?_
    refine w_ 12 rfl (s_nilCheck rfl) ?_
    refine w_ 13 rfl z_1 ?_
    refine w_ 14 rfl z_1 ?_
    (first | refine ga_read_k 15 rfl z_5 (s_load_blk rfl .del a19_0) (by (first | exact fun _ h => h | (repeat first | exact sub_nil | refine sub_cons z_4 ?_))) rfl rfl rfl z_7 ?_ | refine ga_readF 15 rfl (s_load1 rfl (fun w hw => peekB hw (by assumption) a19_0)) (by (first | exact fun _ h => h | (repeat first | exact sub_nil | refine sub_cons z_4 ?_))) rfl rfl rfl z_7 ?_)
    refine w_ 17 rfl (s_nilCheck rfl) ?_
    refine w_ 18 rfl z_1 ?_
    refine w_ 19 rfl z_1 ?_
    refine ga_two 16 20 rfl rfl z_7 ?_ ?_
    refine gl_buildSliceU rfl rfl rfl rfl rfl rfl (xs := intsV [p.id]) rfl rfl ?_; intro a32 ha32
    refine gl_nil ?_
    refine at_ga (.inr (by exact keeps_of (by (first | exact fun _ h => h | (repeat first | exact sub_nil | refine sub_cons z_4 ?_))))) ?_
    refine ga_one 20 rfl z_7 ?_
    (first | refine gl_store_blkC (pre := [_, _]) (post := [_, _, _, _, _, _, _, _, _, _, _, _, _, _, _, _]) rfl rfl z_6 z_10 z_10 z_10 ?_ | refine gl_store_blk rfl rfl z_6 z_10 z_2 z_10 ?_)
    refine gl_nil ?_
    refine at_ga (.inl z_7) ?_
    refine w_ 21 rfl (s_nilCheck rfl) ?_
    refine w_ 22 rfl z_1 ?_
    refine w_ 23 rfl z_1 ?_
    refine ga_one 24 rfl z_7 ?_
    (first | refine gl_store_blkC (pre := [_, _, _]) (post := [_, _, _, _, _, _, _, _, _, _, _, _, _, _, _]) rfl rfl z_6 z_10 z_10 z_10 ?_ | refine gl_store_blk rfl rfl z_6 z_10 z_2 z_10 ?_)
    refine gl_nil ?_
    refine at_ga (.inl z_7) ?_
    refine w_ 25 rfl (s_nilCheck rfl) ?_
    refine w_ 26 rfl z_1 ?_
    refine w_ 27 rfl z_1 ?_
    refine ga_one 28 rfl z_7 ?_
    (first | refine gl_store_blkC (pre := [_, _, _, _]) (post := [_, _, _, _, _, _, _, _, _, _, _, _, _, _]) rfl rfl z_6 z_10 z_10 z_10 ?_ | refine gl_store_blk rfl rfl z_6 z_10 z_2 z_10 ?_)
    refine gl_nil ?_
    refine at_ga (.inl z_7) ?_
    refine w_ 29 rfl (s_nilCheck rfl) ?_
    refine w_ 30 rfl z_1 ?_
    refine w_ 31 rfl z_1 ?_
    refine ga_one 32 rfl z_7 ?_
    (first | refine gl_store_blkC (pre := [_, _, _, _, _, _, _, _, _, _, _, _, _]) (post := [_, _, _, _, _]) rfl rfl z_6 z_10 z_10 z_10 ?_ | refine gl_store_blk rfl rfl z_6 z_10 z_2 z_10 ?_)
    refine gl_nil ?_
    refine at_ga (.inl z_7) ?_
    refine w_ 33 rfl (s_nilCheck rfl) ?_
    refine w_ 34 rfl z_1 ?_
    refine w_ 35 rfl z_1 ?_
    refine ga_one 36 rfl z_7 ?_
    (first | refine gl_store_blkC (pre := [_, _, _, _, _, _, _, _, _, _, _, _, _, _]) (post := [_, _, _, _]) rfl rfl z_6 z_10 z_10 z_10 ?_ | refine gl_store_blk rfl rfl z_6 z_10 z_2 z_10 ?_)
    refine gl_nil ?_
    refine at_ga (.inl z_7) ?_
    refine w_ 37 rfl (s_nilCheck rfl) ?_
    refine w_ 38 rfl z_1 ?_
    refine w_ 39 rfl z_1 ?_
    refine ga_one 40 rfl z_7 ?_
    (first | refine gl_store_blkC (pre := [_, _, _, _, _, _, _, _, _, _, _]) (post := [_, _, _, _, _, _, _]) rfl rfl z_6 z_10 z_10 z_10 ?_ | refine gl_store_blk rfl rfl z_6 z_10 z_2 z_10 ?_)
    refine gl_nil ?_
    refine at_ga (.inl z_7) ?_
    refine ga_done z_7 ?_
    rotate_left 1
    (first | refine gl_store_blkC (pre := [_, _]) (post := [_, _, _, _, _, _, _, _, _, _, _, _, _, _, _, _]) rfl rfl z_6 z_10 z_10 z_10 ?_ | refine gl_store_blk rfl rfl z_6 z_10 z_2 z_10 ?_)
    refine gl_nil ?_
    refine at_ga (.inl z_7) ?_
    refine w_ 21 rfl (s_nilCheck rfl) ?_
    refine w_ 22 rfl z_1 ?_
    refine w_ 23 rfl z_1 ?_
    refine ga_two 16 24 rfl rfl z_7 ?_ ?_
    refine gl_buildSliceU rfl rfl rfl rfl rfl rfl (xs := intsV [p.id]) rfl rfl ?_; intro a32 ha32
    refine gl_nil ?_
    refine at_ga (.inl z_7) ?_
    refine ga_one 24 rfl z_7 ?_
    (first | refine gl_store_blkC (pre := [_, _, _]) (post := [_, _, _, _, _, _, _, _, _, _, _, _, _, _, _]) rfl rfl z_6 z_10 z_10 z_10 ?_ | refine gl_store_blk rfl rfl z_6 z_10 z_2 z_10 ?_)
    refine gl_nil ?_
    refine at_ga (.inl z_7) ?_
    refine w_ 25 rfl (s_nilCheck rfl) ?_
    refine w_ 26 rfl z_1 ?_
    refine w_ 27 rfl z_1 ?_
    refine ga_one 28 rfl z_7 ?_
    (first | refine gl_store_blkC (pre := [_, _, _, _]) (post := [_, _, _, _, _, _, _, _, _, _, _, _, _, _]) rfl rfl z_6 z_10 z_10 z_10 ?_ | refine gl_store_blk rfl rfl z_6 z_10 z_2 z_10 ?_)
    refine gl_nil ?_
    refine at_ga (.inl z_7) ?_
    refine w_ 29 rfl (s_nilCheck rfl) ?_
    refine w_ 30 rfl z_1 ?_
    refine w_ 31 rfl z_1 ?_
    refine ga_one 32 rfl z_7 ?_
    (first | refine gl_store_blkC (pre := [_, _, _, _, _, _, _, _, _, _, _, _, _]) (post := [_, _, _, _, _]) rfl rfl z_6 z_10 z_10 z_10 ?_ | refine gl_store_blk rfl rfl z_6 z_10 z_2 z_10 ?_)
    refine gl_nil ?_
    refine at_ga (.inl z_7) ?_
    refine w_ 33 rfl (s_nilCheck rfl) ?_
    refine w_ 34 rfl z_1 ?_
    refine w_ 35 rfl z_1 ?_
    refine ga_one 36 rfl z_7 ?_
    (first | refine gl_store_blkC (pre := [_, _, _, _, _, _, _, _, _, _, _, _, _, _]) (post := [_, _, _, _]) rfl rfl z_6 z_10 z_10 z_10 ?_ | refine gl_store_blk rfl rfl z_6 z_10 z_2 z_10 ?_)
    refine gl_nil ?_
    refine at_ga (.inl z_7) ?_
    refine w_ 37 rfl (s_nilCheck rfl) ?_
    refine w_ 38 rfl z_1 ?_
    refine w_ 39 rfl z_1 ?_
    refine ga_one 40 rfl z_7 ?_
    (first | refine gl_store_blkC (pre := [_, _, _, _, _, _, _, _, _, _, _]) (post := [_, _, _, _, _, _, _]) rfl rfl z_6 z_10 z_10 z_10 ?_ | refine gl_store_blk rfl rfl z_6 z_10 z_2 z_10 ?_)
    refine gl_nil ?_
    refine at_ga (.inl z_7) ?_
    refine ga_done z_7 ?_
    rotate_left 1
    (first | refine gl_store_blkC (pre := [_, _, _]) (post := [_, _, _, _, _, _, _, _, _, _, _, _, _, _, _]) rfl rfl z_6 z_10 z_10 z_10 ?_ | refine gl_store_blk rfl rfl z_6 z_10 z_2 z_10 ?_)
    refine gl_nil ?_
    refine at_ga (.inl z_7) ?_
    refine w_ 25 rfl (s_nilCheck rfl) ?_
    refine w_ 26 rfl z_1 ?_
    refine w_ 27 rfl z_1 ?_
    refine ga_two 16 28 rfl rfl z_7 ?_ ?_
    refine gl_buildSliceU rfl rfl rfl rfl rfl rfl (xs := intsV [p.id]) rfl rfl ?_; intro a32 ha32
    refine gl_nil ?_
    refine at_ga (.inl z_7) ?_
    refine ga_one 28 rfl z_7 ?_
    (first | refine gl_store_blkC (pre := [_, _, _, _]) (post := [_, _, _, _, _, _, _, _, _, _, _, _, _, _]) rfl rfl z_6 z_10 z_10 z_10 ?_ | refine gl_store_blk rfl rfl z_6 z_10 z_2 z_10 ?_)
    refine gl_nil ?_
    refine at_ga (.inl z_7) ?_
    refine w_ 29 rfl (s_nilCheck rfl) ?_
    refine w_ 30 rfl z_1 ?_
    refine w_ 31 rfl z_1 ?_
    refine ga_one 32 rfl z_7 ?_
    (first | refine gl_store_blkC (pre := [_, _, _, _, _, _, _, _, _, _, _, _, _]) (post := [_, _, _, _, _]) rfl rfl z_6 z_10 z_10 z_10 ?_ | refine gl_store_blk rfl rfl z_6 z_10 z_2 z_10 ?_)
    refine gl_nil ?_
    refine at_ga (.inl z_7) ?_
    refine w_ 33 rfl (s_nilCheck rfl) ?_
    refine w_ 34 rfl z_1 ?_
    refine w_ 35 rfl z_1 ?_
    refine ga_one 36 rfl z_7 ?_
    (first | refine gl_store_blkC (pre := [_, _, _, _, _, _, _, _, _, _, _, _, _, _]) (post := [_, _, _, _]) rfl rfl z_6 z_10 z_10 z_10 ?_ | refine gl_store_blk rfl rfl z_6 z_10 z_2 z_10 ?_)
    refine gl_nil ?_
    refine at_ga (.inl z_7) ?_
    refine w_ 37 rfl (s_nilCheck rfl) ?_
    refine w_ 38 rfl z_1 ?_
    refine w_ 39 rfl z_1 ?_
    refine ga_one 40 rfl z_7 ?_
    (first | refine gl_store_blkC (pre := [_, _, _, _, _, _, _, _, _, _, _]) (post := [_, _, _, _, _, _, _]) rfl rfl z_6 z_10 z_10 z_10 ?_ | refine gl_store_blk rfl rfl z_6 z_10 z_2 z_10 ?_)
    refine gl_nil ?_
    refine at_ga (.inl z_7) ?_
    refine ga_done z_7 ?_
    rotate_left 1
    (first | refine gl_store_blkC (pre := [_, _, _, _]) (post := [_, _, _, _, _, _, _, _, _, _, _, _, _, _]) rfl rfl z_6 z_10 z_10 z_10 ?_ | refine gl_store_blk rfl rfl z_6 z_10 z_2 z_10 ?_)
    refine gl_nil ?_
    refine at_ga (.inl z_7) ?_
    refine ga_one 16 rfl z_7 ?_
    refine gl_buildSliceU rfl rfl rfl rfl rfl rfl (xs := intsV [p.id]) rfl rfl ?_; intro a32 ha32
    refine gl_nil ?_
    refine at_ga (.inl z_7) ?_
    refine w_ 29 rfl (s_nilCheck rfl) ?_
    refine w_ 30 rfl z_1 ?_
    refine w_ 31 rfl z_1 ?_
    refine ga_one 32 rfl z_7 ?_
    (first | refine gl_store_blkC (pre := [_, _, _, _, _, _, _, _, _, _, _, _, _]) (post := [_, _, _, _, _]) rfl rfl z_6 z_10 z_10 z_10 ?_ | refine gl_store_blk rfl rfl z_6 z_10 z_2 z_10 ?_)
    refine gl_nil ?_
    refine at_ga (.inl z_7) ?_
    refine w_ 33 rfl (s_nilCheck rfl) ?_
    refine w_ 34 rfl z_1 ?_
    refine w_ 35 rfl z_1 ?_
    refine ga_one 36 rfl z_7 ?_
    (first | refine gl_store_blkC (pre := [_, _, _, _, _, _, _, _, _, _, _, _, _, _]) (post := [_, _, _, _]) rfl rfl z_6 z_10 z_10 z_10 ?_ | refine gl_store_blk rfl rfl z_6 z_10 z_2 z_10 ?_)
    refine gl_nil ?_
    refine at_ga (.inl z_7) ?_
    refine w_ 37 rfl (s_nilCheck rfl) ?_
    refine w_ 38 rfl z_1 ?_
    refine w_ 39 rfl z_1 ?_
    refine ga_one 40 rfl z_7 ?_
    (first | refine gl_store_blkC (pre := [_, _, _, _, _, _, _, _, _, _, _]) (post := [_, _, _, _, _, _, _]) rfl rfl z_6 z_10 z_10 z_10 ?_ | refine gl_store_blk rfl rfl z_6 z_10 z_2 z_10 ?_)
    refine gl_nil ?_
    refine at_ga (.inl z_7) ?_
    refine ga_done z_7 ?_
    rotate_left 1
    all_goals (repeat refine y_ ?_)
    all_goals
      refine g_end_own 100 4 ?_
      exact at_cutE a32 (by (repeat (first | exact Sub.nil _ | refine Sub.cons rfl ?_))) (fun w hw => Hp.left (R := [OwnC a.va p.votes a.vc, OwnP a.pa p.peers a.pc]) (hw.perm (perm_up z_3 (perm_up z_3 (perm_up z_3 (perm_up z_3 (perm_up z_3 (perm_up z_3 (.refl _)))))))))
  have hcap1 : (stand1 p).l.length ≤ ({ a with va := va, vc := 1, pa := none, pc := 0 } : RA).lc := hcap
  generalize ha1 : ({ a with va := va, vc := 1, pa := none, pc := 0 } : RA) = a1 at hcap1 ⊢
  have hva : a1.va = va := by rw [← ha1]
  have hvc : a1.vc = 1 := by rw [← ha1]
  repeat refine y_ ?_
  refine g_region ?_
  refine m_ ?_
  refine f_ (s_nilCheck rfl) ?_
  refine f_ z_1 ?_
  refine r_ ((s_load_blkN rfl z_3 z_10).eq (v' := rsV (stand1 p) a1) rfl) ?_
  refine gl_call _ rfl (Members_ct (stand1 p) a1 hf1 hcap1) (fun w hw => hw) (fun h hh ⟨bs, hb⟩ => ⟨Sat.rd (a := a1.ca) hb z_3, Sat.rd (a := a1.la) hb z_3⟩) rfl ?_; rw [show confL (stand1 p) = confL p from rfl]; rintro v A ⟨ca, cc, rfl, rfl⟩
  refine f_ (s_assign rfl) ?_
  refine gl_nil ?_
  repeat refine y_ ?_
  obtain ⟨q, hq⟩ : ∃ q, q = wins (stand1 p) := ⟨_, rfl⟩
  refine g_ownN (a := ca) z_3 (fun _ _ hca => ?_)
  repeat refine y_ ?_
  refine g_region ?_
  refine m_ ?_
  refine m_ ?_
  refine f_ (s_nilCheck rfl) ?_
  refine f_ z_1 ?_
  refine f_ z_1 ?_
  refine r_ (by first | exact s_load_blk rfl z_3 a19_13 | exact s_load1 rfl (fun w hw => peekB hw (by assumption) a19_13)) ?_
  refine gl_callp rfl (Most_ct (confL p) [p.id] ca a1.va cc a1.vc (by omega) (by simp)) (fun h hh ⟨bs, hb⟩ => ⟨Sat.rd (a := ca) hb z_3, Sat.rd (a := a1.va) hb z_3⟩) rfl ?_; rw [show mostB (confL p) [p.id] = q from hq.symm]
  refine gl_nil ?_
  repeat refine y_ ?_
  cases q
  rotate_left
  · have e1 : standP p = leadP (stand1 p) := if_pos hq.symm
    have e2 : standM p = leadM (stand1 p) := if_pos hq.symm
    simp only [e1, e2]
    repeat refine y_ ?_
    refine g_region ?_
    refine m_ ?_
    refine gl_call [OwnC ca (confL p) cc] rfl (lead_ct X ⟨stand1 p, a1, outs, oa0, oc0⟩ hf1 hl ho) (fun w hw => hw.perm (perm_up z_3 (perm_up z_3 (perm_up z_3 (perm_up z_3 (perm_up z_3 (perm_up z_3 (.refl _)))))))) (fun _ _ _ => trivial) rfl ?_; rintro v A ⟨rfl, d2, Z2, e2, o2, rfl, f2⟩
    refine gl_nil ?_
    repeat refine y_ ?_
    refine g_ret ?_
    exact at_end0 rfl (mdH X d2 ++ Z2) ⟨rfl, d2, Z2, e2, o2, rfl, f2⟩ (fun w hw => Hp.left hw)
  have e1 : standP p = stand1 p := if_neg (by rw [← hq]; decide)
  have e2 : standM p = voteK p (confL p).length := by rw [voteK_all]; exact if_neg (by rw [← hq]; decide)
  simp only [e1, e2]
  repeat refine y_ ?_
  refine g_region ?_
  refine m_ ?_
  refine f_ (s_nilCheck rfl) ?_
  refine f_ z_1 ?_
  refine f_ z_1 ?_
  refine r_ ((s_load_blkN rfl z_3 z_10).eq (v' := ((stand1 p).lm a1).v) rfl) ?_
  refine gl_callp rfl (Last_ct ((stand1 p).lm a1) (hf1.fit a1 hcap1)) (fun h hh ⟨bs, hb⟩ => Sat.rd (a := a1.la) hb z_3) rfl ?_; rw [show lastI ((stand1 p).lm a1) = lastI p.g from rfl, show lastT ((stand1 p).lm a1) = lastT p.g from rfl]
  refine m_ ?_
  refine f_ (s_extract rfl rfl) ?_
  refine f_ (s_extract rfl rfl) ?_
  refine f_ (s_assign rfl) ?_
  refine f_ (s_assign rfl) ?_
  refine gl_nil ?_
  repeat refine y_ ?_
  refine g_region ?_
  refine m_ ?_
  refine f_ (s_len_sl rfl) ?_
  refine m_ ?_
  refine gl_nil ?_
  repeat refine y_ ?_
  refine g_loop (ι := Nat × List MM × Option Addr × Nat) (fun i => VI p i.1 i.2.1) (fun i => [(0, Ptr X), (3, .int .u64 (lastI p.g)), (4, .int .u64 (lastT p.g)), (74, .slice ca (confL p).length cc), (75, .int .i64 ((confL p).length : Nat)), (76, .int .i64 (i.1 : Nat))]) (fun i => OwnC ca (confL p) cc :: mdH X ⟨stand1 p, a1, outs ++ i.2.1, i.2.2.1, i.2.2.2⟩) (fun i => (confL p).length - i.1) (0, [], oa0, oc0) ⟨Nat.zero_le _, rfl, Nat.le_refl _, fun h m hm => by cases hm⟩ ?_ ?_ ?_
  · (repeat (first | exact Sub.nil _ | refine Sub.cons rfl ?_))
  · intro w hw
    simp only [List.append_nil]
    exact hw
  rintro ⟨k, ms, oa, oc⟩ hI
  obtain ⟨hk, hms, hln, hok⟩ := hI
  simp only at hk hms hln hok
  repeat refine y_ ?_
  refine g_region ?_
  refine f_ (s_lss rfl rfl) ?_
  refine gl_nil ?_
  repeat refine y_ ?_
  refine g_cond rfl (fun h => ?_) (fun h => ?_)
  rotate_left
  · have hkl : k = (confL p).length := by simp at h; omega
    rw [hkl] at hms
    repeat refine y_ ?_
    exact at_end0 rfl (mdH X ⟨stand1 p, a1, outs ++ ms, oa, oc⟩ ++ []) ⟨rfl, ⟨stand1 p, a1, outs ++ ms, oa, oc⟩, [], rfl, by rw [List.map_append, hms], rfl, fun h f _ m hm => by
      rcases List.mem_append.1 hm with hm | hm
      · exact f m hm
      · exact hok h m hm⟩ (fun w hw => hw.drop)
  have hkl : k < (confL p).length := by simp at h; omega
  have hkk : ((k, ms, oa, oc) : Nat × List MM × Option Addr × Nat).1 < (confL p).length := hkl
  have hsome : ∃ ad, ca = some ad := hca (by omega)
  have hsu := voteK_succ hkl
  obtain ⟨n, hne⟩ : ∃ n, n = (confL p).getD k 0 := ⟨_, rfl⟩
  rw [← hne] at hsu
  obtain ⟨q, hq⟩ : ∃ q, q = decide (n = p.id) := ⟨_, rfl⟩
  repeat refine y_ ?_
  refine g_region ?_
  refine f_ (s_indexAddr rfl (by assumption) rfl (by omega)) ?_
  refine r_ (s_load1 (v := .int .i64 n) rfl (fun w hw => by rw [hne]; exact rdN_own (a := ca) hw z_3 (i := k) (by simp only; omega) hkl)) ?_
  refine f_ (s_assign rfl) ?_
  refine gl_nil ?_
  repeat refine y_ ?_
  refine g_region ?_
  refine m_ ?_
  refine m_ ?_
  refine f_ (s_nilCheck rfl) ?_
  refine f_ z_1 ?_
  refine f_ z_1 ?_
  refine r_ (by first | exact s_load_blk rfl z_3 a19_0 | exact s_load1 rfl (fun w hw => peekB hw (by assumption) a19_0)) ?_
  refine f_ ((s_neq rfl rfl).eq (v' := .bool (!q)) (by rw [hq]; rfl)) ?_
  refine gl_nil ?_
  repeat refine y_ ?_
  cases q
  rotate_left
  · rw [if_pos (of_decide_eq_true hq.symm), List.append_nil] at hsu
    repeat refine y_ ?_
    refine g_region ?_
    refine f_ (s_add_i64 rfl rfl (by omega)) ?_
    refine m_ ?_
    refine gl_nil ?_
    repeat refine y_ ?_
    refine at_next (k + 1, ms, oa, oc) ⟨by simp only; omega, by simp only; rw [hsu]; exact hms, by simp only; omega, hok⟩ (by simp only; omega) ?_ ?_
    · (repeat (first | exact Sub.nil _ | refine Sub.cons rfl ?_))
    · intro w hw; exact hw
  rw [if_neg (of_decide_eq_false hq.symm)] at hsu
  repeat refine y_ ?_
  refine g_region ?_
  refine m_ ?_
  refine m_ ?_
  refine m_ ?_
  refine m_ ?_
  refine f_ ((s_bld (cells := (mmC ⟨{ voteM (stand1 p) n with frm := 0, to := 0, term := 0 }, none, 0, none, 0⟩).toArray) rfl z_7).eq (v' := mmA ⟨{ voteM (stand1 p) n with frm := 0, to := 0, term := 0 }, none, 0, none, 0⟩) rfl) ?_
  refine gl_call [OwnC ca (confL p) cc] rfl (say_ct X ⟨stand1 p, a1, outs ++ ms, oa, oc⟩ n ⟨{ voteM (stand1 p) n with frm := 0, to := 0, term := 0 }, none, 0, none, 0⟩ (by simp only [List.length_append]; omega)) (fun w hw => hw.perm (perm_up z_3 (perm_up z_3 (perm_up z_3 (perm_up z_3 (perm_up z_3 (perm_up z_3 (.refl _)))))))) (fun _ _ _ => trivial) rfl ?_; rintro v A ⟨rfl, oa1, oc1, rfl⟩
  refine gl_nil ?_
  repeat refine y_ ?_
  refine g_region ?_
  refine f_ (s_add_i64 rfl rfl (by omega)) ?_
  refine m_ ?_
  refine gl_nil ?_
  repeat refine y_ ?_
  refine at_next (k + 1, ms ++ [⟨voteM (stand1 p) n, none, 0, none, 0⟩], oa1, oc1) ⟨by simp only; omega, by simp only; rw [hsu, List.map_append, hms]; rfl, by simp only [List.length_append, List.length_singleton]; omega, fun h m hm => ?_⟩ (by simp only; omega) ?_ ?_
  · rcases List.mem_append.1 hm with hm | hm
    · exact hok h m hm
    · rw [List.mem_singleton.1 hm]; exact ⟨RdS.nil _ _, RdS.nil _ _, Nat.le_refl _⟩
  · (repeat (first | exact Sub.nil _ | refine Sub.cons rfl ?_))
  · intro w hw
    simp only
    rw [← List.append_assoc]
    exact hw.perm (perm_up z_3 (.refl _))
end Go.Proofs.YtodcghipfolejaaGreat.Rf
/- A mind's calls: tick; New. -/
namespace Go.Proofs.YtodcghipfolejaaGreat.Rf
open Go Go.Sl
set_option linter.unusedVariables false
set_option linter.unusedSimpArgs false
-- ARR

theorem pf_tick1 {p : RP} (h : PFit p) (ht : p.ticks < 4611686018427387904) : PFit (tick1 p) := ⟨h.base, h.len, h.cl, h.dat, h.img, h.votes, h.peers, h.prs, (by have := h.ticks; show 0 ≤ p.ticks + 1 ∧ p.ticks + 1 ≤ _; omega), h.term, h.commit⟩
set_option maxRecDepth 8000 in
set_option maxHeartbeats 2000000 in
theorem tick_ct (X : Nat) (d : MD) (cs : Array Value) (hf : PFit d.p) (ht : d.p.ticks < 4611686018427387904) (hl : d.p.l.length ≤ 99999) (ho : d.outs.length ≤ 1000000) : Ct Tryz.prog 35 [Ptr X, .agg cs] (fun _ => True) (mdH X d) (MdP X d (tickP d.p) (tickM d.p) (.int .i64 0)) := by
  obtain ⟨p, a, outs, oa0, oc0⟩ := d
  simp only at hf ht hl ho
  have h0 := hf.ticks
  have hf1 := pf_tick1 hf ht
  refine ct_enter 47 Tryz.func35 rfl rfl rfl ?_
  intro F _
  refine g_ownN (a := a.la) z_3 (fun _ hcap _ => ?_)
  obtain ⟨q, hq⟩ : ∃ q, q = decide (p.role = 2) := ⟨_, rfl⟩
  repeat refine y_ ?_
  refine g_region ?_
  refine gl_boxA rfl rfl ?_; intro g3
  refine f_ (s_assign rfl) ?_
  refine gl_nil ?_
  repeat refine y_ ?_
  refine g_pull (H' := mdH X ⟨p, a, outs, oa0, oc0⟩) (fun w hw => hw.drop) ?_
  repeat refine y_ ?_
  refine g_region ?_
  refine m_ ?_
  refine f_ (s_nilCheck rfl) ?_
  refine f_ z_1 ?_
  refine f_ z_1 ?_
  refine r_ (by first | exact s_load_blk rfl z_3 a19_3 | exact s_load1 rfl (fun w hw => peekB hw (by assumption) a19_3)) ?_
  refine f_ ((s_eql rfl rfl).eq (congrArg Value.bool hq.symm)) ?_
  refine gl_nil ?_
  repeat refine y_ ?_
  cases q
  rotate_left
  · have hr := of_decide_eq_true hq.symm
    have e1 : tickP p = p := if_pos hr
    have e2 : tickM p = allP p := if_pos hr
    simp only [e1, e2]
    repeat refine y_ ?_
    refine g_region ?_
    refine m_ ?_
    refine gl_call [] rfl (all_ct X ⟨p, a, outs, oa0, oc0⟩ hf ho) (fun w hw => hw) (fun _ _ _ => trivial) rfl ?_; rintro v A ⟨rfl, ms, oa, oc, Z, e4, rfl, f4⟩; rw [List.append_nil]
    refine gl_nil ?_
    repeat refine y_ ?_
    refine g_region ?_
    refine f_ (s_assign rfl) ?_
    refine gl_nil ?_
    repeat refine y_ ?_
    refine g_ret ?_
    exact at_end1 rfl rfl (mdH X ⟨p, a, outs ++ ms, oa, oc⟩ ++ Z) ⟨rfl, ⟨p, a, outs ++ ms, oa, oc⟩, Z, rfl, by rw [List.map_append, e4], rfl, fun h f hs m hm => by
      rcases List.mem_append.1 hm with hm | hm
      · exact f m hm
      · exact f4 h hs m hm⟩ (fun w hw => hw)
  have hr := of_decide_eq_false hq.symm
  repeat refine y_ ?_
  refine g_region ?_
  refine m_ ?_
  refine f_ (s_nilCheck rfl) ?_
  refine f_ z_1 ?_
  refine f_ z_1 ?_
  refine r_ (by first | exact s_load_blk rfl z_3 a19_11 | exact s_load1 rfl (fun w hw => peekB hw (by assumption) a19_11)) ?_
  refine f_ ((s_add_i64 rfl rfl (by show -9223372036854775808 ≤ p.ticks + 1 ∧ p.ticks + 1 ≤ 9223372036854775807; omega)).eq (v' := .int .i64 (p.ticks + 1)) rfl) ?_
  refine f_ (s_nilCheck rfl) ?_
  refine f_ z_1 ?_
  refine f_ z_1 ?_
  (first | refine gl_store_blkC (pre := [_, _, _, _, _, _, _, _, _, _, _]) (post := [_, _, _, _, _, _, _]) rfl rfl z_6 z_10 z_10 z_10 ?_ | refine gl_store_blk rfl rfl z_6 z_10 z_2 z_10 ?_)
  refine gl_nil ?_
  repeat refine y_ ?_
  refine g_pull (H' := mdH X ⟨tick1 p, a, outs, oa0, oc0⟩) (fun w hw => hw) ?_
  have hcap1 : (tick1 p).l.length ≤ a.lc := hcap
  obtain ⟨q1, hq1⟩ : ∃ q, q = decide (p.tout ≤ p.ticks + 1) := ⟨_, rfl⟩
  obtain ⟨q2, hq2⟩ : ∃ q, q = decide (p.term < 4611686018427387904) := ⟨_, rfl⟩
  obtain ⟨q3, hq3⟩ : ∃ q, q = mayP (tick1 p) := ⟨_, rfl⟩
  have hst : stands (tick1 p) = (q1 && (q2 && q3)) := by rw [hq1, hq2, hq3]; rfl
  rcases (show (q1 = true ∧ q2 = true ∧ q3 = true) ∨ q1 = false ∨ (q1 = true ∧ q2 = false) ∨ (q1 = true ∧ q2 = true ∧ q3 = false) by cases q1 <;> cases q2 <;> cases q3 <;> simp) with ⟨rfl, rfl, rfl⟩ | rfl | ⟨rfl, rfl⟩ | ⟨rfl, rfl, rfl⟩
  · have e1 : tickP p = standP (tick1 p) := by rw [tickP, if_neg hr, hst, if_pos (by decide)]
    have e2 : tickM p = standM (tick1 p) := by rw [tickM, if_neg hr, hst, if_pos (by decide)]
    simp only [e1, e2]
    repeat refine y_ ?_
    refine g_draw ([4, 9, 16], [0, 1, 3, 7, 15, 0, 32, 96, 224, 480, 1023, 2047, 4095, 8191, 16383, 32767, 65535, 131071, 262143, 524287, 1048575, 2097151, 4194303], []) [.blk X (mdO ⟨tick1 p, a, outs, oa0, oc0⟩)] 23 rfl ?_
    refine w_ 0 rfl (s_move rfl) ?_
    refine w_ 1 rfl (s_nilCheck rfl) ?_
    refine w_ 2 rfl z_1 ?_
    refine w_ 3 rfl z_1 ?_
    (first | refine ga_read_k 4 rfl z_5 (s_load_blk rfl .del a19_11) (by (first | exact fun _ h => h | (repeat first | exact sub_nil | refine sub_cons z_4 ?_))) rfl rfl rfl z_7 ?_ | refine ga_readF 4 rfl (s_load1 rfl (fun w hw => peekB hw (by assumption) a19_11)) (by (first | exact fun _ h => h | (repeat first | exact sub_nil | refine sub_cons z_4 ?_))) rfl rfl rfl z_7 ?_)
    refine w_ 5 rfl (s_move rfl) ?_
    refine w_ 6 rfl (s_nilCheck rfl) ?_
    refine w_ 7 rfl z_1 ?_
    refine w_ 8 rfl z_1 ?_
    (first | refine ga_read_k 9 rfl z_5 (s_load_blk rfl .del a19_12) (by (first | exact fun _ h => h | (repeat first | exact sub_nil | refine sub_cons z_4 ?_))) rfl rfl rfl z_7 ?_ | refine ga_readF 9 rfl (s_load1 rfl (fun w hw => peekB hw (by assumption) a19_12)) (by (first | exact fun _ h => h | (repeat first | exact sub_nil | refine sub_cons z_4 ?_))) rfl rfl rfl z_7 ?_)
    refine w_ 10 rfl ((s_geq rfl rfl).eq (congrArg Value.bool hq1.symm)) ?_
    refine w_ 11 rfl (s_move rfl) ?_
    (first | refine s_ 12 ?_ | refine t_ 12 ?_ | refine ga_free_g 12 rfl (s_move rfl) rfl rfl rfl rfl rfl rfl z_7 ?_)
    (first | refine s_ 13 ?_ | refine t_ 13 ?_ | refine ga_free_g 13 rfl (s_nilCheck rfl) rfl rfl rfl rfl rfl rfl z_7 ?_)
    (first | refine s_ 14 ?_ | refine t_ 14 ?_ | refine ga_free_g 14 rfl z_1 rfl rfl rfl rfl rfl rfl z_7 ?_)
    (first | refine s_ 15 ?_ | refine t_ 15 ?_ | refine ga_free_g 15 rfl z_1 rfl rfl rfl rfl rfl rfl z_7 ?_)
    (first | refine s_ 16 ?_ | refine t_ 16 ?_ | refine ga_read_kg 16 rfl z_5 (s_load_blk rfl .del a19_1) (by (first | exact fun _ h => h | (repeat first | exact sub_nil | refine sub_cons z_4 ?_))) rfl rfl rfl rfl rfl rfl z_7 ?_ | refine ga_readF_g 16 rfl (s_load1 rfl (fun w hw => peekB hw (by assumption) a19_1)) (by (first | exact fun _ h => h | (repeat first | exact sub_nil | refine sub_cons z_4 ?_))) rfl rfl rfl rfl rfl rfl z_7 ?_)
    (first | refine s_ 17 ?_ | refine t_ 17 ?_ | refine ga_free_g 17 rfl ((s_lss rfl rfl).eq (congrArg Value.bool hq2.symm)) rfl rfl rfl rfl rfl rfl z_7 ?_)
    refine w_ 18 rfl z_8 ?_
    refine w_ 19 rfl (s_move rfl) ?_
    (first | refine s_ 20 ?_ | refine t_ 20 ?_ | refine ga_free_g 20 rfl (s_move rfl) rfl rfl rfl rfl rfl rfl z_7 ?_)
    refine ga_one 21 rfl z_7 ?_
    (first|refine u_ ?_|(refine v_ ?_; refine gl_call _ rfl (may_ct X ⟨tick1 p, a, outs, oa0, oc0⟩ hf1 hcap1) (fun w hw => hw) (fun h hh ⟨bs, hb⟩ => ⟨Sat.blk hb z_3, Sat.rd (a := a.ca) hb z_3, Sat.rd (a := a.la) hb z_3⟩) rfl ?_; rw [← hq3]; rintro v A ⟨rfl, rfl⟩))
    refine gl_nil ?_
    refine at_ga (.inl z_7) ?_
    refine w_ 22 rfl z_8 ?_
    refine ga_done z_7 ?_
    repeat refine y_ ?_
    refine g_region ?_
    refine m_ ?_
    refine gl_call [] rfl (stand_ct X ⟨tick1 p, a, outs, oa0, oc0⟩ hf1 (of_decide_eq_true hq2.symm) hl ho) (fun w hw => hw) (fun _ _ _ => trivial) rfl ?_; rintro v A ⟨rfl, d2, Z2, e3, o2, rfl, f2⟩; rw [List.append_nil]
    refine gl_nil ?_
    repeat refine y_ ?_
    refine g_region ?_
    refine f_ (s_assign rfl) ?_
    refine gl_nil ?_
    repeat refine y_ ?_
    refine g_ret ?_
    exact at_end1 rfl rfl (mdH X d2 ++ Z2) ⟨rfl, d2, Z2, e3, o2, rfl, f2⟩ (fun w hw => hw)
  all_goals
    have e1 : tickP p = tick1 p := by rw [tickP, if_neg hr, hst, if_neg (by simp)]
    have e2 : tickM p = [] := by rw [tickM, if_neg hr, hst, if_neg (by simp)]
    simp only [e1, e2]
    repeat refine y_ ?_
    refine g_draw ([4, 9, 16], [0, 1, 3, 7, 15, 0, 32, 96, 224, 480, 1023, 2047, 4095, 8191, 16383, 32767, 65535, 131071, 262143, 524287, 1048575, 2097151, 4194303], []) [.blk X (mdO ⟨tick1 p, a, outs, oa0, oc0⟩)] 23 rfl ?_
    refine w_ 0 rfl (s_move rfl) ?_
    refine w_ 1 rfl (s_nilCheck rfl) ?_
    refine w_ 2 rfl z_1 ?_
    refine w_ 3 rfl z_1 ?_
    (first | refine ga_read_k 4 rfl z_5 (s_load_blk rfl .del a19_11) (by (first | exact fun _ h => h | (repeat first | exact sub_nil | refine sub_cons z_4 ?_))) rfl rfl rfl z_7 ?_ | refine ga_readF 4 rfl (s_load1 rfl (fun w hw => peekB hw (by assumption) a19_11)) (by (first | exact fun _ h => h | (repeat first | exact sub_nil | refine sub_cons z_4 ?_))) rfl rfl rfl z_7 ?_)
    refine w_ 5 rfl (s_move rfl) ?_
    refine w_ 6 rfl (s_nilCheck rfl) ?_
    refine w_ 7 rfl z_1 ?_
    refine w_ 8 rfl z_1 ?_
    (first | refine ga_read_k 9 rfl z_5 (s_load_blk rfl .del a19_12) (by (first | exact fun _ h => h | (repeat first | exact sub_nil | refine sub_cons z_4 ?_))) rfl rfl rfl z_7 ?_ | refine ga_readF 9 rfl (s_load1 rfl (fun w hw => peekB hw (by assumption) a19_12)) (by (first | exact fun _ h => h | (repeat first | exact sub_nil | refine sub_cons z_4 ?_))) rfl rfl rfl z_7 ?_)
    refine w_ 10 rfl ((s_geq rfl rfl).eq (congrArg Value.bool hq1.symm)) ?_
    refine w_ 11 rfl (s_move rfl) ?_
    (first | refine s_ 12 ?_ | refine t_ 12 ?_ | refine ga_free_g 12 rfl (s_move rfl) rfl rfl rfl rfl rfl rfl z_7 ?_)
    (first | refine s_ 13 ?_ | refine t_ 13 ?_ | refine ga_free_g 13 rfl (s_nilCheck rfl) rfl rfl rfl rfl rfl rfl z_7 ?_)
    (first | refine s_ 14 ?_ | refine t_ 14 ?_ | refine ga_free_g 14 rfl z_1 rfl rfl rfl rfl rfl rfl z_7 ?_)
    (first | refine s_ 15 ?_ | refine t_ 15 ?_ | refine ga_free_g 15 rfl z_1 rfl rfl rfl rfl rfl rfl z_7 ?_)
    (first | refine s_ 16 ?_ | refine t_ 16 ?_ | refine ga_read_kg 16 rfl z_5 (s_load_blk rfl .del a19_1) (by (first | exact fun _ h => h | (repeat first | exact sub_nil | refine sub_cons z_4 ?_))) rfl rfl rfl rfl rfl rfl z_7 ?_ | refine ga_readF_g 16 rfl (s_load1 rfl (fun w hw => peekB hw (by assumption) a19_1)) (by (first | exact fun _ h => h | (repeat first | exact sub_nil | refine sub_cons z_4 ?_))) rfl rfl rfl rfl rfl rfl z_7 ?_)
    (first | refine s_ 17 ?_ | refine t_ 17 ?_ | refine ga_free_g 17 rfl ((s_lss rfl rfl).eq (congrArg Value.bool hq2.symm)) rfl rfl rfl rfl rfl rfl z_7 ?_)
    refine w_ 18 rfl z_8 ?_
    refine w_ 19 rfl (s_move rfl) ?_
    (first | refine s_ 20 ?_ | refine t_ 20 ?_ | refine ga_free_g 20 rfl (s_move rfl) rfl rfl rfl rfl rfl rfl z_7 ?_)
    refine ga_one 21 rfl z_7 ?_
    (first|refine u_ ?_|(refine v_ ?_; refine gl_call _ rfl (may_ct X ⟨tick1 p, a, outs, oa0, oc0⟩ hf1 hcap1) (fun w hw => hw) (fun h hh ⟨bs, hb⟩ => ⟨Sat.blk hb z_3, Sat.rd (a := a.ca) hb z_3, Sat.rd (a := a.la) hb z_3⟩) rfl ?_; rw [← hq3]; rintro v A ⟨rfl, rfl⟩))
    refine gl_nil ?_
    refine at_ga (.inl z_7) ?_
    refine w_ 22 rfl z_8 ?_
    refine ga_done z_7 ?_
    repeat refine y_ ?_
    refine g_region ?_
    refine f_ (s_assign rfl) ?_
    refine gl_nil ?_
    repeat refine y_ ?_
    refine g_ret ?_
    exact at_end1 rfl rfl (mdH X ⟨tick1 p, a, outs, oa0, oc0⟩ ++ []) (MdP.same X ⟨p, a, outs, oa0, oc0⟩ ⟨tick1 p, a, outs, oa0, oc0⟩ _ rfl) (fun w hw => hw)
/-! ## New -/
structure Hd where
  term : Int
  vote : Int
  c : Int
def newP (id : Int) (h : Hd) (g : LM) (img : Bs) (tout : Int) : RP := ⟨id, h.term, h.vote, 0, 0, g.base, g.bt, g.conf, g.l, img, g.base, 0, tout, [], [], [], 0, 0⟩
def rp0 : RP := ⟨0, 0, 0, 0, 0, 0, 0, [], [], [], 0, 0, 0, [], [], [], 0, 0⟩
def badNew (id tout : Int) : Bool := decide (id < 1) || (decide (5 < id) || (decide (tout < 1) || decide (1000 < tout)))
def NewP (id : Int) (h : Hd) (g : LM) (img : Bs) (tout : Int) (v : Value) (A : List As) : Prop :=
  (badNew id tout = true ∧ v = .tuple #[rsV rp0 RA0, .int .i64 1] ∧ A = []) ∨ (badNew id tout = false ∧ ∃ a, v = .tuple #[rsV (newP id h g img tout) a, .int .i64 0] ∧ A = OwnS (newP id h g img tout) a)
set_option maxRecDepth 8000 in
set_option maxHeartbeats 2000000 in
theorem New_ct (id : Int) (h : Hd) (g : LM) (img : Bs) (tout : Int) (hc : g.conf.length ≤ 1000000) (hl : g.l.length ≤ 1000000) : Ct Tryz.prog 24 [.int .i64 id, .agg #[.int .u64 h.term, .int .i64 h.vote, .int .u64 h.c], g.v, B img, .int .i64 tout] g.ok [] (NewP id h g img tout) := by
  refine ct_enter 41 Tryz.func24 rfl rfl rfl ?_
  intro F hg
  obtain ⟨q1, hq1⟩ : ∃ q, q = decide (id < 1) := ⟨_, rfl⟩
  obtain ⟨q2, hq2⟩ : ∃ q, q = decide (5 < id) := ⟨_, rfl⟩
  obtain ⟨q3, hq3⟩ : ∃ q, q = decide (tout < 1) := ⟨_, rfl⟩
  obtain ⟨q4, hq4⟩ : ∃ q, q = decide (1000 < tout) := ⟨_, rfl⟩
  have hb : badNew id tout = (q1 || (q2 || (q3 || q4))) := by rw [hq1, hq2, hq3, hq4]; rfl
  rcases (show (q1 = false ∧ q2 = false ∧ q3 = false ∧ q4 = false) ∨ q1 = true ∨ (q1 = false ∧ q2 = true) ∨ (q1 = false ∧ q2 = false ∧ q3 = true) ∨ (q1 = false ∧ q2 = false ∧ q3 = false ∧ q4 = true) by cases q1 <;> cases q2 <;> cases q3 <;> cases q4 <;> simp) with ⟨rfl, rfl, rfl, rfl⟩ | rfl | ⟨rfl, rfl⟩ | ⟨rfl, rfl, rfl⟩ | ⟨rfl, rfl, rfl, rfl⟩
  · have hb0 : badNew id tout = false := by rw [hb]; rfl
    repeat refine y_ ?_
    refine g_region ?_
    refine gl_boxA rfl rfl ?_; intro g6
    refine gl_boxA rfl rfl ?_; intro g7
    refine gl_allocA rfl ?_; intro g10
    refine f_ (s_assign rfl) ?_
    refine gl_nil ?_
    repeat refine y_ ?_
    refine g_region ?_
    refine m_ ?_
    refine f_ ((s_lss rfl rfl).eq (congrArg Value.bool hq1.symm)) ?_
    refine m_ ?_
    (first|refine u_ ?_|(refine v_ ?_; refine m_ ?_))
    (first|refine u_ ?_|(refine v_ ?_; refine f_ ((s_gtr rfl rfl).eq (congrArg Value.bool hq2.symm)) ?_))
    refine f_ z_8 ?_
    refine m_ ?_
    (first|refine u_ ?_|(refine v_ ?_; refine m_ ?_))
    (first|refine u_ ?_|(refine v_ ?_; refine f_ ((s_lss rfl rfl).eq (congrArg Value.bool hq3.symm)) ?_))
    refine f_ z_8 ?_
    refine m_ ?_
    (first|refine u_ ?_|(refine v_ ?_; refine m_ ?_))
    (first|refine u_ ?_|(refine v_ ?_; refine f_ ((s_gtr rfl rfl).eq (congrArg Value.bool hq4.symm)) ?_))
    refine f_ z_8 ?_
    refine gl_nil ?_
    repeat refine y_ ?_
    refine g_region ?_
    refine m_ ?_
    refine f_ z_1 ?_
    refine r_ (by first | exact s_load_blk rfl z_3 a3_0 | exact s_load1 rfl (fun w hw => peekB hw (by assumption) a3_0)) ?_
    refine f_ z_1 ?_
    refine r_ (by first | exact s_load_blk rfl z_3 a3_1 | exact s_load1 rfl (fun w hw => peekB hw (by assumption) a3_1)) ?_
    refine r_ z_11 ?_
    refine m_ ?_
    refine f_ z_1 ?_
    refine r_ (by first | exact s_load_blk rfl z_3 a4_0 | exact s_load1 rfl (fun w hw => peekB hw (by assumption) a4_0)) ?_
    refine m_ ?_
    refine f_ ((s_bld (cells := (rsC (newP id h g img tout) ⟨g.ca, g.cc, g.la, g.lc, none, 0, none, 0⟩).toArray) rfl z_7).eq (v' := rsV (newP id h g img tout) ⟨g.ca, g.cc, g.la, g.lc, none, 0, none, 0⟩) rfl) ?_
    refine gl_allocA rfl ?_; intro g12
    (first | refine gl_store_blkW rfl rfl z_6 z_10 z_10 z_2 ?_ | refine gl_store_blk rfl rfl z_6 z_10 z_2 z_10 ?_)
    refine gl_nil ?_
    repeat refine y_ ?_
    refine g_region ?_
    refine r_ ((s_load_blkW rfl z_3 z_10).eq (v' := rsV (newP id h g img tout) ⟨g.ca, g.cc, g.la, g.lc, none, 0, none, 0⟩) rfl) ?_
    refine gl_call _ rfl (rclone_ct (newP id h g img tout) ⟨g.ca, g.cc, g.la, g.lc, none, 0, none, 0⟩ ⟨hc, hl, Nat.zero_le _, Nat.zero_le _⟩) (fun w hw => hw) (fun h hh _ => ⟨hg.1.le hh, hg.2.le hh, RdS.nil _ _, RdS.nil _ _⟩) rfl ?_; rintro v A ⟨a, rfl, rfl⟩
    (first | refine gl_store_blkW rfl rfl z_6 z_10 z_10 z_2 ?_ | refine gl_store_blk rfl rfl z_6 z_10 z_2 z_10 ?_)
    refine f_ (s_assign rfl) ?_
    refine gl_nil ?_
    repeat refine y_ ?_
    refine g_ret ?_
    exact at_endB1 rfl rfl rfl z_3 rfl (OwnS (newP id h g img tout) a) (.inr ⟨hb0, a, rfl, rfl⟩) (fun w hw => Hp.left (hw.perm (perm_up z_3 (perm_up z_3 (perm_up z_3 (perm_up z_3 (.refl _)))))))
  all_goals
    have hb1 : badNew id tout = true := by rw [hb]; rfl
    repeat refine y_ ?_
    refine g_region ?_
    refine gl_boxA rfl rfl ?_; intro g6
    refine gl_boxA rfl rfl ?_; intro g7
    refine gl_allocA rfl ?_; intro g10
    refine f_ (s_assign rfl) ?_
    refine gl_nil ?_
    repeat refine y_ ?_
    refine g_region ?_
    refine m_ ?_
    refine f_ ((s_lss rfl rfl).eq (congrArg Value.bool hq1.symm)) ?_
    refine m_ ?_
    (first|refine u_ ?_|(refine v_ ?_; refine m_ ?_))
    (first|refine u_ ?_|(refine v_ ?_; refine f_ ((s_gtr rfl rfl).eq (congrArg Value.bool hq2.symm)) ?_))
    refine f_ z_8 ?_
    refine m_ ?_
    (first|refine u_ ?_|(refine v_ ?_; refine m_ ?_))
    (first|refine u_ ?_|(refine v_ ?_; refine f_ ((s_lss rfl rfl).eq (congrArg Value.bool hq3.symm)) ?_))
    refine f_ z_8 ?_
    refine m_ ?_
    (first|refine u_ ?_|(refine v_ ?_; refine m_ ?_))
    (first|refine u_ ?_|(refine v_ ?_; refine f_ ((s_gtr rfl rfl).eq (congrArg Value.bool hq4.symm)) ?_))
    refine f_ z_8 ?_
    refine gl_nil ?_
    repeat refine y_ ?_
    refine g_region ?_
    refine f_ ((s_bld (cells := (rsC rp0 RA0).toArray) rfl z_7).eq (v' := rsV rp0 RA0) rfl) ?_
    (first | refine gl_store_blkW rfl rfl z_6 z_10 z_10 z_2 ?_ | refine gl_store_blk rfl rfl z_6 z_10 z_2 z_10 ?_)
    refine f_ (s_assign rfl) ?_
    refine gl_nil ?_
    repeat refine y_ ?_
    refine g_ret ?_
    exact at_endB1 rfl rfl rfl z_3 rfl [] (.inl ⟨hb1, rfl, rfl⟩) (fun w hw => hw.dropAll)
end Go.Proofs.YtodcghipfolejaaGreat.Rf
/- A mind's calls: changes, propose. -/
namespace Go.Proofs.YtodcghipfolejaaGreat.Rf
open Go Go.Sl
set_option linter.unusedVariables false
set_option linter.unusedSimpArgs false
-- ARR

/-- an event -/
structure EV where
  kind : Int
  m : MM
  et : Int
  ek : Int
  ed : Bs
  index : Int
  img : Bs
abbrev evC (e : EV) : List Value := [.int .i64 e.kind, .int .i64 e.m.p.kind, .int .i64 e.m.p.frm, .int .i64 e.m.p.to, .int .u64 e.m.p.term, .int .u64 e.m.p.index, .int .u64 e.m.p.lt, .int .u64 e.m.p.commit, .bool e.m.p.ok, .slice e.m.ea e.m.p.ents.length e.m.ec, .slice e.m.ka e.m.p.conf.length e.m.kc, .int .i64 e.m.p.off, .int .i64 e.m.p.size, B e.m.p.data, .int .u64 e.et, .int .i64 e.ek, B e.ed, .int .u64 e.index, B e.img]
abbrev evA (e : EV) : Value := .agg #[.int .i64 e.kind, .int .i64 e.m.p.kind, .int .i64 e.m.p.frm, .int .i64 e.m.p.to, .int .u64 e.m.p.term, .int .u64 e.m.p.index, .int .u64 e.m.p.lt, .int .u64 e.m.p.commit, .bool e.m.p.ok, .slice e.m.ea e.m.p.ents.length e.m.ec, .slice e.m.ka e.m.p.conf.length e.m.kc, .int .i64 e.m.p.off, .int .i64 e.m.p.size, B e.m.p.data, .int .u64 e.et, .int .i64 e.ek, B e.ed, .int .u64 e.index, B e.img]
def changesE (p : RP) (s : Bs) : Int := if readE s ≠ 0 ∨ stepS (confL p) (readL s) = false then 1 else if p.commit < confI p ∨ termV p.g p.commit ≠ p.term then 17 else 0
set_option maxRecDepth 8000 in
set_option maxHeartbeats 2000000 in
theorem changes_ct (X : Nat) (d : MD) (s : Bs) (hf : PFit d.p) (hc : d.p.l.length ≤ d.a.lc) (hs : s.length ≤ 9223372036854775807) : Ct Tryz.prog 62 [Ptr X, B s] (fun h => h X = some (mdO d) ∧ (d.p.lm d.a).ok h) [] (fun v A => v = .int .i64 (changesE d.p s) ∧ A = []) := by
  obtain ⟨p, a, outs, oa0, oc0⟩ := d
  simp only at hf hc
  have hcn := hf.cn (lastI p.g)
  have hca := hf.ca (lastI p.g)
  have hcm := hf.commit
  have hrl := read_le s
  obtain ⟨cl, hcl⟩ : ∃ l, l = confAt p.g (lastI p.g) := ⟨_, rfl⟩
  rw [← hcl] at hcn hca
  have hE : changesE p s = if readE s ≠ 0 ∨ stepS cl.1 (readL s) = false then 1 else if p.commit < cl.2 ∨ termV p.g p.commit ≠ p.term then 17 else 0 := by rw [hcl]; rfl
  simp only [hE]
  refine ct_enter 63 Tryz.func62 rfl rfl rfl ?_
  intro F hF
  have hX := hF.1
  have hg := hF.2
  obtain ⟨q1, hq1⟩ : ∃ q, q = decide (readE s = 0) := ⟨_, rfl⟩
  obtain ⟨q2, hq2⟩ : ∃ q, q = stepS cl.1 (readL s) := ⟨_, rfl⟩
  obtain ⟨q3, hq3⟩ : ∃ q, q = decide (p.commit < cl.2) := ⟨_, rfl⟩
  obtain ⟨q4, hq4⟩ : ∃ q, q = decide (termV p.g p.commit = p.term) := ⟨_, rfl⟩
  have hE2 : (if readE s ≠ 0 ∨ stepS cl.1 (readL s) = false then (1 : Int) else if p.commit < cl.2 ∨ termV p.g p.commit ≠ p.term then 17 else 0) = if (!q1 || !q2) = true then 1 else if (q3 || !q4) = true then 17 else 0 := by
    rw [← hq2, hq1, hq3, hq4]
    simp only [ne_eq, Bool.or_eq_true, Bool.not_eq_true', decide_eq_true_eq, decide_eq_false_iff_not]
  rw [hE2]
  repeat refine y_ ?_
  refine g_region ?_
  refine f_ (s_assign rfl) ?_
  refine gl_nil ?_
  repeat refine y_ ?_
  refine g_region ?_
  refine m_ ?_
  refine f_ (s_nilCheck rfl) ?_
  refine f_ z_1 ?_
  refine f_ z_1 ?_
  refine r_ ((s_loadN (n := 4) rfl (fun w hw => peekBS (o := 5) (n := 4) hw hX) z_10).eq (v' := (p.lm a).v) rfl) ?_
  refine gl_call _ rfl (Conf_ct (p.lm a) (hf.fit a hc) (hf.datL a)) (fun w hw => hw) (fun h hh _ => hg.le hh) rfl ?_; rw [show lastI (p.lm a) = lastI p.g from rfl, confAt_any, ← hcl]; rintro v A ⟨ca, cc, rfl, rfl⟩
  refine m_ ?_
  refine f_ (s_extract rfl rfl) ?_
  refine f_ (s_extract rfl rfl) ?_
  refine f_ (s_assign rfl) ?_
  refine f_ (s_assign rfl) ?_
  refine gl_nil ?_
  repeat refine y_ ?_
  refine g_region ?_
  refine m_ ?_
  refine gl_call _ rfl (Read_ct s hs) (fun w hw => hw) (fun _ _ _ => trivial) rfl ?_; rintro v A ⟨ta, tc, rfl, rfl⟩
  refine m_ ?_
  refine f_ (s_extract rfl rfl) ?_
  refine f_ (s_extract rfl rfl) ?_
  refine f_ (s_assign rfl) ?_
  refine f_ (s_assign rfl) ?_
  refine gl_nil ?_
  repeat refine y_ ?_
  rcases (show (q1 = true ∧ q2 = true) ∨ q1 = false ∨ (q1 = true ∧ q2 = false) by cases q1 <;> cases q2 <;> simp) with ⟨rfl, rfl⟩ | rfl | ⟨rfl, rfl⟩
  rotate_left
  · repeat refine y_ ?_
    refine g_region ?_
    refine m_ ?_
    refine f_ ((s_neq rfl rfl).eq (v' := .bool true) (by rw [← hq1]; rfl)) ?_
    refine m_ ?_
    (first|refine u_ ?_|(refine v_ ?_; refine m_ ?_))
    (first|refine u_ ?_|(refine v_ ?_; refine m_ ?_))
    (first|refine u_ ?_|(refine v_ ?_; refine gl_callp rfl (Step_ct _ _ _ _ _ _ (by omega) (by omega)) (fun h hh hb => by first | trivial | (first | exact RdS.le (by assumption) hh | (obtain ⟨bs, hb⟩ := hb; exact Sat.rd hb (z_3))) | (refine ⟨?_, ?_⟩ <;> (first | exact RdS.le (by assumption) hh | (obtain ⟨bs, hb⟩ := hb; exact Sat.rd hb (z_3)))) | (refine ⟨?_, ?_, ?_⟩ <;> (first | exact RdS.le (by assumption) hh | (obtain ⟨bs, hb⟩ := hb; exact Sat.rd hb (z_3))))) rfl ?_))
    (first|refine u_ ?_|(refine v_ ?_; refine f_ (s_not rfl) ?_))
    refine f_ z_8 ?_
    refine gl_nil ?_
    repeat refine y_ ?_
    refine g_region ?_
    refine f_ (s_assign rfl) ?_
    refine gl_nil ?_
    repeat refine y_ ?_
    refine g_ret ?_
    exact at_end1 rfl rfl [] ⟨by simp, rfl⟩ (fun _ h => h.dropAll)
  · repeat refine y_ ?_
    refine g_region ?_
    refine m_ ?_
    refine f_ ((s_neq rfl rfl).eq (v' := .bool false) (by rw [← hq1]; rfl)) ?_
    refine m_ ?_
    (first|refine u_ ?_|(refine v_ ?_; refine m_ ?_))
    (first|refine u_ ?_|(refine v_ ?_; refine m_ ?_))
    (first|refine u_ ?_|(refine v_ ?_; refine gl_callp rfl (Step_ct cl.1 (readL s) ca ta cc tc (by omega) (by omega)) (fun h hh ⟨bs, hb⟩ => ⟨Sat.rd (a := ca) hb z_3, Sat.rd (a := ta) hb z_3⟩) rfl ?_; rw [← hq2]))
    (first|refine u_ ?_|(refine v_ ?_; refine f_ (s_not rfl) ?_))
    refine f_ z_8 ?_
    refine gl_nil ?_
    repeat refine y_ ?_
    refine g_region ?_
    refine f_ (s_assign rfl) ?_
    refine gl_nil ?_
    repeat refine y_ ?_
    refine g_ret ?_
    exact at_end1 rfl rfl [] ⟨by simp, rfl⟩ (fun _ h => h.dropAll)
  repeat refine y_ ?_
  refine g_region ?_
  refine m_ ?_
  refine f_ ((s_neq rfl rfl).eq (v' := .bool false) (by rw [← hq1]; rfl)) ?_
  refine m_ ?_
  (first|refine u_ ?_|(refine v_ ?_; refine m_ ?_))
  (first|refine u_ ?_|(refine v_ ?_; refine m_ ?_))
  (first|refine u_ ?_|(refine v_ ?_; refine gl_callp rfl (Step_ct cl.1 (readL s) ca ta cc tc (by omega) (by omega)) (fun h hh ⟨bs, hb⟩ => ⟨Sat.rd (a := ca) hb z_3, Sat.rd (a := ta) hb z_3⟩) rfl ?_; rw [← hq2]))
  (first|refine u_ ?_|(refine v_ ?_; refine f_ (s_not rfl) ?_))
  refine f_ z_8 ?_
  refine gl_nil ?_
  repeat refine y_ ?_
  refine g_draw ([4, 9], [0, 1, 3, 7, 15, 0, 32, 96, 224, 480, 1023, 2047, 4095, 4095, 8191, 32767], [10]) [] 16 rfl ?_
  refine w_ 0 rfl (s_move rfl) ?_
  refine w_ 1 rfl (s_nilCheck rfl) ?_
  refine w_ 2 rfl z_1 ?_
  refine w_ 3 rfl z_1 ?_
  refine ga_readF 4 rfl ((s_loadN (n := 4) rfl (fun w hw => peekBS (o := 5) (n := 4) hw hX) z_10).eq (v' := (p.lm a).v) rfl) (by (first | exact fun _ h => h | (repeat first | exact sub_nil | refine sub_cons z_4 ?_))) rfl rfl rfl z_7 ?_
  refine w_ 5 rfl (s_move rfl) ?_
  refine w_ 6 rfl (s_nilCheck rfl) ?_
  refine w_ 7 rfl z_1 ?_
  refine w_ 8 rfl z_1 ?_
  refine ga_readF 9 rfl (s_load1 rfl (fun w hw => peekB hw hX a19_10)) (by (first | exact fun _ h => h | (repeat first | exact sub_nil | refine sub_cons z_4 ?_))) rfl rfl rfl z_7 ?_
  refine ga_one 10 rfl z_7 ?_
  refine gl_callp rfl (Term_ct (p.lm a) p.commit (hf.fit a hc) (by omega)) (fun h hh _ => hg.2.le hh) rfl ?_; rw [show termV (p.lm a) p.commit = termV p.g p.commit from rfl]
  refine gl_nil ?_
  refine at_ga (.inl z_7) ?_
  refine w_ 11 rfl (s_move rfl) ?_
  refine w_ 12 rfl (s_extract rfl rfl) ?_
  refine w_ 13 rfl (s_extract rfl rfl) ?_
  refine w_ 14 rfl (s_assign rfl) ?_
  refine w_ 15 rfl (s_assign rfl) ?_
  refine ga_done z_7 ?_
  repeat refine y_ ?_
  rcases (show (q3 = false ∧ q4 = true) ∨ q3 = true ∨ (q3 = false ∧ q4 = false) by cases q3 <;> cases q4 <;> simp) with ⟨rfl, rfl⟩ | rfl | ⟨rfl, rfl⟩
  · repeat refine y_ ?_
    refine g_region ?_
    refine m_ ?_
    refine m_ ?_
    refine f_ (s_nilCheck rfl) ?_
    refine f_ z_1 ?_
    refine f_ z_1 ?_
    refine r_ (by first | exact s_load_blk rfl z_3 a19_10 | exact s_load1 rfl (fun w hw => peekB hw (by assumption) a19_10)) ?_
    refine f_ ((s_gtr rfl rfl).eq (congrArg Value.bool hq3.symm)) ?_
    refine m_ ?_
    (first|refine u_ ?_|(refine v_ ?_; refine m_ ?_))
    (first|refine u_ ?_|(refine v_ ?_; refine m_ ?_))
    (first|refine u_ ?_|(refine v_ ?_; refine f_ (s_nilCheck rfl) ?_))
    (first|refine u_ ?_|(refine v_ ?_; refine f_ z_1 ?_))
    (first|refine u_ ?_|(refine v_ ?_; refine f_ z_1 ?_))
    (first|refine u_ ?_|(refine v_ ?_; refine r_ (by first | exact s_load_blk rfl z_3 a19_1 | exact s_load1 rfl (fun w hw => peekB hw (by assumption) a19_1)) ?_))
    (first|refine u_ ?_|(refine v_ ?_; refine f_ ((s_neq rfl rfl).eq (v' := .bool false) (by rw [← hq4]; rfl)) ?_))
    refine f_ z_8 ?_
    refine gl_nil ?_
    repeat refine y_ ?_
    refine g_region ?_
    refine f_ (s_assign rfl) ?_
    refine gl_nil ?_
    repeat refine y_ ?_
    refine g_ret ?_
    exact at_end1 rfl rfl [] ⟨by simp, rfl⟩ (fun _ h => h.dropAll)
  · repeat refine y_ ?_
    refine g_region ?_
    refine m_ ?_
    refine m_ ?_
    refine f_ (s_nilCheck rfl) ?_
    refine f_ z_1 ?_
    refine f_ z_1 ?_
    refine r_ (by first | exact s_load_blk rfl z_3 a19_10 | exact s_load1 rfl (fun w hw => peekB hw (by assumption) a19_10)) ?_
    refine f_ ((s_gtr rfl rfl).eq (congrArg Value.bool hq3.symm)) ?_
    refine m_ ?_
    (first|refine u_ ?_|(refine v_ ?_; refine m_ ?_))
    (first|refine u_ ?_|(refine v_ ?_; refine m_ ?_))
    (first|refine u_ ?_|(refine v_ ?_; refine f_ (s_nilCheck rfl) ?_))
    (first|refine u_ ?_|(refine v_ ?_; refine f_ z_1 ?_))
    (first|refine u_ ?_|(refine v_ ?_; refine f_ z_1 ?_))
    (first|refine u_ ?_|(refine v_ ?_; refine r_ (by first | exact s_load_blk rfl z_3 a19_1 | exact s_load1 rfl (fun w hw => peekB hw (by assumption) a19_1)) ?_))
    (first|refine u_ ?_|(refine v_ ?_; refine f_ (s_neq rfl rfl) ?_))
    refine f_ z_8 ?_
    refine gl_nil ?_
    repeat refine y_ ?_
    refine g_region ?_
    refine f_ (s_assign rfl) ?_
    refine gl_nil ?_
    repeat refine y_ ?_
    refine g_ret ?_
    exact at_end1 rfl rfl [] ⟨by simp, rfl⟩ (fun _ h => h.dropAll)
  · repeat refine y_ ?_
    refine g_region ?_
    refine m_ ?_
    refine m_ ?_
    refine f_ (s_nilCheck rfl) ?_
    refine f_ z_1 ?_
    refine f_ z_1 ?_
    refine r_ (by first | exact s_load_blk rfl z_3 a19_10 | exact s_load1 rfl (fun w hw => peekB hw (by assumption) a19_10)) ?_
    refine f_ ((s_gtr rfl rfl).eq (congrArg Value.bool hq3.symm)) ?_
    refine m_ ?_
    (first|refine u_ ?_|(refine v_ ?_; refine m_ ?_))
    (first|refine u_ ?_|(refine v_ ?_; refine m_ ?_))
    (first|refine u_ ?_|(refine v_ ?_; refine f_ (s_nilCheck rfl) ?_))
    (first|refine u_ ?_|(refine v_ ?_; refine f_ z_1 ?_))
    (first|refine u_ ?_|(refine v_ ?_; refine f_ z_1 ?_))
    (first|refine u_ ?_|(refine v_ ?_; refine r_ (by first | exact s_load_blk rfl z_3 a19_1 | exact s_load1 rfl (fun w hw => peekB hw (by assumption) a19_1)) ?_))
    (first|refine u_ ?_|(refine v_ ?_; refine f_ ((s_neq rfl rfl).eq (v' := .bool true) (by rw [← hq4]; rfl)) ?_))
    refine f_ z_8 ?_
    refine gl_nil ?_
    repeat refine y_ ?_
    refine g_region ?_
    refine f_ (s_assign rfl) ?_
    refine gl_nil ?_
    repeat refine y_ ?_
    refine g_ret ?_
    exact at_end1 rfl rfl [] ⟨by simp, rfl⟩ (fun _ h => h.dropAll)
end Go.Proofs.YtodcghipfolejaaGreat.Rf
/- A mind's calls: propose. -/
namespace Go.Proofs.YtodcghipfolejaaGreat.Rf
open Go Go.Sl
set_option linter.unusedVariables false
set_option linter.unusedSimpArgs false
-- ARR

def propE (p : RP) (ek : Int) (ed : Bs) : Int := if p.role ≠ 2 then 18 else if ek ≠ 2 ∧ ek ≠ 3 then 1 else if 2048 < ed.length then 2 else if 1024 ≤ p.l.length then 7 else if ek = 2 then changesE p ed else 0
def prop1 (p : RP) (ek : Int) (ed : Bs) : RP := { p with l := p.l ++ [(p.term, ek, ed)] }
def prop2 (p : RP) (ek : Int) (ed : Bs) : RP := if ek = 2 then { prop1 p ek ed with peers := peersL (prop1 p ek ed) } else prop1 p ek ed
noncomputable def propP (p : RP) (ek : Int) (ed : Bs) : RP := if propE p ek ed = 0 then commitP (prop2 p ek ed) else p
noncomputable def propM (p : RP) (ek : Int) (ed : Bs) : List MP := if propE p ek ed = 0 then allP (commitP (prop2 p ek ed)) else []
theorem peerOf_cases (p : RP) (n : Int) : peerOf p n = ⟨n, lastI p.g + 1, 0, 0⟩ ∨ peerOf p n ∈ p.peers := by
  unfold peerOf
  generalize (⟨n, lastI p.g + 1, 0, 0⟩ : Pr) = b0
  have key : ∀ (l : List Pr) (b : Pr), l.foldl (fun b q => if q.node = n then q else b) b = b ∨ l.foldl (fun b q => if q.node = n then q else b) b ∈ l := by
    intro l
    induction l with
    | nil => intro b; exact .inl rfl
    | cons q r ih =>
      intro b
      rw [List.foldl_cons]
      rcases ih (if q.node = n then q else b) with h | h
      · rw [h]
        split
        · exact .inr (.head _)
        · exact .inl rfl
      · exact .inr (.tail _ h)
  exact key p.peers b0
theorem pf_peers {p : RP} (h : PFit p) : PFit { p with peers := peersL p } := by
  refine ⟨h.base, h.len, h.cl, h.dat, h.img, h.votes, peersL_len p h, fun q hq => ?_, h.ticks, h.term, h.commit⟩
  obtain ⟨n, _, rfl⟩ := List.mem_map.1 hq
  rcases peerOf_cases p n with e | e
  · rw [e]
    have := h.last
    simp only
    omega
  · exact h.prs _ e
theorem pf_prop1 {p : RP} (h : PFit p) {ek : Int} {ed : Bs} (hl : p.l.length ≤ 99999) (hd : ed.length ≤ 1000000000000) : PFit (prop1 p ek ed) := by
  refine ⟨h.base, ?_, h.cl, fun i hi => ?_, h.img, h.votes, h.peers, h.prs, h.ticks, h.term, h.commit⟩
  · show (p.l ++ [(p.term, ek, ed)]).length ≤ _
    simp; omega
  · show ((p.l ++ [((p.term, ek, ed) : Ent)]).getD i E0).2.2.length ≤ _
    replace hi : i < (p.l ++ [((p.term, ek, ed) : Ent)]).length := hi
    rw [List.length_append, List.length_singleton] at hi
    by_cases e : i < p.l.length
    · rw [List.getD_eq_getElem?_getD, List.getElem?_append_left e, ← List.getD_eq_getElem?_getD]
      exact h.dat i e
    · have : i = p.l.length := by omega
      subst this
      simpa using hd
theorem pf_prop2 {p : RP} (h : PFit p) {ek : Int} {ed : Bs} (hl : p.l.length ≤ 99999) (hd : ed.length ≤ 1000000000000) : PFit (prop2 p ek ed) := by
  unfold prop2
  split
  · exact pf_peers (pf_prop1 h hl hd)
  · exact pf_prop1 h hl hd
set_option maxRecDepth 8000 in
set_option maxHeartbeats 4000000 in
theorem propose_ct (X : Nat) (d : MD) (e : EV) (hf : PFit d.p) (hl : d.p.l.length ≤ 99999) (ho : d.outs.length ≤ 1000000) : Ct Tryz.prog 37 [Ptr X, evA e] (fun _ => True) (mdH X d) (MdP X d (propP d.p e.ek e.ed) (propM d.p e.ek e.ed) (.int .i64 (propE d.p e.ek e.ed))) := by
  obtain ⟨p, a, outs, oa0, oc0⟩ := d
  obtain ⟨kind, m, et, ek, ed, index, img⟩ := e
  simp only at hf hl ho
  refine ct_enter 82 Tryz.func37 rfl rfl rfl ?_
  intro F _
  refine g_ownN (a := a.la) z_3 (fun _ hcap _ => ?_)
  obtain ⟨q1, hq1⟩ : ∃ q, q = decide (p.role = 2) := ⟨_, rfl⟩
  obtain ⟨q2, hq2⟩ : ∃ q, q = decide (ek = 2) := ⟨_, rfl⟩
  obtain ⟨q3, hq3⟩ : ∃ q, q = decide (ek = 3) := ⟨_, rfl⟩
  obtain ⟨q4, hq4⟩ : ∃ q, q = decide ((2048 : Int) < (ed.length : Nat)) := ⟨_, rfl⟩
  obtain ⟨q5, hq5⟩ : ∃ q, q = decide ((1024 : Int) ≤ (p.l.length : Nat)) := ⟨_, rfl⟩
  repeat refine y_ ?_
  refine g_region ?_
  refine gl_boxA rfl rfl ?_; intro g3
  refine f_ (s_assign rfl) ?_
  refine gl_nil ?_
  repeat refine y_ ?_
  refine g_draw ([4, 7, 10], [0, 1, 3, 7, 15, 0, 32, 96, 0, 256, 768, 2047, 0, 8191], [12, 13]) [.blk X (mdO ⟨p, a, outs, oa0, oc0⟩), .blk g3 (.cells (evC ⟨kind, m, et, ek, ed, index, img⟩).toArray 53)] 14 rfl ?_
  refine w_ 0 rfl (s_move rfl) ?_
  refine w_ 1 rfl (s_nilCheck rfl) ?_
  refine w_ 2 rfl z_1 ?_
  refine w_ 3 rfl z_1 ?_
  (first | refine ga_read_k 4 rfl z_5 (s_load_blk rfl .del a19_1) (by (first | exact fun _ h => h | (repeat first | exact sub_nil | refine sub_cons z_4 ?_))) rfl rfl rfl z_7 ?_ | refine ga_readF 4 rfl (s_load1 rfl (fun w hw => peekB hw (by assumption) a19_1)) (by (first | exact fun _ h => h | (repeat first | exact sub_nil | refine sub_cons z_4 ?_))) rfl rfl rfl z_7 ?_)
  refine w_ 5 rfl z_1 ?_
  refine w_ 6 rfl z_1 ?_
  (first | refine ga_read_k 7 rfl z_5 (s_load_blk rfl .del a19_15) (by (first | exact fun _ h => h | (repeat first | exact sub_nil | refine sub_cons z_4 ?_))) rfl rfl rfl z_7 ?_ | refine ga_readF 7 rfl (s_load1 rfl (fun w hw => peekB hw (by assumption) a19_15)) (by (first | exact fun _ h => h | (repeat first | exact sub_nil | refine sub_cons z_4 ?_))) rfl rfl rfl z_7 ?_)
  refine w_ 8 rfl z_1 ?_
  refine w_ 9 rfl z_1 ?_
  (first | refine ga_read_k 10 rfl z_5 (s_load_blk rfl .del a19_16) (by (first | exact fun _ h => h | (repeat first | exact sub_nil | refine sub_cons z_4 ?_))) rfl rfl rfl z_7 ?_ | refine ga_readF 10 rfl (s_load1 rfl (fun w hw => peekB hw (by assumption) a19_16)) (by (first | exact fun _ h => h | (repeat first | exact sub_nil | refine sub_cons z_4 ?_))) rfl rfl rfl z_7 ?_)
  refine w_ 11 rfl (s_build rfl (run_build_struct (places := [(0, 1), (1, 1), (2, 1)]) rfl (by intro f hf; simp at hf; rcases hf with rfl | rfl | rfl <;> rfl) rfl)) ?_
  refine ga_one 12 rfl z_7 ?_
  refine gl_allocA rfl ?_; intro g5
  refine gl_nil ?_
  refine at_ga (.inr (by exact keeps_of (by (first | exact fun _ h => h | (repeat first | exact sub_nil | refine sub_cons z_4 ?_))))) ?_
  refine ga_one 13 rfl z_7 ?_
  (first | refine gl_store_blkW rfl rfl z_6 z_10 z_10 z_2 ?_ | refine gl_store_blk rfl rfl z_6 z_10 z_2 z_10 ?_)
  refine gl_nil ?_
  refine at_ga (.inl z_7) ?_
  refine ga_done z_7 ?_
  repeat refine y_ ?_
  refine g_pull (H' := .blk g5 (.cells #[.int .u64 p.term, .int .i64 ek, B ed] 51) :: mdH X ⟨p, a, outs, oa0, oc0⟩) (fun w hw => hw.upd_same z_3) ?_
  have hfin : ∀ E, propE p ek ed = E → E ≠ 0 → propP p ek ed = p ∧ propM p ek ed = [] := fun E h h0 => ⟨if_neg (by rw [h]; exact h0), if_neg (by rw [h]; exact h0)⟩
  cases q1
  · have n1 := of_decide_eq_false hq1.symm
    have hE : propE p ek ed = 18 := by rw [propE, if_pos n1]
    obtain ⟨e1, e2⟩ := hfin _ hE (by decide)
    simp only [hE, e1, e2]
    repeat refine y_ ?_
    refine g_region ?_
    refine m_ ?_
    refine f_ (s_nilCheck rfl) ?_
    refine f_ z_1 ?_
    refine f_ z_1 ?_
    refine r_ (by first | exact s_load_blk rfl z_3 a19_3 | exact s_load1 rfl (fun w hw => peekB hw (by assumption) a19_3)) ?_
    refine f_ ((s_neq rfl rfl).eq (v' := .bool true) (by rw [← hq1]; rfl)) ?_
    refine f_ (s_assign rfl) ?_
    refine gl_nil ?_
    repeat refine y_ ?_
    refine g_region ?_
    refine f_ (s_assign rfl) ?_
    refine gl_nil ?_
    repeat refine y_ ?_
    refine g_ret ?_
    exact at_end1 rfl rfl (mdH X ⟨p, a, outs, oa0, oc0⟩ ++ []) (MdP.same X ⟨p, a, outs, oa0, oc0⟩ ⟨p, a, outs, oa0, oc0⟩ _ rfl) (fun w hw => hw.drop)
  have n1 := of_decide_eq_true hq1.symm
  repeat refine y_ ?_
  refine g_region ?_
  refine m_ ?_
  refine f_ (s_nilCheck rfl) ?_
  refine f_ z_1 ?_
  refine f_ z_1 ?_
  refine r_ (by first | exact s_load_blk rfl z_3 a19_3 | exact s_load1 rfl (fun w hw => peekB hw (by assumption) a19_3)) ?_
  refine f_ ((s_neq rfl rfl).eq (v' := .bool false) (by rw [← hq1]; rfl)) ?_
  refine f_ (s_assign rfl) ?_
  refine gl_nil ?_
  repeat refine y_ ?_
  rcases (show (q2 = false ∧ q3 = false) ∨ q2 = true ∨ (q2 = false ∧ q3 = true) by cases q2 <;> cases q3 <;> simp) with ⟨rfl, rfl⟩ | rfl | ⟨rfl, rfl⟩
  · have n2 := of_decide_eq_false hq2.symm
    have n3 := of_decide_eq_false hq3.symm
    have hE : propE p ek ed = 1 := by rw [propE, if_neg (by simp [n1]), if_pos ⟨n2, n3⟩]
    obtain ⟨e1, e2⟩ := hfin _ hE (by decide)
    simp only [hE, e1, e2]
    repeat refine y_ ?_
    refine g_region ?_
    refine f_ z_1 ?_
    refine r_ (by first | exact s_load_blk rfl z_3 a3_1 | exact s_load1 rfl (fun w hw => peekB hw (by assumption) a3_1)) ?_
    refine f_ ((s_neq rfl rfl).eq (v' := .bool true) (by rw [← hq2]; rfl)) ?_
    refine m_ ?_
    (first|refine u_ ?_|(refine v_ ?_; refine f_ z_1 ?_))
    (first|refine u_ ?_|(refine v_ ?_; refine r_ (by first | exact s_load_blk rfl z_3 a3_1 | exact s_load1 rfl (fun w hw => peekB hw (by assumption) a3_1)) ?_))
    (first|refine u_ ?_|(refine v_ ?_; refine f_ ((s_neq rfl rfl).eq (v' := .bool true) (by rw [← hq3]; rfl)) ?_))
    refine f_ z_8 ?_
    refine f_ (s_assign rfl) ?_
    refine gl_nil ?_
    repeat refine y_ ?_
    refine g_region ?_
    refine f_ (s_assign rfl) ?_
    refine gl_nil ?_
    repeat refine y_ ?_
    refine g_ret ?_
    exact at_end1 rfl rfl (mdH X ⟨p, a, outs, oa0, oc0⟩ ++ []) (MdP.same X ⟨p, a, outs, oa0, oc0⟩ ⟨p, a, outs, oa0, oc0⟩ _ rfl) (fun w hw => hw.drop)
  · have n2 : ek = 2 := of_decide_eq_true hq2.symm
    have n23 : ¬ (ek ≠ 2 ∧ ek ≠ 3) := fun h => h.1 n2
    repeat refine y_ ?_
    refine g_region ?_
    refine f_ z_1 ?_
    refine r_ (by first | exact s_load_blk rfl z_3 a3_1 | exact s_load1 rfl (fun w hw => peekB hw (by assumption) a3_1)) ?_
    refine f_ ((s_neq rfl rfl).eq (v' := .bool false) (by rw [← hq2]; rfl)) ?_
    refine m_ ?_
    (first|refine u_ ?_|(refine v_ ?_; refine f_ z_1 ?_))
    (first|refine u_ ?_|(refine v_ ?_; refine r_ (by first | exact s_load_blk rfl z_3 a3_1 | exact s_load1 rfl (fun w hw => peekB hw (by assumption) a3_1)) ?_))
    (first|refine u_ ?_|(refine v_ ?_; refine f_ (s_neq rfl rfl) ?_))
    refine f_ z_8 ?_
    refine f_ (s_assign rfl) ?_
    refine gl_nil ?_
    repeat refine y_ ?_
    cases q4
    rotate_left
    · have n4 : 2048 < ed.length := by have := of_decide_eq_true hq4.symm; omega
      have hE : propE p ek ed = 2 := by rw [propE, if_neg (by simp [n1]), if_neg n23, if_pos n4]
      obtain ⟨e1, e2⟩ := hfin _ hE (by decide)
      simp only [hE, e1, e2]
      repeat refine y_ ?_
      refine g_region ?_
      refine f_ z_1 ?_
      refine r_ (by first | exact s_load_blk rfl z_3 a3_2 | exact s_load1 rfl (fun w hw => peekB hw (by assumption) a3_2)) ?_
      refine f_ (s_len_str rfl) ?_
      refine f_ ((s_gtr rfl rfl).eq (congrArg Value.bool hq4.symm)) ?_
      refine f_ (s_assign rfl) ?_
      refine gl_nil ?_
      repeat refine y_ ?_
      refine g_region ?_
      refine f_ (s_assign rfl) ?_
      refine gl_nil ?_
      repeat refine y_ ?_
      refine g_ret ?_
      exact at_end1 rfl rfl (mdH X ⟨p, a, outs, oa0, oc0⟩ ++ []) (MdP.same X ⟨p, a, outs, oa0, oc0⟩ ⟨p, a, outs, oa0, oc0⟩ _ rfl) (fun w hw => hw.drop)
    have n4 : ¬ 2048 < ed.length := by have := of_decide_eq_false hq4.symm; omega
    repeat refine y_ ?_
    refine g_region ?_
    refine f_ z_1 ?_
    refine r_ (by first | exact s_load_blk rfl z_3 a3_2 | exact s_load1 rfl (fun w hw => peekB hw (by assumption) a3_2)) ?_
    refine f_ (s_len_str rfl) ?_
    refine f_ ((s_gtr rfl rfl).eq (congrArg Value.bool hq4.symm)) ?_
    refine f_ (s_assign rfl) ?_
    refine gl_nil ?_
    repeat refine y_ ?_
    cases q5
    rotate_left
    · have n5 : 1024 ≤ p.l.length := by have := of_decide_eq_true hq5.symm; omega
      have hE : propE p ek ed = 7 := by rw [propE, if_neg (by simp [n1]), if_neg n23, if_neg n4, if_pos n5]
      obtain ⟨e1, e2⟩ := hfin _ hE (by decide)
      simp only [hE, e1, e2]
      repeat refine y_ ?_
      refine g_region ?_
      refine m_ ?_
      refine f_ (s_nilCheck rfl) ?_
      refine f_ z_1 ?_
      refine f_ z_1 ?_
      refine f_ z_1 ?_
      refine r_ (by first | exact s_load_blk rfl z_3 a19_8 | exact s_load1 rfl (fun w hw => peekB hw (by assumption) a19_8)) ?_
      refine f_ (s_len_sl rfl) ?_
      refine f_ ((s_geq rfl rfl).eq (congrArg Value.bool hq5.symm)) ?_
      refine f_ (s_assign rfl) ?_
      refine gl_nil ?_
      repeat refine y_ ?_
      refine g_region ?_
      refine f_ (s_assign rfl) ?_
      refine gl_nil ?_
      repeat refine y_ ?_
      refine g_ret ?_
      exact at_end1 rfl rfl (mdH X ⟨p, a, outs, oa0, oc0⟩ ++ []) (MdP.same X ⟨p, a, outs, oa0, oc0⟩ ⟨p, a, outs, oa0, oc0⟩ _ rfl) (fun w hw => hw.drop)
    have n5 : ¬ 1024 ≤ p.l.length := by have := of_decide_eq_false hq5.symm; omega
    repeat refine y_ ?_
    refine g_region ?_
    refine m_ ?_
    refine f_ (s_nilCheck rfl) ?_
    refine f_ z_1 ?_
    refine f_ z_1 ?_
    refine f_ z_1 ?_
    refine r_ (by first | exact s_load_blk rfl z_3 a19_8 | exact s_load1 rfl (fun w hw => peekB hw (by assumption) a19_8)) ?_
    refine f_ (s_len_sl rfl) ?_
    refine f_ ((s_geq rfl rfl).eq (congrArg Value.bool hq5.symm)) ?_
    refine f_ (s_assign rfl) ?_
    refine gl_nil ?_
    repeat refine y_ ?_
    have hE0 : propE p ek ed = changesE p ed := by rw [propE, if_neg (by simp [n1]), if_neg n23, if_neg n4, if_neg n5, if_pos n2]
    obtain ⟨ce, hce⟩ : ∃ c, c = changesE p ed := ⟨_, rfl⟩
    rw [← hce] at hE0
    repeat refine y_ ?_
    refine g_region ?_
    refine f_ z_1 ?_
    refine r_ (by first | exact s_load_blk rfl z_3 a3_1 | exact s_load1 rfl (fun w hw => peekB hw (by assumption) a3_1)) ?_
    refine f_ ((s_eql rfl rfl).eq (v' := .bool true) (by rw [← hq2])) ?_
    refine gl_nil ?_
    repeat refine y_ ?_
    refine g_region ?_
    refine m_ ?_
    refine f_ z_1 ?_
    refine r_ (by first | exact s_load_blk rfl z_3 a3_2 | exact s_load1 rfl (fun w hw => peekB hw (by assumption) a3_2)) ?_
    refine gl_call _ rfl (changes_ct X ⟨p, a, outs, oa0, oc0⟩ ed hf hcap (by omega)) (fun w hw => hw) (fun h hh ⟨bs, hb⟩ => ⟨Sat.blk hb z_3, Sat.rd (a := a.ca) hb z_3, Sat.rd (a := a.la) hb z_3⟩) rfl ?_; rw [← hce]; rintro v A ⟨rfl, rfl⟩
    refine f_ (s_assign rfl) ?_
    refine gl_nil ?_
    repeat refine y_ ?_
    by_cases h0 : ce ≠ 0
    · repeat refine y_ ?_
      refine g_region ?_
      refine m_ ?_
      refine f_ ((s_neq rfl rfl).eq (v' := .bool true) (by simp [h0])) ?_
      refine gl_nil ?_
      repeat refine y_ ?_
      have hE : propE p ek ed = ce := hE0
      obtain ⟨e1, e2⟩ := hfin _ hE (by exact h0)
      simp only [hE, e1, e2]
      repeat refine y_ ?_
      refine g_region ?_
      refine m_ ?_
      refine f_ (s_assign rfl) ?_
      refine gl_nil ?_
      repeat refine y_ ?_
      refine g_ret ?_
      exact at_end1 rfl rfl (mdH X ⟨p, a, outs, oa0, oc0⟩ ++ []) (MdP.same X ⟨p, a, outs, oa0, oc0⟩ ⟨p, a, outs, oa0, oc0⟩ _ rfl) (fun w hw => hw.drop)
    have h0 : ce = 0 := Classical.not_not.1 h0
    have hE : propE p ek ed = 0 := by rw [hE0, h0]
    repeat refine y_ ?_
    refine g_region ?_
    refine m_ ?_
    refine f_ ((s_neq rfl rfl).eq (v' := .bool false) (by simp [h0])) ?_
    refine gl_nil ?_
    repeat refine y_ ?_
    have e1 : propP p ek ed = commitP (prop2 p ek ed) := if_pos hE
    have e2 : propM p ek ed = allP (commitP (prop2 p ek ed)) := if_pos hE
    have hf1 := pf_prop1 (ek := ek) hf hl (show ed.length ≤ 1000000000000 by omega)
    have hf2 := pf_prop2 (ek := ek) hf hl (show ed.length ≤ 1000000000000 by omega)
    have hf3 := pf_commit hf2
    simp only [hE, e1, e2]
    repeat refine y_ ?_
    refine g_draw ([6, 7], [0, 0, 2, 6, 14, 30, 62, 0, 128, 510, 1023, 2047, 4095, 8191, 16383], [8, 9, 14]) [.blk X (mdO ⟨p, a, outs, oa0, oc0⟩), .blk g5 (.cells #[.int .u64 p.term, .int .i64 ek, B ed] 51)] 15 rfl ?_
    refine w_ 0 rfl (s_move rfl) ?_
    refine w_ 1 rfl (s_move rfl) ?_
    refine w_ 2 rfl (s_nilCheck rfl) ?_
    refine w_ 3 rfl z_1 ?_
    refine w_ 4 rfl z_1 ?_
    refine w_ 5 rfl z_1 ?_
    (first | refine ga_read_k 6 rfl z_5 (s_load_blk rfl .del a19_8) (by (first | exact fun _ h => h | (repeat first | exact sub_nil | refine sub_cons z_4 ?_))) rfl rfl rfl z_7 ?_ | refine ga_readF 6 rfl (s_load1 rfl (fun w hw => peekB hw (by assumption) a19_8)) (by (first | exact fun _ h => h | (repeat first | exact sub_nil | refine sub_cons z_4 ?_))) rfl rfl rfl z_7 ?_)
    (first | refine ga_read_k 7 rfl z_5 (s_load_blkW rfl .del z_10) (by (first | exact fun _ h => h | (repeat first | exact sub_nil | refine sub_cons z_4 ?_))) rfl rfl rfl z_7 ?_ | refine ga_read_k 7 rfl z_5 (s_load_blkN rfl .del z_10) (by (first | exact fun _ h => h | (repeat first | exact sub_nil | refine sub_cons z_4 ?_))) rfl rfl rfl z_7 ?_ | refine ga_readF 7 rfl (s_loadN rfl (fun w hw => peekBN hw (by assumption)) z_10) (by (first | exact fun _ h => h | (repeat first | exact sub_nil | refine sub_cons z_4 ?_))) rfl rfl rfl z_7 ?_)
    refine ga_one 8 rfl z_7 ?_
    refine gl_buildSliceU rfl rfl rfl rfl rfl rfl (xs := entC (p.term, ek, ed)) rfl rfl ?_; intro a67 ha67
    refine gl_nil ?_
    refine at_ga (.inr (by exact keeps_of (by (first | exact fun _ h => h | (repeat first | exact sub_nil | refine sub_cons z_4 ?_))))) ?_
    refine ga_one 9 rfl z_7 ?_
    refine gl_append (sz := 3) rfl rfl (fun a' c' => z_6) (fun w hw => (hw.ownN z_3).2.2.1) rfl rfl rfl (entC_one _) (by show (p.l.length + 1) * 32 ≤ 140737488355328; omega) (by show p.l.length + 1 ≤ 9223372036854775807; omega) rfl ?_; intro a68 c68 hc68
    refine gl_nil ?_
    refine at_ga (.inl z_7) ?_
    refine w_ 10 rfl (s_nilCheck rfl) ?_
    refine w_ 11 rfl z_1 ?_
    refine w_ 12 rfl z_1 ?_
    refine w_ 13 rfl z_1 ?_
    refine ga_one 14 rfl z_7 ?_
    (first | refine gl_store_blkC (pre := [_, _, _, _, _, _, _, _]) (post := [_, _, _, _, _, _, _, _, _, _]) rfl rfl z_6 z_10 z_10 z_10 ?_ | refine gl_store_blk rfl rfl z_6 z_10 z_2 z_10 ?_)
    refine gl_nil ?_
    refine at_ga (.inl z_7) ?_
    refine ga_done z_7 ?_
    repeat refine y_ ?_
    refine g_pull (H' := .blk g5 (.cells #[.int .u64 p.term, .int .i64 ek, B ed] 51) :: mdH X ⟨prop1 p ek ed, { a with la := a68, lc := c68 }, outs, oa0, oc0⟩) (fun w hw => by rw [prop1, mdH_ent]; exact hw.drop) ?_
    repeat refine y_ ?_
    refine g_region ?_
    refine f_ z_1 ?_
    refine r_ (by first | exact s_load_blk rfl z_3 a3_1 | exact s_load1 rfl (fun w hw => peekB hw (by assumption) a3_1)) ?_
    refine f_ ((s_eql rfl rfl).eq (v' := .bool true) (by rw [← hq2])) ?_
    refine gl_nil ?_
    repeat refine y_ ?_
    have ep : prop2 p ek ed = { prop1 p ek ed with peers := peersL (prop1 p ek ed) } := if_pos n2
    repeat refine y_ ?_
    refine g_region ?_
    refine m_ ?_
    refine gl_call [.blk g5 (.cells #[.int .u64 p.term, .int .i64 ek, B ed] 51)] rfl (peers_ct X ⟨prop1 p ek ed, { a with la := a68, lc := c68 }, outs, oa0, oc0⟩ hf1) (fun w hw => hw.perm (perm_up z_3 (perm_up z_3 (perm_up z_3 (perm_up z_3 (perm_up z_3 (perm_up z_3 (.refl _)))))))) (fun _ _ _ => trivial) rfl ?_; rintro v A ⟨rfl, d2, Z2, e3, o2, rfl, f2⟩
    refine gl_nil ?_
    repeat refine y_ ?_
    rw [← ep] at e3
    obtain ⟨p2, a2, outs2, oa2, oc2⟩ := d2
    simp only at e3
    subst e3
    have l2 := outs_len o2
    simp only [List.length_nil] at l2
    repeat refine y_ ?_
    refine g_region ?_
    refine m_ ?_
    refine gl_call (Z2 ++ [.blk g5 (.cells #[.int .u64 p.term, .int .i64 ek, B ed] 51)]) rfl (commit_ct X ⟨prop2 p ek ed, a2, outs2, oa2, oc2⟩ hf2) (fun w hw => by rwa [List.append_assoc] at hw) (fun _ _ _ => trivial) rfl ?_; rintro v A ⟨rfl, d3, Z3, e3, o3, rfl, f3⟩
    refine gl_nil ?_
    repeat refine y_ ?_
    have l3 := outs_len o3
    simp only [List.length_nil] at l3
    obtain ⟨p3, a3, outs3, oa3, oc3⟩ := d3
    simp only at e3 l3
    subst e3
    repeat refine y_ ?_
    refine g_region ?_
    refine m_ ?_
    refine gl_call (Z3 ++ (Z2 ++ [.blk g5 (.cells #[.int .u64 p.term, .int .i64 ek, B ed] 51)])) rfl (all_ct X ⟨commitP (prop2 p ek ed), a3, outs3, oa3, oc3⟩ hf3 (by simp only; omega)) (fun w hw => by rwa [List.append_assoc] at hw) (fun _ _ _ => trivial) rfl ?_; rintro v A ⟨rfl, ms, oa4, oc4, Z4, e4, rfl, f4⟩
    refine gl_nil ?_
    repeat refine y_ ?_
    simp only [List.append_nil] at o2 o3
    repeat refine y_ ?_
    refine g_region ?_
    refine f_ (s_assign rfl) ?_
    refine gl_nil ?_
    repeat refine y_ ?_
    refine g_ret ?_
    exact at_end1 rfl rfl (mdH X ⟨commitP (prop2 p ek ed), a3, outs3 ++ ms, oa4, oc4⟩ ++ (Z4 ++ (Z3 ++ (Z2 ++ [.blk g5 (.cells #[.int .u64 p.term, .int .i64 ek, B ed] 51)])))) ⟨rfl, ⟨commitP (prop2 p ek ed), a3, outs3 ++ ms, oa4, oc4⟩, _, rfl, by rw [List.map_append, e4, o3, o2], rfl, fun h f hs m hm => by
      obtain ⟨s4, s32⟩ := Sat.two2 hs
      obtain ⟨s3, s2⟩ := Sat.two2 s32
      rcases List.mem_append.1 hm with hm | hm
      · exact f3 h (f2 h f (Sat.two2 s2).1) s3 m hm
      · exact f4 h s4 m hm⟩ (fun w hw => by rwa [List.append_assoc] at hw)
  · have n2 : ¬ ek = 2 := of_decide_eq_false hq2.symm
    have n3 : ek = 3 := of_decide_eq_true hq3.symm
    have n23 : ¬ (ek ≠ 2 ∧ ek ≠ 3) := fun h => h.2 n3
    repeat refine y_ ?_
    refine g_region ?_
    refine f_ z_1 ?_
    refine r_ (by first | exact s_load_blk rfl z_3 a3_1 | exact s_load1 rfl (fun w hw => peekB hw (by assumption) a3_1)) ?_
    refine f_ ((s_neq rfl rfl).eq (v' := .bool true) (by rw [← hq2]; rfl)) ?_
    refine m_ ?_
    (first|refine u_ ?_|(refine v_ ?_; refine f_ z_1 ?_))
    (first|refine u_ ?_|(refine v_ ?_; refine r_ (by first | exact s_load_blk rfl z_3 a3_1 | exact s_load1 rfl (fun w hw => peekB hw (by assumption) a3_1)) ?_))
    (first|refine u_ ?_|(refine v_ ?_; refine f_ ((s_neq rfl rfl).eq (v' := .bool false) (by rw [← hq3]; rfl)) ?_))
    refine f_ z_8 ?_
    refine f_ (s_assign rfl) ?_
    refine gl_nil ?_
    repeat refine y_ ?_
    cases q4
    rotate_left
    · have n4 : 2048 < ed.length := by have := of_decide_eq_true hq4.symm; omega
      have hE : propE p ek ed = 2 := by rw [propE, if_neg (by simp [n1]), if_neg n23, if_pos n4]
      obtain ⟨e1, e2⟩ := hfin _ hE (by decide)
      simp only [hE, e1, e2]
      repeat refine y_ ?_
      refine g_region ?_
      refine f_ z_1 ?_
      refine r_ (by first | exact s_load_blk rfl z_3 a3_2 | exact s_load1 rfl (fun w hw => peekB hw (by assumption) a3_2)) ?_
      refine f_ (s_len_str rfl) ?_
      refine f_ ((s_gtr rfl rfl).eq (congrArg Value.bool hq4.symm)) ?_
      refine f_ (s_assign rfl) ?_
      refine gl_nil ?_
      repeat refine y_ ?_
      refine g_region ?_
      refine f_ (s_assign rfl) ?_
      refine gl_nil ?_
      repeat refine y_ ?_
      refine g_ret ?_
      exact at_end1 rfl rfl (mdH X ⟨p, a, outs, oa0, oc0⟩ ++ []) (MdP.same X ⟨p, a, outs, oa0, oc0⟩ ⟨p, a, outs, oa0, oc0⟩ _ rfl) (fun w hw => hw.drop)
    have n4 : ¬ 2048 < ed.length := by have := of_decide_eq_false hq4.symm; omega
    repeat refine y_ ?_
    refine g_region ?_
    refine f_ z_1 ?_
    refine r_ (by first | exact s_load_blk rfl z_3 a3_2 | exact s_load1 rfl (fun w hw => peekB hw (by assumption) a3_2)) ?_
    refine f_ (s_len_str rfl) ?_
    refine f_ ((s_gtr rfl rfl).eq (congrArg Value.bool hq4.symm)) ?_
    refine f_ (s_assign rfl) ?_
    refine gl_nil ?_
    repeat refine y_ ?_
    cases q5
    rotate_left
    · have n5 : 1024 ≤ p.l.length := by have := of_decide_eq_true hq5.symm; omega
      have hE : propE p ek ed = 7 := by rw [propE, if_neg (by simp [n1]), if_neg n23, if_neg n4, if_pos n5]
      obtain ⟨e1, e2⟩ := hfin _ hE (by decide)
      simp only [hE, e1, e2]
      repeat refine y_ ?_
      refine g_region ?_
      refine m_ ?_
      refine f_ (s_nilCheck rfl) ?_
      refine f_ z_1 ?_
      refine f_ z_1 ?_
      refine f_ z_1 ?_
      refine r_ (by first | exact s_load_blk rfl z_3 a19_8 | exact s_load1 rfl (fun w hw => peekB hw (by assumption) a19_8)) ?_
      refine f_ (s_len_sl rfl) ?_
      refine f_ ((s_geq rfl rfl).eq (congrArg Value.bool hq5.symm)) ?_
      refine f_ (s_assign rfl) ?_
      refine gl_nil ?_
      repeat refine y_ ?_
      refine g_region ?_
      refine f_ (s_assign rfl) ?_
      refine gl_nil ?_
      repeat refine y_ ?_
      refine g_ret ?_
      exact at_end1 rfl rfl (mdH X ⟨p, a, outs, oa0, oc0⟩ ++ []) (MdP.same X ⟨p, a, outs, oa0, oc0⟩ ⟨p, a, outs, oa0, oc0⟩ _ rfl) (fun w hw => hw.drop)
    have n5 : ¬ 1024 ≤ p.l.length := by have := of_decide_eq_false hq5.symm; omega
    repeat refine y_ ?_
    refine g_region ?_
    refine m_ ?_
    refine f_ (s_nilCheck rfl) ?_
    refine f_ z_1 ?_
    refine f_ z_1 ?_
    refine f_ z_1 ?_
    refine r_ (by first | exact s_load_blk rfl z_3 a19_8 | exact s_load1 rfl (fun w hw => peekB hw (by assumption) a19_8)) ?_
    refine f_ (s_len_sl rfl) ?_
    refine f_ ((s_geq rfl rfl).eq (congrArg Value.bool hq5.symm)) ?_
    refine f_ (s_assign rfl) ?_
    refine gl_nil ?_
    repeat refine y_ ?_
    have hE : propE p ek ed = 0 := by rw [propE, if_neg (by simp [n1]), if_neg n23, if_neg n4, if_neg n5, if_neg n2]
    repeat refine y_ ?_
    refine g_region ?_
    refine f_ z_1 ?_
    refine r_ (by first | exact s_load_blk rfl z_3 a3_1 | exact s_load1 rfl (fun w hw => peekB hw (by assumption) a3_1)) ?_
    refine f_ ((s_eql rfl rfl).eq (v' := .bool false) (by rw [← hq2])) ?_
    refine gl_nil ?_
    repeat refine y_ ?_
    have e1 : propP p ek ed = commitP (prop2 p ek ed) := if_pos hE
    have e2 : propM p ek ed = allP (commitP (prop2 p ek ed)) := if_pos hE
    have hf1 := pf_prop1 (ek := ek) hf hl (show ed.length ≤ 1000000000000 by omega)
    have hf2 := pf_prop2 (ek := ek) hf hl (show ed.length ≤ 1000000000000 by omega)
    have hf3 := pf_commit hf2
    simp only [hE, e1, e2]
    repeat refine y_ ?_
    refine g_draw ([6, 7], [0, 0, 2, 6, 14, 30, 62, 0, 128, 510, 1023, 2047, 4095, 8191, 16383], [8, 9, 14]) [.blk X (mdO ⟨p, a, outs, oa0, oc0⟩), .blk g5 (.cells #[.int .u64 p.term, .int .i64 ek, B ed] 51)] 15 rfl ?_
    refine w_ 0 rfl (s_move rfl) ?_
    refine w_ 1 rfl (s_move rfl) ?_
    refine w_ 2 rfl (s_nilCheck rfl) ?_
    refine w_ 3 rfl z_1 ?_
    refine w_ 4 rfl z_1 ?_
    refine w_ 5 rfl z_1 ?_
    (first | refine ga_read_k 6 rfl z_5 (s_load_blk rfl .del a19_8) (by (first | exact fun _ h => h | (repeat first | exact sub_nil | refine sub_cons z_4 ?_))) rfl rfl rfl z_7 ?_ | refine ga_readF 6 rfl (s_load1 rfl (fun w hw => peekB hw (by assumption) a19_8)) (by (first | exact fun _ h => h | (repeat first | exact sub_nil | refine sub_cons z_4 ?_))) rfl rfl rfl z_7 ?_)
    (first | refine ga_read_k 7 rfl z_5 (s_load_blkW rfl .del z_10) (by (first | exact fun _ h => h | (repeat first | exact sub_nil | refine sub_cons z_4 ?_))) rfl rfl rfl z_7 ?_ | refine ga_read_k 7 rfl z_5 (s_load_blkN rfl .del z_10) (by (first | exact fun _ h => h | (repeat first | exact sub_nil | refine sub_cons z_4 ?_))) rfl rfl rfl z_7 ?_ | refine ga_readF 7 rfl (s_loadN rfl (fun w hw => peekBN hw (by assumption)) z_10) (by (first | exact fun _ h => h | (repeat first | exact sub_nil | refine sub_cons z_4 ?_))) rfl rfl rfl z_7 ?_)
    refine ga_one 8 rfl z_7 ?_
    refine gl_buildSliceU rfl rfl rfl rfl rfl rfl (xs := entC (p.term, ek, ed)) rfl rfl ?_; intro a67 ha67
    refine gl_nil ?_
    refine at_ga (.inr (by exact keeps_of (by (first | exact fun _ h => h | (repeat first | exact sub_nil | refine sub_cons z_4 ?_))))) ?_
    refine ga_one 9 rfl z_7 ?_
    refine gl_append (sz := 3) rfl rfl (fun a' c' => z_6) (fun w hw => (hw.ownN z_3).2.2.1) rfl rfl rfl (entC_one _) (by show (p.l.length + 1) * 32 ≤ 140737488355328; omega) (by show p.l.length + 1 ≤ 9223372036854775807; omega) rfl ?_; intro a68 c68 hc68
    refine gl_nil ?_
    refine at_ga (.inl z_7) ?_
    refine w_ 10 rfl (s_nilCheck rfl) ?_
    refine w_ 11 rfl z_1 ?_
    refine w_ 12 rfl z_1 ?_
    refine w_ 13 rfl z_1 ?_
    refine ga_one 14 rfl z_7 ?_
    (first | refine gl_store_blkC (pre := [_, _, _, _, _, _, _, _]) (post := [_, _, _, _, _, _, _, _, _, _]) rfl rfl z_6 z_10 z_10 z_10 ?_ | refine gl_store_blk rfl rfl z_6 z_10 z_2 z_10 ?_)
    refine gl_nil ?_
    refine at_ga (.inl z_7) ?_
    refine ga_done z_7 ?_
    repeat refine y_ ?_
    refine g_pull (H' := .blk g5 (.cells #[.int .u64 p.term, .int .i64 ek, B ed] 51) :: mdH X ⟨prop1 p ek ed, { a with la := a68, lc := c68 }, outs, oa0, oc0⟩) (fun w hw => by rw [prop1, mdH_ent]; exact hw.drop) ?_
    repeat refine y_ ?_
    refine g_region ?_
    refine f_ z_1 ?_
    refine r_ (by first | exact s_load_blk rfl z_3 a3_1 | exact s_load1 rfl (fun w hw => peekB hw (by assumption) a3_1)) ?_
    refine f_ ((s_eql rfl rfl).eq (v' := .bool false) (by rw [← hq2])) ?_
    refine gl_nil ?_
    repeat refine y_ ?_
    have ep : prop2 p ek ed = prop1 p ek ed := if_neg n2
    have hf2' := hf2
    rw [ep] at hf2'
    repeat refine y_ ?_
    refine g_region ?_
    refine m_ ?_
    refine gl_call [.blk g5 (.cells #[.int .u64 p.term, .int .i64 ek, B ed] 51)] rfl (commit_ct X ⟨prop1 p ek ed, { a with la := a68, lc := c68 }, outs, oa0, oc0⟩ hf2') (fun w hw => hw.perm (perm_up z_3 (perm_up z_3 (perm_up z_3 (perm_up z_3 (perm_up z_3 (perm_up z_3 (.refl _)))))))) (fun _ _ _ => trivial) rfl ?_; rintro v A ⟨rfl, d3, Z3, e3, o3, rfl, f3⟩
    refine gl_nil ?_
    repeat refine y_ ?_
    rw [← ep] at e3
    have l3 := outs_len o3
    simp only [List.length_nil] at l3
    obtain ⟨p3, a3, outs3, oa3, oc3⟩ := d3
    simp only at e3 l3
    subst e3
    repeat refine y_ ?_
    refine g_region ?_
    refine m_ ?_
    refine gl_call (Z3 ++ ([.blk g5 (.cells #[.int .u64 p.term, .int .i64 ek, B ed] 51)])) rfl (all_ct X ⟨commitP (prop2 p ek ed), a3, outs3, oa3, oc3⟩ hf3 (by simp only; omega)) (fun w hw => by rwa [List.append_assoc] at hw) (fun _ _ _ => trivial) rfl ?_; rintro v A ⟨rfl, ms, oa4, oc4, Z4, e4, rfl, f4⟩
    refine gl_nil ?_
    repeat refine y_ ?_
    simp only [List.append_nil] at o3
    repeat refine y_ ?_
    refine g_region ?_
    refine f_ (s_assign rfl) ?_
    refine gl_nil ?_
    repeat refine y_ ?_
    refine g_ret ?_
    exact at_end1 rfl rfl (mdH X ⟨commitP (prop2 p ek ed), a3, outs3 ++ ms, oa4, oc4⟩ ++ (Z4 ++ (Z3 ++ ([.blk g5 (.cells #[.int .u64 p.term, .int .i64 ek, B ed] 51)])))) ⟨rfl, ⟨commitP (prop2 p ek ed), a3, outs3 ++ ms, oa4, oc4⟩, _, rfl, by rw [List.map_append, e4, o3], rfl, fun h f hs m hm => by
      obtain ⟨s4, s32⟩ := Sat.two2 hs
      obtain ⟨s3, s2⟩ := Sat.two2 s32
      rcases List.mem_append.1 hm with hm | hm
      · exact f3 h (f) s3 m hm
      · exact f4 h s4 m hm⟩ (fun w hw => by rwa [List.append_assoc] at hw)
end Go.Proofs.YtodcghipfolejaaGreat.Rf
