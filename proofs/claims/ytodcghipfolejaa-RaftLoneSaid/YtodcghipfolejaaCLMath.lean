/- A node alone: what ticks and proposals do. -/
import Derived.Test.YtodcghipfolejaaCR11
namespace Go.Proofs.Ytodcghipfolejaa.Rf
open Go Go.Sl
set_option linter.unusedVariables false
set_option linter.unusedSimpArgs false

theorem confN_plain (g : LM) : ∀ k, (∀ i, i < k → isC (g.l.getD i E0) = false) → confN g k = (g.conf, g.base)
  | 0, _ => rfl
  | k + 1, h => by
    rw [confN, h k (Nat.lt_succ_self _), if_neg (by simp)]
    exact confN_plain g k (fun i hi => h i (Nat.lt_succ_of_lt hi))
theorem com_one {n i : Int} (hn : rightB [n] = true) (hi : 0 ≤ i) : com [n] [(n, i)] = i := by
  refine comI_end ⟨hi, ?_, ?_⟩
  · right
    simp [mostB, hn, whoL, cntB, inB]
  · intro j hj _
    have : j = 0 := by simp at hj; exact hj
    subst this
    exact Int.le_refl _
/-- a lone node's state, in any of its ways -/
structure Lone (n : Int) (p : RP) : Prop where
  id : p.id = n
  right : rightB [n] = true
  base : p.base = 0
  conf : p.conf = [n]
  plain : ∀ i, i < p.l.length → isC (p.l.getD i E0) = false
  peers : p.peers = []
theorem Lone.cf {n : Int} {p : RP} (h : Lone n p) : confAt p.g (lastI p.g) = ([n], 0) := by
  rw [confAt, confN_plain]
  · rw [show p.g.conf = p.conf from rfl, show p.g.base = p.base from rfl, h.conf, h.base]
  · intro i hi
    exact h.plain i (by have := Nat.min_le_left p.g.l.length (lastI p.g - p.g.base).toNat; show i < p.g.l.length; omega)
theorem Lone.confL {n : Int} {p : RP} (h : Lone n p) : confL p = [n] := by rw [Rf.confL, h.cf]
theorem Lone.confI {n : Int} {p : RP} (h : Lone n p) : confI p = 0 := by rw [Rf.confI, h.cf]
theorem Lone.last {n : Int} {p : RP} (h : Lone n p) : lastI p.g = (p.l.length : Int) := by
  rw [lastI, show p.g.base = p.base from rfl, h.base, Int.zero_add]
theorem Lone.inB {n : Int} {p : RP} (h : Lone n p) : inB (Rf.confL p) p.id = true := by rw [h.confL, h.id]; simp [Go.Proofs.Ytodcghipfolejaa.inB]
theorem Lone.commit {n : Int} {p : RP} (h : Lone n p) (hc : p.commit < (p.l.length : Int)) (ht : lastT p.g = p.term) : commitP p = { p with commit := (p.l.length : Int) } := by
  have e1 : comP p = (p.l.length : Int) := by
    rw [comP, h.confL, haveP, h.peers, h.id, List.map_nil, com_one h.right (by rw [h.last]; omega), h.last]
  have hl := last_term p.g (by rw [show p.g.base = p.base from rfl, h.base]; exact Int.le_refl _)
  rw [h.last] at hl
  have e2 : commit1 p = { p with commit := (p.l.length : Int) } := by
    rw [commit1, e1, if_pos ⟨hc, hl.2, by rw [hl.1, ht]⟩]
  rw [commitP, h.inB, if_neg (by simp), e2]
/-- before it stands -/
def S0 (n w k : Int) : RP := ⟨n, 0, 0, 0, 0, 0, 0, [n], [], [], 0, k, w, [], [], [], 0, 0⟩
/-- it leads -/
def SL (n w : Int) (ds : List Bs) : RP := ⟨n, 1, n, 2, n, 0, 0, [n], (1, 1, []) :: ds.map (fun d => (1, 3, d)), [], (ds.length : Int) + 1, 0, w, [], [], [], 0, 0⟩
theorem SL_plain (ds : List Bs) : ∀ i, isC (((1, 1, []) :: ds.map (fun d => ((1, 3, d) : Ent))).getD i E0) = false := by
  intro i
  rw [List.getD_eq_getElem?_getD]
  cases h : ((1, 1, []) :: ds.map (fun d => ((1, 3, d) : Ent)))[i]? with
  | none => rfl
  | some e =>
    have := List.mem_of_getElem? h
    rcases List.mem_cons.mp this with rfl | h2
    · rfl
    · obtain ⟨d, _, rfl⟩ := List.mem_map.mp h2
      rfl
theorem S0_lone {n w k : Int} (hn : rightB [n] = true) : Lone n (S0 n w k) := ⟨rfl, hn, rfl, rfl, fun i hi => absurd hi (Nat.not_lt_zero _), rfl⟩
theorem tick_wait {n w k : Int} (h : k + 1 < w) : tickP (S0 n w k) = S0 n w (k + 1) ∧ tickM (S0 n w k) = [] := by
  have e : stands (tick1 (S0 n w k)) = false := by
    rw [stands, decide_eq_false (by show ¬ w ≤ k + 1; omega), Bool.false_and]
  constructor
  · rw [tickP, if_neg (by show ¬ (0 : Int) = 2; decide), e, if_neg (by simp)]; rfl
  · rw [tickM, if_neg (by show ¬ (0 : Int) = 2; decide), e, if_neg (by simp)]
theorem SL_all {n w : Int} (ds : List Bs) : allP (SL n w ds) = [] := by
  rw [allP]; split <;> rfl
theorem tick_stand {n w k : Int} (hn : rightB [n] = true) (h : k + 1 = w) : tickP (S0 n w k) = SL n w [] ∧ tickM (S0 n w k) = [] := by
  have e1 : tick1 (S0 n w k) = S0 n w w := by rw [← h]; rfl
  have hl : Lone n (S0 n w w) := S0_lone hn
  have e : stands (S0 n w w) = true := by
    rw [stands, mayP, hl.inB, decide_eq_true (by show w ≤ w; omega), decide_eq_true (by show (0 : Int) < _; decide)]; rfl
  have l1 : Lone n (stand1 (S0 n w w)) := ⟨rfl, hn, rfl, rfl, fun i hi => absurd hi (Nat.not_lt_zero _), rfl⟩
  have e2 : wins (stand1 (S0 n w w)) = true := by
    rw [wins, l1.confL]
    show mostB [n] [n] = true
    simp [mostB, hn, cntB, inB]
  have l2 : Lone n (lead1 (stand1 (S0 n w w))) := ⟨rfl, hn, rfl, rfl, fun i hi => absurd hi (Nat.not_lt_zero _), rfl⟩
  have e3 : peersL (lead1 (stand1 (S0 n w w))) = [] := by
    rw [peersL, l2.confL]
    show List.map _ ([n].filter fun m => decide (m ≠ n)) = []
    simp
  have e4 : lead2 (stand1 (S0 n w w)) = ⟨n, 1, n, 2, n, 0, 0, [n], [(1, 1, [])], [], 0, 0, w, [], [], [], 0, 0⟩ := by
    rw [lead2, e3]; rfl
  have l4 : Lone n (⟨n, 1, n, 2, n, 0, 0, [n], [(1, 1, [])], [], 0, 0, w, [], [], [], 0, 0⟩ : RP) := ⟨rfl, hn, rfl, rfl, fun i _ => SL_plain [] i, rfl⟩
  have e5 : leadP (stand1 (S0 n w w)) = SL n w [] := by
    rw [leadP, e4, l4.commit (by show (0 : Int) < 1; decide) rfl]; rfl
  constructor
  · rw [tickP, if_neg (by show ¬ (0 : Int) = 2; decide), e1, e, if_pos rfl, standP, e2, if_pos rfl, e5]
  · rw [tickM, if_neg (by show ¬ (0 : Int) = 2; decide), e1, e, if_pos rfl, standM, e2, if_pos rfl, leadM, e5, SL_all]
theorem prop_ok {n w : Int} (ds : List Bs) (d : Bs) (hn : rightB [n] = true) (hl : ds.length ≤ 1000) (hd : d.length ≤ 2048) : propE (SL n w ds) 3 d = 0 ∧ propP (SL n w ds) 3 d = SL n w (ds ++ [d]) ∧ propM (SL n w ds) 3 d = [] := by
  have e0 : propE (SL n w ds) 3 d = 0 := by
    rw [propE, if_neg (by show ¬ (2 : Int) ≠ 2; decide), if_neg (by decide), if_neg (by omega), if_neg (by show ¬ 1024 ≤ ((1, 1, []) :: ds.map (fun d => ((1, 3, d) : Ent))).length; rw [List.length_cons, List.length_map]; omega), if_neg (by decide)]
  have e1 : prop2 (SL n w ds) 3 d = ⟨n, 1, n, 2, n, 0, 0, [n], (1, 1, []) :: (ds ++ [d]).map (fun d => (1, 3, d)), [], (ds.length : Int) + 1, 0, w, [], [], [], 0, 0⟩ := by
    rw [prop2, if_neg (by decide), prop1, List.map_append]; rfl
  have l1 : Lone n (⟨n, 1, n, 2, n, 0, 0, [n], (1, 1, []) :: (ds ++ [d]).map (fun d => (1, 3, d)), [], (ds.length : Int) + 1, 0, w, [], [], [], 0, 0⟩ : RP) := ⟨rfl, hn, rfl, rfl, fun i _ => SL_plain _ i, rfl⟩
  have hlen : ((1, 1, []) :: (ds ++ [d]).map (fun d => ((1, 3, d) : Ent))).length = ds.length + 2 := by simp
  have e2 : commitP (prop2 (SL n w ds) 3 d) = SL n w (ds ++ [d]) := by
    rw [e1, l1.commit]
    · rw [SL]
      simp
    · show (ds.length : Int) + 1 < ((((1, 1, []) :: (ds ++ [d]).map (fun d => ((1, 3, d) : Ent))).length : Nat) : Int)
      rw [hlen]; omega
    · show lastT (⟨0, 0, [n], (1, 1, []) :: (ds ++ [d]).map (fun d => (1, 3, d)), none, 0, none, 0⟩ : LM) = 1
      rw [lastT]
      simp
  refine ⟨e0, ?_, ?_⟩
  · rw [propP, e0, if_pos rfl, e2]
  · rw [propM, e0, if_pos rfl, e2, SL_all]
theorem prop_long {n w : Int} (ds : List Bs) (d : Bs) (hd : 2048 < d.length) : propE (SL n w ds) 3 d = 2 := by
  rw [propE, if_neg (by show ¬ (2 : Int) ≠ 2; decide), if_neg (by decide), if_pos hd]
theorem S0_fit {n w k : Int} (hk : 0 ≤ k ∧ k ≤ 2000) : PFit (S0 n w k) := by
  refine ⟨⟨?_, ?_⟩, ?_, ?_, fun i hi => absurd hi (Nat.not_lt_zero _), ?_, ?_, ?_, (fun q hq => nomatch hq), ⟨hk.1, by show k ≤ _; omega⟩, ⟨?_, ?_⟩, ⟨?_, ?_⟩⟩
  · show (0 : Int) ≤ 0; decide
  · show (0 : Int) ≤ _; decide
  · show 0 ≤ _; decide
  · show 1 ≤ _; decide
  · show 0 ≤ _; decide
  · show 0 ≤ _; decide
  · show 0 ≤ _; decide
  · show (0 : Int) ≤ 0; decide
  · show (0 : Int) ≤ _; decide
  · show (0 : Int) ≤ 0; decide
  · show (0 : Int) ≤ _; decide
theorem SL_fit {n w : Int} (ds : List Bs) (hl : ds.length ≤ 1000) (hd : ∀ d ∈ ds, d.length ≤ 2048) : PFit (SL n w ds) := by
  refine ⟨⟨by show (0 : Int) ≤ 0; decide, by show (0 : Int) ≤ _; decide⟩, ?_, by show 1 ≤ _; decide, ?_, by show 0 ≤ _; decide, by show 0 ≤ _; decide, by show 0 ≤ _; decide, (fun q hq => nomatch hq), ⟨by show (0 : Int) ≤ 0; decide, by show (0 : Int) ≤ _; decide⟩, ⟨by show (0 : Int) ≤ 1; decide, by show (1 : Int) ≤ _; decide⟩, ⟨?_, ?_⟩⟩
  · show ((1, 1, []) :: ds.map (fun d => ((1, 3, d) : Ent))).length ≤ _
    rw [List.length_cons, List.length_map]; omega
  · intro i hi
    show (((1, 1, []) :: ds.map (fun d => ((1, 3, d) : Ent))).getD i E0).2.2.length ≤ _
    rw [List.getD_eq_getElem?_getD]
    cases h : ((1, 1, []) :: ds.map (fun d => ((1, 3, d) : Ent)))[i]? with
    | none => show 0 ≤ _; decide
    | some e =>
      rcases List.mem_cons.mp (List.mem_of_getElem? h) with rfl | h2
      · show 0 ≤ _; decide
      · obtain ⟨d, hm, rfl⟩ := List.mem_map.mp h2
        have := hd d hm
        show d.length ≤ _
        omega
  · show (0 : Int) ≤ (ds.length : Int) + 1; omega
  · show (ds.length : Int) + 1 ≤ _; omega
end Go.Proofs.Ytodcghipfolejaa.Rf
