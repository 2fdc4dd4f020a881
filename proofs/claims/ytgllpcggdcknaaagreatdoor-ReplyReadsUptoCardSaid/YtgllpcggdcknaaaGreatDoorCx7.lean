import Derived.Test.YtgllpcggdcknaaaGreatDoorCx6
set_option linter.unusedVariables false
set_option linter.unusedSimpArgs false
namespace Go.Proofs.YtgllpcggdcknaaaGreatDoor.Rp
open Go Go.Sl
theorem system_ct (k : Nat) (hk : k < 5) : Pu Tryz.prog 104 [.int .i64 (k : Nat)] (fun _ => True) (B (sysL.getD k [])) := by
 refine ct_enter 12 Tryz.func104 rfl rfl rfl ?_
 intro F _
 repeat refine x_ ?_
 refine a_ ?_
 repeat refine x_ ?_
 refine m_ ?_
 repeat refine n_ ?_
 rcases (show k = 0 ∨ k = 1 ∨ k = 2 ∨ k = 3 ∨ k = 4 by omega) with rfl | rfl | rfl | rfl | rfl
 ·repeat refine y_ ?_
  refine g_region ?_
  refine f_ (s_eql rfl rfl) ?_
  refine a_ ?_
  repeat refine x_ ?_
  refine a_ ?_
  repeat refine n_ ?_
  refine g_ret ?_
  exact at_end1 rfl rfl [] ⟨rfl, rfl⟩ (fun _ h => h)
 ·repeat refine y_ ?_
  refine g_region ?_
  refine f_ (s_eql rfl rfl) ?_
  refine a_ ?_
  repeat refine x_ ?_
  refine f_ (s_eql rfl rfl) ?_
  refine a_ ?_
  repeat refine x_ ?_
  refine a_ ?_
  repeat refine n_ ?_
  refine g_ret ?_
  exact at_end1 rfl rfl [] ⟨rfl, rfl⟩ (fun _ h => h)
 ·repeat refine y_ ?_
  refine g_region ?_
  refine f_ (s_eql rfl rfl) ?_
  refine a_ ?_
  repeat refine x_ ?_
  refine f_ (s_eql rfl rfl) ?_
  refine a_ ?_
  repeat refine x_ ?_
  refine f_ (s_eql rfl rfl) ?_
  refine a_ ?_
  repeat refine x_ ?_
  refine a_ ?_
  repeat refine n_ ?_
  refine g_ret ?_
  exact at_end1 rfl rfl [] ⟨rfl, rfl⟩ (fun _ h => h)
 ·repeat refine y_ ?_
  refine g_region ?_
  refine f_ (s_eql rfl rfl) ?_
  refine a_ ?_
  repeat refine x_ ?_
  refine f_ (s_eql rfl rfl) ?_
  refine a_ ?_
  repeat refine x_ ?_
  refine f_ (s_eql rfl rfl) ?_
  refine a_ ?_
  repeat refine x_ ?_
  refine f_ (s_eql rfl rfl) ?_
  refine a_ ?_
  repeat refine x_ ?_
  refine a_ ?_
  repeat refine n_ ?_
  refine g_ret ?_
  exact at_end1 rfl rfl [] ⟨rfl, rfl⟩ (fun _ h => h)
 ·repeat refine y_ ?_
  refine g_region ?_
  refine f_ (s_eql rfl rfl) ?_
  refine a_ ?_
  repeat refine x_ ?_
  refine f_ (s_eql rfl rfl) ?_
  refine a_ ?_
  repeat refine x_ ?_
  refine f_ (s_eql rfl rfl) ?_
  refine a_ ?_
  repeat refine x_ ?_
  refine f_ (s_eql rfl rfl) ?_
  refine a_ ?_
  repeat refine x_ ?_
  refine a_ ?_
  repeat refine n_ ?_
  refine g_ret ?_
  exact at_end1 rfl rfl [] ⟨rfl, rfl⟩ (fun _ h => h)
theorem idx_at : ∀ {l : List Bs} {f : Bs} {k : Nat}, k < l.length → (∀ j, j < k → l.getD j [] ≠ f) → l.getD k [] = f → l.idxOf f = k
 | [], _, _, h, _, _ => by simp at h
 | x :: t, f, 0, _, _, h => by
  have : x = f := h
  simp [List.idxOf_cons, this]
 | x :: t, f, k + 1, hk, hno, h => by
  have hx : x ≠ f := hno 0 (by omega)
  have := idx_at (l := t) (f := f) (k := k) (by simpa using hk) (fun j hj => by have := hno (j + 1) (by omega); simpa using this) (by simpa using h)
  have hb : (x == f) = false := by simpa using hx
  rw [List.idxOf_cons, hb, this]
  rfl
theorem idx_none : ∀ {l : List Bs} {f : Bs}, (∀ j, j < l.length → l.getD j [] ≠ f) → l.idxOf f = l.length
 | [], _, _ => rfl
 | x :: t, f, hno => by
  have hx : x ≠ f := hno 0 z_7
  have hb : (x == f) = false := by simpa using hx
  rw [List.idxOf_cons, hb, idx_none fun j hj => by have := hno (j + 1) (by simpa using hj); simpa using this]
  rfl
theorem place_ct (f : Bs) : Pu Tryz.prog 105 [B f] (fun _ => True) (.int .i64 (placeS f : Nat)) := by
 refine ct_enter 13 Tryz.func105 rfl rfl rfl ?_
 intro F _
 repeat refine x_ ?_
 refine a_ ?_
 repeat refine x_ ?_
 refine a_ ?_
 repeat refine n_ ?_
 refine g_loop (ι := Nat) (fun k => k ≤ 5 ∧ ∀ j, j < k → sysL.getD j [] ≠ f) (fun k => [(0, B f), (3, .int .i64 (k : Nat))]) (fun _ => []) (fun k => 5 - k) 0 ⟨by omega, fun j h => by omega⟩ ?_ ?_ ?_
 ·(repeat (first | exact Sub.nil _ | refine Sub.cons rfl ?_))
 ·intro w hw; exact hw
 ·rintro k ⟨hk, hno⟩
  repeat refine x_ ?_
  refine m_ ?_
  refine f_ (s_lss rfl rfl) ?_
  repeat refine n_ ?_
  refine g_cond rfl (fun h => ?_) (fun h => ?_)
  ·have hk' : k < 5 := by simp at h; omega
   repeat refine x_ ?_
   refine m_ ?_
   refine gl_callp rfl (system_ct _ (by omega)) (fun h hh hb => by first | trivial | (first | exact RdS.le (by assumption) hh | (obtain ⟨bs, hb⟩ := hb; exact Sat.rd hb (z_3))) | (refine ⟨?_, ?_⟩ <;> (first | exact RdS.le (by assumption) hh | (obtain ⟨bs, hb⟩ := hb; exact Sat.rd hb (z_3)))) | (refine ⟨?_, ?_, ?_⟩ <;> (first | exact RdS.le (by assumption) hh | (obtain ⟨bs, hb⟩ := hb; exact Sat.rd hb (z_3))))) rfl ?_
   refine m_ ?_
   refine f_ (s_eql_str rfl rfl) ?_
   repeat refine n_ ?_
   refine g_cond rfl (fun h2 => ?_) (fun h2 => ?_)
   ·have h3 := of_decide_eq_true h2
    have e : placeS f = k := idx_at hk' hno h3
    rw [e]
    repeat refine x_ ?_
    refine m_ ?_
    refine a_ ?_
    repeat refine n_ ?_
    refine g_ret ?_
    exact at_end1 rfl rfl [] ⟨rfl, rfl⟩ (fun _ h => h)
   ·have h3 := of_decide_eq_false h2
    repeat refine x_ ?_
    refine m_ ?_
    refine f_ (s_add_i64 rfl rfl (by omega)) ?_
    refine a_ ?_
    repeat refine n_ ?_
    refine at_next (k + 1) ⟨by omega, fun j hj => ?_⟩ (by omega) ?_ ?_
    ·rcases Nat.lt_succ_iff_lt_or_eq.1 hj with h4 | rfl
     ·exact hno j h4
     ·exact h3
    ·(repeat (first | exact Sub.nil _ | refine Sub.cons rfl ?_))
    ·intro w hw; exact hw
  ·have hkl : k = 5 := by simp at h; omega
   have e : placeS f = 5 := idx_none fun j hj => hno j (by have : sysL.length = 5 := rfl; omega)
   rw [e]
   repeat refine x_ ?_
   refine a_ ?_
   repeat refine n_ ?_
   refine g_ret ?_
   exact at_end1 rfl rfl [] ⟨rfl, rfl⟩ (fun _ h => h)
theorem less_ct (a b : Bs) : Pu Tryz.prog 79 [B a, B b] (fun _ => True) (.bool (lessS a b)) := by
 refine ct_enter 18 Tryz.func79 rfl rfl rfl ?_
 intro F _
 repeat refine x_ ?_
 refine a_ ?_
 repeat refine x_ ?_
 refine m_ ?_
 refine gl_callp rfl (place_ct _) (fun h hh hb => by first | trivial | (first | exact RdS.le (by assumption) hh | (obtain ⟨bs, hb⟩ := hb; exact Sat.rd hb (z_3))) | (refine ⟨?_, ?_⟩ <;> (first | exact RdS.le (by assumption) hh | (obtain ⟨bs, hb⟩ := hb; exact Sat.rd hb (z_3)))) | (refine ⟨?_, ?_, ?_⟩ <;> (first | exact RdS.le (by assumption) hh | (obtain ⟨bs, hb⟩ := hb; exact Sat.rd hb (z_3))))) rfl ?_
 refine m_ ?_
 refine gl_callp rfl (place_ct _) (fun h hh hb => by first | trivial | (first | exact RdS.le (by assumption) hh | (obtain ⟨bs, hb⟩ := hb; exact Sat.rd hb (z_3))) | (refine ⟨?_, ?_⟩ <;> (first | exact RdS.le (by assumption) hh | (obtain ⟨bs, hb⟩ := hb; exact Sat.rd hb (z_3)))) | (refine ⟨?_, ?_, ?_⟩ <;> (first | exact RdS.le (by assumption) hh | (obtain ⟨bs, hb⟩ := hb; exact Sat.rd hb (z_3))))) rfl ?_
 refine f_ (s_neq rfl rfl) ?_
 repeat refine n_ ?_
 refine g_cond rfl (fun h => ?_) (fun h => ?_)
 ·have hne : placeS a ≠ placeS b := by simp at h; omega
  have e : lessS a b = decide (((placeS a : Nat) : Int) < (placeS b : Nat)) := by
   unfold lessS
   rw [if_pos hne]
   exact decide_eq_decide.mpr (by omega)
  rw [e]
  repeat refine x_ ?_
  refine m_ ?_
  refine gl_callp rfl (place_ct _) (fun h hh hb => by first | trivial | (first | exact RdS.le (by assumption) hh | (obtain ⟨bs, hb⟩ := hb; exact Sat.rd hb (z_3))) | (refine ⟨?_, ?_⟩ <;> (first | exact RdS.le (by assumption) hh | (obtain ⟨bs, hb⟩ := hb; exact Sat.rd hb (z_3)))) | (refine ⟨?_, ?_, ?_⟩ <;> (first | exact RdS.le (by assumption) hh | (obtain ⟨bs, hb⟩ := hb; exact Sat.rd hb (z_3))))) rfl ?_
  refine m_ ?_
  refine gl_callp rfl (place_ct _) (fun h hh hb => by first | trivial | (first | exact RdS.le (by assumption) hh | (obtain ⟨bs, hb⟩ := hb; exact Sat.rd hb (z_3))) | (refine ⟨?_, ?_⟩ <;> (first | exact RdS.le (by assumption) hh | (obtain ⟨bs, hb⟩ := hb; exact Sat.rd hb (z_3)))) | (refine ⟨?_, ?_, ?_⟩ <;> (first | exact RdS.le (by assumption) hh | (obtain ⟨bs, hb⟩ := hb; exact Sat.rd hb (z_3))))) rfl ?_
  refine f_ (s_lss rfl rfl) ?_
  refine a_ ?_
  repeat refine n_ ?_
  refine g_ret ?_
  exact at_end1 rfl rfl [] ⟨rfl, rfl⟩ (fun _ h => h)
 ·have hne : ¬(placeS a ≠ placeS b) := by simp at h; omega
  have e : lessS a b = Op.bytesLess a b := by
   unfold lessS
   rw [if_neg hne]
   rfl
  rw [e]
  repeat refine x_ ?_
  refine m_ ?_
  refine m_ ?_
  refine f_ (s_lss_str rfl rfl) ?_
  refine a_ ?_
  repeat refine n_ ?_
  refine g_ret ?_
  exact at_end1 rfl rfl [] ⟨rfl, rfl⟩ (fun _ h => h)
theorem find_at : ∀ {l : List Bs} {p : Bs → Bool} {k : Nat}, k < l.length → (∀ j, j < k → p (l.getD j []) = false) → p (l.getD k []) = true → l.find? p = some (l.getD k [])
 | [], _, _, h, _, _ => by simp at h
 | x :: t, p, 0, _, _, h => by
  have h : p x = true := h
  simp [List.find?_cons, h]
 | x :: t, p, k + 1, hk, hno, h => by
  have hx : p x = false := hno 0 (by omega)
  have := find_at (l := t) (p := p) (k := k) (by simpa using hk) (fun j hj => by have := hno (j + 1) (by omega); simpa using this) (by simpa using h)
  rw [List.find?_cons, hx]
  simpa using this
theorem find_no {l : List Bs} {p : Bs → Bool} (h : ∀ j, j < l.length → p (l.getD j []) = false) : l.find? p = none := by
 rw [List.find?_eq_none]
 intro x hx
 obtain ⟨j, hj, rfl⟩ := List.getElem_of_mem hx
 have := h j hj
 rw [List.getD_eq_getElem?_getD, List.getElem?_eq_getElem hj] at this
 simp at this
 simp [this]
theorem sys_len {k : Nat} (hk : k < 5) : (sysL.getD k []).length ≤ 9 := by
 have : ∀ k, k < 5 → (sysL.getD k []).length ≤ 9 := by decide
 exact this k hk
theorem CanonR_ct (s : Bs) (hl : s.length ≤ big) : Pu Tryz.prog 78 [B s] (fun _ => True) (optV (canonS s)) := by
 unfold big at hl
 refine ct_enter 52 Tryz.func78 rfl rfl rfl ?_
 intro F _
 repeat refine x_ ?_
 refine a_ ?_
 refine a_ ?_
 repeat refine x_ ?_
 refine a_ ?_
 repeat refine n_ ?_
 refine g_loop (ι := Nat) (fun k => k ≤ 5 ∧ ∀ j, j < k → (upS (sysL.getD j []) == upS s) = false) (fun k => [(0, B s), (4, .int .i64 (k : Nat))]) (fun _ => []) (fun k => 5 - k) 0 ⟨by omega, fun j h => by omega⟩ ?_ ?_ ?_
 ·(repeat (first | exact Sub.nil _ | refine Sub.cons rfl ?_))
 ·intro w hw; exact hw
 ·rintro k ⟨hk, hno⟩
  repeat refine x_ ?_
  refine m_ ?_
  refine f_ (s_lss rfl rfl) ?_
  repeat refine n_ ?_
  refine g_cond rfl (fun h => ?_) (fun h => ?_)
  ·have hk' : k < 5 := by simp at h; omega
   have hsl := sys_len hk'
   repeat refine x_ ?_
   refine m_ ?_
   refine gl_callp rfl (system_ct _ (by omega)) (fun h hh hb => by first | trivial | (first | exact RdS.le (by assumption) hh | (obtain ⟨bs, hb⟩ := hb; exact Sat.rd hb (z_3))) | (refine ⟨?_, ?_⟩ <;> (first | exact RdS.le (by assumption) hh | (obtain ⟨bs, hb⟩ := hb; exact Sat.rd hb (z_3)))) | (refine ⟨?_, ?_, ?_⟩ <;> (first | exact RdS.le (by assumption) hh | (obtain ⟨bs, hb⟩ := hb; exact Sat.rd hb (z_3))))) rfl ?_
   refine gl_callp rfl (UpperR_ct _ (by omega)) (fun h hh hb => by first | trivial | (first | exact RdS.le (by assumption) hh | (obtain ⟨bs, hb⟩ := hb; exact Sat.rd hb (z_3))) | (refine ⟨?_, ?_⟩ <;> (first | exact RdS.le (by assumption) hh | (obtain ⟨bs, hb⟩ := hb; exact Sat.rd hb (z_3)))) | (refine ⟨?_, ?_, ?_⟩ <;> (first | exact RdS.le (by assumption) hh | (obtain ⟨bs, hb⟩ := hb; exact Sat.rd hb (z_3))))) rfl ?_
   refine m_ ?_
   refine gl_callp rfl (UpperR_ct _ (by omega)) (fun h hh hb => by first | trivial | (first | exact RdS.le (by assumption) hh | (obtain ⟨bs, hb⟩ := hb; exact Sat.rd hb (z_3))) | (refine ⟨?_, ?_⟩ <;> (first | exact RdS.le (by assumption) hh | (obtain ⟨bs, hb⟩ := hb; exact Sat.rd hb (z_3)))) | (refine ⟨?_, ?_, ?_⟩ <;> (first | exact RdS.le (by assumption) hh | (obtain ⟨bs, hb⟩ := hb; exact Sat.rd hb (z_3))))) rfl ?_
   refine f_ (s_eql_str rfl rfl) ?_
   repeat refine n_ ?_
   refine g_cond rfl (fun h2 => ?_) (fun h2 => ?_)
   ·have h3 := of_decide_eq_true h2
    have e : canonS s = some (sysL.getD k []) := by
     unfold canonS
     rw [find_at hk' hno (by simpa using h3)]
    rw [e]
    repeat refine x_ ?_
    refine m_ ?_
    refine gl_callp rfl (system_ct _ (by omega)) (fun h hh hb => by first | trivial | (first | exact RdS.le (by assumption) hh | (obtain ⟨bs, hb⟩ := hb; exact Sat.rd hb (z_3))) | (refine ⟨?_, ?_⟩ <;> (first | exact RdS.le (by assumption) hh | (obtain ⟨bs, hb⟩ := hb; exact Sat.rd hb (z_3)))) | (refine ⟨?_, ?_, ?_⟩ <;> (first | exact RdS.le (by assumption) hh | (obtain ⟨bs, hb⟩ := hb; exact Sat.rd hb (z_3))))) rfl ?_
    refine a_ ?_
    refine a_ ?_
    repeat refine n_ ?_
    refine g_ret ?_
    exact at_end2 rfl rfl rfl [] ⟨rfl, rfl⟩ (fun _ h => h)
   ·have h3 := of_decide_eq_false h2
    repeat refine x_ ?_
    refine m_ ?_
    refine f_ (s_add_i64 rfl rfl (by omega)) ?_
    refine a_ ?_
    repeat refine n_ ?_
    refine at_next (k + 1) ⟨by omega, fun j hj => ?_⟩ (by omega) ?_ ?_
    ·rcases Nat.lt_succ_iff_lt_or_eq.1 hj with h4 | rfl
     ·exact hno j h4
     ·simpa using h3
    ·(repeat (first | exact Sub.nil _ | refine Sub.cons rfl ?_))
    ·intro w hw; exact hw
  ·have hkl : k = 5 := by simp at h; omega
   have hf : sysL.find? (fun f => upS f == upS s) = none := find_no fun j hj => hno j (by have : sysL.length = 5 := rfl; omega)
   have hc : canonS s = if atomS s = true ∧ s.length ≤ 32 then some (lowS s) else none := by unfold canonS; rw [hf]
   obtain ⟨q1, hq1⟩ : ∃ q, q = atomS s := ⟨_, rfl⟩
   obtain ⟨q2, hq2⟩ : ∃ q, q = decide ((32 : Int) < (s.length : Nat)) := ⟨_, rfl⟩
   repeat refine y_ ?_
   refine g_cutK [(0, B s), (27, .bool (!q1 || q2))] [] ?_ ?_
   ·cases q1 <;> cases q2
    all_goals (
     repeat refine x_ ?_
     refine m_ ?_
     refine gl_callp rfl (AtomR_ct s (by omega)) (fun _ _ _ => trivial) rfl ?_; rw [← hq1]
     refine f_ (s_not rfl) ?_
     refine m_ ?_
     (first | refine gl_guard_no rfl rfl rfl rfl rfl rfl rfl ?_ | (refine v_ ?_; refine m_ ?_))
     (first | refine gl_guard_no rfl rfl rfl rfl rfl rfl rfl ?_ | (refine v_ ?_; refine f_ (s_len_str rfl) ?_))
     (first | refine gl_guard_no rfl rfl rfl rfl rfl rfl rfl ?_ | (refine v_ ?_; refine f_ ((s_gtr rfl rfl).eb hq2) ?_))
     refine f_ z_4 ?_
     refine gl_nil ?_
     repeat refine y_ ?_)
    all_goals exact at_cut j_ i_
   ·repeat refine y_ ?_
    refine g_cond rfl (fun h6 => ?_) (fun h6 => ?_)
    ·have e : canonS s = none := by
      rw [hc, if_neg]
      rintro ⟨a, b⟩
      rw [a] at hq1
      subst hq1
      have := of_decide_eq_true (hq2.symm.trans (by simpa using h6))
      omega
     rw [e]
     repeat refine x_ ?_
     refine a_ ?_
     refine a_ ?_
     repeat refine n_ ?_
     refine g_ret ?_
     exact at_end2 rfl rfl rfl [] ⟨rfl, rfl⟩ (fun _ h => h)
    ·have e : canonS s = some (lowS s) := by
      rw [hc, if_pos]
      simp only [Bool.or_eq_false_iff, Bool.not_eq_false'] at h6
      refine ⟨hq1 ▸ h6.1, ?_⟩
      have := of_decide_eq_false (hq2.symm.trans h6.2)
      omega
     rw [e]
     repeat refine x_ ?_
     refine a_ ?_
     repeat refine x_ ?_
     refine a_ ?_
     repeat refine n_ ?_
     refine g_loop (ι := Nat) (fun k => k ≤ s.length) (fun k => [(0, B s), (5, B (lowS (s.take k))), (6, .int .i64 (k : Nat))]) (fun _ => []) (fun k => s.length - k) 0 (by omega) ?_ ?_ ?_
     ·(repeat (first | exact Sub.nil _ | refine Sub.cons rfl ?_))
     ·intro w hw; exact hw
     ·rintro k hk
      have hlt : (lowS (s.take k)).length ≤ s.length := by unfold lowS; rw [List.length_map, List.length_take]; omega
      repeat refine x_ ?_
      refine m_ ?_
      refine m_ ?_
      refine f_ (s_len_str rfl) ?_
      refine f_ (s_lss rfl rfl) ?_
      repeat refine n_ ?_
      refine g_cond rfl (fun h => ?_) (fun h => ?_)
      ·have hk' : k < s.length := by simp at h; omega
       have hu : lowS (s.take (k + 1)) = lowS (s.take k) ++ [lowC (s.getD k 0)] := take_succ_map lowC hk'
       repeat refine x_ ?_
       refine m_ ?_
       refine m_ ?_
       refine f_ ((s_index_str rfl rfl (by omega)).eq (v' := U8 (s.getD k 0)) (by simp only [Int.toNat_natCast])) ?_
       refine a_ ?_
       repeat refine n_ ?_
       generalize s.getD k 0 = c at hu ⊢
       have hcb := c.toNat_lt
       obtain ⟨p1, h1⟩ : ∃ q, q = decide ((65 : Int) ≤ (c.toNat : Nat)) := ⟨_, rfl⟩
       obtain ⟨p2, h2⟩ : ∃ q, q = decide (((c.toNat : Nat) : Int) ≤ 90) := ⟨_, rfl⟩
       repeat refine y_ ?_
       refine g_cutK [(0, B s), (5, B (lowS (s.take k))), (6, .int .i64 (k : Nat)), (7, U8 c), (42, .bool (p1 && p2))] [] ?_ ?_
       ·cases p1 <;> cases p2
        all_goals (
         repeat refine x_ ?_
         refine m_ ?_
         refine f_ ((s_geq rfl rfl).eb h1) ?_
         refine m_ ?_
         (first | refine gl_guard_no rfl rfl rfl rfl rfl rfl rfl ?_ | (refine v_ ?_; refine m_ ?_))
         (first | refine gl_guard_no rfl rfl rfl rfl rfl rfl rfl ?_ | (refine v_ ?_; refine f_ ((s_leq rfl rfl).eb h2) ?_))
         refine f_ z_4 ?_
         refine gl_nil ?_
         repeat refine y_ ?_)
        all_goals exact at_cut j_ i_
       ·repeat refine y_ ?_
        refine g_cond rfl (fun h7 => ?_) (fun h7 => ?_)
        ·simp only [Bool.and_eq_true] at h7
         have b1 : 65 ≤ c.toNat := by have := of_decide_eq_true (h1.symm.trans h7.1); omega
         have b2 : c.toNat ≤ 90 := by have := of_decide_eq_true (h2.symm.trans h7.2); omega
         repeat refine x_ ?_
         refine m_ ?_
         refine f_ ((s_sub_raw rfl rfl).eq (v' := .int .u8 ((c.toNat : Nat) - 65)) (by rw [wrap_u8_in (by omega)])) ?_
         refine f_ ((s_add_raw rfl rfl).eq (v' := U8 (lowC c)) (by rw [wrap_u8_in (by omega)]; exact lowC_add ⟨b1, b2⟩)) ?_
         refine a_ ?_
         repeat refine x_ ?_
         refine m_ ?_
         refine m_ ?_
         refine gl_buildSliceU rfl rfl rfl rfl rfl rfl (xs := bytesV [lowC c]) rfl rfl ?_; intro a26 ha26
         refine r_ (s_string (l := [lowC c]) rfl rfl (fun w hw => (hw.ownN z_3).2.2.1)) ?_
         refine f_ ((s_add_str rfl rfl (by simp; omega)).eq (v' := B (lowS (s.take (k + 1)))) (by rw [hu])) ?_
         refine a_ ?_
         repeat refine x_ ?_
         refine m_ ?_
         refine f_ (s_add_i64 rfl rfl (by omega)) ?_
         refine a_ ?_
         repeat refine n_ ?_
         refine at_next (k + 1) (by omega) (by omega) ?_ ?_
         ·(repeat (first | exact Sub.nil _ | refine Sub.cons rfl ?_))
         ·intro w hw; exact hw.dropAll
        ·have keep : lowC c = c := by
          unfold lowC
          rw [if_neg]
          rintro ⟨a, b⟩
          have t1 : p1 = true := h1.trans (decide_eq_true (by omega))
          have t2 : p2 = true := h2.trans (decide_eq_true (by omega))
          rw [t1, t2] at h7
          cases h7
         repeat refine x_ ?_
         refine m_ ?_
         refine m_ ?_
         refine gl_buildSliceU rfl rfl rfl rfl rfl rfl (xs := bytesV [c]) rfl rfl ?_; intro a26 ha26
         refine r_ (s_string (l := [c]) rfl rfl (fun w hw => (hw.ownN z_3).2.2.1)) ?_
         refine f_ ((s_add_str rfl rfl (by simp; omega)).eq (v' := B (lowS (s.take (k + 1)))) (by rw [hu, keep])) ?_
         refine a_ ?_
         repeat refine x_ ?_
         refine m_ ?_
         refine f_ (s_add_i64 rfl rfl (by omega)) ?_
         refine a_ ?_
         repeat refine n_ ?_
         refine at_next (k + 1) (by omega) (by omega) ?_ ?_
         ·(repeat (first | exact Sub.nil _ | refine Sub.cons rfl ?_))
         ·intro w hw; exact hw.dropAll
      ·have hkl : k = s.length := by simp at h; omega
       have e2 : lowS (s.take k) = lowS s := by rw [hkl, List.take_length]
       rw [e2]
       repeat refine x_ ?_
       refine m_ ?_
       refine a_ ?_
       refine a_ ?_
       repeat refine n_ ?_
       refine g_ret ?_
       exact at_end2 rfl rfl rfl [] ⟨rfl, rfl⟩ (fun _ h => h)
end Go.Proofs.YtgllpcggdcknaaaGreatDoor.Rp
namespace Go.Proofs.YtgllpcggdcknaaaGreatDoor.Rp
open Go Go.Sl
theorem g_some {P : Program} {N : Nat} {K R : Kont} {E : List (Nat × Kont)} {L : Lcs} {F : Snap} {H : List As} {c : Code} {Q : Prop} (k : ∀ w, Hp F w H → Q) (h : Q → G P N c K E R L F H) : G P N c K E R L F H := by
 unfold G
 intro a w hf hw
 have := h (k w hw)
 unfold G at this
 exact this a w hf hw
def fV (l : List Bs) : List Value := l.map fun f => B f
theorem fV_len (l : List Bs) : (fV l).length = l.length := by simp [fV]
theorem fV_one (l : List Bs) : ∀ q ∈ fV l, q.oneCell' = true := fun q hq => by
 obtain ⟨x, _, rfl⟩ := List.mem_map.mp hq
 rfl
theorem fV_append (a b : List Bs) : fV (a ++ b) = fV a ++ fV b := by simp [fV]
abbrev OwnS (a : Option Addr) (l : List Bs) (c : Nat) : As := .own (.slice a l.length c) 9 1 (fV l)
theorem rdB_some {h : Heap} {a : Option Addr} {l : List Bs} {i : Nat} (r : RdS h a (fV l)) (hi : i < l.length) : ∃ ad, a = some ad := by
 obtain ⟨ad, e, _⟩ := r (by intro e; have := congrArg List.length e; rw [fV_len] at this; simp at this; subst this; simp at hi)
 exact ⟨ad, e⟩
theorem rdB {F : Snap} {w : World} {H : List As} {a : Option Addr} {l : List Bs} (hw : Hp F w H) (r : RdS F.heap a (fV l)) {q i : Nat} (h : q = i) (hi : i < l.length) : PeekC (hp w) (addO a q) [B (l.getD i [])] :=
 peek_rd hw r z_7 (fun j u hu => by
  match j, hu with
  | 0, hu =>
   simp at hu; subst hu h
   simp [fV, hi])
theorem rdB_own {F : Snap} {w : World} {H H' : List As} {ys : List As} {a : Option Addr} {n c : Nat} {te : TypeId} {l : List Bs} (hw : Hp F w H) (u : Upd H (.own (.slice a n c) te 1 (fV l)) ys H') {q i : Nat} (h : q = i) (hi : i < l.length) : PeekC (hp w) (addO a q) [B (l.getD i [])] :=
 peek_own hw u z_7 (fun j u hu => by
  match j, hu with
  | 0, hu =>
   simp at hu; subst hu h
   simp [fV, hi])
theorem HasR_ct (l : List Bs) (f : Bs) (a : Option Addr) (c : Nat) (hl : l.length ≤ big) : Pu Tryz.prog 124 [.slice a l.length c, B f] (fun h => RdS h a (fV l)) (.bool (decide (f ∈ l))) := by
 unfold big at hl
 refine ct_enter 18 Tryz.func124 rfl rfl rfl ?_
 intro F hrd
 repeat refine x_ ?_
 refine a_ ?_
 repeat refine x_ ?_
 refine a_ ?_
 repeat refine n_ ?_
 refine g_loop (ι := Nat) (fun k => k ≤ l.length ∧ ∀ j, j < k → l.getD j [] ≠ f) (fun k => [(0, .slice a l.length c), (1, B f), (5, .int .i64 (k : Nat))]) (fun _ => []) (fun k => l.length - k) 0 ⟨by omega, fun j h => by omega⟩ ?_ ?_ ?_
 ·(repeat (first | exact Sub.nil _ | refine Sub.cons rfl ?_))
 ·intro w hw; exact hw
 ·rintro k ⟨hk, hno⟩
  repeat refine x_ ?_
  refine m_ ?_
  refine m_ ?_
  refine f_ (s_len_sl rfl) ?_
  refine f_ (s_lss rfl rfl) ?_
  repeat refine n_ ?_
  refine g_cond rfl (fun h => ?_) (fun h => ?_)
  ·have hk' : k < l.length := by simp at h; omega
   have hsome := rdB_some hrd hk'
   repeat refine x_ ?_
   refine m_ ?_
   refine m_ ?_
   refine f_ (s_indexAddr rfl (by assumption) rfl (by omega)) ?_
   refine r_ (s_load1 rfl (fun w hw => rdB hw hrd (i := k) (by omega) hk')) ?_
   refine m_ ?_
   refine f_ (s_eql_str rfl rfl) ?_
   repeat refine n_ ?_
   refine g_cond rfl (fun h2 => ?_) (fun h2 => ?_)
   ·have h3 := of_decide_eq_true h2
    have : f ∈ l := by
     rw [← h3, List.getD_eq_getElem?_getD, List.getElem?_eq_getElem hk']
     exact List.getElem_mem hk'
    rw [decide_eq_true this]
    repeat refine x_ ?_
    refine a_ ?_
    repeat refine n_ ?_
    refine g_ret ?_
    exact at_end1 rfl rfl [] ⟨rfl, rfl⟩ (fun _ h => h)
   ·have h3 := of_decide_eq_false h2
    repeat refine x_ ?_
    refine m_ ?_
    refine f_ (s_add_i64 rfl rfl (by omega)) ?_
    refine a_ ?_
    repeat refine n_ ?_
    refine at_next (k + 1) ⟨by omega, fun j hj => ?_⟩ (by omega) ?_ ?_
    ·rcases Nat.lt_succ_iff_lt_or_eq.1 hj with h4 | rfl
     ·exact hno j h4
     ·exact h3
    ·(repeat (first | exact Sub.nil _ | refine Sub.cons rfl ?_))
    ·intro w hw; exact hw
  ·have hkl : k = l.length := by simp at h; omega
   have : ¬f ∈ l := fun hm => by
    obtain ⟨j, hj, rfl⟩ := List.getElem_of_mem hm
    exact hno j (by omega) (by simp [hj])
   rw [decide_eq_false this]
   repeat refine x_ ?_
   refine a_ ?_
   repeat refine n_ ?_
   refine g_ret ?_
   exact at_end1 rfl rfl [] ⟨rfl, rfl⟩ (fun _ h => h)
theorem ins_none (f : Bs) : ∀ {l : List Bs}, (∀ x ∈ l, lessS f x = false) → insS f l = l ++ [f]
 | [], _ => rfl
 | x :: t, h => by
  rw [insS, if_neg (by rw [h x z_7]; simp), ins_none f fun y hy => h y (List.mem_cons_of_mem _ hy)]
  rfl
theorem ins_snoc (f y : Bs) : ∀ {l : List Bs}, (∃ x ∈ l, lessS f x = true) → insS f (l ++ [y]) = insS f l ++ [y]
 | [], ⟨_, h, _⟩ => by simp at h
 | x :: t, ⟨z, hz, hl⟩ => by
  rw [List.cons_append, insS, insS]
  split
  ·rfl
  ·next hx =>
   rcases List.mem_cons.mp hz with rfl | hz
   ·exact absurd hl hx
   ·rw [ins_snoc f y ⟨z, hz, hl⟩]
    rfl
theorem ins_here (f y : Bs) (hy : lessS f y = true) : ∀ {l : List Bs}, (∀ x ∈ l, lessS f x = false) → insS f (l ++ [y]) = l ++ [f] ++ [y]
 | [], _ => by simp [insS, hy]
 | x :: t, h => by
  rw [List.cons_append, insS, if_neg (by rw [h x z_7]; simp), ins_here f y hy fun z hz => h z (List.mem_cons_of_mem _ hz)]
  rfl
theorem ins_len (f : Bs) : ∀ l : List Bs, (insS f l).length = l.length + 1
 | [] => rfl
 | x :: t => by
  rw [insS]
  split
  ·simp
  ·simp [ins_len f t]
theorem takeB {l : List Bs} {k : Nat} (hk : k < l.length) : l.take (k + 1) = l.take k ++ [l.getD k []] := by
 rw [List.take_succ_eq_append_getElem hk, List.getD_eq_getElem?_getD, List.getElem?_eq_getElem hk]
 rfl
def outW (f : Bs) (l : List Bs) (k : Nat) (done : Bool) : List Bs := if done = true then insS f (l.take k) else l.take k
theorem outW_len (f : Bs) (l : List Bs) (k : Nat) (done : Bool) : (outW f l k done).length ≤ l.length + 1 := by
 unfold outW
 split
 ·rw [ins_len, List.length_take]; omega
 ·rw [List.length_take]; omega
def WithP (l : List Bs) (v : Value) (A : List As) : Prop := ∃ a c, v = .slice a l.length c ∧ A = [OwnS a l c]
theorem With_ct (l : List Bs) (f : Bs) (a : Option Addr) (c : Nat) (hl : l.length ≤ big) : Ct Tryz.prog 111 [.slice a l.length c, B f] (fun _ => True) [OwnS a l c] (WithP (withS l f)) := by
 have hl' := hl
 unfold big at hl
 refine ct_enter 46 Tryz.func111 rfl rfl rfl ?_
 intro F _
 repeat refine x_ ?_
 refine a_ ?_
 repeat refine x_ ?_
 refine m_ ?_
 refine m_ ?_
 refine gl_callp rfl (HasR_ct l f a c hl') (fun h hh ⟨bs, hb⟩ => Sat.rd hb z_3) rfl ?_
 repeat refine n_ ?_
 refine g_cond rfl (fun h => ?_) (fun h => ?_)
 ·have e : withS l f = l := by unfold withS; rw [if_pos (of_decide_eq_true h)]
  rw [e]
  repeat refine x_ ?_
  refine m_ ?_
  refine a_ ?_
  repeat refine n_ ?_
  refine g_ret ?_
  exact at_end1 rfl rfl _ ⟨a, c, rfl, rfl⟩ (fun _ h => h)
 ·have e : withS l f = insS f l := by unfold withS; rw [if_neg (of_decide_eq_false h)]
  rw [e]
  repeat refine x_ ?_
  refine a_ ?_
  repeat refine x_ ?_
  refine a_ ?_
  repeat refine x_ ?_
  refine a_ ?_
  repeat refine n_ ?_
  refine g_own_nil 9 1 ?_
  refine g_loop (ι := Nat × Bool × Option Addr × Nat) (fun i => i.1 ≤ l.length ∧ (i.2.1 = false → ∀ x ∈ l.take i.1, lessS f x = false) ∧ (i.2.1 = true → ∃ x ∈ l.take i.1, lessS f x = true)) (fun i => [(0, .slice a l.length c), (1, B f), (5, .slice i.2.2.1 (outW f l i.1 i.2.1).length i.2.2.2), (6, .bool i.2.1), (7, .int .i64 (i.1 : Nat))]) (fun i => [OwnS i.2.2.1 (outW f l i.1 i.2.1) i.2.2.2, OwnS a l c]) (fun i => l.length - i.1) (0, false, none, 0) ⟨by simp, by simp, by simp⟩ ?_ ?_ ?_
  ·(repeat (first | exact Sub.nil _ | refine Sub.cons rfl ?_))
  ·intro w hw; exact hw
  ·rintro ⟨k, dn, b, d⟩ ⟨hk, hf0, hf1⟩
   simp only at hk hf0 hf1
   have hol := outW_len f l k dn
   repeat refine x_ ?_
   refine m_ ?_
   refine m_ ?_
   refine f_ (s_len_sl rfl) ?_
   refine f_ (s_lss rfl rfl) ?_
   repeat refine n_ ?_
   refine g_cond rfl (fun h => ?_) (fun h => ?_)
   ·have hk' : k < l.length := by simp at h; omega
    refine g_some (Q := ∃ ad, a = some ad) (fun w hw => rdB_some (hw.ownN z_3).2.2.1 hk') (fun hsome => ?_)
    have ht := takeB hk'
    obtain ⟨q, hq⟩ : ∃ q, q = lessS f (l.getD k []) := ⟨_, rfl⟩
    repeat refine y_ ?_
    refine g_cutK [(0, .slice a l.length c), (1, B f), (5, .slice b (outW f l k dn).length d), (6, .bool dn), (7, .int .i64 (k : Nat)), (27, .bool (!dn && q))] [OwnS b (outW f l k dn) d, OwnS a l c] ?_ ?_
    ·cases dn
     all_goals (
      repeat refine x_ ?_
      refine m_ ?_
      refine f_ (s_not rfl) ?_
      refine m_ ?_
      (first | refine gl_guard_no rfl rfl rfl rfl rfl rfl rfl ?_ | (refine v_ ?_; refine m_ ?_))
      (first | refine gl_guard_no rfl rfl rfl rfl rfl rfl rfl ?_ | (refine v_ ?_; refine m_ ?_))
      (first | refine gl_guard_no rfl rfl rfl rfl rfl rfl rfl ?_ | (refine v_ ?_; refine m_ ?_))
      (first | refine gl_guard_no rfl rfl rfl rfl rfl rfl rfl ?_ | (refine v_ ?_; refine f_ (s_indexAddr rfl (by assumption) rfl (by omega)) ?_))
      (first | refine gl_guard_no rfl rfl rfl rfl rfl rfl rfl ?_ | (refine v_ ?_; refine r_ (s_load1 rfl (fun w hw => rdB_own hw z_3 (i := k) (by omega) hk')) ?_))
      (first | refine gl_guard_no rfl rfl rfl rfl rfl rfl rfl ?_ | (refine v_ ?_; refine gl_callp rfl (less_ct f (l.getD k [])) (fun _ _ _ => trivial) rfl ?_; rw [← hq]))
      refine f_ z_4 ?_
      refine gl_nil ?_
      repeat refine y_ ?_)
     all_goals exact at_cut j_ i_
    ·have hls : (l.take k).length = k := by rw [List.length_take]; omega
     repeat refine y_ ?_
     refine g_cond rfl (fun h2 => ?_) (fun h2 => ?_)
     ·have hdn : dn = false := by
       cases dn with
       | false => rfl
       | true => cases h2
      subst hdn
      have hqt : lessS f (l.getD k []) = true := by rw [← hq]; simpa using h2
      have e0 : outW f l k false = l.take k := by simp [outW]
      have e1 : outW f l (k + 1) true = l.take k ++ [f] ++ [l.getD k []] := by
       simp only [outW, if_true]
       rw [ht]
       exact ins_here f _ hqt (hf0 rfl)
      have el : (outW f l (k + 1) true).length = (l.take k).length + 1 + 1 := by rw [e1]; simp
      rw [e0]
      repeat refine x_ ?_
      refine m_ ?_
      refine m_ ?_
      refine gl_buildSliceU rfl rfl rfl rfl rfl rfl (xs := fV [f]) rfl rfl ?_; intro a30 ha30
      refine gl_append rfl rfl (fun a' c' => .there .here) (fun w hw => (hw.ownN z_3).2.2.1) rfl rfl rfl (fV_one _) (by show (_ + 1) * 16 ≤ _; omega) (by omega) rfl ?_; intro a5 c5 hc5
      refine a_ ?_
      repeat refine x_ ?_
      refine a_ ?_
      repeat refine x_ ?_
      refine m_ ?_
      refine m_ ?_
      refine m_ ?_
      refine f_ (s_indexAddr rfl (by assumption) rfl (by omega)) ?_
      refine r_ (s_load1 rfl (fun w hw => rdB_own hw z_3 (i := k) (by omega) hk')) ?_
      refine gl_buildSliceU rfl rfl rfl rfl rfl rfl (xs := fV [l.getD k []]) rfl rfl ?_; intro a37 ha37
      refine gl_append rfl rfl (fun a' c' => .there (.there .here)) (fun w hw => (hw.ownN z_3).2.2.1) rfl rfl rfl (fV_one _) (by show (_ + 1 + 1) * 16 ≤ _; omega) (by omega) rfl ?_; intro a6 c6 hc6
      refine a_ ?_
      repeat refine x_ ?_
      refine m_ ?_
      refine f_ (s_add_i64 rfl rfl (by omega)) ?_
      refine a_ ?_
      repeat refine n_ ?_
      refine at_next (k + 1, true, a6, c6) ⟨by simp only; omega, by simp, fun _ => ⟨l.getD k [], by rw [ht]; simp, hqt⟩⟩ (by simp only; omega) ?_ ?_
      ·simp only [el]
       (repeat (first | exact Sub.nil _ | refine Sub.cons rfl ?_))
      ·intro w hw
       simp only [OwnS, el]
       rw [e1, fV_append, fV_append]
       exact hw.drop.drop
     ·have hlk : outW f l (k + 1) dn = outW f l k dn ++ [l.getD k []] := by
       unfold outW
       cases dn with
       | false => simp only [Bool.false_eq_true, if_false]; exact ht
       | true =>
        simp only [if_true]
        rw [ht]
        exact ins_snoc f _ (hf1 rfl)
      have el : (outW f l (k + 1) dn).length = (outW f l k dn).length + 1 := by rw [hlk]; simp
      repeat refine x_ ?_
      refine m_ ?_
      refine m_ ?_
      refine m_ ?_
      refine f_ (s_indexAddr rfl (by assumption) rfl (by omega)) ?_
      refine r_ (s_load1 rfl (fun w hw => rdB_own hw z_3 (i := k) (by omega) hk')) ?_
      refine gl_buildSliceU rfl rfl rfl rfl rfl rfl (xs := fV [l.getD k []]) rfl rfl ?_; intro a37 ha37
      refine gl_append rfl rfl (fun a' c' => .there .here) (fun w hw => (hw.ownN z_3).2.2.1) rfl rfl rfl (fV_one _) (by show (_ + 1) * 16 ≤ _; omega) (by omega) rfl ?_; intro a6 c6 hc6
      refine a_ ?_
      repeat refine x_ ?_
      refine m_ ?_
      refine f_ (s_add_i64 rfl rfl (by omega)) ?_
      refine a_ ?_
      repeat refine n_ ?_
      refine at_next (k + 1, dn, a6, c6) ⟨by simp only; omega, fun hd x hx => ?_, fun hd => ?_⟩ (by simp only; omega) ?_ ?_
      ·simp only at hd hx
       subst hd
       rw [ht] at hx
       rcases List.mem_append.mp hx with hx | hx
       ·exact hf0 rfl x hx
       ·simp at hx
        rw [hx]
        have : q = false := by simpa using h2
        have hqf : lessS f (l.getD k []) = false := by rw [← hq]; exact this
        simpa using hqf
      ·simp only at hd
       obtain ⟨x, hx, hl2⟩ := hf1 hd
       exact ⟨x, by rw [ht]; exact List.mem_append_left _ hx, hl2⟩
      ·simp only [el]
       (repeat (first | exact Sub.nil _ | refine Sub.cons rfl ?_))
      ·intro w hw
       simp only [OwnS, el]
       rw [hlk, fV_append]
       exact hw.drop
   ·have hkl : k = l.length := by simp at h; omega
    subst hkl
    rw [List.take_length] at hf0 hf1
    repeat refine x_ ?_
    refine m_ ?_
    refine f_ (s_not rfl) ?_
    repeat refine n_ ?_
    refine g_cond rfl (fun h2 => ?_) (fun h2 => ?_)
    ·have hdn : dn = false := by simpa using h2
     subst hdn
     have e0 : outW f l l.length false = l := by simp [outW]
     have e1 : insS f l = l ++ [f] := ins_none f (hf0 rfl)
     have el : (insS f l).length = l.length + 1 := by rw [e1]; simp
     rw [e0]
     repeat refine x_ ?_
     refine m_ ?_
     refine m_ ?_
     refine gl_buildSliceU rfl rfl rfl rfl rfl rfl (xs := fV [f]) rfl rfl ?_; intro a30 ha30
     refine gl_append rfl rfl (fun a' c' => .there .here) (fun w hw => (hw.ownN z_3).2.2.1) rfl rfl rfl (fV_one _) (by show (_ + 1) * 16 ≤ _; omega) (by omega) rfl ?_; intro a5 c5 hc5
     refine a_ ?_
     repeat refine x_ ?_
     refine m_ ?_
     refine a_ ?_
     repeat refine n_ ?_
     refine g_ret ?_
     refine at_end1 rfl rfl [OwnS a5 (insS f l) c5] ⟨a5, c5, by rw [el], rfl⟩ (fun w hw => ?_)
     simp only [OwnS, el]
     rw [e1, fV_append]
     exact hw.drop.left (A := [_])
    ·have hdn : dn = true := by simpa using h2
     subst hdn
     have e0 : outW f l l.length true = insS f l := by simp [outW]
     rw [e0]
     repeat refine x_ ?_
     refine m_ ?_
     refine a_ ?_
     repeat refine n_ ?_
     refine g_ret ?_
     exact at_end1 rfl rfl [OwnS b (insS f l) d] ⟨b, d, rfl, rfl⟩ (fun w hw => hw.left (A := [_]))
end Go.Proofs.YtgllpcggdcknaaaGreatDoor.Rp
namespace Go.Proofs.YtgllpcggdcknaaaGreatDoor.Rp
open Go Go.Sl
theorem canonL_snoc {x c : Bs} (hx : canonS x = some c) : ∀ {l cs : List Bs}, canonL l = some cs → canonL (l ++ [x]) = some (cs ++ [c])
 | [], cs, h => by
  simp [canonL] at h
  subst h
  simp [canonL, hx]
 | s :: t, cs, h => by
  rw [canonL] at h
  split at h
  ·next d l hd hl =>
   cases h
   rw [List.cons_append, canonL, hd, canonL_snoc hx hl]
   rfl
  ·cases h
theorem canonL_bad {x : Bs} (hx : canonS x = none) : ∀ {l : List Bs}, x ∈ l → canonL l = none
 | [], h => by simp at h
 | s :: t, h => by
  rw [canonL]
  rcases List.mem_cons.mp h with rfl | h
  ·rw [hx]
  ·rw [canonL_bad hx h]
   cases canonS s <;> rfl
theorem canonL_len : ∀ {l cs : List Bs}, canonL l = some cs → cs.length = l.length
 | [], cs, h => by simp [canonL] at h; subst h; rfl
 | s :: t, cs, h => by
  rw [canonL] at h
  split at h
  ·next d l hd hl =>
   cases h
   simp [canonL_len hl]
  ·cases h
theorem with_len (l : List Bs) (f : Bs) : (withS l f).length ≤ l.length + 1 := by
 unfold withS
 split
 ·omega
 ·rw [ins_len]; omega
theorem set_snoc (l : List Bs) (f : Bs) : setS (l ++ [f]) = withS (setS l) f := by simp [setS, List.foldl_append]
theorem set_len (l : List Bs) : (setS l).length ≤ l.length := by
 have : ∀ (l acc : List Bs), (l.foldl withS acc).length ≤ acc.length + l.length := by
  intro l
  induction l with
  | nil => intro acc; simp
  | cons f t ih =>
   intro acc
   have h1 := ih (withS acc f)
   have h2 := with_len acc f
   simp only [List.foldl_cons, List.length_cons]
   omega
 have := this l []
 simpa [setS] using this
theorem getB_mem {l : List Bs} {k : Nat} (hk : k < l.length) : l.getD k [] ∈ l := by
 rw [List.getD_eq_getElem?_getD, List.getElem?_eq_getElem hk]
 exact List.getElem_mem hk
def MakeP (m : List Bs × Int) (v : Value) (A : List As) : Prop := ∃ a c, v = .tuple #[.slice a m.1.length c, .int .i64 m.2] ∧ A = [OwnS a m.1 c]
theorem MakeR_ct (l : List Bs) (a : Option Addr) (c : Nat) (hl : l.length ≤ big) (hb : ∀ f ∈ l, f.length ≤ big) : Ct Tryz.prog 94 [.slice a l.length c] (fun h => RdS h a (fV l)) [] (MakeP (makeR l)) := by
 have hl' := hl
 unfold big at hl
 refine ct_enter 31 Tryz.func94 rfl rfl rfl ?_
 intro F hrd
 repeat refine x_ ?_
 refine a_ ?_
 refine a_ ?_
 repeat refine x_ ?_
 refine a_ ?_
 repeat refine x_ ?_
 refine a_ ?_
 repeat refine n_ ?_
 refine g_own_nil 9 1 ?_
 refine g_loop (ι := Nat × List Bs × Option Addr × Nat) (fun i => i.1 ≤ l.length ∧ canonL (l.take i.1) = some i.2.1) (fun i => [(0, .slice a l.length c), (4, .slice i.2.2.1 (setS i.2.1).length i.2.2.2), (5, .int .i64 (i.1 : Nat))]) (fun i => [OwnS i.2.2.1 (setS i.2.1) i.2.2.2]) (fun i => l.length - i.1) (0, [], none, 0) ⟨by simp, by simp [canonL]⟩ ?_ ?_ ?_
 ·(repeat (first | exact Sub.nil _ | refine Sub.cons rfl ?_))
 ·intro w hw; exact hw
 ·rintro ⟨k, cs, b, d⟩ ⟨hk, hcs⟩
  simp only at hk hcs
  have hcl := canonL_len hcs
  rw [List.length_take] at hcl
  have hsl := set_len cs
  repeat refine x_ ?_
  refine m_ ?_
  refine m_ ?_
  refine f_ (s_len_sl rfl) ?_
  refine f_ (s_lss rfl rfl) ?_
  repeat refine n_ ?_
  refine g_cond rfl (fun h => ?_) (fun h => ?_)
  ·have hk' : k < l.length := by simp at h; omega
   have hsome := rdB_some hrd hk'
   have hbk := hb _ (getB_mem hk')
   repeat refine x_ ?_
   refine m_ ?_
   refine m_ ?_
   refine f_ (s_indexAddr rfl (by assumption) rfl (by omega)) ?_
   refine r_ (s_load1 rfl (fun w hw => rdB hw hrd (i := k) (by omega) hk')) ?_
   refine gl_callp rfl (CanonR_ct (l.getD k []) hbk) (fun _ _ _ => trivial) rfl ?_
   refine m_ ?_
   refine f_ (s_extract rfl rfl) ?_
   refine f_ (s_extract rfl rfl) ?_
   refine a_ ?_
   refine a_ ?_
   repeat refine n_ ?_
   cases hc : canonS (l.getD k []) with
   | none =>
    have e : makeR l = ([], 4) := by unfold makeR; rw [canonL_bad hc (getB_mem hk')]
    rw [e]
    repeat refine x_ ?_
    refine m_ ?_
    refine f_ (s_not rfl) ?_
    repeat refine x_ ?_
    refine a_ ?_
    refine a_ ?_
    repeat refine n_ ?_
    refine g_ret ?_
    exact at_end2 rfl rfl rfl [OwnS none [] 0] ⟨none, 0, rfl, rfl⟩ (fun w hw => (hw.dropAll).addNil _ _)
   | some x =>
    repeat refine x_ ?_
    refine m_ ?_
    refine f_ (s_not rfl) ?_
    repeat refine x_ ?_
    refine m_ ?_
    refine m_ ?_
    refine gl_call _ rfl (With_ct (setS cs) x b d (by unfold big; omega)) i_ (fun _ _ _ => trivial) rfl ?_; rintro v A ⟨wa, wc, rfl, rfl⟩
    refine a_ ?_
    repeat refine x_ ?_
    refine m_ ?_
    refine f_ (s_add_i64 rfl rfl (by omega)) ?_
    refine a_ ?_
    repeat refine n_ ?_
    have ht := takeB hk'
    refine at_next (k + 1, cs ++ [x], wa, wc) ⟨by simp only; omega, by simp only; rw [ht]; exact canonL_snoc hc hcs⟩ (by simp only; omega) ?_ ?_
    ·simp only [set_snoc]
     (repeat (first | exact Sub.nil _ | refine Sub.cons rfl ?_))
    ·intro w hw
     simp only [set_snoc]
     exact hw
  ·have hkl : k = l.length := by simp at h; omega
   subst hkl
   rw [List.take_length] at hcs
   repeat refine x_ ?_
   refine m_ ?_
   refine f_ (s_len_sl rfl) ?_
   refine f_ (s_gtr rfl rfl) ?_
   repeat refine n_ ?_
   refine g_cond rfl (fun h2 => ?_) (fun h2 => ?_)
   ·have e : makeR l = ([], 7) := by unfold makeR; rw [hcs]; simp only; rw [if_pos (by simp at h2; omega)]
    rw [e]
    repeat refine x_ ?_
    refine a_ ?_
    refine a_ ?_
    repeat refine n_ ?_
    refine g_ret ?_
    exact at_end2 rfl rfl rfl [OwnS none [] 0] ⟨none, 0, rfl, rfl⟩ (fun w hw => (hw.dropAll).addNil _ _)
   ·have e : makeR l = (setS cs, 0) := by unfold makeR; rw [hcs]; simp only; rw [if_neg (by simp at h2; omega)]
    rw [e]
    repeat refine x_ ?_
    refine m_ ?_
    refine a_ ?_
    refine a_ ?_
    repeat refine n_ ?_
    refine g_ret ?_
    exact at_end2 rfl rfl rfl _ ⟨b, d, rfl, rfl⟩ i_
theorem join_take {l : List Bs} {k : Nat} (hk : k < l.length) : joinS [32] (l.take (k + 1)) = (if 0 < k then joinS [32] (l.take k) ++ [32] else joinS [32] (l.take k)) ++ l.getD k [] := by
 rw [takeB hk]
 by_cases h0 : 0 < k
 ·rw [if_pos h0, join_snoc _ _ (by intro e; have := congrArg List.length e; rw [List.length_take, List.length_nil] at this; omega)]
 ·have : k = 0 := by omega
  subst this
  simp [joinS]
theorem join_mono {l : List Bs} : ∀ k, (joinS [32] (l.take k)).length ≤ (joinS [32] l).length := by
 have key : ∀ n k, k + n = l.length → (joinS [32] (l.take k)).length ≤ (joinS [32] l).length := by
  intro n
  induction n with
  | zero => intro k hk; rw [show k = l.length by omega, List.take_length]; exact Nat.le_refl _
  | succ n ih =>
   intro k hk
   refine Nat.le_trans ?_ (ih (k + 1) (by omega))
   rw [join_take (by omega)]
   split <;> simp only [List.length_append] <;> omega
 intro k
 by_cases h : k ≤ l.length
 ·exact key (l.length - k) k (by omega)
 ·rw [List.take_of_length_le (by omega)]
  exact Nat.le_refl _
theorem PrintR_ct (l : List Bs) (a : Option Addr) (c : Nat) (hl : l.length ≤ big) (hj : (joinS [32] l).length ≤ big) : Pu Tryz.prog 44 [.slice a l.length c] (fun h => RdS h a (fV l)) (B (printF l)) := by
 unfold big at hl hj
 refine ct_enter 23 Tryz.func44 rfl rfl rfl ?_
 intro F hrd
 repeat refine x_ ?_
 refine a_ ?_
 repeat refine x_ ?_
 refine a_ ?_
 repeat refine x_ ?_
 refine a_ ?_
 repeat refine n_ ?_
 refine g_loop (ι := Nat) (fun k => k ≤ l.length) (fun k => [(0, .slice a l.length c), (3, B (40 :: joinS [32] (l.take k))), (4, .int .i64 (k : Nat))]) (fun _ => []) (fun k => l.length - k) 0 (by omega) ?_ ?_ ?_
 ·(repeat (first | exact Sub.nil _ | refine Sub.cons rfl ?_))
 ·intro w hw; exact hw
 ·rintro k hk
  have hm := join_mono (l := l) k
  have hm1 := join_mono (l := l) (k + 1)
  repeat refine x_ ?_
  refine m_ ?_
  refine m_ ?_
  refine f_ (s_len_sl rfl) ?_
  refine f_ (s_lss rfl rfl) ?_
  repeat refine n_ ?_
  refine g_cond rfl (fun h => ?_) (fun h => ?_)
  ·have hk' : k < l.length := by simp at h; omega
   have hsome := rdB_some hrd hk'
   have hjt := join_take hk'
   have hjl := congrArg List.length hjt
   rw [List.length_append] at hjl
   repeat refine x_ ?_
   refine m_ ?_
   refine f_ (s_gtr rfl rfl) ?_
   repeat refine n_ ?_
   refine g_cond rfl (fun h2 => ?_) (fun h2 => ?_)
   ·have h0 : 0 < k := by simp at h2; omega
    rw [if_pos h0] at hjt hjl
    simp only [List.length_append, List.length_singleton] at hjl
    repeat refine x_ ?_
    refine m_ ?_
    refine f_ (s_add_str rfl rfl (by simp only [List.length_cons, List.length_nil]; omega)) ?_
    refine a_ ?_
    repeat refine x_ ?_
    refine m_ ?_
    refine m_ ?_
    refine m_ ?_
    refine f_ (s_indexAddr rfl (by assumption) rfl (by omega)) ?_
    refine r_ (s_load1 rfl (fun w hw => rdB hw hrd (i := k) (by omega) hk')) ?_
    refine f_ ((s_add_str rfl rfl (by simp only [List.length_cons, List.length_append, List.length_nil]; omega)).eq (v' := B (40 :: joinS [32] (l.take (k + 1)))) (by rw [hjt]; rfl)) ?_
    refine a_ ?_
    repeat refine x_ ?_
    refine m_ ?_
    refine f_ (s_add_i64 rfl rfl (by omega)) ?_
    refine a_ ?_
    repeat refine n_ ?_
    refine at_next (k + 1) (by omega) (by omega) ?_ ?_
    ·(repeat (first | exact Sub.nil _ | refine Sub.cons rfl ?_))
    ·intro w hw; exact hw
   ·have h0 : ¬0 < k := by simp at h2; omega
    rw [if_neg h0] at hjt hjl
    repeat refine x_ ?_
    refine m_ ?_
    refine m_ ?_
    refine m_ ?_
    refine f_ (s_indexAddr rfl (by assumption) rfl (by omega)) ?_
    refine r_ (s_load1 rfl (fun w hw => rdB hw hrd (i := k) (by omega) hk')) ?_
    refine f_ ((s_add_str rfl rfl (by simp only [List.length_cons]; omega)).eq (v' := B (40 :: joinS [32] (l.take (k + 1)))) (by rw [hjt]; rfl)) ?_
    refine a_ ?_
    repeat refine x_ ?_
    refine m_ ?_
    refine f_ (s_add_i64 rfl rfl (by omega)) ?_
    refine a_ ?_
    repeat refine n_ ?_
    refine at_next (k + 1) (by omega) (by omega) ?_ ?_
    ·(repeat (first | exact Sub.nil _ | refine Sub.cons rfl ?_))
    ·intro w hw; exact hw
  ·have hkl : k = l.length := by simp at h; omega
   rw [hkl, List.take_length]
   repeat refine x_ ?_
   refine m_ ?_
   refine f_ ((s_add_str rfl rfl (by simp only [List.length_cons, List.length_nil]; omega)).eq (v' := B (printF l)) rfl) ?_
   refine a_ ?_
   repeat refine n_ ?_
   refine g_ret ?_
   exact at_end1 rfl rfl [] ⟨rfl, rfl⟩ (fun _ h => h)
end Go.Proofs.YtgllpcggdcknaaaGreatDoor.Rp
namespace Go.Proofs.YtgllpcggdcknaaaGreatDoor.Rp
open Go Go.Sl
abbrev noStop (x : UInt8) : Bool := x != 32 && x != 41
theorem word_end {s : Bs} {p j : Nat} (h1 : p ≤ j) (h2 : j ≤ s.length) (hno : ∀ i, p ≤ i → i < j → noStop (s.getD i 0) = true) (he : j < s.length → noStop (s.getD j 0) = false) :
  (s.drop p).takeWhile noStop = (s.drop p).take (j - p) ∧ ((s.drop p).takeWhile noStop).length = j - p := by
 have e : s.drop p = (s.drop p).take (j - p) ++ s.drop j := by
  have := (List.take_append_drop (j - p) (s.drop p)).symm
  rw [List.drop_drop, show p + (j - p) = j by omega] at this
  exact this
 have hw : (s.drop p).takeWhile noStop = (s.drop p).take (j - p) := by
  rw [e]
  rw [takeWhile_of noStop _ _ (fun c hc => ?_) (fun c hc => ?_)]
  ·rw [List.take_append_of_le_length (by rw [List.length_take, List.length_drop]; omega), List.take_take, Nat.min_self]
  ·obtain ⟨i, hi, rfl⟩ := List.getElem_of_mem hc
   rw [List.length_take, List.length_drop] at hi
   have := hno (p + i) (by omega) (by omega)
   rw [List.getD_eq_getElem?_getD, List.getElem?_eq_getElem (by omega)] at this
   simpa using this
  ·by_cases hj : j < s.length
   ·rw [drop_get hj] at hc
    simp at hc
    subst hc
    exact he hj
   ·rw [List.drop_of_length_le (by omega)] at hc
    simp at hc
 refine ⟨hw, ?_⟩
 rw [hw, List.length_take, List.length_drop]
 omega
theorem nmR_close (k : Nat) (t : Bs) : nmR (k + 1) (41 :: t) = some ([], 0) := by rw [nmR, if_pos rfl]
theorem nmR_end {k : Nat} {s : Bs} {p : Nat} (hp : p < s.length) (h41 : s.getD p 0 ≠ 41) (hd : s.drop (p + ((s.drop p).takeWhile noStop).length) = []) : nmR (k + 1) (s.drop p) = none := by
 rw [← List.drop_drop] at hd
 rw [drop_get hp] at hd ⊢
 rw [nmR, if_neg h41]
 simp only
 rw [hd]
theorem nmR_bad {k : Nat} {s : Bs} {p j : Nat} (hp : p < s.length) (h41 : s.getD p 0 ≠ 41) (hj : j = p + ((s.drop p).takeWhile noStop).length) (hjl : j < s.length) (h32 : s.getD j 0 = 32) (hb : s.length ≤ j + 1 ∨ s.getD (j + 1) 0 = 41) : nmR (k + 1) (s.drop p) = none := by
 have hd : (s.drop p).drop ((s.drop p).takeWhile noStop).length = s.getD j 0 :: s.drop (j + 1) := by rw [List.drop_drop, ← hj, drop_get hjl]
 rw [drop_get hp] at hd ⊢
 rw [nmR, if_neg h41]
 simp only
 rw [hd]
 simp only
 rw [if_pos h32]
 rcases hb with hb | hb
 ·rw [List.drop_of_length_le (by omega)]
 ·by_cases hl : j + 1 < s.length
  ·rw [drop_get hl]
   simp only
   rw [if_pos hb]
  ·rw [List.drop_of_length_le (by omega)]
theorem nmR_next {k : Nat} {s : Bs} {p j : Nat} (hp : p < s.length) (h41 : s.getD p 0 ≠ 41) (hj : j = p + ((s.drop p).takeWhile noStop).length) (hjl : j + 1 < s.length) (h32 : s.getD j 0 = 32) (hb : s.getD (j + 1) 0 ≠ 41) :
  nmR (k + 1) (s.drop p) = (nmR k (s.drop (j + 1))).map fun q => ((s.drop p).takeWhile noStop :: q.1, (j + 1 - p) + q.2) := by
 have hd : (s.drop p).drop ((s.drop p).takeWhile noStop).length = s.getD j 0 :: s.drop (j + 1) := by rw [List.drop_drop, ← hj, drop_get (by omega)]
 have hlen : ((s.drop p).takeWhile noStop).length + 1 = j + 1 - p := by omega
 rw [drop_get hp] at hd hlen ⊢
 rw [nmR, if_neg h41]
 simp only
 rw [hd]
 simp only
 rw [if_pos h32, drop_get hjl]
 simp only
 rw [if_neg hb, hlen]
theorem nmR_stop {k : Nat} {s : Bs} {p j : Nat} (hp : p < s.length) (h41 : s.getD p 0 ≠ 41) (hj : j = p + ((s.drop p).takeWhile noStop).length) (hjl : j < s.length) (h32 : s.getD j 0 ≠ 32) :
  nmR (k + 1) (s.drop p) = (nmR k (s.drop j)).map fun q => ((s.drop p).takeWhile noStop :: q.1, (j - p) + q.2) := by
 have hd : (s.drop p).drop ((s.drop p).takeWhile noStop).length = s.getD j 0 :: s.drop (j + 1) := by rw [List.drop_drop, ← hj, drop_get hjl]
 have hlen : ((s.drop p).takeWhile noStop).length = j - p := by omega
 rw [drop_get hp] at hd hlen ⊢
 rw [nmR, if_neg h41]
 simp only
 rw [hd]
 simp only
 rw [if_neg h32, hlen, drop_get hjl]
def ParseP (q : List Bs × Nat × Int) (v : Value) (A : List As) : Prop := ∃ a c, v = .tuple #[.slice a q.1.length c, .int .i64 (q.2.1 : Nat), .int .i64 q.2.2] ∧ A = [OwnS a q.1 c]
structure PI (s : Bs) (p : Nat) (names : List Bs) : Prop where
 p1 : 1 ≤ p
 pl : p < s.length
 nl : names.length < p
 nb : ∀ f ∈ names, f.length ≤ s.length
 eq : ∃ k, (s.drop p).length < k ∧ nmR s.length (s.drop 1) = (nmR k (s.drop p)).map fun q => (names ++ q.1, (p - 1) + q.2)
theorem PI.none {s : Bs} {p : Nat} {names : List Bs} (h : PI s p names) (hn : ∀ k, nmR (k + 1) (s.drop p) = Option.none) : nmR s.length (s.drop 1) = Option.none := by
 obtain ⟨k, hk, e⟩ := h.eq
 obtain ⟨k, rfl⟩ : ∃ j, k = j + 1 := ⟨k - 1, by omega⟩
 rw [e, hn k]
 rfl
theorem PI.next {s : Bs} {p j : Nat} {names : List Bs} (h : PI s p names) (w : Bs) (hw : w.length ≤ s.length) (hpj : p ≤ j) (hn1 : names.length + 1 < j) (hj : j < s.length) (hpj' : p < j)
  (hn : ∀ k, nmR (k + 1) (s.drop p) = (nmR k (s.drop j)).map fun q => (w :: q.1, (j - p) + q.2)) : PI s j (names ++ [w]) := by
 obtain ⟨k, hk, e⟩ := h.eq
 obtain ⟨k, rfl⟩ : ∃ j, k = j + 1 := ⟨k - 1, by omega⟩
 refine ⟨by omega, hj, by simp; omega, fun f hf => ?_, k, ?_, ?_⟩
 ·rcases List.mem_append.mp hf with hf | hf
  ·exact h.nb f hf
  ·simp at hf; subst hf; exact hw
 ·rw [List.length_drop] at hk ⊢; omega
 ·rw [e, hn k, Option.map_map]
  congr 1
  funext q
  have := h.p1
  simp
  omega
end Go.Proofs.YtgllpcggdcknaaaGreatDoor.Rp
namespace Go.Proofs.YtgllpcggdcknaaaGreatDoor.Rp
open Go Go.Sl
theorem cut_word {s : Bs} {p j : Nat} (h : p ≤ j) : (s.drop ((p : Nat) : Int).toNat).take (((j : Nat) : Int).toNat - ((p : Nat) : Int).toNat) = (s.drop p).take (j - p) := by simp only [Int.toNat_natCast]
theorem ParseR_ct (s : Bs) (hl : s.length ≤ big) : Ct Tryz.prog 62 [B s] (fun _ => True) [] (ParseP (parseG s)) := by
 have hl' := hl
 unfold big at hl
 obtain ⟨q1, hq1⟩ : ∃ q, q = decide ((s.length : Int) < 2) := ⟨_, rfl⟩
 obtain ⟨q2, hq2⟩ : ∃ q, q = decide (s.getD 0 0 = 40) := ⟨_, rfl⟩
 refine ct_enter 77 Tryz.func62 rfl rfl rfl ?_
 intro F _
 repeat refine x_ ?_
 refine a_ ?_
 refine a_ ?_
 refine a_ ?_
 repeat refine n_ ?_
 refine g_cutK [(0, B s), (17, .bool (q1 || !q2))] [] ?_ ?_
 ·cases q1 <;> cases q2
  all_goals (
   repeat refine x_ ?_
   refine m_ ?_
   refine f_ (s_len_str rfl) ?_
   refine f_ ((s_lss rfl rfl).eb hq1) ?_
   refine m_ ?_
   (first | refine gl_guard_no rfl rfl rfl rfl rfl rfl rfl ?_ | (refine v_ ?_; refine m_ ?_))
   (first | refine gl_guard_no rfl rfl rfl rfl rfl rfl rfl ?_ | (refine v_ ?_; refine f_ ((s_index_str rfl rfl (by simp at hq1; omega)).eq (v' := U8 (s.getD 0 0)) rfl) ?_))
   (first | refine gl_guard_no rfl rfl rfl rfl rfl rfl rfl ?_ | (refine v_ ?_; refine f_ ((s_neq rfl rfl).eq ((congrArg (fun b => Value.bool (!b)) ((u8_eq (b := 40)).trans hq2.symm)))) ?_))
   refine f_ z_4 ?_
   refine gl_nil ?_
   repeat refine y_ ?_)
  all_goals exact at_cut j_ i_
 repeat refine y_ ?_
 refine g_cond rfl (fun h => ?_) (fun h => ?_)
 ·have e : parseG s = ([], 0, 4) := by
   cases s with
   | nil => rfl
   | cons c t =>
    by_cases hc : c = 40
    ·subst hc
     have h1 : q1 = true := by
      cases q1 with
      | true => rfl
      | false =>
       have : q2 = true := hq2.trans (decide_eq_true rfl)
       rw [this] at h
       cases h
     have := of_decide_eq_true (hq1.symm.trans h1)
     have : t = [] := List.eq_nil_of_length_eq_zero (by simp at this; omega)
     subst this
     rfl
    ·unfold parseG
     split
     ·next hh => simp at hh; exact absurd hh.1 hc
     ·rfl
  rw [e]
  repeat refine x_ ?_
  refine a_ ?_
  refine a_ ?_
  refine a_ ?_
  repeat refine n_ ?_
  refine g_ret ?_
  exact at_end3 rfl rfl rfl rfl [OwnS none [] 0] ⟨none, 0, rfl, rfl⟩ (fun w hw => (hw.dropAll).addNil _ _)
 have h2 : 2 ≤ s.length := by
  cases q1 with
  | true => cases h
  | false => have := of_decide_eq_false hq1.symm; omega
 have h40 : s.getD 0 0 = 40 := by
  cases q1 with
  | true => cases h
  | false =>
   cases q2 with
   | true => exact of_decide_eq_true hq2.symm
   | false => cases h
 have hpg : parseG s = match nmR s.length (s.drop 1) with
   | none => ([], 0, 4)
   | some q => if (makeR q.1).2 = 0 then ((makeR q.1).1, q.2 + 2, 0) else ([], 0, (makeR q.1).2) := by
  cases s with
  | nil => simp at h2
  | cons c t =>
   have : c = 40 := h40
   subst this
   rfl
 repeat refine x_ ?_
 refine a_ ?_
 repeat refine x_ ?_
 refine a_ ?_
 repeat refine n_ ?_
 refine g_own_nil 9 1 ?_
 refine g_loop (ι := Nat × List Bs × Option Addr × Nat) (fun i => PI s i.1 i.2.1) (fun i => [(0, B s), (5, .slice i.2.2.1 i.2.1.length i.2.2.2), (6, .int .i64 (i.1 : Nat))]) (fun i => [OwnS i.2.2.1 i.2.1 i.2.2.2]) (fun i => s.length - i.1) (1, [], none, 0) ⟨by simp, by simp only; omega, by simp, by simp, s.length, by simp; omega, by cases nmR s.length (s.drop 1) <;> simp⟩ ?_ ?_ ?_
 ·(repeat (first | exact Sub.nil _ | refine Sub.cons rfl ?_))
 ·intro w hw; exact hw
 ·rintro ⟨p, ns, b, d⟩ hI
  simp only at hI
  have hp1 := hI.p1
  have hpl := hI.pl
  have hnl := hI.nl
  repeat refine x_ ?_
  refine m_ ?_
  refine m_ ?_
  refine f_ ((s_index_str rfl rfl (by omega)).eq (v' := U8 (s.getD p 0)) (by simp only [Int.toNat_natCast])) ?_
  refine f_ ((s_neq rfl rfl).eq (v' := .bool (!decide (s.getD p 0 = 41))) (congrArg (fun b => Value.bool (!b)) (u8_eq (b := 41)))) ?_
  repeat refine n_ ?_
  refine g_cond rfl (fun h3 => ?_) (fun h3 => ?_)
  ·have h41 : s.getD p 0 ≠ 41 := by simpa using h3
   repeat refine x_ ?_
   refine m_ ?_
   refine a_ ?_
   repeat refine n_ ?_
   refine g_loop (ι := Nat) (fun j => p ≤ j ∧ j ≤ s.length ∧ ∀ i, p ≤ i → i < j → noStop (s.getD i 0) = true) (fun j => [(0, B s), (5, .slice b ns.length d), (6, .int .i64 (j : Nat)), (7, .int .i64 (p : Nat))]) (fun _ => [OwnS b ns d]) (fun j => s.length - j) p ⟨Nat.le_refl _, by omega, fun i h h' => by omega⟩ ?_ ?_ ?_
   ·(repeat (first | exact Sub.nil _ | refine Sub.cons rfl ?_))
   ·intro w hw; exact hw
   ·rintro j ⟨hpj, hjl, hno⟩
    obtain ⟨r1, hr1⟩ : ∃ q, q = decide ((j : Int) < (s.length : Nat)) := ⟨_, rfl⟩
    obtain ⟨r2, hr2⟩ : ∃ q, q = decide (s.getD j 0 = 32) := ⟨_, rfl⟩
    obtain ⟨r3, hr3⟩ : ∃ q, q = decide (s.getD j 0 = 41) := ⟨_, rfl⟩
    have hns : noStop (s.getD j 0) = (!r2 && !r3) := by
     rw [hr2, hr3]
     rw [Bool.eq_iff_iff]
     simp only [noStop, Bool.and_eq_true, bne_iff_ne, ne_eq, Bool.not_eq_true', decide_eq_false_iff_not]
    repeat refine y_ ?_
    refine g_cutK [(0, B s), (5, .slice b ns.length d), (6, .int .i64 (j : Nat)), (7, .int .i64 (p : Nat)), (38, .bool (r1 && (!r2 && !r3)))] [OwnS b ns d] ?_ ?_
    ·cases r1 <;> cases r2 <;> cases r3
     all_goals (
      repeat refine x_ ?_
      refine m_ ?_
      refine m_ ?_
      refine f_ (s_len_str rfl) ?_
      refine f_ ((s_lss rfl rfl).eb hr1) ?_
      refine m_ ?_
      (first | refine gl_guard_no rfl rfl rfl rfl rfl rfl rfl ?_ | (refine v_ ?_; refine m_ ?_))
      (first | refine gl_guard_no rfl rfl rfl rfl rfl rfl rfl ?_ | (refine v_ ?_; refine m_ ?_))
      (first | refine gl_guard_no rfl rfl rfl rfl rfl rfl rfl ?_ | (refine v_ ?_; refine f_ ((s_index_str rfl rfl (by simp at hr1; omega)).eq (v' := U8 (s.getD j 0)) (by simp only [Int.toNat_natCast])) ?_))
      (first | refine gl_guard_no rfl rfl rfl rfl rfl rfl rfl ?_ | (refine v_ ?_; refine f_ ((s_neq rfl rfl).eq ((congrArg (fun b => Value.bool (!b)) ((u8_eq (b := 32)).trans hr2.symm)))) ?_))
      refine f_ z_4 ?_
      refine m_ ?_
      (first | refine gl_guard_no rfl rfl rfl rfl rfl rfl rfl ?_ | (refine v_ ?_; refine m_ ?_))
      (first | refine gl_guard_no rfl rfl rfl rfl rfl rfl rfl ?_ | (refine v_ ?_; refine m_ ?_))
      (first | refine gl_guard_no rfl rfl rfl rfl rfl rfl rfl ?_ | (refine v_ ?_; refine f_ ((s_index_str rfl rfl (by simp at hr1; omega)).eq (v' := U8 (s.getD j 0)) (by simp only [Int.toNat_natCast])) ?_))
      (first | refine gl_guard_no rfl rfl rfl rfl rfl rfl rfl ?_ | (refine v_ ?_; refine f_ ((s_neq rfl rfl).eq ((congrArg (fun b => Value.bool (!b)) ((u8_eq (b := 41)).trans hr3.symm)))) ?_))
      refine f_ z_4 ?_
      refine gl_nil ?_
      repeat refine y_ ?_)
     all_goals exact at_cut j_ i_
    repeat refine y_ ?_
    refine g_cond rfl (fun h4 => ?_) (fun h4 => ?_)
    ·simp only [Bool.and_eq_true] at h4
     have hj' : j < s.length := by have := of_decide_eq_true (hr1.symm.trans h4.1); omega
     repeat refine x_ ?_
     refine m_ ?_
     refine f_ (s_add_i64 rfl rfl (by omega)) ?_
     refine a_ ?_
     repeat refine n_ ?_
     refine at_next (j + 1) ⟨by omega, by omega, fun i h h' => ?_⟩ (by omega) ?_ ?_
     ·rcases Nat.lt_succ_iff_lt_or_eq.1 h' with h5 | rfl
      ·exact hno i h h5
      ·rw [hns]; simpa using h4.2
     ·(repeat (first | exact Sub.nil _ | refine Sub.cons rfl ?_))
     ·intro w hw; exact hw
    ·have hend : j < s.length → noStop (s.getD j 0) = false := fun hj => by
      have : r1 = true := hr1.trans (decide_eq_true (by omega))
      rw [this, Bool.true_and] at h4
      rw [hns, h4]
     obtain ⟨hw1, hw2⟩ := word_end hpj hjl hno hend
     have hjw : j = p + ((s.drop p).takeWhile noStop).length := by omega
     have hwl : ((s.drop p).takeWhile noStop).length ≤ s.length := by omega
     generalize hW : (s.drop p).takeWhile noStop = W at *
     have hwl2 : W.length = j - p := hw2
     repeat refine x_ ?_
     refine m_ ?_
     refine m_ ?_
     refine m_ ?_
     refine m_ ?_
     refine f_ ((s_slice_str rfl rfl rfl (by omega)).eq (v' := B W) (congrArg B ((cut_word hpj).trans hw1.symm))) ?_
     refine gl_buildSliceU rfl rfl rfl rfl rfl rfl (xs := fV [W]) rfl rfl ?_; intro a46 ha46
     refine gl_append rfl rfl (fun a' c' => .there .here) (fun w hw => (hw.ownN z_3).2.2.1) rfl rfl rfl (fV_one _) (by show (_ + 1) * 16 ≤ _; omega) (by omega) rfl ?_; intro a5 c5 hc5
     refine a_ ?_
     repeat refine x_ ?_
     refine m_ ?_
     refine m_ ?_
     refine f_ (s_len_str rfl) ?_
     refine f_ (s_geq rfl rfl) ?_
     repeat refine n_ ?_
     refine g_cond rfl (fun h5 => ?_) (fun h5 => ?_)
     ·have hje : j = s.length := by simp at h5; omega
      have hn : nmR s.length (s.drop 1) = none := hI.none fun k => nmR_end hpl h41 (by rw [hW, ← hjw, hje, List.drop_length])
      rw [hpg, hn]
      repeat refine x_ ?_
      refine a_ ?_
      refine a_ ?_
      refine a_ ?_
      repeat refine n_ ?_
      refine g_ret ?_
      exact at_end3 rfl rfl rfl rfl [OwnS none [] 0] ⟨none, 0, rfl, rfl⟩ (fun w hw => (hw.dropAll).addNil _ _)
     ·have hjl2 : j < s.length := by simp at h5; omega
      repeat refine x_ ?_
      refine m_ ?_
      refine m_ ?_
      refine f_ ((s_index_str rfl rfl (by omega)).eq (v' := U8 (s.getD j 0)) (by simp only [Int.toNat_natCast])) ?_
      refine f_ ((s_eql rfl rfl).eq (v' := .bool (decide (s.getD j 0 = 32))) (congrArg Value.bool (u8_eq (b := 32)))) ?_
      repeat refine n_ ?_
      refine g_cond rfl (fun h6 => ?_) (fun h6 => ?_)
      ·have h32 := of_decide_eq_true h6
       repeat refine x_ ?_
       refine m_ ?_
       refine f_ (s_add_i64 rfl rfl (by omega)) ?_
       refine a_ ?_
       repeat refine x_ ?_
       refine m_ ?_
       refine m_ ?_
       refine f_ (s_len_str rfl) ?_
       refine f_ (s_geq rfl rfl) ?_
       repeat refine n_ ?_
       refine g_cond rfl (fun h7 => ?_) (fun h7 => ?_)
       ·have hje : s.length ≤ j + 1 := by simp at h7; omega
        have hn : nmR s.length (s.drop 1) = none := hI.none fun k => nmR_bad hpl h41 (by rw [hW]; exact hjw) hjl2 h32 (.inl hje)
        rw [hpg, hn]
        repeat refine x_ ?_
        refine a_ ?_
        refine a_ ?_
        refine a_ ?_
        repeat refine n_ ?_
        refine g_ret ?_
        exact at_end3 rfl rfl rfl rfl [OwnS none [] 0] ⟨none, 0, rfl, rfl⟩ (fun w hw => (hw.dropAll).addNil _ _)
       ·have hj1 : j + 1 < s.length := by simp at h7; omega
        repeat refine x_ ?_
        refine m_ ?_
        refine m_ ?_
        refine f_ ((s_index_str rfl rfl (by omega)).eq (v' := U8 (s.getD (j + 1) 0)) (by rw [show ((j : Int) + 1).toNat = j + 1 by omega])) ?_
        refine f_ ((s_eql rfl rfl).eq (v' := .bool (decide (s.getD (j + 1) 0 = 41))) (congrArg Value.bool (u8_eq (b := 41)))) ?_
        repeat refine n_ ?_
        refine g_cond rfl (fun h8 => ?_) (fun h8 => ?_)
        ·have hn : nmR s.length (s.drop 1) = none := hI.none fun k => nmR_bad hpl h41 (by rw [hW]; exact hjw) hjl2 h32 (.inr (of_decide_eq_true h8))
         rw [hpg, hn]
         repeat refine x_ ?_
         refine a_ ?_
         refine a_ ?_
         refine a_ ?_
         repeat refine n_ ?_
         refine g_ret ?_
         exact at_end3 rfl rfl rfl rfl [OwnS none [] 0] ⟨none, 0, rfl, rfl⟩ (fun w hw => (hw.dropAll).addNil _ _)
        ·have h8' := of_decide_eq_false h8
         repeat refine y_ ?_
         refine at_next (j + 1, ns ++ [W], a5, c5) (hI.next W hwl (by omega) (by omega) hj1 (by omega) fun k => by
          have := nmR_next (k := k) hpl h41 (by rw [hW]; exact hjw) hj1 h32 h8'
          rw [hW] at this
          exact this) (by simp only; omega) ?_ ?_
         ·simp only [List.length_append, List.length_singleton]
          (repeat (first | exact Sub.nil _ | refine Sub.cons rfl ?_))
         ·intro w hw
          simp only [OwnS, List.length_append, List.length_singleton]
          rw [fV_append]
          exact hw.drop
      ·have h32 := of_decide_eq_false h6
       have hpj2 : p < j := by
        rcases Nat.lt_or_ge p j with h | h
        ·exact h
        ·have hjp : j = p := by omega
         have := hend hjl2
         rw [hjp] at this h32
         have hy : noStop (s.getD p 0) = true := by
          simp only [noStop, Bool.and_eq_true, bne_iff_ne, ne_eq]
          exact ⟨h32, h41⟩
         rw [hy] at this
         cases this
       repeat refine y_ ?_
       refine at_next (j, ns ++ [W], a5, c5) (hI.next W hwl hpj (by omega) hjl2 hpj2 fun k => by
        have := nmR_stop (k := k) hpl h41 (by rw [hW]; exact hjw) hjl2 h32
        rw [hW] at this
        exact this) (by simp only; omega) ?_ ?_
       ·simp only [List.length_append, List.length_singleton]
        (repeat (first | exact Sub.nil _ | refine Sub.cons rfl ?_))
       ·intro w hw
        simp only [OwnS, List.length_append, List.length_singleton]
        rw [fV_append]
        exact hw.drop
  ·have h41 : s.getD p 0 = 41 := by simpa using h3
   have hn : nmR s.length (s.drop 1) = some (ns, p - 1) := by
    obtain ⟨k, hk, e⟩ := hI.eq
    obtain ⟨k, rfl⟩ : ∃ j, k = j + 1 := ⟨k - 1, by omega⟩
    rw [e, drop_get hpl, h41, nmR_close]
    simp
   rw [hn] at hpg
   simp only at hpg
   rw [hpg]
   have hnb : ∀ f ∈ ns, f.length ≤ big := fun f hf => Nat.le_trans (hI.nb f hf) hl'
   repeat refine x_ ?_
   refine m_ ?_
   refine gl_call _ rfl (MakeR_ct ns b d (by unfold big; omega) hnb) i_ (fun h hh ⟨bs, hb⟩ => Sat.rd hb z_3) rfl ?_; rintro v A ⟨a8, c8, rfl, rfl⟩
   refine m_ ?_
   refine f_ (s_extract rfl rfl) ?_
   refine f_ (s_extract rfl rfl) ?_
   refine a_ ?_
   refine a_ ?_
   repeat refine x_ ?_
   refine m_ ?_
   refine f_ (s_neq rfl rfl) ?_
   repeat refine n_ ?_
   refine g_cond rfl (fun h9 => ?_) (fun h9 => ?_)
   ·have he : ¬(makeR ns).2 = 0 := by simpa using h9
    rw [if_neg he]
    repeat refine x_ ?_
    refine m_ ?_
    refine a_ ?_
    refine a_ ?_
    refine a_ ?_
    repeat refine n_ ?_
    refine g_ret ?_
    exact at_end3 rfl rfl rfl rfl [OwnS none [] 0] ⟨none, 0, rfl, rfl⟩ (fun w hw => (hw.dropAll).addNil _ _)
   ·have he : (makeR ns).2 = 0 := by simpa using h9
    rw [if_pos he]
    repeat refine x_ ?_
    refine m_ ?_
    refine m_ ?_
    refine f_ (s_add_i64 rfl rfl (by omega)) ?_
    refine a_ ?_
    refine a_ ?_
    refine a_ ?_
    repeat refine n_ ?_
    refine g_ret ?_
    refine at_end3 rfl rfl rfl rfl [OwnS a8 (makeR ns).1 c8] ⟨a8, c8, ?_, rfl⟩ (fun w hw => hw.left (A := [_]))
    simp only
    rw [show ((p - 1 + 2 : Nat) : Int) = (p : Int) + 1 by omega]
    rfl
end Go.Proofs.YtgllpcggdcknaaaGreatDoor.Rp
namespace Go.Proofs.YtgllpcggdcknaaaGreatDoor.Rp
open Go Go.Sl
theorem pre_take (w t : Bs) : w.isPrefixOf t = (decide (w.length ≤ t.length) && decide (t.take w.length = w)) := by
 rw [Bool.eq_iff_iff, List.isPrefixOf_iff_prefix, List.prefix_iff_eq_take]
 simp only [Bool.and_eq_true, decide_eq_true_eq]
 constructor
 ·intro h
  refine ⟨?_, h.symm⟩
  have := congrArg List.length h
  rw [List.length_take] at this
  omega
 ·rintro ⟨_, h⟩
  exact h.symm
theorem begins_ct (s : Bs) (p : Nat) (w : Bs) (hs : s.length ≤ 1000000000000) (hp : p ≤ 2000000000000) (hw : w.length ≤ 1000000000000000) : Pu Tryz.prog 28 [B s, .int .i64 (p : Nat), B w] (fun _ => True) (.bool (beginsS s p w)) := by
 obtain ⟨q1, hq1⟩ : ∃ q, q = decide ((p : Int) ≤ (s.length : Nat)) := ⟨_, rfl⟩
 obtain ⟨q2, hq2⟩ : ∃ q, q = decide ((w.length : Int) ≤ (s.length : Nat) - (p : Nat)) := ⟨_, rfl⟩
 obtain ⟨q3, hq3⟩ : ∃ q, q = decide ((s.drop p).take w.length = w) := ⟨_, rfl⟩
 have e : beginsS s p w = (q1 && (q2 && q3)) := by
  unfold beginsS
  rw [pre_take, List.length_drop, hq1, hq2, hq3, Bool.eq_iff_iff]
  simp only [Bool.and_eq_true, decide_eq_true_eq]
  constructor
  ·rintro ⟨a, b, c⟩; exact ⟨by omega, by omega, c⟩
  ·rintro ⟨a, b, c⟩; exact ⟨by omega, by omega, c⟩
 rw [e]
 refine ct_enter 31 Tryz.func28 rfl rfl rfl ?_
 intro F _
 repeat refine x_ ?_
 refine a_ ?_
 repeat refine n_ ?_
 refine g_cutK [(6, .bool (q1 && (q2 && q3)))] [] ?_ ?_
 ·cases q1 <;> cases q2
  all_goals (
   repeat refine x_ ?_
   refine m_ ?_
   refine m_ ?_
   refine f_ (s_len_str rfl) ?_
   refine f_ ((s_leq rfl rfl).eb hq1) ?_
   refine m_ ?_
   (first | refine gl_guard_no rfl rfl rfl rfl rfl rfl rfl ?_ | (refine v_ ?_; refine m_ ?_))
   (first | refine gl_guard_no rfl rfl rfl rfl rfl rfl rfl ?_ | (refine v_ ?_; refine f_ (s_len_str rfl) ?_))
   (first | refine gl_guard_no rfl rfl rfl rfl rfl rfl rfl ?_ | (refine v_ ?_; refine m_ ?_))
   (first | refine gl_guard_no rfl rfl rfl rfl rfl rfl rfl ?_ | (refine v_ ?_; refine f_ (s_sub_i64 rfl rfl (by omega)) ?_))
   (first | refine gl_guard_no rfl rfl rfl rfl rfl rfl rfl ?_ | (refine v_ ?_; refine m_ ?_))
   (first | refine gl_guard_no rfl rfl rfl rfl rfl rfl rfl ?_ | (refine v_ ?_; refine f_ (s_len_str rfl) ?_))
   (first | refine gl_guard_no rfl rfl rfl rfl rfl rfl rfl ?_ | (refine v_ ?_; refine f_ ((s_geq rfl rfl).eb hq2) ?_))
   refine f_ z_4 ?_
   refine m_ ?_
   (first | refine gl_guard_no rfl rfl rfl rfl rfl rfl rfl ?_ | (refine v_ ?_; refine m_ ?_))
   (first | refine gl_guard_no rfl rfl rfl rfl rfl rfl rfl ?_ | (refine v_ ?_; refine m_ ?_))
   (first | refine gl_guard_no rfl rfl rfl rfl rfl rfl rfl ?_ | (refine v_ ?_; refine m_ ?_))
   (first | refine gl_guard_no rfl rfl rfl rfl rfl rfl rfl ?_ | (refine v_ ?_; refine m_ ?_))
   (first | refine gl_guard_no rfl rfl rfl rfl rfl rfl rfl ?_ | (refine v_ ?_; refine f_ (s_len_str rfl) ?_))
   (first | refine gl_guard_no rfl rfl rfl rfl rfl rfl rfl ?_ | (refine v_ ?_; refine f_ (s_add_i64 rfl rfl (by omega)) ?_))
   (first | refine gl_guard_no rfl rfl rfl rfl rfl rfl rfl ?_ | (refine v_ ?_; refine f_ ((s_slice_str rfl rfl rfl (by simp at hq1 hq2; omega)).eq (v' := B ((s.drop p).take w.length)) (by rw [Int.toNat_natCast, show ((p : Int) + (w.length : Nat)).toNat - p = w.length by omega])) ?_))
   (first | refine gl_guard_no rfl rfl rfl rfl rfl rfl rfl ?_ | (refine v_ ?_; refine m_ ?_))
   (first | refine gl_guard_no rfl rfl rfl rfl rfl rfl rfl ?_ | (refine v_ ?_; refine f_ ((s_eql_str rfl rfl).eb hq3) ?_))
   refine f_ z_4 ?_
   refine a_ ?_
   refine gl_nil ?_
   repeat refine y_ ?_)
  all_goals exact at_cut j_ i_
 ·repeat refine y_ ?_
  refine g_ret ?_
  exact at_end1 rfl rfl [] ⟨rfl, rfl⟩ (fun _ h => h)
theorem run_end {f : UInt8 → Bool} {s : Bs} {p j : Nat} (h1 : p ≤ j) (h2 : j ≤ s.length ∨ j = p) (hno : ∀ i, p ≤ i → i < j → f (s.getD i 0) = true) (he : j < s.length → f (s.getD j 0) = false) :
  (s.drop p).takeWhile f = (s.drop p).take (j - p) ∧ j = p + ((s.drop p).takeWhile f).length := by
 have e : s.drop p = (s.drop p).take (j - p) ++ s.drop j := by
  have := (List.take_append_drop (j - p) (s.drop p)).symm
  rw [List.drop_drop, show p + (j - p) = j by omega] at this
  exact this
 have hw : (s.drop p).takeWhile f = (s.drop p).take (j - p) := by
  rw [e]
  rw [takeWhile_of f _ _ (fun c hc => ?_) (fun c hc => ?_)]
  ·rw [← e]
  ·obtain ⟨i, hi, rfl⟩ := List.getElem_of_mem hc
   rw [List.length_take, List.length_drop] at hi
   have := hno (p + i) (by omega) (by omega)
   rw [List.getD_eq_getElem?_getD, List.getElem?_eq_getElem (by omega)] at this
   simpa using this
  ·by_cases hj : j < s.length
   ·rw [drop_get hj] at hc
    simp at hc
    subst hc
    exact he hj
   ·rw [List.drop_of_length_le (by omega)] at hc
    simp at hc
 refine ⟨hw, ?_⟩
 rw [hw, List.length_take, List.length_drop]
 omega
theorem to_ct (s : Bs) (p : Nat) (stops : Bs) (hs : s.length ≤ 1000000000000) (hp : p ≤ 2000000000000) (hw : stops.length ≤ 1000000000000) : Pu Tryz.prog 60 [B s, .int .i64 (p : Nat), B stops] (fun _ => True) (.int .i64 (toS s p stops : Nat)) := by
 refine ct_enter 22 Tryz.func60 rfl rfl rfl ?_
 intro F _
 repeat refine x_ ?_
 refine a_ ?_
 repeat refine n_ ?_
 refine g_loop (ι := Nat) (fun j => p ≤ j ∧ (j ≤ s.length ∨ j = p) ∧ ∀ i, p ≤ i → i < j → (!stops.contains (s.getD i 0)) = true) (fun j => [(0, B s), (1, .int .i64 (j : Nat)), (2, B stops)]) (fun _ => []) (fun j => s.length - j) p ⟨Nat.le_refl _, .inr rfl, fun i h h' => by omega⟩ ?_ ?_ ?_
 ·(repeat (first | exact Sub.nil _ | refine Sub.cons rfl ?_))
 ·intro w hw; exact hw
 ·rintro j ⟨hpj, hjl, hno⟩
  obtain ⟨r1, hr1⟩ : ∃ q, q = decide ((j : Int) < (s.length : Nat)) := ⟨_, rfl⟩
  obtain ⟨r2, hr2⟩ : ∃ q, q = stops.contains (s.getD j 0) := ⟨_, rfl⟩
  repeat refine y_ ?_
  refine g_cutK [(0, B s), (1, .int .i64 (j : Nat)), (2, B stops), (18, .bool (r1 && !r2))] [] ?_ ?_
  ·cases r1
   all_goals (
    repeat refine x_ ?_
    refine m_ ?_
    refine m_ ?_
    refine f_ (s_len_str rfl) ?_
    refine f_ ((s_lss rfl rfl).eb hr1) ?_
    refine m_ ?_
    (first | refine gl_guard_no rfl rfl rfl rfl rfl rfl rfl ?_ | (refine v_ ?_; refine m_ ?_))
    (first | refine gl_guard_no rfl rfl rfl rfl rfl rfl rfl ?_ | (refine v_ ?_; refine m_ ?_))
    (first | refine gl_guard_no rfl rfl rfl rfl rfl rfl rfl ?_ | (refine v_ ?_; refine f_ ((s_index_str rfl rfl (by simp at hr1; omega)).eq (v' := U8 (s.getD j 0)) (by simp only [Int.toNat_natCast])) ?_))
    (first | refine gl_guard_no rfl rfl rfl rfl rfl rfl rfl ?_ | (refine v_ ?_; refine m_ ?_))
    (first | refine gl_guard_no rfl rfl rfl rfl rfl rfl rfl ?_ | (refine v_ ?_; refine gl_callp rfl (In_ct (s.getD j 0) stops (by omega)) (fun _ _ _ => trivial) rfl ?_; rw [← hr2]))
    (first | refine gl_guard_no rfl rfl rfl rfl rfl rfl rfl ?_ | (refine v_ ?_; refine f_ (s_not rfl) ?_))
    refine f_ z_4 ?_
    refine gl_nil ?_
    repeat refine y_ ?_)
   all_goals exact at_cut j_ i_
  repeat refine y_ ?_
  refine g_cond rfl (fun h4 => ?_) (fun h4 => ?_)
  ·simp only [Bool.and_eq_true] at h4
   have hj' : j < s.length := by have := of_decide_eq_true (hr1.symm.trans h4.1); omega
   repeat refine x_ ?_
   refine m_ ?_
   refine f_ (s_add_i64 rfl rfl (by omega)) ?_
   refine a_ ?_
   repeat refine n_ ?_
   refine at_next (j + 1) ⟨by omega, .inl (by omega), fun i h h' => ?_⟩ (by omega) ?_ ?_
   ·rcases Nat.lt_succ_iff_lt_or_eq.1 h' with h5 | rfl
    ·exact hno i h h5
    ·rw [← hr2]; exact h4.2
   ·(repeat (first | exact Sub.nil _ | refine Sub.cons rfl ?_))
   ·intro w hw; exact hw
  ·have hend : j < s.length → (!stops.contains (s.getD j 0)) = false := fun hj => by
    have : r1 = true := hr1.trans (decide_eq_true (by omega))
    rw [this, Bool.true_and] at h4
    rw [← hr2]; exact h4
   have he := (run_end (f := fun c => !stops.contains c) hpj hjl hno hend).2
   have e : toS s p stops = j := he.symm
   rw [e]
   repeat refine x_ ?_
   refine m_ ?_
   refine a_ ?_
   repeat refine n_ ?_
   refine g_ret ?_
   exact at_end1 rfl rfl [] ⟨rfl, rfl⟩ (fun _ h => h)
theorem numberR_ct (s : Bs) (p : Nat) (hs : s.length ≤ 1000000000000) (hp : p ≤ s.length) : Pu Tryz.prog 66 [B s, .int .i64 (p : Nat)] (fun _ => True) (.tuple #[.int .u64 ((numR s p).1 : Nat), .int .i64 ((numR s p).2 : Nat)]) := by
 refine ct_enter 38 Tryz.func66 rfl rfl rfl ?_
 intro F _
 repeat refine x_ ?_
 refine a_ ?_
 refine a_ ?_
 repeat refine x_ ?_
 refine m_ ?_
 refine a_ ?_
 repeat refine n_ ?_
 refine g_loop (ι := Nat) (fun j => p ≤ j ∧ j ≤ s.length ∧ ∀ i, p ≤ i → i < j → isDig (s.getD i 0) = true) (fun j => [(0, B s), (1, .int .i64 (p : Nat)), (6, .int .i64 (j : Nat))]) (fun _ => []) (fun j => s.length - j) p ⟨Nat.le_refl _, hp, fun i h h' => by omega⟩ ?_ ?_ ?_
 ·(repeat (first | exact Sub.nil _ | refine Sub.cons rfl ?_))
 ·intro w hw; exact hw
 ·rintro j ⟨hpj, hjl, hno⟩
  obtain ⟨r1, hr1⟩ : ∃ q, q = decide ((j : Int) < (s.length : Nat)) := ⟨_, rfl⟩
  obtain ⟨r2, hr2⟩ : ∃ q, q = decide ((48 : Int) ≤ ((s.getD j 0).toNat : Nat)) := ⟨_, rfl⟩
  obtain ⟨r3, hr3⟩ : ∃ q, q = decide ((((s.getD j 0).toNat : Nat) : Int) ≤ 57) := ⟨_, rfl⟩
  have hdg : isDig (s.getD j 0) = (r2 && r3) := by
   rw [hr2, hr3, Bool.eq_iff_iff]
   simp only [isDig, Bool.and_eq_true, decide_eq_true_eq]
   omega
  repeat refine y_ ?_
  refine g_cutK [(0, B s), (1, .int .i64 (p : Nat)), (6, .int .i64 (j : Nat)), (25, .bool (r1 && (r2 && r3)))] [] ?_ ?_
  ·cases r1 <;> cases r2 <;> cases r3
   all_goals (
    repeat refine x_ ?_
    refine m_ ?_
    refine m_ ?_
    refine f_ (s_len_str rfl) ?_
    refine f_ ((s_lss rfl rfl).eb hr1) ?_
    refine m_ ?_
    (first | refine gl_guard_no rfl rfl rfl rfl rfl rfl rfl ?_ | (refine v_ ?_; refine m_ ?_))
    (first | refine gl_guard_no rfl rfl rfl rfl rfl rfl rfl ?_ | (refine v_ ?_; refine m_ ?_))
    (first | refine gl_guard_no rfl rfl rfl rfl rfl rfl rfl ?_ | (refine v_ ?_; refine f_ ((s_index_str rfl rfl (by simp at hr1; omega)).eq (v' := U8 (s.getD j 0)) (by simp only [Int.toNat_natCast])) ?_))
    (first | refine gl_guard_no rfl rfl rfl rfl rfl rfl rfl ?_ | (refine v_ ?_; refine f_ ((s_geq rfl rfl).eb hr2) ?_))
    refine f_ z_4 ?_
    refine m_ ?_
    (first | refine gl_guard_no rfl rfl rfl rfl rfl rfl rfl ?_ | (refine v_ ?_; refine m_ ?_))
    (first | refine gl_guard_no rfl rfl rfl rfl rfl rfl rfl ?_ | (refine v_ ?_; refine m_ ?_))
    (first | refine gl_guard_no rfl rfl rfl rfl rfl rfl rfl ?_ | (refine v_ ?_; refine f_ ((s_index_str rfl rfl (by simp at hr1; omega)).eq (v' := U8 (s.getD j 0)) (by simp only [Int.toNat_natCast])) ?_))
    (first | refine gl_guard_no rfl rfl rfl rfl rfl rfl rfl ?_ | (refine v_ ?_; refine f_ ((s_leq rfl rfl).eb hr3) ?_))
    refine f_ z_4 ?_
    refine gl_nil ?_
    repeat refine y_ ?_)
   all_goals exact at_cut j_ i_
  repeat refine y_ ?_
  refine g_cond rfl (fun h4 => ?_) (fun h4 => ?_)
  ·simp only [Bool.and_eq_true] at h4
   have hj' : j < s.length := by have := of_decide_eq_true (hr1.symm.trans h4.1); omega
   repeat refine x_ ?_
   refine m_ ?_
   refine f_ (s_add_i64 rfl rfl (by omega)) ?_
   refine a_ ?_
   repeat refine n_ ?_
   refine at_next (j + 1) ⟨by omega, by omega, fun i h h' => ?_⟩ (by omega) ?_ ?_
   ·rcases Nat.lt_succ_iff_lt_or_eq.1 h' with h5 | rfl
    ·exact hno i h h5
    ·rw [hdg, h4.2.1, h4.2.2]; rfl
   ·(repeat (first | exact Sub.nil _ | refine Sub.cons rfl ?_))
   ·intro w hw; exact hw
  ·have hend : j < s.length → isDig (s.getD j 0) = false := fun hj => by
    have : r1 = true := hr1.trans (decide_eq_true (by omega))
    rw [this, Bool.true_and] at h4
    rw [hdg]; exact h4
   obtain ⟨hw1, he⟩ := run_end hpj (.inl hjl) hno hend
   have e : numR s p = ((numS ((s.drop p).take (j - p))).getD 0, j) := by
    unfold numR dgs
    rw [← he, hw1]
   rw [e]
   repeat refine x_ ?_
   refine m_ ?_
   refine m_ ?_
   refine m_ ?_
   refine f_ ((s_slice_str rfl rfl rfl (by omega)).eq (v' := B ((s.drop p).take (j - p))) (congrArg B (cut_word hpj))) ?_
   refine gl_callp rfl (Number_ct ((s.drop p).take (j - p)) (by rw [List.length_take, List.length_drop]; omega)) (fun _ _ _ => trivial) rfl ?_
   refine m_ ?_
   refine f_ (s_extract rfl rfl) ?_
   refine f_ (s_extract rfl rfl) ?_
   refine a_ ?_
   refine a_ ?_
   repeat refine x_ ?_
   refine m_ ?_
   refine m_ ?_
   refine a_ ?_
   refine a_ ?_
   repeat refine n_ ?_
   refine g_ret ?_
   exact at_end2 rfl rfl rfl [] ⟨rfl, rfl⟩ (fun _ h => h)
theorem digitsR_ct (n : Nat) (hn : n ≤ 18446744073709551615) : Pu Tryz.prog 43 [.int .u64 (n : Nat)] (fun _ => True) (B (digS n)) := by
 refine ct_enter 5 Tryz.func43 rfl rfl rfl ?_
 intro F _
 repeat refine x_ ?_
 refine a_ ?_
 repeat refine x_ ?_
 refine m_ ?_
 refine gl_callp rfl (DigitsR_ct _ (by omega)) (fun h hh hb => by first | trivial | (first | exact RdS.le (by assumption) hh | (obtain ⟨bs, hb⟩ := hb; exact Sat.rd hb (z_3))) | (refine ⟨?_, ?_⟩ <;> (first | exact RdS.le (by assumption) hh | (obtain ⟨bs, hb⟩ := hb; exact Sat.rd hb (z_3)))) | (refine ⟨?_, ?_, ?_⟩ <;> (first | exact RdS.le (by assumption) hh | (obtain ⟨bs, hb⟩ := hb; exact Sat.rd hb (z_3))))) rfl ?_
 refine a_ ?_
 repeat refine n_ ?_
 refine g_ret ?_
 exact at_end1 rfl rfl [] ⟨rfl, rfl⟩ (fun _ h => h)
theorem may_ct (names : Bs) (c : UInt8) (zero : Bool) (hn : names.length ≤ 1000000000000) : Pu Tryz.prog 74 [B names, U8 c, .bool zero] (fun _ => True) (.bool (zero || names.contains c)) := by
 refine ct_enter 13 Tryz.func74 rfl rfl rfl ?_
 intro F _
 repeat refine x_ ?_
 refine a_ ?_
 repeat refine n_ ?_
 cases zero
 ·repeat refine y_ ?_
  refine g_region ?_
  refine m_ ?_
  refine m_ ?_
  (refine v_ ?_; refine m_ ?_)
  (refine v_ ?_; refine m_ ?_)
  (refine v_ ?_; refine gl_callp rfl (In_ct _ _ (by omega)) (fun h hh hb => by first | trivial | (first | exact RdS.le (by assumption) hh | (obtain ⟨bs, hb⟩ := hb; exact Sat.rd hb (z_3))) | (refine ⟨?_, ?_⟩ <;> (first | exact RdS.le (by assumption) hh | (obtain ⟨bs, hb⟩ := hb; exact Sat.rd hb (z_3)))) | (refine ⟨?_, ?_, ?_⟩ <;> (first | exact RdS.le (by assumption) hh | (obtain ⟨bs, hb⟩ := hb; exact Sat.rd hb (z_3))))) rfl ?_)
  refine f_ (by exact s_pick_f rfl rfl) ?_
  refine a_ ?_
  repeat refine n_ ?_
  refine g_ret ?_
  exact at_end1 rfl rfl [] ⟨rfl, rfl⟩ (fun _ h => h)
 ·repeat refine y_ ?_
  refine g_region ?_
  refine m_ ?_
  refine m_ ?_
  (refine gl_guard_no rfl rfl rfl rfl rfl rfl rfl ?_)
  (refine gl_guard_no rfl rfl rfl rfl rfl rfl rfl ?_)
  (refine gl_guard_no rfl rfl rfl rfl rfl rfl rfl ?_)
  refine f_ z_9 ?_
  refine a_ ?_
  repeat refine n_ ?_
  refine g_ret ?_
  exact at_end1 rfl rfl [] ⟨rfl, rfl⟩ (fun _ h => h)
end Go.Proofs.YtgllpcggdcknaaaGreatDoor.Rp
namespace Go.Proofs.YtgllpcggdcknaaaGreatDoor.Rp
open Go Go.Sl
def plainW (s : Bs) (wo : UInt8) : Bool := s.all (fun c => isPlain c && !decide (c = wo)) && !s.isEmpty && decide (s.length ≤ 512)
theorem plainR_ct (s : Bs) (wo : UInt8) (hs : s.length ≤ 1000000000000) : Pu Tryz.prog 41 [B s, U8 wo] (fun _ => True) (.bool (plainW s wo)) := by
 refine ct_enter 37 Tryz.func41 rfl rfl rfl ?_
 intro F _
 repeat refine x_ ?_
 refine a_ ?_
 repeat refine x_ ?_
 refine a_ ?_
 repeat refine n_ ?_
 refine g_loop (ι := Nat) (fun k => k ≤ s.length ∧ ∀ j, j < k → (isPlain (s.getD j 0) && !decide (s.getD j 0 = wo)) = true) (fun k => [(0, B s), (1, U8 wo), (5, .int .i64 (k : Nat))]) (fun _ => []) (fun k => s.length - k) 0 ⟨by omega, fun j h => by omega⟩ ?_ ?_ ?_
 ·(repeat (first | exact Sub.nil _ | refine Sub.cons rfl ?_))
 ·intro w hw; exact hw
 ·rintro k ⟨hk, hno⟩
  repeat refine x_ ?_
  refine m_ ?_
  refine m_ ?_
  refine f_ (s_len_str rfl) ?_
  refine f_ (s_lss rfl rfl) ?_
  repeat refine n_ ?_
  refine g_cond rfl (fun h => ?_) (fun h => ?_)
  ·have hk' : k < s.length := by simp at h; omega
   obtain ⟨p1, hp1⟩ : ∃ q, q = decide (((s.getD k 0).toNat : Int) < 32) := ⟨_, rfl⟩
   obtain ⟨p2, hp2⟩ : ∃ q, q = decide ((126 : Int) < ((s.getD k 0).toNat : Nat)) := ⟨_, rfl⟩
   obtain ⟨p3, hp3⟩ : ∃ q, q = decide (s.getD k 0 = wo) := ⟨_, rfl⟩
   have hb : (isPlain (s.getD k 0) && !decide (s.getD k 0 = wo)) = !(p1 || (p2 || p3)) := by
    rw [← hp3, hp1, hp2, Bool.eq_iff_iff]
    simp only [isPlain, Bool.and_eq_true, Bool.not_eq_true', Bool.or_eq_false_iff, decide_eq_true_eq, decide_eq_false_iff_not]
    constructor
    ·rintro ⟨⟨a, b⟩, c⟩; exact ⟨by omega, by omega, c⟩
    ·rintro ⟨a, b, c⟩; exact ⟨⟨by omega, by omega⟩, c⟩
   repeat refine y_ ?_
   refine g_cutK [(0, B s), (1, U8 wo), (5, .int .i64 (k : Nat)), (28, .bool (p1 || (p2 || p3)))] [] ?_ ?_
   ·cases p1 <;> cases p2
    all_goals (
     repeat refine x_ ?_
     refine m_ ?_
     refine m_ ?_
     refine f_ ((s_index_str rfl rfl (by omega)).eq (v' := U8 (s.getD k 0)) (by simp only [Int.toNat_natCast])) ?_
     refine f_ ((s_lss rfl rfl).eb hp1) ?_
     refine m_ ?_
     (first | refine gl_guard_no rfl rfl rfl rfl rfl rfl rfl ?_ | (refine v_ ?_; refine m_ ?_))
     (first | refine gl_guard_no rfl rfl rfl rfl rfl rfl rfl ?_ | (refine v_ ?_; refine m_ ?_))
     (first | refine gl_guard_no rfl rfl rfl rfl rfl rfl rfl ?_ | (refine v_ ?_; refine f_ ((s_index_str rfl rfl (by omega)).eq (v' := U8 (s.getD k 0)) (by simp only [Int.toNat_natCast])) ?_))
     (first | refine gl_guard_no rfl rfl rfl rfl rfl rfl rfl ?_ | (refine v_ ?_; refine f_ ((s_gtr rfl rfl).eb hp2) ?_))
     refine f_ z_4 ?_
     refine m_ ?_
     (first | refine gl_guard_no rfl rfl rfl rfl rfl rfl rfl ?_ | (refine v_ ?_; refine m_ ?_))
     (first | refine gl_guard_no rfl rfl rfl rfl rfl rfl rfl ?_ | (refine v_ ?_; refine m_ ?_))
     (first | refine gl_guard_no rfl rfl rfl rfl rfl rfl rfl ?_ | (refine v_ ?_; refine f_ ((s_index_str rfl rfl (by omega)).eq (v' := U8 (s.getD k 0)) (by simp only [Int.toNat_natCast])) ?_))
     (first | refine gl_guard_no rfl rfl rfl rfl rfl rfl rfl ?_ | (refine v_ ?_; refine m_ ?_))
     (first | refine gl_guard_no rfl rfl rfl rfl rfl rfl rfl ?_ | (refine v_ ?_; refine f_ ((s_eql rfl rfl).eq ((congrArg Value.bool u8_eq).trans (congrArg Value.bool hp3.symm))) ?_))
     refine f_ z_4 ?_
     refine gl_nil ?_
     repeat refine y_ ?_)
    all_goals exact at_cut j_ i_
   ·repeat refine y_ ?_
    refine g_cond rfl (fun h2 => ?_) (fun h2 => ?_)
    ·have e : plainW s wo = false := by
      unfold plainW
      rw [all_no (p := fun c => isPlain c && !decide (c = wo)) hk' (by rw [hb, h2]; rfl)]
      rfl
     rw [e]
     repeat refine x_ ?_
     refine a_ ?_
     repeat refine n_ ?_
     refine g_ret ?_
     exact at_end1 rfl rfl [] ⟨rfl, rfl⟩ (fun _ h => h)
    ·repeat refine y_ ?_
     repeat refine x_ ?_
     refine m_ ?_
     refine f_ (s_add_i64 rfl rfl (by omega)) ?_
     refine a_ ?_
     repeat refine n_ ?_
     refine at_next (k + 1) ⟨by omega, fun j hj => ?_⟩ (by omega) ?_ ?_
     ·rcases Nat.lt_succ_iff_lt_or_eq.1 hj with h4 | rfl
      ·exact hno j h4
      ·rw [hb, h2]; rfl
     ·(repeat (first | exact Sub.nil _ | refine Sub.cons rfl ?_))
     ·intro w hw; exact hw
  ·have hkl : k = s.length := by simp at h; omega
   subst hkl
   obtain ⟨q1, hq1⟩ : ∃ q, q = decide ((1 : Int) ≤ (s.length : Nat)) := ⟨_, rfl⟩
   obtain ⟨q2, hq2⟩ : ∃ q, q = decide ((s.length : Int) ≤ 512) := ⟨_, rfl⟩
   have e : plainW s wo = (q1 && q2) := by
    unfold plainW
    rw [all_yes (p := fun c => isPlain c && !decide (c = wo)) hno, hq1, hq2, Bool.true_and, Bool.eq_iff_iff]
    simp only [Bool.and_eq_true, Bool.not_eq_true', List.isEmpty_eq_false_iff, decide_eq_true_eq]
    constructor
    ·rintro ⟨a, b⟩; have := List.length_pos_iff.mpr a; omega
    ·rintro ⟨a, b⟩; exact ⟨List.length_pos_iff.mp (by omega), by omega⟩
   rw [e]
   repeat refine y_ ?_
   cases q1
   all_goals (
    repeat refine x_ ?_
    refine m_ ?_
    refine f_ (s_len_str rfl) ?_
    refine f_ ((s_geq rfl rfl).eb hq1) ?_
    refine m_ ?_
    (first | refine gl_guard_no rfl rfl rfl rfl rfl rfl rfl ?_ | (refine v_ ?_; refine m_ ?_))
    (first | refine gl_guard_no rfl rfl rfl rfl rfl rfl rfl ?_ | (refine v_ ?_; refine f_ (s_len_str rfl) ?_))
    (first | refine gl_guard_no rfl rfl rfl rfl rfl rfl rfl ?_ | (refine v_ ?_; refine f_ ((s_leq rfl rfl).eb hq2) ?_))
    refine f_ z_4 ?_
    refine a_ ?_
    refine gl_nil ?_
    repeat refine y_ ?_)
   all_goals (refine g_ret ?_; exact at_end1 rfl rfl [] ⟨rfl, rfl⟩ (fun _ h => h))
theorem tagR_ct (s : Bs) (hs : s.length ≤ 1000000000000) : Pu Tryz.prog 42 [B s] (fun _ => True) (.bool (tagP s)) := by
 obtain ⟨q1, hq1⟩ : ∃ q, q = atomS s := ⟨_, rfl⟩
 obtain ⟨q2, hq2⟩ : ∃ q, q = s.contains 43 := ⟨_, rfl⟩
 obtain ⟨q3, hq3⟩ : ∃ q, q = decide ((s.length : Int) ≤ 32) := ⟨_, rfl⟩
 have e : tagP s = (q1 && (!q2 && q3)) := by
  unfold tagP
  rw [hq1, hq2, hq3, Bool.and_assoc]
  congr 2
  exact decide_eq_decide.mpr (by omega)
 rw [e]
 refine ct_enter 15 Tryz.func42 rfl rfl rfl ?_
 intro F _
 repeat refine x_ ?_
 refine a_ ?_
 repeat refine n_ ?_
 cases q1 <;> cases q2
 all_goals (
  repeat refine x_ ?_
  refine m_ ?_
  refine gl_callp rfl (AtomR_ct s (by omega)) (fun _ _ _ => trivial) rfl ?_; rw [← hq1]
  refine m_ ?_
  (first | refine gl_guard_no rfl rfl rfl rfl rfl rfl rfl ?_ | (refine v_ ?_; refine m_ ?_))
  (first | refine gl_guard_no rfl rfl rfl rfl rfl rfl rfl ?_ | (refine v_ ?_; refine gl_callp rfl (In_ct 43 s (by omega)) (fun _ _ _ => trivial) rfl ?_; rw [← hq2]))
  (first | refine gl_guard_no rfl rfl rfl rfl rfl rfl rfl ?_ | (refine v_ ?_; refine f_ (s_not rfl) ?_))
  refine f_ z_4 ?_
  refine m_ ?_
  (first | refine gl_guard_no rfl rfl rfl rfl rfl rfl rfl ?_ | (refine v_ ?_; refine m_ ?_))
  (first | refine gl_guard_no rfl rfl rfl rfl rfl rfl rfl ?_ | (refine v_ ?_; refine f_ (s_len_str rfl) ?_))
  (first | refine gl_guard_no rfl rfl rfl rfl rfl rfl rfl ?_ | (refine v_ ?_; refine f_ ((s_leq rfl rfl).eb hq3) ?_))
  refine f_ z_4 ?_
  refine a_ ?_
  refine gl_nil ?_
  repeat refine y_ ?_)
 all_goals (refine g_ret ?_; exact at_end1 rfl rfl [] ⟨rfl, rfl⟩ (fun _ h => h))
theorem boxQ_ct (s : Bs) (hs : s.length ≤ 1000000000000) : Pu Tryz.prog 47 [B s] (fun _ => True) (.bool (isBox s)) := by
 refine ct_enter 16 Tryz.func47 rfl rfl rfl ?_
 intro F _
 repeat refine x_ ?_
 refine a_ ?_
 repeat refine x_ ?_
 refine m_ ?_
 refine gl_callp rfl (BoxR_ct s (by unfold big; omega)) (fun _ _ _ => trivial) rfl ?_
 refine m_ ?_
 refine f_ (s_extract rfl rfl) ?_
 refine f_ (s_extract rfl rfl) ?_
 refine a_ ?_
 refine a_ ?_
 repeat refine n_ ?_
 cases hb : boxN s with
 | none =>
  have e : isBox s = false := by unfold isBox; rw [hb]; simp
  rw [e]
  repeat refine x_ ?_
  refine m_ ?_
  refine m_ ?_
  (refine gl_guard_no rfl rfl rfl rfl rfl rfl rfl ?_)
  (refine gl_guard_no rfl rfl rfl rfl rfl rfl rfl ?_)
  (refine gl_guard_no rfl rfl rfl rfl rfl rfl rfl ?_)
  refine f_ (by exact s_pick_f rfl rfl) ?_
  refine a_ ?_
  repeat refine n_ ?_
  refine g_ret ?_
  exact at_end1 rfl rfl [] ⟨rfl, rfl⟩ (fun _ h => h)
 | some b =>
  have e : isBox s = decide (b = s) := by unfold isBox; rw [hb]; simp
  rw [e]
  repeat refine x_ ?_
  refine m_ ?_
  refine m_ ?_
  (refine v_ ?_; refine m_ ?_)
  (refine v_ ?_; refine m_ ?_)
  (refine v_ ?_; refine f_ (s_eql_str rfl rfl) ?_)
  refine f_ z_9 ?_
  refine a_ ?_
  repeat refine n_ ?_
  refine g_ret ?_
  exact at_end1 rfl rfl [] ⟨rfl, rfl⟩ (fun _ h => h)
end Go.Proofs.YtgllpcggdcknaaaGreatDoor.Rp
