/- A heap in plain words: greatest first; what pushing and popping do to it. -/
import Derived.Test.YtodcghipfolejaaCQMath
namespace Go.Proofs.Ytodcghipfolejaa
open Go Go.Sl
set_option linter.unusedVariables false
set_option linter.unusedSimpArgs false

def u64V (l : List Int) : List Value := l.map fun n => .int .u64 n
theorem u64V_length (l : List Int) : (u64V l).length = l.length := by simp [u64V]
theorem u64V_append (a b : List Int) : u64V (a ++ b) = u64V a ++ u64V b := by simp [u64V]
theorem u64V_one (l : List Int) : ∀ q ∈ u64V l, q.oneCell' = true := fun q hq => by
  simp only [u64V, List.mem_map] at hq; obtain ⟨p, _, rfl⟩ := hq; rfl
def swp (xs : List Int) (i j : Nat) : List Int := (xs.set i (xs.getD j 0)).set j (xs.getD i 0)
theorem swp_length (xs : List Int) (i j : Nat) : (swp xs i j).length = xs.length := by simp [swp]
theorem swp_get {xs : List Int} {i j : Nat} (hi : i < xs.length) (hj : j < xs.length) (k : Nat) : (swp xs i j).getD k 0 = if k = j then xs.getD i 0 else if k = i then xs.getD j 0 else xs.getD k 0 := by
  simp only [swp, List.getD_eq_getElem?_getD, List.getElem?_set, List.length_set]
  by_cases h1 : j = k
  · subst h1; simp [hj]
  · have h1' : ¬ k = j := fun e => h1 e.symm
    by_cases h2 : i = k
    · subst h2; simp [h1, h1', hi]
    · have h2' : ¬ k = i := fun e => h2 e.symm
      simp [h1, h2, h1', h2']
theorem swp_perm {xs : List Int} {i j : Nat} (hi : i < xs.length) (hj : j < xs.length) : (swp xs i j).Perm xs := by
  have h := List.set_set_perm hi hj
  have e1 : xs.getD j 0 = xs[j] := by simp [hj]
  have e2 : xs.getD i 0 = xs[i] := by simp [hi]
  rw [swp, e1, e2]
  exact h
/-- greatest first, among the first n -/
def Mx (xs : List Int) (n : Nat) : Prop := ∀ i, 0 < i → i < n → xs.getD i 0 ≤ xs.getD ((i - 1) / 2) 0
def UpI (xs : List Int) (j : Nat) : Prop := (∀ i, 0 < i → i < xs.length → i ≠ j → xs.getD i 0 ≤ xs.getD ((i - 1) / 2) 0) ∧ (∀ i, 0 < i → i < xs.length → (i - 1) / 2 = j → 0 < j → xs.getD i 0 ≤ xs.getD ((j - 1) / 2) 0)
theorem up_start {xs : List Int} {v : Int} (h : Mx xs xs.length) : UpI (xs ++ [v]) xs.length := by
  have hg : ∀ k, k < xs.length → (xs ++ [v]).getD k 0 = xs.getD k 0 := fun k hk => by
    simp only [List.getD_eq_getElem?_getD]; rw [List.getElem?_append_left hk]
  refine ⟨fun i h0 hi hne => ?_, fun i h0 hi he hj => ?_⟩
  · rw [List.length_append, List.length_singleton] at hi
    rw [hg i (by omega), hg _ (by omega)]
    exact h i h0 (by omega)
  · rw [List.length_append, List.length_singleton] at hi
    omega
theorem up_stop {xs : List Int} {j : Nat} (h : UpI xs j) (hs : j = 0 ∨ xs.getD j 0 ≤ xs.getD ((j - 1) / 2) 0) : Mx xs xs.length := fun i h0 hi => by
  by_cases e : i = j
  · subst e
    rcases hs with h1 | h1
    · omega
    · exact h1
  · exact h.1 i h0 hi e
theorem up_step {xs : List Int} {j : Nat} (h : UpI xs j) (hj : 0 < j) (hjl : j < xs.length) (hs : xs.getD ((j - 1) / 2) 0 < xs.getD j 0) : UpI (swp xs ((j - 1) / 2) j) ((j - 1) / 2) := by
  have hp : (j - 1) / 2 < xs.length := by omega
  refine ⟨fun i h0 hi hne => ?_, fun i h0 hi he hp0 => ?_⟩
  · rw [swp_length] at hi
    rw [swp_get hp hjl, swp_get hp hjl]
    by_cases e1 : i = j
    · subst e1
      rw [if_pos rfl, if_neg (by omega), if_pos rfl]; omega
    · rw [if_neg e1, if_neg hne]
      have h1 := h.1 i h0 hi e1
      by_cases e2 : (i - 1) / 2 = j
      · rw [if_pos e2]
        exact h.2 i h0 hi e2 hj
      · rw [if_neg e2]
        by_cases e3 : (i - 1) / 2 = (j - 1) / 2
        · rw [if_pos e3]; rw [e3] at h1; omega
        · rw [if_neg e3]; exact h1
  · rw [swp_length] at hi
    rw [swp_get hp hjl, swp_get hp hjl]
    have hq := h.1 ((j - 1) / 2) hp0 hp (by omega)
    rw [if_neg (show ¬ ((j - 1) / 2 - 1) / 2 = j by omega), if_neg (show ¬ ((j - 1) / 2 - 1) / 2 = (j - 1) / 2 by omega)]
    by_cases e1 : i = j
    · rw [if_pos e1]; exact hq
    · rw [if_neg e1, if_neg (by omega)]
      have h1 := h.1 i h0 hi e1
      rw [he] at h1
      omega
def DnI (xs : List Int) (n i : Nat) : Prop := (∀ k, 0 < k → k < n → (k - 1) / 2 ≠ i → xs.getD k 0 ≤ xs.getD ((k - 1) / 2) 0) ∧ (∀ k, 0 < k → k < n → (k - 1) / 2 = i → 0 < i → xs.getD k 0 ≤ xs.getD ((i - 1) / 2) 0)
theorem dn_start {xs : List Int} (h : Mx xs xs.length) (hl : 0 < xs.length) : DnI (swp xs 0 (xs.length - 1)) (xs.length - 1) 0 := by
  refine ⟨fun k h0 hk hne => ?_, fun k h0 hk he hp => absurd hp (by omega)⟩
  rw [swp_get hl (by omega), swp_get hl (by omega), if_neg (by omega), if_neg (by omega), if_neg (by omega), if_neg hne]
  exact h k h0 (by omega)
/-- done: no son, or the greatest son isn't greater -/
theorem dn_stop {xs : List Int} {n i : Nat} (h : DnI xs n i) (hs : ∀ k, 0 < k → k < n → (k - 1) / 2 = i → xs.getD k 0 ≤ xs.getD i 0) : Mx xs n := fun k h0 hk => by
  by_cases e : (k - 1) / 2 = i
  · rw [e]; exact hs k h0 hk e
  · exact h.1 k h0 hk e
theorem dn_step {xs : List Int} {n i j : Nat} (h : DnI xs n i) (hn : n ≤ xs.length) (hj : (j - 1) / 2 = i) (hj0 : 0 < j) (hjn : j < n) (hs : xs.getD i 0 < xs.getD j 0) (hm : ∀ k, 0 < k → k < n → (k - 1) / 2 = i → xs.getD k 0 ≤ xs.getD j 0) : DnI (swp xs i j) n j := by
  have hil : i < xs.length := by omega
  have hjl : j < xs.length := by omega
  refine ⟨fun k h0 hk hne => ?_, fun k h0 hk he hp => ?_⟩
  · rw [swp_get hil hjl, swp_get hil hjl, if_neg hne]
    by_cases e1 : k = j
    · subst e1
      rw [if_pos rfl, if_pos hj]; omega
    · rw [if_neg e1]
      by_cases e2 : k = i
      · subst e2
        rw [if_pos rfl, if_neg (by omega)]
        have := h.2 j hj0 hjn hj h0
        exact this
      · rw [if_neg e2]
        by_cases e3 : (k - 1) / 2 = i
        · rw [if_pos e3]; exact hm k h0 hk e3
        · rw [if_neg e3]; exact h.1 k h0 hk e3
  · rw [swp_get hil hjl, swp_get hil hjl, hj, if_neg (show ¬ i = j by omega), if_pos rfl, if_neg (by omega), if_neg (by omega)]
    have := h.1 k h0 hk (by omega)
    rw [he] at this
    exact this
/-- the first is the greatest -/
theorem mx_top {xs : List Int} {n : Nat} (h : Mx xs n) : ∀ k, k < n → xs.getD k 0 ≤ xs.getD 0 0 := by
  intro k
  induction k using Nat.strongRecOn with
  | _ k ih =>
    intro hk
    by_cases e : k = 0
    · subst e; omega
    · have h1 := h k (by omega) hk
      have h2 := ih ((k - 1) / 2) (by omega) (by omega)
      omega
theorem getD_mem {xs : List Int} {k : Nat} (h : k < xs.length) : xs.getD k 0 ∈ xs := by
  have e : xs.getD k 0 = xs[k] := by simp [h]
  rw [e]; exact List.getElem_mem h
theorem mx_max {xs : List Int} (h : Mx xs xs.length) : ∀ v ∈ xs, v ≤ xs.getD 0 0 := fun v hv => by
  obtain ⟨k, hk, e⟩ := List.mem_iff_getElem.1 hv
  have := mx_top h k hk
  have e2 : xs.getD k 0 = v := by simp [hk, e]
  omega
theorem putx_set {xs : List Value} {q : Nat} {v : Value} (h : q < xs.length) : putx xs q [v] = xs.set q v := by
  rw [putx, List.set_eq_take_append_cons_drop, if_pos h]; simp
theorem u64V_set (xs : List Int) (i : Nat) (v : Int) : (u64V xs).set i (.int .u64 v) = u64V (xs.set i v) := by simp [u64V, List.map_set]
end Go.Proofs.Ytodcghipfolejaa
