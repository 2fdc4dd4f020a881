/- The right lists are these: what holds of each of them. -/
import Derived.Test.YtodcghipfolejaaCQMath
namespace Go.Proofs.Ytodcghipfolejaa
open Go Go.Sl
set_option linter.unusedVariables false
set_option linter.unusedSimpArgs false

def srt : Int → List Int → Prop
  | _, [] => True
  | lo, x :: r => lo ≤ x ∧ x ≤ 5 ∧ srt (x + 1) r
def allF : Nat → List (List Int)
  | 0 => [[]]
  | k + 1 => allF k ++ (allF k).map fun r => (5 - (k : Int)) :: r
theorem srt_mono {lo lo' : Int} {l : List Int} (h : srt lo l) (hl : lo' ≤ lo) : srt lo' l := by
  cases l with
  | nil => trivial
  | cons x r => exact ⟨by have := h.1; omega, h.2.1, h.2.2⟩
theorem srt_mem : ∀ (k : Nat) (l : List Int), k ≤ 5 → srt (6 - (k : Int)) l → l ∈ allF k
  | 0, [], _, _ => by simp [allF]
  | 0, x :: r, _, h => by have h1 := h.1; have h2 := h.2.1; omega
  | k + 1, [], hk, _ => by
    rw [allF, List.mem_append]; exact .inl (srt_mem k [] (by omega) trivial)
  | k + 1, x :: r, hk, h => by
    rw [allF, List.mem_append]
    have h1 := h.1
    have h2 := h.2.1
    by_cases e : x = 5 - (k : Int)
    · right
      rw [List.mem_map]
      refine ⟨r, srt_mem k r (by omega) ?_, by rw [e]⟩
      have := h.2.2
      rw [e] at this
      exact srt_mono this (by omega)
    · left
      exact srt_mem k (x :: r) (by omega) ⟨by omega, h2, h.2.2⟩
theorem srt_of : ∀ (l : List Int) (lo : Int), (∀ i, i < l.length → lo ≤ l.getD i 0 ∧ l.getD i 0 ≤ 5 ∧ (0 < i → l.getD (i - 1) 0 < l.getD i 0)) → srt lo l
  | [], _, _ => trivial
  | x :: r, lo, h => by
    have h0 := h 0 (by simp)
    simp at h0
    refine ⟨h0.1, h0.2, srt_of r (x + 1) fun i hi => ?_⟩
    have key : ∀ j, j < r.length → x + 1 ≤ r.getD j 0 := by
      intro j
      induction j with
      | zero =>
        intro hj
        have := (h 1 (by simp; omega)).2.2 (by omega)
        simp only [Nat.sub_self, List.getD_cons_zero, List.getD_cons_succ] at this
        omega
      | succ j ih =>
        intro hj
        have h1 := ih (by omega)
        have := (h (j + 2) (by simp; omega)).2.2 (by omega)
        simp only [Nat.add_sub_cancel, List.getD_cons_succ, show j + 2 - 1 = j + 1 from rfl] at this
        omega
    have hi1 := h (i + 1) (by simp; omega)
    simp only [List.getD_cons_succ, Nat.add_sub_cancel] at hi1
    refine ⟨key i hi, hi1.2.1, fun hp => ?_⟩
    have := hi1.2.2 (by omega)
    obtain ⟨j, rfl⟩ : ∃ j, i = j + 1 := ⟨i - 1, by omega⟩
    simpa only [List.getD_cons_succ, Nat.add_sub_cancel] using this
theorem right_mem {l : List Int} (h : rightB l = true) : l ∈ allF 5 := by
  obtain ⟨_, h2⟩ := rightB_spec h
  refine srt_mem 5 l (by omega) (srt_of l _ fun i hi => ?_)
  have := h2 i hi
  simp only [okAt, Bool.and_eq_true, Bool.or_eq_true, decide_eq_true_eq] at this
  omega
theorem right_len {l : List Int} (h : rightB l = true) : 0 < l.length ∧ l.length ≤ 5 := by
  have h1 := right_mem h
  have h2 : ∀ l ∈ allF 5, l.length ≤ 5 := by decide +kernel
  exact ⟨(rightB_spec h).1, h2 l h1⟩
/-- how many of 1 to 5 stand in one of the two alone -/
def diffN (a b : List Int) (k : Nat) : Nat := (List.range k).countP fun i : Nat => !decide (inB a ((i : Int) + 1) = inB b ((i : Int) + 1))
theorem diff_succ (a b : List Int) (k : Nat) : diffN a b (k + 1) = diffN a b k + if !decide (inB a ((k : Int) + 1) = inB b ((k : Int) + 1)) then 1 else 0 := by
  simp only [diffN, List.range_succ, List.countP_append, List.countP_cons, List.countP_nil, Nat.zero_add]
theorem diff_le (a b : List Int) (k : Nat) : diffN a b k ≤ k := by
  have := List.countP_le_length (p := fun i : Nat => !decide (inB a ((i : Int) + 1) = inB b ((i : Int) + 1))) (l := List.range k)
  simpa [diffN] using this
def stepS (a b : List Int) : Bool := rightB a && rightB b && decide (diffN a b 5 = 1)
end Go.Proofs.Ytodcghipfolejaa
