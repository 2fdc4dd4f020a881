/- Members in plain words: which lists are right, which hold a majority, steps. -/
import Derived.Test.YtodcghipfolejaaCSl
namespace Go.Proofs.Ytodcghipfolejaa
open Go Go.Sl
set_option linter.unusedVariables false
set_option linter.unusedSimpArgs false

def okAt (l : List Int) (i : Nat) : Bool := decide (1 ≤ l.getD i 0) && decide (l.getD i 0 ≤ 5) && (decide (i = 0) || decide (l.getD (i - 1) 0 < l.getD i 0))
def rightB (l : List Int) : Bool := decide (0 < l.length) && (List.range l.length).all (okAt l)
theorem rightB_no {l : List Int} {i : Nat} (hi : i < l.length) (h : okAt l i = false) : rightB l = false := by
  unfold rightB
  rw [Bool.and_eq_false_iff]; right
  rw [List.all_eq_false]
  exact ⟨i, by simpa using hi, by simp [h]⟩
theorem rightB_end {l : List Int} (h : ∀ i, i < l.length → okAt l i = true) : rightB l = decide (0 < l.length) := by
  unfold rightB
  have : (List.range l.length).all (okAt l) = true := by rw [List.all_eq_true]; intro i hi; exact h i (by simpa using hi)
  rw [this]; simp
theorem rightB_spec {l : List Int} (h : rightB l = true) : 0 < l.length ∧ ∀ i, i < l.length → okAt l i = true := by
  unfold rightB at h
  rw [Bool.and_eq_true, List.all_eq_true] at h
  exact ⟨by simpa using h.1, fun i hi => h.2 i (by simpa using hi)⟩

/-- where a number stands -/
def idx (l : List Int) (v : Int) : Int := if v ∈ l then (l.idxOf v : Nat) else -1
def inB (l : List Int) (v : Int) : Bool := decide (v ∈ l)
theorem idx_ge (l : List Int) (v : Int) : decide (0 ≤ idx l v) = inB l v := by
  unfold idx inB; split <;> simp_all
theorem take_not_mem {l : List Int} {v : Int} {i : Nat} (h : v ∉ l.take i) (hi : i < l.length) (he : l.getD i 0 = v) : idx l v = (i : Nat) := by
  have hm : v ∈ l := by
    rw [List.mem_iff_getElem]; exact ⟨i, hi, by simpa [hi] using he⟩
  unfold idx; rw [if_pos hm]
  congr 1
  have e : l = l.take i ++ l.drop i := (List.take_append_drop i l).symm
  conv => lhs; rw [e]
  rw [List.idxOf_append, if_neg h]
  have e2 : l.drop i = v :: l.drop (i + 1) := by
    rw [List.drop_eq_getElem_cons hi]; congr 1; simpa [hi] using he
  rw [e2, List.idxOf_cons_self, List.length_take]; omega
theorem take_succ_mem {l : List Int} {v : Int} {i : Nat} (hi : i < l.length) : v ∈ l.take (i + 1) ↔ v ∈ l.take i ∨ l.getD i 0 = v := by
  rw [List.take_succ_eq_append_getElem hi, List.mem_append]
  simp only [List.mem_singleton, List.getD_eq_getElem?_getD, List.getElem?_eq_getElem hi, Option.getD_some]
  constructor
  · rintro (h | h)
    · exact .inl h
    · exact .inr h.symm
  · rintro (h | h)
    · exact .inl h
    · exact .inr h.symm

def cntB (l who : List Int) : Nat := l.countP (inB who)
def mostB (l who : List Int) : Bool := rightB l && decide (l.length < 2 * cntB l who)
theorem cnt_succ {l who : List Int} {i : Nat} (hi : i < l.length) : cntB (l.take (i + 1)) who = cntB (l.take i) who + if inB who (l.getD i 0) then 1 else 0 := by
  have e : l.getD i 0 = l[i] := by simp [hi]
  rw [cntB, List.take_succ_eq_append_getElem hi, List.countP_append, e]
  simp only [cntB, List.countP_cons, List.countP_nil, Nat.zero_add]
theorem cnt_le (l who : List Int) : cntB l who ≤ l.length := List.countP_le_length

/-- the numbers from 1 to 5 that one asks for -/
def pick (p : Int → Bool) (k : Nat) : List Int := ((List.range k).map fun i => ((i : Nat) : Int) + 1).filter p
theorem same_cases {a b : List Int} (h : a.length = b.length) (hk : ∀ i, i < a.length → a.getD i 0 = b.getD i 0) : a = b := by
  apply List.ext_getElem h
  intro i h1 h2
  have := hk i h1
  simpa [h1, h2] using this
end Go.Proofs.Ytodcghipfolejaa
