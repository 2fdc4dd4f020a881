/- A log in plain words: its terms, pieces, members, what is merged into it. -/
import Derived.Test.YtodcghipfolejaaQ14
namespace Go.Proofs.Ytodcghipfolejaa
open Go Go.Sl
set_option linter.unusedVariables false
set_option linter.unusedSimpArgs false

theorem hp_left {F : Snap} {w : World} {A R : List As} (h : Hp F w (A ++ R)) : Hp F w A := by
  obtain ⟨bs, hs, hn, hf⟩ := h.own
  obtain ⟨ba, bb, rfl, ha, hb⟩ := Sat.split hs
  exact ⟨h.os, h.tape, h.output, h.keep, ba, ha, (List.nodup_append.1 hn).1, fun b hb => hf b (by simp [hb])⟩
/-- an entry: term, kind, data -/
abbrev Ent := Int × Int × List UInt8
abbrev E0 : Ent := (0, 0, [])
abbrev entC (e : Ent) : List Value := [.int .u64 e.1, .int .i64 e.2.1, B e.2.2]
abbrev entV (e : Ent) : Value := .agg #[.int .u64 e.1, .int .i64 e.2.1, B e.2.2]
def enV (l : List Ent) : List Value := l.flatMap entC
theorem enV_length (l : List Ent) : (enV l).length = l.length * 3 := by
  induction l with
  | nil => rfl
  | cons p l ih => simp only [enV, List.flatMap_cons, List.length_append, List.length_cons, List.length_nil] at *; omega
theorem enV_append (a b : List Ent) : enV (a ++ b) = enV a ++ enV b := by simp [enV]
theorem enV_one (l : List Ent) : ∀ q ∈ enV l, q.oneCell' = true := fun q hq => by
  simp only [enV, List.mem_flatMap] at hq; obtain ⟨p, _, hq⟩ := hq
  simp at hq; rcases hq with rfl | rfl | rfl <;> rfl
theorem enV_get : ∀ (l : List Ent) (i : Nat), i < l.length → ∀ j u, (entC (l.getD i E0))[j]? = some u → (enV l)[3 * i + j]? = some u
  | p :: l, 0, _, j, u, h => by
    have hj : j < 3 := by have := (List.getElem?_eq_some_iff.1 h).1; simpa using this
    rw [enV, List.flatMap_cons, List.getElem?_append_left (by simpa using hj)]
    simpa using h
  | p :: l, i + 1, hi, j, u, h => by
    have := enV_get l i (by simpa using hi) j u (by simpa using h)
    rw [enV, List.flatMap_cons, List.getElem?_append_right (by simp; omega)]
    have e : 3 * (i + 1) + j - (entC p).length = 3 * i + j := by simp; omega
    rw [e]; exact this
theorem enV_take (l : List Ent) (n : Nat) : enV (l.take n) = (enV l).take (n * 3) := by
  induction l generalizing n with
  | nil => simp [enV]
  | cons p l ih =>
    cases n with
    | zero => simp [enV]
    | succ n =>
      have e : (n + 1) * 3 = (entC p).length + n * 3 := by simp; omega
      have h1 : enV (p :: l) = entC p ++ enV l := rfl
      have h2 : enV ((p :: l).take (n + 1)) = entC p ++ enV (l.take n) := rfl
      rw [h2, h1, ih, e, List.take_length_add_append]
theorem enV_drop (l : List Ent) (n : Nat) : enV (l.drop n) = (enV l).drop (n * 3) := by
  induction l generalizing n with
  | nil => simp [enV]
  | cons p l ih =>
    cases n with
    | zero => simp [enV]
    | succ n =>
      have e : (n + 1) * 3 = (entC p).length + n * 3 := by simp; omega
      have h1 : enV (p :: l) = entC p ++ enV l := rfl
      have h2 : enV ((p :: l).drop (n + 1)) = enV (l.drop n) := rfl
      rw [h2, h1, ih, e, List.drop_length_add_append]

/-- a log in memory -/
structure LM where
  base : Int
  bt : Int
  conf : List Int
  l : List Ent
  ca : Option Addr
  cc : Nat
  la : Option Addr
  lc : Nat
abbrev LM.v (g : LM) : Value := .agg #[.int .u64 g.base, .int .u64 g.bt, .slice g.ca g.conf.length g.cc, .slice g.la g.l.length g.lc]
def LM.ok (g : LM) (h : Heap) : Prop := RdS h g.ca (intsV g.conf) ∧ RdS h g.la (enV g.l)
theorem LM.ok.le {g : LM} {h h' : Heap} (a : g.ok h) (b : Heap.le h h') : g.ok h' := ⟨a.1.le b, a.2.le b⟩
/-- of a size that a right log has -/
structure LM.fit (g : LM) : Prop where
  lo : 0 ≤ g.base
  hi : g.base ≤ 4611686018428387904
  len : g.l.length ≤ 1000000
  cl : g.conf.length ≤ 1000000
  cap : g.l.length ≤ g.lc

def hasL (g : LM) (i : Int) : Bool := decide (g.base ≤ i) && decide (i - g.base ≤ (g.l.length : Int))
def termV (g : LM) (i : Int) : Int := if hasL g i = true then (if i = g.base then g.bt else (g.l.getD (i - g.base - 1).toNat E0).1) else 0
def lastI (g : LM) : Int := g.base + (g.l.length : Int)
def lastT (g : LM) : Int := if g.l.length = 0 then g.bt else (g.l.getD (g.l.length - 1) E0).1
theorem last_term (g : LM) (h : 0 ≤ g.base) : termV g (lastI g) = lastT g ∧ hasL g (lastI g) = true := by
  have h1 : hasL g (lastI g) = true := by
    simp only [hasL, Bool.and_eq_true, decide_eq_true_eq]
    unfold lastI
    omega
  refine ⟨?_, h1⟩
  rw [termV, if_pos h1, lastT, lastI]
  by_cases h2 : g.l.length = 0
  · rw [if_pos (by omega), if_pos h2]
  · rw [if_neg (by omega), if_neg h2]
    congr 2; omega
def sliceL (g : LM) (frm : Int) (most : Int) : List Ent := if g.base < frm ∧ frm - g.base ≤ (g.l.length : Int) ∧ 1 ≤ most then (g.l.drop (frm - g.base - 1).toNat).take most.toNat else []
theorem slice_le (g : LM) (frm most : Int) : (sliceL g frm most).length ≤ g.l.length := by
  unfold sliceL
  split
  · rw [List.length_take, List.length_drop]; omega
  · simp

def okE (l : List Ent) (bt : Int) (i : Nat) : Bool := decide (1 ≤ (l.getD i E0).2.1) && decide ((l.getD i E0).2.1 ≤ 3) && decide ((if i = 0 then bt else (l.getD (i - 1) E0).1) ≤ (l.getD i E0).1)
def headOk (g : LM) : Bool := !(decide (0 < g.conf.length) && !rightB g.conf) && decide (g.base ≤ 4611686018427387904) && decide (g.l.length ≤ 1024)
def rightG (g : LM) : Bool := headOk g && (List.range g.l.length).all (okE g.l g.bt)
theorem rightG_no {g : LM} {i : Nat} (hi : i < g.l.length) (h : okE g.l g.bt i = false) : rightG g = false := by
  unfold rightG
  rw [Bool.and_eq_false_iff]; right
  rw [List.all_eq_false]
  exact ⟨i, by simpa using hi, by simp [h]⟩
theorem rightG_end {g : LM} (h : ∀ i, i < g.l.length → okE g.l g.bt i = true) : rightG g = headOk g := by
  unfold rightG
  have : (List.range g.l.length).all (okE g.l g.bt) = true := by rw [List.all_eq_true]; intro i hi; exact h i (by simpa using hi)
  rw [this]; simp
theorem rightG_spec {g : LM} (h : rightG g = true) : headOk g = true ∧ ∀ i, i < g.l.length → okE g.l g.bt i = true := by
  unfold rightG at h
  rw [Bool.and_eq_true, List.all_eq_true] at h
  exact ⟨h.1, fun i hi => h.2 i (by simpa using hi)⟩
theorem rightG_fit {g : LM} (h : rightG g = true) (h0 : 0 ≤ g.base) (hcap : g.l.length ≤ g.lc) : g.fit ∧ g.l.length ≤ 1024 := by
  have h1 := (rightG_spec h).1
  simp only [headOk, Bool.and_eq_true, Bool.not_eq_true', Bool.and_eq_false_iff, decide_eq_true_eq, decide_eq_false_iff_not, Bool.not_eq_false'] at h1
  refine ⟨⟨h0, by have := h1.1.2; omega, by omega, ?_, hcap⟩, h1.2⟩
  rcases h1.1.1 with h2 | h2
  · omega
  · have := right_len h2; omega

/-- members -/
def isC (e : Ent) : Bool := decide (e.2.1 = 2) && okR e.2.2
def confN (g : LM) : Nat → List Int × Int
  | 0 => (g.conf, g.base)
  | n + 1 => if isC (g.l.getD n E0) = true then (readL (g.l.getD n E0).2.2, g.base + (n : Int) + 1) else confN g n
def confAt (g : LM) (i : Int) : List Int × Int := confN g (min g.l.length (i - g.base).toNat)
theorem confN_le (g : LM) (hc : g.conf.length ≤ 1000000) : ∀ n, (confN g n).1.length ≤ 1000000
  | 0 => hc
  | n + 1 => by
    rw [confN]
    split
    · have := read_le (g.l.getD n E0).2.2
      simp only; omega
    · exact confN_le g hc n

/-- merging -/
def same (g : LM) (prev : Int) (l : List Ent) (k : Nat) : Bool := hasL g (prev + 1 + (k : Int)) && decide (termV g (prev + 1 + (k : Int)) = (l.getD k E0).1)
def firstD (g : LM) (prev : Int) (l : List Ent) : Nat := (List.range l.length).findIdx fun k => !same g prev l k
theorem firstD_end {g : LM} {prev : Int} {l : List Ent} (h : ∀ k, k < l.length → same g prev l k = true) : firstD g prev l = l.length := by
  have h1 := (List.findIdx_eq_length (p := fun k => !same g prev l k) (xs := List.range l.length)).2 (fun k hk => by simp [h k (by simpa using hk)])
  rw [List.length_range] at h1
  exact h1
theorem firstD_at {g : LM} {prev : Int} {l : List Ent} {k : Nat} (hk : k < l.length) (h : ∀ j, j < k → same g prev l j = true) (hn : same g prev l k = false) : firstD g prev l = k := by
  unfold firstD
  rw [List.findIdx_eq (by simpa using hk)]
  refine ⟨by simp [hn], fun j hj => by simp [h j hj]⟩
theorem firstD_le (g : LM) (prev : Int) (l : List Ent) : firstD g prev l ≤ l.length := by
  have := List.findIdx_le_length (xs := List.range l.length) (p := fun k => !same g prev l k)
  simpa [firstD] using this
theorem firstD_before {g : LM} {prev : Int} {l : List Ent} {j : Nat} (h : j < firstD g prev l) : same g prev l j = true := by
  have h1 := List.not_of_lt_findIdx (xs := List.range l.length) (p := fun k => !same g prev l k) h
  simpa using h1
theorem firstD_same {g : LM} {prev : Int} {l : List Ent} (h : firstD g prev l < l.length) : same g prev l (firstD g prev l) = false := by
  have h1 := List.findIdx_getElem (xs := List.range l.length) (p := fun k => !same g prev l k) (w := by simpa [firstD] using h)
  simp only [List.getElem_range] at h1
  simpa [firstD] using h1
structure Mrg where
  l : List Ent
  at_ : Int
  ok : Bool
def mrgB (g : LM) (prev term : Int) (l : List Ent) : Mrg :=
  if (hasL g prev && decide (termV g prev = term)) = false then ⟨g.l, 0, false⟩
  else if firstD g prev l = l.length then ⟨g.l, 0, true⟩
  else ⟨g.l.take ((prev - g.base).toNat + firstD g prev l) ++ l.drop (firstD g prev l), prev + 1 + (firstD g prev l : Nat), true⟩
def mrgL (g : LM) (prev term : Int) (l : List Ent) : Mrg :=
  if prev < g.base then mrgB g g.base g.bt (l.drop (g.base - prev).toNat) else mrgB g prev term l
end Go.Proofs.Ytodcghipfolejaa
