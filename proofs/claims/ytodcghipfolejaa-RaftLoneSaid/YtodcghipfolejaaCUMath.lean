/- A log in plain words: its terms, pieces, members, what is merged into it. -/
import Derived.Test.YtodcghipfolejaaCQ14
namespace Go.Proofs.Ytodcghipfolejaa
open Go Go.Sl
set_option linter.unusedVariables false
set_option linter.unusedSimpArgs false

theorem hp_left {F : Snap} {w : World} {A R : List As} (h : Hp F w (A ++ R)) : Hp F w A := by
  obtain ⟨bs, hs, hn, hf⟩ := h.own
  obtain ⟨ba, bb, rfl, ha, hb⟩ := Sat.split hs
  exact ⟨h.os, h.tape, h.output, h.keep, ba, ha, (List.nodup_append.1 hn).1, fun b hb => hf b (by simp [hb])⟩
/-- an entry: term, kind, data -/
abbrev Ent := Int × Int × List UInt8
abbrev E0 : Ent := (0, 0, [])
abbrev entC (e : Ent) : List Value := [.int .u64 e.1, .int .i64 e.2.1, B e.2.2]
abbrev entV (e : Ent) : Value := .agg #[.int .u64 e.1, .int .i64 e.2.1, B e.2.2]
def enV (l : List Ent) : List Value := l.flatMap entC
theorem enV_length (l : List Ent) : (enV l).length = l.length * 3 := by
  induction l with
  | nil => rfl
  | cons p l ih => simp only [enV, List.flatMap_cons, List.length_append, List.length_cons, List.length_nil] at *; omega
theorem enV_append (a b : List Ent) : enV (a ++ b) = enV a ++ enV b := by simp [enV]
theorem enV_one (l : List Ent) : ∀ q ∈ enV l, q.oneCell' = true := fun q hq => by
  simp only [enV, List.mem_flatMap] at hq; obtain ⟨p, _, hq⟩ := hq
  simp at hq; rcases hq with rfl | rfl | rfl <;> rfl
theorem enV_get : ∀ (l : List Ent) (i : Nat), i < l.length → ∀ j u, (entC (l.getD i E0))[j]? = some u → (enV l)[3 * i + j]? = some u
  | p :: l, 0, _, j, u, h => by
    have hj : j < 3 := by have := (List.getElem?_eq_some_iff.1 h).1; simpa using this
    rw [enV, List.flatMap_cons, List.getElem?_append_left (by simpa using hj)]
    simpa using h
  | p :: l, i + 1, hi, j, u, h => by
    have := enV_get l i (by simpa using hi) j u (by simpa using h)
    rw [enV, List.flatMap_cons, List.getElem?_append_right (by simp; omega)]
    have e : 3 * (i + 1) + j - (entC p).length = 3 * i + j := by simp; omega
    rw [e]; exact this
theorem enV_take (l : List Ent) (n : Nat) : enV (l.take n) = (enV l).take (n * 3) := by
  induction l generalizing n with
  | nil => simp [enV]
  | cons p l ih =>
    cases n with
    | zero => simp [enV]
    | succ n =>
      have e : (n + 1) * 3 = (entC p).length + n * 3 := by simp; omega
      have h1 : enV (p :: l) = entC p ++ enV l := rfl
      have h2 : enV ((p :: l).take (n + 1)) = entC p ++ enV (l.take n) := rfl
      rw [h2, h1, ih, e, List.take_length_add_append]
theorem enV_drop (l : List Ent) (n : Nat) : enV (l.drop n) = (enV l).drop (n * 3) := by
  induction l generalizing n with
  | nil => simp [enV]
  | cons p l ih =>
    cases n with
    | zero => simp [enV]
    | succ n =>
      have e : (n + 1) * 3 = (entC p).length + n * 3 := by simp; omega
      have h1 : enV (p :: l) = entC p ++ enV l := rfl
      have h2 : enV ((p :: l).drop (n + 1)) = enV (l.drop n) := rfl
      rw [h2, h1, ih, e, List.drop_length_add_append]

/-- a log in memory -/
structure LM where
  base : Int
  bt : Int
  conf : List Int
  l : List Ent
  ca : Option Addr
  cc : Nat
  la : Option Addr
  lc : Nat
abbrev LM.v (g : LM) : Value := .agg #[.int .u64 g.base, .int .u64 g.bt, .slice g.ca g.conf.length g.cc, .slice g.la g.l.length g.lc]
def LM.ok (g : LM) (h : Heap) : Prop := RdS h g.ca (intsV g.conf) ∧ RdS h g.la (enV g.l)
theorem LM.ok.le {g : LM} {h h' : Heap} (a : g.ok h) (b : Heap.le h h') : g.ok h' := ⟨a.1.le b, a.2.le b⟩
/-- of a size that a right log has -/
structure LM.fit (g : LM) : Prop where
  lo : 0 ≤ g.base
  hi : g.base ≤ 4611686018428387904
  len : g.l.length ≤ 1000000
  cl : g.conf.length ≤ 1000000
  cap : g.l.length ≤ g.lc

def hasL (g : LM) (i : Int) : Bool := decide (g.base ≤ i) && decide (i - g.base ≤ (g.l.length : Int))
def termV (g : LM) (i : Int) : Int := if hasL g i = true then (if i = g.base then g.bt else (g.l.getD (i - g.base - 1).toNat E0).1) else 0
def lastI (g : LM) : Int := g.base + (g.l.length : Int)
def lastT (g : LM) : Int := if g.l.length = 0 then g.bt else (g.l.getD (g.l.length - 1) E0).1
theorem last_term (g : LM) (h : 0 ≤ g.base) : termV g (lastI g) = lastT g ∧ hasL g (lastI g) = true := by
  have h1 : hasL g (lastI g) = true := by
    simp only [hasL, Bool.and_eq_true, decide_eq_true_eq]
    unfold lastI
    omega
  refine ⟨?_, h1⟩
  rw [termV, if_pos h1, lastT, lastI]
  by_cases h2 : g.l.length = 0
  · rw [if_pos (by omega), if_pos h2]
  · rw [if_neg (by omega), if_neg h2]
    congr 2; omega
def sliceL (g : LM) (frm : Int) (most : Int) : List Ent := if g.base < frm ∧ frm - g.base ≤ (g.l.length : Int) ∧ 1 ≤ most then (g.l.drop (frm - g.base - 1).toNat).take most.toNat else []
/-- members -/
def isC (e : Ent) : Bool := decide (e.2.1 = 2) && okR e.2.2
def confN (g : LM) : Nat → List Int × Int
  | 0 => (g.conf, g.base)
  | n + 1 => if isC (g.l.getD n E0) = true then (readL (g.l.getD n E0).2.2, g.base + (n : Int) + 1) else confN g n
def confAt (g : LM) (i : Int) : List Int × Int := confN g (min g.l.length (i - g.base).toNat)
theorem confN_le (g : LM) (hc : g.conf.length ≤ 1000000) : ∀ n, (confN g n).1.length ≤ 1000000
  | 0 => hc
  | n + 1 => by
    rw [confN]
    split
    · have := read_le (g.l.getD n E0).2.2
      simp only; omega
    · exact confN_le g hc n

/-- merging -/
def same (g : LM) (prev : Int) (l : List Ent) (k : Nat) : Bool := hasL g (prev + 1 + (k : Int)) && decide (termV g (prev + 1 + (k : Int)) = (l.getD k E0).1)
end Go.Proofs.Ytodcghipfolejaa
