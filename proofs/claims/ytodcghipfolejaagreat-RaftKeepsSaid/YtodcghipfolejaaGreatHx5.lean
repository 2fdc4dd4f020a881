import Derived.Test.YtodcghipfolejaaGreatHx4
/- A log in plain words: its terms, pieces, members, what is merged into it. -/
namespace Go.Proofs.YtodcghipfolejaaGreat
open Go Go.Sl
set_option linter.unusedVariables false
set_option linter.unusedSimpArgs false

theorem hp_left {F : Snap} {w : World} {A R : List As} (h : Hp F w (A ++ R)) : Hp F w A := by
  obtain ⟨bs, hs, hn, hf⟩ := h.own
  obtain ⟨ba, bb, rfl, ha, hb⟩ := Sat.split hs
  exact ⟨h.os, h.tape, h.output, h.keep, ba, ha, (List.nodup_append.1 hn).1, fun b hb => hf b (by simp [hb])⟩
/-- an entry: term, kind, data -/
abbrev Ent := Int × Int × List UInt8
abbrev E0 : Ent := (0, 0, [])
abbrev entC (e : Ent) : List Value := [.int .u64 e.1, .int .i64 e.2.1, B e.2.2]
abbrev entV (e : Ent) : Value := .agg #[.int .u64 e.1, .int .i64 e.2.1, B e.2.2]
def enV (l : List Ent) : List Value := l.flatMap entC
theorem enV_length (l : List Ent) : (enV l).length = l.length * 3 := by
  induction l with
  | nil => rfl
  | cons p l ih => simp only [enV, List.flatMap_cons, List.length_append, List.length_cons, List.length_nil] at *; omega
theorem enV_append (a b : List Ent) : enV (a ++ b) = enV a ++ enV b := by simp [enV]
theorem enV_one (l : List Ent) : ∀ q ∈ enV l, q.oneCell' = true := fun q hq => by
  simp only [enV, List.mem_flatMap] at hq; obtain ⟨p, _, hq⟩ := hq
  simp at hq; rcases hq with rfl | rfl | rfl <;> rfl
theorem enV_get : ∀ (l : List Ent) (i : Nat), i < l.length → ∀ j u, (entC (l.getD i E0))[j]? = some u → (enV l)[3 * i + j]? = some u
  | p :: l, 0, _, j, u, h => by
    have hj : j < 3 := by have := (List.getElem?_eq_some_iff.1 h).1; simpa using this
    rw [enV, List.flatMap_cons, List.getElem?_append_left (by simpa using hj)]
    simpa using h
  | p :: l, i + 1, hi, j, u, h => by
    have := enV_get l i (by simpa using hi) j u (by simpa using h)
    rw [enV, List.flatMap_cons, List.getElem?_append_right (by simp; omega)]
    have e : 3 * (i + 1) + j - (entC p).length = 3 * i + j := by simp; omega
    rw [e]; exact this
theorem enV_take (l : List Ent) (n : Nat) : enV (l.take n) = (enV l).take (n * 3) := by
  induction l generalizing n with
  | nil => simp [enV]
  | cons p l ih =>
    cases n with
    | zero => simp [enV]
    | succ n =>
      have e : (n + 1) * 3 = (entC p).length + n * 3 := by simp; omega
      have h1 : enV (p :: l) = entC p ++ enV l := rfl
      have h2 : enV ((p :: l).take (n + 1)) = entC p ++ enV (l.take n) := rfl
      rw [h2, h1, ih, e, List.take_length_add_append]
theorem enV_drop (l : List Ent) (n : Nat) : enV (l.drop n) = (enV l).drop (n * 3) := by
  induction l generalizing n with
  | nil => simp [enV]
  | cons p l ih =>
    cases n with
    | zero => simp [enV]
    | succ n =>
      have e : (n + 1) * 3 = (entC p).length + n * 3 := by simp; omega
      have h1 : enV (p :: l) = entC p ++ enV l := rfl
      have h2 : enV ((p :: l).drop (n + 1)) = enV (l.drop n) := rfl
      rw [h2, h1, ih, e, List.drop_length_add_append]

/-- a log in memory -/
structure LM where
  base : Int
  bt : Int
  conf : List Int
  l : List Ent
  ca : Option Addr
  cc : Nat
  la : Option Addr
  lc : Nat
abbrev LM.v (g : LM) : Value := .agg #[.int .u64 g.base, .int .u64 g.bt, .slice g.ca g.conf.length g.cc, .slice g.la g.l.length g.lc]
def LM.ok (g : LM) (h : Heap) : Prop := RdS h g.ca (intsV g.conf) ∧ RdS h g.la (enV g.l)
theorem LM.ok.le {g : LM} {h h' : Heap} (a : g.ok h) (b : Heap.le h h') : g.ok h' := ⟨a.1.le b, a.2.le b⟩
/-- of a size that a right log has -/
structure LM.fit (g : LM) : Prop where
  lo : 0 ≤ g.base
  hi : g.base ≤ 4611686018428387904
  len : g.l.length ≤ 1000000
  cl : g.conf.length ≤ 1000000
  cap : g.l.length ≤ g.lc

def hasL (g : LM) (i : Int) : Bool := decide (g.base ≤ i) && decide (i - g.base ≤ (g.l.length : Int))
def termV (g : LM) (i : Int) : Int := if hasL g i = true then (if i = g.base then g.bt else (g.l.getD (i - g.base - 1).toNat E0).1) else 0
def lastI (g : LM) : Int := g.base + (g.l.length : Int)
def lastT (g : LM) : Int := if g.l.length = 0 then g.bt else (g.l.getD (g.l.length - 1) E0).1
theorem last_term (g : LM) (h : 0 ≤ g.base) : termV g (lastI g) = lastT g ∧ hasL g (lastI g) = true := by
  have h1 : hasL g (lastI g) = true := by
    simp only [hasL, Bool.and_eq_true, decide_eq_true_eq]
    unfold lastI
    omega
  refine ⟨?_, h1⟩
  rw [termV, if_pos h1, lastT, lastI]
  by_cases h2 : g.l.length = 0
  · rw [if_pos (by omega), if_pos h2]
  · rw [if_neg (by omega), if_neg h2]
    congr 2; omega
def sliceL (g : LM) (frm : Int) (most : Int) : List Ent := if g.base < frm ∧ frm - g.base ≤ (g.l.length : Int) ∧ 1 ≤ most then (g.l.drop (frm - g.base - 1).toNat).take most.toNat else []
/-- members -/
def isC (e : Ent) : Bool := decide (e.2.1 = 2) && okR e.2.2
def confN (g : LM) : Nat → List Int × Int
  | 0 => (g.conf, g.base)
  | n + 1 => if isC (g.l.getD n E0) = true then (readL (g.l.getD n E0).2.2, g.base + (n : Int) + 1) else confN g n
def confAt (g : LM) (i : Int) : List Int × Int := confN g (min g.l.length (i - g.base).toNat)
theorem confN_le (g : LM) (hc : g.conf.length ≤ 1000000) : ∀ n, (confN g n).1.length ≤ 1000000
  | 0 => hc
  | n + 1 => by
    rw [confN]
    split
    · have := read_le (g.l.getD n E0).2.2
      simp only; omega
    · exact confN_le g hc n

/-- merging -/
def same (g : LM) (prev : Int) (l : List Ent) (k : Nat) : Bool := hasL g (prev + 1 + (k : Int)) && decide (termV g (prev + 1 + (k : Int)) = (l.getD k E0).1)
def firstD (g : LM) (prev : Int) (l : List Ent) : Nat := (List.range l.length).findIdx fun k => !same g prev l k
theorem firstD_end {g : LM} {prev : Int} {l : List Ent} (h : ∀ k, k < l.length → same g prev l k = true) : firstD g prev l = l.length := by
  have h1 := (List.findIdx_eq_length (p := fun k => !same g prev l k) (xs := List.range l.length)).2 (fun k hk => by simp [h k (by simpa using hk)])
  rw [List.length_range] at h1
  exact h1
theorem firstD_at {g : LM} {prev : Int} {l : List Ent} {k : Nat} (hk : k < l.length) (h : ∀ j, j < k → same g prev l j = true) (hn : same g prev l k = false) : firstD g prev l = k := by
  unfold firstD
  rw [List.findIdx_eq (by simpa using hk)]
  refine ⟨by simp [hn], fun j hj => by simp [h j hj]⟩
theorem firstD_le (g : LM) (prev : Int) (l : List Ent) : firstD g prev l ≤ l.length := by
  have := List.findIdx_le_length (xs := List.range l.length) (p := fun k => !same g prev l k)
  simpa [firstD] using this
theorem firstD_before {g : LM} {prev : Int} {l : List Ent} {j : Nat} (h : j < firstD g prev l) : same g prev l j = true := by
  have h1 := List.not_of_lt_findIdx (xs := List.range l.length) (p := fun k => !same g prev l k) h
  simpa using h1
theorem firstD_same {g : LM} {prev : Int} {l : List Ent} (h : firstD g prev l < l.length) : same g prev l (firstD g prev l) = false := by
  have h1 := List.findIdx_getElem (xs := List.range l.length) (p := fun k => !same g prev l k) (w := by simpa [firstD] using h)
  simp only [List.getElem_range] at h1
  simpa [firstD] using h1
structure Mrg where
  l : List Ent
  at_ : Int
  ok : Bool
def mrgB (g : LM) (prev term : Int) (l : List Ent) : Mrg :=
  if (hasL g prev && decide (termV g prev = term)) = false then ⟨g.l, 0, false⟩
  else if firstD g prev l = l.length then ⟨g.l, 0, true⟩
  else ⟨g.l.take ((prev - g.base).toNat + firstD g prev l) ++ l.drop (firstD g prev l), prev + 1 + (firstD g prev l : Nat), true⟩
def mrgL (g : LM) (prev term : Int) (l : List Ent) : Mrg :=
  if prev < g.base then mrgB g g.base g.bt (l.drop (g.base - prev).toNat) else mrgB g prev term l
end Go.Proofs.YtodcghipfolejaaGreat
/- The walks over logs: comparing, cloning, the term at an index, pieces. -/
namespace Go.Proofs.YtodcghipfolejaaGreat
open Go Go.Sl
set_option linter.unusedVariables false
set_option linter.unusedSimpArgs false

theorem rdE_some {h : Heap} {a : Option Addr} {l : List Ent} {i : Nat} (r : RdS h a (enV l)) (hi : i < l.length) : ∃ ad, a = some ad := by
  obtain ⟨ad, e, _⟩ := r (by intro e; have := congrArg List.length e; rw [enV_length] at this; simp at this; omega)
  exact ⟨ad, e⟩
section
variable {F : Snap} {w : World} {H H' : List As} {ys : List As} {a : Option Addr} {l : List Ent} {n c : Nat} {te : TypeId} {q i : Nat}
theorem rdE (hw : Hp F w H) (r : RdS F.heap a (enV l)) (h : q = 3 * i) (hi : i < l.length) : PeekC (hp w) (addO a q) (entC (l.getD i E0)) :=
  peek_rd hw r (by simp) (fun j u hu => by subst h; exact enV_get l i hi j u hu)
theorem rdE0 (hw : Hp F w H) (r : RdS F.heap a (enV l)) (h : q = 3 * i) (hi : i < l.length) : PeekC (hp w) (addO a q) [.int .u64 (l.getD i E0).1] :=
  peek_rd hw r (by simp) (fun j u hu => by
    subst h
    match j, hu with
    | 0, hu => simp at hu; subst hu; exact enV_get l i hi 0 _ rfl)
theorem rdE2 (hw : Hp F w H) (r : RdS F.heap a (enV l)) (h : q = 3 * i + 2) (hi : i < l.length) : PeekC (hp w) (addO a q) [B (l.getD i E0).2.2] :=
  peek_rd hw r (by simp) (fun j u hu => by
    subst h
    match j, hu with
    | 0, hu => simp at hu; subst hu; exact enV_get l i hi 2 _ rfl)
theorem rdE_own (hw : Hp F w H) (u : Upd H (.own (.slice a n c) te 3 (enV l)) ys H') (h : q = 3 * i) (hi : i < l.length) : PeekC (hp w) (addO a q) (entC (l.getD i E0)) :=
  peek_own hw u (by simp) (fun j u hu => by subst h; exact enV_get l i hi j u hu)
end
theorem ent_eq (x y : Ent) : (decide (x.1 = y.1) && (decide (x.2.1 = y.2.1) && (decide (x.2.2 = y.2.2) && true))) = decide (x = y) := by
  rw [Bool.eq_iff_iff]
  simp only [Bool.and_eq_true, decide_eq_true_eq, and_true]
  constructor
  · rintro ⟨h1, h2, h3⟩
    exact Prod.ext h1 (Prod.ext h2 h3)
  · rintro rfl; exact ⟨rfl, rfl, rfl⟩
theorem CloneI_ct (l : List Int) (a : Option Addr) (c : Nat) (hl : l.length ≤ 1000000000000) : Ct Tryz.prog 50 [.slice a l.length c] (fun h => RdS h a (intsV l)) [] (LsP l) := by
  refine ct_enter 8 Tryz.func50 rfl rfl rfl ?_
  intro F hrd
  repeat refine y_ ?_
  refine g_region ?_
  refine f_ (s_assign rfl) ?_
  refine gl_nil ?_
  repeat refine y_ ?_
  refine g_region ?_
  refine m_ ?_
  refine f_ (s_eql_slnil rfl rfl) ?_
  refine gl_nil ?_
  repeat refine y_ ?_
  cases a with
  | none =>
    obtain rfl : l = [] := by
      cases l with
      | nil => rfl
      | cons x r => obtain ⟨ad, h⟩ := rdI_some (i := 0) hrd (by simp); cases h
    repeat refine y_ ?_
    refine g_region ?_
    refine f_ (s_assign rfl) ?_
    refine gl_nil ?_
    repeat refine y_ ?_
    refine g_ret ?_
    refine g_end_own 3 1 ?_
    exact at_end1 rfl rfl [.own (.slice none 0 0) 3 1 []] ⟨none, 0, rfl, rfl⟩ (fun _ h => h)
  | some ad =>
    repeat refine y_ ?_
    refine g_region ?_
    refine gl_buildSlice0 rfl ?_; intro a5
    refine m_ ?_
    refine gl_append rfl rfl (fun a' c' => .here) (fun w hw => hrd.le hw.keep) (by rw [intsV_length]; omega) rfl rfl (intsV_one l) (by show (_ + _) * 8 ≤ _; omega) (by omega) rfl ?_; intro a2 c2 hc2
    refine f_ (s_assign rfl) ?_
    refine gl_nil ?_
    repeat refine y_ ?_
    refine g_ret ?_
    rw [Nat.zero_add, List.nil_append]
    exact at_end1 rfl rfl _ ⟨a2, c2, rfl, rfl⟩ (fun _ h => h)
/-- entries of the call's own come back -/
def EnP (r : List Ent) (v : Value) (A : List As) : Prop := ∃ a c, v = .slice a r.length c ∧ A = [.own (.slice a r.length c) 51 3 (enV r)]
theorem CloneE_ct (l : List Ent) (a : Option Addr) (c : Nat) (hl : l.length ≤ 1000000000000) : Ct Tryz.prog 51 [.slice a l.length c] (fun h => RdS h a (enV l)) [] (EnP l) := by
  refine ct_enter 8 Tryz.func51 rfl rfl rfl ?_
  intro F hrd
  repeat refine y_ ?_
  refine g_region ?_
  refine f_ (s_assign rfl) ?_
  refine gl_nil ?_
  repeat refine y_ ?_
  refine g_region ?_
  refine m_ ?_
  refine f_ (s_eql_slnil rfl rfl) ?_
  refine gl_nil ?_
  repeat refine y_ ?_
  cases a with
  | none =>
    obtain rfl : l = [] := by
      cases l with
      | nil => rfl
      | cons x r => obtain ⟨ad, h⟩ := rdE_some (i := 0) hrd (by simp); cases h
    repeat refine y_ ?_
    refine g_region ?_
    refine f_ (s_assign rfl) ?_
    refine gl_nil ?_
    repeat refine y_ ?_
    refine g_ret ?_
    refine g_end_own 51 3 ?_
    exact at_end1 rfl rfl [.own (.slice none 0 0) 51 3 []] ⟨none, 0, rfl, rfl⟩ (fun _ h => h)
  | some ad =>
    repeat refine y_ ?_
    refine g_region ?_
    refine gl_buildSlice0 rfl ?_; intro a5
    refine m_ ?_
    refine gl_append rfl rfl (fun a' c' => .here) (fun w hw => hrd.le hw.keep) (enV_length l) rfl rfl (enV_one l) (by show (_ + _) * 32 ≤ _; omega) (by omega) rfl ?_; intro a2 c2 hc2
    refine f_ (s_assign rfl) ?_
    refine gl_nil ?_
    repeat refine y_ ?_
    refine g_ret ?_
    rw [Nat.zero_add, List.nil_append]
    exact at_end1 rfl rfl _ ⟨a2, c2, rfl, rfl⟩ (fun _ h => h)

theorem end_ct (g : LM) (hf : g.fit) : Pu Tryz.prog 46 [g.v] (fun _ => True) (.int .u64 (lastI g)) := by
  have h1 := hf.lo
  have h2 := hf.hi
  have h3 := hf.len
  refine ct_enter 10 Tryz.func46 rfl rfl rfl ?_
  intro F _
  repeat refine y_ ?_
  refine g_region ?_
  refine gl_boxA rfl rfl ?_; intro g1
  refine f_ (s_assign rfl) ?_
  refine gl_nil ?_
  repeat refine y_ ?_
  refine g_region ?_
  refine f_ z_1 ?_
  refine r_ z_9 ?_
  refine f_ z_1 ?_
  refine r_ z_9 ?_
  refine f_ (s_len_sl rfl) ?_
  refine f_ (s_conv_keep_u64 rfl (by omega)) ?_
  refine f_ (s_add_u64 rfl rfl (by omega)) ?_
  refine f_ (s_assign rfl) ?_
  refine gl_nil ?_
  repeat refine y_ ?_
  refine g_ret ?_
  exact at_end1 rfl rfl [] ⟨rfl, rfl⟩ (fun _ h => h.dropAll)
set_option maxHeartbeats 2000000 in
theorem Term_ct (g : LM) (i : Int) (hf : g.fit) (hi : 0 ≤ i ∧ i ≤ 18446744073709551615) : Pu Tryz.prog 102 [g.v, .int .u64 i] (fun h => RdS h g.la (enV g.l)) (.tuple #[.int .u64 (termV g i), .bool (hasL g i)]) := by
  have h1 := hf.lo
  have h2 := hf.hi
  have h3 := hf.len
  refine ct_enter 39 Tryz.func102 rfl rfl rfl ?_
  intro F hrd
  repeat refine y_ ?_
  refine g_region ?_
  refine gl_boxA rfl rfl ?_; intro g2
  refine f_ (s_assign rfl) ?_
  refine f_ (s_assign rfl) ?_
  refine gl_nil ?_
  repeat refine y_ ?_
  by_cases hb : i = g.base
  · have e1 : hasL g i = true := by simp only [hasL, Bool.and_eq_true, decide_eq_true_eq]; omega
    rw [termV, e1, if_pos rfl, if_pos hb]
    repeat refine y_ ?_
    refine g_region ?_
    refine m_ ?_
    refine f_ z_1 ?_
    refine r_ z_9 ?_
    refine f_ ((s_eql rfl rfl).eq (v' := .bool true) (congrArg Value.bool (decide_eq_true hb))) ?_
    refine f_ (s_assign rfl) ?_
    refine gl_nil ?_
    repeat refine y_ ?_
    refine g_region ?_
    refine f_ z_1 ?_
    refine r_ z_9 ?_
    refine f_ (s_assign rfl) ?_
    refine f_ (s_assign rfl) ?_
    refine gl_nil ?_
    repeat refine y_ ?_
    refine g_ret ?_
    exact at_end2 rfl rfl rfl [] ⟨rfl, rfl⟩ (fun _ h => h.dropAll)
  · repeat refine y_ ?_
    refine g_region ?_
    refine m_ ?_
    refine f_ z_1 ?_
    refine r_ z_9 ?_
    refine f_ ((s_eql rfl rfl).eq (v' := .bool false) (congrArg Value.bool (decide_eq_false hb))) ?_
    refine f_ (s_assign rfl) ?_
    refine gl_nil ?_
    repeat refine y_ ?_
    by_cases hlt : i < g.base
    · have e1 : hasL g i = false := by simp only [hasL, Bool.and_eq_false_iff, decide_eq_false_iff_not]; omega
      rw [termV, e1, if_neg (by simp)]
      repeat refine y_ ?_
      refine g_region ?_
      refine m_ ?_
      refine f_ z_1 ?_
      refine r_ z_9 ?_
      refine f_ ((s_lss rfl rfl).eq (v' := .bool true) (congrArg Value.bool (decide_eq_true hlt))) ?_
      refine m_ ?_
      (first|refine u_ ?_|(refine v_ ?_; refine m_ ?_))
      (first|refine u_ ?_|(refine v_ ?_; refine f_ z_1 ?_))
      (first|refine u_ ?_|(refine v_ ?_; refine r_ z_9 ?_))
      (first|refine u_ ?_|(refine v_ ?_; refine f_ (s_sub_u64 rfl rfl (by omega)) ?_))
      (first|refine u_ ?_|(refine v_ ?_; refine f_ z_1 ?_))
      (first|refine u_ ?_|(refine v_ ?_; refine r_ z_9 ?_))
      (first|refine u_ ?_|(refine v_ ?_; refine f_ (s_len_sl rfl) ?_))
      (first|refine u_ ?_|(refine v_ ?_; refine f_ (s_conv_keep_u64 rfl (by omega)) ?_))
      (first|refine u_ ?_|(refine v_ ?_; refine f_ (s_gtr rfl rfl) ?_))
      refine f_ z_8 ?_
      refine f_ (s_assign rfl) ?_
      refine gl_nil ?_
      repeat refine y_ ?_
      refine g_region ?_
      refine f_ (s_assign rfl) ?_
      refine f_ (s_assign rfl) ?_
      refine gl_nil ?_
      repeat refine y_ ?_
      refine g_ret ?_
      exact at_end2 rfl rfl rfl [] ⟨rfl, rfl⟩ (fun _ h => h.dropAll)
    · by_cases hgt : (g.l.length : Int) < i - g.base
      · have e1 : hasL g i = false := by simp only [hasL, Bool.and_eq_false_iff, decide_eq_false_iff_not]; omega
        rw [termV, e1, if_neg (by simp)]
        repeat refine y_ ?_
        refine g_region ?_
        refine m_ ?_
        refine f_ z_1 ?_
        refine r_ z_9 ?_
        refine f_ ((s_lss rfl rfl).eq (v' := .bool false) (congrArg Value.bool (decide_eq_false hlt))) ?_
        refine m_ ?_
        (first|refine u_ ?_|(refine v_ ?_; refine m_ ?_))
        (first|refine u_ ?_|(refine v_ ?_; refine f_ z_1 ?_))
        (first|refine u_ ?_|(refine v_ ?_; refine r_ z_9 ?_))
        (first|refine u_ ?_|(refine v_ ?_; refine f_ (s_sub_u64 rfl rfl (by omega)) ?_))
        (first|refine u_ ?_|(refine v_ ?_; refine f_ z_1 ?_))
        (first|refine u_ ?_|(refine v_ ?_; refine r_ z_9 ?_))
        (first|refine u_ ?_|(refine v_ ?_; refine f_ (s_len_sl rfl) ?_))
        (first|refine u_ ?_|(refine v_ ?_; refine f_ (s_conv_keep_u64 rfl (by omega)) ?_))
        (first|refine u_ ?_|(refine v_ ?_; refine f_ ((s_gtr rfl rfl).eq (v' := .bool true) (congrArg Value.bool (decide_eq_true hgt))) ?_))
        refine f_ z_8 ?_
        refine f_ (s_assign rfl) ?_
        refine gl_nil ?_
        repeat refine y_ ?_
        refine g_region ?_
        refine f_ (s_assign rfl) ?_
        refine f_ (s_assign rfl) ?_
        refine gl_nil ?_
        repeat refine y_ ?_
        refine g_ret ?_
        exact at_end2 rfl rfl rfl [] ⟨rfl, rfl⟩ (fun _ h => h.dropAll)
      · have e1 : hasL g i = true := by simp only [hasL, Bool.and_eq_true, decide_eq_true_eq]; omega
        rw [termV, e1, if_pos rfl, if_neg hb]
        repeat refine y_ ?_
        refine g_region ?_
        refine m_ ?_
        refine f_ z_1 ?_
        refine r_ z_9 ?_
        refine f_ ((s_lss rfl rfl).eq (v' := .bool false) (congrArg Value.bool (decide_eq_false hlt))) ?_
        refine m_ ?_
        (first|refine u_ ?_|(refine v_ ?_; refine m_ ?_))
        (first|refine u_ ?_|(refine v_ ?_; refine f_ z_1 ?_))
        (first|refine u_ ?_|(refine v_ ?_; refine r_ z_9 ?_))
        (first|refine u_ ?_|(refine v_ ?_; refine f_ (s_sub_u64 rfl rfl (by omega)) ?_))
        (first|refine u_ ?_|(refine v_ ?_; refine f_ z_1 ?_))
        (first|refine u_ ?_|(refine v_ ?_; refine r_ z_9 ?_))
        (first|refine u_ ?_|(refine v_ ?_; refine f_ (s_len_sl rfl) ?_))
        (first|refine u_ ?_|(refine v_ ?_; refine f_ (s_conv_keep_u64 rfl (by omega)) ?_))
        (first|refine u_ ?_|(refine v_ ?_; refine f_ ((s_gtr rfl rfl).eq (v' := .bool false) (congrArg Value.bool (decide_eq_false hgt))) ?_))
        refine f_ z_8 ?_
        refine f_ (s_assign rfl) ?_
        refine gl_nil ?_
        repeat refine y_ ?_
        have hk : (i - g.base - 1).toNat < g.l.length := by omega
        have hsome := rdE_some hrd hk
        repeat refine y_ ?_
        refine g_region ?_
        refine f_ z_1 ?_
        refine r_ z_9 ?_
        refine m_ ?_
        refine f_ z_1 ?_
        refine r_ z_9 ?_
        refine f_ (s_sub_u64 rfl rfl (by omega)) ?_
        refine f_ (s_sub_u64 rfl rfl (by omega)) ?_
        refine f_ (s_indexAddr rfl (by assumption) rfl (by omega)) ?_
        refine f_ z_1 ?_
        refine r_ (s_load1 rfl (fun w hw => rdE0 hw hrd (i := (i - g.base - 1).toNat) (by omega) hk)) ?_
        refine f_ (s_assign rfl) ?_
        refine f_ (s_assign rfl) ?_
        refine gl_nil ?_
        repeat refine y_ ?_
        refine g_ret ?_
        exact at_end2 rfl rfl rfl [] ⟨rfl, rfl⟩ (fun _ h => h.dropAll)
end Go.Proofs.YtodcghipfolejaaGreat
/- The walks over logs: the end, pieces, entries by index. -/
namespace Go.Proofs.YtodcghipfolejaaGreat
open Go Go.Sl
set_option linter.unusedVariables false
set_option linter.unusedSimpArgs false

theorem Last_ct (g : LM) (hf : g.fit) : Pu Tryz.prog 93 [g.v] (fun h => RdS h g.la (enV g.l)) (.tuple #[.int .u64 (lastI g), .int .u64 (lastT g)]) := by
  have h1 := hf.lo
  have h2 := hf.hi
  have h3 := hf.len
  refine ct_enter 23 Tryz.func93 rfl rfl rfl ?_
  intro F hrd
  repeat refine y_ ?_
  refine g_region ?_
  refine gl_boxA rfl rfl ?_; intro g1
  refine f_ (s_assign rfl) ?_
  refine f_ (s_assign rfl) ?_
  refine gl_nil ?_
  repeat refine y_ ?_
  refine g_region ?_
  refine f_ z_1 ?_
  refine r_ z_9 ?_
  refine f_ (s_len_sl rfl) ?_
  refine f_ (s_assign rfl) ?_
  refine gl_nil ?_
  repeat refine y_ ?_
  refine g_region ?_
  refine m_ ?_
  refine f_ (s_gtr rfl rfl) ?_
  refine gl_nil ?_
  repeat refine y_ ?_
  refine g_cond rfl (fun h => ?_) (fun h => ?_)
  · have h4 : 0 < g.l.length := by simp at h; omega
    have hk : g.l.length - 1 < g.l.length := by omega
    have hsome := rdE_some hrd hk
    have e : lastT g = (g.l.getD (g.l.length - 1) E0).1 := by rw [lastT, if_neg (by omega)]
    rw [e]
    repeat refine y_ ?_
    refine g_draw0 ([0, 3, 8], [0, 1, 0, 4, 0, 16, 60, 124, 252, 3, 1023], [1]) 11 rfl ?_
    (first | refine ga_read 0 rfl z_3 (s_load_blkW rfl .del z_10) rfl rfl rfl z_7 ?_ | refine ga_read 0 rfl z_3 (s_load_blkN rfl .del z_10) rfl rfl rfl z_7 ?_ | refine ga_readF 0 rfl (s_loadN rfl (fun w hw => peekBN hw (by assumption)) z_10) (by (first | exact fun _ h => h | (repeat first | exact sub_nil | refine sub_cons z_4 ?_))) rfl rfl rfl z_7 ?_)
    refine w_ 2 rfl z_1 ?_
    (first | refine ga_read 3 rfl z_3 (s_load_blk rfl .del z_10) rfl rfl rfl z_7 ?_ | refine ga_readF 3 rfl (s_load1 rfl (fun w hw => peekB hw (by assumption) z_10)) (by (first | exact fun _ h => h | (repeat first | exact sub_nil | refine sub_cons z_4 ?_))) rfl rfl rfl z_7 ?_)
    refine w_ 4 rfl (s_move rfl) ?_
    refine w_ 5 rfl (s_sub_i64 rfl rfl (by omega)) ?_
    refine w_ 6 rfl (s_indexAddr rfl (by assumption) rfl (by omega)) ?_
    refine w_ 7 rfl z_1 ?_
    refine ga_readF 8 rfl (s_load1 rfl (fun w hw => rdE0 hw hrd (i := g.l.length - 1) (by omega) hk)) (by (first | exact fun _ h => h | (repeat first | exact sub_nil | refine sub_cons z_4 ?_))) rfl rfl rfl z_7 ?_
    refine ga_one 1 rfl z_7 ?_
    refine gl_callp rfl (end_ct g hf) (fun _ _ _ => trivial) rfl ?_
    refine gl_nil ?_
    refine at_ga (.inr (by exact keeps_of (by (first | exact fun _ h => h | (repeat first | exact sub_nil | refine sub_cons z_4 ?_))))) ?_
    refine w_ 9 rfl (s_assign rfl) ?_
    refine w_ 10 rfl (s_assign rfl) ?_
    refine ga_done z_7 ?_
    repeat refine y_ ?_
    refine g_ret ?_
    exact at_end2 rfl rfl rfl [] ⟨rfl, rfl⟩ (fun _ h => h.dropAll)
  · have h4 : g.l.length = 0 := by simp at h; rw [h]; rfl
    have e : lastT g = g.bt := by rw [lastT, if_pos h4]
    have e2 : lastI g = g.base := by rw [lastI, h4]; simp
    rw [e, e2]
    repeat refine y_ ?_
    refine g_draw0 ([1, 3], [0, 1, 0, 4, 3, 31], []) 6 rfl ?_
    refine w_ 0 rfl z_1 ?_
    (first | refine ga_read 1 rfl z_3 (s_load_blk rfl .del z_10) rfl rfl rfl z_7 ?_ | refine ga_readF 1 rfl (s_load1 rfl (fun w hw => peekB hw (by assumption) z_10)) (by (first | exact fun _ h => h | (repeat first | exact sub_nil | refine sub_cons z_4 ?_))) rfl rfl rfl z_7 ?_)
    refine w_ 2 rfl z_1 ?_
    (first | refine ga_read 3 rfl z_3 (s_load_blk rfl .del z_10) rfl rfl rfl z_7 ?_ | refine ga_readF 3 rfl (s_load1 rfl (fun w hw => peekB hw (by assumption) z_10)) (by (first | exact fun _ h => h | (repeat first | exact sub_nil | refine sub_cons z_4 ?_))) rfl rfl rfl z_7 ?_)
    refine w_ 4 rfl (s_assign rfl) ?_
    refine w_ 5 rfl (s_assign rfl) ?_
    refine ga_done z_7 ?_
    repeat refine y_ ?_
    refine g_ret ?_
    exact at_end2 rfl rfl rfl [] ⟨rfl, rfl⟩ (fun _ h => h.dropAll)

set_option maxHeartbeats 2000000 in
theorem Slice_ct (g : LM) (frm most : Int) (hf : g.fit) (hi : 0 ≤ frm ∧ frm ≤ 18446744073709551615) (hm : -9223372036854775808 ≤ most ∧ most ≤ 9223372036854775807) : Ct Tryz.prog 118 [g.v, .int .u64 frm, .int .i64 most] (fun h => RdS h g.la (enV g.l)) [] (EnP (sliceL g frm most)) := by
  have h1 := hf.lo
  have h2 := hf.hi
  have h3 := hf.len
  have h4 := hf.cap
  refine ct_enter 42 Tryz.func118 rfl rfl rfl ?_
  intro F hrd
  repeat refine y_ ?_
  refine g_region ?_
  refine gl_boxA rfl rfl ?_; intro g3
  refine f_ (s_assign rfl) ?_
  refine gl_nil ?_
  repeat refine y_ ?_
  by_cases hs : g.base < frm ∧ frm - g.base ≤ (g.l.length : Int) ∧ 1 ≤ most
  · obtain ⟨s1, s2, s3⟩ := hs
    repeat refine y_ ?_
    refine g_region ?_
    refine m_ ?_
    refine f_ z_1 ?_
    refine r_ z_9 ?_
    refine f_ ((s_leq rfl rfl).eq (v' := .bool false) (congrArg Value.bool (decide_eq_false (by omega)))) ?_
    refine m_ ?_
    (first|refine u_ ?_|(refine v_ ?_; refine m_ ?_))
    (first|refine u_ ?_|(refine v_ ?_; refine f_ z_1 ?_))
    (first|refine u_ ?_|(refine v_ ?_; refine r_ z_9 ?_))
    (first|refine u_ ?_|(refine v_ ?_; refine f_ (s_sub_u64 rfl rfl (by omega)) ?_))
    (first|refine u_ ?_|(refine v_ ?_; refine f_ z_1 ?_))
    (first|refine u_ ?_|(refine v_ ?_; refine r_ z_9 ?_))
    (first|refine u_ ?_|(refine v_ ?_; refine f_ (s_len_sl rfl) ?_))
    (first|refine u_ ?_|(refine v_ ?_; refine f_ (s_conv_keep_u64 rfl (by omega)) ?_))
    (first|refine u_ ?_|(refine v_ ?_; refine f_ ((s_gtr rfl rfl).eq (v' := .bool false) (congrArg Value.bool (decide_eq_false (by omega)))) ?_))
    refine f_ z_8 ?_
    refine m_ ?_
    (first|refine u_ ?_|(refine v_ ?_; refine m_ ?_))
    (first|refine u_ ?_|(refine v_ ?_; refine f_ ((s_lss rfl rfl).eq (v' := .bool false) (congrArg Value.bool (decide_eq_false (by omega)))) ?_))
    refine f_ z_8 ?_
    refine gl_nil ?_
    repeat refine y_ ?_
    obtain ⟨k, hk⟩ : ∃ k, k = (frm - g.base - 1).toNat := ⟨_, rfl⟩
    obtain ⟨m, hm⟩ : ∃ m, m = min most.toNat (g.l.length - k) := ⟨_, rfl⟩
    have er : sliceL g frm most = (g.l.drop k).take m := by
      rw [sliceL, if_pos ⟨s1, s2, s3⟩, ← hk, hm, ← List.take_take]
      congr 1
      rw [List.take_of_length_le (by rw [List.length_drop]; omega)]
    have el : (sliceL g frm most).length = m := by rw [er, List.length_take, List.length_drop]; omega
    have hcut := (hrd.cut (sz := 3) (enV_length g.l) h4 k g.l.length (by omega) (Nat.le_refl _))
    have hx : ((enV g.l).drop (k * 3)).take ((g.l.length - k) * 3) = enV (g.l.drop k) := by
      rw [List.take_of_length_le (by rw [List.length_drop, enV_length]; omega), enV_drop]
    rw [hx] at hcut
    have hcut2 := hcut.cut (sz := 3) (by rw [enV_length, List.length_drop]) (n := g.l.length - k) (c := g.lc - k) (by omega) 0 m (by omega) (by omega)
    rw [Nat.zero_mul, List.drop_zero, Nat.sub_zero, ← enV_take, ← er] at hcut2
    repeat refine y_ ?_
    refine g_region ?_
    refine f_ z_1 ?_
    refine r_ z_9 ?_
    refine m_ ?_
    refine f_ z_1 ?_
    refine r_ z_9 ?_
    refine f_ (s_sub_u64 rfl rfl (by omega)) ?_
    refine f_ (s_sub_u64 rfl rfl (by omega)) ?_
    refine f_ ((s_slice_sl rfl rfl rfl (by omega)).eq (v' := .slice (cutA g.la g.lc k 3) (g.l.length - k) (g.lc - k)) (by rw [hk]; rfl)) ?_
    refine f_ (s_assign rfl) ?_
    refine gl_nil ?_
    repeat refine y_ ?_
    refine g_region ?_
    refine m_ ?_
    refine m_ ?_
    refine m_ ?_
    refine f_ (s_len_sl rfl) ?_
    refine f_ (s_min2 rfl rfl) ?_
    refine f_ ((s_slice_sl rfl rfl rfl (by omega)).eq (v' := .slice (cutA (cutA g.la g.lc k 3) (g.lc - k) 0 3) (sliceL g frm most).length (g.lc - k)) (by rw [el, hm]; congr 1; omega)) ?_
    refine gl_call _ rfl (CloneE_ct _ _ _ (by omega)) (fun w hw => hw) (fun h hh _ => hcut2.le hh) rfl ?_; rintro v A ⟨a6, c6, rfl, rfl⟩
    refine f_ (s_assign rfl) ?_
    refine gl_nil ?_
    repeat refine y_ ?_
    refine g_ret ?_
    exact at_end1 rfl rfl [.own (.slice a6 (sliceL g frm most).length c6) 51 3 (enV (sliceL g frm most))] ⟨a6, c6, rfl, rfl⟩ (fun w hw => hp_left hw)
  · rw [sliceL, if_neg hs]
    obtain ⟨q1, hq1⟩ : ∃ q, q = decide (frm ≤ g.base) := ⟨_, rfl⟩
    obtain ⟨q2, hq2⟩ : ∃ q, q = decide ((g.l.length : Int) < frm - g.base) := ⟨_, rfl⟩
    refine g_cutK [(26, .bool true)] [] ?_ ?_
    · cases q1 <;> cases q2
      all_goals (
        repeat refine y_ ?_
        refine g_region ?_
        refine m_ ?_
        refine f_ z_1 ?_
        refine r_ z_9 ?_
        refine f_ ((s_leq rfl rfl).eq (congrArg Value.bool hq1.symm)) ?_
        refine m_ ?_
        (first|refine u_ ?_|(refine v_ ?_; refine m_ ?_))
        (first|refine u_ ?_|(refine v_ ?_; refine f_ z_1 ?_))
        (first|refine u_ ?_|(refine v_ ?_; refine r_ z_9 ?_))
        (first|refine u_ ?_|(refine v_ ?_; refine f_ (s_sub_u64 rfl rfl (by have := of_decide_eq_false hq1.symm; omega)) ?_))
        (first|refine u_ ?_|(refine v_ ?_; refine f_ z_1 ?_))
        (first|refine u_ ?_|(refine v_ ?_; refine r_ z_9 ?_))
        (first|refine u_ ?_|(refine v_ ?_; refine f_ (s_len_sl rfl) ?_))
        (first|refine u_ ?_|(refine v_ ?_; refine f_ (s_conv_keep_u64 rfl (by omega)) ?_))
        (first|refine u_ ?_|(refine v_ ?_; refine f_ ((s_gtr rfl rfl).eq (congrArg Value.bool hq2.symm)) ?_))
        refine f_ z_8 ?_
        refine m_ ?_
        (first|refine u_ ?_|(refine v_ ?_; refine m_ ?_))
        (first|refine u_ ?_|(refine v_ ?_; refine f_ ((s_lss rfl rfl).eq (v' := .bool true) (congrArg Value.bool (decide_eq_true (by have := of_decide_eq_false hq1.symm; have := of_decide_eq_false hq2.symm; omega)))) ?_))
        refine f_ z_8 ?_
        refine gl_nil ?_
        repeat refine y_ ?_)
      all_goals exact at_cut (by (repeat (first | exact Sub.nil _ | refine Sub.cons rfl ?_))) (fun w hw => hw.dropAll)
    · repeat refine y_ ?_
      repeat refine y_ ?_
      refine g_region ?_
      refine f_ (s_assign rfl) ?_
      refine gl_nil ?_
      repeat refine y_ ?_
      refine g_ret ?_
      refine g_end_own 51 3 ?_
      exact at_end1 rfl rfl [.own (.slice none 0 0) 51 3 []] ⟨none, 0, rfl, rfl⟩ (fun _ h => h)

/-- the entry at an index -/
def hasE (g : LM) (i : Int) : Bool := decide (g.base < i) && decide (i - g.base ≤ (g.l.length : Int))
def entAt (g : LM) (i : Int) : Ent := if hasE g i = true then g.l.getD (i - g.base - 1).toNat E0 else E0
def EntP (g : LM) (i : Int) (v : Value) (A : List As) : Prop := v = .tuple #[entV (entAt g i), .bool (hasE g i)] ∧ A = []
end Go.Proofs.YtodcghipfolejaaGreat
/- The walks over logs: Right, Newer, clone, twin, the example, spoil. -/
namespace Go.Proofs.YtodcghipfolejaaGreat
open Go Go.Sl
set_option linter.unusedVariables false
set_option linter.unusedSimpArgs false

def newerL (g : LM) (i term : Int) : Bool := decide (lastT g < term) || (decide (term = lastT g) && decide (lastI g ≤ i))
theorem Newer_ct (g : LM) (i term : Int) (hf : g.fit) : Pu Tryz.prog 95 [g.v, .int .u64 i, .int .u64 term] (fun h => RdS h g.la (enV g.l)) (.bool (newerL g i term)) := by
  refine ct_enter 27 Tryz.func95 rfl rfl rfl ?_
  intro F hrd
  repeat refine y_ ?_
  refine g_region ?_
  refine gl_boxA rfl rfl ?_; intro g3
  refine f_ (s_assign rfl) ?_
  refine gl_nil ?_
  repeat refine y_ ?_
  refine g_region ?_
  refine r_ z_11 ?_
  refine gl_callp rfl (Last_ct g hf) (fun h hh _ => hrd.le hh) rfl ?_
  refine m_ ?_
  refine f_ (s_extract rfl rfl) ?_
  refine f_ (s_extract rfl rfl) ?_
  refine f_ (s_assign rfl) ?_
  refine f_ (s_assign rfl) ?_
  refine gl_nil ?_
  repeat refine y_ ?_
  obtain ⟨q1, hq1⟩ : ∃ q, q = decide (lastT g < term) := ⟨_, rfl⟩
  obtain ⟨q2, hq2⟩ : ∃ q, q = decide (term = lastT g) := ⟨_, rfl⟩
  obtain ⟨q3, hq3⟩ : ∃ q, q = decide (lastI g ≤ i) := ⟨_, rfl⟩
  have e : newerL g i term = (q1 || (q2 && q3)) := by rw [newerL, hq1, hq2, hq3]
  rw [e]
  cases q1 <;> cases q2
  all_goals (
    repeat refine y_ ?_
    refine g_region ?_
    refine m_ ?_
    refine m_ ?_
    refine f_ ((s_gtr rfl rfl).eq (congrArg Value.bool hq1.symm)) ?_
    refine m_ ?_
    (first|refine u_ ?_|(refine v_ ?_; refine m_ ?_))
    (first|refine u_ ?_|(refine v_ ?_; refine m_ ?_))
    (first|refine u_ ?_|(refine v_ ?_; refine f_ ((s_eql rfl rfl).eq (congrArg Value.bool hq2.symm)) ?_))
    (first|refine u_ ?_|(refine v_ ?_; refine m_ ?_))
    (first|refine u_ ?_|(refine v_ ?_; refine m_ ?_))
    (first|refine u_ ?_|(refine v_ ?_; refine m_ ?_))
    (first|refine u_ ?_|(refine v_ ?_; refine f_ ((s_geq rfl rfl).eq (congrArg Value.bool hq3.symm)) ?_))
    (first|refine u_ ?_|(refine v_ ?_; refine f_ z_8 ?_))
    refine f_ z_8 ?_
    refine f_ (s_assign rfl) ?_
    refine gl_nil ?_
    repeat refine y_ ?_)
  all_goals (
    refine g_ret ?_
    exact at_end1 rfl rfl [] ⟨rfl, rfl⟩ (fun _ h => h.dropAll))
/-- a log of the call's own comes back -/
abbrev OwnL (la : Option Addr) (l : List Ent) (lc : Nat) : As := .own (.slice la l.length lc) 51 3 (enV l)
abbrev OwnC (ca : Option Addr) (c : List Int) (cc : Nat) : As := .own (.slice ca c.length cc) 3 1 (intsV c)
abbrev OwnG (g : LM) : List As := [OwnL g.la g.l g.lc, OwnC g.ca g.conf g.cc]
def LgP (base bt : Int) (conf : List Int) (l : List Ent) (v : Value) (A : List As) : Prop := ∃ ca cc la lc, v = LM.v ⟨base, bt, conf, l, ca, cc, la, lc⟩ ∧ A = OwnG ⟨base, bt, conf, l, ca, cc, la, lc⟩
theorem clone_ct (g : LM) (hc : g.conf.length ≤ 1000000000000) (hl : g.l.length ≤ 1000000000000) : Ct Tryz.prog 104 [g.v] g.ok [] (LgP g.base g.bt g.conf g.l) := by
  refine ct_enter 12 Tryz.func104 rfl rfl rfl ?_
  intro F hr
  obtain ⟨hrc, hrd⟩ := hr
  repeat refine y_ ?_
  refine g_region ?_
  refine gl_boxA rfl rfl ?_; intro g1
  refine gl_allocA rfl ?_; intro g2
  refine gl_nil ?_
  repeat refine y_ ?_
  refine g_region ?_
  refine f_ z_1 ?_
  refine r_ z_9 ?_
  refine gl_call _ rfl (CloneI_ct _ _ _ hc) (fun w hw => hw) (fun h hh _ => hrc.le hh) rfl ?_; rintro v A ⟨ca, cc, rfl, rfl⟩
  refine f_ z_1 ?_
  (first | refine gl_store_blkC (pre := [_, _]) (post := [_]) rfl rfl z_6 z_10 z_10 z_10 ?_ | refine gl_store_blk rfl rfl z_6 z_10 z_2 z_10 ?_)
  refine gl_nil ?_
  repeat refine y_ ?_
  refine g_region ?_
  refine f_ z_1 ?_
  refine r_ z_9 ?_
  refine gl_call _ rfl (CloneE_ct _ _ _ hl) (fun w hw => hw) (fun h hh _ => hrd.le hh) rfl ?_; rintro v A ⟨la, lc, rfl, rfl⟩
  refine f_ z_1 ?_
  (first | refine gl_store_blkC (pre := [_, _, _]) (post := []) rfl rfl z_6 z_10 z_10 z_10 ?_ | refine gl_store_blk rfl rfl z_6 z_10 z_2 z_10 ?_)
  refine gl_nil ?_
  repeat refine y_ ?_
  refine g_region ?_
  refine r_ z_11 ?_
  (first | refine gl_store_blkW rfl rfl z_6 z_10 z_10 z_2 ?_ | refine gl_store_blk rfl rfl z_6 z_10 z_2 z_10 ?_)
  refine gl_nil ?_
  repeat refine y_ ?_
  refine g_ret ?_
  exact at_endB rfl rfl z_3 rfl _ ⟨ca, cc, la, lc, rfl, rfl⟩ (fun w hw => Hp.left (A := OwnG ⟨g.base, g.bt, g.conf, g.l, ca, cc, la, lc⟩) hw)
end Go.Proofs.YtodcghipfolejaaGreat
/- The walks over logs: Install, the reference's Install, behind and Merge. -/
namespace Go.Proofs.YtodcghipfolejaaGreat
open Go Go.Sl
set_option linter.unusedVariables false
set_option linter.unusedSimpArgs false

def instL (g : LM) (i term : Int) : List Ent := if (hasL g i && decide (termV g i = term)) = true then g.l.drop (i - g.base).toNat else []
set_option maxRecDepth 4000 in
theorem Install_ct (g : LM) (i term : Int) (conf : List Int) (ca : Option Addr) (cc : Nat) (hf : g.fit) (hi : 0 ≤ i ∧ i ≤ 18446744073709551615) (hc : conf.length ≤ 1000000000000) : Ct Tryz.prog 123 [g.v, .int .u64 i, .int .u64 term, .slice ca conf.length cc] (fun h => RdS h g.la (enV g.l) ∧ RdS h ca (intsV conf)) [] (LgP i term conf (instL g i term)) := by
  have h1 := hf.lo
  have h2 := hf.hi
  have h3 := hf.len
  have h4 := hf.cap
  refine ct_enter 39 Tryz.func123 rfl rfl rfl ?_
  intro F hr
  obtain ⟨hrd, hrc⟩ := hr
  repeat refine y_ ?_
  refine g_region ?_
  refine gl_boxA rfl rfl ?_; intro g4
  refine gl_allocA rfl ?_; intro g8
  refine gl_nil ?_
  repeat refine y_ ?_
  refine g_region ?_
  refine m_ ?_
  refine m_ ?_
  refine m_ ?_
  refine gl_call _ rfl (CloneI_ct conf ca cc hc) (fun w hw => hw) (fun h hh _ => hrc.le hh) rfl ?_; rintro v A ⟨c1, d1, rfl, rfl⟩
  refine f_ (s_build rfl (v := .agg #[.int .u64 i, .int .u64 term, .slice c1 conf.length d1, .slice none 0 0]) (run_build_struct (places := [(0, 1), (1, 1), (2, 1), (3, 1)]) rfl (by intro f hf; simp at hf; rcases hf with rfl | rfl | rfl | rfl <;> rfl) rfl)) ?_
  refine gl_allocA rfl ?_; intro g9
  (first | refine gl_store_blkW rfl rfl z_6 z_10 z_10 z_2 ?_ | refine gl_store_blk rfl rfl z_6 z_10 z_2 z_10 ?_)
  refine gl_nil ?_
  repeat refine y_ ?_
  refine g_region ?_
  refine r_ z_11 ?_
  refine m_ ?_
  refine gl_callp rfl (Term_ct g i hf hi) (fun h hh _ => hrd.le hh) rfl ?_
  refine m_ ?_
  refine f_ (s_extract rfl rfl) ?_
  refine f_ (s_extract rfl rfl) ?_
  refine f_ (s_assign rfl) ?_
  refine f_ (s_assign rfl) ?_
  refine gl_nil ?_
  repeat refine y_ ?_
  obtain ⟨q1, hq1⟩ : ∃ q, q = hasL g i := ⟨_, rfl⟩
  obtain ⟨q2, hq2⟩ : ∃ q, q = decide (termV g i = term) := ⟨_, rfl⟩
  have el : instL g i term = if (q1 && q2) = true then g.l.drop (i - g.base).toNat else [] := by rw [instL, hq1, hq2]
  rw [← hq1, el]
  refine g_cutK [(4, Ptr g4), (8, Ptr g8), (9, Ptr g9), (1, .int .u64 i), (28, .bool (q1 && q2))] [.blk g9 (.cells #[.int .u64 i, .int .u64 term, .slice c1 conf.length d1, .slice none 0 0] 46), .own (.slice c1 conf.length d1) 3 1 (intsV conf), .blk g8 (.cells #[.int .u64 0, .int .u64 0, .slice none 0 0, .slice none 0 0] 46), .blk g4 (.cells #[.int .u64 g.base, .int .u64 g.bt, .slice g.ca g.conf.length g.cc, .slice g.la g.l.length g.lc] 46)] ?_ ?_
  · cases q1
    all_goals (
      repeat refine y_ ?_
      refine g_region ?_
      refine m_ ?_
      refine m_ ?_
      (first|refine u_ ?_|(refine v_ ?_; refine m_ ?_))
      (first|refine u_ ?_|(refine v_ ?_; refine m_ ?_))
      (first|refine u_ ?_|(refine v_ ?_; refine f_ ((s_eql rfl rfl).eq (congrArg Value.bool hq2.symm)) ?_))
      refine f_ z_8 ?_
      refine gl_nil ?_
      repeat refine y_ ?_)
    all_goals exact at_cut (by (repeat (first | exact Sub.nil _ | refine Sub.cons rfl ?_))) (fun w hw => hw)
  · repeat refine y_ ?_
    refine g_cond rfl (fun h => ?_) (fun h => ?_)
    · have hh : hasL g i = true := by rw [← hq1]; cases q1 <;> simp_all
      simp only [hasL, Bool.and_eq_true, decide_eq_true_eq] at hh
      rw [if_pos h]
      obtain ⟨k, hk⟩ : ∃ k, k = (i - g.base).toNat := ⟨_, rfl⟩
      have hcut := (hrd.cut (sz := 3) (enV_length g.l) h4 k g.l.length (by omega) (Nat.le_refl _))
      have hx : ((enV g.l).drop (k * 3)).take ((g.l.length - k) * 3) = enV (g.l.drop k) := by
        rw [List.take_of_length_le (by rw [List.length_drop, enV_length]; omega), enV_drop]
      rw [hx] at hcut
      have hlen : (g.l.drop k).length = g.l.length - k := by rw [List.length_drop]
      repeat refine y_ ?_
      refine g_region ?_
      refine f_ z_1 ?_
      refine r_ z_9 ?_
      refine m_ ?_
      refine f_ z_1 ?_
      refine r_ z_9 ?_
      refine f_ (s_sub_u64 rfl rfl (by omega)) ?_
      refine f_ ((s_slice_sl rfl rfl rfl (by omega)).eq (v' := .slice (cutA g.la g.lc k 3) (g.l.drop k).length (g.lc - k)) (by rw [hlen, hk]; rfl)) ?_
      refine gl_call _ rfl (CloneE_ct (g.l.drop k) _ _ (by omega)) (fun w hw => hw) (fun h hh _ => hcut.le hh) rfl ?_; rintro v A ⟨a7, c7, rfl, rfl⟩
      refine f_ z_1 ?_
      (first | refine gl_store_blkC (pre := [_, _, _]) (post := []) rfl rfl z_6 z_10 z_10 z_10 ?_ | refine gl_store_blk rfl rfl z_6 z_10 z_2 z_10 ?_)
      refine gl_nil ?_
      repeat refine y_ ?_
      refine g_region ?_
      refine r_ z_11 ?_
      (first | refine gl_store_blkW rfl rfl z_6 z_10 z_10 z_2 ?_ | refine gl_store_blk rfl rfl z_6 z_10 z_2 z_10 ?_)
      refine gl_nil ?_
      repeat refine y_ ?_
      refine g_ret ?_
      rw [← hk]
      exact at_endB rfl rfl z_3 rfl _ ⟨c1, d1, a7, c7, rfl, rfl⟩ (fun w hw => Hp.left (A := OwnG ⟨i, term, conf, g.l.drop k, c1, d1, a7, c7⟩) (R := [_, _, _]) ((hw.perm (.cons _ (.swap _ _ _)))))
    · rw [if_neg (by rw [h]; simp)]
      repeat refine y_ ?_
      refine g_region ?_
      refine r_ z_11 ?_
      (first | refine gl_store_blkW rfl rfl z_6 z_10 z_10 z_2 ?_ | refine gl_store_blk rfl rfl z_6 z_10 z_2 z_10 ?_)
      refine gl_nil ?_
      repeat refine y_ ?_
      refine g_ret ?_
      exact at_endB rfl rfl z_3 rfl _ ⟨c1, d1, none, 0, rfl, rfl⟩ (fun w hw => Hp.left (A := OwnG ⟨i, term, conf, [], c1, d1, none, 0⟩) (R := [_, _, _]) ((hw.front (.there .del)).addNil 51 3))

end Go.Proofs.YtodcghipfolejaaGreat
/- The walk of the reference's merging. -/
namespace Go.Proofs.YtodcghipfolejaaGreat
open Go Go.Sl
set_option linter.unusedVariables false
set_option linter.unusedSimpArgs false

abbrev blkG (b : Nat) (base bt : Int) (ca : Option Addr) (cn cc : Nat) (la : Option Addr) (ln lc : Nat) : As := .blk b (.cells #[.int .u64 base, .int .u64 bt, .slice ca cn cc, .slice la ln lc] 46)
end Go.Proofs.YtodcghipfolejaaGreat
/- The walks of Merge: the reference's and the program's. -/
namespace Go.Proofs.YtodcghipfolejaaGreat
open Go Go.Sl
set_option linter.unusedVariables false
set_option linter.unusedSimpArgs false

theorem cut_ents {h : Heap} {a : Option Addr} {l : List Ent} {c : Nat} (r : RdS h a (enV l)) (hc : l.length ≤ c) (k : Nat) (hk : k ≤ l.length) : RdS h (cutA a c k 3) (enV (l.drop k)) := by
  have hcut := (r.cut (sz := 3) (enV_length l) hc k l.length (by omega) (Nat.le_refl _))
  have hx : ((enV l).drop (k * 3)).take ((l.length - k) * 3) = enV (l.drop k) := by
    rw [List.take_of_length_le (by rw [List.length_drop, enV_length]; omega), enV_drop]
  rwa [hx] at hcut
/-- what the program's merging gives: a log of the call's own -/
def MrgP (g : LM) (r : Mrg) (v : Value) (A : List As) : Prop := ∃ ca cc la lc, v = .tuple #[LM.v ⟨g.base, g.bt, g.conf, r.l, ca, cc, la, lc⟩, .int .u64 r.at_, .bool r.ok] ∧ A = OwnG ⟨g.base, g.bt, g.conf, r.l, ca, cc, la, lc⟩
set_option maxRecDepth 4000 in
set_option maxHeartbeats 4000000 in
theorem Merge_ct (g : LM) (prev term : Int) (l : List Ent) (lb : Option Addr) (ld : Nat) (hf : g.fit) (hp : 0 ≤ prev ∧ prev ≤ 18446744073709551615) (hl : l.length ≤ 1000000) (hld : l.length ≤ ld) : Ct Tryz.prog 122 [g.v, .int .u64 prev, .int .u64 term, .slice lb l.length ld] (fun h => g.ok h ∧ RdS h lb (enV l)) [] (MrgP g (mrgL g prev term l)) := by
  have h1 := hf.lo
  have h2 := hf.hi
  have h3 := hf.len
  have h3c := hf.cl
  refine ct_enter 94 Tryz.func122 rfl rfl rfl ?_
  intro F hr
  obtain ⟨hrg, hrl⟩ := hr
  repeat refine y_ ?_
  refine g_region ?_
  refine gl_boxA rfl rfl ?_; intro g4
  refine gl_allocA rfl ?_; intro g8
  refine f_ (s_assign rfl) ?_
  refine f_ (s_assign rfl) ?_
  refine gl_nil ?_
  repeat refine y_ ?_
  refine g_region ?_
  refine r_ z_11 ?_
  refine gl_call _ rfl (clone_ct g (by omega) (by omega)) (fun w hw => hw) (fun h hh _ => hrg.le hh) rfl ?_; rintro v A ⟨ca, cc, la, lc, rfl, rfl⟩
  (first | refine gl_store_blkW rfl rfl z_6 z_10 z_10 z_2 ?_ | refine gl_store_blk rfl rfl z_6 z_10 z_2 z_10 ?_)
  refine gl_nil ?_
  repeat refine y_ ?_
  obtain ⟨pz, hpz⟩ : ∃ x, x = if prev < g.base then g.base else prev := ⟨_, rfl⟩
  obtain ⟨tz, htz⟩ : ∃ x, x = if prev < g.base then g.bt else term := ⟨_, rfl⟩
  obtain ⟨k0, hk0⟩ : ∃ x : Nat, x = if prev < g.base then min l.length (g.base - prev).toNat else 0 := ⟨_, rfl⟩
  obtain ⟨b, hbz⟩ : ∃ x, x = if prev < g.base then cutA lb ld k0 3 else lb := ⟨_, rfl⟩
  obtain ⟨m, hm⟩ : ∃ x, x = l.drop k0 := ⟨_, rfl⟩
  have hml : m.length = l.length - k0 := by rw [hm, List.length_drop]
  have hk0l : k0 ≤ l.length := by rw [hk0]; split <;> omega
  have hmrg : mrgL g prev term l = mrgB g pz tz m := by
    rw [mrgL, hpz, htz, hm, hk0]
    split
    · congr 1
      by_cases h5 : l.length ≤ (g.base - prev).toNat
      · rw [Nat.min_eq_left h5, List.drop_length, List.drop_of_length_le h5]
      · rw [Nat.min_eq_right (by omega)]
    · rfl
  have hrm : RdS F.heap b (enV m) := by
    rw [hbz, hm]
    split
    · exact cut_ents hrl hld k0 hk0l
    · rename_i h5; rw [hk0, if_neg h5]; exact hrl
  have hpz2 : g.base ≤ pz ∧ pz ≤ 18446744073709551615 := by rw [hpz]; split <;> omega
  rw [hmrg]
  refine g_pull (H' := [OwnL la g.l lc, OwnC ca g.conf cc, blkG g8 0 0 none 0 0 none 0 0, blkG g4 g.base g.bt ca g.conf.length cc la g.l.length lc]) (fun w hw => hw) ?_
  repeat refine y_ ?_
  refine g_region ?_
  refine m_ ?_
  refine f_ z_1 ?_
  refine r_ z_9 ?_
  refine f_ (s_lss rfl rfl) ?_
  refine gl_nil ?_
  repeat refine y_ ?_
  refine g_cutK [(1, .int .u64 pz), (2, .int .u64 tz), (3, .slice b m.length (ld - k0)), (4, Ptr g4), (8, Ptr g8)] [OwnL la g.l lc, OwnC ca g.conf cc, blkG g8 0 0 none 0 0 none 0 0, blkG g4 g.base g.bt ca g.conf.length cc la g.l.length lc] ?_ ?_
  · refine g_cond rfl (fun h => ?_) (fun h => ?_)
    · have hlt : prev < g.base := of_decide_eq_true h
      have e1 : pz = g.base := by rw [hpz, if_pos hlt]
      have e2 : tz = g.bt := by rw [htz, if_pos hlt]
      have e3 : k0 = min l.length (g.base - prev).toNat := by rw [hk0, if_pos hlt]
      have e4 : b = cutA lb ld k0 3 := by rw [hbz, if_pos hlt]
      repeat refine y_ ?_
      refine g_region ?_
      refine m_ ?_
      refine m_ ?_
      refine f_ (s_len_sl rfl) ?_
      refine f_ (s_conv_keep_u64 rfl (by omega)) ?_
      refine f_ z_1 ?_
      refine r_ z_9 ?_
      refine m_ ?_
      refine f_ (s_sub_u64 rfl rfl (by omega)) ?_
      refine f_ ((s_min2 rfl rfl).eq (v' := .int .u64 (k0 : Nat)) (by congr 1; omega)) ?_
      refine f_ ((s_slice_sl rfl rfl rfl (by omega)).eq (v' := .slice b m.length (ld - k0)) (by rw [e4, hml]; rfl)) ?_
      refine f_ (s_assign rfl) ?_
      refine gl_nil ?_
      repeat refine y_ ?_
      rw [e1, e2]
      repeat refine y_ ?_
      refine g_draw0 ([1, 3], [0, 1, 0, 4, 3, 31], []) 6 rfl ?_
      refine w_ 0 rfl z_1 ?_
      (first | refine ga_read 1 rfl z_3 (s_load_blk rfl .del z_10) rfl rfl rfl z_7 ?_ | refine ga_readF 1 rfl (s_load1 rfl (fun w hw => peekB hw (by assumption) z_10)) (by (first | exact fun _ h => h | (repeat first | exact sub_nil | refine sub_cons z_4 ?_))) rfl rfl rfl z_7 ?_)
      refine w_ 2 rfl z_1 ?_
      (first | refine ga_read 3 rfl z_3 (s_load_blk rfl .del z_10) rfl rfl rfl z_7 ?_ | refine ga_readF 3 rfl (s_load1 rfl (fun w hw => peekB hw (by assumption) z_10)) (by (first | exact fun _ h => h | (repeat first | exact sub_nil | refine sub_cons z_4 ?_))) rfl rfl rfl z_7 ?_)
      refine w_ 4 rfl (s_assign rfl) ?_
      refine w_ 5 rfl (s_assign rfl) ?_
      refine ga_done z_7 ?_
      repeat refine y_ ?_
      exact at_cut (by (repeat (first | exact Sub.nil _ | refine Sub.cons rfl ?_))) (fun w hw => hw)
    · have hlt : ¬ prev < g.base := of_decide_eq_false h
      have e1 : pz = prev := by rw [hpz, if_neg hlt]
      have e2 : tz = term := by rw [htz, if_neg hlt]
      have e3 : k0 = 0 := by rw [hk0, if_neg hlt]
      have e4 : b = lb := by rw [hbz, if_neg hlt]
      have e5 : m.length = l.length := by omega
      have e6 : ld - k0 = ld := by omega
      rw [e1, e2, e4, e5, e6]
      repeat refine y_ ?_
      exact at_cut (by (repeat (first | exact Sub.nil _ | refine Sub.cons rfl ?_))) (fun w hw => hw)
  · repeat refine y_ ?_
    refine g_ownN .del (fun _ hcap _ => ?_)
    have hf1 : (⟨g.base, g.bt, g.conf, g.l, ca, cc, la, lc⟩ : LM).fit := ⟨h1, h2, h3, h3c, hcap⟩
    have ht1 : ∀ i, termV (⟨g.base, g.bt, g.conf, g.l, ca, cc, la, lc⟩ : LM) i = termV g i := fun i => rfl
    have hh1 : ∀ i, hasL (⟨g.base, g.bt, g.conf, g.l, ca, cc, la, lc⟩ : LM) i = hasL g i := fun i => rfl
    repeat refine y_ ?_
    refine g_region ?_
    refine r_ z_11 ?_
    refine m_ ?_
    refine gl_callp rfl (Term_ct ⟨g.base, g.bt, g.conf, g.l, ca, cc, la, lc⟩ pz hf1 (by omega)) (fun h hh ⟨bs, hb⟩ => Sat.rd (a := la) hb z_3) rfl ?_; rw [ht1, hh1]
    refine m_ ?_
    refine f_ (s_extract rfl rfl) ?_
    refine f_ (s_extract rfl rfl) ?_
    refine f_ (s_assign rfl) ?_
    refine f_ (s_assign rfl) ?_
    refine gl_nil ?_
    repeat refine y_ ?_
    obtain ⟨q1, hq1⟩ : ∃ q, q = hasL g pz := ⟨_, rfl⟩
    obtain ⟨q2, hq2⟩ : ∃ q, q = decide (termV g pz = tz) := ⟨_, rfl⟩
    rw [← hq1]
    refine g_cutK [(1, .int .u64 pz), (3, .slice b m.length (ld - k0)), (4, Ptr g4), (8, Ptr g8), (50, .bool (!(q1 && q2)))] [OwnL la g.l lc, OwnC ca g.conf cc, blkG g8 0 0 none 0 0 none 0 0, blkG g4 g.base g.bt ca g.conf.length cc la g.l.length lc] ?_ ?_
    · cases q1
      all_goals (
        repeat refine y_ ?_
        refine g_region ?_
        refine m_ ?_
        refine f_ (s_not rfl) ?_
        refine m_ ?_
        (first|refine u_ ?_|(refine v_ ?_; refine m_ ?_))
        (first|refine u_ ?_|(refine v_ ?_; refine m_ ?_))
        (first|refine u_ ?_|(refine v_ ?_; refine f_ ((s_neq rfl rfl).eq (congrArg (fun q => Value.bool (!q)) hq2.symm)) ?_))
        refine f_ z_8 ?_
        refine gl_nil ?_
        repeat refine y_ ?_)
      all_goals exact at_cut (by (repeat (first | exact Sub.nil _ | refine Sub.cons rfl ?_))) (fun w hw => hw)
    · repeat refine y_ ?_
      refine g_cond rfl (fun h => ?_) (fun h => ?_)
      · have e : mrgB g pz tz m = ⟨g.l, 0, false⟩ := by rw [mrgB, if_pos (by rw [← hq1, ← hq2]; cases q1 <;> cases q2 <;> first | rfl | cases h)]
        rw [e]
        repeat refine y_ ?_
        refine g_region ?_
        refine r_ z_11 ?_
        (first | refine gl_store_blkW rfl rfl z_6 z_10 z_10 z_2 ?_ | refine gl_store_blk rfl rfl z_6 z_10 z_2 z_10 ?_)
        refine f_ (s_assign rfl) ?_
        refine f_ (s_assign rfl) ?_
        refine gl_nil ?_
        repeat refine y_ ?_
        refine g_ret ?_
        exact at_endB2 rfl rfl rfl rfl z_3 rfl _ ⟨ca, cc, la, lc, rfl, rfl⟩ (fun w hw => Hp.left (A := OwnG ⟨g.base, g.bt, g.conf, g.l, ca, cc, la, lc⟩) (R := [_, _]) hw)
      · have hok : (hasL g pz && decide (termV g pz = tz)) = true := by rw [← hq1, ← hq2]; cases q1 <;> cases q2 <;> first | rfl | cases h
        have hhp : hasL g pz = true := by rw [Bool.and_eq_true] at hok; exact hok.1
        simp only [hasL, Bool.and_eq_true, decide_eq_true_eq] at hhp
        clear hq1 hq2 h
        repeat refine y_ ?_
        refine g_region ?_
        refine m_ ?_
        refine f_ (s_len_sl rfl) ?_
        refine m_ ?_
        refine gl_nil ?_
        repeat refine y_ ?_
        refine g_loop (ι := Nat) (fun k => k ≤ m.length ∧ ∀ j, j < k → same g pz m j = true) (fun k => [(1, .int .u64 pz), (3, .slice b m.length (ld - k0)), (4, Ptr g4), (8, Ptr g8), (52, .slice b m.length (ld - k0)), (53, .int .i64 (m.length : Nat)), (54, .int .i64 (k : Nat))]) (fun k => [OwnL la g.l lc, OwnC ca g.conf cc, blkG g8 0 0 none 0 0 none 0 0, blkG g4 g.base g.bt ca g.conf.length cc la g.l.length lc]) (fun k => m.length - k) 0 ⟨by omega, fun j hj => absurd hj (by omega)⟩ ?_ ?_ ?_
        · (repeat (first | exact Sub.nil _ | refine Sub.cons rfl ?_))
        · intro w hw; exact hw
        · rintro k ⟨hk, hall⟩
          repeat refine y_ ?_
          refine g_region ?_
          refine f_ (s_lss rfl rfl) ?_
          refine gl_nil ?_
          repeat refine y_ ?_
          refine g_cond rfl (fun h => ?_) (fun h => ?_)
          · have hk' : k < m.length := by simp at h; omega
            have hsome := rdE_some hrm hk'
            have hj : (pz - g.base).toNat + k ≤ g.l.length := by
              by_cases hk1 : k = 0
              · omega
              · have h5 := hall (k - 1) (by omega)
                simp only [same, hasL, Bool.and_eq_true, decide_eq_true_eq] at h5
                omega
            obtain ⟨q, hq⟩ : ∃ q, q = hasL g (pz + 1 + (k : Int)) := ⟨_, rfl⟩
            obtain ⟨q3, hq3⟩ : ∃ q, q = decide (termV g (pz + 1 + (k : Int)) = (m.getD k E0).1) := ⟨_, rfl⟩
            have hsm : same g pz m k = (q && q3) := by rw [same, hq, hq3]
            repeat refine y_ ?_
            refine g_region ?_
            refine m_ ?_
            refine f_ (s_indexAddr rfl (by assumption) rfl (by omega)) ?_
            refine r_ (s_loadN rfl (fun w hw => rdE hw hrm (i := k) (by omega) hk') rfl) ?_
            refine gl_allocA rfl ?_; intro g14
            refine f_ (s_assign rfl) ?_
            (first | refine gl_store_blkW rfl rfl z_6 z_10 z_10 z_2 ?_ | refine gl_store_blk rfl rfl z_6 z_10 z_2 z_10 ?_)
            refine gl_nil ?_
            repeat refine y_ ?_
            refine g_region ?_
            refine m_ ?_
            refine f_ (s_add_u64 rfl rfl (by omega)) ?_
            refine m_ ?_
            refine f_ (s_conv_keep_u64 rfl (by omega)) ?_
            refine f_ (s_add_u64 rfl rfl (by omega)) ?_
            refine f_ (s_assign rfl) ?_
            refine gl_nil ?_
            repeat refine y_ ?_
            refine g_region ?_
            refine r_ z_11 ?_
            refine m_ ?_
            refine gl_callp rfl (Term_ct ⟨g.base, g.bt, g.conf, g.l, ca, cc, la, lc⟩ (pz + 1 + (k : Int)) hf1 (by omega)) (fun h hh ⟨bs, hb⟩ => Sat.rd (a := la) hb z_3) rfl ?_; rw [ht1, hh1, ← hq]
            refine m_ ?_
            refine f_ (s_extract rfl rfl) ?_
            refine f_ (s_extract rfl rfl) ?_
            refine f_ (s_assign rfl) ?_
            refine f_ (s_assign rfl) ?_
            refine gl_nil ?_
            repeat refine y_ ?_
            refine g_cutK [(1, .int .u64 pz), (3, .slice b m.length (ld - k0)), (4, Ptr g4), (8, Ptr g8), (13, .int .i64 (k : Nat)), (15, .int .u64 (pz + 1 + (k : Int))), (52, .slice b m.length (ld - k0)), (53, .int .i64 (m.length : Nat)), (54, .int .i64 (k : Nat)), (76, .bool (q && q3))] [OwnL la g.l lc, OwnC ca g.conf cc, blkG g8 0 0 none 0 0 none 0 0, blkG g4 g.base g.bt ca g.conf.length cc la g.l.length lc] ?_ ?_
            · cases q
              all_goals (
                repeat refine y_ ?_
                refine g_region ?_
                refine m_ ?_
                refine m_ ?_
                (first|refine u_ ?_|(refine v_ ?_; refine m_ ?_))
                (first|refine u_ ?_|(refine v_ ?_; refine f_ z_1 ?_))
                (first|refine u_ ?_|(refine v_ ?_; refine r_ z_9 ?_))
                (first|refine u_ ?_|(refine v_ ?_; refine f_ ((s_eql rfl rfl).eq (congrArg Value.bool hq3.symm)) ?_))
                refine f_ z_8 ?_
                refine gl_nil ?_
                repeat refine y_ ?_)
              all_goals exact at_cut (by (repeat (first | exact Sub.nil _ | refine Sub.cons rfl ?_))) (fun w hw => hw.drop)
            · repeat refine y_ ?_
              refine g_cond rfl (fun h2 => ?_) (fun h2 => ?_)
              · repeat refine y_ ?_
                repeat refine y_ ?_
                refine g_region ?_
                refine f_ (s_add_i64 rfl rfl (by omega)) ?_
                refine m_ ?_
                refine gl_nil ?_
                repeat refine y_ ?_
                refine at_next (k + 1) ⟨by omega, fun j hj => ?_⟩ (by omega) ?_ ?_
                · rcases Nat.lt_succ_iff_lt_or_eq.1 hj with h4 | rfl
                  · exact hall j h4
                  · rw [hsm, h2]
                · (repeat (first | exact Sub.nil _ | refine Sub.cons rfl ?_))
                · intro w hw; exact hw
              · have hss : same g pz m k = false := by rw [hsm, h2]
                have hfd := firstD_at hk' hall hss
                have e : mrgB g pz tz m = ⟨g.l.take ((pz - g.base).toNat + k) ++ m.drop k, pz + 1 + (k : Nat), true⟩ := by
                  rw [mrgB, if_neg (by rw [hok]; simp), hfd, if_neg (by omega)]
                rw [e]
                obtain ⟨j, hjj⟩ : ∃ j, j = (pz - g.base).toNat + k := ⟨_, rfl⟩
                rw [← hjj] at hj ⊢
                have hmd : (m.drop k).length = m.length - k := by rw [List.length_drop]
                have htl : (g.l.take j).length = j := by rw [List.length_take]; omega
                have hcutm := cut_ents hrm (c := ld - k0) (by omega) k (by omega)
                have el : (g.l.take j ++ m.drop k).length = j + (m.drop k).length := by rw [List.length_append, htl]
                repeat refine y_ ?_
                refine g_draw ([1, 4], [0, 1, 0, 0, 8, 28, 60, 127, 0, 0, 768, 2047, 4095, 8191], [11, 13]) [blkG g4 g.base g.bt ca g.conf.length cc la g.l.length lc] 14 rfl ?_
                refine w_ 0 rfl z_1 ?_
                (first | refine ga_read_k 1 rfl z_5 (s_load_blk rfl .del z_10) (by (first | exact fun _ h => h | (repeat first | exact sub_nil | refine sub_cons z_4 ?_))) rfl rfl rfl z_7 ?_ | refine ga_readF 1 rfl (s_load1 rfl (fun w hw => peekB hw (by assumption) z_10)) (by (first | exact fun _ h => h | (repeat first | exact sub_nil | refine sub_cons z_4 ?_))) rfl rfl rfl z_7 ?_)
                refine w_ 2 rfl (s_move rfl) ?_
                refine w_ 3 rfl z_1 ?_
                (first | refine ga_read_k 4 rfl z_5 (s_load_blk rfl .del z_10) (by (first | exact fun _ h => h | (repeat first | exact sub_nil | refine sub_cons z_4 ?_))) rfl rfl rfl z_7 ?_ | refine ga_readF 4 rfl (s_load1 rfl (fun w hw => peekB hw (by assumption) z_10)) (by (first | exact fun _ h => h | (repeat first | exact sub_nil | refine sub_cons z_4 ?_))) rfl rfl rfl z_7 ?_)
                refine w_ 5 rfl (s_sub_u64 rfl rfl (by omega)) ?_
                refine w_ 6 rfl (s_sub_u64 rfl rfl (by omega)) ?_
                refine w_ 7 rfl ((s_slice_sl rfl rfl rfl (by omega)).eq (v' := .slice la j lc) (by rw [show (0 : Int).toNat = 0 from rfl, cutA_zero]; congr 1; omega)) ?_
                refine w_ 8 rfl (s_move rfl) ?_
                refine w_ 9 rfl (s_move rfl) ?_
                refine w_ 10 rfl ((s_slice_sl rfl rfl rfl (by omega)).eq (v' := .slice (cutA b (ld - k0) k 3) (m.drop k).length (ld - k0 - k)) (by rw [hmd]; rfl)) ?_
                refine ga_one 11 rfl z_7 ?_
                refine gl_pull (H' := [.own (.slice la j lc) 51 3 ((enV g.l).take (j * 3)), OwnC ca g.conf cc, blkG g8 0 0 none 0 0 none 0 0, blkG g4 g.base g.bt ca g.conf.length cc la g.l.length lc]) (fun w hw => hw.cutOwn .here hj) ?_; rw [← enV_take]; refine gl_append rfl rfl (fun a' c' => .here) (fun w hw => hcutm.le hw.keep) (enV_length _) rfl rfl (enV_one _) (by show (_ + _) * 32 ≤ _; omega) (by omega) rfl ?_; intro a88 c88 hc88
                refine gl_nil ?_
                refine at_ga (.inl z_7) ?_
                refine w_ 12 rfl z_1 ?_
                refine ga_one 13 rfl z_7 ?_
                (first | refine gl_store_blkC (pre := [_, _, _]) (post := []) rfl rfl z_6 z_10 z_10 z_10 ?_ | refine gl_store_blk rfl rfl z_6 z_10 z_2 z_10 ?_)
                refine gl_nil ?_
                refine at_ga (.inl z_7) ?_
                refine ga_done z_7 ?_
                repeat refine y_ ?_
                refine g_region ?_
                refine r_ z_11 ?_
                refine m_ ?_
                (first | refine gl_store_blkW rfl rfl z_6 z_10 z_10 z_2 ?_ | refine gl_store_blk rfl rfl z_6 z_10 z_2 z_10 ?_)
                refine f_ (s_assign rfl) ?_
                refine f_ (s_assign rfl) ?_
                refine gl_nil ?_
                repeat refine y_ ?_
                refine g_ret ?_
                rw [← enV_append]
                exact at_endB2 rfl rfl rfl rfl z_3 rfl _ ⟨ca, cc, a88, c88, by rw [← el]; rfl, rfl⟩ (fun w hw => by rw [← el] at hw; exact Hp.left (A := OwnG ⟨g.base, g.bt, g.conf, g.l.take j ++ m.drop k, ca, cc, a88, c88⟩) (R := [_, _]) hw)
          · have hkl : k = m.length := by simp at h; omega
            subst hkl
            have e : mrgB g pz tz m = ⟨g.l, 0, true⟩ := by
              rw [mrgB, if_neg (by rw [hok]; simp), if_pos (firstD_end hall)]
            rw [e]
            repeat refine y_ ?_
            refine g_region ?_
            refine r_ z_11 ?_
            (first | refine gl_store_blkW rfl rfl z_6 z_10 z_10 z_2 ?_ | refine gl_store_blk rfl rfl z_6 z_10 z_2 z_10 ?_)
            refine f_ (s_assign rfl) ?_
            refine f_ (s_assign rfl) ?_
            refine gl_nil ?_
            repeat refine y_ ?_
            refine g_ret ?_
            exact at_endB2 rfl rfl rfl rfl z_3 rfl _ ⟨ca, cc, la, lc, rfl, rfl⟩ (fun w hw => Hp.left (A := OwnG ⟨g.base, g.bt, g.conf, g.l, ca, cc, la, lc⟩) (R := [_, _]) hw)
end Go.Proofs.YtodcghipfolejaaGreat
/- The walks over logs: the reference's Conf and Compact; sorted. -/
namespace Go.Proofs.YtodcghipfolejaaGreat
open Go Go.Sl
set_option linter.unusedVariables false
set_option linter.unusedSimpArgs false

theorem readE_ok (s : List UInt8) : decide (readE s = 0) = okR s := by
  unfold readE; cases okR s <;> rfl
end Go.Proofs.YtodcghipfolejaaGreat
/- The iterator over a log's entries towards its beginning: its contract. -/
namespace Go.Proofs.YtodcghipfolejaaGreat
open Go Go.Sl Go.RowKit
set_option linter.unusedVariables false
set_option linter.unusedSimpArgs false

abbrev Yl := Int × Ent
def encY (x : Yl) : Array Value := #[.int .u64 x.1, entV x.2]
def backN (g : LM) (i : Int) : Nat := min g.l.length (i - g.base).toNat
/-- what stands at the j-th round -/
def backAt (g : LM) (m j : Nat) : Yl := (g.base + ((m - j : Nat) : Int), g.l.getD (m - j - 1) E0)
def Dt (x : Yl) : Prop := x.2.2.2.length ≤ 9223372036854775807
abbrev Yd := {x : Yl // Dt x}
def encD (x : Yd) : Array Value := encY x.1
def LM.dat (g : LM) : Prop := ∀ i, i < g.l.length → (g.l.getD i E0).2.2.length ≤ 9223372036854775807
theorem backAt_dt {g : LM} (hd : g.dat) (m j : Nat) : Dt (backAt g m j) := by
  unfold Dt backAt
  simp only
  rcases Nat.lt_or_ge (m - j - 1) g.l.length with h | h
  · exact hd _ h
  · rw [List.getD_eq_getElem?_getD, List.getElem?_eq_none h]; decide
def backE (g : LM) (hd : g.dat) (m j : Nat) : Yd := ⟨backAt g m j, backAt_dt hd m j⟩
def backL (g : LM) (hd : g.dat) (m k : Nat) : List Yd := (List.range k).map (backE g hd m)
theorem backL_succ (g : LM) (hd : g.dat) (m k : Nat) : backL g hd m (k + 1) = backL g hd m k ++ [backE g hd m k] := by simp [backL, List.range_succ]
theorem backL_length (g : LM) (hd : g.dat) (m k : Nat) : (backL g hd m k).length = k := by simp [backL]
theorem peekF {F : Snap} {w : World} {H : List As} {b o : Nat} {cs : Array Value} {te : TypeId} {fr : Nat × Nat} {v : Value} (hw : Hp F w H) (hb : F.heap b = some (.cells cs te fr)) (hv : cs[o]? = some v) : PeekC (hp w) (some ⟨b, o, none⟩) [v] :=
  ⟨_, rfl, fun j q hj => by
    match j, hj with
    | 0, hj =>
      simp at hj; subst hj
      have h1 := hw.keep b _ hb
      have h2 : w.heap[b]? = some (.cells cs te fr) := h1
      simp [Heap.cell?, hp, Addr.add, h2, hv]⟩
theorem peekFN {F : Snap} {w : World} {H : List As} {b : Nat} {cs : Array Value} {te : TypeId} {fr : Nat × Nat} (hw : Hp F w H) (hb : F.heap b = some (.cells cs te fr)) : PeekC (hp w) (some ⟨b, 0, none⟩) cs.toList :=
  ⟨_, rfl, fun j q hj => by
    have h1 := hw.keep b _ hb
    have h2 : w.heap[b]? = some (.cells cs te fr) := h1
    have e : (⟨b, 0, none⟩ : Addr).add j = ⟨b, j, none⟩ := by rw [Addr.add_lit]; simp
    rw [e]
    simp [Heap.cell?, hp, h2]
    simpa using hj⟩
abbrev gcells (g : LM) : Array Value := #[.int .u64 g.base, .int .u64 g.bt, .slice g.ca g.conf.length g.cc, .slice g.la g.l.length g.lc]
def KpG (G0 : Heap) (W W' : World) : Prop := Heap.le G0 (hp W) → Heap.le G0 (hp W')
theorem bodyPost_none {P : Program} {fn : Func} {R : Ending → World → Prop} {N : Nat} {L : Lcs} {a : Act} {w : World} (hr : fn.results = #[]) (hf : Fits N L a) (h : R (.returned (.tuple #[])) w) : bodyPost P fn R .normal a w ∧ bodyPost P fn R .ret a w :=
  ⟨⟨hf.defers, _, results_none hr _ _ _, h⟩, ⟨hf.defers, _, results_none hr _ _ _, h⟩⟩

def mu4 (b : Int) (a : Act) : Nat := match a.tmps.getD 4 undef with
  | .int _ z => (z - b).toNat
  | _ => 0
theorem mu4_eq {N : Nat} {L : Lcs} {a : Act} {z b : Int} (h : Fits N L a) (hz : find L 4 = some (.int .u64 z)) : mu4 b a = (z - b).toNat := by
  unfold mu4
  rw [show a.tmps.getD 4 undef = .int .u64 z from h.eval (x := .tmp 4) hz]
set_option maxHeartbeats 4000000 in
theorem back_stops (g : LM) (i : Int) (hf : g.fit) (hd : g.dat) (hi : 0 ≤ i ∧ i ≤ 18446744073709551615) (Bi Bg : Nat) (w0 : World) (G0 : Heap) (hG : Heap.le G0 (hp w0)) (hBi : G0 Bi = some (.cells #[.int .u64 i] 34)) (hBg : G0 Bg = some (.cells (gcells g) 46)) (hrd : RdS G0 g.la (enV g.l)) (n : Nat) :
    SeqStopsK Fence.wide n Tryz.prog 113 #[Ptr Bi, Ptr Bg] encD (KpG G0) (fun ys => ys = backL g hd (backN g i) (backN g i)) (fun pre => ∃ k, k ≤ backN g i ∧ pre = backL g hd (backN g i) k) (backN g i) w0 := by
  intro l J Jx W hW hJ hJx hY h0
  have h1 := hf.lo
  have h2 := hf.hi
  have h3 := hf.len
  have hGW : Heap.le G0 (hp W) := fun b o hb => by
    have h4 := hG b o hb
    have h5 : b < w0.heap.size := (Array.getElem?_eq_some_iff.1 h4).1
    exact (hW.block b h5).trans h4
  obtain ⟨m, hm⟩ : ∃ m, m = backN g i := ⟨_, rfl⟩
  rw [← hm] at hY ⊢
  obtain ⟨z0, hz0⟩ : ∃ z, z = min i (lastI g) := ⟨_, rfl⟩
  have hmz : (g.base < z0 → (m : Int) = z0 - g.base) ∧ (z0 ≤ g.base → m = 0) ∧ m ≤ g.l.length ∧ 0 ≤ z0 ∧ z0 ≤ 18446744073709551615 := by
    rw [hm, hz0, backN, lastI]; omega
  refine callsIn_of_wp Tryz.func113 rfl trivial ?_ rfl
  refine (?_ : GN none n Tryz.prog 28 _ _ (argLoc 0 [.func (.yield l) #[] #[], Ptr Bi, Ptr Bg]) (snap W) []) _ _ (fits_enter 28 _ rfl) (hp_snap W)
  have hBi' : (snap W).heap Bi = some (.cells #[.int .u64 i] 34) := by rw [snap_heap]; exact hGW _ _ hBi
  have hBg' : (snap W).heap Bg = some (.cells (gcells g) 46) := by rw [snap_heap]; exact hGW _ _ hBg
  refine gn_seq ?_
  refine gn_plain ?_
  repeat refine y_ ?_
  refine g_draw0 ([0, 1], [0, 0, 2, 7, 15], [2]) 5 rfl ?_
  refine ga_readF 0 rfl (s_load1 rfl (fun w hw => peekF hw hBi' rfl)) (by (first | exact fun _ h => h | (repeat first | exact sub_nil | refine sub_cons z_4 ?_))) rfl rfl rfl z_7 ?_
  refine ga_readF 1 rfl ((s_loadN rfl (fun w hw => peekFN hw hBg') rfl).eq (v' := g.v) rfl) (by (first | exact fun _ h => h | (repeat first | exact sub_nil | refine sub_cons z_4 ?_))) rfl rfl rfl z_7 ?_
  refine ga_one 2 rfl z_7 ?_
  refine gl_callp rfl (end_ct g hf) (fun _ _ _ => trivial) rfl ?_
  refine gl_nil ?_
  refine at_ga (.inr (by exact keeps_of (by (first | exact fun _ h => h | (repeat first | exact sub_nil | refine sub_cons z_4 ?_))))) ?_
  refine w_ 3 rfl ((s_min2 rfl rfl).eq (v' := .int .u64 z0) (by rw [hz0])) ?_
  refine w_ 4 rfl (s_assign rfl) ?_
  refine ga_done z_7 ?_
  repeat refine y_ ?_
  refine at_gn ?_
  refine gn_block ?_
  intro a w hfa hwa
  have hgw := grown_of_hp hwa
  have hGw : Heap.le G0 (hp w) := Heap.le_trans hGW (by have := hwa.keep; rwa [snap_heap] at this)
  refine wpIn_loop (fun a w => ∃ k, k ≤ m ∧ Fits 28 [(0, .func (.yield l) #[] #[]), (2, Ptr Bg), (4, .int .u64 (z0 - (k : Nat)))] a ∧ J (backL g hd m k) w ∧ Heap.le G0 (hp w)) (fun a _ => mu4 g.base a) ⟨0, by omega, ?_, hJ [] W w none h0 hgw (fun r e => by cases e), hGw⟩ ?_
  · have h5 := hfa.sub (L' := [(0, .func (.yield l) #[] #[]), (2, Ptr Bg), (4, .int .u64 z0)]) (by (repeat (first | exact Sub.nil _ | refine Sub.cons rfl ?_)))
    simpa using h5
  · rintro a w ⟨k, hk, hfk, hJk, hGk⟩
    have hmu := mu4_eq (b := g.base) hfk rfl
    have hBg' : (snap w).heap Bg = some (.cells (gcells g) 46) := by rw [snap_heap]; exact hGk _ _ hBg
    have hrd' : RdS (snap w).heap g.la (enV g.l) := by rw [snap_heap]; exact hrd.le hGk
    refine (?_ : GN none n Tryz.prog 28 _ _ [(0, .func (.yield l) #[] #[]), (2, Ptr Bg), (4, .int .u64 (z0 - (k : Nat)))] (snap w) []) a w hfk (hp_snap w)
    refine gn_seq ?_
    refine gn_seq ?_
    refine gn_plain ?_
    repeat refine y_ ?_
    refine g_region ?_
    refine m_ ?_
    refine f_ z_1 ?_
    refine r_ (s_load1 rfl (fun w hw => peekF hw hBg' rfl)) ?_
    refine f_ (s_gtr rfl rfl) ?_
    refine gl_nil ?_
    repeat refine y_ ?_
    refine at_gn ?_
    refine gn_cond rfl (fun h => ?_) (fun h => ?_)
    · have hz : g.base < z0 - (k : Nat) := of_decide_eq_true h
      have hkm : k < m := by omega
      have hsome := rdE_some (i := m - k - 1) hrd' (by omega)
      refine gn_skip ?_
      refine at_gn ?_
      refine gn_seq ?_
      refine gn_block ?_
      refine gn_seq ?_
      refine gn_region2 (pre := List.take 11 _) (suf := List.drop 11 _) (List.take_append_drop 11 _).symm (.inl rfl) ?_
      refine m_ ?_
      refine m_ ?_
      refine f_ z_1 ?_
      refine r_ (s_load1 rfl (fun w hw => peekF hw hBg' rfl)) ?_
      refine m_ ?_
      refine f_ z_1 ?_
      refine r_ (s_load1 rfl (fun w hw => peekF hw hBg' rfl)) ?_
      refine f_ (s_sub_u64 rfl rfl (by omega)) ?_
      refine f_ (s_sub_u64 rfl rfl (by omega)) ?_
      refine f_ (s_indexAddr rfl (by assumption) rfl (by omega)) ?_
      refine r_ ((s_loadN rfl (fun w hw => rdE hw hrd' (i := m - k - 1) (by omega) (by omega)) rfl).eq (v' := entV (g.l.getD (m - k - 1) E0)) rfl) ?_
      refine gl_nil ?_
      unfold At
      intro a1 w1 hf1 hw1
      have hJ1 : J (backL g hd m k) w1 := hJ _ w w1 none hJk (grown_of_hp hw1) (fun r e => by cases e)
      have hG1 : Heap.le G0 (hp w1) := Heap.le_trans hGk (by have := hw1.keep; rwa [snap_heap] at this)
      have hx : backAt g m k = (z0 - (k : Nat), g.l.getD (m - k - 1) E0) := by
        rw [backAt]; congr 1; omega
      have hYk := hY (backL g hd m k) (backE g hd m k) w1 hJ1 (by rw [backL_length]; exact hkm)
      have he : encD (backE g hd m k) = [.int .u64 (z0 - (k : Nat)), entV (g.l.getD (m - k - 1) E0)].toArray := (show encD (backE g hd m k) = encY (backAt g m k) from rfl).trans (by rw [hx]; rfl)
      rw [he] at hYk
      refine yield_at (m := n - 1) (l := l) (vs := [.int .u64 (z0 - (k : Nat)), entV (g.l.getD (m - k - 1) E0)]) (hf1.eval (x := .tmp 15) rfl) (by simp only [List.map_cons, List.map_nil]; rw [hf1.eval (x := .tmp 16) rfl, hf1.eval (x := .tmp 25) rfl]) hYk rfl ?_
      have hbs : backL g hd m k ++ [backE g hd m k] = backL g hd m (k + 1) := (backL_succ g hd m k).symm
      rw [hbs]
      rintro e W' (⟨rfl, hJ', hKp⟩ | ⟨rfl, hJx'⟩)
      · refine ⟨_, rfl, ?_⟩
        have hG' := hKp hG1
        refine listIn_rest (F := snap W') (H := []) (.inl rfl) ?_ (hf1.put rfl _) (hp_snap W')
        refine f_ (s_not rfl) ?_
        refine gl_nil ?_
        refine at_gn ?_
        refine gn_cond rfl (fun h => absurd h (by decide)) (fun _ => ?_)
        refine gn_skip ?_
        refine at_gn ?_
        refine gn_plain ?_
        repeat refine y_ ?_
        refine g_region ?_
        refine m_ ?_
        refine f_ (s_sub_u64 rfl rfl (by omega)) ?_
        refine f_ (s_assign rfl) ?_
        refine gl_nil ?_
        repeat refine y_ ?_
        unfold At
        intro a2 w2 hf2 hw2
        refine ⟨⟨k + 1, by omega, ?_, hJ _ W' w2 none hJ' (grown_of_hp hw2) (fun r e => by cases e), Heap.le_trans hG' (by have := hw2.keep; rwa [snap_heap] at this)⟩, ?_⟩
        · have e9 : z0 - ((k + 1 : Nat) : Int) = z0 - (k : Nat) - 1 := by omega
          rw [e9]
          exact hf2.sub (by (repeat (first | exact Sub.nil _ | refine Sub.cons rfl ?_)))
        · rw [hmu, mu4_eq (b := g.base) hf2 rfl]; omega
      · refine ⟨_, rfl, ?_⟩
        refine listIn_rest (F := snap W') (H := []) (.inl rfl) ?_ (hf1.put rfl _) (hp_snap W')
        refine f_ (s_not rfl) ?_
        refine gl_nil ?_
        refine at_gn ?_
        refine gn_cond rfl (fun _ => ?_) (fun h => absurd h (by decide))
        refine gn_ret ?_
        unfold At
        intro a2 w2 hf2 hw2
        have hb := bodyPost_none (P := Tryz.prog) (fn := Tryz.f113) (R := fun e W' => (∃ v, e = .returned v) ∧ ((∃ ys, (ys = backL g hd m m) ∧ J ys W') ∨ (∃ pre, (∃ k, k ≤ m ∧ pre = backL g hd m k) ∧ Jx pre W'))) rfl hf2 ⟨⟨_, rfl⟩, .inr ⟨_, ⟨k + 1, by omega, rfl⟩, hJx _ W' w2 none hJx' (grown_of_hp hw2) (fun r e => by cases e)⟩⟩
        exact hb.2
    · have hz : z0 - (k : Nat) ≤ g.base := by have := of_decide_eq_false h; omega
      have hkm : k = m := by omega
      refine gn_exit ?_
      unfold At
      intro a2 w2 hf2 hw2
      have hb := bodyPost_none (P := Tryz.prog) (fn := Tryz.f113) (R := fun e W' => (∃ v, e = .returned v) ∧ ((∃ ys, (ys = backL g hd m m) ∧ J ys W') ∨ (∃ pre, (∃ k, k ≤ m ∧ pre = backL g hd m k) ∧ Jx pre W'))) rfl hf2 ⟨⟨_, rfl⟩, .inl ⟨_, rfl, by have h9 := hJ _ w w2 none hJk (grown_of_hp hw2) (fun r e => by cases e); have e9 : backL g hd m k = backL g hd m m := congrArg _ hkm; rw [← e9]; exact h9⟩⟩
      exact hb.1
end Go.Proofs.YtodcghipfolejaaGreat
