/- A disk in plain words: files by rising names, calls, and what they do. -/
import Derived.Test.YtolgclfbllcjhaaLIn
namespace Go.Proofs.Ytolgclfbllcjhaa
open Go Go.Sl
set_option linter.unusedVariables false
set_option linter.unusedSimpArgs false

abbrev Bs := List UInt8
abbrev Fl := Bs × Bs
def ltB (a b : Bs) : Bool := Op.bytesLess a b
theorem ltB_irrefl : ∀ a : Bs, ltB a a = false
  | [] => rfl
  | a :: l => by
    have := ltB_irrefl l
    simp only [ltB] at *
    simp [Op.bytesLess, this]
theorem ltB_trans : ∀ {a b c : Bs}, ltB a b = true → ltB b c = true → ltB a c = true
  | [], _, [], _, h => by simp [ltB, Op.bytesLess] at h
  | [], _, c :: z, _, _ => rfl
  | a :: x, [], _, h, _ => by simp [ltB, Op.bytesLess] at h
  | a :: x, b :: y, [], _, h => by simp [ltB, Op.bytesLess] at h
  | a :: x, b :: y, c :: z, h, k => by
    have ih := @ltB_trans x y z
    simp only [ltB, Op.bytesLess, Bool.or_eq_true, decide_eq_true_eq, Bool.and_eq_true, beq_iff_eq] at *
    rcases h with h | ⟨rfl, h⟩ <;> rcases k with k | ⟨rfl, k⟩
    · exact .inl (UInt8.lt_trans h k)
    · exact .inl h
    · exact .inl k
    · exact .inr ⟨rfl, ih h k⟩
theorem ltB_total : ∀ {a b : Bs}, a ≠ b → ltB a b = false → ltB b a = true
  | [], [], h, _ => absurd rfl h
  | [], b :: y, _, h => by simp [ltB, Op.bytesLess] at h
  | a :: x, [], _, _ => rfl
  | a :: x, b :: y, h, k => by
    have ih := @ltB_total x y
    simp only [ltB, Op.bytesLess, Bool.or_eq_true, Bool.or_eq_false_iff, decide_eq_true_eq, decide_eq_false_iff_not, Bool.and_eq_true, Bool.and_eq_false_iff, beq_iff_eq, beq_eq_false_iff_ne] at *
    obtain ⟨k1, k2⟩ := k
    by_cases e : a = b
    · subst e
      refine .inr ⟨rfl, ih (fun e2 => h (by rw [e2])) ?_⟩
      rcases k2 with k2 | k2
      · exact absurd rfl k2
      · exact k2
    · left
      have h1 := UInt8.not_lt.1 k1
      exact UInt8.lt_of_le_of_ne h1 (Ne.symm e)
theorem ltB_asymm {a b : Bs} (h : ltB a b = true) : ltB b a = false := by
  cases e : ltB b a
  · rfl
  · have := ltB_trans h e; rw [ltB_irrefl] at this; cases this
theorem ltB_ne {a b : Bs} (h : ltB a b = true) : a ≠ b := by rintro rfl; rw [ltB_irrefl] at h; cases h

def Srt (l : List Fl) : Prop := l.Pairwise fun a b => ltB a.1 b.1 = true
def getL (l : List Fl) (n : Bs) : Option Bs := (l.find? fun f => decide (f.1 = n)).map (·.2)
def withoutL (l : List Fl) (n : Bs) : List Fl := l.filter fun f => decide (f.1 ≠ n)
def insL (f : Fl) : List Fl → List Fl
  | [] => [f]
  | g :: r => if ltB f.1 g.1 = true then f :: g :: r else g :: insL f r
def withL (l : List Fl) (n s : Bs) : List Fl := insL (n, s) (withoutL l n)
def usedL (l : List Fl) : Nat := (l.map fun f => f.2.length).sum

theorem srt_without {l : List Fl} (h : Srt l) (n : Bs) : Srt (withoutL l n) := List.Pairwise.filter _ h
theorem ins_perm (f : Fl) : ∀ l : List Fl, (insL f l).Perm (f :: l)
  | [] => .refl _
  | g :: r => by
    unfold insL
    split
    · exact .refl _
    · exact ((ins_perm f r).cons g).trans (.swap ..)
theorem srt_ins {f : Fl} : ∀ {l : List Fl}, Srt l → (∀ g ∈ l, g.1 ≠ f.1) → Srt (insL f l)
  | [], _, _ => by simp [insL, Srt]
  | g :: r, h, hn => by
    obtain ⟨h1, h2⟩ := List.pairwise_cons.1 h
    unfold insL
    split
    · rename_i hlt
      refine List.pairwise_cons.2 ⟨fun x hx => ?_, h⟩
      rcases List.mem_cons.1 hx with rfl | hx
      · exact hlt
      · exact ltB_trans hlt (h1 x hx)
    · rename_i hlt
      have hgf : ltB g.1 f.1 = true := ltB_total (Ne.symm (hn g (.head _))) (by simpa using hlt)
      refine List.pairwise_cons.2 ⟨fun x hx => ?_, srt_ins h2 (fun y hy => hn y (.tail _ hy))⟩
      rcases List.mem_cons.1 ((ins_perm f r).mem_iff.1 hx) with rfl | hx
      · exact hgf
      · exact h1 x hx
theorem without_ne {l : List Fl} {n : Bs} : ∀ g ∈ withoutL l n, g.1 ≠ n := fun g hg => by
  have := (List.mem_filter.1 hg).2
  simpa using this
theorem srt_with {l : List Fl} (h : Srt l) (n s : Bs) : Srt (withL l n s) := srt_ins (srt_without h n) without_ne
/-- what stands at a name, and the rest -/
theorem get_none {l : List Fl} {n : Bs} (h : getL l n = none) : withoutL l n = l ∧ ∀ f ∈ l, f.1 ≠ n := by
  have h1 : ∀ f ∈ l, f.1 ≠ n := by
    have : (l.find? fun f => decide (f.1 = n)) = none := by simpa [getL] using h
    intro f hf
    have := List.find?_eq_none.1 this f hf
    simpa using this
  exact ⟨List.filter_eq_self.2 (fun f hf => by have := h1 f hf; simpa using this), h1⟩
theorem srt_one {l : List Fl} (h : Srt l) {f g : Fl} (hf : f ∈ l) (hg : g ∈ l) (e : f.1 = g.1) : f = g := by
  induction l with
  | nil => cases hf
  | cons x r ih =>
    obtain ⟨h1, h2⟩ := List.pairwise_cons.1 h
    rcases List.mem_cons.1 hf with e1 | hf' <;> rcases List.mem_cons.1 hg with e2 | hg'
    · rw [e1, e2]
    · rw [e1] at e; exact absurd e (ltB_ne (h1 g hg'))
    · rw [e2] at e; exact absurd e.symm (ltB_ne (h1 f hf'))
    · exact ih h2 hf' hg' 
theorem get_some {l : List Fl} (hs : Srt l) {n s : Bs} (h : getL l n = some s) : (n, s) ∈ l ∧ l.Perm ((n, s) :: withoutL l n) := by
  have h1 : (n, s) ∈ l := by
    simp only [getL, Option.map_eq_some_iff] at h
    obtain ⟨f, hf, rfl⟩ := h
    have h2 := List.find?_some hf
    have h3 := List.mem_of_find?_eq_some hf
    simp only [decide_eq_true_eq] at h2
    rw [← h2]; exact h3
  refine ⟨h1, ?_⟩
  clear h
  induction l with
  | nil => cases h1
  | cons x r ih =>
    obtain ⟨h2, h3⟩ := List.pairwise_cons.1 hs
    rcases List.mem_cons.1 h1 with rfl | h1
    · have : withoutL ((n, s) :: r) n = r := by
        have e : withoutL ((n, s) :: r) n = withoutL r n := by simp [withoutL]
        rw [e]
        exact List.filter_eq_self.2 (fun f hf => by have h9 : f.1 ≠ n := Ne.symm (ltB_ne (h2 f hf)); simpa using h9)
      rw [this]
    · have hne : x.1 ≠ n := ltB_ne (h2 _ h1)
      have e : withoutL (x :: r) n = x :: withoutL r n := by simp [withoutL, hne]
      rw [e]
      exact ((ih h3 h1).cons x).trans (.swap ..)
theorem get_of_mem {l : List Fl} (hs : Srt l) {n s : Bs} (h : (n, s) ∈ l) : getL l n = some s := by
  cases e : getL l n with
  | none => exact absurd rfl ((get_none e).2 _ h)
  | some t =>
    have := srt_one hs (get_some hs e).1 h rfl
    injection this with _ this
    rw [this]
theorem srt_perm : ∀ {l m : List Fl}, Srt l → Srt m → l.Perm m → l = m
  | [], m, _, _, p => (List.Perm.nil_eq p)
  | a :: l, [], _, _, p => by have := p.length_eq; simp at this
  | a :: l, b :: m, hl, hm, p => by
    obtain ⟨h1, h2⟩ := List.pairwise_cons.1 hl
    obtain ⟨h3, h4⟩ := List.pairwise_cons.1 hm
    have e : a = b := by
      rcases List.mem_cons.1 (p.mem_iff.1 (.head _)) with e | ha
      · exact e
      · rcases List.mem_cons.1 (p.mem_iff.2 (.head _)) with e | hb
        · exact e.symm
        · have q1 := h3 a ha
          have q2 := h1 b hb
          rw [ltB_asymm q1] at q2; cases q2
    subst e
    rw [srt_perm h2 h4 (List.Perm.cons_inv p)]
theorem used_perm {l m : List Fl} (p : l.Perm m) : usedL l = usedL m := (p.map _).sum_nat
theorem used_cons (f : Fl) (l : List Fl) : usedL (f :: l) = f.2.length + usedL l := by simp [usedL]
theorem used_with (l : List Fl) (n s : Bs) : usedL (withL l n s) = s.length + usedL (withoutL l n) := by
  rw [withL, used_perm (ins_perm _ _), used_cons]
theorem used_without {l : List Fl} (hs : Srt l) (n : Bs) : usedL l = ((getL l n).getD []).length + usedL (withoutL l n) := by
  cases e : getL l n with
  | none => rw [(get_none e).1]; simp
  | some s => rw [used_perm (get_some hs e).2, used_cons]; rfl
theorem get_with (l : List Fl) (n s : Bs) (m : Bs) (hs : Srt l) : getL (withL l n s) m = if m = n then some s else getL l m := by
  have hsw := srt_with hs n s
  by_cases e : m = n
  · subst e
    rw [if_pos rfl]
    exact get_of_mem hsw ((ins_perm _ _).mem_iff.2 (.head _))
  · rw [if_neg e]
    cases h : getL l m with
    | some t =>
      refine get_of_mem hsw ((ins_perm _ _).mem_iff.2 (.tail _ ?_))
      refine List.mem_filter.2 ⟨(get_some hs h).1, by simpa using e⟩
    | none =>
      cases h2 : getL (withL l n s) m with
      | none => rfl
      | some t =>
        have h3 := (ins_perm _ _).mem_iff.1 (get_some hsw h2).1
        rcases List.mem_cons.1 h3 with h3 | h3
        · injection h3 with h3 _; exact absurd h3 e
        · exact absurd rfl ((get_none h).2 _ (List.mem_filter.1 h3).1)
theorem get_without (l : List Fl) (n : Bs) (m : Bs) (hs : Srt l) : getL (withoutL l n) m = if m = n then none else getL l m := by
  have hsw := srt_without hs n
  by_cases e : m = n
  · subst e
    rw [if_pos rfl]
    cases h2 : getL (withoutL l m) m with
    | none => rfl
    | some t => exact absurd rfl (without_ne _ (get_some hsw h2).1)
  · rw [if_neg e]
    cases h : getL l m with
    | some t => exact get_of_mem hsw (List.mem_filter.2 ⟨(get_some hs h).1, by simpa using e⟩)
    | none =>
      cases h2 : getL (withoutL l n) m with
      | none => rfl
      | some t => exact absurd rfl ((get_none h).2 _ (List.mem_filter.1 (get_some hsw h2).1).1)

/-! ## calls -/
structure Cl where
  kind : Int
  name : Bs
  s : Bs
deriving DecidableEq
def stepsC (c : Cl) : Nat := if c.kind = 1 then c.s.length else 1
def doneL (l : List Fl) (c : Cl) (k : Nat) : List Fl :=
  if k = 0 then l
  else if c.kind = 1 then withL l c.name ((getL l c.name).getD [] ++ c.s.take k)
  else if c.kind = 2 then withL l c.name c.s
  else withoutL l c.name
theorem srt_done {l : List Fl} (h : Srt l) (c : Cl) (k : Nat) : Srt (doneL l c k) := by
  unfold doneL
  split
  · exact h
  · split
    · exact srt_with h _ _
    · split
      · exact srt_with h _ _
      · exact srt_without h _

/-- a disk -/
structure DM where
  cap : Int
  seen : List Fl
  lasts : List Fl
  pend : List Cl
  fused : Bool
  left : Int
def offD (x : DM) : Bool := x.fused && decide (x.left < 1)
def spendD (x : DM) : DM := if x.fused = true then { x with left := x.left - 1 } else x
def countL (l : List Cl) : Nat := (l.map stepsC).sum
def countD (x : DM) : Nat := countL x.pend
def badName (n : Bs) : Bool := decide (n.length < 1) || decide (80 < n.length)
def fullC (x : DM) (c : Cl) : Bool := decide (x.cap < (usedL (doneL x.seen c (if c.kind = 2 then 1 else stepsC c)) : Nat))
/-- Add, Put, Drop: the error's number -/
def turnE (x : DM) (c : Cl) : Int :=
  if badName c.name = true then 1
  else if offD x = true then 8
  else if c.kind = 3 ∧ getL x.seen c.name = none then 6
  else if c.kind = 1 ∧ c.s = [] then 0
  else if fullC x c = true then 7
  else 0
def turnsD (x : DM) (c : Cl) : Bool := decide (turnE x c = 0) && !(decide (c.kind = 1) && decide (c.s = []))
def turnX (x : DM) (c : Cl) : DM := spendD { x with seen := doneL x.seen c (stepsC c), pend := x.pend ++ [c] }
def turnD (x : DM) (c : Cl) : DM := if turnsD x c = true then turnX x c else x
def syncE (x : DM) : Int := if offD x = true then 8 else 0
def syncD (x : DM) : DM := if offD x = true then x else spendD { x with lasts := x.seen, pend := [] }
def readE (x : DM) (n : Bs) : Int := if offD x = true then 8 else if getL x.seen n = none then 6 else 0
def readS (x : DM) (n : Bs) : Bs := if offD x = true then [] else (getL x.seen n).getD []
def fuseD (x : DM) (n : Int) : DM := { x with fused := decide (0 ≤ n), left := n }
def replay : List Fl → List Cl → Nat → List Fl
  | l, [], _ => l
  | l, c :: r, k => replay (doneL l c (min (stepsC c) k)) r (k - min (stepsC c) k)
def crashE (x : DM) (k : Int) : Int := if k < 0 ∨ (countD x : Int) < k then 1 else 0
def crashD (x : DM) (k : Int) : DM := if k < 0 ∨ (countD x : Int) < k then x else
  { x with seen := replay x.lasts x.pend k.toNat, lasts := replay x.lasts x.pend k.toNat, pend := [], fused := false }

/-- a call that is pending: what it is, and that it fits -/
structure CIn (cap : Int) (c : Cl) : Prop where
  kind : c.kind = 1 ∨ c.kind = 2 ∨ c.kind = 3
  name : badName c.name = false
  s : (c.s.length : Int) ≤ cap
  pos : 0 < stepsC c
/-- what is true of every disk -/
structure Inv (x : DM) : Prop where
  cap : 0 ≤ x.cap ∧ x.cap ≤ 1048576
  seen : Srt x.seen
  lasts : Srt x.lasts
  used : (usedL x.seen : Int) ≤ x.cap
  all : ∀ k, (usedL (replay x.lasts x.pend k) : Int) ≤ x.cap
  at_ : ∀ k, countD x ≤ k → replay x.lasts x.pend k = x.seen
  pend : ∀ c ∈ x.pend, CIn x.cap c
  left : -9223372036854775808 ≤ x.left ∧ x.left ≤ 9223372036854775807
theorem replay_snoc : ∀ (l : List Fl) (p : List Cl) (c : Cl) (k : Nat), replay l (p ++ [c]) k = doneL (replay l p k) c (min (stepsC c) (k - countL p))
  | l, [], c, k => by simp [replay, countL]
  | l, a :: p, c, k => by
    rw [List.cons_append, replay, replay, replay_snoc _ p]
    congr 2
    have : countL (a :: p) = stepsC a + countL p := by simp [countL]
    rw [this]; omega
theorem srt_replay : ∀ {l : List Fl}, Srt l → ∀ (p : List Cl) (k : Nat), Srt (replay l p k)
  | _, h, [], _ => h
  | _, h, _ :: p, _ => srt_replay (srt_done h _ _) p _
theorem done_zero (l : List Fl) (c : Cl) : doneL l c 0 = l := by simp [doneL]
theorem done_some (l : List Fl) (c : Cl) {k : Nat} (hk : k ≠ 0) (h : c.kind ≠ 1) : doneL l c k = doneL l c 1 := by
  unfold doneL; simp [hk, h]
theorem used_done_le {l : List Fl} (hs : Srt l) (c : Cl) (k : Nat) : usedL (doneL l c (min (stepsC c) k)) ≤ max (usedL l) (usedL (doneL l c (stepsC c))) := by
  by_cases hk : min (stepsC c) k = 0
  · rw [hk, done_zero]; omega
  · by_cases h1 : c.kind = 1
    · have hs0 : stepsC c ≠ 0 := by omega
      have e : ∀ j, j ≠ 0 → doneL l c j = withL l c.name ((getL l c.name).getD [] ++ c.s.take j) := fun j hj => by simp [doneL, hj, h1]
      rw [e _ hk, e _ hs0, used_with, used_with]
      simp only [List.length_append, List.length_take]
      omega
    · have : stepsC c = 1 := by simp [stepsC, h1]
      rw [done_some l c hk h1, this]
      omega
theorem used_full {x : DM} (c : Cl) (hk : c.kind = 1 ∨ c.kind = 2 ∨ c.kind = 3) (h : fullC x c = false) : (usedL (doneL x.seen c (stepsC c)) : Int) ≤ x.cap := by
  have h1 : (if c.kind = 2 then 1 else stepsC c) = stepsC c := by
    by_cases e : c.kind = 2
    · simp [e, stepsC]
    · simp [e]
  rw [fullC, h1, decide_eq_false_iff_not] at h
  omega
theorem spend_inv {x : DM} (h : Inv x) (ho : offD x = false) : Inv (spendD x) := by
  unfold spendD
  split
  · rename_i hf
    refine ⟨h.cap, h.seen, h.lasts, h.used, h.all, h.at_, h.pend, ?_⟩
    have := h.left
    simp only [offD, hf, Bool.true_and, decide_eq_false_iff_not] at ho
    simp only; omega
  · exact h
theorem turnsD_iff {x : DM} {c : Cl} : turnsD x c = true ↔ badName c.name = false ∧ offD x = false ∧ ¬(c.kind = 3 ∧ getL x.seen c.name = none) ∧ ¬(c.kind = 1 ∧ c.s = []) ∧ fullC x c = false := by
  have key : ∀ (a b f : Bool) (p q : Prop) [Decidable p] [Decidable q] (k : Bool), (k = true ↔ q) → ((decide ((if a = true then (1 : Int) else if b = true then 8 else if p then 6 else if q then 0 else if f = true then 7 else 0) = 0) && !k) = true ↔ a = false ∧ b = false ∧ ¬p ∧ ¬q ∧ f = false) := by
    intro a b f p q _ _ k hk
    by_cases hp : p <;> by_cases hq : q <;> cases a <;> cases b <;> cases f <;> simp_all
  exact key (badName c.name) (offD x) (fullC x c) (c.kind = 3 ∧ getL x.seen c.name = none) (c.kind = 1 ∧ c.s = []) (decide (c.kind = 1) && decide (c.s = [])) (by simp)
theorem turn_inv {x : DM} (h : Inv x) {c : Cl} (hk : c.kind = 1 ∨ c.kind = 2 ∨ (c.kind = 3 ∧ c.s = [])) : Inv (turnD x c) := by
  unfold turnD
  split
  · rename_i ht
    obtain ⟨h1, h2, h3, h4, h5⟩ := turnsD_iff.1 ht
    have hk' : c.kind = 1 ∨ c.kind = 2 ∨ c.kind = 3 := hk.imp id (fun h => h.imp id (fun h => h.1))
    have hu := used_full c hk' h5
    have hc : countL (x.pend ++ [c]) = countL x.pend + stepsC c := by simp [countL]
    refine spend_inv ⟨h.cap, srt_done h.seen _ _, h.lasts, hu, fun k => ?_, fun k hkk => ?_, fun a ha => ?_, h.left⟩ h2
    · simp only
      rw [replay_snoc]
      by_cases hge : countL x.pend ≤ k
      · rw [h.at_ k hge]
        have := used_done_le h.seen c (k - countL x.pend)
        have := h.used
        omega
      · have e : k - countL x.pend = 0 := by omega
        rw [e, Nat.min_zero, done_zero]; exact h.all k
    · simp only [countD] at hkk ⊢
      rw [hc] at hkk
      rw [replay_snoc, h.at_ k (by simp only [countD]; omega), Nat.min_eq_left (by omega)]
    · simp only [List.mem_append, List.mem_singleton] at ha
      rcases ha with ha | rfl
      · exact h.pend a ha
      · have hcap : ({ x with seen := doneL x.seen a (stepsC a), pend := x.pend ++ [a] } : DM).cap = x.cap := rfl
        refine ⟨hk', h1, ?_, ?_⟩
        · rw [hcap]
          rcases hk with e | e | e
          · by_cases h0 : a.s = []
            · rw [h0]; have := h.cap.1; simpa using this
            · have hl : 0 < a.s.length := List.length_pos_iff.2 h0
              have : doneL x.seen a (stepsC a) = withL x.seen a.name ((getL x.seen a.name).getD [] ++ a.s.take (stepsC a)) := by
                simp [doneL, stepsC, e, h0]
              rw [this, used_with] at hu
              have e2 : (a.s.take (stepsC a)).length = a.s.length := by simp [stepsC, e]
              rw [List.length_append, e2] at hu
              omega
          · have : doneL x.seen a (stepsC a) = withL x.seen a.name a.s := by simp [doneL, stepsC, e]
            rw [this, used_with] at hu
            omega
          · rw [e.2]; have := h.cap.1; simpa using this
        · unfold stepsC
          split
          · rename_i e
            exact List.length_pos_iff.2 (fun h0 => h4 ⟨e, h0⟩)
          · omega
  · exact h
end Go.Proofs.Ytolgclfbllcjhaa
