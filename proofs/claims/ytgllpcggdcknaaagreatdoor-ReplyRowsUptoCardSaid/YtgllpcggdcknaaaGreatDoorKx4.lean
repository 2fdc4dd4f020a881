import Derived.Test.YtgllpcggdcknaaaGreatDoorKx3
set_option linter.unusedVariables false
set_option linter.unusedSimpArgs false
namespace Go.Proofs.YtgllpcggdcknaaaGreatDoor.Rp
open Go Go.Sl
abbrev Bs := List UInt8
abbrev great : Nat := 9223372036854775807
def isDig (c : UInt8) : Bool := decide (48 ≤ c.toNat) && decide (c.toNat ≤ 57)
def stepV (a : Nat) (c : UInt8) : Nat := 10 * a + (c.toNat - 48)
def valK (a : Nat) (s : Bs) : Nat := s.foldl stepV a
theorem valK_cons (a : Nat) (c : UInt8) (t : Bs) : valK a (c :: t) = valK (stepV a c) t := by unfold valK; rw [List.foldl_cons]
theorem valK_nil (a : Nat) : valK a [] = a := by unfold valK; rw [List.foldl_nil]
def dig (k : Nat) : UInt8 := UInt8.ofNat (48 + k)
def digS (n : Nat) : Bs := if h : n < 10 then [dig n] else digS (n / 10) ++ [dig (n % 10)]
termination_by n
decreasing_by omega
theorem digS_lt {n : Nat} (h : n < 10) : digS n = [dig n] := by rw [digS]; simp [h]
theorem digS_ge {n : Nat} (h : ¬n < 10) : digS n = digS (n / 10) ++ [dig (n % 10)] := by rw [digS]; simp [h]
theorem dig_val {k : Nat} (h : k < 10) : (dig k).toNat = 48 + k := by
 unfold dig
 rw [UInt8.toNat_ofNat']
 omega
theorem dig_is {k : Nat} (h : k < 10) : isDig (dig k) = true := by
 unfold isDig
 rw [dig_val h]
 simp
 omega
theorem valK_append (a : Nat) (x y : Bs) : valK a (x ++ y) = valK (valK a x) y := by unfold valK; rw [List.foldl_append]
theorem val_dig (n : Nat) : valK 0 (digS n) = n := by
 induction n using Nat.strongRecOn with
 | ind n ih =>
  rcases Nat.lt_or_ge n 10 with h | h
  ·rw [digS_lt h]
   simp only [valK_cons, valK_nil, stepV, dig_val h]
   omega
  ·rw [digS_ge (by omega), valK_append, ih (n / 10) (by omega)]
   simp only [valK_cons, valK_nil, stepV, dig_val (Nat.mod_lt n (by omega : 0 < 10))]
   omega
theorem digS_ne (n : Nat) : digS n ≠ [] := by
 rcases Nat.lt_or_ge n 10 with h | h
 ·rw [digS_lt h]; simp
 ·rw [digS_ge (by omega)]; simp
theorem digS_all (n : Nat) : (digS n).all isDig = true := by
 induction n using Nat.strongRecOn with
 | ind n ih =>
  rcases Nat.lt_or_ge n 10 with h | h
  ·rw [digS_lt h]; simp [dig_is h]
  ·rw [digS_ge (by omega), List.all_append, ih (n / 10) (by omega)]
   simp [dig_is (Nat.mod_lt n (by omega : 0 < 10))]
def numS (w : Bs) : Option Nat := if digS (valK 0 w) = w ∧ valK 0 w ≤ great then some (valK 0 w) else none
theorem numS_dig {n : Nat} (h : n ≤ great) : numS (digS n) = some n := by simp only [numS, val_dig]; simp [h]
theorem numS_some {w : Bs} {n : Nat} (h : numS w = some n) : w = digS n ∧ n ≤ great := by
 unfold numS at h
 split at h
 ·next k => simp at h; subst h; exact ⟨k.1.symm, k.2⟩
 ·cases h
theorem numS_nil : numS [] = none := by
 unfold numS
 split
 ·next k => exact absurd k.1 (digS_ne _)
 ·rfl
abbrev dgs (s : Bs) : Bs := s.takeWhile isDig
theorem dgs_dig (n : Nat) (r : Bs) (h : ∀ c ∈ r.head?, isDig c = false) : dgs (digS n ++ r) = digS n := by
 have ha := digS_all n
 generalize digS n = w at ha
 induction w with
 | nil =>
  cases r with
  | nil => rfl
  | cons c r => simp [dgs, List.takeWhile_cons, h c z_8]
 | cons c t ih =>
  simp only [List.all_cons, Bool.and_eq_true] at ha
  have := ih ha.2
  simp only [dgs] at this
  simp [dgs, List.takeWhile_cons, ha.1, this]
theorem takeWhile_split (p : UInt8 → Bool) (s : Bs) : s = s.takeWhile p ++ s.drop (s.takeWhile p).length := by
 induction s with
 | nil => rfl
 | cons c t ih =>
  by_cases h : p c = true
  ·simp only [List.takeWhile_cons, h, if_true, List.length_cons, List.drop_succ_cons, List.cons_append]
   rw [← ih]
  ·simp [List.takeWhile_cons, h]
theorem takeWhile_all (p : UInt8 → Bool) (s : Bs) : ∀ c ∈ s.takeWhile p, p c = true := by
 induction s with
 | nil => simp
 | cons c t ih =>
  by_cases h : p c = true
  ·simp only [List.takeWhile_cons, h, if_true]
   intro x hx
   rcases List.mem_cons.mp hx with rfl | hx
   ·exact h
   ·exact ih x hx
  ·simp [List.takeWhile_cons, h]
theorem takeWhile_of (p : UInt8 → Bool) : ∀ (w r : Bs), (∀ c ∈ w, p c = true) → (∀ c ∈ r.head?, p c = false) → (w ++ r).takeWhile p = w
 | [], [], _, _ => rfl
 | [], c :: r, _, h => by simp [List.takeWhile_cons, h c z_8]
 | c :: w, r, hw, h => by
  simp only [List.cons_append, List.takeWhile_cons, hw c z_8, if_true]
  rw [takeWhile_of p w r (fun x hx => hw x (List.mem_cons_of_mem _ hx)) h]
theorem takeWhile_next (p : UInt8 → Bool) (s : Bs) : ∀ c ∈ (s.drop (s.takeWhile p).length).head?, p c = false := by
 induction s with
 | nil => simp
 | cons c t ih =>
  by_cases h : p c = true
  ·simpa only [List.takeWhile_cons, h, if_true, List.length_cons, List.drop_succ_cons] using ih
  ·simp [List.takeWhile_cons, h]
def isAtom (c : UInt8) : Bool := decide (33 ≤ c.toNat) && decide (c.toNat ≤ 126) && !([40, 41, 123, 37, 42, 34, 92, 93] : Bs).contains c
def atomS (s : Bs) : Bool := s.all isAtom && !s.isEmpty
def upC (c : UInt8) : UInt8 := if 97 ≤ c.toNat ∧ c.toNat ≤ 122 then c - 32 else c
def lowC (c : UInt8) : UInt8 := if 65 ≤ c.toNat ∧ c.toNat ≤ 90 then c + 32 else c
def upS (s : Bs) : Bs := s.map upC
def lowS (s : Bs) : Bs := s.map lowC
def quotable (c : UInt8) : Bool := decide (0 < c.toNat) && decide (c.toNat < 128) && !([10, 13] : Bs).contains c
def escC (c : UInt8) : Bs := if c = 34 ∨ c = 92 then [92, c] else [c]
def quoteS (s : Bs) : Option Bs := if s.length ≤ 512 ∧ s.all quotable = true then some (34 :: s.flatMap escC ++ [34]) else none
def uqL (b : Bs) (i : Nat) : Bs → Option (Bs × Nat)
 | [] => none
 | c :: t => if 512 < b.length then none else if c = 34 then some (b, i + 1) else if c = 92 then
   (match t with | [] => none | d :: t' => if d = 34 ∨ d = 92 then uqL (b ++ [d]) (i + 2) t' else none)
  else if quotable c then uqL (b ++ [c]) (i + 1) t else none
theorem uqL_cons (b : Bs) (i : Nat) (c : UInt8) (t : Bs) : uqL b i (c :: t) = if 512 < b.length then none else if c = 34 then some (b, i + 1) else if c = 92 then
   (match t with | [] => none | d :: t' => if d = 34 ∨ d = 92 then uqL (b ++ [d]) (i + 2) t' else none)
  else if quotable c then uqL (b ++ [c]) (i + 1) t else none := uqL.eq_def ..
def uqS : Bs → Option (Bs × Nat)
 | [] => none
 | c :: t => if c = 34 then uqL [] 1 t else none
def literalS (s : Bs) : Bs := 123 :: digS s.length ++ [125, 13, 10] ++ s
def formS (s : Bs) : Bs := if atomS s = true ∧ s.length ≤ 512 ∧ upS s ≠ [78, 73, 76] then s else (quoteS s).getD (literalS s)
def boxC (c : UInt8) : Bool := decide (32 ≤ c.toNat) && decide (c.toNat ≤ 126) && !([37, 42, 34, 92] : Bs).contains c
def boxP (s : Bs) : Bool := !s.isEmpty && s.all boxC && decide (s.length ≤ 64) && decide (s.head? ≠ some 32) && decide (s.getLast? ≠ some 32)
abbrev inbox : Bs := [73, 78, 66, 79, 88]
def boxN (s : Bs) : Option Bs := if boxP s then some (if upS s = inbox then inbox else s) else none
def isBox (s : Bs) : Bool := decide (boxN s = some s)
theorem isBox_p {s : Bs} (h : isBox s = true) : boxP s = true := by
 unfold isBox boxN at h
 simp at h
 exact h.1
theorem boxC_q {c : UInt8} (h : boxC c = true) : quotable c = true ∧ c ≠ 34 ∧ c ≠ 92 ∧ c ≠ 13 := by
 unfold boxC at h
 simp at h
 unfold quotable
 simp
 refine ⟨⟨⟨by omega, by omega⟩, ?_, ?_⟩, h.2.2.2.1, h.2.2.2.2, ?_⟩ <;> (rintro rfl; simp at h)
theorem isAtom_ne {c : UInt8} (h : isAtom c = true) : c ≠ 32 ∧ c ≠ 13 ∧ c ≠ 34 ∧ c ≠ 42 ∧ c ≠ 41 ∧ c ≠ 40 ∧ c ≠ 93 := by
 unfold isAtom at h
 simp at h
 refine ⟨?_, ?_, ?_, ?_, ?_, ?_, ?_⟩ <;> (rintro rfl; simp at h)
theorem flatMap_esc : ∀ (s : Bs), (∀ c ∈ s, c ≠ 34 ∧ c ≠ 92) → s.flatMap escC = s
 | [], _ => rfl
 | c :: t, h => by
  have hc := h c z_8
  rw [List.flatMap_cons, flatMap_esc t (fun x hx => h x (List.mem_cons_of_mem _ hx))]
  simp [escC, hc.1, hc.2]
theorem form_box {s : Bs} (h : isBox s = true) : (formS s = s ∧ atomS s = true) ∨ formS s = 34 :: s ++ [34] := by
 unfold formS
 split
 ·next k => exact .inl ⟨rfl, k.1⟩
 ·right
  have hp := isBox_p h
  unfold boxP at hp
  simp at hp
  have hq : quoteS s = some (34 :: s.flatMap escC ++ [34]) := by
   unfold quoteS
   rw [if_pos ⟨by omega, List.all_eq_true.mpr fun c hc => (boxC_q (hp.1.1.1.2 c hc)).1⟩]
  rw [hq, flatMap_esc s fun c hc => ⟨(boxC_q (hp.1.1.1.2 c hc)).2.1, (boxC_q (hp.1.1.1.2 c hc)).2.2.1⟩]
  rfl
theorem uqL_plain : ∀ (w b : Bs) (i : Nat) (r : Bs), (∀ c ∈ w, quotable c = true ∧ c ≠ 34 ∧ c ≠ 92) → b.length + w.length ≤ 512 → uqL b i (w ++ 34 :: r) = some (b ++ w, i + w.length + 1)
 | [], b, i, r, _, h => by
  simp only [List.nil_append, List.append_nil, List.length_nil, Nat.add_zero] at *
  rw [uqL_cons, if_neg (by omega), if_pos rfl]
 | c :: w, b, i, r, hw, h => by
  have hc := hw c z_8
  simp only [List.length_cons] at h
  rw [List.cons_append, uqL_cons, if_neg (by omega), if_neg hc.2.1, if_neg hc.2.2, if_pos hc.1, uqL_plain w (b ++ [c]) (i + 1) r (fun x hx => hw x (List.mem_cons_of_mem _ hx)) (by simp; omega)]
  simp only [List.append_assoc, List.singleton_append, List.length_cons]
  congr 2
  omega
theorem uqL_some : ∀ (n : Nat) (s b : Bs) (i : Nat) (t : Bs) (m : Nat), s.length ≤ n → uqL b i s = some (t, m) → (∀ c ∈ t, c ≠ 34 ∧ c ≠ 92) → ∃ w r, t = b ++ w ∧ s = w ++ 34 :: r ∧ m = i + w.length + 1
 | _, [], _, _, _, _, _, h, _ => by simp [uqL] at h
 | 0, c :: s, _, _, _, _, hn, _, _ => by simp at hn
 | n + 1, c :: s, b, i, t, m, hn, h, ht => by
  rw [uqL_cons] at h
  split at h
  ·cases h
  split at h
  ·next hc =>
   simp at h
   exact ⟨[], s, by simp [h.1], by simp [hc], by simp [← h.2]⟩
  split at h
  ·exfalso
   split at h
   ·cases h
   ·next d t' =>
    split at h
    ·next hd =>
     have : d ∈ t := by
      have key : ∀ (n : Nat) (s b : Bs) (i : Nat) (t : Bs) (m : Nat), s.length ≤ n → uqL b i s = some (t, m) → ∀ x ∈ b, x ∈ t := by
       intro n
       induction n with
       | zero => intro s b i t m hn h x hx; cases s with | nil => simp [uqL] at h | cons => simp at hn
       | succ n ih =>
        intro s b i t m hn h x hx
        cases s with
        | nil => simp [uqL] at h
        | cons c s =>
         simp only [List.length_cons] at hn
         rw [uqL_cons] at h
         split at h
         ·cases h
         split at h
         ·simp at h; rw [← h.1]; exact hx
         split at h
         ·split at h
          ·cases h
          ·split at h
           ·exact ih _ _ _ _ _ (by simp at hn; omega) h x (List.mem_append_left _ hx)
           ·cases h
         split at h
         ·exact ih _ _ _ _ _ (by omega) h x (List.mem_append_left _ hx)
         ·cases h
      exact key _ _ _ _ _ _ (Nat.le_refl _) h d z_8
     have := ht d this
     rcases hd with rfl | rfl
     ·exact this.1 rfl
     ·exact this.2 rfl
    ·cases h
  split at h
  ·obtain ⟨w, r, h1, h2, h3⟩ := uqL_some n s (b ++ [c]) (i + 1) t m (by simp at hn; omega) h ht
   refine ⟨c :: w, r, by simp [h1], by simp [h2], by simp [h3]; omega⟩
  ·cases h
end Go.Proofs.YtgllpcggdcknaaaGreatDoor.Rp
namespace Go.Proofs.YtgllpcggdcknaaaGreatDoor.Rp
open Go Go.Sl
def ltB (a b : Bs) : Bool := Op.bytesLess a b
theorem ltB_irrefl : ∀ a : Bs, ltB a a = false
 | [] => rfl
 | a :: l => by
  have := ltB_irrefl l
  simp only [ltB] at *
  simp [Op.bytesLess, this]
theorem ltB_trans : ∀ {a b c : Bs}, ltB a b = true → ltB b c = true → ltB a c = true
 | [], _, [], _, h => by simp [ltB, Op.bytesLess] at h
 | [], _, c :: z, _, _ => rfl
 | a :: x, [], _, h, _ => by simp [ltB, Op.bytesLess] at h
 | a :: x, b :: y, [], _, h => by simp [ltB, Op.bytesLess] at h
 | a :: x, b :: y, c :: z, h, k => by
  have ih := @ltB_trans x y z
  simp only [ltB, Op.bytesLess, Bool.or_eq_true, decide_eq_true_eq, Bool.and_eq_true, beq_iff_eq] at *
  rcases h with h | ⟨rfl, h⟩ <;> rcases k with k | ⟨rfl, k⟩
  ·exact .inl (UInt8.lt_trans h k)
  ·exact .inl h
  ·exact .inl k
  ·exact .inr ⟨rfl, ih h k⟩
theorem ltB_total : ∀ {a b : Bs}, a ≠ b → ltB a b = false → ltB b a = true
 | [], [], h, _ => absurd rfl h
 | [], b :: y, _, h => by simp [ltB, Op.bytesLess] at h
 | a :: x, [], _, _ => rfl
 | a :: x, b :: y, hne, h => by
  have ih := @ltB_total x y
  simp only [ltB, Op.bytesLess, Bool.or_eq_false_iff, Bool.or_eq_true, decide_eq_true_eq, decide_eq_false_iff_not, Bool.and_eq_true, Bool.and_eq_false_imp, beq_iff_eq] at *
  rcases Nat.lt_trichotomy a.toNat b.toNat with k | k | k
  ·exact absurd (UInt8.lt_iff_toNat_lt.mpr k) h.1
  ·have e := UInt8.toNat_inj.mp k
   subst e
   exact .inr ⟨rfl, ih (fun e => hne (by rw [e])) (h.2 rfl)⟩
  ·exact .inl (UInt8.lt_iff_toNat_lt.mpr k)
def sysL : List Bs := [[92, 65, 110, 115, 119, 101, 114, 101, 100], [92, 70, 108, 97, 103, 103, 101, 100], [92, 68, 101, 108, 101, 116, 101, 100], [92, 83, 101, 101, 110], [92, 68, 114, 97, 102, 116]]
def placeS (f : Bs) : Nat := sysL.idxOf f
def lessS (a b : Bs) : Bool := if placeS a ≠ placeS b then decide (placeS a < placeS b) else ltB a b
theorem lessS_irrefl (a : Bs) : lessS a a = false := by simp [lessS, ltB_irrefl]
theorem lessS_trans {a b c : Bs} (h : lessS a b = true) (k : lessS b c = true) : lessS a c = true := by
 unfold lessS at *
 split at h <;> split at k <;> split
 ·simp at *; omega
 ·simp at *; omega
 ·simp at *; omega
 ·next x y z => simp at *; omega
 ·simp at *; omega
 ·next x y z => simp at *; omega
 ·next x y z => simp at *; omega
 ·exact ltB_trans h k
theorem lessS_total {a b : Bs} (hne : a ≠ b) (h : lessS a b = false) : lessS b a = true := by
 unfold lessS at *
 split at h
 ·next k =>
  rw [if_pos (fun e => k e.symm)]
  simp at *
  omega
 ·next k =>
  rw [if_neg (fun e => k (fun e' => e e'.symm))]
  exact ltB_total hne h
def canonS (s : Bs) : Option Bs := match sysL.find? (fun f => upS f == upS s) with
 | some f => some f
 | none => if atomS s = true ∧ s.length ≤ 32 then some (lowS s) else none
def insS (f : Bs) : List Bs → List Bs
 | [] => [f]
 | x :: t => if lessS f x then f :: x :: t else x :: insS f t
def withS (l : List Bs) (f : Bs) : List Bs := if f ∈ l then l else insS f l
def canonL : List Bs → Option (List Bs)
 | [] => some []
 | s :: t => match canonS s, canonL t with
  | some c, some l => some (c :: l)
  | _, _ => none
def setS (l : List Bs) : List Bs := l.foldl withS []
def makeR (names : List Bs) : List Bs × Int := match canonL names with
 | none => ([], 4)
 | some l => if 16 < (setS l).length then ([], 7) else (setS l, 0)
abbrev Srt (l : List Bs) : Prop := l.Pairwise fun a b => lessS a b = true
def chain : List Bs → Bool
 | a :: b :: t => lessS a b && chain (b :: t)
 | _ => true
def rightS (l : List Bs) : Bool := l.all (fun f => decide (canonS f = some f)) && chain l && decide (l.length ≤ 16)
theorem chain_srt : ∀ {l : List Bs}, chain l = true → Srt l
 | [], _ => .nil
 | [a], _ => by simp
 | a :: b :: t, h => by
  simp only [chain, Bool.and_eq_true] at h
  have k := chain_srt h.2
  refine .cons (fun x hx => ?_) k
  rcases List.mem_cons.mp hx with rfl | hx
  ·exact h.1
  ·exact lessS_trans h.1 ((List.pairwise_cons.mp k).1 x hx)
theorem srt_chain : ∀ {l : List Bs}, Srt l → chain l = true
 | [], _ => rfl
 | [a], _ => rfl
 | a :: b :: t, h => by
  have k := List.pairwise_cons.mp h
  simp only [chain, Bool.and_eq_true]
  exact ⟨k.1 b z_8, srt_chain k.2⟩
theorem ins_mem (f x : Bs) : ∀ l : List Bs, x ∈ insS f l ↔ x = f ∨ x ∈ l
 | [] => by simp [insS]
 | y :: t => by
  rw [insS]
  split
  ·simp
  ·simp only [List.mem_cons, ins_mem f x t]
   constructor
   ·rintro (h | h | h)
    ·exact .inr (.inl h)
    ·exact .inl h
    ·exact .inr (.inr h)
   ·rintro (h | h | h)
    ·exact .inr (.inl h)
    ·exact .inl h
    ·exact .inr (.inr h)
theorem ins_srt (f : Bs) : ∀ {l : List Bs}, Srt l → f ∉ l → Srt (insS f l)
 | [], _, _ => by simp [insS]
 | y :: t, h, hf => by
  have k := List.pairwise_cons.mp h
  simp only [List.mem_cons, not_or] at hf
  rw [insS]
  split
  ·next hl =>
   refine .cons (fun x hx => ?_) h
   rcases List.mem_cons.mp hx with rfl | hx
   ·exact hl
   ·exact lessS_trans hl (k.1 x hx)
  ·next hl =>
   refine .cons (fun x hx => ?_) (ins_srt f k.2 hf.2)
   rcases (ins_mem f x t).mp hx with rfl | hx
   ·exact lessS_total hf.1 (by simpa using hl)
   ·exact k.1 x hx
theorem with_mem (l : List Bs) (f x : Bs) : x ∈ withS l f ↔ x = f ∨ x ∈ l := by
 unfold withS
 split
 ·next h =>
  constructor
  ·exact .inr
  ·rintro (rfl | h')
   ·exact h
   ·exact h'
 ·exact ins_mem f x l
theorem with_srt {l : List Bs} (h : Srt l) (f : Bs) : Srt (withS l f) := by
 unfold withS
 split
 ·exact h
 ·next k => exact ins_srt f h k
theorem set_aux : ∀ (l acc : List Bs), Srt acc → Srt (l.foldl withS acc) ∧ ∀ x, x ∈ l.foldl withS acc ↔ x ∈ l ∨ x ∈ acc
 | [], acc, h => ⟨h, fun x => by simp⟩
 | f :: t, acc, h => by
  have k := set_aux t (withS acc f) (with_srt h f)
  refine ⟨k.1, fun x => ?_⟩
  rw [List.foldl_cons, k.2, with_mem, List.mem_cons]
  constructor
  ·rintro (h | h | h)
   ·exact .inl (.inr h)
   ·exact .inl (.inl h)
   ·exact .inr h
  ·rintro ((h | h) | h)
   ·exact .inr (.inl h)
   ·exact .inl h
   ·exact .inr (.inr h)
theorem set_srt (l : List Bs) : Srt (setS l) := (set_aux l [] .nil).1
theorem set_mem (l : List Bs) (x : Bs) : x ∈ setS l ↔ x ∈ l := by rw [setS, (set_aux l [] .nil).2]; simp
theorem srt_eq : ∀ {a b : List Bs}, Srt a → Srt b → (∀ x, x ∈ a ↔ x ∈ b) → a = b
 | [], [], _, _, _ => rfl
 | [], y :: t, _, _, h => by have := (h y).mpr z_8; simp at this
 | x :: t, [], _, _, h => by have := (h x).mp z_8; simp at this
 | x :: a, y :: b, ha, hb, h => by
  have ka := List.pairwise_cons.mp ha
  have kb := List.pairwise_cons.mp hb
  have e : x = y := by
   rcases List.mem_cons.mp ((h x).mp z_8) with e | hx
   ·exact e
   ·rcases List.mem_cons.mp ((h y).mpr z_8) with e | hy
    ·exact e.symm
    ·have h1 := kb.1 x hx
     have h2 := ka.1 y hy
     have := lessS_trans h1 h2
     rw [lessS_irrefl] at this
     cases this
  subst e
  congr 1
  refine srt_eq ka.2 kb.2 fun z => ?_
  constructor
  ·intro hz
   rcases List.mem_cons.mp ((h z).mp (List.mem_cons_of_mem _ hz)) with e | hz'
   ·subst e; have := ka.1 z hz; rw [lessS_irrefl] at this; cases this
   ·exact hz'
  ·intro hz
   rcases List.mem_cons.mp ((h z).mpr (List.mem_cons_of_mem _ hz)) with e | hz'
   ·subst e; have := kb.1 z hz; rw [lessS_irrefl] at this; cases this
   ·exact hz'
theorem set_right {l : List Bs} (h : Srt l) : setS l = l := srt_eq (set_srt l) h (set_mem l)
theorem up_low (c : UInt8) : upC (lowC c) = upC c := by
 unfold upC lowC
 have := c.toNat_lt
 split
 ·next h =>
  have e : (c + 32).toNat = c.toNat + 32 := by rw [UInt8.toNat_add]; simp; omega
  rw [e, if_pos (by omega), if_neg (by omega)]
  apply UInt8.toNat_inj.mp
  rw [UInt8.toNat_sub, e]
  simp
  omega
 ·rfl
theorem low_low (c : UInt8) : lowC (lowC c) = lowC c := by
 unfold lowC
 have := c.toNat_lt
 split
 ·next h =>
  have e : (c + 32).toNat = c.toNat + 32 := by rw [UInt8.toNat_add]; simp; omega
  rw [e, if_neg (by omega)]
 ·rfl
theorem upS_low (s : Bs) : upS (lowS s) = upS s := by simp [upS, lowS, up_low]
theorem lowS_low (s : Bs) : lowS (lowS s) = lowS s := by simp [lowS, low_low]
theorem low_atom {c : UInt8} (h : isAtom c = true) : isAtom (lowC c) = true := by
 unfold lowC
 have := c.toNat_lt
 split
 ·next k =>
  have e : (c + 32).toNat = c.toNat + 32 := by rw [UInt8.toNat_add]; simp; omega
  have hne : ∀ d : UInt8, d.toNat < 97 ∨ 122 < d.toNat → c + 32 ≠ d := fun d hd e' => by
   have := congrArg UInt8.toNat e'
   rw [e] at this
   omega
  unfold isAtom
  simp [e]
  refine ⟨⟨by omega, by omega⟩, ?_⟩
  refine ⟨hne _ ?_, hne _ ?_, hne _ ?_, hne _ ?_, hne _ ?_, hne _ ?_, hne _ ?_, hne _ ?_⟩ <;> decide
 ·exact h
theorem atom_low {s : Bs} (h : atomS s = true) : atomS (lowS s) = true := by
 unfold atomS at *
 simp only [Bool.and_eq_true, List.all_eq_true, Bool.not_eq_true', List.isEmpty_eq_false_iff] at *
 refine ⟨fun c hc => ?_, by simpa [lowS] using h.2⟩
 obtain ⟨d, hd, rfl⟩ := List.mem_map.mp hc
 exact low_atom (h.1 d hd)
theorem canon_sys : ∀ f ∈ sysL, canonS f = some f := by decide
theorem canon_canon {s c : Bs} (h : canonS s = some c) : canonS c = some c := by
 unfold canonS at h
 split at h
 ·next f hf =>
  cases h
  exact canon_sys _ (List.mem_of_find?_eq_some hf)
 ·next hf =>
  split at h
  ·next k =>
   cases h
   unfold canonS
   rw [upS_low, hf, lowS_low]
   exact if_pos ⟨atom_low k.1, by simpa [lowS] using k.2⟩
  ·cases h
theorem canon_plain {f : Bs} (h : canonS f = some f) : f ≠ [] ∧ ∀ c ∈ f, c ≠ 32 ∧ c ≠ 41 := by
 unfold canonS at h
 split at h
 ·next g hg =>
  cases h
  exact (by decide : ∀ f ∈ sysL, f ≠ [] ∧ ∀ c ∈ f, c ≠ 32 ∧ c ≠ 41) _ (List.mem_of_find?_eq_some hg)
 ·split at h
  ·next k =>
   have ha := k.1
   unfold atomS at ha
   simp only [Bool.and_eq_true, List.all_eq_true, Bool.not_eq_true', List.isEmpty_eq_false_iff] at ha
   exact ⟨ha.2, fun c hc => ⟨(isAtom_ne (ha.1 c hc)).1, (isAtom_ne (ha.1 c hc)).2.2.2.2.1⟩⟩
  ·cases h
theorem canonL_some : ∀ {l cs : List Bs}, canonL l = some cs → ∀ c ∈ cs, canonS c = some c
 | [], cs, h => by simp [canonL] at h; subst h; simp
 | s :: t, cs, h => by
  rw [canonL] at h
  split at h
  ·next c l hc hl =>
   cases h
   intro x hx
   rcases List.mem_cons.mp hx with rfl | hx
   ·exact canon_canon hc
   ·exact canonL_some hl x hx
  ·cases h
theorem canonL_self : ∀ {l : List Bs}, (∀ f ∈ l, canonS f = some f) → canonL l = some l
 | [], _ => rfl
 | s :: t, h => by rw [canonL, h s z_8, canonL_self fun f hf => h f (List.mem_cons_of_mem _ hf)]
theorem right_of {l : List Bs} (h1 : ∀ f ∈ l, canonS f = some f) (h2 : Srt l) (h3 : l.length ≤ 16) : rightS l = true := by
 unfold rightS
 simp only [Bool.and_eq_true, List.all_eq_true, decide_eq_true_eq]
 exact ⟨⟨h1, srt_chain h2⟩, h3⟩
theorem of_right {l : List Bs} (h : rightS l = true) : (∀ f ∈ l, canonS f = some f) ∧ Srt l ∧ l.length ≤ 16 := by
 unfold rightS at h
 simp only [Bool.and_eq_true, List.all_eq_true, decide_eq_true_eq] at h
 exact ⟨h.1.1, chain_srt h.1.2, h.2⟩
theorem make_right {names l : List Bs} (h : makeR names = (l, 0)) : rightS l = true := by
 unfold makeR at h
 split at h
 ·cases h
 ·next cs hc =>
  split at h
  ·cases h
  ·next k =>
   simp at h
   subst h
   exact right_of (fun f hf => canonL_some hc f ((set_mem cs f).mp hf)) (set_srt cs) (by omega)
theorem right_make {l : List Bs} (h : rightS l = true) : makeR l = (l, 0) := by
 obtain ⟨h1, h2, h3⟩ := of_right h
 unfold makeR
 rw [canonL_self h1]
 simp only [set_right h2]
 rw [if_neg (by omega)]
def joinS (b : Bs) : List Bs → Bs
 | [] => []
 | [x] => x
 | x :: t => x ++ b ++ joinS b t
def printF (l : List Bs) : Bs := 40 :: joinS [32] l ++ [41]
def splitS : Bs → List Bs
 | [] => [[]]
 | c :: t => if c = 32 then [] :: splitS t else match splitS t with
  | [] => [[c]]
  | w :: ws => (c :: w) :: ws
def parseF (s : Bs) : List Bs × Nat × Int :=
 let e := (s.takeWhile fun c => c != 41).length
 if s.head? = some 40 ∧ e < s.length then
  let inner := (s.take e).drop 1
  let m := makeR (if inner = [] then [] else splitS inner)
  if m.2 = 0 then (m.1, e + 1, 0) else ([], 0, m.2)
 else ([], 0, 4)
theorem split_word : ∀ (w : Bs), (∀ c ∈ w, c ≠ 32) → splitS w = [w]
 | [], _ => rfl
 | c :: t, h => by rw [splitS, if_neg (h c z_8), split_word t fun x hx => h x (List.mem_cons_of_mem _ hx)]
theorem split_cons : ∀ (w r : Bs), (∀ c ∈ w, c ≠ 32) → splitS (w ++ 32 :: r) = w :: splitS r
 | [], r, _ => by simp [splitS]
 | c :: t, r, h => by rw [List.cons_append, splitS, if_neg (h c z_8), split_cons t r fun x hx => h x (List.mem_cons_of_mem _ hx)]
theorem split_join : ∀ (l : List Bs), l ≠ [] → (∀ f ∈ l, ∀ c ∈ f, c ≠ 32) → splitS (joinS [32] l) = l
 | [], h, _ => absurd rfl h
 | [x], _, h => split_word x (h x z_8)
 | x :: y :: t, _, h => by
  rw [joinS, List.append_assoc]
  simp only [List.singleton_append]
  rw [split_cons x _ (h x z_8), split_join (y :: t) z_8 fun f hf => h f (List.mem_cons_of_mem _ hf)]
  simp
theorem join_mem (b : Bs) (P : UInt8 → Prop) (hb : ∀ c ∈ b, P c) : ∀ (l : List Bs), (∀ f ∈ l, ∀ c ∈ f, P c) → ∀ c ∈ joinS b l, P c
 | [], _ => by simp [joinS]
 | [x], h => h x z_8
 | x :: y :: t, h => by
  rw [joinS]
  ·intro c hc
   rcases List.mem_append.mp hc with hc | hc
   ·rcases List.mem_append.mp hc with hc | hc
    ·exact h x z_8 c hc
    ·exact hb c hc
   ·exact join_mem b P hb (y :: t) (fun f hf => h f (List.mem_cons_of_mem _ hf)) c hc
  ·simp
theorem join_nil {b : Bs} (hb : b ≠ []) : ∀ {l : List Bs}, (∀ f ∈ l, f ≠ []) → joinS b l = [] → l = []
 | [], _, _ => rfl
 | [x], h, e => absurd e (h x z_8)
 | x :: y :: t, h, e => by
  rw [joinS] at e
  ·simp at e; exact absurd e.1 (h x z_8)
  ·simp
theorem parse_print {l : List Bs} (h : rightS l = true) (t : Bs) : parseF (printF l ++ t) = (l, (printF l).length, 0) := by
 obtain ⟨h1, h2, h3⟩ := of_right h
 have hj : ∀ c ∈ joinS [32] l, c ≠ 41 := join_mem [32] _ (by decide) l fun f hf c hc => ((canon_plain (h1 f hf)).2 c hc).2
 have he : (printF l ++ t).takeWhile (fun c => c != 41) = 40 :: joinS [32] l := by
  have : printF l ++ t = (40 :: joinS [32] l) ++ (41 :: t) := by simp [printF]
  rw [this]
  refine takeWhile_of _ _ _ (fun c hc => ?_) z_8
  rcases List.mem_cons.mp hc with rfl | hc
  ·rfl
  ·simpa using hj c hc
 have hl : (printF l).length = (joinS [32] l).length + 2 := by simp [printF]
 unfold parseF
 simp only [he]
 rw [if_pos ⟨by simp [printF], by simp [hl]; omega⟩]
 have hi : ((printF l ++ t).take (40 :: joinS [32] l).length).drop 1 = joinS [32] l := by
  have : printF l ++ t = (40 :: joinS [32] l) ++ (41 :: t) := by simp [printF]
  rw [this, List.take_left']
  ·rfl
  ·rfl
 rw [hi]
 have hs : (if joinS [32] l = [] then [] else splitS (joinS [32] l)) = l := by
  split
  ·next e => exact (join_nil z_8 (fun f hf => (canon_plain (h1 f hf)).1) e).symm
  ·next e =>
   refine split_join l (fun e' => e (by rw [e']; rfl)) fun f hf c hc => ((canon_plain (h1 f hf)).2 c hc).1
 rw [hs, right_make h]
 simp [hl]
theorem parse_right {s : Bs} {l : List Bs} {n : Nat} (h : parseF s = (l, n, 0)) : rightS l = true := by
 unfold parseF at h
 dsimp only at h
 split at h
 ·generalize hm : makeR _ = m at h
  split at h
  ·next k =>
   have h1 : m.1 = l := congrArg (fun q => q.1) h
   exact make_right (hm.trans (Prod.ext h1 k))
  ·next k => exact absurd (congrArg (fun q => q.2.2) h) k
 ·exact absurd (congrArg (fun q => q.2.2) h) z_8
/- the reference's reading -/
end Go.Proofs.YtgllpcggdcknaaaGreatDoor.Rp
namespace Go.Proofs.YtgllpcggdcknaaaGreatDoor.Rp
open Go Go.Sl
structure RV where
  kind : Int
  n : Nat
  flags : List Bs
  text : Bs
  part : Bool
  fr : Nat
abbrev V0 : RV := ⟨0, 0, [], [], false, 0⟩
structure RR where
  kind : Int
  tag : Bs
  code : Bs
  text : Bs
  n : Nat
  nums : List Nat
  mod : Nat
  flags : List Bs
  box : Bs
  values : List RV
abbrev R0 : RR := ⟨0, [], [], [], 0, [], 0, [], [], []⟩
def itemW : List Bs := [[77, 69, 83, 83, 65, 71, 69, 83], [85, 73, 68, 78, 69, 88, 84], [85, 73, 68, 86, 65, 76, 73, 68, 73, 84, 89], [85, 78, 83, 69, 69, 78], [72, 73, 71, 72, 69, 83, 84, 77, 79, 68, 83, 69, 81], [70, 76, 65, 71, 83], [85, 73, 68], [82, 70, 67, 56, 50, 50, 46, 83, 73, 90, 69], [77, 79, 68, 83, 69, 81], [66, 79, 68, 89, 91, 93], [66, 79, 68, 89, 91, 72, 69, 65, 68, 69, 82, 93], [66, 79, 68, 89, 91, 84, 69, 88, 84, 93]]
def statW : List Bs := [[79, 75], [78, 79], [66, 65, 68], [66, 89, 69]]
abbrev caps : Bs := [42, 32, 67, 65, 80, 65, 66, 73, 76, 73, 84, 89, 32, 73, 77, 65, 80, 52, 114, 101, 118, 49, 32, 69, 78, 65, 66, 76, 69, 32, 67, 79, 78, 68, 83, 84, 79, 82, 69]
abbrev enab : Bs := [42, 32, 69, 78, 65, 66, 76, 69, 68, 32, 67, 79, 78, 68, 83, 84, 79, 82, 69]
abbrev crlf : Bs := [13, 10]
abbrev wModseq : Bs := [40, 77, 79, 68, 83, 69, 81, 32]
abbrev wExists : Bs := [32, 69, 88, 73, 83, 84, 83]
abbrev wExpunge : Bs := [32, 69, 88, 80, 85, 78, 71, 69]
abbrev wFetch : Bs := [32, 70, 69, 84, 67, 72, 32]
abbrev wFlags : Bs := [70, 76, 65, 71, 83, 32]
abbrev wList : Bs := [76, 73, 83, 84, 32, 40, 41, 32, 34, 47, 34, 32]
abbrev wSearch : Bs := [83, 69, 65, 82, 67, 72]
abbrev wStatus : Bs := [83, 84, 65, 84, 85, 83, 32]
structure RS where
  p : Nat
  ok : Bool
def eatS (s w : Bs) (st : RS) : Bool × RS := if st.ok = true ∧ w.isPrefixOf (s.drop st.p) = true then (true, ⟨st.p + w.length, st.ok⟩) else (false, st)
def needS (s w : Bs) (st : RS) : RS := ⟨(eatS s w st).2.p, (eatS s w st).1⟩
def stopW (stops : Bs) (r : Bs) : Bs := r.takeWhile fun c => !stops.contains c
def untilS (s stops : Bs) (st : RS) : Bs × RS := if st.ok = true then (stopW stops (s.drop st.p), ⟨st.p + (stopW stops (s.drop st.p)).length, st.ok⟩) else ([], st)
def numW (s : Bs) (st : RS) : Bs := if st.ok = true then dgs (s.drop st.p) else []
def numberS (s : Bs) (st : RS) : Nat × RS := ((numS (numW s st)).getD 0, ⟨st.p + (numW s st).length, st.ok && (numS (numW s st)).isSome⟩)
def flagsS (s : Bs) (st : RS) : List Bs × RS := if st.ok = true then
    (let q := parseF (s.drop st.p); if q.2.2 = 0 then (q.1, needS s (printF q.1) st) else (q.1, ⟨st.p, false⟩))
  else ([], st)
def boxT (s : Bs) (st : RS) : Bs × RS :=
  let u := untilS s [32, 13] st
  if ([34] : Bs).isPrefixOf u.1 = true then
    (let q := (uqS (s.drop st.p)).getD ([], 0)
     (q.1, ⟨st.p + q.2, (uqS (s.drop st.p)).isSome && ([34] : Bs).isPrefixOf (formS q.1)⟩))
  else (u.1, ⟨u.2.p, decide (formS u.1 = u.1)⟩)
def boxS (s : Bs) (st : RS) : Bs × RS := if st.ok = true then
    (let t := boxT s st
     let b := (boxN t.1).getD []
     (b, ⟨t.2.p, t.2.ok && (boxN t.1).isSome && decide (b = t.1)⟩))
  else ([], st)
def litS (s : Bs) (st : RS) : Bs × RS :=
  let st1 := needS s [123] st
  let n := (numberS s st1).1
  let st3 := needS s [125, 13, 10] (numberS s st1).2
  if st3.ok = true ∧ n ≤ 4096 ∧ n ≤ s.length - st3.p then ((s.drop st3.p).take n, ⟨st3.p + n, st3.ok⟩) else ([], ⟨st3.p, false⟩)
def isPlain (c : UInt8) : Bool := decide (32 ≤ c.toNat) && decide (c.toNat ≤ 126)
def plainS (t : Bs) : Bool := t.all isPlain && !t.isEmpty && decide (t.length ≤ 512)
def rowsL (s : Bs) (one : RS → RV × RS) : Nat → List RV → RS → List RV × RS
  | 0, l, st => (l, (eatS s [32] st).2)
  | k + 1, l, st => if (eatS s [32] st).1 = true then rowsL s one k (l ++ [(one (eatS s [32] st).2).1]) (one (eatS s [32] st).2).2 else (l, (eatS s [32] st).2)
def rowsS (s : Bs) (one : RS → RV × RS) (st : RS) : List RV × RS :=
  let a := one (needS s [40] st)
  let q := rowsL s one 10 [a.1] a.2
  let e := needS s [41] q.2
  (q.1, ⟨e.p, e.ok && decide (q.1.length ≤ 10)⟩)
def countK (w : Bs) : Nat := if itemW.idxOf w < 5 then itemW.idxOf w + 1 else 0
def fetchK (w : Bs) : Nat := if 5 ≤ itemW.idxOf w ∧ itemW.idxOf w < 12 then itemW.idxOf w + 1 else 0
def countedS (s : Bs) (st : RS) : RV × RS :=
  let u := untilS s [32, 13] st
  let st2 := needS s [32] u.2
  if countK u.1 = 0 then (V0, ⟨st2.p, false⟩) else (⟨countK u.1, (numberS s st2).1, [], [], false, 0⟩, (numberS s st2).2)
def partS (s : Bs) (k : Nat) (st : RS) : (Bool × Nat) × RS :=
  if 10 ≤ k ∧ (eatS s [60] st).1 = true then ((true, (numberS s (eatS s [60] st).2).1), needS s [62] (numberS s (eatS s [60] st).2).2) else ((false, 0), st)
def fetchedS (s : Bs) (st : RS) : RV × RS :=
  let u := untilS s [32, 60, 13] st
  let k := fetchK u.1
  let q := partS s k u.2
  let st4 := needS s [32] q.2
  if k = 0 then (⟨0, 0, [], [], q.1.1, q.1.2⟩, ⟨st4.p, false⟩)
  else if k = 6 then (⟨6, 0, (flagsS s st4).1, [], q.1.1, q.1.2⟩, (flagsS s st4).2)
  else if k = 9 then (let m := numberS s (needS s [40] st4); (⟨9, m.1, [], [], q.1.1, q.1.2⟩, needS s [41] m.2))
  else if k = 7 ∨ k = 8 then (⟨k, (numberS s st4).1, [], [], q.1.1, q.1.2⟩, (numberS s st4).2)
  else (⟨k, 0, [], (litS s st4).1, q.1.1, q.1.2⟩, (litS s st4).2)
def statK (w : Bs) : Nat := if statW.idxOf w < 4 then statW.idxOf w + 1 else 0
def codeS (s : Bs) (st : RS) : Bs × RS :=
  if (eatS s [91] st).1 = true then
    (let u := untilS s [93, 13] (eatS s [91] st).2
     let e := needS s [93, 32] u.2
     (u.1, ⟨e.p, e.ok && plainS u.1⟩))
  else ([], (eatS s [91] st).2)
def toldS (s tag : Bs) (st : RS) : RR × RS :=
  let u := untilS s [32, 13] st
  let c := codeS s (needS s [32] u.2)
  let x := untilS s [13] c.2
  (⟨statK u.1, tag, c.1, x.1, 0, [], 0, [], [], []⟩, ⟨x.2.p, x.2.ok && decide (0 < statK u.1) && plainS x.1 && decide (x.1.head? ≠ some 91) && (decide (statK u.1 ≠ 4) || decide (tag = [42]))⟩)
def searchL (s : Bs) : Nat → List Nat → RS → (List Nat × Nat) × RS
  | 0, l, st => ((l, 0), st)
  | k + 1, l, st => if (eatS s [32] st).1 = true then
      (if (eatS s wModseq (eatS s [32] st).2).1 = true then
        (let m := numberS s (eatS s wModseq (eatS s [32] st).2).2
         let e := needS s [41] m.2
         ((l, m.1), ⟨e.p, e.ok && decide (0 < m.1)⟩))
      else searchL s k (l ++ [(numberS s (eatS s [32] st).2).1]) (numberS s (eatS s [32] st).2).2)
    else ((l, 0), st)
def searchS (s : Bs) (st : RS) : RR × RS :=
  let q := searchL s (s.length + 1) [] st
  (⟨13, [], [], [], 0, q.1.1, q.1.2, [], [], []⟩, ⟨q.2.p, q.2.ok && decide (q.1.1.length ≤ 64)⟩)
def numbered (s : Bs) (st : RS) : RR × RS :=
  let m := numberS s st
  if (eatS s wExists m.2).1 = true then (⟨8, [], [], [], m.1, [], 0, [], [], []⟩, (eatS s wExists m.2).2)
  else if (eatS s wExpunge m.2).1 = true then (⟨9, [], [], [], m.1, [], 0, [], [], []⟩, (eatS s wExpunge m.2).2)
  else (let q := rowsS s (fetchedS s) (needS s wFetch m.2); (⟨14, [], [], [], m.1, [], 0, [], [], q.1⟩, q.2))
def untaggedS (s : Bs) (st : RS) : RR × RS :=
  if (eatS s wFlags st).1 = true then (⟨10, [], [], [], 0, [], 0, (flagsS s (eatS s wFlags st).2).1, [], []⟩, (flagsS s (eatS s wFlags st).2).2)
  else if (eatS s wList st).1 = true then (⟨11, [], [], [], 0, [], 0, [], (boxS s (eatS s wList st).2).1, []⟩, (boxS s (eatS s wList st).2).2)
  else if (eatS s wSearch st).1 = true then searchS s (eatS s wSearch st).2
  else if (eatS s wStatus st).1 = true then
    (let b := boxS s (eatS s wStatus st).2
     let q := rowsS s (countedS s) (needS s [32] b.2)
     (⟨12, [], [], [], 0, [], 0, [], b.1, q.1⟩, q.2))
  else if (s.drop st.p).head?.any isDig = true then numbered s st
  else toldS s [42] st
def restS (s : Bs) (st : RS) : RR × RS :=
  if (eatS s [43, 32] st).1 = true then
    (let u := untilS s [13] (eatS s [43, 32] st).2
     (⟨5, [], [], u.1, 0, [], 0, [], [], []⟩, ⟨u.2.p, plainS u.1⟩))
  else if (eatS s [42, 32] st).1 = true then untaggedS s (eatS s [42, 32] st).2
  else
    (let u := untilS s [32, 13] st
     let e := needS s [32] u.2
     toldS s u.1 ⟨e.p, e.ok && atomS u.1 && decide (u.1.length ≤ 32) && !u.1.contains 43⟩)
def readS (s : Bs) : Option (RR × Nat) :=
  let st : RS := ⟨0, true⟩
  if (eatS s (caps ++ crlf) st).1 = true then some (⟨6, [], [], [], 0, [], 0, [], [], []⟩, (eatS s (caps ++ crlf) st).2.p)
  else if (eatS s (enab ++ crlf) st).1 = true then some (⟨7, [], [], [], 0, [], 0, [], [], []⟩, (eatS s (enab ++ crlf) st).2.p)
  else
    (let q := restS s st
     let e := needS s crlf q.2
     if e.ok = true then some (q.1, e.p) else none)
def itemA (k : Nat) : Bs := itemW.getD (k - 1) []
def partP (v : RV) : Bs := if v.part = true then 60 :: digS v.fr ++ [62] else []
def valueP (v : RV) : Bs :=
  if v.kind < 6 ∨ 12 < v.kind then []
  else if v.kind = 6 then itemA 6 ++ 32 :: printF v.flags
  else if v.kind = 9 then itemA 9 ++ [32, 40] ++ digS v.n ++ [41]
  else if v.kind < 10 then itemA v.kind.toNat ++ 32 :: digS v.n
  else itemA v.kind.toNat ++ partP v ++ 32 :: literalS v.text
def countP (v : RV) : Bs := itemA v.kind.toNat ++ 32 :: digS v.n
def cellsP (r : RR) : List Bs := r.values.flatMap fun v => if r.kind = 14 then [valueP v] else if 1 ≤ v.kind ∧ v.kind ≤ 5 then [countP v] else []
def codeP (c : Bs) : Bs := if c = [] then [] else 91 :: c ++ [93, 32]
def numsP (l : List Nat) : Bs := l.flatMap fun n => 32 :: digS n
def modP (m : Nat) : Bs := if m = 0 then [] else 32 :: wModseq ++ digS m ++ [41]
def textP (r : RR) : Bs :=
  if 1 ≤ r.kind ∧ r.kind ≤ 4 then r.tag ++ 32 :: statW.getD (r.kind.toNat - 1) [] ++ 32 :: codeP r.code ++ r.text
  else if r.kind = 5 then 43 :: 32 :: r.text
  else if r.kind = 6 then caps
  else if r.kind = 7 then enab
  else if r.kind = 8 then 42 :: 32 :: digS r.n ++ wExists
  else if r.kind = 9 then 42 :: 32 :: digS r.n ++ wExpunge
  else if r.kind = 10 then 42 :: 32 :: wFlags ++ printF r.flags
  else if r.kind = 11 then 42 :: 32 :: wList ++ formS r.box
  else if r.kind = 13 then 42 :: 32 :: wSearch ++ numsP r.nums ++ modP r.mod
  else if r.kind = 14 then 42 :: 32 :: digS r.n ++ wFetch ++ 40 :: joinS [32] (cellsP r) ++ [41]
  else 42 :: 32 :: wStatus ++ formS r.box ++ 32 :: 40 :: joinS [32] (cellsP r) ++ [41]
def bareP (v : RV) : Bool := v.text.isEmpty && decide (v.fr = 0) && !v.part
def okV (v : RV) : Bool := decide (6 ≤ v.kind ∧ v.kind ≤ 12 ∧ v.n ≤ great ∧ v.fr ≤ great) &&
  if v.kind = 6 then rightS v.flags && decide (v.n = 0) && bareP v
  else if v.kind ≤ 9 then v.flags.isEmpty && bareP v
  else decide (v.text.length ≤ 4096 ∧ v.n = 0) && v.flags.isEmpty && (v.part || decide (v.fr = 0))
def okC (v : RV) : Bool := decide (1 ≤ v.kind ∧ v.kind ≤ 5 ∧ v.n ≤ great) && v.flags.isEmpty && bareP v
def tagP (t : Bs) : Bool := atomS t && !t.contains 43 && decide (t.length ≤ 32)
def codeOk (c : Bs) : Bool := c.isEmpty || (plainS c && !c.contains 93)
def onlyB (r : RR) (t c x n l f b v m : Bool) : Bool :=
  (t || r.tag.isEmpty) && (c || r.code.isEmpty) && (x || r.text.isEmpty) && (n || decide (r.n = 0)) && (l || r.nums.isEmpty) && (f || r.flags.isEmpty) && (b || r.box.isEmpty) && (v || r.values.isEmpty) && (m || decide (r.mod = 0))
def okR (r : RR) : Bool :=
  if 1 ≤ r.kind ∧ r.kind ≤ 4 then onlyB r true true true false false false false false false && plainS r.text && decide (r.text.head? ≠ some 91) && codeOk r.code && (decide (r.tag = [42]) || (decide (r.kind < 4) && tagP r.tag))
  else if r.kind = 5 then onlyB r false false true false false false false false false && plainS r.text
  else if r.kind = 6 ∨ r.kind = 7 then onlyB r false false false false false false false false false
  else if r.kind = 8 ∨ r.kind = 9 then onlyB r false false false true false false false false false && decide (r.n ≤ great)
  else if r.kind = 10 then onlyB r false false false false false true false false false && rightS r.flags
  else if r.kind = 11 then onlyB r false false false false false false true false false && isBox r.box
  else if r.kind = 12 then (decide (1 ≤ r.values.length ∧ r.values.length ≤ 10) && r.values.all okC) && onlyB r false false false false false false true true false && isBox r.box
  else if r.kind = 13 then onlyB r false false false false true false false false true && decide (r.nums.length ≤ 64) && decide (r.mod ≤ great) && r.nums.all (fun n => decide (n ≤ great))
  else if r.kind = 14 then (decide (1 ≤ r.values.length ∧ r.values.length ≤ 10) && r.values.all okV) && onlyB r false false false true false false false true false && decide (r.n ≤ great)
  else false
end Go.Proofs.YtgllpcggdcknaaaGreatDoor.Rp
namespace Go.Proofs.YtgllpcggdcknaaaGreatDoor.Rp
open Go Go.Sl
structure Stp (s : Bs) (a b : RS) (w : Bs) : Prop where
 ok : a.ok = true
 ok' : b.ok = true
 rest : s.drop a.p = w ++ s.drop b.p
 at' : b.p = a.p + w.length
theorem Stp.trans {s : Bs} {a b c : RS} {v w : Bs} (h : Stp s a b v) (k : Stp s b c w) : Stp s a c (v ++ w) :=
 ⟨h.ok, k.ok', by rw [h.rest, k.rest, List.append_assoc], by rw [k.at', h.at', List.length_append, Nat.add_assoc]⟩
theorem Stp.to {s : Bs} {a b : RS} {v w : Bs} (h : Stp s a b v) (e : v = w) : Stp s a b w := e ▸ h
theorem Stp.mk' {s : Bs} {a : RS} {w : Bs} (h : a.ok = true) (hw : w.isPrefixOf (s.drop a.p) = true) : Stp s a ⟨a.p + w.length, a.ok⟩ w := by
 refine ⟨h, h, ?_, rfl⟩
 obtain ⟨t, ht⟩ := List.isPrefixOf_iff_prefix.mp hw
 rw [← List.drop_drop, ← ht, List.drop_left]
theorem eat_A {s w : Bs} {st : RS} (h : (eatS s w st).1 = true) : Stp s st (eatS s w st).2 w := by
 unfold eatS at *
 split at h
 ·next k => rw [if_pos k]; exact .mk' k.1 k.2
 ·cases h
theorem eat_no {s w : Bs} {st : RS} (h : (eatS s w st).1 ≠ true) : (eatS s w st).2 = st := by
 unfold eatS at *
 split at h
 ·exact absurd rfl h
 ·next k => rw [if_neg k]
theorem need_A {s w : Bs} {st : RS} (h : (needS s w st).ok = true) : Stp s st (needS s w st) w := by
 have h' : (eatS s w st).1 = true := h
 have k := eat_A h'
 exact ⟨k.ok, h, k.rest, k.at'⟩
theorem until_A {s stops : Bs} {st : RS} (h : (untilS s stops st).2.ok = true) : Stp s st (untilS s stops st).2 (untilS s stops st).1 ∧ ∀ c ∈ (untilS s stops st).1, c ∉ stops := by
 unfold untilS at *
 split at h
 ·next k =>
  rw [if_pos k]
  have e := takeWhile_split (fun c => !stops.contains c) (s.drop st.p)
  refine ⟨⟨k, k, ?_, rfl⟩, fun c hc => ?_⟩
  ·rw [← List.drop_drop]; exact e
  ·have := takeWhile_all _ _ c hc
   simpa using this
 ·next k => exact absurd h k
theorem number_A {s : Bs} {st : RS} (h : (numberS s st).2.ok = true) : Stp s st (numberS s st).2 (digS (numberS s st).1) ∧ (numberS s st).1 ≤ great := by
 unfold numberS at *
 simp only [Bool.and_eq_true] at h
 obtain ⟨hok, hn⟩ := h
 have hw : numW s st = dgs (s.drop st.p) := by unfold numW; rw [if_pos hok]
 rw [hw] at hn ⊢
 cases e : numS (dgs (s.drop st.p)) with
 | none => rw [e] at hn; cases hn
 | some n =>
  obtain ⟨h1, h2⟩ := numS_some e
  refine ⟨⟨hok, by simp [hok], ?_, by simp [← h1]⟩, h2⟩
  simp only [Option.getD_some, ← h1]
  rw [← List.drop_drop]
  exact takeWhile_split isDig (s.drop st.p)
theorem flags_A {s : Bs} {st : RS} (h : (flagsS s st).2.ok = true) : Stp s st (flagsS s st).2 (printF (flagsS s st).1) ∧ rightS (flagsS s st).1 = true := by
 unfold flagsS at *
 dsimp only at *
 split at h
 ·next hok =>
  rw [if_pos hok]
  split at h
  ·next hq =>
   rw [if_pos hq]
   exact ⟨need_A h, parse_right (n := (parseF (s.drop st.p)).2.1) (Prod.ext rfl (Prod.ext rfl hq))⟩
  ·cases h
 ·next k => exact absurd h k
theorem pre34 {w : Bs} (h : ([34] : Bs).isPrefixOf w = true) : ∃ t, w = 34 :: t := by
 obtain ⟨t, ht⟩ := List.isPrefixOf_iff_prefix.mp h
 exact ⟨t, ht.symm⟩
theorem box_A {s : Bs} {st : RS} (h : (boxS s st).2.ok = true) : Stp s st (boxS s st).2 (formS (boxS s st).1) ∧ isBox (boxS s st).1 = true := by
 unfold boxS at *
 dsimp only at *
 split at h
 ·next hok =>
  rw [if_pos hok]
  simp only [Bool.and_eq_true, decide_eq_true_eq] at h
  obtain ⟨⟨h1, h2⟩, h3⟩ := h
  obtain ⟨b, hb⟩ := Option.isSome_iff_exists.mp h2
  have e : b = (boxT s st).1 := by rw [hb] at h3; exact h3
  rw [hb]
  simp only [Option.getD_some]
  have hi : isBox b = true := by unfold isBox; rw [decide_eq_true_eq, ← hb, e]
  refine ⟨?_, hi⟩
  suffices hs : Stp s st (boxT s st).2 (formS b) from ⟨hs.ok, by simp [h1, e], hs.rest, hs.at'⟩
  subst e
  unfold boxT at *
  dsimp only at *
  split at h1
  ·next hp =>
   rw [if_pos hp] at hi ⊢
   simp only [Bool.and_eq_true] at h1
   obtain ⟨q, hq⟩ := Option.isSome_iff_exists.mp h1.1
   rw [hq] at h1 hi ⊢
   simp only [Option.getD_some, Option.isSome_some, Bool.true_and] at *
   obtain ⟨t, n⟩ := q
   simp only at *
   have hf : formS t = 34 :: t ++ [34] := by
    rcases form_box hi with hf | hf
    ·rw [hf.1] at h1
     obtain ⟨u, hu⟩ := pre34 h1.2
     have ha := hf.2
     unfold atomS at ha
     rw [hu] at ha
     simp [isAtom] at ha
    ·exact hf
   have hp := isBox_p hi
   unfold boxP at hp
   simp at hp
   have hu : ∃ r, s.drop st.p = 34 :: t ++ 34 :: r ∧ n = t.length + 2 := by
    unfold uqS at hq
    split at hq
    ·cases hq
    ·next c v hcv =>
     split at hq
     ·next hc =>
      obtain ⟨w, r, e1, e2, e3⟩ := uqL_some v.length v [] 1 t n (Nat.le_refl _) hq fun c hc => ⟨(boxC_q (hp.1.1.1.2 c hc)).2.1, (boxC_q (hp.1.1.1.2 c hc)).2.2.1⟩
      simp only [List.nil_append] at e1
      subst e1
      exact ⟨r, by rw [hcv, hc, e2]; rfl, by omega⟩
     ·cases hq
   obtain ⟨r, hr, hn⟩ := hu
   have hl : (formS t).length = n := by rw [hf, hn]; simp
   refine ⟨hok, by simp [h1], ?_, by simp [hl]⟩
   simp only
   rw [← List.drop_drop, ← hl]
   have : s.drop st.p = formS t ++ r := by rw [hr, hf]; simp
   rw [this, List.drop_left]
  ·next hp =>
   rw [if_neg hp] at hi ⊢
   simp only [decide_eq_true_eq] at h1
   have hu : (untilS s [32, 13] st).2.ok = true := by unfold untilS; rw [if_pos hok]; exact hok
   have k := (until_A hu).1
   rw [h1]
   exact ⟨k.ok, by simp, k.rest, k.at'⟩
 ·next k => exact absurd h k
theorem lit_A {s : Bs} {st : RS} (h : (litS s st).2.ok = true) : Stp s st (litS s st).2 (literalS (litS s st).1) ∧ (litS s st).1.length ≤ 4096 := by
 unfold litS at *
 dsimp only at *
 split at h
 ·next k =>
  rw [if_pos k]
  obtain ⟨k1, k2, k3⟩ := k
  have a3 := need_A k1
  have a2 := number_A a3.ok
  have a1 := need_A a2.1.ok
  generalize hn : (numberS s (needS s [123] st)).1 = n at *
  generalize hp : needS s [125, 13, 10] (numberS s (needS s [123] st)).2 = e at *
  have hl : ((s.drop e.p).take n).length = n := by
   rw [List.length_take, List.length_drop]
   omega
  refine ⟨?_, by rw [hl]; exact k2⟩
  have a4 : Stp s e ⟨e.p + n, e.ok⟩ ((s.drop e.p).take n) := by
   refine ⟨k1, k1, ?_, by rw [hl]⟩
   rw [← List.drop_drop, List.take_append_drop]
  refine (((a1.trans a2.1).trans a3).trans a4).to ?_
  unfold literalS
  rw [hl]
  simp
 ·cases h
theorem count_word {w : Bs} (h : countK w ≠ 0) : 1 ≤ countK w ∧ countK w ≤ 5 ∧ itemA (countK w) = w := by
 unfold countK itemA at *
 split at h
 ·next k =>
  rw [if_pos k]
  refine ⟨by omega, by omega, ?_⟩
  have hm : itemW.idxOf w < itemW.length := Nat.lt_trans k (by decide)
  have := List.getElem_idxOf hm
  rw [Nat.add_sub_cancel, List.getD_eq_getElem?_getD, List.getElem?_eq_getElem hm, this]
  rfl
 ·exact absurd rfl h
theorem fetch_word {w : Bs} (h : fetchK w ≠ 0) : 6 ≤ fetchK w ∧ fetchK w ≤ 12 ∧ itemA (fetchK w) = w := by
 unfold fetchK itemA at *
 split at h
 ·next k =>
  rw [if_pos k]
  refine ⟨by omega, by omega, ?_⟩
  have hm : itemW.idxOf w < itemW.length := Nat.lt_of_lt_of_le k.2 (by decide)
  have := List.getElem_idxOf hm
  rw [Nat.add_sub_cancel, List.getD_eq_getElem?_getD, List.getElem?_eq_getElem hm, this]
  rfl
 ·exact absurd rfl h
theorem stat_word {w : Bs} (h : 0 < statK w) : 1 ≤ statK w ∧ statK w ≤ 4 ∧ statW.getD (statK w - 1) [] = w := by
 unfold statK at *
 split at h
 ·next k =>
  rw [if_pos k]
  refine ⟨by omega, by omega, ?_⟩
  have hm : statW.idxOf w < statW.length := Nat.lt_of_lt_of_le k (by decide)
  have := List.getElem_idxOf hm
  rw [Nat.add_sub_cancel, List.getD_eq_getElem?_getD, List.getElem?_eq_getElem hm, this]
  rfl
 ·cases h
theorem counted_A {s : Bs} {st : RS} (h : (countedS s st).2.ok = true) : Stp s st (countedS s st).2 (countP (countedS s st).1) ∧ okC (countedS s st).1 = true := by
 unfold countedS at *
 dsimp only at *
 split at h
 ·cases h
 ·next k =>
  rw [if_neg k]
  have a3 := number_A h
  have a2 := need_A a3.1.ok
  have a1 := until_A a2.ok
  obtain ⟨k1, k2, k3⟩ := count_word k
  refine ⟨((a1.1.trans a2).trans a3.1).to ?_, ?_⟩
  ·unfold countP
   simp only [Int.toNat_natCast, k3]
   simp
  ·unfold okC bareP
   simp only [Bool.and_eq_true, decide_eq_true_eq]
   exact ⟨⟨⟨by omega, by omega, a3.2⟩, rfl⟩, by simp⟩
theorem part_A {s : Bs} {k : Nat} {st : RS} (h : (partS s k st).2.ok = true) : Stp s st (partS s k st).2 (if (partS s k st).1.1 = true then 60 :: digS (partS s k st).1.2 ++ [62] else []) ∧ (partS s k st).1.2 ≤ great ∧ ((partS s k st).1.1 = true → 10 ≤ k) ∧ ((partS s k st).1.1 = false → (partS s k st).1.2 = 0) := by
 unfold partS at *
 split at h
 ·next c =>
  rw [if_pos c]
  have a1 := eat_A c.2
  have a3 := need_A h
  have a2 := number_A a3.ok
  refine ⟨((a1.trans a2.1).trans a3).to ?_, a2.2, fun _ => c.1, fun e => by cases e⟩
  simp
 ·next c =>
  rw [if_neg c]
  exact ⟨⟨h, h, by simp, by simp⟩, by simp, by simp, by simp⟩
theorem fetched_A {s : Bs} {st : RS} (h : (fetchedS s st).2.ok = true) : Stp s st (fetchedS s st).2 (valueP (fetchedS s st).1) ∧ okV (fetchedS s st).1 = true := by
 unfold fetchedS at *
 dsimp only at *
 split at h
 ·cases h
 next k0 =>
 rw [if_neg k0]
 obtain ⟨k1, k2, k3⟩ := fetch_word k0
 have hpre : ∀ {v : Bs} {st' : RS}, Stp s (needS s [32] (partS s (fetchK (untilS s [32, 60, 13] st).1) (untilS s [32, 60, 13] st).2).2) st' v →
   Stp s st st' ((untilS s [32, 60, 13] st).1 ++ ((if (partS s (fetchK (untilS s [32, 60, 13] st).1) (untilS s [32, 60, 13] st).2).1.1 = true then 60 :: digS (partS s (fetchK (untilS s [32, 60, 13] st).1) (untilS s [32, 60, 13] st).2).1.2 ++ [62] else []) ++ ([32] ++ v))) ∧ (partS s (fetchK (untilS s [32, 60, 13] st).1) (untilS s [32, 60, 13] st).2).1.2 ≤ great ∧ ((partS s (fetchK (untilS s [32, 60, 13] st).1) (untilS s [32, 60, 13] st).2).1.1 = true → 10 ≤ fetchK (untilS s [32, 60, 13] st).1) ∧ ((partS s (fetchK (untilS s [32, 60, 13] st).1) (untilS s [32, 60, 13] st).2).1.1 = false → (partS s (fetchK (untilS s [32, 60, 13] st).1) (untilS s [32, 60, 13] st).2).1.2 = 0) := by
  intro v st' hv
  have a4 := need_A hv.ok
  have a3 := part_A a4.ok
  have a1 := until_A a3.1.ok
  exact ⟨a1.1.trans (a3.1.trans (a4.trans hv)), a3.2⟩
 generalize fetchK (untilS s [32, 60, 13] st).1 = k at *
 generalize (untilS s [32, 60, 13] st).1 = w at *
 generalize (partS s k (untilS s [32, 60, 13] st).2) = q at *
 obtain ⟨⟨pt, fr⟩, st3⟩ := q
 simp only at *
 split at h
 ·next c =>
  rw [if_pos c]
  have a := flags_A h
  obtain ⟨b1, b2, b3, b4⟩ := hpre a.1
  have e : pt = false := by
   cases pt with
   | false => rfl
   | true => have := b3 rfl; omega
  subst e
  refine ⟨b1.to ?_, ?_⟩
  ·subst c
   simp [valueP, ← k3]
  ·simp [okV, bareP, b4 rfl, a.2]
 next c6 =>
 rw [if_neg c6]
 split at h
 ·next c =>
  rw [if_pos c]
  have a3 := need_A h
  have a2 := number_A a3.ok
  have a1 := need_A a2.1.ok
  obtain ⟨b1, b2, b3, b4⟩ := hpre ((a1.trans a2.1).trans a3)
  have e : pt = false := by
   cases pt with
   | false => rfl
   | true => have := b3 rfl; omega
  subst e
  refine ⟨b1.to ?_, ?_⟩
  ·subst c
   simp [valueP, ← k3]
  ·simp [okV, bareP, b4 rfl, a2.2]
 next c9 =>
 rw [if_neg c9]
 split at h
 ·next c =>
  rw [if_pos c]
  have a2 := number_A h
  obtain ⟨b1, b2, b3, b4⟩ := hpre a2.1
  have e : pt = false := by
   cases pt with
   | false => rfl
   | true => have := b3 rfl; omega
  subst e
  refine ⟨b1.to ?_, ?_⟩
  ·rcases c with rfl | rfl <;> simp [valueP, ← k3]
  ·rcases c with rfl | rfl <;> simp [okV, bareP, b4 rfl, a2.2]
 ·next c =>
  rw [if_neg c]
  have a2 := lit_A h
  obtain ⟨b1, b2, b3, b4⟩ := hpre a2.1
  have hk : 10 ≤ k := by omega
  refine ⟨b1.to ?_, ?_⟩
  ·have e1 : ¬((k : Int) < 6 ∨ 12 < (k : Int)) := by omega
   have e2 : ¬((k : Int) = 6) := by omega
   have e3 : ¬((k : Int) = 9) := by omega
   have e4 : ¬((k : Int) < 10) := by omega
   simp only [valueP, partP, e1, e2, e3, e4, if_false, Int.toNat_natCast, k3]
   simp
  ·have e2 : ¬((k : Int) = 6) := by omega
   have e3 : ¬((k : Int) ≤ 9) := by omega
   simp only [okV, e2, e3, if_false]
   simp only [Bool.and_eq_true, decide_eq_true_eq, Bool.or_eq_true]
   refine ⟨⟨by omega, by omega, by simp, b2⟩, ⟨⟨a2.2, by simp⟩, by simp⟩, ?_⟩
   cases pt with
   | true => exact .inl rfl
   | false => exact .inr (b4 rfl)
theorem join_cons (b x : Bs) {t : List Bs} (h : t ≠ []) : joinS b (x :: t) = x ++ b ++ joinS b t := by
 cases t with
 | nil => exact absurd rfl h
 | cons y t => rfl
theorem join_snoc (b x : Bs) : ∀ {l : List Bs}, l ≠ [] → joinS b (l ++ [x]) = joinS b l ++ b ++ x
 | [], h => absurd rfl h
 | [y], _ => rfl
 | y :: z :: t, _ => by
  rw [List.cons_append, join_cons b y z_8, join_snoc b x (l := z :: t) z_8, join_cons b y z_8]
  simp
theorem rows_A {s : Bs} {one : RS → RV × RS} {f : RV → Bs} {g : RV → Bool} (ho : ∀ st, (one st).2.ok = true → Stp s st (one st).2 (f (one st).1) ∧ g (one st).1 = true)
  {st : RS} (h : (rowsS s one st).2.ok = true) :
  Stp s st (rowsS s one st).2 (40 :: joinS [32] ((rowsS s one st).1.map f) ++ [41]) ∧ 1 ≤ (rowsS s one st).1.length ∧ (rowsS s one st).1.length ≤ 10 ∧ (rowsS s one st).1.all g = true := by
 have hl : ∀ (k : Nat) (l : List RV) (a b : RS), l ≠ [] → l.all g = true → Stp s a b (joinS [32] (l.map f)) → (rowsL s one k l b).2.ok = true → (rowsL s one k l b).1.length ≤ 10 → l.length + k = 11 →
   Stp s a (rowsL s one k l b).2 (joinS [32] ((rowsL s one k l b).1.map f)) ∧ (rowsL s one k l b).1.all g = true ∧ 1 ≤ (rowsL s one k l b).1.length := by
  intro k
  induction k with
  | zero =>
   intro l a b h0 hg hs hok hlen hk
   simp only [rowsL] at hlen
   omega
  | succ k ih =>
   intro l a b h0 hg hs hok hlen hk
   rw [rowsL] at hok hlen ⊢
   split at hok
   ·next c =>
    rw [if_pos c] at hlen ⊢
    have e1 := eat_A c
    have hone : (one (eatS s [32] b).2).2.ok = true := by
     have key : ∀ (k : Nat) (l : List RV) (st : RS), (rowsL s one k l st).2.ok = true → st.ok = true := by
      intro k
      induction k with
      | zero =>
       intro l st h
       simp only [rowsL] at h
       by_cases c : (eatS s [32] st).1 = true
       ·exact (eat_A c).ok
       ·rw [eat_no c] at h; exact h
      | succ k ih =>
       intro l st h
       rw [rowsL] at h
       split at h
       ·next c => exact (eat_A c).ok
       ·next c => rw [eat_no c] at h; exact h
     exact key _ _ _ hok
    have e2 := ho _ hone
    refine ih _ a _ z_8 (by simp [hg, e2.2]) ?_ hok hlen (by simp; omega)
    refine (hs.trans (e1.trans e2.1)).to ?_
    rw [List.map_append]
    rw [List.map_singleton, join_snoc _ _ (by simpa using h0)]
    simp
   ·next c =>
    rw [if_neg c, eat_no c]
    exact ⟨hs, hg, List.length_pos_iff.mpr h0⟩
 unfold rowsS at *
 dsimp only at *
 simp only [Bool.and_eq_true, decide_eq_true_eq] at h
 have a4 := need_A h.1
 have key : ∀ (k : Nat) (l : List RV) (st : RS), (rowsL s one k l st).2.ok = true → st.ok = true := by
  intro k
  induction k with
  | zero =>
   intro l st h
   simp only [rowsL] at h
   by_cases c : (eatS s [32] st).1 = true
   ·exact (eat_A c).ok
   ·rw [eat_no c] at h; exact h
  | succ k ih =>
   intro l st h
   rw [rowsL] at h
   split at h
   ·next c => exact (eat_A c).ok
   ·next c => rw [eat_no c] at h; exact h
 have h2 := key _ _ _ a4.ok
 have a2 := ho _ h2
 have a1 := need_A a2.1.ok
 obtain ⟨b1, b2, b3⟩ := hl 10 [(one (needS s [40] st)).1] _ _ z_8 (by simp [a2.2]) (a2.1.to (by simp [joinS])) a4.ok h.2 rfl
 refine ⟨?_, b3, h.2, b2⟩
 have := (a1.trans b1).trans a4
 exact ⟨this.ok, by simp [h.1, h.2], by rw [this.rest]; simp, by rw [this.at']; simp⟩
theorem plain_facts {t : Bs} (h : plainS t = true) : (∀ c ∈ t, isPlain c = true) ∧ t ≠ [] ∧ t.length ≤ 512 := by
 unfold plainS at h
 simp only [Bool.and_eq_true, List.all_eq_true, Bool.not_eq_true', List.isEmpty_eq_false_iff, decide_eq_true_eq] at h
 exact ⟨h.1.1, h.1.2, h.2⟩
theorem code_A {s : Bs} {st : RS} (h : (codeS s st).2.ok = true) : Stp s st (codeS s st).2 (codeP (codeS s st).1) ∧ codeOk (codeS s st).1 = true := by
 unfold codeS at *
 dsimp only at *
 split at h
 ·next c =>
  rw [if_pos c]
  simp only [Bool.and_eq_true] at h
  have a3 := need_A h.1
  have a2 := until_A a3.ok
  have a1 := eat_A c
  have hp := plain_facts h.2
  refine ⟨?_, ?_⟩
  ·have := (a1.trans a2.1).trans a3
   refine ⟨this.ok, by simp [h.1, h.2], ?_, ?_⟩
   ·rw [this.rest]; simp [codeP, hp.2.1]
   ·rw [this.at']; simp [codeP, hp.2.1]
  ·unfold codeOk
   simp only [Bool.or_eq_true, Bool.and_eq_true, h.2, true_and, Bool.not_eq_true']
   right
   have := a2.2
   cases e : ((untilS s [93, 13] (eatS s [91] st).2).1).contains 93 with
   | false => rfl
   | true => exact absurd z_8 (a2.2 93 (by simpa using e))
 ·next c =>
  rw [if_neg c] at *
  rw [eat_no c] at *
  exact ⟨⟨h, h, by simp [codeP], by simp [codeP]⟩, by simp [codeOk]⟩
theorem told_A {s tag : Bs} {st : RS} (h : (toldS s tag st).2.ok = true) : Stp s st (toldS s tag st).2 (statW.getD ((toldS s tag st).1.kind.toNat - 1) [] ++ 32 :: codeP (toldS s tag st).1.code ++ (toldS s tag st).1.text) ∧
  (tag = [42] ∨ tagP tag = true → okR (toldS s tag st).1 = true) ∧ (toldS s tag st).1.tag = tag ∧ 1 ≤ (toldS s tag st).1.kind ∧ (toldS s tag st).1.kind ≤ 4 := by
 unfold toldS at *
 dsimp only at *
 simp only [Bool.and_eq_true, decide_eq_true_eq, Bool.or_eq_true] at h
 obtain ⟨⟨⟨⟨h1, h2⟩, h3⟩, h4⟩, h5⟩ := h
 have a4 := until_A h1
 have a3 := code_A a4.1.ok
 have a2 := need_A a3.1.ok
 have a1 := until_A a2.ok
 obtain ⟨k1, k2, k3⟩ := stat_word h2
 generalize untilS s [13] (codeS s (needS s [32] (untilS s [32, 13] st).2)).2 = x at *
 generalize codeS s (needS s [32] (untilS s [32, 13] st).2) = c at *
 generalize hu : untilS s [32, 13] st = u at *
 generalize statK u.1 = k at *
 refine ⟨?_, fun ht => ?_, rfl, by omega, by omega⟩
 ·have := ((a1.1.trans a2).trans a3.1).trans a4.1
  refine ⟨this.ok, ?_, ?_, ?_⟩
  ·simp only [Bool.and_eq_true, decide_eq_true_eq, Bool.or_eq_true]
   exact ⟨⟨⟨⟨h1, h2⟩, h3⟩, h4⟩, h5⟩
  ·rw [this.rest, ← k3]; simp
  ·rw [this.at', ← k3]; simp
 ·have hk : 1 ≤ (k : Int) ∧ (k : Int) ≤ 4 := ⟨by omega, by omega⟩
  unfold okR
  simp only [hk, and_self, if_true]
  simp only [onlyB, Bool.and_eq_true, Bool.or_eq_true, decide_eq_true_eq]
  refine ⟨⟨⟨⟨by simp, h3⟩, h4⟩, a3.2⟩, ?_⟩
  rcases ht with ht | ht
  ·exact .inl ht
  ·rcases h5 with h5 | h5
   ·exact .inr ⟨by omega, ht⟩
   ·exact .inl h5
theorem nums_snoc (l : List Nat) (n : Nat) : numsP (l ++ [n]) = numsP l ++ 32 :: digS n := by simp [numsP]
theorem search_A {s : Bs} {st : RS} (h : (searchS s st).2.ok = true) : Stp s st (searchS s st).2 (numsP (searchS s st).1.nums ++ modP (searchS s st).1.mod) ∧ okR (searchS s st).1 = true ∧ (searchS s st).1.kind = 13 := by
 have hl : ∀ (k : Nat) (l : List Nat) (a b : RS), (a.ok = true → Stp s a b (numsP l)) → (∀ n ∈ l, n ≤ great) → (b.ok = true → a.ok = true) → (searchL s k l b).2.ok = true →
   Stp s a (searchL s k l b).2 (numsP (searchL s k l b).1.1 ++ modP (searchL s k l b).1.2) ∧ (∀ n ∈ (searchL s k l b).1.1, n ≤ great) ∧ (searchL s k l b).1.2 ≤ great := by
  intro k
  induction k with
  | zero =>
   intro l a b hs hg hab h
   simp only [searchL] at *
   have := hs (hab h)
   exact ⟨by simpa [modP] using this, hg, by simp⟩
  | succ k ih =>
   intro l a b hs hg hab h
   rw [searchL] at h ⊢
   split at h
   ·next c =>
    rw [if_pos c]
    have e1 := eat_A c
    split at h
    ·next c2 =>
     rw [if_pos c2]
     dsimp only at *
     simp only [Bool.and_eq_true, decide_eq_true_eq] at h
     have e2 := eat_A c2
     have e4 := need_A h.1
     have e3 := number_A e4.ok
     have := (hs (hab e1.ok)).trans (((e1.trans e2).trans e3.1).trans e4)
     refine ⟨⟨this.ok, by simp [h.1, h.2], ?_, ?_⟩, hg, e3.2⟩
     ·rw [this.rest]
      have : (numberS s (eatS s wModseq (eatS s [32] b).2).2).1 ≠ 0 := by omega
      simp [modP, this]
     ·rw [this.at']
      have : (numberS s (eatS s wModseq (eatS s [32] b).2).2).1 ≠ 0 := by omega
      simp [modP, this]
    ·next c2 =>
     rw [if_neg c2]
     have key : ∀ (k : Nat) (l : List Nat) (st : RS), (searchL s k l st).2.ok = true → st.ok = true := by
      intro k
      cases k with
      | zero => intro l st h; exact h
      | succ k =>
       intro l st h
       rw [searchL] at h
       split at h
       ·next c => exact (eat_A c).ok
       ·exact h
     have e3 := number_A (key _ _ _ h)
     refine ih _ a _ (fun ha => ?_) (fun n hn => ?_) (fun _ => hab e1.ok) h
     ·refine ((hs ha).trans (e1.trans e3.1)).to ?_
      rw [nums_snoc]
      simp
     ·rcases List.mem_append.mp hn with hn | hn
      ·exact hg n hn
      ·simp at hn; subst hn; exact e3.2
   ·next c =>
    rw [if_neg c]
    have := hs (hab h)
    exact ⟨by simpa [modP] using this, hg, by simp⟩
 unfold searchS at *
 dsimp only at *
 simp only [Bool.and_eq_true, decide_eq_true_eq] at h
 obtain ⟨b1, b2, b3⟩ := hl (s.length + 1) [] st st (fun ha => ⟨ha, ha, by simp [numsP], by simp [numsP]⟩) z_8 id h.1
 refine ⟨⟨b1.ok, by simp [h.1, h.2], b1.rest, b1.at'⟩, ?_, rfl⟩
 simp [okR, onlyB, h.2, b3]
 exact b2
theorem numbered_A {s : Bs} {st : RS} (h : (numbered s st).2.ok = true) (hst : st.ok = true) : okR (numbered s st).1 = true ∧ ∃ w, textP (numbered s st).1 = 42 :: 32 :: w ∧ Stp s st (numbered s st).2 w := by
 unfold numbered at *
 dsimp only at *
 split at h
 ·next c =>
  rw [if_pos c]
  have a2 := eat_A c
  have a1 := number_A a2.ok
  exact ⟨by simp [okR, onlyB, a1.2], _, by simp [textP], a1.1.trans a2⟩
 next c1 =>
 rw [if_neg c1]
 split at h
 ·next c =>
  rw [if_pos c]
  have a2 := eat_A c
  have a1 := number_A a2.ok
  exact ⟨by simp [okR, onlyB, a1.2], _, by simp [textP], a1.1.trans a2⟩
 ·next c =>
  rw [if_neg c]
  have a3 := rows_A (fun st h => fetched_A h) h
  have a2 := need_A a3.1.ok
  have a1 := number_A a2.ok
  refine ⟨?_, _, ?_, (a1.1.trans a2).trans a3.1⟩
  ·simp only [okR, onlyB]
   simp [a1.2, a3.2.1, a3.2.2.1]
   simpa using a3.2.2.2
  ·simp only [textP, cellsP]
   simp [List.flatMap_singleton, ← List.map_eq_flatMap]
theorem untagged_A {s : Bs} {st : RS} (h : (untaggedS s st).2.ok = true) (hst : st.ok = true) : okR (untaggedS s st).1 = true ∧ ∃ w, textP (untaggedS s st).1 = 42 :: 32 :: w ∧ Stp s st (untaggedS s st).2 w := by
 unfold untaggedS at *
 dsimp only at *
 split at h
 ·next c =>
  rw [if_pos c]
  have a2 := flags_A h
  have a1 := eat_A c
  exact ⟨by simp [okR, onlyB, a2.2], _, by simp [textP], a1.trans a2.1⟩
 next c1 =>
 rw [if_neg c1]
 split at h
 ·next c =>
  rw [if_pos c]
  have a2 := box_A h
  have a1 := eat_A c
  exact ⟨by simp [okR, onlyB, a2.2], _, by simp [textP], a1.trans a2.1⟩
 next c2 =>
 rw [if_neg c2]
 split at h
 ·next c =>
  rw [if_pos c]
  have a2 := search_A h
  have a1 := eat_A c
  refine ⟨a2.2.1, _, ?_, a1.trans a2.1⟩
  simp [textP, a2.2.2]
 next c3 =>
 rw [if_neg c3]
 split at h
 ·next c =>
  rw [if_pos c]
  have a4 := rows_A (fun st h => counted_A h) h
  have a3 := need_A a4.1.ok
  have a2 := box_A a3.ok
  have a1 := eat_A c
  refine ⟨?_, _, ?_, ((a1.trans a2.1).trans a3).trans a4.1⟩
  ·simp only [okR, onlyB]
   simp [a2.2, a4.2.1, a4.2.2.1]
   simpa using a4.2.2.2
  ·have : ∀ l : List RV, l.all okC = true → (l.flatMap fun v => if 1 ≤ v.kind ∧ v.kind ≤ 5 then [countP v] else []) = l.map countP := by
    intro l
    induction l with
    | nil => intro _; rfl
    | cons v t ih =>
     intro h
     simp only [List.all_cons, Bool.and_eq_true] at h
     have hv := h.1
     simp only [okC, Bool.and_eq_true, decide_eq_true_eq] at hv
     rw [List.flatMap_cons, ih h.2, if_pos ⟨hv.1.1.1, hv.1.1.2.1⟩]
     rfl
   simp only [textP, cellsP]
   simp [this _ a4.2.2.2]
 next c4 =>
 rw [if_neg c4]
 split at h
 ·next c =>
  rw [if_pos c]
  exact numbered_A h hst
 ·next c =>
  rw [if_neg c]
  have a := told_A h
  refine ⟨a.2.1 (.inl rfl), _, ?_, a.1⟩
  simp only [textP]
  rw [if_pos ⟨a.2.2.2.1, a.2.2.2.2⟩, a.2.2.1]
  simp
theorem rest_A {s : Bs} {st : RS} (h : (restS s st).2.ok = true) (hst : st.ok = true) : okR (restS s st).1 = true ∧ Stp s st (restS s st).2 (textP (restS s st).1) := by
 unfold restS at *
 dsimp only at *
 split at h
 ·next c =>
  rw [if_pos c]
  dsimp only at *
  have a1 := eat_A c
  have hu : (untilS s [13] (eatS s [43, 32] st).2).2.ok = true := by
   unfold untilS
   rw [if_pos a1.ok']
   exact a1.ok'
  have a2 := (a1.trans (until_A hu).1)
  refine ⟨by simp [okR, onlyB, h], ⟨a2.ok, by simp [h], ?_, ?_⟩⟩
  ·rw [a2.rest]; simp [textP]
  ·rw [a2.at']; simp [textP]
 next c1 =>
 rw [if_neg c1]
 split at h
 ·next c =>
  rw [if_pos c]
  have a1 := eat_A c
  obtain ⟨k1, w, k2, k3⟩ := untagged_A h a1.ok'
  refine ⟨k1, (a1.trans k3).to ?_⟩
  rw [k2]
  rfl
 ·next c =>
  rw [if_neg c]
  have a := told_A h
  have hok := a.1.ok
  simp only [Bool.and_eq_true, decide_eq_true_eq] at hok
  obtain ⟨⟨⟨h1, h2⟩, h3⟩, h4⟩ := hok
  have b2 := need_A h1
  have b1 := until_A b2.ok
  refine ⟨a.2.1 (.inr ?_), ?_⟩
  ·unfold tagP
   simp only [Bool.and_eq_true, decide_eq_true_eq]
   exact ⟨⟨h2, h4⟩, h3⟩
  ·have b3 : Stp s (needS s [32] (untilS s [32, 13] st).2) (toldS s (untilS s [32, 13] st).1 _).2 _ := ⟨h1, a.1.ok', a.1.rest, a.1.at'⟩
   refine ((b1.1.trans b2).trans b3).to ?_
   simp only [textP]
   rw [if_pos ⟨a.2.2.2.1, a.2.2.2.2⟩, a.2.2.1]
   simp
theorem read_A {s : Bs} {r : RR} {n : Nat} (h : readS s = some (r, n)) : okR r = true ∧ n = (textP r ++ crlf).length ∧ ∃ t, s = (textP r ++ crlf) ++ t := by
 unfold readS at h
 dsimp only at h
 have fin : ∀ {w : Bs} {st : RS}, Stp s ⟨0, true⟩ st w → st.p = w.length ∧ ∃ t, s = w ++ t := fun k => ⟨by rw [k.at']; simp, _, by simpa using k.rest⟩
 split at h
 ·next c =>
  simp only [Option.some.injEq, Prod.mk.injEq] at h
  obtain ⟨rfl, rfl⟩ := h
  exact ⟨by simp [okR, onlyB], fin (eat_A c)⟩
 split at h
 ·next c =>
  simp only [Option.some.injEq, Prod.mk.injEq] at h
  obtain ⟨rfl, rfl⟩ := h
  exact ⟨by simp [okR, onlyB], fin (eat_A c)⟩
 split at h
 ·next c =>
  simp only [Option.some.injEq, Prod.mk.injEq] at h
  obtain ⟨rfl, rfl⟩ := h
  have a2 := need_A c
  have a1 := rest_A a2.ok rfl
  exact ⟨a1.1, fin (a1.2.trans a2)⟩
 ·cases h
end Go.Proofs.YtgllpcggdcknaaaGreatDoor.Rp
