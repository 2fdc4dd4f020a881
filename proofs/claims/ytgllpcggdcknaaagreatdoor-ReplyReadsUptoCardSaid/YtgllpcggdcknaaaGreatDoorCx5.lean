import Derived.Test.YtgllpcggdcknaaaGreatDoorCx4
import Derived.Test.YtgllpcggdcknaaaGreatDoorCx1
set_option linter.unusedVariables false
set_option linter.unusedSimpArgs false
namespace Go.Proofs.YtgllpcggdcknaaaGreatDoor.Rp
open Go Go.Sl
theorem drop_B {s w r : Bs} {p : Nat} (h : s.drop p = w ++ r) : s.drop (p + w.length) = r := by rw [← List.drop_drop, h, List.drop_left]
theorem eat_B {s w r : Bs} {p : Nat} (h : s.drop p = w ++ r) : eatS s w ⟨p, true⟩ = (true, ⟨p + w.length, true⟩) := by
 have hp : w.isPrefixOf (s.drop p) = true := by rw [h]; exact List.isPrefixOf_iff_prefix.mpr ⟨r, rfl⟩
 unfold eatS
 rw [if_pos ⟨rfl, hp⟩]
theorem eat_N {s w : Bs} {p : Nat} (h : w.isPrefixOf (s.drop p) = false) : eatS s w ⟨p, true⟩ = (false, ⟨p, true⟩) := by
 unfold eatS
 rw [if_neg (by simp [h])]
theorem eat_H {s w : Bs} {p : Nat} {a c : UInt8} {v r : Bs} (h : s.drop p = c :: r) (hw : w = a :: v) (hne : a ≠ c) : eatS s w ⟨p, true⟩ = (false, ⟨p, true⟩) := by
 refine eat_N ?_
 rw [h, hw]
 simp [List.isPrefixOf, hne]
theorem need_B {s w r : Bs} {p : Nat} (h : s.drop p = w ++ r) : needS s w ⟨p, true⟩ = ⟨p + w.length, true⟩ := by unfold needS; rw [eat_B h]
theorem until_B {s w r stops : Bs} {p : Nat} (h : s.drop p = w ++ r) (hw : ∀ c ∈ w, c ∉ stops) (hr : ∀ c ∈ r.head?, c ∈ stops) : untilS s stops ⟨p, true⟩ = (w, ⟨p + w.length, true⟩) := by
 unfold untilS
 rw [if_pos rfl]
 have e : stopW stops (s.drop p) = w := by
  unfold stopW
  rw [h]
  exact takeWhile_of _ _ _ (fun c hc => by simpa using hw c hc) (fun c hc => by simpa using hr c hc)
 simp only [e]
theorem number_B {s r : Bs} {p n : Nat} (h : s.drop p = digS n ++ r) (hn : n ≤ great) (hr : ∀ c ∈ r.head?, isDig c = false) : numberS s ⟨p, true⟩ = (n, ⟨p + (digS n).length, true⟩) := by
 have e : numW s ⟨p, true⟩ = digS n := by
  unfold numW
  rw [if_pos rfl]
  simp only
  rw [h]
  exact dgs_dig n r hr
 unfold numberS
 rw [e, numS_dig hn]
 rfl
theorem flags_B {s r : Bs} {p : Nat} {l : List Bs} (h : s.drop p = printF l ++ r) (hl : rightS l = true) : flagsS s ⟨p, true⟩ = (l, ⟨p + (printF l).length, true⟩) := by
 unfold flagsS
 rw [if_pos rfl]
 simp only
 rw [h, parse_print hl r]
 simp only
 rw [if_pos trivial, need_B h]
theorem box_B {s r b : Bs} {p : Nat} (h : s.drop p = formS b ++ r) (hb : isBox b = true) (hr : ∀ c ∈ r.head?, c = 32 ∨ c = 13) : boxS s ⟨p, true⟩ = (b, ⟨p + (formS b).length, true⟩) := by
 have hN : boxN b = some b := by unfold isBox at hb; simpa using hb
 have hp := isBox_p hb
 unfold boxP at hp
 simp at hp
 have key : boxT s ⟨p, true⟩ = (b, ⟨p + (formS b).length, true⟩) := by
  rcases form_box hb with ⟨hf, ha⟩ | hf
  ·unfold atomS at ha
   simp only [Bool.and_eq_true, List.all_eq_true, Bool.not_eq_true', List.isEmpty_eq_false_iff] at ha
   rw [hf] at h ⊢
   have hu := until_B (stops := [32, 13]) h (fun c hc => by
    have := isAtom_ne (ha.1 c hc)
    simp [this.1, this.2.1]) (fun c hc => by simpa using hr c hc)
   unfold boxT
   simp only [hu]
   rw [if_neg]
   ·simp [hf]
   ·intro hp
    obtain ⟨t, rfl⟩ := pre34 hp
    exact (isAtom_ne (ha.1 34 z_7)).2.2.1 rfl
  ·have hu : ∃ t, (untilS s [32, 13] ⟨p, true⟩).1 = 34 :: t := by
    unfold untilS stopW
    rw [if_pos rfl]
    simp only
    rw [h, hf]
    exact ⟨_, by rw [List.cons_append, List.cons_append, List.takeWhile_cons, if_pos (by decide)]⟩
   obtain ⟨t, ht⟩ := hu
   have hq : uqS (s.drop p) = some (b, (formS b).length) := by
    rw [h, hf]
    have : 34 :: b ++ [34] ++ r = 34 :: (b ++ 34 :: r) := by simp
    rw [this]
    unfold uqS
    simp only
    rw [if_pos trivial, uqL_plain b [] 1 r (fun c hc => ⟨(boxC_q (hp.1.1.1.2 c hc)).1, (boxC_q (hp.1.1.1.2 c hc)).2.1, (boxC_q (hp.1.1.1.2 c hc)).2.2.1⟩) (by simp; omega)]
    simp
    omega
   unfold boxT
   simp only [ht, hq]
   rw [if_pos z_8]
   simp [hf, List.isPrefixOf]
 unfold boxS
 rw [if_pos rfl]
 simp only [key, hN]
 simp
theorem lit_B {s r t : Bs} {p : Nat} (h : s.drop p = literalS t ++ r) (ht : t.length ≤ 4096) : litS s ⟨p, true⟩ = (t, ⟨p + (literalS t).length, true⟩) := by
 have h1 : s.drop p = [123] ++ (digS t.length ++ ([125, 13, 10] ++ (t ++ r))) := by rw [h]; simp [literalS]
 have h2 := drop_B h1
 have h3 := drop_B h2
 have h4 := drop_B h3
 unfold litS
 simp only [need_B h1]
 rw [number_B h2 (by unfold great; omega) (by simp [isDig])]
 simp only [need_B h3]
 have hlen := congrArg List.length h4
 simp only [List.length_drop, List.length_append] at hlen
 rw [if_pos ⟨trivial, ht, by omega⟩, h4, List.take_left']
 ·simp [literalS]
  omega
 ·rfl
theorem item_plain : ∀ k, ∀ c ∈ itemA k, c ∉ ([32, 60, 13] : Bs) := by
 intro k
 unfold itemA
 by_cases h : k - 1 < 12
 ·have : ∀ i, i < 12 → ∀ c ∈ itemW.getD i [], c ∉ ([32, 60, 13] : Bs) := by decide
  exact this _ h
 ·rw [List.getD_eq_getElem?_getD, List.getElem?_eq_none (by have : itemW.length = 12 := rfl; omega)]
  simp
theorem countK_item : ∀ k, 1 ≤ k → k ≤ 5 → countK (itemA k) = k := by
 intro k h1 h2
 have : ∀ k, k < 6 → 1 ≤ k → countK (itemA k) = k := by decide
 exact this k (by omega) h1
theorem fetchK_item : ∀ k, 6 ≤ k → k ≤ 12 → fetchK (itemA k) = k := by
 intro k h1 h2
 have : ∀ k, k < 13 → 6 ≤ k → fetchK (itemA k) = k := by decide
 exact this k (by omega) h1
theorem counted_B {s r : Bs} {p : Nat} {v : RV} (hv : okC v = true) (h : s.drop p = countP v ++ r) (hr : ∀ c ∈ r.head?, c = 32 ∨ c = 41) : countedS s ⟨p, true⟩ = (v, ⟨p + (countP v).length, true⟩) := by
 obtain ⟨k, n, fl, tx, pt, fr⟩ := v
 simp only [okC, bareP, Bool.and_eq_true, decide_eq_true_eq, List.isEmpty_iff, Bool.not_eq_true'] at hv
 obtain ⟨⟨⟨h1, h2, h3⟩, rfl⟩, ⟨rfl, rfl⟩, rfl⟩ := hv
 obtain ⟨k, rfl⟩ : ∃ m : Nat, k = m := ⟨k.toNat, by omega⟩
 simp only [countP, Int.toNat_natCast] at h ⊢
 have e1 : s.drop p = itemA k ++ ([32] ++ (digS n ++ r)) := by rw [h]; simp
 have e2 := drop_B e1
 have e3 := drop_B e2
 have hu := until_B (stops := [32, 13]) e1 (fun c hc => by have := item_plain k c hc; simp at this ⊢; exact ⟨this.1, this.2.2⟩) z_7
 unfold countedS
 simp only [hu, need_B e2]
 rw [countK_item k (by omega) (by omega), if_neg (by omega), number_B e3 h3 (fun c hc => by rcases hr c hc with rfl | rfl <;> rfl)]
 simp
 omega
theorem part_B {s r : Bs} {p k fr : Nat} {pt : Bool} (hk : pt = true → 10 ≤ k) (h0 : pt = false → fr = 0) (hf : fr ≤ great) (h : s.drop p = (if pt = true then 60 :: digS fr ++ [62] else []) ++ 32 :: r) :
  partS s k ⟨p, true⟩ = ((pt, fr), ⟨p + (if pt = true then 60 :: digS fr ++ [62] else [] : Bs).length, true⟩) := by
 cases pt with
 | true =>
  have e1 : s.drop p = [60] ++ (digS fr ++ ([62] ++ 32 :: r)) := by rw [h]; simp
  have e2 := drop_B e1
  have e3 := drop_B e2
  unfold partS
  rw [eat_B e1]
  rw [if_pos ⟨hk rfl, rfl⟩]
  simp only
  rw [number_B e2 hf (by simp [isDig])]
  simp only [need_B e3]
  simp
  omega
 | false =>
  unfold partS
  rw [eat_H (a := 60) (c := 32) (v := []) (r := r) (by simpa using h) rfl (by decide)]
  simp [h0 rfl]
theorem fetched_B {s r : Bs} {p : Nat} {v : RV} (hv : okV v = true) (h : s.drop p = valueP v ++ r) (hr : ∀ c ∈ r.head?, c = 32 ∨ c = 41) : fetchedS s ⟨p, true⟩ = (v, ⟨p + (valueP v).length, true⟩) := by
 obtain ⟨k, n, fl, tx, pt, fr⟩ := v
 simp only [okV, Bool.and_eq_true, decide_eq_true_eq] at hv
 obtain ⟨⟨h1, h2, h3, h4⟩, hv⟩ := hv
 obtain ⟨k, rfl⟩ : ∃ m : Nat, k = m := ⟨k.toNat, by omega⟩
 have hd : ∀ c ∈ r.head?, isDig c = false := fun c hc => by rcases hr c hc with rfl | rfl <;> rfl
 -- what is alike in all kinds
 have base : ∀ (x : Bs), (pt = true → 10 ≤ k) → (pt = false → fr = 0) → s.drop p = itemA k ++ ((if pt = true then 60 :: digS fr ++ [62] else []) ++ 32 :: (x ++ r)) →
   ∃ q, s.drop q = x ++ r ∧ q = p + (itemA k).length + (if pt = true then 60 :: digS fr ++ [62] else [] : Bs).length + 1 ∧ fetchK (untilS s [32, 60, 13] ⟨p, true⟩).1 = k ∧
    partS s k (untilS s [32, 60, 13] ⟨p, true⟩).2 = ((pt, fr), ⟨p + (itemA k).length + (if pt = true then 60 :: digS fr ++ [62] else [] : Bs).length, true⟩) ∧
    needS s [32] ⟨p + (itemA k).length + (if pt = true then 60 :: digS fr ++ [62] else [] : Bs).length, true⟩ = ⟨q, true⟩ := by
  intro x hk h0 e1
  have hu := until_B (stops := [32, 60, 13]) e1 (item_plain k) (by cases pt <;> simp)
  have e2 := drop_B e1
  have e3 := drop_B e2
  refine ⟨_, drop_B (w := [32]) e3, rfl, ?_, ?_, ?_⟩
  ·rw [hu]; exact fetchK_item k (by omega) (by omega)
  ·rw [hu]; exact part_B hk h0 h4 e2
  ·exact need_B (w := [32]) e3
 by_cases c6 : k = 6
 ·subst c6
  simp only [bareP] at hv
  simp at hv
  obtain ⟨⟨hl, rfl⟩, ⟨rfl, rfl⟩, rfl⟩ := hv
  simp only [valueP] at h ⊢
  simp at h ⊢
  obtain ⟨q, b1, b2, b3, b4, b5⟩ := base (printF fl) z_7 z_7 (by rw [h]; simp)
  unfold fetchedS
  simp only [b3, b4, b5, flags_B b1 hl]
  simp [b2]
  omega
 by_cases c9 : k = 9
 ·subst c9
  simp [bareP] at hv
  obtain ⟨rfl, ⟨rfl, rfl⟩, rfl⟩ := hv
  simp [valueP] at h ⊢
  obtain ⟨q, b1, b2, b3, b4, b5⟩ := base ([40] ++ (digS n ++ [41])) z_7 z_7 (by rw [h]; simp)
  have e1 : s.drop q = [40] ++ (digS n ++ ([41] ++ r)) := by rw [b1]; simp
  have e2 := drop_B e1
  have e3 := drop_B e2
  unfold fetchedS
  simp only [b3, b4, b5, need_B e1]
  rw [number_B e2 h3 (by simp [isDig])]
  simp only [need_B e3]
  simp [b2]
  omega
 by_cases c7 : k = 7 ∨ k = 8
 ·have g1 : ¬((k : Int) = 6) := by omega
  have g2 : (k : Int) ≤ 9 := by omega
  have g3 : ¬((k : Int) < 6 ∨ 12 < (k : Int)) := by omega
  have g4 : ¬((k : Int) = 9) := by omega
  have g5 : (k : Int) < 10 := by omega
  simp only [g1, g2, if_true, if_false, bareP, Bool.and_eq_true, decide_eq_true_eq, List.isEmpty_iff, Bool.not_eq_true'] at hv
  obtain ⟨rfl, ⟨rfl, rfl⟩, rfl⟩ := hv
  simp only [valueP, g1, g3, g4, g5, if_true, if_false, Int.toNat_natCast] at h ⊢
  obtain ⟨q, b1, b2, b3, b4, b5⟩ := base (digS n) z_7 z_7 (by rw [h]; simp)
  unfold fetchedS
  simp only [b3, b4, b5, number_B b1 h3 hd]
  rw [if_neg (by omega), if_neg c6, if_neg c9, if_pos c7]
  simp [b2]
  omega
 ·have g1 : ¬((k : Int) = 6) := by omega
  have g2 : ¬((k : Int) ≤ 9) := by omega
  have g3 : ¬((k : Int) < 6 ∨ 12 < (k : Int)) := by omega
  have g4 : ¬((k : Int) = 9) := by omega
  have g5 : ¬((k : Int) < 10) := by omega
  simp only [g1, g2, if_true, if_false, Bool.and_eq_true, decide_eq_true_eq, List.isEmpty_iff, Bool.or_eq_true] at hv
  obtain ⟨⟨⟨ht, rfl⟩, rfl⟩, hp⟩ := hv
  simp only [valueP, partP, g1, g3, g4, g5, if_true, if_false, Int.toNat_natCast] at h ⊢
  obtain ⟨q, b1, b2, b3, b4, b5⟩ := base (literalS tx) (fun _ => by omega) (fun e => by
   rcases hp with hp | hp
   ·rw [e] at hp; cases hp
   ·exact hp) (by rw [h]; simp)
  unfold fetchedS
  simp only [b3, b4, b5, lit_B b1 ht]
  rw [if_neg (by omega), if_neg c6, if_neg c9, if_neg c7]
  simp [b2]
  omega
theorem rows_B {s r : Bs} {one : RS → RV × RS} {f : RV → Bs} {g : RV → Bool}
  (ho : ∀ (p : Nat) (v : RV) (r : Bs), g v = true → s.drop p = f v ++ r → (∀ c ∈ r.head?, c = 32 ∨ c = 41) → one ⟨p, true⟩ = (v, ⟨p + (f v).length, true⟩))
  {p : Nat} {l : List RV} (h1 : 1 ≤ l.length) (h2 : l.length ≤ 10) (hg : ∀ v ∈ l, g v = true) (h : s.drop p = 40 :: joinS [32] (l.map f) ++ 41 :: r) :
  rowsS s one ⟨p, true⟩ = (l, ⟨p + (joinS [32] (l.map f)).length + 2, true⟩) := by
 have hl : ∀ (rest done : List RV) (k p : Nat), done ≠ [] → (∀ v ∈ rest, g v = true) → rest.length ≤ k → s.drop p = (rest.map fun v => 32 :: f v).flatten ++ 41 :: r →
   rowsL s one k done ⟨p, true⟩ = (done ++ rest, ⟨p + (rest.map fun v => 32 :: f v).flatten.length, true⟩) := by
  intro rest
  induction rest with
  | nil =>
   intro done k p h0 hg hk hs
   have hn : eatS s [32] ⟨p, true⟩ = (false, ⟨p, true⟩) := eat_H (a := 32) (c := 41) (v := []) (r := r) (by simpa using hs) rfl (by decide)
   cases k with
   | zero => simp [rowsL, hn]
   | succ k => simp [rowsL, hn]
  | cons v t ih =>
   intro done k p h0 hg hk hs
   cases k with
   | zero => simp at hk
   | succ k =>
    have e1 : s.drop p = [32] ++ (f v ++ ((t.map fun v => 32 :: f v).flatten ++ 41 :: r)) := by rw [hs]; simp
    have e2 := drop_B e1
    have e3 := drop_B e2
    have hone := ho _ v _ (hg v z_7) e2 (by
     intro c hc
     cases t with
     | nil => simp at hc; exact .inr hc.symm
     | cons y t => simp at hc; exact .inl hc.symm)
    rw [rowsL, eat_B e1, if_pos rfl]
    simp only [hone]
    rw [ih (done ++ [v]) k _ z_7 (fun x hx => hg x (List.mem_cons_of_mem _ hx)) (by simpa using hk) e3]
    simp
    omega
 have hj : ∀ (x : RV) (t : List RV), joinS [32] ((x :: t).map f) = f x ++ (t.map fun v => 32 :: f v).flatten := by
  intro x t
  induction t generalizing x with
  | nil => simp [joinS]
  | cons y t ih =>
   rw [List.map_cons, join_cons _ _ z_7, ih y]
   simp
 cases l with
 | nil => simp at h1
 | cons x t =>
  rw [hj] at h ⊢
  have e1 : s.drop p = [40] ++ (f x ++ ((t.map fun v => 32 :: f v).flatten ++ 41 :: r)) := by rw [h]; simp
  have e2 := drop_B e1
  have e3 := drop_B e2
  have e4 : s.drop (p + 1 + (f x).length + (t.map fun v => 32 :: f v).flatten.length) = [41] ++ r := drop_B e3
  have hone := ho _ x _ (hg x z_7) e2 (by
   intro c hc
   cases t with
   | nil => simp at hc; exact .inr hc.symm
   | cons y t => simp at hc; exact .inl hc.symm)
  unfold rowsS
  simp only [need_B e1, hone]
  rw [hl t [x] 10 _ z_7 (fun v hv => hg v (List.mem_cons_of_mem _ hv)) (by simp at h2; omega) e3]
  simp only [List.length_singleton, need_B e4]
  simp at h2 ⊢
  omega
theorem plain_ne {c : UInt8} (h : isPlain c = true) : c ≠ 13 := by
 rintro rfl
 simp [isPlain] at h
theorem code_B {s r c : Bs} {p : Nat} (hc : codeOk c = true) (h : s.drop p = codeP c ++ r) (hr : r.head? ≠ some 91) : codeS s ⟨p, true⟩ = (c, ⟨p + (codeP c).length, true⟩) := by
 unfold codeOk at hc
 simp only [Bool.or_eq_true, Bool.and_eq_true, List.isEmpty_iff, Bool.not_eq_true'] at hc
 by_cases h0 : c = []
 ·subst h0
  simp only [codeP, if_true, List.nil_append] at h ⊢
  have hn : eatS s [91] ⟨p, true⟩ = (false, ⟨p, true⟩) := by
   refine eat_N ?_
   rw [h]
   cases r with
   | nil => rfl
   | cons x r => simp at hr; simp [List.isPrefixOf, Ne.symm hr]
  unfold codeS
  simp [hn]
 ·rcases hc with hc | hc
  ·exact absurd hc h0
  have hf := plain_facts hc.1
  have e1 : s.drop p = [91] ++ (c ++ ([93, 32] ++ r)) := by rw [h]; simp [codeP, h0]
  have e2 := drop_B e1
  have e3 := drop_B e2
  have hu := until_B (stops := [93, 13]) e2 (fun x hx => by
   have := plain_ne (hf.1 x hx)
   have h93 : x ≠ 93 := fun e => by
    subst e
    have := hc.2
    simp [hx] at this
   simp [this, h93]) z_7
  unfold codeS
  rw [eat_B e1, if_pos rfl]
  simp only [hu, need_B e3, hc.1]
  simp [codeP, h0]
  omega
theorem statK_stat : ∀ k, 1 ≤ k → k ≤ 4 → statK (statW.getD (k - 1) []) = k ∧ ∀ c ∈ statW.getD (k - 1) [], c ∉ ([32, 13] : Bs) := by
 intro k h1 h2
 have : ∀ k, k < 5 → 1 ≤ k → statK (statW.getD (k - 1) []) = k ∧ ∀ c ∈ statW.getD (k - 1) [], c ∉ ([32, 13] : Bs) := by decide
 exact this k (by omega) h1
theorem told_B {s r tag code text : Bs} {p k : Nat} (hk : 1 ≤ k ∧ k ≤ 4) (hc : codeOk code = true) (hx : plainS text = true) (h91 : text.head? ≠ some 91) (ht : k ≠ 4 ∨ tag = [42])
  (h : s.drop p = statW.getD (k - 1) [] ++ 32 :: codeP code ++ text ++ 13 :: r) :
  toldS s tag ⟨p, true⟩ = (⟨k, tag, code, text, 0, [], 0, [], [], []⟩, ⟨p + (statW.getD (k - 1) [] ++ 32 :: codeP code ++ text).length, true⟩) := by
 obtain ⟨k1, k2⟩ := statK_stat k hk.1 hk.2
 have hf := plain_facts hx
 have e1 : s.drop p = statW.getD (k - 1) [] ++ ([32] ++ (codeP code ++ (text ++ 13 :: r))) := by rw [h]; simp
 have e2 := drop_B e1
 have e3 := drop_B e2
 have e4 := drop_B e3
 have hu := until_B (stops := [32, 13]) e1 k2 z_7
 have hx' := until_B (stops := [13]) e4 (fun c hc => by simpa using plain_ne (hf.1 c hc)) z_7
 unfold toldS
 simp only [hu, need_B e2, code_B hc e3 (by
  cases text with
  | nil => exact absurd rfl hf.2.1
  | cons x t => simpa using h91), hx', k1, hx]
 refine Prod.ext rfl ?_
 simp only [RS.mk.injEq]
 refine ⟨by simp; omega, ?_⟩
 have h0 : 0 < k := by omega
 have h91' : decide (text.head? ≠ some 91) = true := decide_eq_true h91
 simp only [h0, h91', decide_true, Bool.true_and, Bool.and_true, Bool.or_eq_true, decide_eq_true_eq]
 exact ht
theorem nums_len (l : List Nat) : l.length ≤ (numsP l).length := by
 induction l with
 | nil => simp
 | cons n t ih => simp only [numsP, List.flatMap_cons, List.length_append, List.length_cons] at *; omega
theorem search_B {s r : Bs} {p m : Nat} {l : List Nat} (hm : m ≤ great) (hl : ∀ n ∈ l, n ≤ great) (hn : l.length ≤ 64) (h : s.drop p = numsP l ++ modP m ++ 13 :: r) :
  searchS s ⟨p, true⟩ = (⟨13, [], [], [], 0, l, m, [], [], []⟩, ⟨p + (numsP l ++ modP m).length, true⟩) := by
 have key : ∀ (t done : List Nat) (k p : Nat), (∀ n ∈ t, n ≤ great) → t.length < k → s.drop p = numsP t ++ modP m ++ 13 :: r →
   searchL s k done ⟨p, true⟩ = ((done ++ t, m), ⟨p + (numsP t ++ modP m).length, true⟩) := by
  intro t
  induction t with
  | nil =>
   intro done k p hg hk hs
   obtain ⟨k, rfl⟩ : ∃ j, k = j + 1 := ⟨k - 1, by omega⟩
   by_cases h0 : m = 0
   ·subst h0
    have hnn : eatS s [32] ⟨p, true⟩ = (false, ⟨p, true⟩) := eat_H (a := 32) (c := 13) (v := []) (r := r) (by simpa [numsP, modP] using hs) rfl (by decide)
    rw [searchL, hnn]
    simp [numsP, modP]
   ·have e1 : s.drop p = [32] ++ (wModseq ++ (digS m ++ ([41] ++ 13 :: r))) := by rw [hs]; simp [numsP, modP, h0]
    have e2 := drop_B e1
    have e3 := drop_B e2
    have e4 := drop_B e3
    rw [searchL, eat_B e1, if_pos rfl]
    simp only [eat_B e2]
    rw [if_pos trivial, number_B e3 hm (by simp [isDig])]
    simp only [need_B e4]
    have : 0 < m := by omega
    simp [numsP, modP, h0, this]
    omega
  | cons n t ih =>
   intro done k p hg hk hs
   obtain ⟨k, rfl⟩ : ∃ j, k = j + 1 := ⟨k - 1, by omega⟩
   have e1 : s.drop p = [32] ++ (digS n ++ (numsP t ++ modP m ++ 13 :: r)) := by rw [hs]; simp [numsP]
   have e2 : s.drop (p + 1) = digS n ++ (numsP t ++ modP m ++ 13 :: r) := drop_B e1
   have e3 := drop_B e2
   obtain ⟨c, v, hd⟩ : ∃ c v, digS n = c :: v := by
    cases e : digS n with
    | nil => exact absurd e (digS_ne n)
    | cons c v => exact ⟨c, v, rfl⟩
   have hc : isDig c = true := by have := digS_all n; rw [hd] at this; simp at this; exact this.1
   have hno : eatS s wModseq ⟨p + 1, true⟩ = (false, ⟨p + 1, true⟩) := eat_H (a := 40) (c := c) (v := [77, 79, 68, 83, 69, 81, 32]) (r := v ++ (numsP t ++ modP m ++ 13 :: r)) (by
    rw [e2, hd]
    rfl) rfl (by rintro rfl; simp [isDig] at hc)
   rw [searchL, eat_B e1, if_pos rfl]
   simp only [List.length_singleton, hno]
   rw [if_neg z_7, number_B e2 (hg n z_7) (by
    intro x hx
    cases t with
    | nil =>
     by_cases h0 : m = 0
     ·simp [numsP, modP, h0] at hx; subst hx; rfl
     ·simp [numsP, modP, h0] at hx; subst hx; rfl
    | cons y t => simp [numsP] at hx; subst hx; rfl)]
   simp only
   rw [ih (done ++ [n]) k _ (fun x hx => hg x (List.mem_cons_of_mem _ hx)) (by simpa using hk) e3]
   simp [numsP]
   omega
 have hlen : l.length < s.length + 1 := by
  have h1 := nums_len l
  have h2 := congrArg List.length h
  simp only [List.length_drop, List.length_append, List.length_cons] at h2
  omega
 unfold searchS
 simp only [key l [] _ p hl hlen h]
 simp [hn]
theorem only_of {r : RR} {t c x n l f b v m : Bool} (h : onlyB r t c x n l f b v m = true) :
  (t = false → r.tag = []) ∧ (c = false → r.code = []) ∧ (x = false → r.text = []) ∧ (n = false → r.n = 0) ∧ (l = false → r.nums = []) ∧ (f = false → r.flags = []) ∧ (b = false → r.box = []) ∧ (v = false → r.values = []) ∧ (m = false → r.mod = 0) := by
 unfold onlyB at h
 simp only [Bool.and_eq_true, Bool.or_eq_true, List.isEmpty_iff, decide_eq_true_eq] at h
 obtain ⟨⟨⟨⟨⟨⟨⟨⟨h1, h2⟩, h3⟩, h4⟩, h5⟩, h6⟩, h7⟩, h8⟩, h9⟩ := h
 refine ⟨?_, ?_, ?_, ?_, ?_, ?_, ?_, ?_, ?_⟩ <;> (rintro rfl; simp_all)
theorem dig_head (n : Nat) : ∃ c v, digS n = c :: v ∧ isDig c = true := by
 cases e : digS n with
 | nil => exact absurd e (digS_ne n)
 | cons c v =>
  have := digS_all n
  rw [e] at this
  simp at this
  exact ⟨c, v, rfl, this.1⟩
theorem eat_dig {s r w : Bs} {p n : Nat} (h : s.drop p = digS n ++ r) (hw : ∀ c ∈ w.head?, isDig c = false) (h0 : w ≠ []) : eatS s w ⟨p, true⟩ = (false, ⟨p, true⟩) := by
 obtain ⟨c, v, e, hc⟩ := dig_head n
 cases w with
 | nil => exact absurd rfl h0
 | cons a w =>
  have ha := hw a z_7
  exact eat_H (a := a) (c := c) (v := w) (r := v ++ r) (by rw [h, e]; rfl) rfl (by rintro rfl; rw [hc] at ha; cases ha)
def starP (r : RR) : Bs := (textP r).drop 2
theorem untag_dig {s r : Bs} {p n : Nat} (h : s.drop p = digS n ++ r) : untaggedS s ⟨p, true⟩ = numbered s ⟨p, true⟩ := by
 obtain ⟨c, v, e, hc⟩ := dig_head n
 unfold untaggedS
 rw [eat_dig (w := wFlags) h (by simp [wFlags, isDig]) z_7, if_neg z_7, eat_dig (w := wList) h (by simp [wList, isDig]) z_7, if_neg z_7, eat_dig (w := wSearch) h (by simp [wSearch, isDig]) z_7, if_neg z_7, eat_dig (w := wStatus) h (by simp [wStatus, isDig]) z_7, if_neg z_7]
 rw [if_pos]
 simp only
 rw [h, e]
 simpa using hc
theorem untagged_B {s t : Bs} {r : RR} {p : Nat} (hr : okR r = true) (h42 : (1 ≤ r.kind ∧ r.kind ≤ 4) ∧ r.tag = [42] ∨ 8 ≤ r.kind) (h : s.drop p = starP r ++ crlf ++ t) :
  untaggedS s ⟨p, true⟩ = (r, ⟨p + (starP r).length, true⟩) := by
 obtain ⟨kind, tag, code, text, n, nums, mod, flags, box, values⟩ := r
 simp only at h42
 unfold okR at hr
 simp only at hr
 by_cases c1 : 1 ≤ kind ∧ kind ≤ 4
 ·rw [if_pos c1] at hr
  simp only [Bool.and_eq_true, decide_eq_true_eq, Bool.or_eq_true] at hr
  obtain ⟨⟨⟨⟨h1, h2⟩, h3⟩, h4⟩, h5⟩ := hr
  obtain ⟨-, -, -, o4, o5, o6, o7, o8, o9⟩ := only_of h1
  simp only [forall_const] at o4 o5 o6 o7 o8 o9
  subst o4 o5 o6 o7 o8 o9
  have htag : tag = [42] := by
   rcases h42 with h | h
   ·exact h.2
   ·omega
  subst htag
  obtain ⟨k, rfl⟩ : ∃ m : Nat, kind = m := ⟨kind.toNat, by omega⟩
  simp only [starP, textP, c1, and_self, if_true, Int.toNat_natCast] at h ⊢
  have e : s.drop p = statW.getD (k - 1) [] ++ 32 :: codeP code ++ text ++ 13 :: (10 :: t) := by rw [h]; simp
  have hq := told_B (tag := [42]) ⟨by omega, by omega⟩ h4 h2 h3 (.inr rfl) e
  have hh : ∃ a v, s.drop p = a :: v ∧ (a = 79 ∨ a = 78 ∨ a = 66) := by
   have : ∀ k, k < 5 → 1 ≤ k → ∃ a ∈ ([79, 78, 66] : Bs), (statW.getD (k - 1) []).head? = some a := by decide
   obtain ⟨a, ha, hh⟩ := this k (by omega) (by omega)
   refine ⟨a, (statW.getD (k - 1) []).tail ++ (32 :: codeP code ++ text ++ 13 :: (10 :: t)), ?_, by simpa using ha⟩
   rw [e]
   cases hs : statW.getD (k - 1) [] with
   | nil => rw [hs] at hh; cases hh
   | cons b v => rw [hs] at hh; cases hh; simp
  obtain ⟨a, v, hv, ha⟩ := hh
  unfold untaggedS
  rw [eat_H (w := wFlags) hv (a := 70) (v := wFlags.tail) rfl (by rcases ha with rfl | rfl | rfl <;> decide), if_neg z_7,
   eat_H (w := wList) hv (a := 76) (v := wList.tail) rfl (by rcases ha with rfl | rfl | rfl <;> decide), if_neg z_7,
   eat_H (w := wSearch) hv (a := 83) (v := wSearch.tail) rfl (by rcases ha with rfl | rfl | rfl <;> decide), if_neg z_7,
   eat_H (w := wStatus) hv (a := 83) (v := wStatus.tail) rfl (by rcases ha with rfl | rfl | rfl <;> decide), if_neg z_7]
  rw [if_neg (by simp only [hv]; rcases ha with rfl | rfl | rfl <;> simp [isDig]), hq]
  simp
 have h8 : 8 ≤ kind := by omega
 rw [if_neg c1, if_neg (by omega), if_neg (by omega)] at hr
 by_cases c8 : kind = 8 ∨ kind = 9
 ·rw [if_pos c8] at hr
  simp only [Bool.and_eq_true, decide_eq_true_eq] at hr
  obtain ⟨o1, o2, o3, -, o5, o6, o7, o8, o9⟩ := only_of hr.1
  simp only [forall_const] at o1 o2 o3 o5 o6 o7 o8 o9
  subst o1 o2 o3 o5 o6 o7 o8 o9
  rcases c8 with rfl | rfl
  ·simp [starP, textP] at h ⊢
   have e1 : s.drop p = digS n ++ (wExists ++ (crlf ++ t)) := by rw [h]; simp
   rw [untag_dig e1]
   unfold numbered
   rw [number_B e1 hr.2 (by simp [isDig])]
   simp only
   rw [eat_B (drop_B e1), if_pos rfl]
   simp
   omega
  ·simp [starP, textP] at h ⊢
   have e1 : s.drop p = digS n ++ (wExpunge ++ (crlf ++ t)) := by rw [h]; simp
   rw [untag_dig e1]
   unfold numbered
   rw [number_B e1 hr.2 (by simp [isDig])]
   simp only
   have e2 := drop_B e1
   rw [eat_N (w := wExists) (by rw [e2]; rfl), if_neg z_7, eat_B e2, if_pos rfl]
   simp
   omega
 rw [if_neg c8] at hr
 by_cases c10 : kind = 10
 ·subst c10
  simp only [if_true, Bool.and_eq_true] at hr
  obtain ⟨o1, o2, o3, o4, o5, -, o7, o8, o9⟩ := only_of hr.1
  simp only [forall_const] at o1 o2 o3 o4 o5 o7 o8 o9
  subst o1 o2 o3 o4 o5 o7 o8 o9
  simp [starP, textP] at h ⊢
  have e1 : s.drop p = wFlags ++ (printF flags ++ (crlf ++ t)) := by rw [h]; simp
  unfold untaggedS
  rw [eat_B e1, if_pos rfl]
  simp only [flags_B (drop_B e1) hr.2]
  simp
  omega
 rw [if_neg c10] at hr
 by_cases c11 : kind = 11
 ·subst c11
  simp only [if_true, Bool.and_eq_true] at hr
  obtain ⟨o1, o2, o3, o4, o5, o6, -, o8, o9⟩ := only_of hr.1
  simp only [forall_const] at o1 o2 o3 o4 o5 o6 o8 o9
  subst o1 o2 o3 o4 o5 o6 o8 o9
  simp [starP, textP] at h ⊢
  have e1 : s.drop p = wList ++ (formS box ++ (crlf ++ t)) := by rw [h]; simp
  unfold untaggedS
  rw [eat_N (w := wFlags) (by rw [e1]; rfl), if_neg z_7, eat_B e1, if_pos rfl]
  simp only [box_B (drop_B e1) hr.2 z_7]
  simp
  omega
 rw [if_neg c11] at hr
 by_cases c12 : kind = 12
 ·subst c12
  simp only [if_true, Bool.and_eq_true, decide_eq_true_eq, List.all_eq_true] at hr
  obtain ⟨⟨⟨⟨g1, g2⟩, g3⟩, g4⟩, g5⟩ := hr
  obtain ⟨o1, o2, o3, o4, o5, o6, -, -, o9⟩ := only_of g4
  simp only [forall_const] at o1 o2 o3 o4 o5 o6 o9
  subst o1 o2 o3 o4 o5 o6 o9
  have hc : cellsP ⟨12, [], [], [], 0, [], 0, [], box, values⟩ = values.map countP := by
   have : ∀ l : List RV, (∀ v ∈ l, okC v = true) → (l.flatMap fun v => if 1 ≤ v.kind ∧ v.kind ≤ 5 then [countP v] else []) = l.map countP := by
    intro l
    induction l with
    | nil => intro _; rfl
    | cons v t ih =>
     intro h
     have hv := h v z_7
     simp only [okC, Bool.and_eq_true, decide_eq_true_eq] at hv
     rw [List.flatMap_cons, ih (fun x hx => h x (List.mem_cons_of_mem _ hx)), if_pos ⟨hv.1.1.1, hv.1.1.2.1⟩]
     rfl
   simp only [cellsP]
   simp [this values g3]
  simp [starP, textP, hc] at h ⊢
  have e1 : s.drop p = wStatus ++ (formS box ++ ([32] ++ (40 :: joinS [32] (values.map countP) ++ 41 :: (crlf ++ t)))) := by rw [h]; simp
  have e2 := drop_B e1
  have e3 := drop_B e2
  have e4 := drop_B e3
  unfold untaggedS
  rw [eat_N (w := wFlags) (by rw [e1]; rfl), if_neg z_7, eat_N (w := wList) (by rw [e1]; rfl), if_neg z_7, eat_N (w := wSearch) (by rw [e1]; rfl), if_neg z_7, eat_B e1, if_pos rfl]
  simp only [box_B e2 g5 z_7, need_B e3]
  rw [rows_B (f := countP) (g := okC) (fun p v r hv h hr => counted_B hv h hr) g1 g2 g3 e4]
  simp
  omega
 rw [if_neg c12] at hr
 by_cases c13 : kind = 13
 ·subst c13
  simp only [if_true, Bool.and_eq_true, decide_eq_true_eq, List.all_eq_true] at hr
  obtain ⟨⟨⟨g1, g2⟩, g3⟩, g4⟩ := hr
  obtain ⟨o1, o2, o3, o4, -, o6, o7, o8, -⟩ := only_of g1
  simp only [forall_const] at o1 o2 o3 o4 o6 o7 o8
  subst o1 o2 o3 o4 o6 o7 o8
  simp [starP, textP] at h ⊢
  have e1 : s.drop p = wSearch ++ (numsP nums ++ modP mod ++ 13 :: (10 :: t)) := by rw [h]; simp
  have e2 := drop_B e1
  unfold untaggedS
  rw [eat_N (w := wFlags) (by rw [e1]; rfl), if_neg z_7, eat_N (w := wList) (by rw [e1]; rfl), if_neg z_7, eat_B e1, if_pos rfl]
  simp only
  rw [search_B g3 g4 g2 e2]
  simp
  omega
 rw [if_neg c13] at hr
 by_cases c14 : kind = 14
 ·subst c14
  simp only [if_true, Bool.and_eq_true, decide_eq_true_eq, List.all_eq_true] at hr
  obtain ⟨⟨⟨⟨g1, g2⟩, g3⟩, g4⟩, g5⟩ := hr
  obtain ⟨o1, o2, o3, -, o5, o6, o7, -, o9⟩ := only_of g4
  simp only [forall_const] at o1 o2 o3 o5 o6 o7 o9
  subst o1 o2 o3 o5 o6 o7 o9
  have hc : cellsP ⟨14, [], [], [], n, [], 0, [], [], values⟩ = values.map valueP := by
   simp [cellsP, List.flatMap_singleton, ← List.map_eq_flatMap]
  simp [starP, textP, hc] at h ⊢
  have e1 : s.drop p = digS n ++ (wFetch ++ (40 :: joinS [32] (values.map valueP) ++ 41 :: (crlf ++ t))) := by rw [h]; simp
  have e2 := drop_B e1
  have e3 := drop_B e2
  rw [untag_dig e1]
  unfold numbered
  rw [number_B e1 g5 (by simp [isDig])]
  simp only
  rw [eat_N (w := wExists) (by rw [e2]; rfl), if_neg z_7, eat_N (w := wExpunge) (by rw [e2]; rfl), if_neg z_7]
  simp only [need_B e2]
  rw [rows_B (f := valueP) (g := okV) (fun p v r hv h hr => fetched_B hv h hr) g1 g2 g3 e3]
  simp
  omega
 ·rw [if_neg c14] at hr
  cases hr
theorem star_text {r : RR} (hr : okR r = true) (h : (1 ≤ r.kind ∧ r.kind ≤ 4) ∧ r.tag = [42] ∨ 8 ≤ r.kind) : textP r = 42 :: 32 :: starP r := by
 unfold starP textP
 rcases h with ⟨h, ht⟩ | h
 ·rw [if_pos h, ht]
  rfl
 ·repeat' split
  all_goals first | rfl | omega
theorem star_head {r : RR} (hr : okR r = true) (h : (1 ≤ r.kind ∧ r.kind ≤ 4) ∧ r.tag = [42] ∨ 8 ≤ r.kind) (t : Bs) : ∃ a v, starP r ++ t = a :: v ∧ a ≠ 67 ∧ a ≠ 69 := by
 obtain ⟨kind, tag, code, text, n, nums, mod, flags, box, values⟩ := r
 simp only at h
 have hd : ∀ (n : Nat) (x : Bs), ∃ a v, digS n ++ x = a :: v ∧ a ≠ 67 ∧ a ≠ 69 := fun n x => by
  obtain ⟨c, v, e, hc⟩ := dig_head n
  refine ⟨c, v ++ x, by rw [e]; rfl, ?_, ?_⟩ <;> (rintro rfl; simp [isDig] at hc)
 rcases h with ⟨h, rfl⟩ | h
 ·obtain ⟨k, rfl⟩ : ∃ m : Nat, kind = m := ⟨kind.toNat, by omega⟩
  have : ∀ k, k < 5 → 1 ≤ k → ∃ a ∈ ([79, 78, 66] : Bs), (statW.getD (k - 1) []).head? = some a := by decide
  obtain ⟨a, ha, hh⟩ := this k (by omega) (by omega)
  simp only [starP, textP, h, and_self, if_true, Int.toNat_natCast]
  cases hs : statW.getD (k - 1) [] with
  | nil => rw [hs] at hh; cases hh
  | cons b v =>
   rw [hs] at hh
   cases hh
   refine ⟨a, _, by simp; rfl, ?_, ?_⟩ <;> (rintro rfl; simp at ha)
 ·by_cases c8 : kind = 8
  ·subst c8
   obtain ⟨a, v, e, ha⟩ := hd n (wExists ++ t)
   exact ⟨a, v, by simpa [starP, textP] using e, ha⟩
  by_cases c9 : kind = 9
  ·subst c9
   obtain ⟨a, v, e, ha⟩ := hd n (wExpunge ++ t)
   exact ⟨a, v, by simpa [starP, textP] using e, ha⟩
  by_cases c10 : kind = 10
  ·subst c10; exact ⟨70, _, by simp [starP, textP]; rfl, by decide, by decide⟩
  by_cases c11 : kind = 11
  ·subst c11; exact ⟨76, _, by simp [starP, textP]; rfl, by decide, by decide⟩
  by_cases c13 : kind = 13
  ·subst c13; exact ⟨83, _, by simp [starP, textP]; rfl, by decide, by decide⟩
  by_cases c14 : kind = 14
  ·subst c14
   obtain ⟨a, v, e, ha⟩ := hd n (wFetch ++ 40 :: joinS [32] (cellsP ⟨14, tag, code, text, n, nums, mod, flags, box, values⟩) ++ [41] ++ t)
   exact ⟨a, v, by simpa [starP, textP] using e, ha⟩
  ·refine ⟨83, ?_, ?_, by decide, by decide⟩
   ·exact (starP ⟨kind, tag, code, text, n, nums, mod, flags, box, values⟩ ++ t).tail
   ·simp only [starP, textP]
    rw [if_neg (by omega), if_neg (by omega), if_neg (by omega), if_neg (by omega), if_neg c8, if_neg c9, if_neg c10, if_neg c11, if_neg c13, if_neg c14]
    rfl
theorem read_B {r : RR} (hr : okR r = true) (t : Bs) : readS ((textP r ++ crlf) ++ t) = some (r, (textP r ++ crlf).length) := by
 have fin : ∀ s : Bs, s = textP r ++ crlf ++ t → eatS s (caps ++ crlf) ⟨0, true⟩ = (false, ⟨0, true⟩) → eatS s (enab ++ crlf) ⟨0, true⟩ = (false, ⟨0, true⟩) → restS s ⟨0, true⟩ = (r, ⟨(textP r).length, true⟩) → readS s = some (r, (textP r ++ crlf).length) := by
  intro s hs h1 h2 h3
  have e : s.drop (0 + (textP r).length) = crlf ++ t := drop_B (p := 0) (by rw [hs]; simp)
  unfold readS
  simp only [h1, h2, h3]
  rw [if_neg z_7, if_neg z_7, need_B (p := (textP r).length) (by simpa using e), if_pos rfl]
  simp
 by_cases c6 : r.kind = 6
 ·have hr' := hr
  obtain ⟨kind, tag, code, text, n, nums, mod, flags, box, values⟩ := r
  simp only at c6
  subst c6
  simp [okR] at hr'
  obtain ⟨o1, o2, o3, o4, o5, o6, o7, o8, o9⟩ := only_of hr'
  simp only [forall_const] at o1 o2 o3 o4 o5 o6 o7 o8 o9
  subst o1 o2 o3 o4 o5 o6 o7 o8 o9
  have e : (textP ⟨6, [], [], [], 0, [], 0, [], [], []⟩ ++ crlf ++ t).drop 0 = (caps ++ crlf) ++ t := by simp [textP]
  unfold readS
  simp only [eat_B e]
  rw [if_pos trivial]
  simp [textP]
 by_cases c7 : r.kind = 7
 ·have hr' := hr
  obtain ⟨kind, tag, code, text, n, nums, mod, flags, box, values⟩ := r
  simp only at c7
  subst c7
  simp [okR] at hr'
  obtain ⟨o1, o2, o3, o4, o5, o6, o7, o8, o9⟩ := only_of hr'
  simp only [forall_const] at o1 o2 o3 o4 o5 o6 o7 o8 o9
  subst o1 o2 o3 o4 o5 o6 o7 o8 o9
  have e : (textP ⟨7, [], [], [], 0, [], 0, [], [], []⟩ ++ crlf ++ t).drop 0 = (enab ++ crlf) ++ t := by simp [textP]
  have hn : eatS (textP ⟨7, [], [], [], 0, [], 0, [], [], []⟩ ++ crlf ++ t) (caps ++ crlf) ⟨0, true⟩ = (false, ⟨0, true⟩) := eat_N (by rw [e]; rfl)
  unfold readS
  simp only [hn, eat_B e]
  rw [if_neg z_7, if_pos trivial]
  simp [textP]
 by_cases c5 : r.kind = 5
 ·have hr' := hr
  obtain ⟨kind, tag, code, text, n, nums, mod, flags, box, values⟩ := r
  simp only at c5
  subst c5
  simp [okR] at hr'
  obtain ⟨o1, o2, -, o4, o5, o6, o7, o8, o9⟩ := only_of hr'.1
  simp only [forall_const] at o1 o2 o4 o5 o6 o7 o8 o9
  subst o1 o2 o4 o5 o6 o7 o8 o9
  have hf := plain_facts hr'.2
  have e : (textP ⟨5, [], [], text, 0, [], 0, [], [], []⟩ ++ crlf ++ t).drop 0 = [43, 32] ++ (text ++ 13 :: (10 :: t)) := by simp [textP]
  have e' : (textP ⟨5, [], [], text, 0, [], 0, [], [], []⟩ ++ crlf ++ t).drop 0 = 43 :: (32 :: (text ++ 13 :: (10 :: t))) := e
  refine fin _ rfl (eat_H e' (a := 42) (v := (caps ++ crlf).tail) rfl (by decide)) (eat_H e' (a := 42) (v := (enab ++ crlf).tail) rfl (by decide)) ?_
  unfold restS
  rw [eat_B e, if_pos rfl]
  simp only
  rw [until_B (stops := [13]) (drop_B e) (fun c hc => by simpa using plain_ne (hf.1 c hc)) z_7]
  simp [hr'.2, textP]
  omega
 by_cases hs : (1 ≤ r.kind ∧ r.kind ≤ 4) ∧ r.tag = [42] ∨ 8 ≤ r.kind
 ·have ht := star_text hr hs
  obtain ⟨a, v, e, h67, h69⟩ := star_head hr hs (crlf ++ t)
  have e0 : (textP r ++ crlf ++ t).drop 0 = [42, 32] ++ (starP r ++ (crlf ++ t)) := by rw [ht]; simp
  have e1 : (textP r ++ crlf ++ t).drop 0 = 42 :: 32 :: a :: v := by rw [e0, e]; rfl
  refine fin _ rfl ?_ ?_ ?_
  ·refine eat_N ?_
   rw [e1]
   simp [List.isPrefixOf, Ne.symm h67]
  ·refine eat_N ?_
   rw [e1]
   simp [List.isPrefixOf, Ne.symm h69]
  ·unfold restS
   rw [eat_H (w := [43, 32]) (a := 43) (c := 42) (v := [32]) (r := 32 :: a :: v) e1 rfl (by decide), if_neg z_7, eat_B e0, if_pos rfl]
   rw [untagged_B hr hs (t := t) (by have := drop_B e0; rw [this]; simp)]
   rw [ht]
   simp
   omega
 ·obtain ⟨kind, tag, code, text, n, nums, mod, flags, box, values⟩ := r
  simp only at c5 c6 c7 hs
  have hr' := hr
  unfold okR at hr'
  simp only at hr'
  by_cases c1 : 1 ≤ kind ∧ kind ≤ 4
  ·rw [if_pos c1] at hr'
   simp only [Bool.and_eq_true, decide_eq_true_eq, Bool.or_eq_true] at hr'
   obtain ⟨⟨⟨⟨h1, h2⟩, h3⟩, h4⟩, h5⟩ := hr'
   obtain ⟨-, -, -, o4, o5, o6, o7, o8, o9⟩ := only_of h1
   simp only [forall_const] at o4 o5 o6 o7 o8 o9
   subst o4 o5 o6 o7 o8 o9
   have h5' : kind < 4 ∧ tagP tag = true := by
    rcases h5 with h5 | h5
    ·exact absurd (.inl ⟨c1, h5⟩) hs
    ·exact h5
   obtain ⟨hk4, htag⟩ := h5'
   unfold tagP atomS at htag
   simp only [Bool.and_eq_true, List.all_eq_true, Bool.not_eq_true', List.isEmpty_eq_false_iff, decide_eq_true_eq] at htag
   obtain ⟨⟨⟨ha, hne⟩, h43⟩, h32⟩ := htag
   obtain ⟨k, rfl⟩ : ∃ m : Nat, kind = m := ⟨kind.toNat, by omega⟩
   have htx : textP ⟨k, tag, code, text, 0, [], 0, [], [], []⟩ = tag ++ 32 :: statW.getD (k - 1) [] ++ 32 :: codeP code ++ text := by
    simp only [textP, c1, and_self, if_true, Int.toNat_natCast]
   obtain ⟨a, u, rfl⟩ : ∃ a u, tag = a :: u := by
    cases tag with
    | nil => exact absurd rfl hne
    | cons a u => exact ⟨a, u, rfl⟩
   have ha0 := isAtom_ne (ha a z_7)
   have h43a : a ≠ 43 := by rintro rfl; simp at h43
   have e1 : (textP ⟨k, a :: u, code, text, 0, [], 0, [], [], []⟩ ++ crlf ++ t).drop 0 = (a :: u) ++ ([32] ++ (statW.getD (k - 1) [] ++ 32 :: codeP code ++ text ++ 13 :: (10 :: t))) := by rw [htx]; simp
   have e1' : (textP ⟨k, a :: u, code, text, 0, [], 0, [], [], []⟩ ++ crlf ++ t).drop 0 = a :: (u ++ ([32] ++ (statW.getD (k - 1) [] ++ 32 :: codeP code ++ text ++ 13 :: (10 :: t)))) := e1
   have e2 := drop_B e1
   have e3 := drop_B e2
   refine fin _ rfl (eat_H e1' (a := 42) (v := (caps ++ crlf).tail) rfl (fun e => ha0.2.2.2.1 e.symm)) (eat_H e1' (a := 42) (v := (enab ++ crlf).tail) rfl (fun e => ha0.2.2.2.1 e.symm)) ?_
   unfold restS
   rw [eat_H (w := [43, 32]) (a := 43) (v := [32]) e1' rfl (fun e => h43a e.symm), if_neg z_7, eat_H (w := [42, 32]) (a := 42) (v := [32]) e1' rfl (fun e => ha0.2.2.2.1 e.symm), if_neg z_7]
   have hu := until_B (stops := [32, 13]) e1 (fun c hc => by have := isAtom_ne (ha c hc); simp [this.1, this.2.1]) z_7
   simp only [hu, need_B e2]
   have hat : (true && atomS (a :: u) && decide ((a :: u).length ≤ 32) && !(a :: u).contains 43) = true := by
    rw [h43]
    have : atomS (a :: u) = true := by
     unfold atomS
     simp only [Bool.and_eq_true, List.all_eq_true]
     exact ⟨ha, rfl⟩
    simp [this]
    simpa using h32
   rw [hat, told_B (k := k) ⟨by omega, by omega⟩ h4 h2 h3 (.inl (by omega)) e3, htx]
   simp
   omega
  ·rw [if_neg c1, if_neg c5, if_neg (by omega), if_neg (by omega), if_neg (by omega), if_neg (by omega), if_neg (by omega), if_neg (by omega), if_neg (by omega)] at hr'
   cases hr'
end Go.Proofs.YtgllpcggdcknaaaGreatDoor.Rp
namespace Go.Proofs.YtgllpcggdcknaaaGreatDoor.Rp
open Go Go.Sl
def beginsS (s : Bs) (p : Nat) (w : Bs) : Bool := decide (p ≤ s.length) && w.isPrefixOf (s.drop p)
def toS (s : Bs) (p : Nat) (stops : Bs) : Nat := p + (stopW stops (s.drop p)).length
def numR (s : Bs) (p : Nat) : Nat × Nat := ((numS (dgs (s.drop p))).getD 0, p + (dgs (s.drop p)).length)
def cutS (s : Bs) (p q : Nat) : Bs := (s.take q).drop p
def wordR (s : Bs) (p : Nat) : Nat := ((List.range 4).find? fun k => beginsS s p (32 :: statW.getD k [] ++ [32])).elim 0 (· + 1)
def codeR (s : Bs) (p : Nat) : Option (Bs × Nat) :=
  if beginsS s p [91] = true then
    (if s.length < toS s p [93, 13] + 2 then none else some (cutS s (p + 1) (toS s p [93, 13]), toS s p [93, 13] + 2))
  else some ([], p)
def toldR (s : Bs) (p : Nat) : RR :=
  let k := wordR s p
  if k = 0 then R0 else
  match codeR s (p + (statW.getD (k - 1) []).length + 2) with
  | none => R0
  | some c => ⟨k, s.take p, c.1, cutS s c.2 (toS s c.2 [13]), 0, [], 0, [], [], []⟩
def boxR (s : Bs) (p : Nat) : Bs × Nat :=
  if beginsS s p [34] = true then (((uqS (s.drop p)).getD ([], 0)).1, p + ((uqS (s.drop p)).getD ([], 0)).2)
  else (cutS s p (toS s p [32, 13]), toS s p [32, 13])
def kindR (w : Bs) (fetch : Bool) : Nat := if fetch = true then fetchK w else countK w
def valR (s : Bs) (p : Nat) (fetch : Bool) : RV × Nat :=
  let w := cutS s p (toS s p [32, 60, 13])
  let k := kindR w fetch
  let e := p + w.length
  let q : (Bool × Nat) × Nat := if 10 ≤ k ∧ beginsS s e [60] = true then ((true, (numR s (e + 1)).1), (numR s (e + 1)).2 + 1) else ((false, 0), e)
  let f := q.2 + 1
  if k = 0 ∨ s.length < f then (V0, p)
  else if k = 6 then (⟨6, 0, (parseG (s.drop f)).1, [], q.1.1, q.1.2⟩, f + (parseG (s.drop f)).2.1)
  else if k = 9 then (⟨9, (numR s (min (f + 1) s.length)).1, [], [], q.1.1, q.1.2⟩, (numR s (min (f + 1) s.length)).2 + 1)
  else if k < 9 then (⟨k, (numR s f).1, [], [], q.1.1, q.1.2⟩, (numR s f).2)
  else
    (let m := numR s (min (f + 1) s.length)
     if s.length < m.2 + 3 ∨ s.length - (m.2 + 3) < m.1 then (V0, p)
     else (⟨k, 0, [], cutS s (m.2 + 3) (m.2 + 3 + m.1), q.1.1, q.1.2⟩, m.2 + 3 + m.1))
def rowsRL (s : Bs) (fetch : Bool) : Nat → List RV → Nat → List RV
  | 0, l, _ => l
  | k + 1, l, p =>
    let v := valR s (p + 1) fetch
    if v.2 ≤ p + 1 ∨ beginsS s v.2 [32] = false then l ++ [v.1] else rowsRL s fetch k (l ++ [v.1]) v.2
def rowsR (s : Bs) (p : Nat) (fetch : Bool) : List RV := if beginsS s p [40] = true then rowsRL s fetch 11 [] p else []
def searchRL (s : Bs) : Nat → List Nat → Nat → List Nat × Nat
  | 0, l, _ => (l, 0)
  | k + 1, l, p => if beginsS s p [32] = true then
      (if beginsS s p (32 :: wModseq) = true then (l, (numR s (p + 9)).1) else searchRL s k (l ++ [(numR s (p + 1)).1]) (numR s (p + 1)).2)
    else (l, 0)
def searchR (s : Bs) : RR := ⟨13, [], [], [], 0, (searchRL s 66 [] 8).1, (searchRL s 66 [] 8).2, [], [], []⟩
abbrev wCap : Bs := [67, 65, 80, 65, 66, 73, 76, 73, 84, 89]
abbrev wEnab : Bs := [69, 78, 65, 66, 76, 69, 68]
def guessS (s : Bs) : RR :=
  if beginsS s 0 [43, 32] = true then ⟨5, [], [], cutS s 2 (toS s 2 [13]), 0, [], 0, [], [], []⟩
  else if beginsS s 0 [42, 32] = false then toldR s (toS s 0 [32])
  else if beginsS s 2 wCap = true then ⟨6, [], [], [], 0, [], 0, [], [], []⟩
  else if beginsS s 2 wEnab = true then ⟨7, [], [], [], 0, [], 0, [], [], []⟩
  else if beginsS s 2 wFlags = true then ⟨10, [], [], [], 0, [], 0, (parseG (s.drop 8)).1, [], []⟩
  else if beginsS s 2 wList = true then ⟨11, [], [], [], 0, [], 0, [], (boxR s 14).1, []⟩
  else if beginsS s 2 wStatus = true then ⟨12, [], [], [], 0, [], 0, [], (boxR s 9).1, rowsR s ((boxR s 9).2 + 1) false⟩
  else if beginsS s 2 wSearch = true then searchR s
  else if (numR s 2).2 = 2 then toldR s 1
  else if beginsS s (numR s 2).2 wExists = true then ⟨8, [], [], [], (numR s 2).1, [], 0, [], [], []⟩
  else if beginsS s (numR s 2).2 wExpunge = true then ⟨9, [], [], [], (numR s 2).1, [], 0, [], [], []⟩
  else ⟨14, [], [], [], (numR s 2).1, [], 0, [], [], rowsR s ((numR s 2).2 + 7) true⟩
theorem le_of_drop {s w r : Bs} {p : Nat} (h : s.drop p = w ++ r) (hw : w ≠ []) : p + w.length ≤ s.length := by
  have e := congrArg List.length h
  have := List.length_pos_iff.mpr hw
  simp only [List.length_drop, List.length_append] at e
  omega
theorem beg_C {s w r : Bs} {p : Nat} (h : s.drop p = w ++ r) (hw : w ≠ []) : beginsS s p w = true := by
  have h1 : w.isPrefixOf (s.drop p) = true := by rw [h]; exact List.isPrefixOf_iff_prefix.mpr ⟨r, rfl⟩
  have := le_of_drop h hw
  unfold beginsS
  rw [h1, decide_eq_true (by omega)]
  rfl
theorem beg_N {s w : Bs} {p : Nat} (h : w.isPrefixOf (s.drop p) = false) : beginsS s p w = false := by unfold beginsS; rw [h, Bool.and_false]
theorem beg_H {s w r v : Bs} {p : Nat} {a c : UInt8} (h : s.drop p = c :: r) (hw : w = a :: v) (hne : a ≠ c) : beginsS s p w = false := by
  refine beg_N ?_
  rw [h, hw]
  simp [List.isPrefixOf, hne]
theorem to_C {s w r stops : Bs} {p : Nat} (h : s.drop p = w ++ r) (hw : ∀ c ∈ w, c ∉ stops) (hr : ∀ c ∈ r.head?, c ∈ stops) : toS s p stops = p + w.length := by
  have e : stopW stops (s.drop p) = w := by
    unfold stopW
    rw [h]
    exact takeWhile_of _ _ _ (fun c hc => by simpa using hw c hc) (fun c hc => by simpa using hr c hc)
  unfold toS
  rw [e]
theorem cut_C {s w r : Bs} {p : Nat} (h : s.drop p = w ++ r) : cutS s p (p + w.length) = w := by
  unfold cutS
  rw [List.drop_take, h]
  simp
theorem num_C {s r : Bs} {p n : Nat} (h : s.drop p = digS n ++ r) (hn : n ≤ great) (hr : ∀ c ∈ r.head?, isDig c = false) : numR s p = (n, p + (digS n).length) := by
  unfold numR
  rw [h, dgs_dig n r hr, numS_dig hn]
  rfl
theorem boxR_C {s r b : Bs} {p : Nat} (h : s.drop p = formS b ++ r) (hb : isBox b = true) (hr : ∀ c ∈ r.head?, c = 32 ∨ c = 13) : boxR s p = (b, p + (formS b).length) := by
  have hp := isBox_p hb
  unfold boxP at hp
  simp at hp
  rcases form_box hb with ⟨hf, ha⟩ | hf
  · unfold atomS at ha
    simp only [Bool.and_eq_true, List.all_eq_true, Bool.not_eq_true', List.isEmpty_eq_false_iff] at ha
    rw [hf] at h ⊢
    obtain ⟨a, u, rfl⟩ : ∃ a u, b = a :: u := by
      cases b with
      | nil => exact absurd rfl ha.2
      | cons a u => exact ⟨a, u, rfl⟩
    have ht := to_C (stops := [32, 13]) h (fun c hc => by
      have := isAtom_ne (ha.1 c hc)
      simp [this.1, this.2.1]) (fun c hc => by simpa using hr c hc)
    unfold boxR
    rw [beg_H (w := [34]) (a := 34) (v := []) (h : s.drop p = a :: (u ++ r)) rfl (fun e => (isAtom_ne (ha.1 a z_7)).2.2.1 e.symm), if_neg z_7, ht, cut_C h]
  · have hq : uqS (s.drop p) = some (b, (formS b).length) := by
      rw [h, hf]
      have : 34 :: b ++ [34] ++ r = 34 :: (b ++ 34 :: r) := by simp
      rw [this]
      unfold uqS
      simp only
      rw [if_pos trivial, uqL_plain b [] 1 r (fun c hc => ⟨(boxC_q (hp.1.1.1.2 c hc)).1, (boxC_q (hp.1.1.1.2 c hc)).2.1, (boxC_q (hp.1.1.1.2 c hc)).2.2.1⟩) (by simp; omega)]
      simp
      omega
    unfold boxR
    rw [beg_C (w := [34]) (r := b ++ [34] ++ r) (by rw [h, hf]; simp) z_7, if_pos rfl, hq]
    rfl
theorem wordR_C {s r : Bs} {p k : Nat} (hk : 1 ≤ k ∧ k ≤ 4) (h : s.drop p = 32 :: statW.getD (k - 1) [] ++ 32 :: r) : wordR s p = k := by
  have hy : beginsS s p (32 :: statW.getD (k - 1) [] ++ [32]) = true := beg_C (r := r) (by rw [h]; simp) z_7
  have hn : ∀ j, j < 4 → j ≠ k - 1 → beginsS s p (32 :: statW.getD j [] ++ [32]) = false := by
    intro j hj hne
    refine beg_N ?_
    rw [h]
    have : ∀ a, a < 4 → ∀ b, b < 4 → a ≠ b → ∀ x : Bs, List.isPrefixOf (32 :: statW.getD a [] ++ [32]) (32 :: statW.getD b [] ++ 32 :: x) = false := by
      intro a ha b hb hab x
      have ca : a = 0 ∨ a = 1 ∨ a = 2 ∨ a = 3 := by omega
      have cb : b = 0 ∨ b = 1 ∨ b = 2 ∨ b = 3 := by omega
      rcases ca with rfl | rfl | rfl | rfl <;> rcases cb with rfl | rfl | rfl | rfl <;> first | exact absurd rfl hab | rfl
    exact this j hj (k - 1) (by omega) hne r
  unfold wordR
  have e : List.range 4 = [0, 1, 2, 3] := rfl
  rw [e]
  have ck : k = 1 ∨ k = 2 ∨ k = 3 ∨ k = 4 := by omega
  rcases ck with rfl | rfl | rfl | rfl
  · have hy' : beginsS s p (32 :: statW.getD 0 [] ++ [32]) = true := hy
    simp only [List.find?, hy']; rfl
  · have hy' : beginsS s p (32 :: statW.getD 1 [] ++ [32]) = true := hy
    simp only [List.find?, hn 0 (by omega) (by omega), hy']; rfl
  · have hy' : beginsS s p (32 :: statW.getD 2 [] ++ [32]) = true := hy
    simp only [List.find?, hn 0 (by omega) (by omega), hn 1 (by omega) (by omega), hy']; rfl
  · have hy' : beginsS s p (32 :: statW.getD 3 [] ++ [32]) = true := hy
    simp only [List.find?, hn 0 (by omega) (by omega), hn 1 (by omega) (by omega), hn 2 (by omega) (by omega), hy']; rfl
theorem codeR_C {s r c : Bs} {p : Nat} (hc : codeOk c = true) (h : s.drop p = codeP c ++ r) (hr : r.head? ≠ some 91) : codeR s p = some (c, p + (codeP c).length) := by
  unfold codeOk at hc
  simp only [Bool.or_eq_true, Bool.and_eq_true, List.isEmpty_iff, Bool.not_eq_true'] at hc
  by_cases h0 : c = []
  · subst h0
    simp only [codeP, if_true, List.nil_append] at h ⊢
    have hn : beginsS s p [91] = false := by
      refine beg_N ?_
      rw [h]
      cases r with
      | nil => rfl
      | cons x r => simp at hr; simp [List.isPrefixOf, Ne.symm hr]
    unfold codeR
    simp [hn]
  · rcases hc with hc | hc
    · exact absurd hc h0
    have hf := plain_facts hc.1
    have e1 : s.drop p = (91 :: c) ++ ([93, 32] ++ r) := by rw [h]; simp [codeP, h0]
    have e0 : s.drop p = [91] ++ (c ++ ([93, 32] ++ r)) := by rw [h]; simp [codeP, h0]
    have e2 := drop_B e0
    have e3 := drop_B e1
    have ht := to_C (stops := [93, 13]) e1 (fun x hx => by
      rcases List.mem_cons.mp hx with rfl | hx
      · simp
      · have := plain_ne (hf.1 x hx)
        have h93 : x ≠ 93 := fun e => by
          subst e
          have := hc.2
          simp [hx] at this
        simp [this, h93]) z_7
    have hl := le_of_drop e3 z_7
    unfold codeR
    rw [beg_C e0 z_7, if_pos rfl, ht, if_neg (by simp at hl ⊢; omega)]
    have hcut : cutS s (p + 1) (p + (91 :: c).length) = c := by
      have := cut_C (s := s) (p := p + 1) (w := c) (r := [93, 32] ++ r) e2
      rw [List.length_cons, ← Nat.add_assoc, Nat.add_right_comm]
      exact this
    rw [hcut]
    simp [codeP, h0]
    omega
theorem told_C {s r tag code text : Bs} {k : Nat} (hk : 1 ≤ k ∧ k ≤ 4) (hc : codeOk code = true) (hx : plainS text = true) (h91 : text.head? ≠ some 91)
    (h : s = tag ++ (32 :: statW.getD (k - 1) [] ++ 32 :: (codeP code ++ (text ++ 13 :: r)))) :
    toldR s tag.length = ⟨k, tag, code, text, 0, [], 0, [], [], []⟩ := by
  have hf := plain_facts hx
  have e0 : s.drop tag.length = 32 :: statW.getD (k - 1) [] ++ 32 :: (codeP code ++ (text ++ 13 :: r)) := by rw [h, List.drop_left]
  have e1 : s.drop tag.length = (32 :: statW.getD (k - 1) [] ++ [32]) ++ (codeP code ++ (text ++ 13 :: r)) := by rw [e0]; simp
  have e2 : s.drop (tag.length + (statW.getD (k - 1) []).length + 2) = codeP code ++ (text ++ 13 :: r) := by
    have := drop_B e1
    simpa [Nat.add_assoc] using this
  have e3 := drop_B e2
  have hh : (text ++ 13 :: r).head? ≠ some 91 := by
    cases text with
    | nil => exact absurd rfl hf.2.1
    | cons x t => simpa using h91
  unfold toldR
  simp only [wordR_C hk e0]
  rw [if_neg (by omega), codeR_C hc e2 hh]
  simp only
  rw [to_C (stops := [13]) e3 (fun c hc => by simpa using plain_ne (hf.1 c hc)) z_7, cut_C e3]
  have : s.take tag.length = tag := by rw [h]; simp
  rw [this]
theorem valC_C {s r : Bs} {p : Nat} {v : RV} (hv : okC v = true) (h : s.drop p = countP v ++ r) (hr : ∀ c ∈ r.head?, c = 32 ∨ c = 41) (h0 : r ≠ []) : valR s p false = (v, p + (countP v).length) := by
  obtain ⟨k, n, fl, tx, pt, fr⟩ := v
  simp only [okC, bareP, Bool.and_eq_true, decide_eq_true_eq, List.isEmpty_iff, Bool.not_eq_true'] at hv
  obtain ⟨⟨⟨h1, h2, h3⟩, rfl⟩, ⟨rfl, rfl⟩, rfl⟩ := hv
  obtain ⟨k, rfl⟩ : ∃ m : Nat, k = m := ⟨k.toNat, by omega⟩
  simp only [countP, Int.toNat_natCast] at h ⊢
  have e1 : s.drop p = itemA k ++ ([32] ++ (digS n ++ r)) := by rw [h]; simp
  have e2 := drop_B e1
  have e3 := drop_B e2
  have hl := le_of_drop e3 (digS_ne n)
  have ht := to_C (stops := [32, 60, 13]) e1 (item_plain k) z_7
  have hk : kindR (itemA k) false = k := countK_item k (by omega) (by omega)
  have hq : ∀ a b : (Bool × Nat) × Nat, (if 10 ≤ k ∧ beginsS s (p + (itemA k).length) [60] = true then a else b) = b := fun a b => if_neg (by omega)
  unfold valR
  rw [ht, cut_C e1]
  simp only [hk, hq]
  simp at hl
  rw [if_neg (by omega), if_neg (by omega), if_neg (by omega), if_pos (by omega)]
  have e3' : s.drop (p + (itemA k).length + 1) = digS n ++ r := e3
  rw [num_C e3' h3 (fun c hc => by rcases hr c hc with rfl | rfl <;> rfl)]
  simp
  omega
theorem valF_C {s r : Bs} {p : Nat} {v : RV} (hv : okV v = true) (h : s.drop p = valueP v ++ r) (hr : ∀ c ∈ r.head?, c = 32 ∨ c = 41) (h0 : r ≠ []) : valR s p true = (v, p + (valueP v).length) := by
  obtain ⟨k, n, fl, tx, pt, fr⟩ := v
  simp only [okV, Bool.and_eq_true, decide_eq_true_eq] at hv
  obtain ⟨⟨h1, h2, h3, h4⟩, hv⟩ := hv
  obtain ⟨k, rfl⟩ : ∃ m : Nat, k = m := ⟨k.toNat, by omega⟩
  have hd : ∀ c ∈ r.head?, isDig c = false := fun c hc => by rcases hr c hc with rfl | rfl <;> rfl
  have base : ∀ (x : Bs), (pt = true → 10 ≤ k) → (pt = false → fr = 0) → x ≠ [] → s.drop p = itemA k ++ ((if pt = true then 60 :: digS fr ++ [62] else []) ++ 32 :: (x ++ r)) →
      ∃ q, s.drop (q + 1) = x ++ r ∧ q = p + (itemA k).length + (if pt = true then 60 :: digS fr ++ [62] else [] : Bs).length ∧ q + 1 + x.length ≤ s.length ∧ cutS s p (toS s p [32, 60, 13]) = itemA k ∧
        (if 10 ≤ k ∧ beginsS s (p + (itemA k).length) [60] = true then ((true, (numR s (p + (itemA k).length + 1)).1), (numR s (p + (itemA k).length + 1)).2 + 1) else ((false, 0), p + (itemA k).length) : (Bool × Nat) × Nat) = ((pt, fr), q) := by
    intro x hk hz hx e1
    have ht := to_C (stops := [32, 60, 13]) e1 (item_plain k) (by cases pt <;> simp)
    have e2 := drop_B e1
    have e3 := drop_B e2
    have e4 := drop_B (w := [32]) e3
    have hl := le_of_drop e4 hx
    refine ⟨_, e4, rfl, hl, by rw [ht, cut_C e1], ?_⟩
    cases pt with
    | true =>
      have e2' : s.drop (p + (itemA k).length) = [60] ++ (digS fr ++ (62 :: 32 :: (x ++ r))) := by rw [e2]; simp
      have e3' : s.drop (p + (itemA k).length + 1) = digS fr ++ (62 :: 32 :: (x ++ r)) := drop_B e2'
      rw [if_pos ⟨hk rfl, beg_C e2' z_7⟩, num_C e3' h4 (by simp [isDig])]
      simp
      omega
    | false =>
      have e2' : s.drop (p + (itemA k).length) = 32 :: (x ++ r) := by rw [e2]; rfl
      rw [if_neg (fun hh => by rw [beg_H (w := [60]) (a := 60) (v := []) e2' rfl (by decide)] at hh; exact absurd hh.2 z_7), hz rfl]
      simp
  have hkk : kindR (itemA k) true = k := fetchK_item k (by omega) (by omega)
  by_cases c6 : k = 6
  · subst c6
    simp only [bareP] at hv
    simp at hv
    obtain ⟨⟨hl, rfl⟩, ⟨rfl, rfl⟩, rfl⟩ := hv
    simp only [valueP] at h ⊢
    simp at h ⊢
    obtain ⟨q, b1, b2, b3, b4, b5⟩ := base (printF fl) z_7 z_7 (by simp [printF]) (by rw [h]; simp)
    unfold valR
    simp only [b4, hkk, b5]
    rw [if_neg (by omega), if_pos trivial, b1, parseG_print hl r]
    simp [b2]
    omega
  by_cases c9 : k = 9
  · subst c9
    simp [bareP] at hv
    obtain ⟨rfl, ⟨rfl, rfl⟩, rfl⟩ := hv
    simp [valueP] at h ⊢
    obtain ⟨q, b1, b2, b3, b4, b5⟩ := base ([40] ++ (digS n ++ [41])) z_7 z_7 z_7 (by rw [h]; simp)
    have e1 : s.drop (q + 1) = [40] ++ (digS n ++ (41 :: r)) := by rw [b1]; simp
    have e2 : s.drop (q + 1 + 1) = digS n ++ (41 :: r) := drop_B e1
    unfold valR
    simp only [b4, hkk, b5]
    simp at b3
    rw [if_neg (by omega), if_neg (by omega), if_pos trivial, Nat.min_eq_left (by omega), num_C e2 h3 (by simp [isDig])]
    simp [b2]
    omega
  by_cases c7 : k = 7 ∨ k = 8
  · have g1 : ¬((k : Int) = 6) := by omega
    have g2 : (k : Int) ≤ 9 := by omega
    have g3 : ¬((k : Int) < 6 ∨ 12 < (k : Int)) := by omega
    have g4 : ¬((k : Int) = 9) := by omega
    have g5 : (k : Int) < 10 := by omega
    simp only [g1, g2, if_true, if_false, bareP, Bool.and_eq_true, decide_eq_true_eq, List.isEmpty_iff, Bool.not_eq_true'] at hv
    obtain ⟨rfl, ⟨rfl, rfl⟩, rfl⟩ := hv
    simp only [valueP, g1, g3, g4, g5, if_true, if_false, Int.toNat_natCast] at h ⊢
    obtain ⟨q, b1, b2, b3, b4, b5⟩ := base (digS n) z_7 z_7 (digS_ne n) (by rw [h]; simp)
    unfold valR
    simp only [b4, hkk, b5]
    rw [if_neg (by omega), if_neg c6, if_neg c9, if_pos (by omega), num_C b1 h3 hd]
    simp [b2]
    omega
  · have g1 : ¬((k : Int) = 6) := by omega
    have g2 : ¬((k : Int) ≤ 9) := by omega
    have g3 : ¬((k : Int) < 6 ∨ 12 < (k : Int)) := by omega
    have g4 : ¬((k : Int) = 9) := by omega
    have g5 : ¬((k : Int) < 10) := by omega
    simp only [g1, g2, if_true, if_false, Bool.and_eq_true, decide_eq_true_eq, List.isEmpty_iff, Bool.or_eq_true] at hv
    obtain ⟨⟨⟨ht, rfl⟩, rfl⟩, hp⟩ := hv
    simp only [valueP, partP, g1, g3, g4, g5, if_true, if_false, Int.toNat_natCast] at h ⊢
    obtain ⟨q, b1, b2, b3, b4, b5⟩ := base (literalS tx) (fun _ => by omega) (fun e => by
      rcases hp with hp | hp
      · rw [e] at hp; cases hp
      · exact hp) (by simp [literalS]) (by rw [h]; simp)
    have e1 : s.drop (q + 1) = [123] ++ (digS tx.length ++ ([125, 13, 10] ++ (tx ++ r))) := by rw [b1]; simp [literalS]
    have e2 : s.drop (q + 1 + 1) = digS tx.length ++ ([125, 13, 10] ++ (tx ++ r)) := drop_B e1
    have e3 := drop_B e2
    have e4 : s.drop (q + 1 + 1 + (digS tx.length).length + 3) = tx ++ r := drop_B e3
    have hlit : (literalS tx).length = (digS tx.length).length + tx.length + 4 := by simp [literalS]; omega
    rw [hlit] at b3
    unfold valR
    simp only [b4, hkk, b5]
    rw [if_neg (by omega), if_neg c6, if_neg c9, if_neg (by omega), Nat.min_eq_left (by omega), num_C e2 (by unfold great; omega) (by simp [isDig])]
    simp only
    rw [if_neg (by omega), cut_C e4]
    simp [b2, hlit]
    omega
theorem rows_C {s r : Bs} {fetch : Bool} {f : RV → Bs} {g : RV → Bool}
    (ho : ∀ (p : Nat) (v : RV) (r : Bs), g v = true → s.drop p = f v ++ r → (∀ c ∈ r.head?, c = 32 ∨ c = 41) → r ≠ [] → valR s p fetch = (v, p + (f v).length)) (hf : ∀ v, g v = true → f v ≠ [])
    {p : Nat} {l : List RV} (h1 : 1 ≤ l.length) (h2 : l.length ≤ 10) (hg : ∀ v ∈ l, g v = true) (h : s.drop p = 40 :: joinS [32] (l.map f) ++ 41 :: r) :
    rowsR s p fetch = l := by
  have hl : ∀ (v : RV) (t done : List RV) (k p : Nat), (∀ x ∈ v :: t, g x = true) → t.length < k → s.drop (p + 1) = f v ++ ((t.map fun v => 32 :: f v).flatten ++ 41 :: r) →
      rowsRL s fetch k done p = done ++ v :: t := by
    intro v t
    induction t generalizing v with
    | nil =>
      intro done k p hg hk hs
      obtain ⟨k, rfl⟩ : ∃ j, k = j + 1 := ⟨k - 1, by omega⟩
      have hone := ho _ v _ (hg v z_7) hs z_7 z_7
      have e2 := drop_B hs
      rw [rowsRL]
      simp only [hone]
      rw [if_pos]
      right
      exact beg_H (a := 32) (c := 41) (v := []) (r := r) (by rw [e2]; simp) rfl (by decide)
    | cons y t ih =>
      intro done k p hg hk hs
      obtain ⟨k, rfl⟩ : ∃ j, k = j + 1 := ⟨k - 1, by omega⟩
      have hone := ho _ v _ (hg v z_7) hs z_7 z_7
      have e2 := drop_B hs
      have e3 : s.drop (p + 1 + (f v).length) = [32] ++ (f y ++ ((t.map fun v => 32 :: f v).flatten ++ 41 :: r)) := by rw [e2]; simp
      have hpos := List.length_pos_iff.mpr (hf v (hg v z_7))
      rw [rowsRL]
      simp only [hone]
      rw [if_neg, ih y (done ++ [v]) k _ (fun x hx => hg x (List.mem_cons_of_mem _ hx)) (by simpa using hk) (drop_B e3)]
      · simp
      · rintro (hh | hh)
        · omega
        · rw [beg_C e3 z_7] at hh; cases hh
  have hj : ∀ (x : RV) (t : List RV), joinS [32] ((x :: t).map f) = f x ++ (t.map fun v => 32 :: f v).flatten := by
    intro x t
    induction t generalizing x with
    | nil => simp [joinS]
    | cons y t ih =>
      rw [List.map_cons, join_cons _ _ z_7, ih y]
      simp
  cases l with
  | nil => simp at h1
  | cons x t =>
    rw [hj] at h
    have e1 : s.drop p = [40] ++ (f x ++ ((t.map fun v => 32 :: f v).flatten ++ 41 :: r)) := by rw [h]; simp
    unfold rowsR
    rw [beg_C e1 z_7, if_pos rfl, hl x t [] 11 p hg (by simp at h2; omega) (drop_B e1)]
    rfl
theorem search_C {s r : Bs} {m : Nat} {l : List Nat} (hm : m ≤ great) (hl : ∀ n ∈ l, n ≤ great) (hn : l.length ≤ 64) (h : s.drop 8 = numsP l ++ modP m ++ 13 :: r) :
    searchR s = ⟨13, [], [], [], 0, l, m, [], [], []⟩ := by
  have key : ∀ (t done : List Nat) (k p : Nat), (∀ n ∈ t, n ≤ great) → t.length < k → s.drop p = numsP t ++ modP m ++ 13 :: r → searchRL s k done p = (done ++ t, m) := by
    intro t
    induction t with
    | nil =>
      intro done k p hg hk hs
      obtain ⟨k, rfl⟩ : ∃ j, k = j + 1 := ⟨k - 1, by omega⟩
      by_cases h0 : m = 0
      · subst h0
        have hnn : beginsS s p [32] = false := beg_H (a := 32) (c := 13) (v := []) (r := r) (by simpa [numsP, modP] using hs) rfl (by decide)
        rw [searchRL, hnn]
        simp
      · have e1 : s.drop p = (32 :: wModseq) ++ (digS m ++ ([41] ++ 13 :: r)) := by rw [hs]; simp [numsP, modP, h0]
        have e0 : s.drop p = [32] ++ (wModseq ++ (digS m ++ ([41] ++ 13 :: r))) := by rw [e1]; simp
        have e2 : s.drop (p + 9) = digS m ++ ([41] ++ 13 :: r) := drop_B e1
        rw [searchRL, beg_C e0 z_7, if_pos rfl, beg_C e1 z_7, if_pos rfl, num_C e2 hm (by simp [isDig])]
        simp
    | cons n t ih =>
      intro done k p hg hk hs
      obtain ⟨k, rfl⟩ : ∃ j, k = j + 1 := ⟨k - 1, by omega⟩
      have e1 : s.drop p = [32] ++ (digS n ++ (numsP t ++ modP m ++ 13 :: r)) := by rw [hs]; simp [numsP]
      have e2 : s.drop (p + 1) = digS n ++ (numsP t ++ modP m ++ 13 :: r) := drop_B e1
      have e3 := drop_B e2
      obtain ⟨c, v, hd, hc⟩ := dig_head n
      have hno : beginsS s p (32 :: wModseq) = false := by
        refine beg_N ?_
        rw [e1, hd]
        have : (40 : UInt8) ≠ c := by rintro rfl; simp [isDig] at hc
        simp [List.isPrefixOf, this]
      rw [searchRL, beg_C e1 z_7, if_pos rfl, hno, if_neg z_7, num_C e2 (hg n z_7) (by
        intro x hx
        cases t with
        | nil =>
          by_cases h0 : m = 0
          · simp [numsP, modP, h0] at hx; subst hx; rfl
          · simp [numsP, modP, h0] at hx; subst hx; rfl
        | cons y t => simp [numsP] at hx; subst hx; rfl)]
      simp only
      rw [ih (done ++ [n]) k _ (fun x hx => hg x (List.mem_cons_of_mem _ hx)) (by simpa using hk) e3]
      simp
  unfold searchR
  rw [key l [] 66 8 hl (by omega) h]
  simp
end Go.Proofs.YtgllpcggdcknaaaGreatDoor.Rp
namespace Go.Proofs.YtgllpcggdcknaaaGreatDoor.Rp
open Go Go.Sl
theorem beg_dig {s r w : Bs} {p n : Nat} (h : s.drop p = digS n ++ r) (hw : ∀ c ∈ w.head?, isDig c = false) (h0 : w ≠ []) : beginsS s p w = false := by
 obtain ⟨c, v, e, hc⟩ := dig_head n
 cases w with
 | nil => exact absurd rfl h0
 | cons a w =>
  have ha := hw a z_7
  exact beg_H (a := a) (c := c) (v := w) (r := v ++ r) (by rw [h, e]; rfl) rfl (by rintro rfl; rw [hc] at ha; cases ha)
theorem guess_dig {s r : Bs} {n : Nat} (h0 : s = 42 :: 32 :: (digS n ++ r)) (hn : n ≤ great) (hr : ∀ c ∈ r.head?, isDig c = false) :
  guessS s = if beginsS s (2 + (digS n).length) wExists = true then ⟨8, [], [], [], n, [], 0, [], [], []⟩
   else if beginsS s (2 + (digS n).length) wExpunge = true then ⟨9, [], [], [], n, [], 0, [], [], []⟩
   else ⟨14, [], [], [], n, [], 0, [], [], rowsR s (2 + (digS n).length + 7) true⟩ := by
 have e0 : s.drop 0 = 42 :: (32 :: (digS n ++ r)) := h0
 have e0' : s.drop 0 = [42, 32] ++ (digS n ++ r) := h0
 have e2 : s.drop 2 = digS n ++ r := by rw [h0]; rfl
 have hpos := List.length_pos_iff.mpr (digS_ne n)
 unfold guessS
 rw [beg_H (w := [43, 32]) (a := 43) (v := [32]) e0 rfl (by decide), if_neg z_7, beg_C e0' z_7, if_neg z_7,
  beg_dig (w := wCap) e2 (by simp [isDig]) z_7, if_neg z_7, beg_dig (w := wEnab) e2 (by simp [isDig]) z_7, if_neg z_7,
  beg_dig (w := wFlags) e2 (by simp [wFlags, isDig]) z_7, if_neg z_7, beg_dig (w := wList) e2 (by simp [wList, isDig]) z_7, if_neg z_7,
  beg_dig (w := wStatus) e2 (by simp [wStatus, isDig]) z_7, if_neg z_7, beg_dig (w := wSearch) e2 (by simp [wSearch, isDig]) z_7, if_neg z_7, num_C e2 hn hr]
 rw [if_neg (by simp only; omega)]
theorem guess_C {r : RR} (hr : okR r = true) (t : Bs) : guessS ((textP r ++ crlf) ++ t) = r := by
 obtain ⟨kind, tag, code, text, n, nums, mod, flags, box, values⟩ := r
 have hr' := hr
 unfold okR at hr'
 simp only at hr'
 by_cases c1 : 1 ≤ kind ∧ kind ≤ 4
 ·rw [if_pos c1] at hr'
  simp only [Bool.and_eq_true, decide_eq_true_eq, Bool.or_eq_true] at hr'
  obtain ⟨⟨⟨⟨h1, h2⟩, h3⟩, h4⟩, h5⟩ := hr'
  obtain ⟨-, -, -, o4, o5, o6, o7, o8, o9⟩ := only_of h1
  simp only [forall_const] at o4 o5 o6 o7 o8 o9
  subst o4 o5 o6 o7 o8 o9
  obtain ⟨k, rfl⟩ : ∃ m : Nat, kind = m := ⟨kind.toNat, by omega⟩
  have hs : textP ⟨k, tag, code, text, 0, [], 0, [], [], []⟩ ++ crlf ++ t = tag ++ (32 :: statW.getD (k - 1) [] ++ 32 :: (codeP code ++ (text ++ 13 :: (10 :: t)))) := by
   simp [textP, c1]
  rw [hs]
  have hC := told_C (k := k) ⟨by omega, by omega⟩ h4 h2 h3 (rfl : tag ++ (32 :: statW.getD (k - 1) [] ++ 32 :: (codeP code ++ (text ++ 13 :: (10 :: t)))) = _)
  rcases h5 with h5 | ⟨hk4, htag⟩
  ·subst h5
   have hh : ∃ a v, statW.getD (k - 1) [] = a :: v ∧ (a = 79 ∨ a = 78 ∨ a = 66) := by
    have : ∀ k, k < 5 → 1 ≤ k → ∃ a ∈ ([79, 78, 66] : Bs), (statW.getD (k - 1) []).head? = some a := by decide
    obtain ⟨a, ha, hh⟩ := this k (by omega) (by omega)
    cases hs : statW.getD (k - 1) [] with
    | nil => rw [hs] at hh; cases hh
    | cons b v => rw [hs] at hh; cases hh; exact ⟨a, v, rfl, by simpa using ha⟩
   obtain ⟨a, v, ea, ha⟩ := hh
   generalize hsv : ([42] ++ (32 :: statW.getD (k - 1) [] ++ 32 :: (codeP code ++ (text ++ 13 :: (10 :: t)))) : Bs) = s at hC ⊢
   rw [ea] at hsv
   have e0 : s.drop 0 = 42 :: (32 :: (a :: v ++ 32 :: (codeP code ++ (text ++ 13 :: (10 :: t))))) := by rw [← hsv]; rfl
   have e0' : s.drop 0 = [42, 32] ++ (a :: v ++ 32 :: (codeP code ++ (text ++ 13 :: (10 :: t)))) := e0
   have e2 : s.drop 2 = a :: (v ++ 32 :: (codeP code ++ (text ++ 13 :: (10 :: t)))) := by rw [← hsv]; rfl
   have hna : numR s 2 = (0, 2) := by
    unfold numR
    have : dgs (s.drop 2) = [] := by
     rw [e2, dgs, List.takeWhile_cons, if_neg (by rcases ha with rfl | rfl | rfl <;> simp [isDig])]
    rw [this, numS_nil]
    rfl
   unfold guessS
   rw [beg_H (w := [43, 32]) (a := 43) (v := [32]) e0 rfl (by decide), if_neg z_7, beg_C e0' z_7, if_neg z_7,
    beg_H (w := wCap) (a := 67) (v := wCap.tail) e2 rfl (by rcases ha with rfl | rfl | rfl <;> decide), if_neg z_7,
    beg_H (w := wEnab) (a := 69) (v := wEnab.tail) e2 rfl (by rcases ha with rfl | rfl | rfl <;> decide), if_neg z_7,
    beg_H (w := wFlags) (a := 70) (v := wFlags.tail) e2 rfl (by rcases ha with rfl | rfl | rfl <;> decide), if_neg z_7,
    beg_H (w := wList) (a := 76) (v := wList.tail) e2 rfl (by rcases ha with rfl | rfl | rfl <;> decide), if_neg z_7,
    beg_H (w := wStatus) (a := 83) (v := wStatus.tail) e2 rfl (by rcases ha with rfl | rfl | rfl <;> decide), if_neg z_7,
    beg_H (w := wSearch) (a := 83) (v := wSearch.tail) e2 rfl (by rcases ha with rfl | rfl | rfl <;> decide), if_neg z_7, hna]
   rw [if_pos rfl]
   exact hC
  ·unfold tagP atomS at htag
   simp only [Bool.and_eq_true, List.all_eq_true, Bool.not_eq_true', List.isEmpty_eq_false_iff, decide_eq_true_eq] at htag
   obtain ⟨⟨⟨ha, hne⟩, h43⟩, h32⟩ := htag
   obtain ⟨a, u, rfl⟩ : ∃ a u, tag = a :: u := by
    cases tag with
    | nil => exact absurd rfl hne
    | cons a u => exact ⟨a, u, rfl⟩
   have ha0 := isAtom_ne (ha a z_7)
   have h43a : a ≠ 43 := by rintro rfl; simp at h43
   generalize hsv : ((a :: u) ++ (32 :: statW.getD (k - 1) [] ++ 32 :: (codeP code ++ (text ++ 13 :: (10 :: t)))) : Bs) = s at hC ⊢
   have e1 : s.drop 0 = (a :: u) ++ (32 :: (statW.getD (k - 1) [] ++ 32 :: (codeP code ++ (text ++ 13 :: (10 :: t))))) := by rw [← hsv]; simp
   have e1' : s.drop 0 = a :: (u ++ (32 :: (statW.getD (k - 1) [] ++ 32 :: (codeP code ++ (text ++ 13 :: (10 :: t)))))) := e1
   have ht := to_C (stops := [32]) e1 (fun c hc => by have := isAtom_ne (ha c hc); simp [this.1]) z_7
   unfold guessS
   rw [beg_H (w := [43, 32]) (a := 43) (v := [32]) e1' rfl (fun e => h43a e.symm), if_neg z_7, beg_H (w := [42, 32]) (a := 42) (v := [32]) e1' rfl (fun e => ha0.2.2.2.1 e.symm), if_pos rfl, ht]
   rw [Nat.zero_add]
   exact hC
 rw [if_neg c1] at hr'
 by_cases c5 : kind = 5
 ·subst c5
  simp only [if_true, Bool.and_eq_true] at hr'
  obtain ⟨o1, o2, -, o4, o5, o6, o7, o8, o9⟩ := only_of hr'.1
  simp only [forall_const] at o1 o2 o4 o5 o6 o7 o8 o9
  subst o1 o2 o4 o5 o6 o7 o8 o9
  have hf := plain_facts hr'.2
  generalize hsv : (textP ⟨5, [], [], text, 0, [], 0, [], [], []⟩ ++ crlf ++ t : Bs) = s
  have e0 : s.drop 0 = [43, 32] ++ (text ++ 13 :: (10 :: t)) := by rw [← hsv]; simp [textP]
  have e2 : s.drop 2 = text ++ 13 :: (10 :: t) := drop_B e0
  unfold guessS
  rw [beg_C e0 z_7, if_pos rfl, to_C (stops := [13]) e2 (fun c hc => by simpa using plain_ne (hf.1 c hc)) z_7, cut_C e2]
 rw [if_neg c5] at hr'
 have star : ∀ (s : Bs) (x : UInt8) (v : Bs), s = 42 :: 32 :: x :: v → beginsS s 0 [43, 32] = false ∧ beginsS s 0 [42, 32] = true ∧ (x ≠ 67 → beginsS s 2 wCap = false) ∧ (x ≠ 69 → beginsS s 2 wEnab = false) := by
  intro s x v hs
  have e0 : s.drop 0 = 42 :: (32 :: x :: v) := hs
  have e0' : s.drop 0 = [42, 32] ++ (x :: v) := hs
  have e2 : s.drop 2 = x :: v := by rw [hs]; rfl
  exact ⟨beg_H (a := 43) (v := [32]) e0 rfl (by decide), beg_C e0' z_7, fun h => beg_H (a := 67) (v := wCap.tail) e2 rfl (fun e => h e.symm), fun h => beg_H (a := 69) (v := wEnab.tail) e2 rfl (fun e => h e.symm)⟩
 by_cases c67 : kind = 6 ∨ kind = 7
 ·rw [if_pos c67] at hr'
  obtain ⟨o1, o2, o3, o4, o5, o6, o7, o8, o9⟩ := only_of hr'
  simp only [forall_const] at o1 o2 o3 o4 o5 o6 o7 o8 o9
  subst o1 o2 o3 o4 o5 o6 o7 o8 o9
  rcases c67 with rfl | rfl
  ·have hs : textP ⟨6, [], [], [], 0, [], 0, [], [], []⟩ ++ crlf ++ t = 42 :: 32 :: 67 :: (caps.drop 3 ++ crlf ++ t) := by simp [textP]
   rw [hs]
   obtain ⟨b1, b2, b3, b4⟩ := star _ _ _ (rfl : (42 :: 32 :: 67 :: (caps.drop 3 ++ crlf ++ t) : Bs) = _)
   unfold guessS
   rw [b1, if_neg z_7, b2, if_neg z_7, beg_C (w := wCap) (r := caps.drop 12 ++ crlf ++ t) z_7 z_7, if_pos rfl]
  ·have hs : textP ⟨7, [], [], [], 0, [], 0, [], [], []⟩ ++ crlf ++ t = 42 :: 32 :: 69 :: (enab.drop 3 ++ crlf ++ t) := by simp [textP]
   rw [hs]
   obtain ⟨b1, b2, b3, b4⟩ := star _ _ _ (rfl : (42 :: 32 :: 69 :: (enab.drop 3 ++ crlf ++ t) : Bs) = _)
   unfold guessS
   rw [b1, if_neg z_7, b2, if_neg z_7, b3 (by decide), if_neg z_7, beg_C (w := wEnab) (r := enab.drop 9 ++ crlf ++ t) z_7 z_7, if_pos rfl]
 rw [if_neg c67] at hr'
 by_cases c8 : kind = 8 ∨ kind = 9
 ·rw [if_pos c8] at hr'
  simp only [Bool.and_eq_true, decide_eq_true_eq] at hr'
  obtain ⟨o1, o2, o3, -, o5, o6, o7, o8, o9⟩ := only_of hr'.1
  simp only [forall_const] at o1 o2 o3 o5 o6 o7 o8 o9
  subst o1 o2 o3 o5 o6 o7 o8 o9
  rcases c8 with rfl | rfl
  ·generalize hsv : (textP ⟨8, [], [], [], n, [], 0, [], [], []⟩ ++ crlf ++ t : Bs) = s
   have hs : s = 42 :: 32 :: (digS n ++ (wExists ++ (crlf ++ t))) := by rw [← hsv]; simp [textP]
   have e2 : s.drop 2 = digS n ++ (wExists ++ (crlf ++ t)) := by rw [hs]; rfl
   rw [guess_dig hs hr'.2 (by simp [isDig]), beg_C (drop_B e2) z_7, if_pos rfl]
  ·generalize hsv : (textP ⟨9, [], [], [], n, [], 0, [], [], []⟩ ++ crlf ++ t : Bs) = s
   have hs : s = 42 :: 32 :: (digS n ++ (wExpunge ++ (crlf ++ t))) := by rw [← hsv]; simp [textP]
   have e2 : s.drop 2 = digS n ++ (wExpunge ++ (crlf ++ t)) := by rw [hs]; rfl
   have e3 := drop_B e2
   rw [guess_dig hs hr'.2 (by simp [isDig]), beg_N (w := wExists) (by rw [e3]; rfl), if_neg z_7, beg_C e3 z_7, if_pos rfl]
 rw [if_neg c8] at hr'
 by_cases c10 : kind = 10
 ·subst c10
  simp only [if_true, Bool.and_eq_true] at hr'
  obtain ⟨o1, o2, o3, o4, o5, -, o7, o8, o9⟩ := only_of hr'.1
  simp only [forall_const] at o1 o2 o3 o4 o5 o7 o8 o9
  subst o1 o2 o3 o4 o5 o7 o8 o9
  generalize hsv : (textP ⟨10, [], [], [], 0, [], 0, flags, [], []⟩ ++ crlf ++ t : Bs) = s
  have hs : s = 42 :: 32 :: 70 :: (wFlags.tail ++ (printF flags ++ (crlf ++ t))) := by rw [← hsv]; simp [textP]
  obtain ⟨b1, b2, b3, b4⟩ := star _ _ _ hs
  have e2 : s.drop 2 = wFlags ++ (printF flags ++ (crlf ++ t)) := by rw [hs]; rfl
  have e3 : s.drop 8 = printF flags ++ (crlf ++ t) := drop_B e2
  unfold guessS
  rw [b1, if_neg z_7, b2, if_neg z_7, b3 (by decide), if_neg z_7, b4 (by decide), if_neg z_7, beg_C e2 z_7, if_pos rfl, e3, parseG_print hr'.2]
 rw [if_neg c10] at hr'
 by_cases c11 : kind = 11
 ·subst c11
  simp only [if_true, Bool.and_eq_true] at hr'
  obtain ⟨o1, o2, o3, o4, o5, o6, -, o8, o9⟩ := only_of hr'.1
  simp only [forall_const] at o1 o2 o3 o4 o5 o6 o8 o9
  subst o1 o2 o3 o4 o5 o6 o8 o9
  generalize hsv : (textP ⟨11, [], [], [], 0, [], 0, [], box, []⟩ ++ crlf ++ t : Bs) = s
  have hs : s = 42 :: 32 :: 76 :: (wList.tail ++ (formS box ++ (crlf ++ t))) := by rw [← hsv]; simp [textP]
  obtain ⟨b1, b2, b3, b4⟩ := star _ _ _ hs
  have e2 : s.drop 2 = wList ++ (formS box ++ (crlf ++ t)) := by rw [hs]; rfl
  have e3 : s.drop 14 = formS box ++ (crlf ++ t) := drop_B e2
  unfold guessS
  rw [b1, if_neg z_7, b2, if_neg z_7, b3 (by decide), if_neg z_7, b4 (by decide), if_neg z_7, beg_N (w := wFlags) (by rw [e2]; rfl), if_neg z_7, beg_C e2 z_7, if_pos rfl, boxR_C e3 hr'.2 z_7]
 rw [if_neg c11] at hr'
 by_cases c12 : kind = 12
 ·subst c12
  simp only [if_true, Bool.and_eq_true, decide_eq_true_eq, List.all_eq_true] at hr'
  obtain ⟨⟨⟨⟨g1, g2⟩, g3⟩, g4⟩, g5⟩ := hr'
  obtain ⟨o1, o2, o3, o4, o5, o6, -, -, o9⟩ := only_of g4
  simp only [forall_const] at o1 o2 o3 o4 o5 o6 o9
  subst o1 o2 o3 o4 o5 o6 o9
  have hc : cellsP ⟨12, [], [], [], 0, [], 0, [], box, values⟩ = values.map countP := by
   have : ∀ l : List RV, (∀ v ∈ l, okC v = true) → (l.flatMap fun v => if 1 ≤ v.kind ∧ v.kind ≤ 5 then [countP v] else []) = l.map countP := by
    intro l
    induction l with
    | nil => intro _; rfl
    | cons v t ih =>
     intro h
     have hv := h v z_7
     simp only [okC, Bool.and_eq_true, decide_eq_true_eq] at hv
     rw [List.flatMap_cons, ih (fun x hx => h x (List.mem_cons_of_mem _ hx)), if_pos ⟨hv.1.1.1, hv.1.1.2.1⟩]
     rfl
   simp only [cellsP]
   simp [this values g3]
  generalize hsv : (textP ⟨12, [], [], [], 0, [], 0, [], box, values⟩ ++ crlf ++ t : Bs) = s
  have hs : s = 42 :: 32 :: 83 :: (wStatus.tail ++ (formS box ++ ([32] ++ (40 :: joinS [32] (values.map countP) ++ 41 :: (crlf ++ t))))) := by rw [← hsv]; simp [textP, hc]
  obtain ⟨b1, b2, b3, b4⟩ := star _ _ _ hs
  have e2 : s.drop 2 = wStatus ++ (formS box ++ ([32] ++ (40 :: joinS [32] (values.map countP) ++ 41 :: (crlf ++ t)))) := by rw [hs]; rfl
  have e3 : s.drop 9 = formS box ++ ([32] ++ (40 :: joinS [32] (values.map countP) ++ 41 :: (crlf ++ t))) := drop_B e2
  have e4 : s.drop (9 + (formS box).length + 1) = 40 :: joinS [32] (values.map countP) ++ 41 :: (crlf ++ t) := drop_B (w := [32]) (drop_B e3)
  unfold guessS
  rw [b1, if_neg z_7, b2, if_neg z_7, b3 (by decide), if_neg z_7, b4 (by decide), if_neg z_7, beg_N (w := wFlags) (by rw [e2]; rfl), if_neg z_7, beg_N (w := wList) (by rw [e2]; rfl), if_neg z_7, beg_C e2 z_7, if_pos rfl, boxR_C e3 g5 z_7]
  simp only
  rw [rows_C (f := countP) (g := okC) (fun p v r hv h hr h0 => valC_C hv h hr h0) (fun v hv => by simp [countP]) g1 g2 g3 e4]
 rw [if_neg c12] at hr'
 by_cases c13 : kind = 13
 ·subst c13
  simp only [if_true, Bool.and_eq_true, decide_eq_true_eq, List.all_eq_true] at hr'
  obtain ⟨⟨⟨g1, g2⟩, g3⟩, g4⟩ := hr'
  obtain ⟨o1, o2, o3, o4, -, o6, o7, o8, -⟩ := only_of g1
  simp only [forall_const] at o1 o2 o3 o4 o6 o7 o8
  subst o1 o2 o3 o4 o6 o7 o8
  generalize hsv : (textP ⟨13, [], [], [], 0, nums, mod, [], [], []⟩ ++ crlf ++ t : Bs) = s
  have hs : s = 42 :: 32 :: 83 :: (wSearch.tail ++ (numsP nums ++ modP mod ++ 13 :: (10 :: t))) := by rw [← hsv]; simp [textP]
  obtain ⟨b1, b2, b3, b4⟩ := star _ _ _ hs
  have e2 : s.drop 2 = wSearch ++ (numsP nums ++ modP mod ++ 13 :: (10 :: t)) := by rw [hs]; rfl
  have e3 : s.drop 8 = numsP nums ++ modP mod ++ 13 :: (10 :: t) := drop_B e2
  unfold guessS
  rw [b1, if_neg z_7, b2, if_neg z_7, b3 (by decide), if_neg z_7, b4 (by decide), if_neg z_7, beg_N (w := wFlags) (by rw [e2]; rfl), if_neg z_7, beg_N (w := wList) (by rw [e2]; rfl), if_neg z_7, beg_N (w := wStatus) (by rw [e2]; rfl), if_neg z_7, beg_C e2 z_7, if_pos rfl]
  exact search_C g3 g4 g2 e3
 rw [if_neg c13] at hr'
 by_cases c14 : kind = 14
 ·subst c14
  simp only [if_true, Bool.and_eq_true, decide_eq_true_eq, List.all_eq_true] at hr'
  obtain ⟨⟨⟨⟨g1, g2⟩, g3⟩, g4⟩, g5⟩ := hr'
  obtain ⟨o1, o2, o3, -, o5, o6, o7, -, o9⟩ := only_of g4
  simp only [forall_const] at o1 o2 o3 o5 o6 o7 o9
  subst o1 o2 o3 o5 o6 o7 o9
  have hc : cellsP ⟨14, [], [], [], n, [], 0, [], [], values⟩ = values.map valueP := by
   simp [cellsP, List.flatMap_singleton, ← List.map_eq_flatMap]
  generalize hsv : (textP ⟨14, [], [], [], n, [], 0, [], [], values⟩ ++ crlf ++ t : Bs) = s
  have hs : s = 42 :: 32 :: (digS n ++ (wFetch ++ (40 :: joinS [32] (values.map valueP) ++ 41 :: (crlf ++ t)))) := by rw [← hsv]; simp [textP, hc]
  have e2 : s.drop 2 = digS n ++ (wFetch ++ (40 :: joinS [32] (values.map valueP) ++ 41 :: (crlf ++ t))) := by rw [hs]; rfl
  have e3 := drop_B e2
  have e4 : s.drop (2 + (digS n).length + 7) = 40 :: joinS [32] (values.map valueP) ++ 41 :: (crlf ++ t) := drop_B e3
  have hne : ∀ v, okV v = true → valueP v ≠ [] := by
   intro v hv
   simp only [okV, Bool.and_eq_true, decide_eq_true_eq] at hv
   have h1 := hv.1.1
   have h2 := hv.1.2.1
   unfold valueP
   rw [if_neg (by omega)]
   repeat' split
   all_goals simp
  rw [guess_dig hs g5 (by simp [isDig]), beg_N (w := wExists) (by rw [e3]; rfl), if_neg z_7, beg_N (w := wExpunge) (by rw [e3]; rfl), if_neg z_7,
   rows_C (f := valueP) (g := okV) (fun p v r hv h hr h0 => valF_C hv h hr h0) hne g1 g2 g3 e4]
 ·rw [if_neg c14] at hr'
  cases hr'
def readR (s : Bs) : RR × Nat := if okR (guessS s) = true ∧ beginsS s 0 (textP (guessS s) ++ crlf) = true then (guessS s, (textP (guessS s) ++ crlf).length) else (R0, 0)
theorem readR_eq (s : Bs) : readR s = (readS s).getD (R0, 0) := by
 cases h : readS s with
 | some q =>
  obtain ⟨r, n⟩ := q
  obtain ⟨h1, h2, t, h3⟩ := read_A h
  have hg : guessS s = r := by rw [h3]; exact guess_C h1 t
  unfold readR
  rw [hg, if_pos ⟨h1, beg_C (p := 0) (r := t) (by rw [h3]; simp) z_7⟩, h2]
  rfl
 | none =>
  unfold readR
  split
  ·next hh =>
   obtain ⟨h1, h2⟩ := hh
   unfold beginsS at h2
   simp only [Bool.and_eq_true] at h2
   obtain ⟨t, ht⟩ := List.isPrefixOf_iff_prefix.mp h2.2
   have := read_B h1 t
   rw [ht] at this
   simp only [List.drop_zero] at this
   rw [h] at this
   cases this
  ·rfl
theorem read_none {s : Bs} {r : RR} (hs : s = textP r ++ crlf) (h : okR r = false) : ∀ q n, readS s = some (q, n) → q ≠ r := by
 rintro q n hq rfl
 rw [(read_A hq).1] at h
 cases h
end Go.Proofs.YtgllpcggdcknaaaGreatDoor.Rp
namespace Go.Proofs.YtgllpcggdcknaaaGreatDoor.Rp
open Go Go.Sl Go.RowKit
structure Gl (h : Heap) : Prop where
 m : ∃ m t fr, h 0 = some (.cells #[.int .i64 m] t fr)
 tab : ∃ t fr, h 1 = some (.cells (Lib.pow10Tab.map fun z => Value.int .u64 z).toArray t fr)
 syn : ∃ e t fr, h 2 = some (.cells #[e] t fr) ∧ (e = .nilIface ∨ ∃ te pe, e = .iface te pe)
 rng : ∃ e t fr, h 3 = some (.cells #[e] t fr) ∧ (e = .nilIface ∨ ∃ te pe, e = .iface te pe)
theorem Gl.le {h h' : Heap} (g : Gl h) (hl : Heap.le h h') : Gl h' := by
 obtain ⟨⟨a, b, c, h1⟩, ⟨d, e, h2⟩, ⟨f, i, j, h3, k3⟩, ⟨k, l, m, h4, k4⟩⟩ := g
 exact ⟨⟨a, b, c, hl _ _ h1⟩, ⟨d, e, hl _ _ h2⟩, ⟨f, i, j, hl _ _ h3, k3⟩, ⟨k, l, m, hl _ _ h4, k4⟩⟩
theorem Gl.tabIs {w : World} (g : Gl (hp w)) : Lib.TabIs Tryz.prog w "internal/strconv.uint64pow10" .u64 Lib.pow10Tab := by
 obtain ⟨t, fr, h⟩ := g.tab
 have hn : Tryz.prog.globalNamed "internal/strconv.uint64pow10" = some 1 := by kernel_rfl
 have h' : w.heap[1]? = some (.cells (Lib.pow10Tab.map fun z => Value.int .u64 z).toArray t fr) := h
 unfold Lib.TabIs World.var?
 rw [hn]
 simp only [Option.bind_some, h']
theorem pu_below {P : Program} {f : FuncId} {args : List Value} {Pre : Heap → Prop} {v : Value}
  (h : ∀ w, Pre (hp w) → Calls P f args.toArray w fun e w' => e = .returned v ∧ Below w.heap.size w w') : Pu P f args Pre v := by
 intro w bs hsat hnd hpre
 have hb : bs = [] := hsat
 subst hb
 rw [hpBut_nil] at hpre
 refine (h w hpre).mono ?_
 rintro e w' ⟨rfl, hbel⟩
 refine ⟨v, [], rfl, ⟨rfl, rfl⟩, hbel.os, hbel.tape, hbel.output, fun b o hbo => ?_, [], rfl, List.nodup_nil, by simp⟩
 have h3 : w.heap[b]? = some o := hpBut_le w [] b o hbo
 have h4 : b < w.heap.size := (Array.getElem?_eq_some_iff.1 h3).1
 show w'.heap[b]? = _
 rw [hbel.block b h4]; exact h3
theorem pu_same {P : Program} {f : FuncId} {args : List Value} {Pre : Heap → Prop} {v : Value}
  (h : ∀ w, Pre (hp w) → Calls P f args.toArray w fun e w' => e = .returned v ∧ w' = w) : Pu P f args Pre v :=
 pu_below fun w hw => (h w hw).mono fun e w' ⟨he, hw'⟩ => ⟨he, hw' ▸ Below.refl _ _⟩
theorem HasPrefix_ct (s p : Bs) : Pu Tryz.prog 49 [B s, B p] (fun _ => True) (.bool (p.isPrefixOf s)) := pu_same fun w _ => Tryz.strings_HasPrefix ⟨s.toArray⟩ ⟨p.toArray⟩ w
theorem indexByte_eq (s : Bs) (c : UInt8) : Lib.indexByte s c = if s.contains c = true then ((s.takeWhile fun x => x != c).length : Int) else -1 := by
 induction s with
 | nil => rfl
 | cons a t ih =>
  rw [Lib.indexByte]
  by_cases h : a = c
  ·subst h; simp
  ·have h' : (a == c) = false := by simpa using h
   have h'' : (c == a) = false := by simpa using fun e : c = a => h e.symm
   rw [h', ih]
   simp only [List.contains_cons, h'', Bool.false_or, List.takeWhile_cons, bne, h', Bool.not_false, if_true]
   by_cases hc : t.contains c = true
   ·simp only [hc, if_true]
    have : ((t.takeWhile fun x => !(x == c)).length : Int) ≠ -1 := by omega
    simp [this]
   ·simp only [hc]
    rfl
theorem IndexByte_ct (s : Bs) (c : UInt8) : Pu Tryz.prog 25 [B s, .int .u8 (c.toNat : Nat)] (fun _ => True) (.int .i64 (Lib.indexByte s c)) := pu_same fun w _ => by
 have := Tryz.strings_IndexByte ⟨s.toArray⟩ (c.toNat : Nat) w
 have e : ((c.toNat : Nat) : Int).toNat.toUInt8 = c := by simp
 rwa [e] at this
theorem dec_dig (n : Nat) : Lib.decDigits n = digS n := by
 induction n using Nat.strongRecOn with
 | ind n ih =>
  rw [Lib.decDigits]
  split
  ·next h => rw [digS_lt h]; rfl
  ·next h => rw [digS_ge h, ih (n / 10) (by omega)]; rfl
theorem small_ct (n : Nat) (h : n < 100) : Pu Tryz.prog 112 [.int .i64 (n : Nat)] (fun _ => True) (B (digS n)) := pu_same fun w _ => by
 have := Tryz.internal_strconv_small n h w
 rwa [dec_dig] at this
theorem numDigits_ct (n : Nat) (h1 : 1 ≤ n) (h2 : n < 18446744073709551616) : Pu Tryz.prog 113 [.int .u64 (n : Nat)] Gl (.int .i64 (Lib.nDigits n)) := pu_same fun w hg => Tryz.internal_strconv_numDigits n h1 h2 w hg.tabIs
theorem interc_join (sep : Bs) : ∀ l : List Bs, Lib.join l sep = joinS sep l
 | [] => rfl
 | [x] => by simp [Lib.join, joinS, List.intercalate]
 | x :: y :: t => by
  rw [join_cons _ _ z_7, ← interc_join sep (y :: t)]
  simp [Lib.join, List.intercalate]
end Go.Proofs.YtgllpcggdcknaaaGreatDoor.Rp
