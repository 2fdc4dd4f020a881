import Derived.Test.YtgllpcggdcknaaaGreatDoorKx4
import Derived.Test.YtgllpcggdcknaaaGreatDoorKx1
set_option linter.unusedVariables false
set_option linter.unusedSimpArgs false
namespace Go.Proofs.YtgllpcggdcknaaaGreatDoor.Rp
open Go Go.Sl
theorem drop_B {s w r : Bs} {p : Nat} (h : s.drop p = w ++ r) : s.drop (p + w.length) = r := by rw [← List.drop_drop, h, List.drop_left]
theorem eat_B {s w r : Bs} {p : Nat} (h : s.drop p = w ++ r) : eatS s w ⟨p, true⟩ = (true, ⟨p + w.length, true⟩) := by
 have hp : w.isPrefixOf (s.drop p) = true := by rw [h]; exact List.isPrefixOf_iff_prefix.mpr ⟨r, rfl⟩
 unfold eatS
 rw [if_pos ⟨rfl, hp⟩]
theorem eat_N {s w : Bs} {p : Nat} (h : w.isPrefixOf (s.drop p) = false) : eatS s w ⟨p, true⟩ = (false, ⟨p, true⟩) := by
 unfold eatS
 rw [if_neg (by simp [h])]
theorem eat_H {s w : Bs} {p : Nat} {a c : UInt8} {v r : Bs} (h : s.drop p = c :: r) (hw : w = a :: v) (hne : a ≠ c) : eatS s w ⟨p, true⟩ = (false, ⟨p, true⟩) := by
 refine eat_N ?_
 rw [h, hw]
 simp [List.isPrefixOf, hne]
theorem need_B {s w r : Bs} {p : Nat} (h : s.drop p = w ++ r) : needS s w ⟨p, true⟩ = ⟨p + w.length, true⟩ := by unfold needS; rw [eat_B h]
theorem until_B {s w r stops : Bs} {p : Nat} (h : s.drop p = w ++ r) (hw : ∀ c ∈ w, c ∉ stops) (hr : ∀ c ∈ r.head?, c ∈ stops) : untilS s stops ⟨p, true⟩ = (w, ⟨p + w.length, true⟩) := by
 unfold untilS
 rw [if_pos rfl]
 have e : stopW stops (s.drop p) = w := by
  unfold stopW
  rw [h]
  exact takeWhile_of _ _ _ (fun c hc => by simpa using hw c hc) (fun c hc => by simpa using hr c hc)
 simp only [e]
theorem number_B {s r : Bs} {p n : Nat} (h : s.drop p = digS n ++ r) (hn : n ≤ great) (hr : ∀ c ∈ r.head?, isDig c = false) : numberS s ⟨p, true⟩ = (n, ⟨p + (digS n).length, true⟩) := by
 have e : numW s ⟨p, true⟩ = digS n := by
  unfold numW
  rw [if_pos rfl]
  simp only
  rw [h]
  exact dgs_dig n r hr
 unfold numberS
 rw [e, numS_dig hn]
 rfl
theorem flags_B {s r : Bs} {p : Nat} {l : List Bs} (h : s.drop p = printF l ++ r) (hl : rightS l = true) : flagsS s ⟨p, true⟩ = (l, ⟨p + (printF l).length, true⟩) := by
 unfold flagsS
 rw [if_pos rfl]
 simp only
 rw [h, parse_print hl r]
 simp only
 rw [if_pos trivial, need_B h]
theorem box_B {s r b : Bs} {p : Nat} (h : s.drop p = formS b ++ r) (hb : isBox b = true) (hr : ∀ c ∈ r.head?, c = 32 ∨ c = 13) : boxS s ⟨p, true⟩ = (b, ⟨p + (formS b).length, true⟩) := by
 have hN : boxN b = some b := by unfold isBox at hb; simpa using hb
 have hp := isBox_p hb
 unfold boxP at hp
 simp at hp
 have key : boxT s ⟨p, true⟩ = (b, ⟨p + (formS b).length, true⟩) := by
  rcases form_box hb with ⟨hf, ha⟩ | hf
  ·unfold atomS at ha
   simp only [Bool.and_eq_true, List.all_eq_true, Bool.not_eq_true', List.isEmpty_eq_false_iff] at ha
   rw [hf] at h ⊢
   have hu := until_B (stops := [32, 13]) h (fun c hc => by
    have := isAtom_ne (ha.1 c hc)
    simp [this.1, this.2.1]) (fun c hc => by simpa using hr c hc)
   unfold boxT
   simp only [hu]
   rw [if_neg]
   ·simp [hf]
   ·intro hp
    obtain ⟨t, rfl⟩ := pre34 hp
    exact (isAtom_ne (ha.1 34 z_8)).2.2.1 rfl
  ·have hu : ∃ t, (untilS s [32, 13] ⟨p, true⟩).1 = 34 :: t := by
    unfold untilS stopW
    rw [if_pos rfl]
    simp only
    rw [h, hf]
    exact ⟨_, by rw [List.cons_append, List.cons_append, List.takeWhile_cons, if_pos (by decide)]⟩
   obtain ⟨t, ht⟩ := hu
   have hq : uqS (s.drop p) = some (b, (formS b).length) := by
    rw [h, hf]
    have : 34 :: b ++ [34] ++ r = 34 :: (b ++ 34 :: r) := by simp
    rw [this]
    unfold uqS
    simp only
    rw [if_pos trivial, uqL_plain b [] 1 r (fun c hc => ⟨(boxC_q (hp.1.1.1.2 c hc)).1, (boxC_q (hp.1.1.1.2 c hc)).2.1, (boxC_q (hp.1.1.1.2 c hc)).2.2.1⟩) (by simp; omega)]
    simp
    omega
   unfold boxT
   simp only [ht, hq]
   rw [if_pos z_7]
   simp [hf, List.isPrefixOf]
 unfold boxS
 rw [if_pos rfl]
 simp only [key, hN]
 simp
theorem lit_B {s r t : Bs} {p : Nat} (h : s.drop p = literalS t ++ r) (ht : t.length ≤ 4096) : litS s ⟨p, true⟩ = (t, ⟨p + (literalS t).length, true⟩) := by
 have h1 : s.drop p = [123] ++ (digS t.length ++ ([125, 13, 10] ++ (t ++ r))) := by rw [h]; simp [literalS]
 have h2 := drop_B h1
 have h3 := drop_B h2
 have h4 := drop_B h3
 unfold litS
 simp only [need_B h1]
 rw [number_B h2 (by unfold great; omega) (by simp [isDig])]
 simp only [need_B h3]
 have hlen := congrArg List.length h4
 simp only [List.length_drop, List.length_append] at hlen
 rw [if_pos ⟨trivial, ht, by omega⟩, h4, List.take_left']
 ·simp [literalS]
  omega
 ·rfl
theorem item_plain : ∀ k, ∀ c ∈ itemA k, c ∉ ([32, 60, 13] : Bs) := by
 intro k
 unfold itemA
 by_cases h : k - 1 < 12
 ·have : ∀ i, i < 12 → ∀ c ∈ itemW.getD i [], c ∉ ([32, 60, 13] : Bs) := by decide
  exact this _ h
 ·rw [List.getD_eq_getElem?_getD, List.getElem?_eq_none (by have : itemW.length = 12 := rfl; omega)]
  simp
theorem countK_item : ∀ k, 1 ≤ k → k ≤ 5 → countK (itemA k) = k := by
 intro k h1 h2
 have : ∀ k, k < 6 → 1 ≤ k → countK (itemA k) = k := by decide
 exact this k (by omega) h1
theorem fetchK_item : ∀ k, 6 ≤ k → k ≤ 12 → fetchK (itemA k) = k := by
 intro k h1 h2
 have : ∀ k, k < 13 → 6 ≤ k → fetchK (itemA k) = k := by decide
 exact this k (by omega) h1
theorem counted_B {s r : Bs} {p : Nat} {v : RV} (hv : okC v = true) (h : s.drop p = countP v ++ r) (hr : ∀ c ∈ r.head?, c = 32 ∨ c = 41) : countedS s ⟨p, true⟩ = (v, ⟨p + (countP v).length, true⟩) := by
 obtain ⟨k, n, fl, tx, pt, fr⟩ := v
 simp only [okC, bareP, Bool.and_eq_true, decide_eq_true_eq, List.isEmpty_iff, Bool.not_eq_true'] at hv
 obtain ⟨⟨⟨h1, h2, h3⟩, rfl⟩, ⟨rfl, rfl⟩, rfl⟩ := hv
 obtain ⟨k, rfl⟩ : ∃ m : Nat, k = m := ⟨k.toNat, by omega⟩
 simp only [countP, Int.toNat_natCast] at h ⊢
 have e1 : s.drop p = itemA k ++ ([32] ++ (digS n ++ r)) := by rw [h]; simp
 have e2 := drop_B e1
 have e3 := drop_B e2
 have hu := until_B (stops := [32, 13]) e1 (fun c hc => by have := item_plain k c hc; simp at this ⊢; exact ⟨this.1, this.2.2⟩) z_8
 unfold countedS
 simp only [hu, need_B e2]
 rw [countK_item k (by omega) (by omega), if_neg (by omega), number_B e3 h3 (fun c hc => by rcases hr c hc with rfl | rfl <;> rfl)]
 simp
 omega
theorem part_B {s r : Bs} {p k fr : Nat} {pt : Bool} (hk : pt = true → 10 ≤ k) (h0 : pt = false → fr = 0) (hf : fr ≤ great) (h : s.drop p = (if pt = true then 60 :: digS fr ++ [62] else []) ++ 32 :: r) :
  partS s k ⟨p, true⟩ = ((pt, fr), ⟨p + (if pt = true then 60 :: digS fr ++ [62] else [] : Bs).length, true⟩) := by
 cases pt with
 | true =>
  have e1 : s.drop p = [60] ++ (digS fr ++ ([62] ++ 32 :: r)) := by rw [h]; simp
  have e2 := drop_B e1
  have e3 := drop_B e2
  unfold partS
  rw [eat_B e1]
  rw [if_pos ⟨hk rfl, rfl⟩]
  simp only
  rw [number_B e2 hf (by simp [isDig])]
  simp only [need_B e3]
  simp
  omega
 | false =>
  unfold partS
  rw [eat_H (a := 60) (c := 32) (v := []) (r := r) (by simpa using h) rfl (by decide)]
  simp [h0 rfl]
theorem fetched_B {s r : Bs} {p : Nat} {v : RV} (hv : okV v = true) (h : s.drop p = valueP v ++ r) (hr : ∀ c ∈ r.head?, c = 32 ∨ c = 41) : fetchedS s ⟨p, true⟩ = (v, ⟨p + (valueP v).length, true⟩) := by
 obtain ⟨k, n, fl, tx, pt, fr⟩ := v
 simp only [okV, Bool.and_eq_true, decide_eq_true_eq] at hv
 obtain ⟨⟨h1, h2, h3, h4⟩, hv⟩ := hv
 obtain ⟨k, rfl⟩ : ∃ m : Nat, k = m := ⟨k.toNat, by omega⟩
 have hd : ∀ c ∈ r.head?, isDig c = false := fun c hc => by rcases hr c hc with rfl | rfl <;> rfl
 -- what is alike in all kinds
 have base : ∀ (x : Bs), (pt = true → 10 ≤ k) → (pt = false → fr = 0) → s.drop p = itemA k ++ ((if pt = true then 60 :: digS fr ++ [62] else []) ++ 32 :: (x ++ r)) →
   ∃ q, s.drop q = x ++ r ∧ q = p + (itemA k).length + (if pt = true then 60 :: digS fr ++ [62] else [] : Bs).length + 1 ∧ fetchK (untilS s [32, 60, 13] ⟨p, true⟩).1 = k ∧
    partS s k (untilS s [32, 60, 13] ⟨p, true⟩).2 = ((pt, fr), ⟨p + (itemA k).length + (if pt = true then 60 :: digS fr ++ [62] else [] : Bs).length, true⟩) ∧
    needS s [32] ⟨p + (itemA k).length + (if pt = true then 60 :: digS fr ++ [62] else [] : Bs).length, true⟩ = ⟨q, true⟩ := by
  intro x hk h0 e1
  have hu := until_B (stops := [32, 60, 13]) e1 (item_plain k) (by cases pt <;> simp)
  have e2 := drop_B e1
  have e3 := drop_B e2
  refine ⟨_, drop_B (w := [32]) e3, rfl, ?_, ?_, ?_⟩
  ·rw [hu]; exact fetchK_item k (by omega) (by omega)
  ·rw [hu]; exact part_B hk h0 h4 e2
  ·exact need_B (w := [32]) e3
 by_cases c6 : k = 6
 ·subst c6
  simp only [bareP] at hv
  simp at hv
  obtain ⟨⟨hl, rfl⟩, ⟨rfl, rfl⟩, rfl⟩ := hv
  simp only [valueP] at h ⊢
  simp at h ⊢
  obtain ⟨q, b1, b2, b3, b4, b5⟩ := base (printF fl) z_8 z_8 (by rw [h]; simp)
  unfold fetchedS
  simp only [b3, b4, b5, flags_B b1 hl]
  simp [b2]
  omega
 by_cases c9 : k = 9
 ·subst c9
  simp [bareP] at hv
  obtain ⟨rfl, ⟨rfl, rfl⟩, rfl⟩ := hv
  simp [valueP] at h ⊢
  obtain ⟨q, b1, b2, b3, b4, b5⟩ := base ([40] ++ (digS n ++ [41])) z_8 z_8 (by rw [h]; simp)
  have e1 : s.drop q = [40] ++ (digS n ++ ([41] ++ r)) := by rw [b1]; simp
  have e2 := drop_B e1
  have e3 := drop_B e2
  unfold fetchedS
  simp only [b3, b4, b5, need_B e1]
  rw [number_B e2 h3 (by simp [isDig])]
  simp only [need_B e3]
  simp [b2]
  omega
 by_cases c7 : k = 7 ∨ k = 8
 ·have g1 : ¬((k : Int) = 6) := by omega
  have g2 : (k : Int) ≤ 9 := by omega
  have g3 : ¬((k : Int) < 6 ∨ 12 < (k : Int)) := by omega
  have g4 : ¬((k : Int) = 9) := by omega
  have g5 : (k : Int) < 10 := by omega
  simp only [g1, g2, if_true, if_false, bareP, Bool.and_eq_true, decide_eq_true_eq, List.isEmpty_iff, Bool.not_eq_true'] at hv
  obtain ⟨rfl, ⟨rfl, rfl⟩, rfl⟩ := hv
  simp only [valueP, g1, g3, g4, g5, if_true, if_false, Int.toNat_natCast] at h ⊢
  obtain ⟨q, b1, b2, b3, b4, b5⟩ := base (digS n) z_8 z_8 (by rw [h]; simp)
  unfold fetchedS
  simp only [b3, b4, b5, number_B b1 h3 hd]
  rw [if_neg (by omega), if_neg c6, if_neg c9, if_pos c7]
  simp [b2]
  omega
 ·have g1 : ¬((k : Int) = 6) := by omega
  have g2 : ¬((k : Int) ≤ 9) := by omega
  have g3 : ¬((k : Int) < 6 ∨ 12 < (k : Int)) := by omega
  have g4 : ¬((k : Int) = 9) := by omega
  have g5 : ¬((k : Int) < 10) := by omega
  simp only [g1, g2, if_true, if_false, Bool.and_eq_true, decide_eq_true_eq, List.isEmpty_iff, Bool.or_eq_true] at hv
  obtain ⟨⟨⟨ht, rfl⟩, rfl⟩, hp⟩ := hv
  simp only [valueP, partP, g1, g3, g4, g5, if_true, if_false, Int.toNat_natCast] at h ⊢
  obtain ⟨q, b1, b2, b3, b4, b5⟩ := base (literalS tx) (fun _ => by omega) (fun e => by
   rcases hp with hp | hp
   ·rw [e] at hp; cases hp
   ·exact hp) (by rw [h]; simp)
  unfold fetchedS
  simp only [b3, b4, b5, lit_B b1 ht]
  rw [if_neg (by omega), if_neg c6, if_neg c9, if_neg c7]
  simp [b2]
  omega
theorem rows_B {s r : Bs} {one : RS → RV × RS} {f : RV → Bs} {g : RV → Bool}
  (ho : ∀ (p : Nat) (v : RV) (r : Bs), g v = true → s.drop p = f v ++ r → (∀ c ∈ r.head?, c = 32 ∨ c = 41) → one ⟨p, true⟩ = (v, ⟨p + (f v).length, true⟩))
  {p : Nat} {l : List RV} (h1 : 1 ≤ l.length) (h2 : l.length ≤ 10) (hg : ∀ v ∈ l, g v = true) (h : s.drop p = 40 :: joinS [32] (l.map f) ++ 41 :: r) :
  rowsS s one ⟨p, true⟩ = (l, ⟨p + (joinS [32] (l.map f)).length + 2, true⟩) := by
 have hl : ∀ (rest done : List RV) (k p : Nat), done ≠ [] → (∀ v ∈ rest, g v = true) → rest.length ≤ k → s.drop p = (rest.map fun v => 32 :: f v).flatten ++ 41 :: r →
   rowsL s one k done ⟨p, true⟩ = (done ++ rest, ⟨p + (rest.map fun v => 32 :: f v).flatten.length, true⟩) := by
  intro rest
  induction rest with
  | nil =>
   intro done k p h0 hg hk hs
   have hn : eatS s [32] ⟨p, true⟩ = (false, ⟨p, true⟩) := eat_H (a := 32) (c := 41) (v := []) (r := r) (by simpa using hs) rfl (by decide)
   cases k with
   | zero => simp [rowsL, hn]
   | succ k => simp [rowsL, hn]
  | cons v t ih =>
   intro done k p h0 hg hk hs
   cases k with
   | zero => simp at hk
   | succ k =>
    have e1 : s.drop p = [32] ++ (f v ++ ((t.map fun v => 32 :: f v).flatten ++ 41 :: r)) := by rw [hs]; simp
    have e2 := drop_B e1
    have e3 := drop_B e2
    have hone := ho _ v _ (hg v z_8) e2 (by
     intro c hc
     cases t with
     | nil => simp at hc; exact .inr hc.symm
     | cons y t => simp at hc; exact .inl hc.symm)
    rw [rowsL, eat_B e1, if_pos rfl]
    simp only [hone]
    rw [ih (done ++ [v]) k _ z_8 (fun x hx => hg x (List.mem_cons_of_mem _ hx)) (by simpa using hk) e3]
    simp
    omega
 have hj : ∀ (x : RV) (t : List RV), joinS [32] ((x :: t).map f) = f x ++ (t.map fun v => 32 :: f v).flatten := by
  intro x t
  induction t generalizing x with
  | nil => simp [joinS]
  | cons y t ih =>
   rw [List.map_cons, join_cons _ _ z_8, ih y]
   simp
 cases l with
 | nil => simp at h1
 | cons x t =>
  rw [hj] at h ⊢
  have e1 : s.drop p = [40] ++ (f x ++ ((t.map fun v => 32 :: f v).flatten ++ 41 :: r)) := by rw [h]; simp
  have e2 := drop_B e1
  have e3 := drop_B e2
  have e4 : s.drop (p + 1 + (f x).length + (t.map fun v => 32 :: f v).flatten.length) = [41] ++ r := drop_B e3
  have hone := ho _ x _ (hg x z_8) e2 (by
   intro c hc
   cases t with
   | nil => simp at hc; exact .inr hc.symm
   | cons y t => simp at hc; exact .inl hc.symm)
  unfold rowsS
  simp only [need_B e1, hone]
  rw [hl t [x] 10 _ z_8 (fun v hv => hg v (List.mem_cons_of_mem _ hv)) (by simp at h2; omega) e3]
  simp only [List.length_singleton, need_B e4]
  simp at h2 ⊢
  omega
theorem plain_ne {c : UInt8} (h : isPlain c = true) : c ≠ 13 := by
 rintro rfl
 simp [isPlain] at h
theorem code_B {s r c : Bs} {p : Nat} (hc : codeOk c = true) (h : s.drop p = codeP c ++ r) (hr : r.head? ≠ some 91) : codeS s ⟨p, true⟩ = (c, ⟨p + (codeP c).length, true⟩) := by
 unfold codeOk at hc
 simp only [Bool.or_eq_true, Bool.and_eq_true, List.isEmpty_iff, Bool.not_eq_true'] at hc
 by_cases h0 : c = []
 ·subst h0
  simp only [codeP, if_true, List.nil_append] at h ⊢
  have hn : eatS s [91] ⟨p, true⟩ = (false, ⟨p, true⟩) := by
   refine eat_N ?_
   rw [h]
   cases r with
   | nil => rfl
   | cons x r => simp at hr; simp [List.isPrefixOf, Ne.symm hr]
  unfold codeS
  simp [hn]
 ·rcases hc with hc | hc
  ·exact absurd hc h0
  have hf := plain_facts hc.1
  have e1 : s.drop p = [91] ++ (c ++ ([93, 32] ++ r)) := by rw [h]; simp [codeP, h0]
  have e2 := drop_B e1
  have e3 := drop_B e2
  have hu := until_B (stops := [93, 13]) e2 (fun x hx => by
   have := plain_ne (hf.1 x hx)
   have h93 : x ≠ 93 := fun e => by
    subst e
    have := hc.2
    simp [hx] at this
   simp [this, h93]) z_8
  unfold codeS
  rw [eat_B e1, if_pos rfl]
  simp only [hu, need_B e3, hc.1]
  simp [codeP, h0]
  omega
theorem statK_stat : ∀ k, 1 ≤ k → k ≤ 4 → statK (statW.getD (k - 1) []) = k ∧ ∀ c ∈ statW.getD (k - 1) [], c ∉ ([32, 13] : Bs) := by
 intro k h1 h2
 have : ∀ k, k < 5 → 1 ≤ k → statK (statW.getD (k - 1) []) = k ∧ ∀ c ∈ statW.getD (k - 1) [], c ∉ ([32, 13] : Bs) := by decide
 exact this k (by omega) h1
theorem told_B {s r tag code text : Bs} {p k : Nat} (hk : 1 ≤ k ∧ k ≤ 4) (hc : codeOk code = true) (hx : plainS text = true) (h91 : text.head? ≠ some 91) (ht : k ≠ 4 ∨ tag = [42])
  (h : s.drop p = statW.getD (k - 1) [] ++ 32 :: codeP code ++ text ++ 13 :: r) :
  toldS s tag ⟨p, true⟩ = (⟨k, tag, code, text, 0, [], 0, [], [], []⟩, ⟨p + (statW.getD (k - 1) [] ++ 32 :: codeP code ++ text).length, true⟩) := by
 obtain ⟨k1, k2⟩ := statK_stat k hk.1 hk.2
 have hf := plain_facts hx
 have e1 : s.drop p = statW.getD (k - 1) [] ++ ([32] ++ (codeP code ++ (text ++ 13 :: r))) := by rw [h]; simp
 have e2 := drop_B e1
 have e3 := drop_B e2
 have e4 := drop_B e3
 have hu := until_B (stops := [32, 13]) e1 k2 z_8
 have hx' := until_B (stops := [13]) e4 (fun c hc => by simpa using plain_ne (hf.1 c hc)) z_8
 unfold toldS
 simp only [hu, need_B e2, code_B hc e3 (by
  cases text with
  | nil => exact absurd rfl hf.2.1
  | cons x t => simpa using h91), hx', k1, hx]
 refine Prod.ext rfl ?_
 simp only [RS.mk.injEq]
 refine ⟨by simp; omega, ?_⟩
 have h0 : 0 < k := by omega
 have h91' : decide (text.head? ≠ some 91) = true := decide_eq_true h91
 simp only [h0, h91', decide_true, Bool.true_and, Bool.and_true, Bool.or_eq_true, decide_eq_true_eq]
 exact ht
theorem nums_len (l : List Nat) : l.length ≤ (numsP l).length := by
 induction l with
 | nil => simp
 | cons n t ih => simp only [numsP, List.flatMap_cons, List.length_append, List.length_cons] at *; omega
theorem search_B {s r : Bs} {p m : Nat} {l : List Nat} (hm : m ≤ great) (hl : ∀ n ∈ l, n ≤ great) (hn : l.length ≤ 64) (h : s.drop p = numsP l ++ modP m ++ 13 :: r) :
  searchS s ⟨p, true⟩ = (⟨13, [], [], [], 0, l, m, [], [], []⟩, ⟨p + (numsP l ++ modP m).length, true⟩) := by
 have key : ∀ (t done : List Nat) (k p : Nat), (∀ n ∈ t, n ≤ great) → t.length < k → s.drop p = numsP t ++ modP m ++ 13 :: r →
   searchL s k done ⟨p, true⟩ = ((done ++ t, m), ⟨p + (numsP t ++ modP m).length, true⟩) := by
  intro t
  induction t with
  | nil =>
   intro done k p hg hk hs
   obtain ⟨k, rfl⟩ : ∃ j, k = j + 1 := ⟨k - 1, by omega⟩
   by_cases h0 : m = 0
   ·subst h0
    have hnn : eatS s [32] ⟨p, true⟩ = (false, ⟨p, true⟩) := eat_H (a := 32) (c := 13) (v := []) (r := r) (by simpa [numsP, modP] using hs) rfl (by decide)
    rw [searchL, hnn]
    simp [numsP, modP]
   ·have e1 : s.drop p = [32] ++ (wModseq ++ (digS m ++ ([41] ++ 13 :: r))) := by rw [hs]; simp [numsP, modP, h0]
    have e2 := drop_B e1
    have e3 := drop_B e2
    have e4 := drop_B e3
    rw [searchL, eat_B e1, if_pos rfl]
    simp only [eat_B e2]
    rw [if_pos trivial, number_B e3 hm (by simp [isDig])]
    simp only [need_B e4]
    have : 0 < m := by omega
    simp [numsP, modP, h0, this]
    omega
  | cons n t ih =>
   intro done k p hg hk hs
   obtain ⟨k, rfl⟩ : ∃ j, k = j + 1 := ⟨k - 1, by omega⟩
   have e1 : s.drop p = [32] ++ (digS n ++ (numsP t ++ modP m ++ 13 :: r)) := by rw [hs]; simp [numsP]
   have e2 : s.drop (p + 1) = digS n ++ (numsP t ++ modP m ++ 13 :: r) := drop_B e1
   have e3 := drop_B e2
   obtain ⟨c, v, hd⟩ : ∃ c v, digS n = c :: v := by
    cases e : digS n with
    | nil => exact absurd e (digS_ne n)
    | cons c v => exact ⟨c, v, rfl⟩
   have hc : isDig c = true := by have := digS_all n; rw [hd] at this; simp at this; exact this.1
   have hno : eatS s wModseq ⟨p + 1, true⟩ = (false, ⟨p + 1, true⟩) := eat_H (a := 40) (c := c) (v := [77, 79, 68, 83, 69, 81, 32]) (r := v ++ (numsP t ++ modP m ++ 13 :: r)) (by
    rw [e2, hd]
    rfl) rfl (by rintro rfl; simp [isDig] at hc)
   rw [searchL, eat_B e1, if_pos rfl]
   simp only [List.length_singleton, hno]
   rw [if_neg z_8, number_B e2 (hg n z_8) (by
    intro x hx
    cases t with
    | nil =>
     by_cases h0 : m = 0
     ·simp [numsP, modP, h0] at hx; subst hx; rfl
     ·simp [numsP, modP, h0] at hx; subst hx; rfl
    | cons y t => simp [numsP] at hx; subst hx; rfl)]
   simp only
   rw [ih (done ++ [n]) k _ (fun x hx => hg x (List.mem_cons_of_mem _ hx)) (by simpa using hk) e3]
   simp [numsP]
   omega
 have hlen : l.length < s.length + 1 := by
  have h1 := nums_len l
  have h2 := congrArg List.length h
  simp only [List.length_drop, List.length_append, List.length_cons] at h2
  omega
 unfold searchS
 simp only [key l [] _ p hl hlen h]
 simp [hn]
theorem only_of {r : RR} {t c x n l f b v m : Bool} (h : onlyB r t c x n l f b v m = true) :
  (t = false → r.tag = []) ∧ (c = false → r.code = []) ∧ (x = false → r.text = []) ∧ (n = false → r.n = 0) ∧ (l = false → r.nums = []) ∧ (f = false → r.flags = []) ∧ (b = false → r.box = []) ∧ (v = false → r.values = []) ∧ (m = false → r.mod = 0) := by
 unfold onlyB at h
 simp only [Bool.and_eq_true, Bool.or_eq_true, List.isEmpty_iff, decide_eq_true_eq] at h
 obtain ⟨⟨⟨⟨⟨⟨⟨⟨h1, h2⟩, h3⟩, h4⟩, h5⟩, h6⟩, h7⟩, h8⟩, h9⟩ := h
 refine ⟨?_, ?_, ?_, ?_, ?_, ?_, ?_, ?_, ?_⟩ <;> (rintro rfl; simp_all)
theorem dig_head (n : Nat) : ∃ c v, digS n = c :: v ∧ isDig c = true := by
 cases e : digS n with
 | nil => exact absurd e (digS_ne n)
 | cons c v =>
  have := digS_all n
  rw [e] at this
  simp at this
  exact ⟨c, v, rfl, this.1⟩
theorem eat_dig {s r w : Bs} {p n : Nat} (h : s.drop p = digS n ++ r) (hw : ∀ c ∈ w.head?, isDig c = false) (h0 : w ≠ []) : eatS s w ⟨p, true⟩ = (false, ⟨p, true⟩) := by
 obtain ⟨c, v, e, hc⟩ := dig_head n
 cases w with
 | nil => exact absurd rfl h0
 | cons a w =>
  have ha := hw a z_8
  exact eat_H (a := a) (c := c) (v := w) (r := v ++ r) (by rw [h, e]; rfl) rfl (by rintro rfl; rw [hc] at ha; cases ha)
def starP (r : RR) : Bs := (textP r).drop 2
theorem untag_dig {s r : Bs} {p n : Nat} (h : s.drop p = digS n ++ r) : untaggedS s ⟨p, true⟩ = numbered s ⟨p, true⟩ := by
 obtain ⟨c, v, e, hc⟩ := dig_head n
 unfold untaggedS
 rw [eat_dig (w := wFlags) h (by simp [wFlags, isDig]) z_8, if_neg z_8, eat_dig (w := wList) h (by simp [wList, isDig]) z_8, if_neg z_8, eat_dig (w := wSearch) h (by simp [wSearch, isDig]) z_8, if_neg z_8, eat_dig (w := wStatus) h (by simp [wStatus, isDig]) z_8, if_neg z_8]
 rw [if_pos]
 simp only
 rw [h, e]
 simpa using hc
theorem untagged_B {s t : Bs} {r : RR} {p : Nat} (hr : okR r = true) (h42 : (1 ≤ r.kind ∧ r.kind ≤ 4) ∧ r.tag = [42] ∨ 8 ≤ r.kind) (h : s.drop p = starP r ++ crlf ++ t) :
  untaggedS s ⟨p, true⟩ = (r, ⟨p + (starP r).length, true⟩) := by
 obtain ⟨kind, tag, code, text, n, nums, mod, flags, box, values⟩ := r
 simp only at h42
 unfold okR at hr
 simp only at hr
 by_cases c1 : 1 ≤ kind ∧ kind ≤ 4
 ·rw [if_pos c1] at hr
  simp only [Bool.and_eq_true, decide_eq_true_eq, Bool.or_eq_true] at hr
  obtain ⟨⟨⟨⟨h1, h2⟩, h3⟩, h4⟩, h5⟩ := hr
  obtain ⟨-, -, -, o4, o5, o6, o7, o8, o9⟩ := only_of h1
  simp only [forall_const] at o4 o5 o6 o7 o8 o9
  subst o4 o5 o6 o7 o8 o9
  have htag : tag = [42] := by
   rcases h42 with h | h
   ·exact h.2
   ·omega
  subst htag
  obtain ⟨k, rfl⟩ : ∃ m : Nat, kind = m := ⟨kind.toNat, by omega⟩
  simp only [starP, textP, c1, and_self, if_true, Int.toNat_natCast] at h ⊢
  have e : s.drop p = statW.getD (k - 1) [] ++ 32 :: codeP code ++ text ++ 13 :: (10 :: t) := by rw [h]; simp
  have hq := told_B (tag := [42]) ⟨by omega, by omega⟩ h4 h2 h3 (.inr rfl) e
  have hh : ∃ a v, s.drop p = a :: v ∧ (a = 79 ∨ a = 78 ∨ a = 66) := by
   have : ∀ k, k < 5 → 1 ≤ k → ∃ a ∈ ([79, 78, 66] : Bs), (statW.getD (k - 1) []).head? = some a := by decide
   obtain ⟨a, ha, hh⟩ := this k (by omega) (by omega)
   refine ⟨a, (statW.getD (k - 1) []).tail ++ (32 :: codeP code ++ text ++ 13 :: (10 :: t)), ?_, by simpa using ha⟩
   rw [e]
   cases hs : statW.getD (k - 1) [] with
   | nil => rw [hs] at hh; cases hh
   | cons b v => rw [hs] at hh; cases hh; simp
  obtain ⟨a, v, hv, ha⟩ := hh
  unfold untaggedS
  rw [eat_H (w := wFlags) hv (a := 70) (v := wFlags.tail) rfl (by rcases ha with rfl | rfl | rfl <;> decide), if_neg z_8,
   eat_H (w := wList) hv (a := 76) (v := wList.tail) rfl (by rcases ha with rfl | rfl | rfl <;> decide), if_neg z_8,
   eat_H (w := wSearch) hv (a := 83) (v := wSearch.tail) rfl (by rcases ha with rfl | rfl | rfl <;> decide), if_neg z_8,
   eat_H (w := wStatus) hv (a := 83) (v := wStatus.tail) rfl (by rcases ha with rfl | rfl | rfl <;> decide), if_neg z_8]
  rw [if_neg (by simp only [hv]; rcases ha with rfl | rfl | rfl <;> simp [isDig]), hq]
  simp
 have h8 : 8 ≤ kind := by omega
 rw [if_neg c1, if_neg (by omega), if_neg (by omega)] at hr
 by_cases c8 : kind = 8 ∨ kind = 9
 ·rw [if_pos c8] at hr
  simp only [Bool.and_eq_true, decide_eq_true_eq] at hr
  obtain ⟨o1, o2, o3, -, o5, o6, o7, o8, o9⟩ := only_of hr.1
  simp only [forall_const] at o1 o2 o3 o5 o6 o7 o8 o9
  subst o1 o2 o3 o5 o6 o7 o8 o9
  rcases c8 with rfl | rfl
  ·simp [starP, textP] at h ⊢
   have e1 : s.drop p = digS n ++ (wExists ++ (crlf ++ t)) := by rw [h]; simp
   rw [untag_dig e1]
   unfold numbered
   rw [number_B e1 hr.2 (by simp [isDig])]
   simp only
   rw [eat_B (drop_B e1), if_pos rfl]
   simp
   omega
  ·simp [starP, textP] at h ⊢
   have e1 : s.drop p = digS n ++ (wExpunge ++ (crlf ++ t)) := by rw [h]; simp
   rw [untag_dig e1]
   unfold numbered
   rw [number_B e1 hr.2 (by simp [isDig])]
   simp only
   have e2 := drop_B e1
   rw [eat_N (w := wExists) (by rw [e2]; rfl), if_neg z_8, eat_B e2, if_pos rfl]
   simp
   omega
 rw [if_neg c8] at hr
 by_cases c10 : kind = 10
 ·subst c10
  simp only [if_true, Bool.and_eq_true] at hr
  obtain ⟨o1, o2, o3, o4, o5, -, o7, o8, o9⟩ := only_of hr.1
  simp only [forall_const] at o1 o2 o3 o4 o5 o7 o8 o9
  subst o1 o2 o3 o4 o5 o7 o8 o9
  simp [starP, textP] at h ⊢
  have e1 : s.drop p = wFlags ++ (printF flags ++ (crlf ++ t)) := by rw [h]; simp
  unfold untaggedS
  rw [eat_B e1, if_pos rfl]
  simp only [flags_B (drop_B e1) hr.2]
  simp
  omega
 rw [if_neg c10] at hr
 by_cases c11 : kind = 11
 ·subst c11
  simp only [if_true, Bool.and_eq_true] at hr
  obtain ⟨o1, o2, o3, o4, o5, o6, -, o8, o9⟩ := only_of hr.1
  simp only [forall_const] at o1 o2 o3 o4 o5 o6 o8 o9
  subst o1 o2 o3 o4 o5 o6 o8 o9
  simp [starP, textP] at h ⊢
  have e1 : s.drop p = wList ++ (formS box ++ (crlf ++ t)) := by rw [h]; simp
  unfold untaggedS
  rw [eat_N (w := wFlags) (by rw [e1]; rfl), if_neg z_8, eat_B e1, if_pos rfl]
  simp only [box_B (drop_B e1) hr.2 z_8]
  simp
  omega
 rw [if_neg c11] at hr
 by_cases c12 : kind = 12
 ·subst c12
  simp only [if_true, Bool.and_eq_true, decide_eq_true_eq, List.all_eq_true] at hr
  obtain ⟨⟨⟨⟨g1, g2⟩, g3⟩, g4⟩, g5⟩ := hr
  obtain ⟨o1, o2, o3, o4, o5, o6, -, -, o9⟩ := only_of g4
  simp only [forall_const] at o1 o2 o3 o4 o5 o6 o9
  subst o1 o2 o3 o4 o5 o6 o9
  have hc : cellsP ⟨12, [], [], [], 0, [], 0, [], box, values⟩ = values.map countP := by
   have : ∀ l : List RV, (∀ v ∈ l, okC v = true) → (l.flatMap fun v => if 1 ≤ v.kind ∧ v.kind ≤ 5 then [countP v] else []) = l.map countP := by
    intro l
    induction l with
    | nil => intro _; rfl
    | cons v t ih =>
     intro h
     have hv := h v z_8
     simp only [okC, Bool.and_eq_true, decide_eq_true_eq] at hv
     rw [List.flatMap_cons, ih (fun x hx => h x (List.mem_cons_of_mem _ hx)), if_pos ⟨hv.1.1.1, hv.1.1.2.1⟩]
     rfl
   simp only [cellsP]
   simp [this values g3]
  simp [starP, textP, hc] at h ⊢
  have e1 : s.drop p = wStatus ++ (formS box ++ ([32] ++ (40 :: joinS [32] (values.map countP) ++ 41 :: (crlf ++ t)))) := by rw [h]; simp
  have e2 := drop_B e1
  have e3 := drop_B e2
  have e4 := drop_B e3
  unfold untaggedS
  rw [eat_N (w := wFlags) (by rw [e1]; rfl), if_neg z_8, eat_N (w := wList) (by rw [e1]; rfl), if_neg z_8, eat_N (w := wSearch) (by rw [e1]; rfl), if_neg z_8, eat_B e1, if_pos rfl]
  simp only [box_B e2 g5 z_8, need_B e3]
  rw [rows_B (f := countP) (g := okC) (fun p v r hv h hr => counted_B hv h hr) g1 g2 g3 e4]
  simp
  omega
 rw [if_neg c12] at hr
 by_cases c13 : kind = 13
 ·subst c13
  simp only [if_true, Bool.and_eq_true, decide_eq_true_eq, List.all_eq_true] at hr
  obtain ⟨⟨⟨g1, g2⟩, g3⟩, g4⟩ := hr
  obtain ⟨o1, o2, o3, o4, -, o6, o7, o8, -⟩ := only_of g1
  simp only [forall_const] at o1 o2 o3 o4 o6 o7 o8
  subst o1 o2 o3 o4 o6 o7 o8
  simp [starP, textP] at h ⊢
  have e1 : s.drop p = wSearch ++ (numsP nums ++ modP mod ++ 13 :: (10 :: t)) := by rw [h]; simp
  have e2 := drop_B e1
  unfold untaggedS
  rw [eat_N (w := wFlags) (by rw [e1]; rfl), if_neg z_8, eat_N (w := wList) (by rw [e1]; rfl), if_neg z_8, eat_B e1, if_pos rfl]
  simp only
  rw [search_B g3 g4 g2 e2]
  simp
  omega
 rw [if_neg c13] at hr
 by_cases c14 : kind = 14
 ·subst c14
  simp only [if_true, Bool.and_eq_true, decide_eq_true_eq, List.all_eq_true] at hr
  obtain ⟨⟨⟨⟨g1, g2⟩, g3⟩, g4⟩, g5⟩ := hr
  obtain ⟨o1, o2, o3, -, o5, o6, o7, -, o9⟩ := only_of g4
  simp only [forall_const] at o1 o2 o3 o5 o6 o7 o9
  subst o1 o2 o3 o5 o6 o7 o9
  have hc : cellsP ⟨14, [], [], [], n, [], 0, [], [], values⟩ = values.map valueP := by
   simp [cellsP, List.flatMap_singleton, ← List.map_eq_flatMap]
  simp [starP, textP, hc] at h ⊢
  have e1 : s.drop p = digS n ++ (wFetch ++ (40 :: joinS [32] (values.map valueP) ++ 41 :: (crlf ++ t))) := by rw [h]; simp
  have e2 := drop_B e1
  have e3 := drop_B e2
  rw [untag_dig e1]
  unfold numbered
  rw [number_B e1 g5 (by simp [isDig])]
  simp only
  rw [eat_N (w := wExists) (by rw [e2]; rfl), if_neg z_8, eat_N (w := wExpunge) (by rw [e2]; rfl), if_neg z_8]
  simp only [need_B e2]
  rw [rows_B (f := valueP) (g := okV) (fun p v r hv h hr => fetched_B hv h hr) g1 g2 g3 e3]
  simp
  omega
 ·rw [if_neg c14] at hr
  cases hr
theorem star_text {r : RR} (hr : okR r = true) (h : (1 ≤ r.kind ∧ r.kind ≤ 4) ∧ r.tag = [42] ∨ 8 ≤ r.kind) : textP r = 42 :: 32 :: starP r := by
 unfold starP textP
 rcases h with ⟨h, ht⟩ | h
 ·rw [if_pos h, ht]
  rfl
 ·repeat' split
  all_goals first | rfl | omega
theorem star_head {r : RR} (hr : okR r = true) (h : (1 ≤ r.kind ∧ r.kind ≤ 4) ∧ r.tag = [42] ∨ 8 ≤ r.kind) (t : Bs) : ∃ a v, starP r ++ t = a :: v ∧ a ≠ 67 ∧ a ≠ 69 := by
 obtain ⟨kind, tag, code, text, n, nums, mod, flags, box, values⟩ := r
 simp only at h
 have hd : ∀ (n : Nat) (x : Bs), ∃ a v, digS n ++ x = a :: v ∧ a ≠ 67 ∧ a ≠ 69 := fun n x => by
  obtain ⟨c, v, e, hc⟩ := dig_head n
  refine ⟨c, v ++ x, by rw [e]; rfl, ?_, ?_⟩ <;> (rintro rfl; simp [isDig] at hc)
 rcases h with ⟨h, rfl⟩ | h
 ·obtain ⟨k, rfl⟩ : ∃ m : Nat, kind = m := ⟨kind.toNat, by omega⟩
  have : ∀ k, k < 5 → 1 ≤ k → ∃ a ∈ ([79, 78, 66] : Bs), (statW.getD (k - 1) []).head? = some a := by decide
  obtain ⟨a, ha, hh⟩ := this k (by omega) (by omega)
  simp only [starP, textP, h, and_self, if_true, Int.toNat_natCast]
  cases hs : statW.getD (k - 1) [] with
  | nil => rw [hs] at hh; cases hh
  | cons b v =>
   rw [hs] at hh
   cases hh
   refine ⟨a, _, by simp; rfl, ?_, ?_⟩ <;> (rintro rfl; simp at ha)
 ·by_cases c8 : kind = 8
  ·subst c8
   obtain ⟨a, v, e, ha⟩ := hd n (wExists ++ t)
   exact ⟨a, v, by simpa [starP, textP] using e, ha⟩
  by_cases c9 : kind = 9
  ·subst c9
   obtain ⟨a, v, e, ha⟩ := hd n (wExpunge ++ t)
   exact ⟨a, v, by simpa [starP, textP] using e, ha⟩
  by_cases c10 : kind = 10
  ·subst c10; exact ⟨70, _, by simp [starP, textP]; rfl, by decide, by decide⟩
  by_cases c11 : kind = 11
  ·subst c11; exact ⟨76, _, by simp [starP, textP]; rfl, by decide, by decide⟩
  by_cases c13 : kind = 13
  ·subst c13; exact ⟨83, _, by simp [starP, textP]; rfl, by decide, by decide⟩
  by_cases c14 : kind = 14
  ·subst c14
   obtain ⟨a, v, e, ha⟩ := hd n (wFetch ++ 40 :: joinS [32] (cellsP ⟨14, tag, code, text, n, nums, mod, flags, box, values⟩) ++ [41] ++ t)
   exact ⟨a, v, by simpa [starP, textP] using e, ha⟩
  ·refine ⟨83, ?_, ?_, by decide, by decide⟩
   ·exact (starP ⟨kind, tag, code, text, n, nums, mod, flags, box, values⟩ ++ t).tail
   ·simp only [starP, textP]
    rw [if_neg (by omega), if_neg (by omega), if_neg (by omega), if_neg (by omega), if_neg c8, if_neg c9, if_neg c10, if_neg c11, if_neg c13, if_neg c14]
    rfl
theorem read_B {r : RR} (hr : okR r = true) (t : Bs) : readS ((textP r ++ crlf) ++ t) = some (r, (textP r ++ crlf).length) := by
 have fin : ∀ s : Bs, s = textP r ++ crlf ++ t → eatS s (caps ++ crlf) ⟨0, true⟩ = (false, ⟨0, true⟩) → eatS s (enab ++ crlf) ⟨0, true⟩ = (false, ⟨0, true⟩) → restS s ⟨0, true⟩ = (r, ⟨(textP r).length, true⟩) → readS s = some (r, (textP r ++ crlf).length) := by
  intro s hs h1 h2 h3
  have e : s.drop (0 + (textP r).length) = crlf ++ t := drop_B (p := 0) (by rw [hs]; simp)
  unfold readS
  simp only [h1, h2, h3]
  rw [if_neg z_8, if_neg z_8, need_B (p := (textP r).length) (by simpa using e), if_pos rfl]
  simp
 by_cases c6 : r.kind = 6
 ·have hr' := hr
  obtain ⟨kind, tag, code, text, n, nums, mod, flags, box, values⟩ := r
  simp only at c6
  subst c6
  simp [okR] at hr'
  obtain ⟨o1, o2, o3, o4, o5, o6, o7, o8, o9⟩ := only_of hr'
  simp only [forall_const] at o1 o2 o3 o4 o5 o6 o7 o8 o9
  subst o1 o2 o3 o4 o5 o6 o7 o8 o9
  have e : (textP ⟨6, [], [], [], 0, [], 0, [], [], []⟩ ++ crlf ++ t).drop 0 = (caps ++ crlf) ++ t := by simp [textP]
  unfold readS
  simp only [eat_B e]
  rw [if_pos trivial]
  simp [textP]
 by_cases c7 : r.kind = 7
 ·have hr' := hr
  obtain ⟨kind, tag, code, text, n, nums, mod, flags, box, values⟩ := r
  simp only at c7
  subst c7
  simp [okR] at hr'
  obtain ⟨o1, o2, o3, o4, o5, o6, o7, o8, o9⟩ := only_of hr'
  simp only [forall_const] at o1 o2 o3 o4 o5 o6 o7 o8 o9
  subst o1 o2 o3 o4 o5 o6 o7 o8 o9
  have e : (textP ⟨7, [], [], [], 0, [], 0, [], [], []⟩ ++ crlf ++ t).drop 0 = (enab ++ crlf) ++ t := by simp [textP]
  have hn : eatS (textP ⟨7, [], [], [], 0, [], 0, [], [], []⟩ ++ crlf ++ t) (caps ++ crlf) ⟨0, true⟩ = (false, ⟨0, true⟩) := eat_N (by rw [e]; rfl)
  unfold readS
  simp only [hn, eat_B e]
  rw [if_neg z_8, if_pos trivial]
  simp [textP]
 by_cases c5 : r.kind = 5
 ·have hr' := hr
  obtain ⟨kind, tag, code, text, n, nums, mod, flags, box, values⟩ := r
  simp only at c5
  subst c5
  simp [okR] at hr'
  obtain ⟨o1, o2, -, o4, o5, o6, o7, o8, o9⟩ := only_of hr'.1
  simp only [forall_const] at o1 o2 o4 o5 o6 o7 o8 o9
  subst o1 o2 o4 o5 o6 o7 o8 o9
  have hf := plain_facts hr'.2
  have e : (textP ⟨5, [], [], text, 0, [], 0, [], [], []⟩ ++ crlf ++ t).drop 0 = [43, 32] ++ (text ++ 13 :: (10 :: t)) := by simp [textP]
  have e' : (textP ⟨5, [], [], text, 0, [], 0, [], [], []⟩ ++ crlf ++ t).drop 0 = 43 :: (32 :: (text ++ 13 :: (10 :: t))) := e
  refine fin _ rfl (eat_H e' (a := 42) (v := (caps ++ crlf).tail) rfl (by decide)) (eat_H e' (a := 42) (v := (enab ++ crlf).tail) rfl (by decide)) ?_
  unfold restS
  rw [eat_B e, if_pos rfl]
  simp only
  rw [until_B (stops := [13]) (drop_B e) (fun c hc => by simpa using plain_ne (hf.1 c hc)) z_8]
  simp [hr'.2, textP]
  omega
 by_cases hs : (1 ≤ r.kind ∧ r.kind ≤ 4) ∧ r.tag = [42] ∨ 8 ≤ r.kind
 ·have ht := star_text hr hs
  obtain ⟨a, v, e, h67, h69⟩ := star_head hr hs (crlf ++ t)
  have e0 : (textP r ++ crlf ++ t).drop 0 = [42, 32] ++ (starP r ++ (crlf ++ t)) := by rw [ht]; simp
  have e1 : (textP r ++ crlf ++ t).drop 0 = 42 :: 32 :: a :: v := by rw [e0, e]; rfl
  refine fin _ rfl ?_ ?_ ?_
  ·refine eat_N ?_
   rw [e1]
   simp [List.isPrefixOf, Ne.symm h67]
  ·refine eat_N ?_
   rw [e1]
   simp [List.isPrefixOf, Ne.symm h69]
  ·unfold restS
   rw [eat_H (w := [43, 32]) (a := 43) (c := 42) (v := [32]) (r := 32 :: a :: v) e1 rfl (by decide), if_neg z_8, eat_B e0, if_pos rfl]
   rw [untagged_B hr hs (t := t) (by have := drop_B e0; rw [this]; simp)]
   rw [ht]
   simp
   omega
 ·obtain ⟨kind, tag, code, text, n, nums, mod, flags, box, values⟩ := r
  simp only at c5 c6 c7 hs
  have hr' := hr
  unfold okR at hr'
  simp only at hr'
  by_cases c1 : 1 ≤ kind ∧ kind ≤ 4
  ·rw [if_pos c1] at hr'
   simp only [Bool.and_eq_true, decide_eq_true_eq, Bool.or_eq_true] at hr'
   obtain ⟨⟨⟨⟨h1, h2⟩, h3⟩, h4⟩, h5⟩ := hr'
   obtain ⟨-, -, -, o4, o5, o6, o7, o8, o9⟩ := only_of h1
   simp only [forall_const] at o4 o5 o6 o7 o8 o9
   subst o4 o5 o6 o7 o8 o9
   have h5' : kind < 4 ∧ tagP tag = true := by
    rcases h5 with h5 | h5
    ·exact absurd (.inl ⟨c1, h5⟩) hs
    ·exact h5
   obtain ⟨hk4, htag⟩ := h5'
   unfold tagP atomS at htag
   simp only [Bool.and_eq_true, List.all_eq_true, Bool.not_eq_true', List.isEmpty_eq_false_iff, decide_eq_true_eq] at htag
   obtain ⟨⟨⟨ha, hne⟩, h43⟩, h32⟩ := htag
   obtain ⟨k, rfl⟩ : ∃ m : Nat, kind = m := ⟨kind.toNat, by omega⟩
   have htx : textP ⟨k, tag, code, text, 0, [], 0, [], [], []⟩ = tag ++ 32 :: statW.getD (k - 1) [] ++ 32 :: codeP code ++ text := by
    simp only [textP, c1, and_self, if_true, Int.toNat_natCast]
   obtain ⟨a, u, rfl⟩ : ∃ a u, tag = a :: u := by
    cases tag with
    | nil => exact absurd rfl hne
    | cons a u => exact ⟨a, u, rfl⟩
   have ha0 := isAtom_ne (ha a z_8)
   have h43a : a ≠ 43 := by rintro rfl; simp at h43
   have e1 : (textP ⟨k, a :: u, code, text, 0, [], 0, [], [], []⟩ ++ crlf ++ t).drop 0 = (a :: u) ++ ([32] ++ (statW.getD (k - 1) [] ++ 32 :: codeP code ++ text ++ 13 :: (10 :: t))) := by rw [htx]; simp
   have e1' : (textP ⟨k, a :: u, code, text, 0, [], 0, [], [], []⟩ ++ crlf ++ t).drop 0 = a :: (u ++ ([32] ++ (statW.getD (k - 1) [] ++ 32 :: codeP code ++ text ++ 13 :: (10 :: t)))) := e1
   have e2 := drop_B e1
   have e3 := drop_B e2
   refine fin _ rfl (eat_H e1' (a := 42) (v := (caps ++ crlf).tail) rfl (fun e => ha0.2.2.2.1 e.symm)) (eat_H e1' (a := 42) (v := (enab ++ crlf).tail) rfl (fun e => ha0.2.2.2.1 e.symm)) ?_
   unfold restS
   rw [eat_H (w := [43, 32]) (a := 43) (v := [32]) e1' rfl (fun e => h43a e.symm), if_neg z_8, eat_H (w := [42, 32]) (a := 42) (v := [32]) e1' rfl (fun e => ha0.2.2.2.1 e.symm), if_neg z_8]
   have hu := until_B (stops := [32, 13]) e1 (fun c hc => by have := isAtom_ne (ha c hc); simp [this.1, this.2.1]) z_8
   simp only [hu, need_B e2]
   have hat : (true && atomS (a :: u) && decide ((a :: u).length ≤ 32) && !(a :: u).contains 43) = true := by
    rw [h43]
    have : atomS (a :: u) = true := by
     unfold atomS
     simp only [Bool.and_eq_true, List.all_eq_true]
     exact ⟨ha, rfl⟩
    simp [this]
    simpa using h32
   rw [hat, told_B (k := k) ⟨by omega, by omega⟩ h4 h2 h3 (.inl (by omega)) e3, htx]
   simp
   omega
  ·rw [if_neg c1, if_neg c5, if_neg (by omega), if_neg (by omega), if_neg (by omega), if_neg (by omega), if_neg (by omega), if_neg (by omega), if_neg (by omega)] at hr'
   cases hr'
end Go.Proofs.YtgllpcggdcknaaaGreatDoor.Rp
namespace Go.Proofs.YtgllpcggdcknaaaGreatDoor.Rp
open Go Go.Sl
def toS (s : Bs) (p : Nat) (stops : Bs) : Nat := p + (stopW stops (s.drop p)).length
end Go.Proofs.YtgllpcggdcknaaaGreatDoor.Rp
namespace Go.Proofs.YtgllpcggdcknaaaGreatDoor.Rp
open Go Go.Sl
theorem read_none {s : Bs} {r : RR} (hs : s = textP r ++ crlf) (h : okR r = false) : ∀ q n, readS s = some (q, n) → q ≠ r := by
 rintro q n hq rfl
 rw [(read_A hq).1] at h
 cases h
end Go.Proofs.YtgllpcggdcknaaaGreatDoor.Rp
namespace Go.Proofs.YtgllpcggdcknaaaGreatDoor.Rp
open Go Go.Sl Go.RowKit
structure Gl (h : Heap) : Prop where
 m : ∃ m t fr, h 0 = some (.cells #[.int .i64 m] t fr)
 tab : ∃ t fr, h 1 = some (.cells (Lib.pow10Tab.map fun z => Value.int .u64 z).toArray t fr)
 syn : ∃ e t fr, h 2 = some (.cells #[e] t fr) ∧ (e = .nilIface ∨ ∃ te pe, e = .iface te pe)
 rng : ∃ e t fr, h 3 = some (.cells #[e] t fr) ∧ (e = .nilIface ∨ ∃ te pe, e = .iface te pe)
theorem Gl.le {h h' : Heap} (g : Gl h) (hl : Heap.le h h') : Gl h' := by
 obtain ⟨⟨a, b, c, h1⟩, ⟨d, e, h2⟩, ⟨f, i, j, h3, k3⟩, ⟨k, l, m, h4, k4⟩⟩ := g
 exact ⟨⟨a, b, c, hl _ _ h1⟩, ⟨d, e, hl _ _ h2⟩, ⟨f, i, j, hl _ _ h3, k3⟩, ⟨k, l, m, hl _ _ h4, k4⟩⟩
theorem Gl.tabIs {w : World} (g : Gl (hp w)) : Lib.TabIs Tryz.prog w "internal/strconv.uint64pow10" .u64 Lib.pow10Tab := by
 obtain ⟨t, fr, h⟩ := g.tab
 have hn : Tryz.prog.globalNamed "internal/strconv.uint64pow10" = some 1 := by kernel_rfl
 have h' : w.heap[1]? = some (.cells (Lib.pow10Tab.map fun z => Value.int .u64 z).toArray t fr) := h
 unfold Lib.TabIs World.var?
 rw [hn]
 simp only [Option.bind_some, h']
theorem pu_below {P : Program} {f : FuncId} {args : List Value} {Pre : Heap → Prop} {v : Value}
  (h : ∀ w, Pre (hp w) → Calls P f args.toArray w fun e w' => e = .returned v ∧ Below w.heap.size w w') : Pu P f args Pre v := by
 intro w bs hsat hnd hpre
 have hb : bs = [] := hsat
 subst hb
 rw [hpBut_nil] at hpre
 refine (h w hpre).mono ?_
 rintro e w' ⟨rfl, hbel⟩
 refine ⟨v, [], rfl, ⟨rfl, rfl⟩, hbel.os, hbel.tape, hbel.output, fun b o hbo => ?_, [], rfl, List.nodup_nil, by simp⟩
 have h3 : w.heap[b]? = some o := hpBut_le w [] b o hbo
 have h4 : b < w.heap.size := (Array.getElem?_eq_some_iff.1 h3).1
 show w'.heap[b]? = _
 rw [hbel.block b h4]; exact h3
theorem pu_same {P : Program} {f : FuncId} {args : List Value} {Pre : Heap → Prop} {v : Value}
  (h : ∀ w, Pre (hp w) → Calls P f args.toArray w fun e w' => e = .returned v ∧ w' = w) : Pu P f args Pre v :=
 pu_below fun w hw => (h w hw).mono fun e w' ⟨he, hw'⟩ => ⟨he, hw' ▸ Below.refl _ _⟩
theorem HasPrefix_ct (s p : Bs) : Pu Tryz.prog 49 [B s, B p] (fun _ => True) (.bool (p.isPrefixOf s)) := pu_same fun w _ => Tryz.strings_HasPrefix ⟨s.toArray⟩ ⟨p.toArray⟩ w
theorem indexByte_eq (s : Bs) (c : UInt8) : Lib.indexByte s c = if s.contains c = true then ((s.takeWhile fun x => x != c).length : Int) else -1 := by
 induction s with
 | nil => rfl
 | cons a t ih =>
  rw [Lib.indexByte]
  by_cases h : a = c
  ·subst h; simp
  ·have h' : (a == c) = false := by simpa using h
   have h'' : (c == a) = false := by simpa using fun e : c = a => h e.symm
   rw [h', ih]
   simp only [List.contains_cons, h'', Bool.false_or, List.takeWhile_cons, bne, h', Bool.not_false, if_true]
   by_cases hc : t.contains c = true
   ·simp only [hc, if_true]
    have : ((t.takeWhile fun x => !(x == c)).length : Int) ≠ -1 := by omega
    simp [this]
   ·simp only [hc]
    rfl
theorem IndexByte_ct (s : Bs) (c : UInt8) : Pu Tryz.prog 25 [B s, .int .u8 (c.toNat : Nat)] (fun _ => True) (.int .i64 (Lib.indexByte s c)) := pu_same fun w _ => by
 have := Tryz.strings_IndexByte ⟨s.toArray⟩ (c.toNat : Nat) w
 have e : ((c.toNat : Nat) : Int).toNat.toUInt8 = c := by simp
 rwa [e] at this
theorem dec_dig (n : Nat) : Lib.decDigits n = digS n := by
 induction n using Nat.strongRecOn with
 | ind n ih =>
  rw [Lib.decDigits]
  split
  ·next h => rw [digS_lt h]; rfl
  ·next h => rw [digS_ge h, ih (n / 10) (by omega)]; rfl
theorem small_ct (n : Nat) (h : n < 100) : Pu Tryz.prog 112 [.int .i64 (n : Nat)] (fun _ => True) (B (digS n)) := pu_same fun w _ => by
 have := Tryz.internal_strconv_small n h w
 rwa [dec_dig] at this
theorem numDigits_ct (n : Nat) (h1 : 1 ≤ n) (h2 : n < 18446744073709551616) : Pu Tryz.prog 113 [.int .u64 (n : Nat)] Gl (.int .i64 (Lib.nDigits n)) := pu_same fun w hg => Tryz.internal_strconv_numDigits n h1 h2 w hg.tabIs
theorem interc_join (sep : Bs) : ∀ l : List Bs, Lib.join l sep = joinS sep l
 | [] => rfl
 | [x] => by simp [Lib.join, joinS, List.intercalate]
 | x :: y :: t => by
  rw [join_cons _ _ z_8, ← interc_join sep (y :: t)]
  simp [Lib.join, List.intercalate]
end Go.Proofs.YtgllpcggdcknaaaGreatDoor.Rp
namespace Go.Proofs.YtgllpcggdcknaaaGreatDoor.Rp
open Go Go.Sl
abbrev U8 (c : UInt8) : Value := .int .u8 (c.toNat : Nat)
theorem u8_eq {a b : UInt8} : decide ((a.toNat : Int) = (b.toNat : Int)) = decide (a = b) := by
 by_cases h : a = b
 ·subst h; simp
 ·have : ¬((a.toNat : Int) = (b.toNat : Int)) := fun e => h (UInt8.toNat_inj.mp (by omega))
  simp [h, this]
theorem all_no {p : UInt8 → Bool} {s : Bs} {k : Nat} (hk : k < s.length) (h : p (s.getD k 0) = false) : s.all p = false := by
 cases e : s.all p with
 | false => rfl
 | true =>
  have := List.all_eq_true.mp e (s.getD k 0) (by rw [List.getD_eq_getElem?_getD, List.getElem?_eq_getElem hk]; exact List.getElem_mem hk)
  rw [h] at this
  cases this
theorem all_yes {p : UInt8 → Bool} {s : Bs} (h : ∀ j, j < s.length → p (s.getD j 0) = true) : s.all p = true := by
 refine List.all_eq_true.mpr fun c hc => ?_
 obtain ⟨j, hj, rfl⟩ := List.getElem_of_mem hc
 simpa [hj] using h j hj
end Go.Proofs.YtgllpcggdcknaaaGreatDoor.Rp
namespace Go.Proofs.YtgllpcggdcknaaaGreatDoor.Rp
open Go Go.Sl
theorem digS_len : ∀ (k n : Nat), 1 ≤ k → n < 10 ^ k → (digS n).length ≤ k
 | 0, _, h, _ => by omega
 | 1, n, _, h => by rw [digS_lt (by omega)]; simp
 | k + 2, n, _, h => by
  by_cases hl : n < 10
  ·rw [digS_lt hl]; simp
  ·rw [digS_ge hl]
   have := digS_len (k + 1) (n / 10) (by omega) (by rw [Nat.pow_succ] at h; omega)
   simp
   omega
theorem digS_len64 {n : Nat} (h : n ≤ 18446744073709551615) : (digS n).length ≤ 20 := digS_len 20 n (by omega) (by omega)
theorem take_succ_map (f : UInt8 → UInt8) {s : Bs} {k : Nat} (hk : k < s.length) : (s.take (k + 1)).map f = (s.take k).map f ++ [f (s.getD k 0)] := by
 rw [List.take_succ_eq_append_getElem hk, List.map_append, List.getD_eq_getElem?_getD, List.getElem?_eq_getElem hk]
 rfl
end Go.Proofs.YtgllpcggdcknaaaGreatDoor.Rp
namespace Go.Proofs.YtgllpcggdcknaaaGreatDoor.Rp
open Go Go.Sl
abbrev numV (o : Option Nat) : Value := .tuple #[.int .u64 ((o.getD 0 : Nat) : Int), .bool o.isSome]
theorem num_none {s : Bs} (h : ∀ n, n ≤ great → s ≠ digS n) : numS s = none := by
 cases e : numS s with
 | none => rfl
 | some n => exact absurd (numS_some e).1 (h n (numS_some e).2)
theorem num_digit {s : Bs} {k : Nat} (hk : k < s.length) (h : isDig (s.getD k 0) = false) : numS s = none := num_none fun n hn e => by
 have := digS_all n
 rw [← e, all_no hk h] at this
 cases this
theorem val_take {s : Bs} {k : Nat} (hk : k < s.length) : valK 0 (s.take (k + 1)) = 10 * valK 0 (s.take k) + ((s.getD k 0).toNat - 48) := by
 rw [List.take_succ_eq_append_getElem hk, valK_append, valK_cons, valK_nil, List.getD_eq_getElem?_getD, List.getElem?_eq_getElem hk]
 rfl
theorem flat_snoc {s : Bs} {k : Nat} (hk : k < s.length) : (s.take (k + 1)).flatMap escC = (s.take k).flatMap escC ++ escC (s.getD k 0) := by
 rw [List.take_succ_eq_append_getElem hk, List.flatMap_append, List.getD_eq_getElem?_getD, List.getElem?_eq_getElem hk]
 simp
theorem esc_len (s : Bs) : (s.flatMap escC).length ≤ 2 * s.length := by
 induction s with
 | nil => simp
 | cons c t ih =>
  rw [List.flatMap_cons, List.length_append, List.length_cons]
  have : (escC c).length ≤ 2 := by unfold escC; split <;> simp
  omega
abbrev optV (o : Option Bs) : Value := .tuple #[B (o.getD []), .bool o.isSome]
end Go.Proofs.YtgllpcggdcknaaaGreatDoor.Rp
namespace Go.Proofs.YtgllpcggdcknaaaGreatDoor.Rp
open Go Go.Sl
abbrev big : Nat := 1000000000000
theorem head_get {s : Bs} (h : 1 ≤ s.length) : s.head? = some (s.getD 0 0) := by
 cases s with
 | nil => simp at h
 | cons a t => rfl
theorem last_get {s : Bs} (h : 1 ≤ s.length) : s.getLast? = some (s.getD (s.length - 1) 0) := by
 rw [List.getLast?_eq_getElem?, List.getD_eq_getElem?_getD, List.getElem?_eq_getElem (by omega)]
 rfl
end Go.Proofs.YtgllpcggdcknaaaGreatDoor.Rp
namespace Go.Proofs.YtgllpcggdcknaaaGreatDoor.Rp
open Go Go.Sl
abbrev unqV (o : Option (Bs × Nat)) : Value := .tuple #[B (o.getD ([], 0)).1, .int .i64 ((o.getD ([], 0)).2 : Nat), .bool o.isSome]
theorem drop_get {s : Bs} {k : Nat} (hk : k < s.length) : s.drop k = s.getD k 0 :: s.drop (k + 1) := by
 rw [List.drop_eq_getElem_cons hk, List.getD_eq_getElem?_getD, List.getElem?_eq_getElem hk]
 rfl
end Go.Proofs.YtgllpcggdcknaaaGreatDoor.Rp
namespace Go.Proofs.YtgllpcggdcknaaaGreatDoor.Rp
open Go Go.Sl
theorem idx_at : ∀ {l : List Bs} {f : Bs} {k : Nat}, k < l.length → (∀ j, j < k → l.getD j [] ≠ f) → l.getD k [] = f → l.idxOf f = k
 | [], _, _, h, _, _ => by simp at h
 | x :: t, f, 0, _, _, h => by
  have : x = f := h
  simp [List.idxOf_cons, this]
 | x :: t, f, k + 1, hk, hno, h => by
  have hx : x ≠ f := hno 0 (by omega)
  have := idx_at (l := t) (f := f) (k := k) (by simpa using hk) (fun j hj => by have := hno (j + 1) (by omega); simpa using this) (by simpa using h)
  have hb : (x == f) = false := by simpa using hx
  rw [List.idxOf_cons, hb, this]
  rfl
theorem find_at : ∀ {l : List Bs} {p : Bs → Bool} {k : Nat}, k < l.length → (∀ j, j < k → p (l.getD j []) = false) → p (l.getD k []) = true → l.find? p = some (l.getD k [])
 | [], _, _, h, _, _ => by simp at h
 | x :: t, p, 0, _, _, h => by
  have h : p x = true := h
  simp [List.find?_cons, h]
 | x :: t, p, k + 1, hk, hno, h => by
  have hx : p x = false := hno 0 (by omega)
  have := find_at (l := t) (p := p) (k := k) (by simpa using hk) (fun j hj => by have := hno (j + 1) (by omega); simpa using this) (by simpa using h)
  rw [List.find?_cons, hx]
  simpa using this
theorem find_no {l : List Bs} {p : Bs → Bool} (h : ∀ j, j < l.length → p (l.getD j []) = false) : l.find? p = none := by
 rw [List.find?_eq_none]
 intro x hx
 obtain ⟨j, hj, rfl⟩ := List.getElem_of_mem hx
 have := h j hj
 rw [List.getD_eq_getElem?_getD, List.getElem?_eq_getElem hj] at this
 simp at this
 simp [this]
theorem sys_len {k : Nat} (hk : k < 5) : (sysL.getD k []).length ≤ 9 := by
 have : ∀ k, k < 5 → (sysL.getD k []).length ≤ 9 := by decide
 exact this k hk
end Go.Proofs.YtgllpcggdcknaaaGreatDoor.Rp
namespace Go.Proofs.YtgllpcggdcknaaaGreatDoor.Rp
open Go Go.Sl
def fV (l : List Bs) : List Value := l.map fun f => B f
theorem fV_len (l : List Bs) : (fV l).length = l.length := by simp [fV]
theorem fV_one (l : List Bs) : ∀ q ∈ fV l, q.oneCell' = true := fun q hq => by
 obtain ⟨x, _, rfl⟩ := List.mem_map.mp hq
 rfl
theorem fV_append (a b : List Bs) : fV (a ++ b) = fV a ++ fV b := by simp [fV]
abbrev OwnS (a : Option Addr) (l : List Bs) (c : Nat) : As := .own (.slice a l.length c) 9 1 (fV l)
theorem rdB_some {h : Heap} {a : Option Addr} {l : List Bs} {i : Nat} (r : RdS h a (fV l)) (hi : i < l.length) : ∃ ad, a = some ad := by
 obtain ⟨ad, e, _⟩ := r (by intro e; have := congrArg List.length e; rw [fV_len] at this; simp at this; subst this; simp at hi)
 exact ⟨ad, e⟩
theorem rdB {F : Snap} {w : World} {H : List As} {a : Option Addr} {l : List Bs} (hw : Hp F w H) (r : RdS F.heap a (fV l)) {q i : Nat} (h : q = i) (hi : i < l.length) : PeekC (hp w) (addO a q) [B (l.getD i [])] :=
 peek_rd hw r z_8 (fun j u hu => by
  match j, hu with
  | 0, hu =>
   simp at hu; subst hu h
   simp [fV, hi])
theorem rdB_own {F : Snap} {w : World} {H H' : List As} {ys : List As} {a : Option Addr} {n c : Nat} {te : TypeId} {l : List Bs} (hw : Hp F w H) (u : Upd H (.own (.slice a n c) te 1 (fV l)) ys H') {q i : Nat} (h : q = i) (hi : i < l.length) : PeekC (hp w) (addO a q) [B (l.getD i [])] :=
 peek_own hw u z_8 (fun j u hu => by
  match j, hu with
  | 0, hu =>
   simp at hu; subst hu h
   simp [fV, hi])
theorem ins_len (f : Bs) : ∀ l : List Bs, (insS f l).length = l.length + 1
 | [] => rfl
 | x :: t => by
  rw [insS]
  split
  ·simp
  ·simp [ins_len f t]
theorem takeB {l : List Bs} {k : Nat} (hk : k < l.length) : l.take (k + 1) = l.take k ++ [l.getD k []] := by
 rw [List.take_succ_eq_append_getElem hk, List.getD_eq_getElem?_getD, List.getElem?_eq_getElem hk]
 rfl
end Go.Proofs.YtgllpcggdcknaaaGreatDoor.Rp
namespace Go.Proofs.YtgllpcggdcknaaaGreatDoor.Rp
open Go Go.Sl
theorem canonL_snoc {x c : Bs} (hx : canonS x = some c) : ∀ {l cs : List Bs}, canonL l = some cs → canonL (l ++ [x]) = some (cs ++ [c])
 | [], cs, h => by
  simp [canonL] at h
  subst h
  simp [canonL, hx]
 | s :: t, cs, h => by
  rw [canonL] at h
  split at h
  ·next d l hd hl =>
   cases h
   rw [List.cons_append, canonL, hd, canonL_snoc hx hl]
   rfl
  ·cases h
theorem canonL_bad {x : Bs} (hx : canonS x = none) : ∀ {l : List Bs}, x ∈ l → canonL l = none
 | [], h => by simp at h
 | s :: t, h => by
  rw [canonL]
  rcases List.mem_cons.mp h with rfl | h
  ·rw [hx]
  ·rw [canonL_bad hx h]
   cases canonS s <;> rfl
theorem canonL_len : ∀ {l cs : List Bs}, canonL l = some cs → cs.length = l.length
 | [], cs, h => by simp [canonL] at h; subst h; rfl
 | s :: t, cs, h => by
  rw [canonL] at h
  split at h
  ·next d l hd hl =>
   cases h
   simp [canonL_len hl]
  ·cases h
theorem with_len (l : List Bs) (f : Bs) : (withS l f).length ≤ l.length + 1 := by
 unfold withS
 split
 ·omega
 ·rw [ins_len]; omega
theorem set_len (l : List Bs) : (setS l).length ≤ l.length := by
 have : ∀ (l acc : List Bs), (l.foldl withS acc).length ≤ acc.length + l.length := by
  intro l
  induction l with
  | nil => intro acc; simp
  | cons f t ih =>
   intro acc
   have h1 := ih (withS acc f)
   have h2 := with_len acc f
   simp only [List.foldl_cons, List.length_cons]
   omega
 have := this l []
 simpa [setS] using this
theorem getB_mem {l : List Bs} {k : Nat} (hk : k < l.length) : l.getD k [] ∈ l := by
 rw [List.getD_eq_getElem?_getD, List.getElem?_eq_getElem hk]
 exact List.getElem_mem hk
def MakeP (m : List Bs × Int) (v : Value) (A : List As) : Prop := ∃ a c, v = .tuple #[.slice a m.1.length c, .int .i64 m.2] ∧ A = [OwnS a m.1 c]
end Go.Proofs.YtgllpcggdcknaaaGreatDoor.Rp
namespace Go.Proofs.YtgllpcggdcknaaaGreatDoor.Rp
open Go Go.Sl
def ParseP (q : List Bs × Nat × Int) (v : Value) (A : List As) : Prop := ∃ a c, v = .tuple #[.slice a q.1.length c, .int .i64 (q.2.1 : Nat), .int .i64 q.2.2] ∧ A = [OwnS a q.1 c]
end Go.Proofs.YtgllpcggdcknaaaGreatDoor.Rp
namespace Go.Proofs.YtgllpcggdcknaaaGreatDoor.Rp
open Go Go.Sl
theorem cut_word {s : Bs} {p j : Nat} (h : p ≤ j) : (s.drop ((p : Nat) : Int).toNat).take (((j : Nat) : Int).toNat - ((p : Nat) : Int).toNat) = (s.drop p).take (j - p) := by simp only [Int.toNat_natCast]
end Go.Proofs.YtgllpcggdcknaaaGreatDoor.Rp
namespace Go.Proofs.YtgllpcggdcknaaaGreatDoor.Rp
open Go Go.Sl
theorem pre_take (w t : Bs) : w.isPrefixOf t = (decide (w.length ≤ t.length) && decide (t.take w.length = w)) := by
 rw [Bool.eq_iff_iff, List.isPrefixOf_iff_prefix, List.prefix_iff_eq_take]
 simp only [Bool.and_eq_true, decide_eq_true_eq]
 constructor
 ·intro h
  refine ⟨?_, h.symm⟩
  have := congrArg List.length h
  rw [List.length_take] at this
  omega
 ·rintro ⟨_, h⟩
  exact h.symm
theorem run_end {f : UInt8 → Bool} {s : Bs} {p j : Nat} (h1 : p ≤ j) (h2 : j ≤ s.length ∨ j = p) (hno : ∀ i, p ≤ i → i < j → f (s.getD i 0) = true) (he : j < s.length → f (s.getD j 0) = false) :
  (s.drop p).takeWhile f = (s.drop p).take (j - p) ∧ j = p + ((s.drop p).takeWhile f).length := by
 have e : s.drop p = (s.drop p).take (j - p) ++ s.drop j := by
  have := (List.take_append_drop (j - p) (s.drop p)).symm
  rw [List.drop_drop, show p + (j - p) = j by omega] at this
  exact this
 have hw : (s.drop p).takeWhile f = (s.drop p).take (j - p) := by
  rw [e]
  rw [takeWhile_of f _ _ (fun c hc => ?_) (fun c hc => ?_)]
  ·rw [← e]
  ·obtain ⟨i, hi, rfl⟩ := List.getElem_of_mem hc
   rw [List.length_take, List.length_drop] at hi
   have := hno (p + i) (by omega) (by omega)
   rw [List.getD_eq_getElem?_getD, List.getElem?_eq_getElem (by omega)] at this
   simpa using this
  ·by_cases hj : j < s.length
   ·rw [drop_get hj] at hc
    simp at hc
    subst hc
    exact he hj
   ·rw [List.drop_of_length_le (by omega)] at hc
    simp at hc
 refine ⟨hw, ?_⟩
 rw [hw, List.length_take, List.length_drop]
 omega
end Go.Proofs.YtgllpcggdcknaaaGreatDoor.Rp
namespace Go.Proofs.YtgllpcggdcknaaaGreatDoor.Rp
open Go Go.Sl
theorem uqL_le : ∀ (n : Nat) (s b : Bs) (i : Nat) (t : Bs) (m : Nat), s.length ≤ n → uqL b i s = some (t, m) → m ≤ i + s.length
 | _, [], _, _, _, _, _, h => by simp [uqL] at h
 | 0, c :: s, _, _, _, _, hn, _ => by simp at hn
 | n + 1, c :: s, b, i, t, m, hn, h => by
  simp only [List.length_cons] at hn ⊢
  rw [uqL_cons] at h
  split at h
  ·cases h
  split at h
  ·simp at h; omega
  split at h
  ·split at h
   ·cases h
   ·next d t' =>
    split at h
    ·simp only [List.length_cons] at hn ⊢
     have := uqL_le n t' _ _ t m (by omega) h
     omega
    ·cases h
  split at h
  ·have := uqL_le n s _ _ t m (by omega) h
   omega
  ·cases h
theorem uqS_le {s : Bs} : ((uqS s).getD ([], 0)).2 ≤ s.length := by
 cases h : uqS s with
 | none => simp
 | some q =>
  obtain ⟨t, m⟩ := q
  cases s with
  | nil => cases h
  | cons c v =>
   unfold uqS at h
   simp only at h
   split at h
   ·have := uqL_le v.length v [] 1 t m (Nat.le_refl _) h
    simp
    omega
   ·cases h
theorem to_le {s : Bs} {p : Nat} {stops : Bs} (h : p ≤ s.length) : toS s p stops ≤ s.length := by
 unfold toS stopW
 have h1 := congrArg List.length (takeWhile_split (fun c => !stops.contains c) (s.drop p))
 rw [List.length_append, List.length_drop] at h1
 omega
end Go.Proofs.YtgllpcggdcknaaaGreatDoor.Rp
namespace Go.Proofs.YtgllpcggdcknaaaGreatDoor.Rp
open Go Go.Sl
theorem getB_ext {l m : List Bs} (hlen : l.length = m.length) (h : ∀ i, i < l.length → l.getD i [] = m.getD i []) : l = m := by
 apply List.ext_getElem hlen
 intro i h1 h2
 have := h i h1
 rw [List.getD_eq_getElem?_getD, List.getD_eq_getElem?_getD, List.getElem?_eq_getElem h1, List.getElem?_eq_getElem h2] at this
 exact this
theorem SameF_ct (l m : List Bs) (a b : Option Addr) (c d : Nat) (hl : l.length ≤ 1000000000000) : Pu Tryz.prog 18 [.slice a l.length c, .slice b m.length d] (fun h => RdS h a (fV l) ∧ RdS h b (fV m)) (.bool (decide (l = m))) := by
 refine ct_enter 26 Tryz.func18 rfl rfl rfl ?_
 intro F hr
 have hrd := hr.1
 have hrm := hr.2
 repeat refine x_ ?_
 refine a_ ?_
 repeat refine x_ ?_
 refine m_ ?_
 refine f_ (s_len_sl rfl) ?_
 refine m_ ?_
 refine f_ (s_len_sl rfl) ?_
 refine f_ (s_neq rfl rfl) ?_
 repeat refine n_ ?_
 refine g_cond rfl (fun h => ?_) (fun h => ?_)
 ·have hne : l ≠ m := by rintro rfl; simp at h
  rw [decide_eq_false hne]
  repeat refine x_ ?_
  refine a_ ?_
  repeat refine n_ ?_
  refine g_ret ?_
  exact at_end1 rfl rfl [] ⟨rfl, rfl⟩ (fun _ h => h)
 ·have hlen : l.length = m.length := by simp at h; omega
  repeat refine x_ ?_
  refine a_ ?_
  repeat refine n_ ?_
  refine g_loop (ι := Nat) (fun k => k ≤ l.length ∧ ∀ i, i < k → l.getD i [] = m.getD i []) (fun k => [(0, .slice a l.length c), (1, .slice b m.length d), (5, .int .i64 (k : Nat))]) (fun k => []) (fun k => l.length - k) 0 ⟨by omega, fun i h => by omega⟩ ?_ ?_ ?_
  ·(repeat (first | exact Sub.nil _ | refine Sub.cons rfl ?_))
  ·intro w hw; exact hw
  ·intro k hk
   obtain ⟨hk, hok⟩ := hk
   repeat refine x_ ?_
   refine m_ ?_
   refine m_ ?_
   refine f_ (s_len_sl rfl) ?_
   refine f_ (s_lss rfl rfl) ?_
   repeat refine n_ ?_
   refine g_cond rfl (fun h => ?_) (fun h => ?_)
   ·have hk' : k < l.length := by simp at h; omega
    have hsome := rdB_some hrd hk'
    have hsome2 := rdB_some hrm (i := k) (by omega)
    repeat refine y_ ?_
    refine g_draw0 ([3, 7], [0, 0, 3, 7, 0, 0, 48, 112, 255], []) 9 rfl ?_
    refine w_ 0 rfl (s_move rfl) ?_
    refine w_ 1 rfl (s_move rfl) ?_
    refine w_ 2 rfl (s_indexAddr rfl (by assumption) rfl (by omega)) ?_
    refine ga_readF 3 rfl (s_load1 rfl (fun w hw => rdB hw hrd (i := k) (by omega) (by omega))) (by (exact fun _ h => h)) rfl rfl rfl z_5 ?_
    refine w_ 4 rfl (s_move rfl) ?_
    refine w_ 5 rfl (s_move rfl) ?_
    refine w_ 6 rfl (s_indexAddr rfl (by assumption) rfl (by omega)) ?_
    refine ga_readF 7 rfl (s_load1 rfl (fun w hw => rdB hw hrm (i := k) (by omega) (by omega))) (by (exact fun _ h => h)) rfl rfl rfl z_5 ?_
    refine w_ 8 rfl (s_neq_str rfl rfl) ?_
    refine ga_done z_5 ?_
    repeat refine y_ ?_
    refine g_cond rfl (fun h2 => ?_) (fun h2 => ?_)
    ·have hne : l ≠ m := by rintro rfl; simp at h2
     rw [decide_eq_false hne]
     repeat refine x_ ?_
     refine a_ ?_
     repeat refine n_ ?_
     refine g_ret ?_
     exact at_end1 rfl rfl [] ⟨rfl, rfl⟩ (fun _ h => h)
    ·have h3 : l.getD k [] = m.getD k [] := by simpa using h2
     repeat refine x_ ?_
     refine m_ ?_
     refine f_ (s_add_i64 rfl rfl (by omega)) ?_
     refine a_ ?_
     repeat refine n_ ?_
     refine at_next (k + 1) ⟨by omega, fun i hi => ?_⟩ (by omega) ?_ ?_
     ·rcases Nat.lt_succ_iff_lt_or_eq.1 hi with h4 | rfl
      ·exact hok i h4
      ·exact h3
     ·(repeat (first | exact Sub.nil _ | refine Sub.cons rfl ?_))
     ·intro w hw; exact hw
   ·have hkl : k = l.length := by simp at h; omega
    have e : l = m := getB_ext hlen fun i hi => hok i (by omega)
    rw [decide_eq_true e]
    repeat refine x_ ?_
    refine a_ ?_
    repeat refine n_ ?_
    refine g_ret ?_
    exact at_end1 rfl rfl [] ⟨rfl, rfl⟩ (fun _ h => h)
end Go.Proofs.YtgllpcggdcknaaaGreatDoor.Rp
namespace Go.Proofs.YtgllpcggdcknaaaGreatDoor.Rp
open Go Go.Sl
structure VM where
 v : RV
 a : Option Addr
 c : Nat
abbrev VM0 : VM := ⟨V0, none, 0⟩
abbrev vmC (x : VM) : List Value := [.int .i64 x.v.kind, .int .u64 (x.v.n : Nat), .slice x.a x.v.flags.length x.c, B x.v.text, .bool x.v.part, .int .u64 (x.v.fr : Nat)]
abbrev vmA (x : VM) : Value := .agg #[.int .i64 x.v.kind, .int .u64 (x.v.n : Nat), .slice x.a x.v.flags.length x.c, B x.v.text, .bool x.v.part, .int .u64 (x.v.fr : Nat)]
abbrev vmV (l : List VM) : List Value := l.flatMap vmC
theorem vmC_len : ∀ x, (vmC x).length = 6 := fun _ => rfl
theorem vmC_one : ∀ x, ∀ q ∈ vmC x, q.oneCell' = true := fun x q hq => by simp at hq; rcases hq with rfl | rfl | rfl | rfl | rfl | rfl <;> rfl
theorem vmV_one (l : List VM) : ∀ q ∈ vmV l, q.oneCell' = true := rec_one (C := vmC) vmC_one l
theorem vmV_append (a b : List VM) : vmV (a ++ b) = vmV a ++ vmV b := List.flatMap_append
def nV (l : List Nat) : List Value := l.map fun n => .int .u64 (n : Nat)
theorem nV_len (l : List Nat) : (nV l).length = l.length := by simp [nV]
theorem nV_one (l : List Nat) : ∀ q ∈ nV l, q.oneCell' = true := fun q hq => by
 obtain ⟨x, _, rfl⟩ := List.mem_map.mp hq
 rfl
theorem nV_append (a b : List Nat) : nV (a ++ b) = nV a ++ nV b := by simp [nV]
structure RL where
 na : Option Addr
 nc : Nat
 fa : Option Addr
 fc : Nat
 va : Option Addr
 vc : Nat
 vs : List VM
abbrev L0 : RL := ⟨none, 0, none, 0, none, 0, []⟩
abbrev rrC (r : RR) (x : RL) : List Value := [.int .i64 r.kind, B r.tag, B r.code, B r.text, .int .u64 (r.n : Nat), .slice x.na r.nums.length x.nc, .int .u64 (r.mod : Nat), .slice x.fa r.flags.length x.fc, B r.box, .slice x.va x.vs.length x.vc]
abbrev rrA (r : RR) (x : RL) : Value := .agg #[.int .i64 r.kind, B r.tag, B r.code, B r.text, .int .u64 (r.n : Nat), .slice x.na r.nums.length x.nc, .int .u64 (r.mod : Nat), .slice x.fa r.flags.length x.fc, B r.box, .slice x.va x.vs.length x.vc]
structure RRd (r : RR) (x : RL) (h : Heap) : Prop where
 vals : r.values = x.vs.map VM.v
 nums : RdS h x.na (nV r.nums)
 flags : RdS h x.fa (fV r.flags)
 vs : RdS h x.va (vmV x.vs)
 fs : ∀ m ∈ x.vs, RdS h m.a (fV m.v.flags)
theorem RRd.le {r : RR} {x : RL} {h h' : Heap} (k : RRd r x h) (hl : Heap.le h h') : RRd r x h' := ⟨k.vals, k.nums.le hl, k.flags.le hl, k.vs.le hl, fun m hm => (k.fs m hm).le hl⟩
def vsH (l : List VM) : List As := l.map fun m => OwnS m.a m.v.flags m.c
def rrH (r : RR) (x : RL) : List As := .own (.slice x.na r.nums.length x.nc) 22 1 (nV r.nums) :: OwnS x.fa r.flags x.fc :: .own (.slice x.va x.vs.length x.vc) 46 6 (vmV x.vs) :: vsH x.vs
theorem vsH_append (a b : List VM) : vsH (a ++ b) = vsH a ++ vsH b := by simp [vsH]
theorem rd_of_own {h : Heap} {bs : List Nat} {a : Option Addr} {n c sz : Nat} {t : TypeId} {xs : List Value} {H : List As} (hs : Sat h H bs) (hm : As.own (.slice a n c) t sz xs ∈ H) : RdS h a xs := by
 obtain ⟨A, C, rfl⟩ := List.append_of_mem hm
 obtain ⟨ba, bb, rfl, _, h2⟩ := Sat.split hs
 exact Sat.rd h2 .del
theorem RRd.of_own {r : RR} {x : RL} {h : Heap} {bs : List Nat} {H : List As} (hv : r.values = x.vs.map VM.v) (hs : Sat h H bs) (hm : ∀ y ∈ rrH r x, y ∈ H) : RRd r x h :=
 ⟨hv, rd_of_own hs (hm _ (.head _)), rd_of_own hs (hm _ (.tail _ (.head _))), rd_of_own hs (hm _ (.tail _ (.tail _ (.head _)))), fun m hm' => rd_of_own hs (hm _ (.tail _ (.tail _ (.tail _ (List.mem_map.mpr ⟨m, hm', rfl⟩)))))⟩
end Go.Proofs.YtgllpcggdcknaaaGreatDoor.Rp
namespace Go.Proofs.YtgllpcggdcknaaaGreatDoor.Rp
open Go Go.Sl
theorem a3_0 {a0 a1 a2 : Value} : (#[a0, a1, a2] : Array Value)[0]? = some a0 := rfl
theorem a3_1 {a0 a1 a2 : Value} : (#[a0, a1, a2] : Array Value)[1]? = some a1 := rfl
theorem a3_2 {a0 a1 a2 : Value} : (#[a0, a1, a2] : Array Value)[2]? = some a2 := rfl
theorem a6_0 {a0 a1 a2 a3 a4 a5 : Value} : (#[a0, a1, a2, a3, a4, a5] : Array Value)[0]? = some a0 := rfl
theorem a6_1 {a0 a1 a2 a3 a4 a5 : Value} : (#[a0, a1, a2, a3, a4, a5] : Array Value)[1]? = some a1 := rfl
theorem a6_2 {a0 a1 a2 a3 a4 a5 : Value} : (#[a0, a1, a2, a3, a4, a5] : Array Value)[2]? = some a2 := rfl
theorem a6_3 {a0 a1 a2 a3 a4 a5 : Value} : (#[a0, a1, a2, a3, a4, a5] : Array Value)[3]? = some a3 := rfl
theorem a6_4 {a0 a1 a2 a3 a4 a5 : Value} : (#[a0, a1, a2, a3, a4, a5] : Array Value)[4]? = some a4 := rfl
theorem a6_5 {a0 a1 a2 a3 a4 a5 : Value} : (#[a0, a1, a2, a3, a4, a5] : Array Value)[5]? = some a5 := rfl
theorem a10_0 {a0 a1 a2 a3 a4 a5 a6 a7 a8 a9 : Value} : (#[a0, a1, a2, a3, a4, a5, a6, a7, a8, a9] : Array Value)[0]? = some a0 := rfl
theorem a10_1 {a0 a1 a2 a3 a4 a5 a6 a7 a8 a9 : Value} : (#[a0, a1, a2, a3, a4, a5, a6, a7, a8, a9] : Array Value)[1]? = some a1 := rfl
theorem a10_2 {a0 a1 a2 a3 a4 a5 a6 a7 a8 a9 : Value} : (#[a0, a1, a2, a3, a4, a5, a6, a7, a8, a9] : Array Value)[2]? = some a2 := rfl
theorem a10_3 {a0 a1 a2 a3 a4 a5 a6 a7 a8 a9 : Value} : (#[a0, a1, a2, a3, a4, a5, a6, a7, a8, a9] : Array Value)[3]? = some a3 := rfl
theorem a10_4 {a0 a1 a2 a3 a4 a5 a6 a7 a8 a9 : Value} : (#[a0, a1, a2, a3, a4, a5, a6, a7, a8, a9] : Array Value)[4]? = some a4 := rfl
theorem a10_5 {a0 a1 a2 a3 a4 a5 a6 a7 a8 a9 : Value} : (#[a0, a1, a2, a3, a4, a5, a6, a7, a8, a9] : Array Value)[5]? = some a5 := rfl
theorem a10_6 {a0 a1 a2 a3 a4 a5 a6 a7 a8 a9 : Value} : (#[a0, a1, a2, a3, a4, a5, a6, a7, a8, a9] : Array Value)[6]? = some a6 := rfl
theorem a10_7 {a0 a1 a2 a3 a4 a5 a6 a7 a8 a9 : Value} : (#[a0, a1, a2, a3, a4, a5, a6, a7, a8, a9] : Array Value)[7]? = some a7 := rfl
theorem a10_8 {a0 a1 a2 a3 a4 a5 a6 a7 a8 a9 : Value} : (#[a0, a1, a2, a3, a4, a5, a6, a7, a8, a9] : Array Value)[8]? = some a8 := rfl
theorem a10_9 {a0 a1 a2 a3 a4 a5 a6 a7 a8 a9 : Value} : (#[a0, a1, a2, a3, a4, a5, a6, a7, a8, a9] : Array Value)[9]? = some a9 := rfl
class HBld (P : Program) (t : TypeId) (fs : outParam (Array Field)) (places : outParam (List (Nat × Nat))) : Prop where
 hu : P.underlying t = some (.struct fs)
 hp : fs.toList.map (fun f => (f.offset, P.cellsOf f.type)) = places
 hin : (fs.toList.all fun f => (P.info? f.type).isSome) = true
theorem s_bld {P : Program} {L : Lcs} {dst : Option Tmp} {ty t : TypeId} {pos : String} {af : Array Edge} {gd : Option (Nat × Bool)} {fs : Array Field} {places : List (Nat × Nat)} {z : Value} {ps : List (Nat × Operand)} {vs : List (Nat × Value)} {cells : Array Value} [hb : HBld P t fs places] [hz : HZ P t z] (hx : evP L ps = some vs) (hfill : Instr.fill (places[·]?) z.cells vs = some cells) : OpF P ⟨dst, .build t ps.toArray, ty, pos, af, gd⟩ L (.agg cells) :=
 have : HU P t (.struct fs) := ⟨hb.hu⟩
 s_build hx (run_build_struct (fs := fs) hb.hp (fun f hf => List.all_eq_true.1 hb.hin f hf) hfill)
instance : HBld Tryz.prog 27 #[{ name := "Kind", type := 3, offset := 0, embedded := false, tag := "", pkgPath := "", byteOffset := 0 }, { name := "Tag", type := 9, offset := 1, embedded := false, tag := "", pkgPath := "", byteOffset := 8 }, { name := "Code", type := 9, offset := 2, embedded := false, tag := "", pkgPath := "", byteOffset := 24 }, { name := "Text", type := 9, offset := 3, embedded := false, tag := "", pkgPath := "", byteOffset := 40 }, { name := "N", type := 22, offset := 4, embedded := false, tag := "", pkgPath := "", byteOffset := 56 }, { name := "Nums", type := 23, offset := 5, embedded := false, tag := "", pkgPath := "", byteOffset := 64 }, { name := "Mod", type := 22, offset := 6, embedded := false, tag := "", pkgPath := "", byteOffset := 88 }, { name := "Flags", type := 24, offset := 7, embedded := false, tag := "", pkgPath := "", byteOffset := 96 }, { name := "Box", type := 9, offset := 8, embedded := false, tag := "", pkgPath := "", byteOffset := 120 }, { name := "Values", type := 25, offset := 9, embedded := false, tag := "", pkgPath := "", byteOffset := 136 }] [(0, 1), (1, 1), (2, 1), (3, 1), (4, 1), (5, 1), (6, 1), (7, 1), (8, 1), (9, 1)] := ⟨Tryz.underlying27, by kernel_rfl, by kernel_rfl⟩
instance : HBld Tryz.prog 46 #[{ name := "Kind", type := 3, offset := 0, embedded := false, tag := "", pkgPath := "", byteOffset := 0 }, { name := "N", type := 22, offset := 1, embedded := false, tag := "", pkgPath := "", byteOffset := 8 }, { name := "Flags", type := 24, offset := 2, embedded := false, tag := "", pkgPath := "", byteOffset := 16 }, { name := "Text", type := 9, offset := 3, embedded := false, tag := "", pkgPath := "", byteOffset := 40 }, { name := "Part", type := 4, offset := 4, embedded := false, tag := "", pkgPath := "", byteOffset := 56 }, { name := "From", type := 22, offset := 5, embedded := false, tag := "", pkgPath := "", byteOffset := 64 }] [(0, 1), (1, 1), (2, 1), (3, 1), (4, 1), (5, 1)] := ⟨Tryz.underlying46, by kernel_rfl, by kernel_rfl⟩
end Go.Proofs.YtgllpcggdcknaaaGreatDoor.Rp
namespace Go.Proofs.YtgllpcggdcknaaaGreatDoor.Rp
open Go Go.Sl Go.RowKit
section
variable {P : Program} {L : Lcs} {N : Nat} {dst : Option Tmp} {t : TypeId} {x : Operand} {ty : TypeId} {pos : String} {af : Array Edge} {gd : Option (Nat × Bool)}
theorem s_slice_arrH {b len e m' : Nat} {hi : Operand} {kk : IntKind} {j : Nat} [hu : HU P t (.array len e)] [hs : HS P e m'] (hx : ev L x = some (.pointer (some ⟨b, 0, none⟩))) (hhi : ev L hi = some (.int kk j)) (hr : j ≤ len) : OpF P ⟨dst, .slice t x none (some hi) none, ty, pos, af, gd⟩ L (.slice (some ⟨b, 0, none⟩) j len) := by
 unfold OpF
 intro ρ w hf
 have e1 : (⟨b, 0, none⟩ : Addr).add (0 * m') = ⟨b, 0, none⟩ := by simp [Addr.add]
 have e2 : ¬ max (j : Int) 0 < 0 := by omega
 simp [execOp, Instr.sliceAt, Instr.sureAddr, Instr.sliceBounds, Instr.sliceBound, asIntOf, hf _ _ hx, hf _ _ hhi, run_underlying hu.h, hs.h, Addr.add, hr]
end
abbrev encB : UInt8 → Value := fun b => Value.int .u8 (b.toNat : Int)
theorem fb10_ct (u b : Nat) (h1 : 1 ≤ u) (hu : u < 18446744073709551616) : Ct Tryz.prog 114 [.slice (some ⟨b, 0, none⟩) (Lib.nDigits u) 24, .int .u64 (u : Nat)] (fun _ => True) [.blk b (.cells (Array.replicate 24 (.int .u8 0)) 118)]
  (fun v A => v = .tuple #[] ∧ ∃ cs : Array Value, (∀ (j : Nat) (hj : j < (digS u).length), cs[j]? = some (.int .u8 ((digS u)[j].toNat : Nat))) ∧ A = [.blk b (.cells cs 118)]) := by
 intro w bs hsat hnd _
 obtain ⟨b1, b2, rfl, ⟨rfl, hb⟩, rfl⟩ := hsat
 have hb' : w.heap[b]? = some (.cells (Array.replicate 24 (.int .u8 0)) 118) := hb
 have hl24 : Lib.nDigits u ≤ 24 := by
  have := digS_len64 (n := u) (by omega)
  rw [← dec_dig, Lib.decDigits_length] at this
  omega
 have hH : Sort.Holds encB w b 0 (Array.replicate (Lib.nDigits u) (0 : UInt8)) := fun j hj => by
  have hj' : j < Lib.nDigits u := by simpa using hj
  constructor
  ·simp [World.cell?, hb', getElem!_pos, hj', show j < 24 by omega]
  ·simp [World.frozen?, hb']
 have hs : (Array.replicate (Lib.nDigits u) (0 : UInt8)).size = Lib.nDigits u := by simp
 have hu10 : u < 10 ^ (Array.replicate (Lib.nDigits u) (0 : UInt8)).size := by
  rw [hs]
  exact Lib.lt_pow_nDigits u
 have hc := Tryz.internal_strconv_formatBase10 b 0 24 u (Array.replicate (Lib.nDigits u) (0 : UInt8)) w hH hu10 hu (by rw [hs]; omega)
 rw [hs] at hc
 refine hc.mono ?_
 rintro e w' ⟨rfl, n, v', dk, rfl, hI⟩
 have hh : ((Sort.putRow encB w b 0 dk).drewN n).heap[b]? = some (.cells (Sort.putCells encB 0 dk (Array.replicate 24 (.int .u8 0))) 118) := by
  show (Sort.mapBlock w b _).heap[b]? = _
  unfold Sort.mapBlock
  simp [Array.getElem?_modify, hb', Sort.onCells]
 refine ⟨.tuple #[], [.blk b (.cells (Sort.putCells encB 0 dk (Array.replicate 24 (.int .u8 0))) 118)], rfl, ⟨rfl, _, fun j hj => ?_, rfl⟩, rfl, rfl, rfl, fun b' o hbo => ?_, [b], ⟨[b], [], rfl, ⟨rfl, hh⟩, rfl⟩, by simp, fun b' hb2 => ?_⟩
 ·have hj2 : j < (Lib.decDigits u).length := by rw [dec_dig]; exact hj
  have hj3 : j < Lib.nDigits u := by rw [Lib.decDigits_length] at hj2; exact hj2
  have hr := Lib.row_is_numeral hI j hj2
  have he : (digS u)[j] = (Lib.decDigits u)[j] := by congr 1; exact (dec_dig u).symm
  rw [he, hr]
  have hsz := hI.size
  simp [Sort.putCells, show j < 24 by omega, show j < dk.size by omega]
 ·have hne : b' ≠ b := by
   rintro rfl
   simp [snapBut, hpBut] at hbo
  have h2 : w.heap[b']? = some o := hpBut_le w _ b' o hbo
  show (Sort.mapBlock w b _).heap[b']? = _
  unfold Sort.mapBlock
  rw [Array.getElem?_modify, if_neg (fun h => hne h.symm)]
  exact h2
 ·simp at hb2
  subst hb2
  simp [snapBut, hpBut]
theorem bytes_at {l : Bs} {cs : Array Value} (h : ∀ (j : Nat) (hj : j < l.length), cs[j]? = some (.int .u8 (l[j].toNat : Nat))) : ∀ (j : Nat) (u : Value), (bytesV l)[j]? = some u → cs[j]? = some u := fun j u hu => by
 obtain ⟨hj, rfl⟩ := List.getElem?_eq_some_iff.1 hu
 have hj2 : j < l.length := by simpa [bytesV] using hj
 rw [h j hj2]
 simp [bytesV]
theorem FormatUint_ct (n : Nat) (h : n < 18446744073709551616) : Pu Tryz.prog 98 [.int .u64 (n : Nat), .int .i64 10] Gl (B (digS n)) := by
 refine ct_enter 32 Tryz.func98 rfl rfl rfl ?_
 intro F hg
 repeat refine x_ ?_
 refine a_ ?_
 repeat refine x_ ?_
 refine m_ ?_
 refine f_ (s_eql rfl rfl) ?_
 repeat refine x_ ?_
 refine m_ ?_
 refine f_ ((s_lss rfl rfl).eq (v' := .bool (decide (n < 100))) (congrArg Value.bool (decide_eq_decide.mpr (by omega)))) ?_
 repeat refine n_ ?_
 refine g_cond rfl (fun h1 => ?_) (fun h1 => ?_)
 ·have h2 := of_decide_eq_true h1
  repeat refine x_ ?_
  refine m_ ?_
  refine f_ (s_conv_keep_i64 rfl (by omega)) ?_
  refine gl_callp rfl (small_ct n h2) (fun _ _ _ => trivial) rfl ?_
  refine a_ ?_
  repeat refine n_ ?_
  refine g_ret ?_
  exact at_end1 rfl rfl [] ⟨rfl, rfl⟩ (fun _ h => h)
 ·have h2 := of_decide_eq_false h1
  have hdl : (digS n).length = Lib.nDigits n := by rw [← dec_dig, Lib.decDigits_length]
  have hd20 := digS_len64 (n := n) (by omega)
  repeat refine x_ ?_
  refine gl_allocA rfl ?_; intro g5
  repeat refine x_ ?_
  refine m_ ?_
  refine gl_callp rfl (numDigits_ct n (by omega) h) (fun h hh hb => hg.le hh) rfl ?_
  refine a_ ?_
  repeat refine x_ ?_
  refine m_ ?_
  refine f_ (s_slice_arrH rfl rfl (by omega)) ?_
  refine m_ ?_
  refine gl_call _ rfl (fb10_ct n g5 (by omega) h) i_ (fun _ _ _ => trivial) rfl ?_; rintro v A ⟨rfl, cs, hcs, rfl⟩
  repeat refine x_ ?_
  refine m_ ?_
  refine f_ (s_slice_arrH rfl rfl (by omega)) ?_
  refine r_ (s_string (l := digS n) rfl (by omega) (fun w hw => hw.rdBlk z_3 _ (bytes_at hcs))) ?_
  refine a_ ?_
  repeat refine n_ ?_
  refine g_ret ?_
  exact at_end1 rfl rfl [] ⟨rfl, rfl⟩ (fun _ h => h.dropAll)
theorem sFormatUint_ct (n : Nat) (h : n < 18446744073709551616) : Pu Tryz.prog 67 [.int .u64 (n : Nat), .int .i64 10] Gl (B (digS n)) := by
 refine ct_enter 8 Tryz.func67 rfl rfl rfl ?_
 intro F hg
 repeat refine x_ ?_
 refine a_ ?_
 repeat refine x_ ?_
 refine m_ ?_
 refine m_ ?_
 refine gl_callp rfl (FormatUint_ct n h) (fun h hh hb => hg.le hh) rfl ?_
 refine a_ ?_
 repeat refine n_ ?_
 refine g_ret ?_
 exact at_end1 rfl rfl [] ⟨rfl, rfl⟩ (fun _ h => h)
theorem Digits_ct (n : Nat) (h : n < 18446744073709551616) : Pu Tryz.prog 30 [.int .u64 (n : Nat)] Gl (B (digS n)) := by
 refine ct_enter 5 Tryz.func30 rfl rfl rfl ?_
 intro F hg
 repeat refine x_ ?_
 refine a_ ?_
 repeat refine x_ ?_
 refine m_ ?_
 refine gl_callp rfl (sFormatUint_ct n h) (fun h hh hb => hg.le hh) rfl ?_
 refine a_ ?_
 repeat refine n_ ?_
 refine g_ret ?_
 exact at_end1 rfl rfl [] ⟨rfl, rfl⟩ (fun _ h => h)
end Go.Proofs.YtgllpcggdcknaaaGreatDoor.Rp
