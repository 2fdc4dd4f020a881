import Derived.Test.YtgllpcggdcknaaaGreatDoorIx4
import Derived.Test.YtgllpcggdcknaaaGreatDoorIx1
set_option linter.unusedVariables false
set_option linter.unusedSimpArgs false
namespace Go.Proofs.YtgllpcggdcknaaaGreatDoor.Rp
open Go Go.Sl
theorem drop_B {s w r : Bs} {p : Nat} (h : s.drop p = w ++ r) : s.drop (p + w.length) = r := by rw [← List.drop_drop, h, List.drop_left]
theorem eat_B {s w r : Bs} {p : Nat} (h : s.drop p = w ++ r) : eatS s w ⟨p, true⟩ = (true, ⟨p + w.length, true⟩) := by
 have hp : w.isPrefixOf (s.drop p) = true := by rw [h]; exact List.isPrefixOf_iff_prefix.mpr ⟨r, rfl⟩
 unfold eatS
 rw [if_pos ⟨rfl, hp⟩]
theorem eat_N {s w : Bs} {p : Nat} (h : w.isPrefixOf (s.drop p) = false) : eatS s w ⟨p, true⟩ = (false, ⟨p, true⟩) := by
 unfold eatS
 rw [if_neg (by simp [h])]
theorem eat_H {s w : Bs} {p : Nat} {a c : UInt8} {v r : Bs} (h : s.drop p = c :: r) (hw : w = a :: v) (hne : a ≠ c) : eatS s w ⟨p, true⟩ = (false, ⟨p, true⟩) := by
 refine eat_N ?_
 rw [h, hw]
 simp [List.isPrefixOf, hne]
theorem need_B {s w r : Bs} {p : Nat} (h : s.drop p = w ++ r) : needS s w ⟨p, true⟩ = ⟨p + w.length, true⟩ := by unfold needS; rw [eat_B h]
theorem until_B {s w r stops : Bs} {p : Nat} (h : s.drop p = w ++ r) (hw : ∀ c ∈ w, c ∉ stops) (hr : ∀ c ∈ r.head?, c ∈ stops) : untilS s stops ⟨p, true⟩ = (w, ⟨p + w.length, true⟩) := by
 unfold untilS
 rw [if_pos rfl]
 have e : stopW stops (s.drop p) = w := by
  unfold stopW
  rw [h]
  exact takeWhile_of _ _ _ (fun c hc => by simpa using hw c hc) (fun c hc => by simpa using hr c hc)
 simp only [e]
theorem number_B {s r : Bs} {p n : Nat} (h : s.drop p = digS n ++ r) (hn : n ≤ great) (hr : ∀ c ∈ r.head?, isDig c = false) : numberS s ⟨p, true⟩ = (n, ⟨p + (digS n).length, true⟩) := by
 have e : numW s ⟨p, true⟩ = digS n := by
  unfold numW
  rw [if_pos rfl]
  simp only
  rw [h]
  exact dgs_dig n r hr
 unfold numberS
 rw [e, numS_dig hn]
 rfl
theorem flags_B {s r : Bs} {p : Nat} {l : List Bs} (h : s.drop p = printF l ++ r) (hl : rightS l = true) : flagsS s ⟨p, true⟩ = (l, ⟨p + (printF l).length, true⟩) := by
 unfold flagsS
 rw [if_pos rfl]
 simp only
 rw [h, parse_print hl r]
 simp only
 rw [if_pos trivial, need_B h]
theorem box_B {s r b : Bs} {p : Nat} (h : s.drop p = formS b ++ r) (hb : isBox b = true) (hr : ∀ c ∈ r.head?, c = 32 ∨ c = 13) : boxS s ⟨p, true⟩ = (b, ⟨p + (formS b).length, true⟩) := by
 have hN : boxN b = some b := by unfold isBox at hb; simpa using hb
 have hp := isBox_p hb
 unfold boxP at hp
 simp at hp
 have key : boxT s ⟨p, true⟩ = (b, ⟨p + (formS b).length, true⟩) := by
  rcases form_box hb with ⟨hf, ha⟩ | hf
  ·unfold atomS at ha
   simp only [Bool.and_eq_true, List.all_eq_true, Bool.not_eq_true', List.isEmpty_eq_false_iff] at ha
   rw [hf] at h ⊢
   have hu := until_B (stops := [32, 13]) h (fun c hc => by
    have := isAtom_ne (ha.1 c hc)
    simp [this.1, this.2.1]) (fun c hc => by simpa using hr c hc)
   unfold boxT
   simp only [hu]
   rw [if_neg]
   ·simp [hf]
   ·intro hp
    obtain ⟨t, rfl⟩ := pre34 hp
    exact (isAtom_ne (ha.1 34 z_10)).2.2.1 rfl
  ·have hu : ∃ t, (untilS s [32, 13] ⟨p, true⟩).1 = 34 :: t := by
    unfold untilS stopW
    rw [if_pos rfl]
    simp only
    rw [h, hf]
    exact ⟨_, by rw [List.cons_append, List.cons_append, List.takeWhile_cons, if_pos (by decide)]⟩
   obtain ⟨t, ht⟩ := hu
   have hq : uqS (s.drop p) = some (b, (formS b).length) := by
    rw [h, hf]
    have : 34 :: b ++ [34] ++ r = 34 :: (b ++ 34 :: r) := by simp
    rw [this]
    unfold uqS
    simp only
    rw [if_pos trivial, uqL_plain b [] 1 r (fun c hc => ⟨(boxC_q (hp.1.1.1.2 c hc)).1, (boxC_q (hp.1.1.1.2 c hc)).2.1, (boxC_q (hp.1.1.1.2 c hc)).2.2.1⟩) (by simp; omega)]
    simp
    omega
   unfold boxT
   simp only [ht, hq]
   rw [if_pos z_7]
   simp [hf, List.isPrefixOf]
 unfold boxS
 rw [if_pos rfl]
 simp only [key, hN]
 simp
theorem lit_B {s r t : Bs} {p : Nat} (h : s.drop p = literalS t ++ r) (ht : t.length ≤ 4096) : litS s ⟨p, true⟩ = (t, ⟨p + (literalS t).length, true⟩) := by
 have h1 : s.drop p = [123] ++ (digS t.length ++ ([125, 13, 10] ++ (t ++ r))) := by rw [h]; simp [literalS]
 have h2 := drop_B h1
 have h3 := drop_B h2
 have h4 := drop_B h3
 unfold litS
 simp only [need_B h1]
 rw [number_B h2 (by unfold great; omega) (by simp [isDig])]
 simp only [need_B h3]
 have hlen := congrArg List.length h4
 simp only [List.length_drop, List.length_append] at hlen
 rw [if_pos ⟨trivial, ht, by omega⟩, h4, List.take_left']
 ·simp [literalS]
  omega
 ·rfl
theorem item_plain : ∀ k, ∀ c ∈ itemA k, c ∉ ([32, 60, 13] : Bs) := by
 intro k
 unfold itemA
 by_cases h : k - 1 < 12
 ·have : ∀ i, i < 12 → ∀ c ∈ itemW.getD i [], c ∉ ([32, 60, 13] : Bs) := by decide
  exact this _ h
 ·rw [List.getD_eq_getElem?_getD, List.getElem?_eq_none (by have : itemW.length = 12 := rfl; omega)]
  simp
theorem countK_item : ∀ k, 1 ≤ k → k ≤ 5 → countK (itemA k) = k := by
 intro k h1 h2
 have : ∀ k, k < 6 → 1 ≤ k → countK (itemA k) = k := by decide
 exact this k (by omega) h1
theorem fetchK_item : ∀ k, 6 ≤ k → k ≤ 12 → fetchK (itemA k) = k := by
 intro k h1 h2
 have : ∀ k, k < 13 → 6 ≤ k → fetchK (itemA k) = k := by decide
 exact this k (by omega) h1
theorem counted_B {s r : Bs} {p : Nat} {v : RV} (hv : okC v = true) (h : s.drop p = countP v ++ r) (hr : ∀ c ∈ r.head?, c = 32 ∨ c = 41) : countedS s ⟨p, true⟩ = (v, ⟨p + (countP v).length, true⟩) := by
 obtain ⟨k, n, fl, tx, pt, fr⟩ := v
 simp only [okC, bareP, Bool.and_eq_true, decide_eq_true_eq, List.isEmpty_iff, Bool.not_eq_true'] at hv
 obtain ⟨⟨⟨h1, h2, h3⟩, rfl⟩, ⟨rfl, rfl⟩, rfl⟩ := hv
 obtain ⟨k, rfl⟩ : ∃ m : Nat, k = m := ⟨k.toNat, by omega⟩
 simp only [countP, Int.toNat_natCast] at h ⊢
 have e1 : s.drop p = itemA k ++ ([32] ++ (digS n ++ r)) := by rw [h]; simp
 have e2 := drop_B e1
 have e3 := drop_B e2
 have hu := until_B (stops := [32, 13]) e1 (fun c hc => by have := item_plain k c hc; simp at this ⊢; exact ⟨this.1, this.2.2⟩) z_10
 unfold countedS
 simp only [hu, need_B e2]
 rw [countK_item k (by omega) (by omega), if_neg (by omega), number_B e3 h3 (fun c hc => by rcases hr c hc with rfl | rfl <;> rfl)]
 simp
 omega
theorem part_B {s r : Bs} {p k fr : Nat} {pt : Bool} (hk : pt = true → 10 ≤ k) (h0 : pt = false → fr = 0) (hf : fr ≤ great) (h : s.drop p = (if pt = true then 60 :: digS fr ++ [62] else []) ++ 32 :: r) :
  partS s k ⟨p, true⟩ = ((pt, fr), ⟨p + (if pt = true then 60 :: digS fr ++ [62] else [] : Bs).length, true⟩) := by
 cases pt with
 | true =>
  have e1 : s.drop p = [60] ++ (digS fr ++ ([62] ++ 32 :: r)) := by rw [h]; simp
  have e2 := drop_B e1
  have e3 := drop_B e2
  unfold partS
  rw [eat_B e1]
  rw [if_pos ⟨hk rfl, rfl⟩]
  simp only
  rw [number_B e2 hf (by simp [isDig])]
  simp only [need_B e3]
  simp
  omega
 | false =>
  unfold partS
  rw [eat_H (a := 60) (c := 32) (v := []) (r := r) (by simpa using h) rfl (by decide)]
  simp [h0 rfl]
theorem fetched_B {s r : Bs} {p : Nat} {v : RV} (hv : okV v = true) (h : s.drop p = valueP v ++ r) (hr : ∀ c ∈ r.head?, c = 32 ∨ c = 41) : fetchedS s ⟨p, true⟩ = (v, ⟨p + (valueP v).length, true⟩) := by
 obtain ⟨k, n, fl, tx, pt, fr⟩ := v
 simp only [okV, Bool.and_eq_true, decide_eq_true_eq] at hv
 obtain ⟨⟨h1, h2, h3, h4⟩, hv⟩ := hv
 obtain ⟨k, rfl⟩ : ∃ m : Nat, k = m := ⟨k.toNat, by omega⟩
 have hd : ∀ c ∈ r.head?, isDig c = false := fun c hc => by rcases hr c hc with rfl | rfl <;> rfl
 -- what is alike in all kinds
 have base : ∀ (x : Bs), (pt = true → 10 ≤ k) → (pt = false → fr = 0) → s.drop p = itemA k ++ ((if pt = true then 60 :: digS fr ++ [62] else []) ++ 32 :: (x ++ r)) →
   ∃ q, s.drop q = x ++ r ∧ q = p + (itemA k).length + (if pt = true then 60 :: digS fr ++ [62] else [] : Bs).length + 1 ∧ fetchK (untilS s [32, 60, 13] ⟨p, true⟩).1 = k ∧
    partS s k (untilS s [32, 60, 13] ⟨p, true⟩).2 = ((pt, fr), ⟨p + (itemA k).length + (if pt = true then 60 :: digS fr ++ [62] else [] : Bs).length, true⟩) ∧
    needS s [32] ⟨p + (itemA k).length + (if pt = true then 60 :: digS fr ++ [62] else [] : Bs).length, true⟩ = ⟨q, true⟩ := by
  intro x hk h0 e1
  have hu := until_B (stops := [32, 60, 13]) e1 (item_plain k) (by cases pt <;> simp)
  have e2 := drop_B e1
  have e3 := drop_B e2
  refine ⟨_, drop_B (w := [32]) e3, rfl, ?_, ?_, ?_⟩
  ·rw [hu]; exact fetchK_item k (by omega) (by omega)
  ·rw [hu]; exact part_B hk h0 h4 e2
  ·exact need_B (w := [32]) e3
 by_cases c6 : k = 6
 ·subst c6
  simp only [bareP] at hv
  simp at hv
  obtain ⟨⟨hl, rfl⟩, ⟨rfl, rfl⟩, rfl⟩ := hv
  simp only [valueP] at h ⊢
  simp at h ⊢
  obtain ⟨q, b1, b2, b3, b4, b5⟩ := base (printF fl) z_10 z_10 (by rw [h]; simp)
  unfold fetchedS
  simp only [b3, b4, b5, flags_B b1 hl]
  simp [b2]
  omega
 by_cases c9 : k = 9
 ·subst c9
  simp [bareP] at hv
  obtain ⟨rfl, ⟨rfl, rfl⟩, rfl⟩ := hv
  simp [valueP] at h ⊢
  obtain ⟨q, b1, b2, b3, b4, b5⟩ := base ([40] ++ (digS n ++ [41])) z_10 z_10 (by rw [h]; simp)
  have e1 : s.drop q = [40] ++ (digS n ++ ([41] ++ r)) := by rw [b1]; simp
  have e2 := drop_B e1
  have e3 := drop_B e2
  unfold fetchedS
  simp only [b3, b4, b5, need_B e1]
  rw [number_B e2 h3 (by simp [isDig])]
  simp only [need_B e3]
  simp [b2]
  omega
 by_cases c7 : k = 7 ∨ k = 8
 ·have g1 : ¬((k : Int) = 6) := by omega
  have g2 : (k : Int) ≤ 9 := by omega
  have g3 : ¬((k : Int) < 6 ∨ 12 < (k : Int)) := by omega
  have g4 : ¬((k : Int) = 9) := by omega
  have g5 : (k : Int) < 10 := by omega
  simp only [g1, g2, if_true, if_false, bareP, Bool.and_eq_true, decide_eq_true_eq, List.isEmpty_iff, Bool.not_eq_true'] at hv
  obtain ⟨rfl, ⟨rfl, rfl⟩, rfl⟩ := hv
  simp only [valueP, g1, g3, g4, g5, if_true, if_false, Int.toNat_natCast] at h ⊢
  obtain ⟨q, b1, b2, b3, b4, b5⟩ := base (digS n) z_10 z_10 (by rw [h]; simp)
  unfold fetchedS
  simp only [b3, b4, b5, number_B b1 h3 hd]
  rw [if_neg (by omega), if_neg c6, if_neg c9, if_pos c7]
  simp [b2]
  omega
 ·have g1 : ¬((k : Int) = 6) := by omega
  have g2 : ¬((k : Int) ≤ 9) := by omega
  have g3 : ¬((k : Int) < 6 ∨ 12 < (k : Int)) := by omega
  have g4 : ¬((k : Int) = 9) := by omega
  have g5 : ¬((k : Int) < 10) := by omega
  simp only [g1, g2, if_true, if_false, Bool.and_eq_true, decide_eq_true_eq, List.isEmpty_iff, Bool.or_eq_true] at hv
  obtain ⟨⟨⟨ht, rfl⟩, rfl⟩, hp⟩ := hv
  simp only [valueP, partP, g1, g3, g4, g5, if_true, if_false, Int.toNat_natCast] at h ⊢
  obtain ⟨q, b1, b2, b3, b4, b5⟩ := base (literalS tx) (fun _ => by omega) (fun e => by
   rcases hp with hp | hp
   ·rw [e] at hp; cases hp
   ·exact hp) (by rw [h]; simp)
  unfold fetchedS
  simp only [b3, b4, b5, lit_B b1 ht]
  rw [if_neg (by omega), if_neg c6, if_neg c9, if_neg c7]
  simp [b2]
  omega
theorem rows_B {s r : Bs} {one : RS → RV × RS} {f : RV → Bs} {g : RV → Bool}
  (ho : ∀ (p : Nat) (v : RV) (r : Bs), g v = true → s.drop p = f v ++ r → (∀ c ∈ r.head?, c = 32 ∨ c = 41) → one ⟨p, true⟩ = (v, ⟨p + (f v).length, true⟩))
  {p : Nat} {l : List RV} (h1 : 1 ≤ l.length) (h2 : l.length ≤ 10) (hg : ∀ v ∈ l, g v = true) (h : s.drop p = 40 :: joinS [32] (l.map f) ++ 41 :: r) :
  rowsS s one ⟨p, true⟩ = (l, ⟨p + (joinS [32] (l.map f)).length + 2, true⟩) := by
 have hl : ∀ (rest done : List RV) (k p : Nat), done ≠ [] → (∀ v ∈ rest, g v = true) → rest.length ≤ k → s.drop p = (rest.map fun v => 32 :: f v).flatten ++ 41 :: r →
   rowsL s one k done ⟨p, true⟩ = (done ++ rest, ⟨p + (rest.map fun v => 32 :: f v).flatten.length, true⟩) := by
  intro rest
  induction rest with
  | nil =>
   intro done k p h0 hg hk hs
   have hn : eatS s [32] ⟨p, true⟩ = (false, ⟨p, true⟩) := eat_H (a := 32) (c := 41) (v := []) (r := r) (by simpa using hs) rfl (by decide)
   cases k with
   | zero => simp [rowsL, hn]
   | succ k => simp [rowsL, hn]
  | cons v t ih =>
   intro done k p h0 hg hk hs
   cases k with
   | zero => simp at hk
   | succ k =>
    have e1 : s.drop p = [32] ++ (f v ++ ((t.map fun v => 32 :: f v).flatten ++ 41 :: r)) := by rw [hs]; simp
    have e2 := drop_B e1
    have e3 := drop_B e2
    have hone := ho _ v _ (hg v z_10) e2 (by
     intro c hc
     cases t with
     | nil => simp at hc; exact .inr hc.symm
     | cons y t => simp at hc; exact .inl hc.symm)
    rw [rowsL, eat_B e1, if_pos rfl]
    simp only [hone]
    rw [ih (done ++ [v]) k _ z_10 (fun x hx => hg x (List.mem_cons_of_mem _ hx)) (by simpa using hk) e3]
    simp
    omega
 have hj : ∀ (x : RV) (t : List RV), joinS [32] ((x :: t).map f) = f x ++ (t.map fun v => 32 :: f v).flatten := by
  intro x t
  induction t generalizing x with
  | nil => simp [joinS]
  | cons y t ih =>
   rw [List.map_cons, join_cons _ _ z_10, ih y]
   simp
 cases l with
 | nil => simp at h1
 | cons x t =>
  rw [hj] at h ⊢
  have e1 : s.drop p = [40] ++ (f x ++ ((t.map fun v => 32 :: f v).flatten ++ 41 :: r)) := by rw [h]; simp
  have e2 := drop_B e1
  have e3 := drop_B e2
  have e4 : s.drop (p + 1 + (f x).length + (t.map fun v => 32 :: f v).flatten.length) = [41] ++ r := drop_B e3
  have hone := ho _ x _ (hg x z_10) e2 (by
   intro c hc
   cases t with
   | nil => simp at hc; exact .inr hc.symm
   | cons y t => simp at hc; exact .inl hc.symm)
  unfold rowsS
  simp only [need_B e1, hone]
  rw [hl t [x] 10 _ z_10 (fun v hv => hg v (List.mem_cons_of_mem _ hv)) (by simp at h2; omega) e3]
  simp only [List.length_singleton, need_B e4]
  simp at h2 ⊢
  omega
theorem plain_ne {c : UInt8} (h : isPlain c = true) : c ≠ 13 := by
 rintro rfl
 simp [isPlain] at h
theorem code_B {s r c : Bs} {p : Nat} (hc : codeOk c = true) (h : s.drop p = codeP c ++ r) (hr : r.head? ≠ some 91) : codeS s ⟨p, true⟩ = (c, ⟨p + (codeP c).length, true⟩) := by
 unfold codeOk at hc
 simp only [Bool.or_eq_true, Bool.and_eq_true, List.isEmpty_iff, Bool.not_eq_true'] at hc
 by_cases h0 : c = []
 ·subst h0
  simp only [codeP, if_true, List.nil_append] at h ⊢
  have hn : eatS s [91] ⟨p, true⟩ = (false, ⟨p, true⟩) := by
   refine eat_N ?_
   rw [h]
   cases r with
   | nil => rfl
   | cons x r => simp at hr; simp [List.isPrefixOf, Ne.symm hr]
  unfold codeS
  simp [hn]
 ·rcases hc with hc | hc
  ·exact absurd hc h0
  have hf := plain_facts hc.1
  have e1 : s.drop p = [91] ++ (c ++ ([93, 32] ++ r)) := by rw [h]; simp [codeP, h0]
  have e2 := drop_B e1
  have e3 := drop_B e2
  have hu := until_B (stops := [93, 13]) e2 (fun x hx => by
   have := plain_ne (hf.1 x hx)
   have h93 : x ≠ 93 := fun e => by
    subst e
    have := hc.2
    simp [hx] at this
   simp [this, h93]) z_10
  unfold codeS
  rw [eat_B e1, if_pos rfl]
  simp only [hu, need_B e3, hc.1]
  simp [codeP, h0]
  omega
theorem statK_stat : ∀ k, 1 ≤ k → k ≤ 4 → statK (statW.getD (k - 1) []) = k ∧ ∀ c ∈ statW.getD (k - 1) [], c ∉ ([32, 13] : Bs) := by
 intro k h1 h2
 have : ∀ k, k < 5 → 1 ≤ k → statK (statW.getD (k - 1) []) = k ∧ ∀ c ∈ statW.getD (k - 1) [], c ∉ ([32, 13] : Bs) := by decide
 exact this k (by omega) h1
theorem told_B {s r tag code text : Bs} {p k : Nat} (hk : 1 ≤ k ∧ k ≤ 4) (hc : codeOk code = true) (hx : plainS text = true) (h91 : text.head? ≠ some 91) (ht : k ≠ 4 ∨ tag = [42])
  (h : s.drop p = statW.getD (k - 1) [] ++ 32 :: codeP code ++ text ++ 13 :: r) :
  toldS s tag ⟨p, true⟩ = (⟨k, tag, code, text, 0, [], 0, [], [], []⟩, ⟨p + (statW.getD (k - 1) [] ++ 32 :: codeP code ++ text).length, true⟩) := by
 obtain ⟨k1, k2⟩ := statK_stat k hk.1 hk.2
 have hf := plain_facts hx
 have e1 : s.drop p = statW.getD (k - 1) [] ++ ([32] ++ (codeP code ++ (text ++ 13 :: r))) := by rw [h]; simp
 have e2 := drop_B e1
 have e3 := drop_B e2
 have e4 := drop_B e3
 have hu := until_B (stops := [32, 13]) e1 k2 z_10
 have hx' := until_B (stops := [13]) e4 (fun c hc => by simpa using plain_ne (hf.1 c hc)) z_10
 unfold toldS
 simp only [hu, need_B e2, code_B hc e3 (by
  cases text with
  | nil => exact absurd rfl hf.2.1
  | cons x t => simpa using h91), hx', k1, hx]
 refine Prod.ext rfl ?_
 simp only [RS.mk.injEq]
 refine ⟨by simp; omega, ?_⟩
 have h0 : 0 < k := by omega
 have h91' : decide (text.head? ≠ some 91) = true := decide_eq_true h91
 simp only [h0, h91', decide_true, Bool.true_and, Bool.and_true, Bool.or_eq_true, decide_eq_true_eq]
 exact ht
theorem nums_len (l : List Nat) : l.length ≤ (numsP l).length := by
 induction l with
 | nil => simp
 | cons n t ih => simp only [numsP, List.flatMap_cons, List.length_append, List.length_cons] at *; omega
theorem search_B {s r : Bs} {p m : Nat} {l : List Nat} (hm : m ≤ great) (hl : ∀ n ∈ l, n ≤ great) (hn : l.length ≤ 64) (h : s.drop p = numsP l ++ modP m ++ 13 :: r) :
  searchS s ⟨p, true⟩ = (⟨13, [], [], [], 0, l, m, [], [], []⟩, ⟨p + (numsP l ++ modP m).length, true⟩) := by
 have key : ∀ (t done : List Nat) (k p : Nat), (∀ n ∈ t, n ≤ great) → t.length < k → s.drop p = numsP t ++ modP m ++ 13 :: r →
   searchL s k done ⟨p, true⟩ = ((done ++ t, m), ⟨p + (numsP t ++ modP m).length, true⟩) := by
  intro t
  induction t with
  | nil =>
   intro done k p hg hk hs
   obtain ⟨k, rfl⟩ : ∃ j, k = j + 1 := ⟨k - 1, by omega⟩
   by_cases h0 : m = 0
   ·subst h0
    have hnn : eatS s [32] ⟨p, true⟩ = (false, ⟨p, true⟩) := eat_H (a := 32) (c := 13) (v := []) (r := r) (by simpa [numsP, modP] using hs) rfl (by decide)
    rw [searchL, hnn]
    simp [numsP, modP]
   ·have e1 : s.drop p = [32] ++ (wModseq ++ (digS m ++ ([41] ++ 13 :: r))) := by rw [hs]; simp [numsP, modP, h0]
    have e2 := drop_B e1
    have e3 := drop_B e2
    have e4 := drop_B e3
    rw [searchL, eat_B e1, if_pos rfl]
    simp only [eat_B e2]
    rw [if_pos trivial, number_B e3 hm (by simp [isDig])]
    simp only [need_B e4]
    have : 0 < m := by omega
    simp [numsP, modP, h0, this]
    omega
  | cons n t ih =>
   intro done k p hg hk hs
   obtain ⟨k, rfl⟩ : ∃ j, k = j + 1 := ⟨k - 1, by omega⟩
   have e1 : s.drop p = [32] ++ (digS n ++ (numsP t ++ modP m ++ 13 :: r)) := by rw [hs]; simp [numsP]
   have e2 : s.drop (p + 1) = digS n ++ (numsP t ++ modP m ++ 13 :: r) := drop_B e1
   have e3 := drop_B e2
   obtain ⟨c, v, hd⟩ : ∃ c v, digS n = c :: v := by
    cases e : digS n with
    | nil => exact absurd e (digS_ne n)
    | cons c v => exact ⟨c, v, rfl⟩
   have hc : isDig c = true := by have := digS_all n; rw [hd] at this; simp at this; exact this.1
   have hno : eatS s wModseq ⟨p + 1, true⟩ = (false, ⟨p + 1, true⟩) := eat_H (a := 40) (c := c) (v := [77, 79, 68, 83, 69, 81, 32]) (r := v ++ (numsP t ++ modP m ++ 13 :: r)) (by
    rw [e2, hd]
    rfl) rfl (by rintro rfl; simp [isDig] at hc)
   rw [searchL, eat_B e1, if_pos rfl]
   simp only [List.length_singleton, hno]
   rw [if_neg z_10, number_B e2 (hg n z_10) (by
    intro x hx
    cases t with
    | nil =>
     by_cases h0 : m = 0
     ·simp [numsP, modP, h0] at hx; subst hx; rfl
     ·simp [numsP, modP, h0] at hx; subst hx; rfl
    | cons y t => simp [numsP] at hx; subst hx; rfl)]
   simp only
   rw [ih (done ++ [n]) k _ (fun x hx => hg x (List.mem_cons_of_mem _ hx)) (by simpa using hk) e3]
   simp [numsP]
   omega
 have hlen : l.length < s.length + 1 := by
  have h1 := nums_len l
  have h2 := congrArg List.length h
  simp only [List.length_drop, List.length_append, List.length_cons] at h2
  omega
 unfold searchS
 simp only [key l [] _ p hl hlen h]
 simp [hn]
theorem only_of {r : RR} {t c x n l f b v m : Bool} (h : onlyB r t c x n l f b v m = true) :
  (t = false → r.tag = []) ∧ (c = false → r.code = []) ∧ (x = false → r.text = []) ∧ (n = false → r.n = 0) ∧ (l = false → r.nums = []) ∧ (f = false → r.flags = []) ∧ (b = false → r.box = []) ∧ (v = false → r.values = []) ∧ (m = false → r.mod = 0) := by
 unfold onlyB at h
 simp only [Bool.and_eq_true, Bool.or_eq_true, List.isEmpty_iff, decide_eq_true_eq] at h
 obtain ⟨⟨⟨⟨⟨⟨⟨⟨h1, h2⟩, h3⟩, h4⟩, h5⟩, h6⟩, h7⟩, h8⟩, h9⟩ := h
 refine ⟨?_, ?_, ?_, ?_, ?_, ?_, ?_, ?_, ?_⟩ <;> (rintro rfl; simp_all)
theorem dig_head (n : Nat) : ∃ c v, digS n = c :: v ∧ isDig c = true := by
 cases e : digS n with
 | nil => exact absurd e (digS_ne n)
 | cons c v =>
  have := digS_all n
  rw [e] at this
  simp at this
  exact ⟨c, v, rfl, this.1⟩
theorem eat_dig {s r w : Bs} {p n : Nat} (h : s.drop p = digS n ++ r) (hw : ∀ c ∈ w.head?, isDig c = false) (h0 : w ≠ []) : eatS s w ⟨p, true⟩ = (false, ⟨p, true⟩) := by
 obtain ⟨c, v, e, hc⟩ := dig_head n
 cases w with
 | nil => exact absurd rfl h0
 | cons a w =>
  have ha := hw a z_10
  exact eat_H (a := a) (c := c) (v := w) (r := v ++ r) (by rw [h, e]; rfl) rfl (by rintro rfl; rw [hc] at ha; cases ha)
def starP (r : RR) : Bs := (textP r).drop 2
theorem untag_dig {s r : Bs} {p n : Nat} (h : s.drop p = digS n ++ r) : untaggedS s ⟨p, true⟩ = numbered s ⟨p, true⟩ := by
 obtain ⟨c, v, e, hc⟩ := dig_head n
 unfold untaggedS
 rw [eat_dig (w := wFlags) h (by simp [wFlags, isDig]) z_10, if_neg z_10, eat_dig (w := wList) h (by simp [wList, isDig]) z_10, if_neg z_10, eat_dig (w := wSearch) h (by simp [wSearch, isDig]) z_10, if_neg z_10, eat_dig (w := wStatus) h (by simp [wStatus, isDig]) z_10, if_neg z_10]
 rw [if_pos]
 simp only
 rw [h, e]
 simpa using hc
theorem untagged_B {s t : Bs} {r : RR} {p : Nat} (hr : okR r = true) (h42 : (1 ≤ r.kind ∧ r.kind ≤ 4) ∧ r.tag = [42] ∨ 8 ≤ r.kind) (h : s.drop p = starP r ++ crlf ++ t) :
  untaggedS s ⟨p, true⟩ = (r, ⟨p + (starP r).length, true⟩) := by
 obtain ⟨kind, tag, code, text, n, nums, mod, flags, box, values⟩ := r
 simp only at h42
 unfold okR at hr
 simp only at hr
 by_cases c1 : 1 ≤ kind ∧ kind ≤ 4
 ·rw [if_pos c1] at hr
  simp only [Bool.and_eq_true, decide_eq_true_eq, Bool.or_eq_true] at hr
  obtain ⟨⟨⟨⟨h1, h2⟩, h3⟩, h4⟩, h5⟩ := hr
  obtain ⟨-, -, -, o4, o5, o6, o7, o8, o9⟩ := only_of h1
  simp only [forall_const] at o4 o5 o6 o7 o8 o9
  subst o4 o5 o6 o7 o8 o9
  have htag : tag = [42] := by
   rcases h42 with h | h
   ·exact h.2
   ·omega
  subst htag
  obtain ⟨k, rfl⟩ : ∃ m : Nat, kind = m := ⟨kind.toNat, by omega⟩
  simp only [starP, textP, c1, and_self, if_true, Int.toNat_natCast] at h ⊢
  have e : s.drop p = statW.getD (k - 1) [] ++ 32 :: codeP code ++ text ++ 13 :: (10 :: t) := by rw [h]; simp
  have hq := told_B (tag := [42]) ⟨by omega, by omega⟩ h4 h2 h3 (.inr rfl) e
  have hh : ∃ a v, s.drop p = a :: v ∧ (a = 79 ∨ a = 78 ∨ a = 66) := by
   have : ∀ k, k < 5 → 1 ≤ k → ∃ a ∈ ([79, 78, 66] : Bs), (statW.getD (k - 1) []).head? = some a := by decide
   obtain ⟨a, ha, hh⟩ := this k (by omega) (by omega)
   refine ⟨a, (statW.getD (k - 1) []).tail ++ (32 :: codeP code ++ text ++ 13 :: (10 :: t)), ?_, by simpa using ha⟩
   rw [e]
   cases hs : statW.getD (k - 1) [] with
   | nil => rw [hs] at hh; cases hh
   | cons b v => rw [hs] at hh; cases hh; simp
  obtain ⟨a, v, hv, ha⟩ := hh
  unfold untaggedS
  rw [eat_H (w := wFlags) hv (a := 70) (v := wFlags.tail) rfl (by rcases ha with rfl | rfl | rfl <;> decide), if_neg z_10,
   eat_H (w := wList) hv (a := 76) (v := wList.tail) rfl (by rcases ha with rfl | rfl | rfl <;> decide), if_neg z_10,
   eat_H (w := wSearch) hv (a := 83) (v := wSearch.tail) rfl (by rcases ha with rfl | rfl | rfl <;> decide), if_neg z_10,
   eat_H (w := wStatus) hv (a := 83) (v := wStatus.tail) rfl (by rcases ha with rfl | rfl | rfl <;> decide), if_neg z_10]
  rw [if_neg (by simp only [hv]; rcases ha with rfl | rfl | rfl <;> simp [isDig]), hq]
  simp
 have h8 : 8 ≤ kind := by omega
 rw [if_neg c1, if_neg (by omega), if_neg (by omega)] at hr
 by_cases c8 : kind = 8 ∨ kind = 9
 ·rw [if_pos c8] at hr
  simp only [Bool.and_eq_true, decide_eq_true_eq] at hr
  obtain ⟨o1, o2, o3, -, o5, o6, o7, o8, o9⟩ := only_of hr.1
  simp only [forall_const] at o1 o2 o3 o5 o6 o7 o8 o9
  subst o1 o2 o3 o5 o6 o7 o8 o9
  rcases c8 with rfl | rfl
  ·simp [starP, textP] at h ⊢
   have e1 : s.drop p = digS n ++ (wExists ++ (crlf ++ t)) := by rw [h]; simp
   rw [untag_dig e1]
   unfold numbered
   rw [number_B e1 hr.2 (by simp [isDig])]
   simp only
   rw [eat_B (drop_B e1), if_pos rfl]
   simp
   omega
  ·simp [starP, textP] at h ⊢
   have e1 : s.drop p = digS n ++ (wExpunge ++ (crlf ++ t)) := by rw [h]; simp
   rw [untag_dig e1]
   unfold numbered
   rw [number_B e1 hr.2 (by simp [isDig])]
   simp only
   have e2 := drop_B e1
   rw [eat_N (w := wExists) (by rw [e2]; rfl), if_neg z_10, eat_B e2, if_pos rfl]
   simp
   omega
 rw [if_neg c8] at hr
 by_cases c10 : kind = 10
 ·subst c10
  simp only [if_true, Bool.and_eq_true] at hr
  obtain ⟨o1, o2, o3, o4, o5, -, o7, o8, o9⟩ := only_of hr.1
  simp only [forall_const] at o1 o2 o3 o4 o5 o7 o8 o9
  subst o1 o2 o3 o4 o5 o7 o8 o9
  simp [starP, textP] at h ⊢
  have e1 : s.drop p = wFlags ++ (printF flags ++ (crlf ++ t)) := by rw [h]; simp
  unfold untaggedS
  rw [eat_B e1, if_pos rfl]
  simp only [flags_B (drop_B e1) hr.2]
  simp
  omega
 rw [if_neg c10] at hr
 by_cases c11 : kind = 11
 ·subst c11
  simp only [if_true, Bool.and_eq_true] at hr
  obtain ⟨o1, o2, o3, o4, o5, o6, -, o8, o9⟩ := only_of hr.1
  simp only [forall_const] at o1 o2 o3 o4 o5 o6 o8 o9
  subst o1 o2 o3 o4 o5 o6 o8 o9
  simp [starP, textP] at h ⊢
  have e1 : s.drop p = wList ++ (formS box ++ (crlf ++ t)) := by rw [h]; simp
  unfold untaggedS
  rw [eat_N (w := wFlags) (by rw [e1]; rfl), if_neg z_10, eat_B e1, if_pos rfl]
  simp only [box_B (drop_B e1) hr.2 z_10]
  simp
  omega
 rw [if_neg c11] at hr
 by_cases c12 : kind = 12
 ·subst c12
  simp only [if_true, Bool.and_eq_true, decide_eq_true_eq, List.all_eq_true] at hr
  obtain ⟨⟨⟨⟨g1, g2⟩, g3⟩, g4⟩, g5⟩ := hr
  obtain ⟨o1, o2, o3, o4, o5, o6, -, -, o9⟩ := only_of g4
  simp only [forall_const] at o1 o2 o3 o4 o5 o6 o9
  subst o1 o2 o3 o4 o5 o6 o9
  have hc : cellsP ⟨12, [], [], [], 0, [], 0, [], box, values⟩ = values.map countP := by
   have : ∀ l : List RV, (∀ v ∈ l, okC v = true) → (l.flatMap fun v => if 1 ≤ v.kind ∧ v.kind ≤ 5 then [countP v] else []) = l.map countP := by
    intro l
    induction l with
    | nil => intro _; rfl
    | cons v t ih =>
     intro h
     have hv := h v z_10
     simp only [okC, Bool.and_eq_true, decide_eq_true_eq] at hv
     rw [List.flatMap_cons, ih (fun x hx => h x (List.mem_cons_of_mem _ hx)), if_pos ⟨hv.1.1.1, hv.1.1.2.1⟩]
     rfl
   simp only [cellsP]
   simp [this values g3]
  simp [starP, textP, hc] at h ⊢
  have e1 : s.drop p = wStatus ++ (formS box ++ ([32] ++ (40 :: joinS [32] (values.map countP) ++ 41 :: (crlf ++ t)))) := by rw [h]; simp
  have e2 := drop_B e1
  have e3 := drop_B e2
  have e4 := drop_B e3
  unfold untaggedS
  rw [eat_N (w := wFlags) (by rw [e1]; rfl), if_neg z_10, eat_N (w := wList) (by rw [e1]; rfl), if_neg z_10, eat_N (w := wSearch) (by rw [e1]; rfl), if_neg z_10, eat_B e1, if_pos rfl]
  simp only [box_B e2 g5 z_10, need_B e3]
  rw [rows_B (f := countP) (g := okC) (fun p v r hv h hr => counted_B hv h hr) g1 g2 g3 e4]
  simp
  omega
 rw [if_neg c12] at hr
 by_cases c13 : kind = 13
 ·subst c13
  simp only [if_true, Bool.and_eq_true, decide_eq_true_eq, List.all_eq_true] at hr
  obtain ⟨⟨⟨g1, g2⟩, g3⟩, g4⟩ := hr
  obtain ⟨o1, o2, o3, o4, -, o6, o7, o8, -⟩ := only_of g1
  simp only [forall_const] at o1 o2 o3 o4 o6 o7 o8
  subst o1 o2 o3 o4 o6 o7 o8
  simp [starP, textP] at h ⊢
  have e1 : s.drop p = wSearch ++ (numsP nums ++ modP mod ++ 13 :: (10 :: t)) := by rw [h]; simp
  have e2 := drop_B e1
  unfold untaggedS
  rw [eat_N (w := wFlags) (by rw [e1]; rfl), if_neg z_10, eat_N (w := wList) (by rw [e1]; rfl), if_neg z_10, eat_B e1, if_pos rfl]
  simp only
  rw [search_B g3 g4 g2 e2]
  simp
  omega
 rw [if_neg c13] at hr
 by_cases c14 : kind = 14
 ·subst c14
  simp only [if_true, Bool.and_eq_true, decide_eq_true_eq, List.all_eq_true] at hr
  obtain ⟨⟨⟨⟨g1, g2⟩, g3⟩, g4⟩, g5⟩ := hr
  obtain ⟨o1, o2, o3, -, o5, o6, o7, -, o9⟩ := only_of g4
  simp only [forall_const] at o1 o2 o3 o5 o6 o7 o9
  subst o1 o2 o3 o5 o6 o7 o9
  have hc : cellsP ⟨14, [], [], [], n, [], 0, [], [], values⟩ = values.map valueP := by
   simp [cellsP, List.flatMap_singleton, ← List.map_eq_flatMap]
  simp [starP, textP, hc] at h ⊢
  have e1 : s.drop p = digS n ++ (wFetch ++ (40 :: joinS [32] (values.map valueP) ++ 41 :: (crlf ++ t))) := by rw [h]; simp
  have e2 := drop_B e1
  have e3 := drop_B e2
  rw [untag_dig e1]
  unfold numbered
  rw [number_B e1 g5 (by simp [isDig])]
  simp only
  rw [eat_N (w := wExists) (by rw [e2]; rfl), if_neg z_10, eat_N (w := wExpunge) (by rw [e2]; rfl), if_neg z_10]
  simp only [need_B e2]
  rw [rows_B (f := valueP) (g := okV) (fun p v r hv h hr => fetched_B hv h hr) g1 g2 g3 e3]
  simp
  omega
 ·rw [if_neg c14] at hr
  cases hr
theorem star_text {r : RR} (hr : okR r = true) (h : (1 ≤ r.kind ∧ r.kind ≤ 4) ∧ r.tag = [42] ∨ 8 ≤ r.kind) : textP r = 42 :: 32 :: starP r := by
 unfold starP textP
 rcases h with ⟨h, ht⟩ | h
 ·rw [if_pos h, ht]
  rfl
 ·repeat' split
  all_goals first | rfl | omega
theorem star_head {r : RR} (hr : okR r = true) (h : (1 ≤ r.kind ∧ r.kind ≤ 4) ∧ r.tag = [42] ∨ 8 ≤ r.kind) (t : Bs) : ∃ a v, starP r ++ t = a :: v ∧ a ≠ 67 ∧ a ≠ 69 := by
 obtain ⟨kind, tag, code, text, n, nums, mod, flags, box, values⟩ := r
 simp only at h
 have hd : ∀ (n : Nat) (x : Bs), ∃ a v, digS n ++ x = a :: v ∧ a ≠ 67 ∧ a ≠ 69 := fun n x => by
  obtain ⟨c, v, e, hc⟩ := dig_head n
  refine ⟨c, v ++ x, by rw [e]; rfl, ?_, ?_⟩ <;> (rintro rfl; simp [isDig] at hc)
 rcases h with ⟨h, rfl⟩ | h
 ·obtain ⟨k, rfl⟩ : ∃ m : Nat, kind = m := ⟨kind.toNat, by omega⟩
  have : ∀ k, k < 5 → 1 ≤ k → ∃ a ∈ ([79, 78, 66] : Bs), (statW.getD (k - 1) []).head? = some a := by decide
  obtain ⟨a, ha, hh⟩ := this k (by omega) (by omega)
  simp only [starP, textP, h, and_self, if_true, Int.toNat_natCast]
  cases hs : statW.getD (k - 1) [] with
  | nil => rw [hs] at hh; cases hh
  | cons b v =>
   rw [hs] at hh
   cases hh
   refine ⟨a, _, by simp; rfl, ?_, ?_⟩ <;> (rintro rfl; simp at ha)
 ·by_cases c8 : kind = 8
  ·subst c8
   obtain ⟨a, v, e, ha⟩ := hd n (wExists ++ t)
   exact ⟨a, v, by simpa [starP, textP] using e, ha⟩
  by_cases c9 : kind = 9
  ·subst c9
   obtain ⟨a, v, e, ha⟩ := hd n (wExpunge ++ t)
   exact ⟨a, v, by simpa [starP, textP] using e, ha⟩
  by_cases c10 : kind = 10
  ·subst c10; exact ⟨70, _, by simp [starP, textP]; rfl, by decide, by decide⟩
  by_cases c11 : kind = 11
  ·subst c11; exact ⟨76, _, by simp [starP, textP]; rfl, by decide, by decide⟩
  by_cases c13 : kind = 13
  ·subst c13; exact ⟨83, _, by simp [starP, textP]; rfl, by decide, by decide⟩
  by_cases c14 : kind = 14
  ·subst c14
   obtain ⟨a, v, e, ha⟩ := hd n (wFetch ++ 40 :: joinS [32] (cellsP ⟨14, tag, code, text, n, nums, mod, flags, box, values⟩) ++ [41] ++ t)
   exact ⟨a, v, by simpa [starP, textP] using e, ha⟩
  ·refine ⟨83, ?_, ?_, by decide, by decide⟩
   ·exact (starP ⟨kind, tag, code, text, n, nums, mod, flags, box, values⟩ ++ t).tail
   ·simp only [starP, textP]
    rw [if_neg (by omega), if_neg (by omega), if_neg (by omega), if_neg (by omega), if_neg c8, if_neg c9, if_neg c10, if_neg c11, if_neg c13, if_neg c14]
    rfl
theorem read_B {r : RR} (hr : okR r = true) (t : Bs) : readS ((textP r ++ crlf) ++ t) = some (r, (textP r ++ crlf).length) := by
 have fin : ∀ s : Bs, s = textP r ++ crlf ++ t → eatS s (caps ++ crlf) ⟨0, true⟩ = (false, ⟨0, true⟩) → eatS s (enab ++ crlf) ⟨0, true⟩ = (false, ⟨0, true⟩) → restS s ⟨0, true⟩ = (r, ⟨(textP r).length, true⟩) → readS s = some (r, (textP r ++ crlf).length) := by
  intro s hs h1 h2 h3
  have e : s.drop (0 + (textP r).length) = crlf ++ t := drop_B (p := 0) (by rw [hs]; simp)
  unfold readS
  simp only [h1, h2, h3]
  rw [if_neg z_10, if_neg z_10, need_B (p := (textP r).length) (by simpa using e), if_pos rfl]
  simp
 by_cases c6 : r.kind = 6
 ·have hr' := hr
  obtain ⟨kind, tag, code, text, n, nums, mod, flags, box, values⟩ := r
  simp only at c6
  subst c6
  simp [okR] at hr'
  obtain ⟨o1, o2, o3, o4, o5, o6, o7, o8, o9⟩ := only_of hr'
  simp only [forall_const] at o1 o2 o3 o4 o5 o6 o7 o8 o9
  subst o1 o2 o3 o4 o5 o6 o7 o8 o9
  have e : (textP ⟨6, [], [], [], 0, [], 0, [], [], []⟩ ++ crlf ++ t).drop 0 = (caps ++ crlf) ++ t := by simp [textP]
  unfold readS
  simp only [eat_B e]
  rw [if_pos trivial]
  simp [textP]
 by_cases c7 : r.kind = 7
 ·have hr' := hr
  obtain ⟨kind, tag, code, text, n, nums, mod, flags, box, values⟩ := r
  simp only at c7
  subst c7
  simp [okR] at hr'
  obtain ⟨o1, o2, o3, o4, o5, o6, o7, o8, o9⟩ := only_of hr'
  simp only [forall_const] at o1 o2 o3 o4 o5 o6 o7 o8 o9
  subst o1 o2 o3 o4 o5 o6 o7 o8 o9
  have e : (textP ⟨7, [], [], [], 0, [], 0, [], [], []⟩ ++ crlf ++ t).drop 0 = (enab ++ crlf) ++ t := by simp [textP]
  have hn : eatS (textP ⟨7, [], [], [], 0, [], 0, [], [], []⟩ ++ crlf ++ t) (caps ++ crlf) ⟨0, true⟩ = (false, ⟨0, true⟩) := eat_N (by rw [e]; rfl)
  unfold readS
  simp only [hn, eat_B e]
  rw [if_neg z_10, if_pos trivial]
  simp [textP]
 by_cases c5 : r.kind = 5
 ·have hr' := hr
  obtain ⟨kind, tag, code, text, n, nums, mod, flags, box, values⟩ := r
  simp only at c5
  subst c5
  simp [okR] at hr'
  obtain ⟨o1, o2, -, o4, o5, o6, o7, o8, o9⟩ := only_of hr'.1
  simp only [forall_const] at o1 o2 o4 o5 o6 o7 o8 o9
  subst o1 o2 o4 o5 o6 o7 o8 o9
  have hf := plain_facts hr'.2
  have e : (textP ⟨5, [], [], text, 0, [], 0, [], [], []⟩ ++ crlf ++ t).drop 0 = [43, 32] ++ (text ++ 13 :: (10 :: t)) := by simp [textP]
  have e' : (textP ⟨5, [], [], text, 0, [], 0, [], [], []⟩ ++ crlf ++ t).drop 0 = 43 :: (32 :: (text ++ 13 :: (10 :: t))) := e
  refine fin _ rfl (eat_H e' (a := 42) (v := (caps ++ crlf).tail) rfl (by decide)) (eat_H e' (a := 42) (v := (enab ++ crlf).tail) rfl (by decide)) ?_
  unfold restS
  rw [eat_B e, if_pos rfl]
  simp only
  rw [until_B (stops := [13]) (drop_B e) (fun c hc => by simpa using plain_ne (hf.1 c hc)) z_10]
  simp [hr'.2, textP]
  omega
 by_cases hs : (1 ≤ r.kind ∧ r.kind ≤ 4) ∧ r.tag = [42] ∨ 8 ≤ r.kind
 ·have ht := star_text hr hs
  obtain ⟨a, v, e, h67, h69⟩ := star_head hr hs (crlf ++ t)
  have e0 : (textP r ++ crlf ++ t).drop 0 = [42, 32] ++ (starP r ++ (crlf ++ t)) := by rw [ht]; simp
  have e1 : (textP r ++ crlf ++ t).drop 0 = 42 :: 32 :: a :: v := by rw [e0, e]; rfl
  refine fin _ rfl ?_ ?_ ?_
  ·refine eat_N ?_
   rw [e1]
   simp [List.isPrefixOf, Ne.symm h67]
  ·refine eat_N ?_
   rw [e1]
   simp [List.isPrefixOf, Ne.symm h69]
  ·unfold restS
   rw [eat_H (w := [43, 32]) (a := 43) (c := 42) (v := [32]) (r := 32 :: a :: v) e1 rfl (by decide), if_neg z_10, eat_B e0, if_pos rfl]
   rw [untagged_B hr hs (t := t) (by have := drop_B e0; rw [this]; simp)]
   rw [ht]
   simp
   omega
 ·obtain ⟨kind, tag, code, text, n, nums, mod, flags, box, values⟩ := r
  simp only at c5 c6 c7 hs
  have hr' := hr
  unfold okR at hr'
  simp only at hr'
  by_cases c1 : 1 ≤ kind ∧ kind ≤ 4
  ·rw [if_pos c1] at hr'
   simp only [Bool.and_eq_true, decide_eq_true_eq, Bool.or_eq_true] at hr'
   obtain ⟨⟨⟨⟨h1, h2⟩, h3⟩, h4⟩, h5⟩ := hr'
   obtain ⟨-, -, -, o4, o5, o6, o7, o8, o9⟩ := only_of h1
   simp only [forall_const] at o4 o5 o6 o7 o8 o9
   subst o4 o5 o6 o7 o8 o9
   have h5' : kind < 4 ∧ tagP tag = true := by
    rcases h5 with h5 | h5
    ·exact absurd (.inl ⟨c1, h5⟩) hs
    ·exact h5
   obtain ⟨hk4, htag⟩ := h5'
   unfold tagP atomS at htag
   simp only [Bool.and_eq_true, List.all_eq_true, Bool.not_eq_true', List.isEmpty_eq_false_iff, decide_eq_true_eq] at htag
   obtain ⟨⟨⟨ha, hne⟩, h43⟩, h32⟩ := htag
   obtain ⟨k, rfl⟩ : ∃ m : Nat, kind = m := ⟨kind.toNat, by omega⟩
   have htx : textP ⟨k, tag, code, text, 0, [], 0, [], [], []⟩ = tag ++ 32 :: statW.getD (k - 1) [] ++ 32 :: codeP code ++ text := by
    simp only [textP, c1, and_self, if_true, Int.toNat_natCast]
   obtain ⟨a, u, rfl⟩ : ∃ a u, tag = a :: u := by
    cases tag with
    | nil => exact absurd rfl hne
    | cons a u => exact ⟨a, u, rfl⟩
   have ha0 := isAtom_ne (ha a z_10)
   have h43a : a ≠ 43 := by rintro rfl; simp at h43
   have e1 : (textP ⟨k, a :: u, code, text, 0, [], 0, [], [], []⟩ ++ crlf ++ t).drop 0 = (a :: u) ++ ([32] ++ (statW.getD (k - 1) [] ++ 32 :: codeP code ++ text ++ 13 :: (10 :: t))) := by rw [htx]; simp
   have e1' : (textP ⟨k, a :: u, code, text, 0, [], 0, [], [], []⟩ ++ crlf ++ t).drop 0 = a :: (u ++ ([32] ++ (statW.getD (k - 1) [] ++ 32 :: codeP code ++ text ++ 13 :: (10 :: t)))) := e1
   have e2 := drop_B e1
   have e3 := drop_B e2
   refine fin _ rfl (eat_H e1' (a := 42) (v := (caps ++ crlf).tail) rfl (fun e => ha0.2.2.2.1 e.symm)) (eat_H e1' (a := 42) (v := (enab ++ crlf).tail) rfl (fun e => ha0.2.2.2.1 e.symm)) ?_
   unfold restS
   rw [eat_H (w := [43, 32]) (a := 43) (v := [32]) e1' rfl (fun e => h43a e.symm), if_neg z_10, eat_H (w := [42, 32]) (a := 42) (v := [32]) e1' rfl (fun e => ha0.2.2.2.1 e.symm), if_neg z_10]
   have hu := until_B (stops := [32, 13]) e1 (fun c hc => by have := isAtom_ne (ha c hc); simp [this.1, this.2.1]) z_10
   simp only [hu, need_B e2]
   have hat : (true && atomS (a :: u) && decide ((a :: u).length ≤ 32) && !(a :: u).contains 43) = true := by
    rw [h43]
    have : atomS (a :: u) = true := by
     unfold atomS
     simp only [Bool.and_eq_true, List.all_eq_true]
     exact ⟨ha, rfl⟩
    simp [this]
    simpa using h32
   rw [hat, told_B (k := k) ⟨by omega, by omega⟩ h4 h2 h3 (.inl (by omega)) e3, htx]
   simp
   omega
  ·rw [if_neg c1, if_neg c5, if_neg (by omega), if_neg (by omega), if_neg (by omega), if_neg (by omega), if_neg (by omega), if_neg (by omega), if_neg (by omega)] at hr'
   cases hr'
end Go.Proofs.YtgllpcggdcknaaaGreatDoor.Rp
namespace Go.Proofs.YtgllpcggdcknaaaGreatDoor.Rp
open Go Go.Sl
def toS (s : Bs) (p : Nat) (stops : Bs) : Nat := p + (stopW stops (s.drop p)).length
end Go.Proofs.YtgllpcggdcknaaaGreatDoor.Rp
namespace Go.Proofs.YtgllpcggdcknaaaGreatDoor.Rp
open Go Go.Sl
theorem read_none {s : Bs} {r : RR} (hs : s = textP r ++ crlf) (h : okR r = false) : ∀ q n, readS s = some (q, n) → q ≠ r := by
 rintro q n hq rfl
 rw [(read_A hq).1] at h
 cases h
end Go.Proofs.YtgllpcggdcknaaaGreatDoor.Rp
namespace Go.Proofs.YtgllpcggdcknaaaGreatDoor.Rp
open Go Go.Sl Go.RowKit
structure Gl (h : Heap) : Prop where
 m : ∃ m t fr, h 0 = some (.cells #[.int .i64 m] t fr)
 tab : ∃ t fr, h 1 = some (.cells (Lib.pow10Tab.map fun z => Value.int .u64 z).toArray t fr)
 syn : ∃ e t fr, h 2 = some (.cells #[e] t fr) ∧ (e = .nilIface ∨ ∃ te pe, e = .iface te pe)
 rng : ∃ e t fr, h 3 = some (.cells #[e] t fr) ∧ (e = .nilIface ∨ ∃ te pe, e = .iface te pe)
theorem Gl.le {h h' : Heap} (g : Gl h) (hl : Heap.le h h') : Gl h' := by
 obtain ⟨⟨a, b, c, h1⟩, ⟨d, e, h2⟩, ⟨f, i, j, h3, k3⟩, ⟨k, l, m, h4, k4⟩⟩ := g
 exact ⟨⟨a, b, c, hl _ _ h1⟩, ⟨d, e, hl _ _ h2⟩, ⟨f, i, j, hl _ _ h3, k3⟩, ⟨k, l, m, hl _ _ h4, k4⟩⟩
theorem Gl.tabIs {w : World} (g : Gl (hp w)) : Lib.TabIs Tryz.prog w "internal/strconv.uint64pow10" .u64 Lib.pow10Tab := by
 obtain ⟨t, fr, h⟩ := g.tab
 have hn : Tryz.prog.globalNamed "internal/strconv.uint64pow10" = some 1 := by kernel_rfl
 have h' : w.heap[1]? = some (.cells (Lib.pow10Tab.map fun z => Value.int .u64 z).toArray t fr) := h
 unfold Lib.TabIs World.var?
 rw [hn]
 simp only [Option.bind_some, h']
theorem pu_below {P : Program} {f : FuncId} {args : List Value} {Pre : Heap → Prop} {v : Value}
  (h : ∀ w, Pre (hp w) → Calls P f args.toArray w fun e w' => e = .returned v ∧ Below w.heap.size w w') : Pu P f args Pre v := by
 intro w bs hsat hnd hpre
 have hb : bs = [] := hsat
 subst hb
 rw [hpBut_nil] at hpre
 refine (h w hpre).mono ?_
 rintro e w' ⟨rfl, hbel⟩
 refine ⟨v, [], rfl, ⟨rfl, rfl⟩, hbel.os, hbel.tape, hbel.output, fun b o hbo => ?_, [], rfl, List.nodup_nil, by simp⟩
 have h3 : w.heap[b]? = some o := hpBut_le w [] b o hbo
 have h4 : b < w.heap.size := (Array.getElem?_eq_some_iff.1 h3).1
 show w'.heap[b]? = _
 rw [hbel.block b h4]; exact h3
theorem pu_same {P : Program} {f : FuncId} {args : List Value} {Pre : Heap → Prop} {v : Value}
  (h : ∀ w, Pre (hp w) → Calls P f args.toArray w fun e w' => e = .returned v ∧ w' = w) : Pu P f args Pre v :=
 pu_below fun w hw => (h w hw).mono fun e w' ⟨he, hw'⟩ => ⟨he, hw' ▸ Below.refl _ _⟩
theorem HasPrefix_ct (s p : Bs) : Pu Tryz.prog 49 [B s, B p] (fun _ => True) (.bool (p.isPrefixOf s)) := pu_same fun w _ => Tryz.strings_HasPrefix ⟨s.toArray⟩ ⟨p.toArray⟩ w
theorem indexByte_eq (s : Bs) (c : UInt8) : Lib.indexByte s c = if s.contains c = true then ((s.takeWhile fun x => x != c).length : Int) else -1 := by
 induction s with
 | nil => rfl
 | cons a t ih =>
  rw [Lib.indexByte]
  by_cases h : a = c
  ·subst h; simp
  ·have h' : (a == c) = false := by simpa using h
   have h'' : (c == a) = false := by simpa using fun e : c = a => h e.symm
   rw [h', ih]
   simp only [List.contains_cons, h'', Bool.false_or, List.takeWhile_cons, bne, h', Bool.not_false, if_true]
   by_cases hc : t.contains c = true
   ·simp only [hc, if_true]
    have : ((t.takeWhile fun x => !(x == c)).length : Int) ≠ -1 := by omega
    simp [this]
   ·simp only [hc]
    rfl
theorem IndexByte_ct (s : Bs) (c : UInt8) : Pu Tryz.prog 25 [B s, .int .u8 (c.toNat : Nat)] (fun _ => True) (.int .i64 (Lib.indexByte s c)) := pu_same fun w _ => by
 have := Tryz.strings_IndexByte ⟨s.toArray⟩ (c.toNat : Nat) w
 have e : ((c.toNat : Nat) : Int).toNat.toUInt8 = c := by simp
 rwa [e] at this
theorem dec_dig (n : Nat) : Lib.decDigits n = digS n := by
 induction n using Nat.strongRecOn with
 | ind n ih =>
  rw [Lib.decDigits]
  split
  ·next h => rw [digS_lt h]; rfl
  ·next h => rw [digS_ge h, ih (n / 10) (by omega)]; rfl
theorem small_ct (n : Nat) (h : n < 100) : Pu Tryz.prog 112 [.int .i64 (n : Nat)] (fun _ => True) (B (digS n)) := pu_same fun w _ => by
 have := Tryz.internal_strconv_small n h w
 rwa [dec_dig] at this
theorem numDigits_ct (n : Nat) (h1 : 1 ≤ n) (h2 : n < 18446744073709551616) : Pu Tryz.prog 113 [.int .u64 (n : Nat)] Gl (.int .i64 (Lib.nDigits n)) := pu_same fun w hg => Tryz.internal_strconv_numDigits n h1 h2 w hg.tabIs
theorem interc_join (sep : Bs) : ∀ l : List Bs, Lib.join l sep = joinS sep l
 | [] => rfl
 | [x] => by simp [Lib.join, joinS, List.intercalate]
 | x :: y :: t => by
  rw [join_cons _ _ z_10, ← interc_join sep (y :: t)]
  simp [Lib.join, List.intercalate]
end Go.Proofs.YtgllpcggdcknaaaGreatDoor.Rp
namespace Go.Proofs.YtgllpcggdcknaaaGreatDoor.Rp
open Go Go.Sl
abbrev U8 (c : UInt8) : Value := .int .u8 (c.toNat : Nat)
theorem u8_eq {a b : UInt8} : decide ((a.toNat : Int) = (b.toNat : Int)) = decide (a = b) := by
 by_cases h : a = b
 ·subst h; simp
 ·have : ¬((a.toNat : Int) = (b.toNat : Int)) := fun e => h (UInt8.toNat_inj.mp (by omega))
  simp [h, this]
theorem not_has {l : Bs} {c : UInt8} (h : ∀ j, j < l.length → l.getD j 0 ≠ c) : l.contains c = false := by
 cases e : l.contains c with
 | false => rfl
 | true =>
  rw [List.contains_iff_mem] at e
  obtain ⟨j, hj, hc⟩ := List.getElem_of_mem e
  exact absurd (by simp [hj, hc]) (h j hj)
theorem has_at {l : Bs} {c : UInt8} {j : Nat} (hj : j < l.length) (h : l.getD j 0 = c) : l.contains c = true := by
 rw [List.contains_iff_mem, ← h, List.getD_eq_getElem?_getD, List.getElem?_eq_getElem hj]
 exact List.getElem_mem hj
theorem In_ct (c : UInt8) (l : Bs) (hl : l.length ≤ 9223372036854775807) : Pu Tryz.prog 76 [U8 c, B l] (fun _ => True) (.bool (l.contains c)) := by
 refine ct_enter 17 Tryz.func76 rfl rfl rfl ?_
 intro F _
 repeat refine x_ ?_
 refine a_ ?_
 repeat refine x_ ?_
 refine a_ ?_
 repeat refine n_ ?_
 refine g_loop (ι := Nat) (fun k => k ≤ l.length ∧ ∀ j, j < k → l.getD j 0 ≠ c) (fun k => [(0, U8 c), (1, B l), (5, .int .i64 (k : Nat))]) (fun _ => []) (fun k => l.length - k) 0 ⟨by omega, fun j h => by omega⟩ ?_ ?_ ?_
 ·(repeat (first | exact Sub.nil _ | refine Sub.cons rfl ?_))
 ·intro w hw; exact hw
 ·rintro k ⟨hk, hno⟩
  repeat refine x_ ?_
  refine m_ ?_
  refine m_ ?_
  refine f_ (s_len_str rfl) ?_
  refine f_ (s_lss rfl rfl) ?_
  repeat refine n_ ?_
  refine g_cond rfl (fun h => ?_) (fun h => ?_)
  ·have hk' : k < l.length := by simp at h; omega
   repeat refine x_ ?_
   refine m_ ?_
   refine m_ ?_
   refine f_ (s_index_str rfl rfl (by omega)) ?_
   refine m_ ?_
   refine f_ ((s_eql rfl rfl).eq (v' := .bool (decide (l.getD k 0 = c))) (by simp only [Int.toNat_natCast]; exact congrArg Value.bool u8_eq)) ?_
   repeat refine n_ ?_
   refine g_cond rfl (fun h2 => ?_) (fun h2 => ?_)
   ·rw [has_at hk' (of_decide_eq_true h2)]
    repeat refine x_ ?_
    refine a_ ?_
    repeat refine n_ ?_
    refine g_ret ?_
    exact at_end1 rfl rfl [] ⟨rfl, rfl⟩ (fun _ h => h)
   ·have h3 := of_decide_eq_false h2
    repeat refine x_ ?_
    refine m_ ?_
    refine f_ (s_add_i64 rfl rfl (by omega)) ?_
    refine a_ ?_
    repeat refine n_ ?_
    refine at_next (k + 1) ⟨by omega, fun j hj => ?_⟩ (by omega) ?_ ?_
    ·rcases Nat.lt_succ_iff_lt_or_eq.1 hj with h4 | rfl
     ·exact hno j h4
     ·exact h3
    ·(repeat (first | exact Sub.nil _ | refine Sub.cons rfl ?_))
    ·intro w hw; exact hw
  ·have hkl : k = l.length := by simp at h; omega
   rw [not_has (fun j hj => hno j (by omega))]
   repeat refine x_ ?_
   refine a_ ?_
   repeat refine n_ ?_
   refine g_ret ?_
   exact at_end1 rfl rfl [] ⟨rfl, rfl⟩ (fun _ h => h)
theorem AtomByte_ct (c : UInt8) : Pu Tryz.prog 103 [U8 c] (fun _ => True) (.bool (isAtom c)) := by
 obtain ⟨q1, h1⟩ : ∃ q, q = decide (33 ≤ c.toNat) := ⟨_, rfl⟩
 obtain ⟨q2, h2⟩ : ∃ q, q = decide (c.toNat ≤ 126) := ⟨_, rfl⟩
 obtain ⟨q3, h3⟩ : ∃ q, q = ([40, 41, 123, 37, 42, 34, 92, 93] : Bs).contains c := ⟨_, rfl⟩
 have e : isAtom c = (q1 && q2 && !q3) := by rw [h1, h2, h3]; rfl
 rw [e]
 have e1 : decide ((33 : Int) ≤ (c.toNat : Nat)) = q1 := by rw [h1]; exact decide_eq_decide.mpr (by omega)
 have e2 : decide (((c.toNat : Nat) : Int) ≤ 126) = q2 := by rw [h2]; exact decide_eq_decide.mpr (by omega)
 clear h1 h2 e
 refine ct_enter 14 Tryz.func103 rfl rfl rfl ?_
 intro F _
 repeat refine x_ ?_
 refine a_ ?_
 repeat refine n_ ?_
 cases q1 with
 | false =>
  repeat refine x_ ?_
  refine m_ ?_
  refine f_ ((s_geq rfl rfl).eq (v' := .bool false) (congrArg Value.bool e1)) ?_
  refine m_ ?_
  (refine gl_guard_no rfl rfl rfl rfl rfl rfl rfl ?_)
  (refine gl_guard_no rfl rfl rfl rfl rfl rfl rfl ?_)
  refine f_ (by exact s_pick_f rfl rfl) ?_
  refine m_ ?_
  (refine gl_guard_no rfl rfl rfl rfl rfl rfl rfl ?_)
  (refine gl_guard_no rfl rfl rfl rfl rfl rfl rfl ?_)
  (refine gl_guard_no rfl rfl rfl rfl rfl rfl rfl ?_)
  refine f_ (by exact s_pick_f rfl rfl) ?_
  refine a_ ?_
  repeat refine n_ ?_
  refine g_ret ?_
  exact at_end1 rfl rfl [] ⟨rfl, rfl⟩ (fun _ h => h)
 | true =>
  cases q2 with
  | false =>
   repeat refine x_ ?_
   refine m_ ?_
   refine f_ ((s_geq rfl rfl).eq (v' := .bool true) (congrArg Value.bool e1)) ?_
   refine m_ ?_
   (refine v_ ?_; refine m_ ?_)
   (refine v_ ?_; refine f_ ((s_leq rfl rfl).eq (v' := .bool false) (congrArg Value.bool e2)) ?_)
   refine f_ z_9 ?_
   refine m_ ?_
   (refine gl_guard_no rfl rfl rfl rfl rfl rfl rfl ?_)
   (refine gl_guard_no rfl rfl rfl rfl rfl rfl rfl ?_)
   (refine gl_guard_no rfl rfl rfl rfl rfl rfl rfl ?_)
   refine f_ (by exact s_pick_f rfl rfl) ?_
   refine a_ ?_
   repeat refine n_ ?_
   refine g_ret ?_
   exact at_end1 rfl rfl [] ⟨rfl, rfl⟩ (fun _ h => h)
  | true =>
   repeat refine x_ ?_
   refine m_ ?_
   refine f_ ((s_geq rfl rfl).eq (v' := .bool true) (congrArg Value.bool e1)) ?_
   refine m_ ?_
   (refine v_ ?_; refine m_ ?_)
   (refine v_ ?_; refine f_ ((s_leq rfl rfl).eq (v' := .bool true) (congrArg Value.bool e2)) ?_)
   refine f_ z_9 ?_
   refine m_ ?_
   (refine v_ ?_; refine m_ ?_)
   (refine v_ ?_; refine gl_callp rfl (In_ct _ _ (by decide)) (fun h hh hb => by first | trivial | (first | exact RdS.le (by assumption) hh | (obtain ⟨bs, hb⟩ := hb; exact Sat.rd hb (z_2))) | (refine ⟨?_, ?_⟩ <;> (first | exact RdS.le (by assumption) hh | (obtain ⟨bs, hb⟩ := hb; exact Sat.rd hb (z_2)))) | (refine ⟨?_, ?_, ?_⟩ <;> (first | exact RdS.le (by assumption) hh | (obtain ⟨bs, hb⟩ := hb; exact Sat.rd hb (z_2))))) rfl ?_)
   (refine v_ ?_; refine f_ ((s_not rfl).eq (v' := .bool (!q3)) (by rw [h3])) ?_)
   refine f_ z_9 ?_
   refine a_ ?_
   repeat refine n_ ?_
   refine g_ret ?_
   exact at_end1 rfl rfl [] ⟨by simp, rfl⟩ (fun _ h => h)
theorem quotableR_ct (c : UInt8) : Pu Tryz.prog 106 [U8 c] (fun _ => True) (.bool (quotable c)) := by
 obtain ⟨q1, h1⟩ : ∃ q, q = decide (0 < c.toNat) := ⟨_, rfl⟩
 obtain ⟨q2, h2⟩ : ∃ q, q = decide (c.toNat < 128) := ⟨_, rfl⟩
 obtain ⟨q3, h3⟩ : ∃ q, q = decide (c = 10) := ⟨_, rfl⟩
 obtain ⟨q4, h4⟩ : ∃ q, q = decide (c = 13) := ⟨_, rfl⟩
 have e : quotable c = (q1 && q2 && !q3 && !q4) := by
  rw [h1, h2, h3, h4]
  unfold quotable
  by_cases a : c = 10 <;> by_cases b : c = 13 <;> simp [a, b]
 rw [e]
 have e1 : decide ((1 : Int) ≤ (c.toNat : Nat)) = q1 := by rw [h1]; exact decide_eq_decide.mpr (by omega)
 have e2 : decide (((c.toNat : Nat) : Int) ≤ 127) = q2 := by rw [h2]; exact decide_eq_decide.mpr (by omega)
 have e3 : (!decide (((c.toNat : Nat) : Int) = 10)) = !q3 := by rw [h3]; exact congrArg not (u8_eq (b := 10))
 have e4 : (!decide (((c.toNat : Nat) : Int) = 13)) = !q4 := by rw [h4]; exact congrArg not (u8_eq (b := 13))
 clear h1 h2 h3 h4 e
 refine ct_enter 17 Tryz.func106 rfl rfl rfl ?_
 intro F _
 repeat refine x_ ?_
 refine a_ ?_
 repeat refine n_ ?_
 cases q1 with
 | false =>
  repeat refine x_ ?_
  refine m_ ?_
  refine f_ ((s_geq rfl rfl).eq (v' := .bool false) (congrArg Value.bool e1)) ?_
  refine m_ ?_
  (refine gl_guard_no rfl rfl rfl rfl rfl rfl rfl ?_)
  (refine gl_guard_no rfl rfl rfl rfl rfl rfl rfl ?_)
  refine f_ (by exact s_pick_f rfl rfl) ?_
  refine m_ ?_
  (refine gl_guard_no rfl rfl rfl rfl rfl rfl rfl ?_)
  (refine gl_guard_no rfl rfl rfl rfl rfl rfl rfl ?_)
  refine f_ (by exact s_pick_f rfl rfl) ?_
  refine m_ ?_
  (refine gl_guard_no rfl rfl rfl rfl rfl rfl rfl ?_)
  (refine gl_guard_no rfl rfl rfl rfl rfl rfl rfl ?_)
  refine f_ (by exact s_pick_f rfl rfl) ?_
  refine a_ ?_
  repeat refine n_ ?_
  refine g_ret ?_
  exact at_end1 rfl rfl [] ⟨rfl, rfl⟩ (fun _ h => h)
 | true =>
  cases q2 with
  | false =>
   repeat refine x_ ?_
   refine m_ ?_
   refine f_ ((s_geq rfl rfl).eq (v' := .bool true) (congrArg Value.bool e1)) ?_
   refine m_ ?_
   (refine v_ ?_; refine m_ ?_)
   (refine v_ ?_; refine f_ ((s_leq rfl rfl).eq (v' := .bool false) (congrArg Value.bool e2)) ?_)
   refine f_ z_9 ?_
   refine m_ ?_
   (refine gl_guard_no rfl rfl rfl rfl rfl rfl rfl ?_)
   (refine gl_guard_no rfl rfl rfl rfl rfl rfl rfl ?_)
   refine f_ (by exact s_pick_f rfl rfl) ?_
   refine m_ ?_
   (refine gl_guard_no rfl rfl rfl rfl rfl rfl rfl ?_)
   (refine gl_guard_no rfl rfl rfl rfl rfl rfl rfl ?_)
   refine f_ (by exact s_pick_f rfl rfl) ?_
   refine a_ ?_
   repeat refine n_ ?_
   refine g_ret ?_
   exact at_end1 rfl rfl [] ⟨rfl, rfl⟩ (fun _ h => h)
  | true =>
   cases q3 with
   | true =>
    repeat refine x_ ?_
    refine m_ ?_
    refine f_ ((s_geq rfl rfl).eq (v' := .bool true) (congrArg Value.bool e1)) ?_
    refine m_ ?_
    (refine v_ ?_; refine m_ ?_)
    (refine v_ ?_; refine f_ ((s_leq rfl rfl).eq (v' := .bool true) (congrArg Value.bool e2)) ?_)
    refine f_ z_9 ?_
    refine m_ ?_
    (refine v_ ?_; refine m_ ?_)
    (refine v_ ?_; refine f_ ((s_neq rfl rfl).eq (v' := .bool false) (congrArg Value.bool e3)) ?_)
    refine f_ z_9 ?_
    refine m_ ?_
    (refine gl_guard_no rfl rfl rfl rfl rfl rfl rfl ?_)
    (refine gl_guard_no rfl rfl rfl rfl rfl rfl rfl ?_)
    refine f_ (by exact s_pick_f rfl rfl) ?_
    refine a_ ?_
    repeat refine n_ ?_
    refine g_ret ?_
    exact at_end1 rfl rfl [] ⟨rfl, rfl⟩ (fun _ h => h)
   | false =>
    repeat refine x_ ?_
    refine m_ ?_
    refine f_ ((s_geq rfl rfl).eq (v' := .bool true) (congrArg Value.bool e1)) ?_
    refine m_ ?_
    (refine v_ ?_; refine m_ ?_)
    (refine v_ ?_; refine f_ ((s_leq rfl rfl).eq (v' := .bool true) (congrArg Value.bool e2)) ?_)
    refine f_ z_9 ?_
    refine m_ ?_
    (refine v_ ?_; refine m_ ?_)
    (refine v_ ?_; refine f_ ((s_neq rfl rfl).eq (v' := .bool true) (congrArg Value.bool e3)) ?_)
    refine f_ z_9 ?_
    refine m_ ?_
    (refine v_ ?_; refine m_ ?_)
    (refine v_ ?_; refine f_ ((s_neq rfl rfl).eq (v' := .bool (!q4)) (congrArg Value.bool e4)) ?_)
    refine f_ z_9 ?_
    refine a_ ?_
    repeat refine n_ ?_
    refine g_ret ?_
    exact at_end1 rfl rfl [] ⟨by simp, rfl⟩ (fun _ h => h)
theorem all_no {p : UInt8 → Bool} {s : Bs} {k : Nat} (hk : k < s.length) (h : p (s.getD k 0) = false) : s.all p = false := by
 cases e : s.all p with
 | false => rfl
 | true =>
  have := List.all_eq_true.mp e (s.getD k 0) (by rw [List.getD_eq_getElem?_getD, List.getElem?_eq_getElem hk]; exact List.getElem_mem hk)
  rw [h] at this
  cases this
theorem all_yes {p : UInt8 → Bool} {s : Bs} (h : ∀ j, j < s.length → p (s.getD j 0) = true) : s.all p = true := by
 refine List.all_eq_true.mpr fun c hc => ?_
 obtain ⟨j, hj, rfl⟩ := List.getElem_of_mem hc
 simpa [hj] using h j hj
theorem AtomR_ct (s : Bs) (hl : s.length ≤ 9223372036854775806) : Pu Tryz.prog 75 [B s] (fun _ => True) (.bool (atomS s)) := by
 refine ct_enter 18 Tryz.func75 rfl rfl rfl ?_
 intro F _
 repeat refine x_ ?_
 refine a_ ?_
 repeat refine x_ ?_
 refine a_ ?_
 repeat refine n_ ?_
 refine g_loop (ι := Nat) (fun k => k ≤ s.length ∧ ∀ j, j < k → isAtom (s.getD j 0) = true) (fun k => [(0, B s), (3, .int .i64 (k : Nat))]) (fun _ => []) (fun k => s.length - k) 0 ⟨by omega, fun j h => by omega⟩ ?_ ?_ ?_
 ·(repeat (first | exact Sub.nil _ | refine Sub.cons rfl ?_))
 ·intro w hw; exact hw
 ·rintro k ⟨hk, hno⟩
  repeat refine x_ ?_
  refine m_ ?_
  refine m_ ?_
  refine f_ (s_len_str rfl) ?_
  refine f_ (s_lss rfl rfl) ?_
  repeat refine n_ ?_
  refine g_cond rfl (fun h => ?_) (fun h => ?_)
  ·have hk' : k < s.length := by simp at h; omega
   repeat refine x_ ?_
   refine m_ ?_
   refine m_ ?_
   refine f_ ((s_index_str rfl rfl (by omega)).eq (v' := U8 (s.getD k 0)) (by simp only [Int.toNat_natCast])) ?_
   refine gl_callp rfl (AtomByte_ct _) (fun h hh hb => by first | trivial | (first | exact RdS.le (by assumption) hh | (obtain ⟨bs, hb⟩ := hb; exact Sat.rd hb (z_2))) | (refine ⟨?_, ?_⟩ <;> (first | exact RdS.le (by assumption) hh | (obtain ⟨bs, hb⟩ := hb; exact Sat.rd hb (z_2)))) | (refine ⟨?_, ?_, ?_⟩ <;> (first | exact RdS.le (by assumption) hh | (obtain ⟨bs, hb⟩ := hb; exact Sat.rd hb (z_2))))) rfl ?_
   refine f_ (s_not rfl) ?_
   repeat refine n_ ?_
   refine g_cond rfl (fun h2 => ?_) (fun h2 => ?_)
   ·have h3 : isAtom (s.getD k 0) = false := by simpa using h2
    have e : atomS s = false := by unfold atomS; rw [all_no hk' h3]; rfl
    rw [e]
    repeat refine x_ ?_
    refine a_ ?_
    repeat refine n_ ?_
    refine g_ret ?_
    exact at_end1 rfl rfl [] ⟨rfl, rfl⟩ (fun _ h => h)
   ·have h3 : isAtom (s.getD k 0) = true := by simpa using h2
    repeat refine x_ ?_
    refine m_ ?_
    refine f_ (s_add_i64 rfl rfl (by omega)) ?_
    refine a_ ?_
    repeat refine n_ ?_
    refine at_next (k + 1) ⟨by omega, fun j hj => ?_⟩ (by omega) ?_ ?_
    ·rcases Nat.lt_succ_iff_lt_or_eq.1 hj with h4 | rfl
     ·exact hno j h4
     ·exact h3
    ·(repeat (first | exact Sub.nil _ | refine Sub.cons rfl ?_))
    ·intro w hw; exact hw
  ·have hkl : k = s.length := by simp at h; omega
   have e : atomS s = decide ((0 : Int) < (s.length : Nat)) := by
    unfold atomS
    rw [all_yes fun j hj => hno j (by omega)]
    cases s with
    | nil => rfl
    | cons a t => simp
   rw [e]
   repeat refine x_ ?_
   refine m_ ?_
   refine f_ (s_len_str rfl) ?_
   refine f_ (s_gtr rfl rfl) ?_
   refine a_ ?_
   repeat refine n_ ?_
   refine g_ret ?_
   exact at_end1 rfl rfl [] ⟨rfl, rfl⟩ (fun _ h => h)
end Go.Proofs.YtgllpcggdcknaaaGreatDoor.Rp
namespace Go.Proofs.YtgllpcggdcknaaaGreatDoor.Rp
open Go Go.Sl
theorem digS_len : ∀ (k n : Nat), 1 ≤ k → n < 10 ^ k → (digS n).length ≤ k
 | 0, _, h, _ => by omega
 | 1, n, _, h => by rw [digS_lt (by omega)]; simp
 | k + 2, n, _, h => by
  by_cases hl : n < 10
  ·rw [digS_lt hl]; simp
  ·rw [digS_ge hl]
   have := digS_len (k + 1) (n / 10) (by omega) (by rw [Nat.pow_succ] at h; omega)
   simp
   omega
theorem digS_len64 {n : Nat} (h : n ≤ 18446744073709551615) : (digS n).length ≤ 20 := digS_len 20 n (by omega) (by omega)
theorem u8_dig {k : Nat} (h : k < 10) : Value.int .u8 ((48 : Int) + (k : Nat)) = U8 (dig k) := by
 rw [U8, dig_val h]
 congr 1
theorem DigitsR_ct (n : Nat) (hn : n ≤ 18446744073709551615) : Pu Tryz.prog 77 [.int .u64 (n : Nat)] (fun _ => True) (B (digS n)) := by
 have hlen := digS_len64 hn
 refine ct_enter 23 Tryz.func77 rfl rfl rfl ?_
 intro F _
 repeat refine x_ ?_
 refine a_ ?_
 repeat refine x_ ?_
 refine a_ ?_
 repeat refine n_ ?_
 refine g_loop (ι := Nat × Bs) (fun i => i.1 ≤ n ∧ digS n = digS i.1 ++ i.2) (fun i => [(0, .int .u64 (i.1 : Nat)), (3, B i.2)]) (fun _ => []) (fun i => i.1) (n, []) ⟨Nat.le_refl _, by simp⟩ ?_ ?_ ?_
 ·(repeat (first | exact Sub.nil _ | refine Sub.cons rfl ?_))
 ·intro w hw; exact hw
 ·rintro ⟨m, acc⟩ ⟨hm, he⟩
  simp only at hm he
  have hl := congrArg List.length he
  rw [List.length_append] at hl
  repeat refine x_ ?_
  refine m_ ?_
  refine f_ (s_gtr rfl rfl) ?_
  repeat refine n_ ?_
  refine g_cond rfl (fun h => ?_) (fun h => ?_)
  ·have hk : 9 < m := by simp at h; omega
   repeat refine x_ ?_
   refine m_ ?_
   refine f_ ((s_rem_pos rfl rfl (by omega)).eq (v' := .int .u64 ((m % 10 : Nat) : Int)) z_10) ?_
   refine f_ (s_add_u64 rfl rfl (by omega)) ?_
   refine f_ ((s_conv_keep_u8 rfl (by omega)).eq (v' := U8 (dig (m % 10))) (u8_dig (by omega))) ?_
   refine gl_buildSliceU rfl rfl rfl rfl rfl rfl (xs := bytesV [dig (m % 10)]) rfl rfl ?_; intro a10 ha10
   refine r_ (s_string (l := [dig (m % 10)]) rfl rfl (fun w hw => (hw.ownN z_2).2.2.1)) ?_
   refine m_ ?_
   refine f_ ((s_add_str rfl rfl (by simp; omega)).eq (v' := B (dig (m % 10) :: acc)) rfl) ?_
   refine a_ ?_
   repeat refine x_ ?_
   refine m_ ?_
   refine f_ ((s_quo_u rfl rfl (by refine ⟨by omega, by omega, wrap_u64_in (by omega)⟩)).eq (v' := .int .u64 ((m / 10 : Nat) : Int)) z_10) ?_
   refine a_ ?_
   repeat refine n_ ?_
   refine at_next (m / 10, dig (m % 10) :: acc) ⟨by simp only; omega, ?_⟩ (by simp only; omega) ?_ ?_
   ·simp only
    rw [he, digS_ge (by omega)]
    simp
   ·(repeat (first | exact Sub.nil _ | refine Sub.cons rfl ?_))
   ·intro w hw; exact hw.dropAll
  ·have hk : m < 10 := by simp at h; omega
   repeat refine x_ ?_
   refine m_ ?_
   refine f_ (s_add_u64 rfl rfl (by omega)) ?_
   refine f_ ((s_conv_keep_u8 rfl (by omega)).eq (v' := U8 (dig m)) (u8_dig hk)) ?_
   refine gl_buildSliceU rfl rfl rfl rfl rfl rfl (xs := bytesV [dig m]) rfl rfl ?_; intro a19 ha19
   refine r_ (s_string (l := [dig m]) rfl rfl (fun w hw => (hw.ownN z_2).2.2.1)) ?_
   refine m_ ?_
   refine f_ ((s_add_str rfl rfl (by simp; omega)).eq (v' := B (digS n)) (by rw [he, digS_lt hk])) ?_
   refine a_ ?_
   repeat refine n_ ?_
   refine g_ret ?_
   exact at_end1 rfl rfl [] ⟨rfl, rfl⟩ (fun _ h => h.dropAll)
theorem upC_sub {c : UInt8} (h : 97 ≤ c.toNat ∧ c.toNat ≤ 122) : Value.int .u8 (((c.toNat : Nat) : Int) - 97 + 65) = U8 (upC c) := by
 have e : (upC c).toNat = c.toNat - 32 := by
  unfold upC
  rw [if_pos h, UInt8.toNat_sub]
  have := c.toNat_lt
  simp
  omega
 rw [U8, e]
 congr 1
 omega
theorem lowC_add {c : UInt8} (h : 65 ≤ c.toNat ∧ c.toNat ≤ 90) : Value.int .u8 (((c.toNat : Nat) : Int) - 65 + 97) = U8 (lowC c) := by
 have e : (lowC c).toNat = c.toNat + 32 := by
  unfold lowC
  rw [if_pos h, UInt8.toNat_add]
  have := c.toNat_lt
  simp
  omega
 rw [U8, e]
 congr 1
 omega
theorem take_succ_map (f : UInt8 → UInt8) {s : Bs} {k : Nat} (hk : k < s.length) : (s.take (k + 1)).map f = (s.take k).map f ++ [f (s.getD k 0)] := by
 rw [List.take_succ_eq_append_getElem hk, List.map_append, List.getD_eq_getElem?_getD, List.getElem?_eq_getElem hk]
 rfl
theorem UpperR_ct (s : Bs) (hl : s.length ≤ 9223372036854775806) : Pu Tryz.prog 80 [B s] (fun _ => True) (B (upS s)) := by
 refine ct_enter 30 Tryz.func80 rfl rfl rfl ?_
 intro F _
 repeat refine x_ ?_
 refine a_ ?_
 repeat refine x_ ?_
 refine a_ ?_
 repeat refine x_ ?_
 refine a_ ?_
 repeat refine n_ ?_
 refine g_loop (ι := Nat) (fun k => k ≤ s.length) (fun k => [(0, B s), (3, B (upS (s.take k))), (4, .int .i64 (k : Nat))]) (fun _ => []) (fun k => s.length - k) 0 (by omega) ?_ ?_ ?_
 ·(repeat (first | exact Sub.nil _ | refine Sub.cons rfl ?_))
 ·intro w hw; exact hw
 ·rintro k hk
  have hlt : (upS (s.take k)).length ≤ s.length := by unfold upS; rw [List.length_map, List.length_take]; omega
  repeat refine x_ ?_
  refine m_ ?_
  refine m_ ?_
  refine f_ (s_len_str rfl) ?_
  refine f_ (s_lss rfl rfl) ?_
  repeat refine n_ ?_
  refine g_cond rfl (fun h => ?_) (fun h => ?_)
  ·have hk' : k < s.length := by simp at h; omega
   have hu : upS (s.take (k + 1)) = upS (s.take k) ++ [upC (s.getD k 0)] := take_succ_map upC hk'
   repeat refine x_ ?_
   refine m_ ?_
   refine m_ ?_
   refine f_ ((s_index_str rfl rfl (by omega)).eq (v' := U8 (s.getD k 0)) (by simp only [Int.toNat_natCast])) ?_
   refine a_ ?_
   repeat refine n_ ?_
   generalize s.getD k 0 = c at hu ⊢
   have hc := c.toNat_lt
   obtain ⟨q1, h1⟩ : ∃ q, q = decide ((97 : Int) ≤ (c.toNat : Nat)) := ⟨_, rfl⟩
   obtain ⟨q2, h2⟩ : ∃ q, q = decide (((c.toNat : Nat) : Int) ≤ 122) := ⟨_, rfl⟩
   have keep : (q1 = false ∨ q2 = false) → upC c = c := fun e => by
    unfold upC
    rw [if_neg]
    rintro ⟨a, b⟩
    rcases e with e | e
    ·rw [e] at h1; have := of_decide_eq_false h1.symm; omega
    ·rw [e] at h2; have := of_decide_eq_false h2.symm; omega
   cases q1 with
   | false =>
    repeat refine x_ ?_
    refine m_ ?_
    refine f_ ((s_geq rfl rfl).eq (v' := .bool false) (congrArg Value.bool h1.symm)) ?_
    refine m_ ?_
    (refine gl_guard_no rfl rfl rfl rfl rfl rfl rfl ?_)
    (refine gl_guard_no rfl rfl rfl rfl rfl rfl rfl ?_)
    refine f_ (by exact s_pick_f rfl rfl) ?_
    repeat refine x_ ?_
    refine m_ ?_
    refine m_ ?_
    refine gl_buildSliceU rfl rfl rfl rfl rfl rfl (xs := bytesV [c]) rfl rfl ?_; intro a26 ha26
    refine r_ (s_string (l := [c]) rfl rfl (fun w hw => (hw.ownN z_2).2.2.1)) ?_
    refine f_ ((s_add_str rfl rfl (by simp; omega)).eq (v' := B (upS (s.take (k + 1)))) (by rw [hu, keep (.inl rfl)])) ?_
    refine a_ ?_
    repeat refine x_ ?_
    refine m_ ?_
    refine f_ (s_add_i64 rfl rfl (by omega)) ?_
    refine a_ ?_
    repeat refine n_ ?_
    refine at_next (k + 1) (by omega) (by omega) ?_ ?_
    ·(repeat (first | exact Sub.nil _ | refine Sub.cons rfl ?_))
    ·intro w hw; exact hw.dropAll
   | true =>
    cases q2 with
    | false =>
     repeat refine x_ ?_
     refine m_ ?_
     refine f_ ((s_geq rfl rfl).eq (v' := .bool true) (congrArg Value.bool h1.symm)) ?_
     refine m_ ?_
     (refine v_ ?_; refine m_ ?_)
     (refine v_ ?_; refine f_ ((s_leq rfl rfl).eq (v' := .bool false) (congrArg Value.bool h2.symm)) ?_)
     refine f_ z_9 ?_
     repeat refine x_ ?_
     refine m_ ?_
     refine m_ ?_
     refine gl_buildSliceU rfl rfl rfl rfl rfl rfl (xs := bytesV [c]) rfl rfl ?_; intro a26 ha26
     refine r_ (s_string (l := [c]) rfl rfl (fun w hw => (hw.ownN z_2).2.2.1)) ?_
     refine f_ ((s_add_str rfl rfl (by simp; omega)).eq (v' := B (upS (s.take (k + 1)))) (by rw [hu, keep (.inr rfl)])) ?_
     refine a_ ?_
     repeat refine x_ ?_
     refine m_ ?_
     refine f_ (s_add_i64 rfl rfl (by omega)) ?_
     refine a_ ?_
     repeat refine n_ ?_
     refine at_next (k + 1) (by omega) (by omega) ?_ ?_
     ·(repeat (first | exact Sub.nil _ | refine Sub.cons rfl ?_))
     ·intro w hw; exact hw.dropAll
    | true =>
     have b1 : 97 ≤ c.toNat := by have := of_decide_eq_true h1.symm; omega
     have b2 : c.toNat ≤ 122 := by have := of_decide_eq_true h2.symm; omega
     repeat refine x_ ?_
     refine m_ ?_
     refine f_ ((s_geq rfl rfl).eq (v' := .bool true) (congrArg Value.bool h1.symm)) ?_
     refine m_ ?_
     (refine v_ ?_; refine m_ ?_)
     (refine v_ ?_; refine f_ ((s_leq rfl rfl).eq (v' := .bool true) (congrArg Value.bool h2.symm)) ?_)
     refine f_ z_9 ?_
     repeat refine x_ ?_
     refine m_ ?_
     refine f_ ((s_sub_raw rfl rfl).eq (v' := .int .u8 ((c.toNat : Nat) - 97)) (by rw [wrap_u8_in (by omega)])) ?_
     refine f_ ((s_add_raw rfl rfl).eq (v' := U8 (upC c)) (by rw [wrap_u8_in (by omega)]; exact upC_sub ⟨b1, b2⟩)) ?_
     refine a_ ?_
     repeat refine x_ ?_
     refine m_ ?_
     refine m_ ?_
     refine gl_buildSliceU rfl rfl rfl rfl rfl rfl (xs := bytesV [upC c]) rfl rfl ?_; intro a26 ha26
     refine r_ (s_string (l := [upC c]) rfl rfl (fun w hw => (hw.ownN z_2).2.2.1)) ?_
     refine f_ ((s_add_str rfl rfl (by simp; omega)).eq (v' := B (upS (s.take (k + 1)))) (by rw [hu])) ?_
     refine a_ ?_
     repeat refine x_ ?_
     refine m_ ?_
     refine f_ (s_add_i64 rfl rfl (by omega)) ?_
     refine a_ ?_
     repeat refine n_ ?_
     refine at_next (k + 1) (by omega) (by omega) ?_ ?_
     ·(repeat (first | exact Sub.nil _ | refine Sub.cons rfl ?_))
     ·intro w hw; exact hw.dropAll
  ·have hkl : k = s.length := by simp at h; omega
   have e : upS (s.take k) = upS s := by rw [hkl, List.take_length]
   rw [e]
   repeat refine x_ ?_
   refine m_ ?_
   refine a_ ?_
   repeat refine n_ ?_
   refine g_ret ?_
   exact at_end1 rfl rfl [] ⟨rfl, rfl⟩ (fun _ h => h)
end Go.Proofs.YtgllpcggdcknaaaGreatDoor.Rp
namespace Go.Proofs.YtgllpcggdcknaaaGreatDoor.Rp
open Go Go.Sl
abbrev numV (o : Option Nat) : Value := .tuple #[.int .u64 ((o.getD 0 : Nat) : Int), .bool o.isSome]
theorem num_none {s : Bs} (h : ∀ n, n ≤ great → s ≠ digS n) : numS s = none := by
 cases e : numS s with
 | none => rfl
 | some n => exact absurd (numS_some e).1 (h n (numS_some e).2)
theorem num_long {s : Bs} (h : 19 < s.length) : numS s = none := num_none fun n hn e => by
 have := digS_len 19 n (by omega) (by unfold great at hn; omega)
 rw [← e] at this
 omega
theorem num_zero {s : Bs} (h : 1 < s.length) (h0 : s.getD 0 0 = 48) : numS s = none := num_none fun n hn e => by
 rcases Nat.eq_zero_or_pos n with rfl | hp
 ·rw [digS_lt (by omega)] at e
  rw [e] at h
  simp at h
 ·obtain ⟨c, t, hc, hne⟩ := digS_head n hp
  rw [e, hc] at h0
  exact hne h0
theorem num_digit {s : Bs} {k : Nat} (hk : k < s.length) (h : isDig (s.getD k 0) = false) : numS s = none := num_none fun n hn e => by
 have := digS_all n
 rw [← e, all_no hk h] at this
 cases this
theorem num_val {s : Bs} (h0 : 1 ≤ s.length) (hz : ¬(s.getD 0 0 = 48 ∧ 1 < s.length)) (hd : ∀ j, j < s.length → isDig (s.getD j 0) = true) : numS s = if great < valK 0 s then none else some (valK 0 s) := by
 have e : digS (valK 0 s) = s := by
  cases s with
  | nil => simp at h0
  | cons c t =>
   refine dig_back0 (all_yes hd) ?_
   by_cases hc : c = 48
   ·right
    cases t with
    | nil => rfl
    | cons d t => exact absurd ⟨by simpa using hc, by simp⟩ hz
   ·exact .inl hc
 unfold numS
 split
 ·next h => rw [if_neg (by omega)]
 ·next h =>
  rw [if_pos]
  apply Classical.byContradiction
  intro k
  exact h ⟨e, by omega⟩
theorem valK_lt : ∀ (k : Nat) (s : Bs), s.length = k → (∀ j, j < s.length → isDig (s.getD j 0) = true) → valK 0 s < 10 ^ k
 | 0, s, h, _ => by
  have : s = [] := List.eq_nil_of_length_eq_zero h
  subst this
  rw [valK_nil]
  decide
 | k + 1, s, h, hd => by
  have e : s = s.take k ++ [s.getD k 0] := by
   have hk : k < s.length := by omega
   have := List.take_succ_eq_append_getElem hk
   rw [show k + 1 = s.length by omega, List.take_length] at this
   rw [List.getD_eq_getElem?_getD, List.getElem?_eq_getElem hk]
   exact this
  have hdk := hd k (by omega)
  have ih := valK_lt k (s.take k) (by rw [List.length_take]; omega) (fun j hj => by
   rw [List.length_take] at hj
   have := hd j (by omega)
   rw [List.getD_eq_getElem?_getD] at this ⊢
   rw [List.getElem?_take_of_lt (by omega)]
   exact this)
  rw [e, valK_append, valK_cons, valK_nil, Nat.pow_succ]
  unfold stepV
  unfold isDig at hdk
  simp only [Bool.and_eq_true, decide_eq_true_eq] at hdk
  omega
theorem val_take {s : Bs} {k : Nat} (hk : k < s.length) : valK 0 (s.take (k + 1)) = 10 * valK 0 (s.take k) + ((s.getD k 0).toNat - 48) := by
 rw [List.take_succ_eq_append_getElem hk, valK_append, valK_cons, valK_nil, List.getD_eq_getElem?_getD, List.getElem?_eq_getElem hk]
 rfl
theorem Number_ct (s : Bs) (hl : s.length ≤ 9223372036854775806) : Pu Tryz.prog 97 [B s] (fun _ => True) (numV (numS s)) := by
 refine ct_enter 51 Tryz.func97 rfl rfl rfl ?_
 intro F _
 repeat refine x_ ?_
 refine a_ ?_
 refine a_ ?_
 repeat refine n_ ?_
 by_cases hA : s.length < 1 ∨ 19 < s.length ∨ (s.getD 0 0 = 48 ∧ 1 < s.length)
 ·have hnone : numS s = none := by
   rcases hA with h | h | h
   ·have : s = [] := List.eq_nil_of_length_eq_zero (by omega)
    rw [this]; exact numS_nil
   ·exact num_long h
   ·exact num_zero h.2 h.1
  rw [hnone]
  by_cases h1 : s.length < 1
  ·repeat refine y_ ?_
   refine g_region ?_
   refine m_ ?_
   refine f_ (s_len_str rfl) ?_
   refine f_ ((s_lss rfl rfl).eq (v' := .bool true) (by simp; omega)) ?_
   refine m_ ?_
   (refine gl_guard_no rfl rfl rfl rfl rfl rfl rfl ?_)
   (refine gl_guard_no rfl rfl rfl rfl rfl rfl rfl ?_)
   (refine gl_guard_no rfl rfl rfl rfl rfl rfl rfl ?_)
   refine f_ z_9 ?_
   refine m_ ?_
   (refine gl_guard_no rfl rfl rfl rfl rfl rfl rfl ?_)
   (refine gl_guard_no rfl rfl rfl rfl rfl rfl rfl ?_)
   (refine gl_guard_no rfl rfl rfl rfl rfl rfl rfl ?_)
   (refine gl_guard_no rfl rfl rfl rfl rfl rfl rfl ?_)
   (refine gl_guard_un rfl rfl rfl rfl rfl rfl ?_)
   (refine gl_guard_un rfl rfl rfl rfl rfl rfl ?_)
   (refine gl_guard_un rfl rfl rfl rfl rfl rfl ?_)
   (refine gl_guard_no rfl rfl rfl rfl rfl rfl rfl ?_)
   refine f_ z_9 ?_
   repeat refine x_ ?_
   refine a_ ?_
   refine a_ ?_
   repeat refine n_ ?_
   refine g_ret ?_
   exact at_end2 rfl rfl rfl [] ⟨rfl, rfl⟩ (fun _ h => h)
  ·by_cases h2 : 19 < s.length
   ·repeat refine y_ ?_
    refine g_region ?_
    refine m_ ?_
    refine f_ (s_len_str rfl) ?_
    refine f_ ((s_lss rfl rfl).eq (v' := .bool false) (by simp; omega)) ?_
    refine m_ ?_
    (refine v_ ?_; refine m_ ?_)
    (refine v_ ?_; refine f_ (s_len_str rfl) ?_)
    (refine v_ ?_; refine f_ ((s_gtr rfl rfl).eq (v' := .bool true) (by simp; omega)) ?_)
    refine f_ (by exact s_pick_f rfl rfl) ?_
    refine m_ ?_
    (refine gl_guard_no rfl rfl rfl rfl rfl rfl rfl ?_)
    (refine gl_guard_no rfl rfl rfl rfl rfl rfl rfl ?_)
    (refine gl_guard_no rfl rfl rfl rfl rfl rfl rfl ?_)
    (refine gl_guard_no rfl rfl rfl rfl rfl rfl rfl ?_)
    (refine gl_guard_un rfl rfl rfl rfl rfl rfl ?_)
    (refine gl_guard_un rfl rfl rfl rfl rfl rfl ?_)
    (refine gl_guard_un rfl rfl rfl rfl rfl rfl ?_)
    (refine gl_guard_no rfl rfl rfl rfl rfl rfl rfl ?_)
    refine f_ z_9 ?_
    repeat refine x_ ?_
    refine a_ ?_
    refine a_ ?_
    repeat refine n_ ?_
    refine g_ret ?_
    exact at_end2 rfl rfl rfl [] ⟨rfl, rfl⟩ (fun _ h => h)
   ·have h3 : s.getD 0 0 = 48 ∧ 1 < s.length := by
     rcases hA with h | h | h
     ·omega
     ·omega
     ·exact h
    repeat refine x_ ?_
    refine m_ ?_
    refine f_ (s_len_str rfl) ?_
    refine f_ ((s_lss rfl rfl).eq (v' := .bool false) (by simp; omega)) ?_
    refine m_ ?_
    (refine v_ ?_; refine m_ ?_)
    (refine v_ ?_; refine f_ (s_len_str rfl) ?_)
    (refine v_ ?_; refine f_ ((s_gtr rfl rfl).eq (v' := .bool false) (by simp; omega)) ?_)
    refine f_ (by exact s_pick_f rfl rfl) ?_
    refine m_ ?_
    (refine v_ ?_; refine m_ ?_)
    (refine v_ ?_; refine f_ ((s_index_str rfl rfl (by omega)).eq (v' := .int .u8 48) (by simp only [Int.toNat_zero]; rw [h3.1]; rfl)) ?_)
    (refine v_ ?_; refine f_ (s_eql rfl rfl) ?_)
    (refine v_ ?_; refine m_ ?_)
    (refine v_ ?_; refine m_ ?_)
    (refine v_ ?_; refine f_ (s_len_str rfl) ?_)
    (refine v_ ?_; refine f_ ((s_gtr rfl rfl).eq (v' := .bool true) (by simp; omega)) ?_)
    (refine v_ ?_; refine f_ z_9 ?_)
    refine f_ (by exact s_pick_f rfl rfl) ?_
    repeat refine x_ ?_
    refine a_ ?_
    refine a_ ?_
    repeat refine n_ ?_
    refine g_ret ?_
    exact at_end2 rfl rfl rfl [] ⟨rfl, rfl⟩ (fun _ h => h)
 ·have h1 : 1 ≤ s.length := by omega
  have h2 : s.length ≤ 19 := by omega
  have hz : ¬(s.getD 0 0 = 48 ∧ 1 < s.length) := fun h => hA (.inr (.inr h))
  obtain ⟨q1, hq1⟩ : ∃ q, q = decide (s.getD 0 0 = 48) := ⟨_, rfl⟩
  obtain ⟨q2, hq2⟩ : ∃ q, q = decide ((1 : Int) < (s.length : Nat)) := ⟨_, rfl⟩
  have hq : (q1 && q2) = false := by
   cases q1 with
   | false => rfl
   | true =>
    cases q2 with
    | false => rfl
    | true => exact absurd ⟨of_decide_eq_true hq1.symm, by have := of_decide_eq_true hq2.symm; omega⟩ hz
  repeat refine y_ ?_
  refine g_cutK [(0, B s), (23, .bool (q1 && q2))] [] ?_ ?_
  ·cases q1 <;> cases q2
   all_goals (
    repeat refine x_ ?_
    refine m_ ?_
    refine f_ (s_len_str rfl) ?_
    refine f_ ((s_lss rfl rfl).eq (v' := .bool false) (by simp; omega)) ?_
    refine m_ ?_
    (refine v_ ?_; refine m_ ?_)
    (refine v_ ?_; refine f_ (s_len_str rfl) ?_)
    (refine v_ ?_; refine f_ ((s_gtr rfl rfl).eq (v' := .bool false) (by simp; omega)) ?_)
    refine f_ (by exact s_pick_f rfl rfl) ?_
    refine m_ ?_
    (refine v_ ?_; refine m_ ?_)
    (refine v_ ?_; refine f_ ((s_index_str rfl rfl (by omega)).eq (v' := U8 (s.getD 0 0)) rfl) ?_)
    (refine v_ ?_; refine f_ ((s_eql rfl rfl).eq ((congrArg Value.bool (u8_eq (b := 48))).trans (congrArg Value.bool hq1.symm))) ?_)
    (refine v_ ?_; refine m_ ?_)
    (first | refine gl_guard_no rfl rfl rfl rfl rfl rfl rfl ?_ | (refine v_ ?_; refine m_ ?_))
    (first | refine gl_guard_no rfl rfl rfl rfl rfl rfl rfl ?_ | (refine v_ ?_; refine f_ (s_len_str rfl) ?_))
    (first | refine gl_guard_no rfl rfl rfl rfl rfl rfl rfl ?_ | (refine v_ ?_; refine f_ ((s_gtr rfl rfl).eb hq2) ?_))
    (refine v_ ?_; refine f_ z_4 ?_)
    refine f_ (by exact s_pick_f rfl rfl) ?_
    refine gl_nil ?_
    repeat refine y_ ?_)
   all_goals exact at_cut j_ i_
  ·rw [hq]
   repeat refine x_ ?_
   refine a_ ?_
   repeat refine x_ ?_
   refine a_ ?_
   repeat refine n_ ?_
   refine g_loop (ι := Nat) (fun k => k ≤ s.length ∧ ∀ j, j < k → isDig (s.getD j 0) = true) (fun k => [(0, B s), (4, .int .u64 (valK 0 (s.take k) : Nat)), (5, .int .i64 (k : Nat))]) (fun _ => []) (fun k => s.length - k) 0 ⟨by omega, fun j h => by omega⟩ ?_ ?_ ?_
   ·(repeat (first | exact Sub.nil _ | refine Sub.cons rfl ?_))
   ·intro w hw; exact hw
   ·rintro k ⟨hk, hno⟩
    repeat refine x_ ?_
    refine m_ ?_
    refine m_ ?_
    refine f_ (s_len_str rfl) ?_
    refine f_ (s_lss rfl rfl) ?_
    repeat refine n_ ?_
    refine g_cond rfl (fun h => ?_) (fun h => ?_)
    ·have hk' : k < s.length := by simp at h; omega
     obtain ⟨q3, hq3⟩ : ∃ q, q = decide (((s.getD k 0).toNat : Int) < 48) := ⟨_, rfl⟩
     obtain ⟨q4, hq4⟩ : ∃ q, q = decide ((57 : Int) < ((s.getD k 0).toNat : Nat)) := ⟨_, rfl⟩
     have hdig : isDig (s.getD k 0) = (!(q3 || q4)) := by
      unfold isDig
      rw [hq3, hq4]
      rw [Bool.eq_iff_iff]
      simp only [Bool.and_eq_true, Bool.not_eq_true', Bool.or_eq_false_iff, decide_eq_true_eq, decide_eq_false_iff_not]
      omega
     repeat refine y_ ?_
     refine g_cutK [(0, B s), (4, .int .u64 (valK 0 (s.take k) : Nat)), (5, .int .i64 (k : Nat)), (39, .bool (q3 || q4))] [] ?_ ?_
     ·cases q3 <;> cases q4
      all_goals (
       repeat refine x_ ?_
       refine m_ ?_
       refine m_ ?_
       refine f_ ((s_index_str rfl rfl (by omega)).eq (v' := U8 (s.getD k 0)) (by simp only [Int.toNat_natCast])) ?_
       refine f_ ((s_lss rfl rfl).eb hq3) ?_
       refine m_ ?_
       (first | refine gl_guard_no rfl rfl rfl rfl rfl rfl rfl ?_ | (refine v_ ?_; refine m_ ?_))
       (first | refine gl_guard_no rfl rfl rfl rfl rfl rfl rfl ?_ | (refine v_ ?_; refine m_ ?_))
       (first | refine gl_guard_no rfl rfl rfl rfl rfl rfl rfl ?_ | (refine v_ ?_; refine f_ ((s_index_str rfl rfl (by omega)).eq (v' := U8 (s.getD k 0)) (by simp only [Int.toNat_natCast])) ?_))
       (first | refine gl_guard_no rfl rfl rfl rfl rfl rfl rfl ?_ | (refine v_ ?_; refine f_ ((s_gtr rfl rfl).eb hq4) ?_))
       refine f_ z_4 ?_
       refine gl_nil ?_
       repeat refine y_ ?_)
      all_goals exact at_cut j_ i_
     ·repeat refine y_ ?_
      refine g_cond rfl (fun h2 => ?_) (fun h2 => ?_)
      ·rw [num_digit hk' (by rw [hdig, h2]; rfl)]
       repeat refine x_ ?_
       refine a_ ?_
       refine a_ ?_
       repeat refine n_ ?_
       refine g_ret ?_
       exact at_end2 rfl rfl rfl [] ⟨rfl, rfl⟩ (fun _ h => h)
      ·have hd : isDig (s.getD k 0) = true := by rw [hdig, h2]; rfl
       have hall : ∀ j, j < k + 1 → isDig (s.getD j 0) = true := fun j hj => by
        rcases Nat.lt_succ_iff_lt_or_eq.1 hj with h4 | rfl
        ·exact hno j h4
        ·exact hd
       have hv := val_take hk'
       have hlt : valK 0 (s.take (k + 1)) < 10 ^ 19 := Nat.lt_of_lt_of_le (valK_lt (k + 1) (s.take (k + 1)) (by rw [List.length_take]; omega) (fun j hj => by
        rw [List.length_take] at hj
        have := hall j (by omega)
        rw [List.getD_eq_getElem?_getD] at this ⊢
        rw [List.getElem?_take_of_lt (by omega)]
        exact this)) (Nat.pow_le_pow_right (by omega) (by omega))
       have hc := hd
       unfold isDig at hc
       simp only [Bool.and_eq_true, decide_eq_true_eq] at hc
       repeat refine x_ ?_
       refine m_ ?_
       refine f_ ((s_mul_u64 rfl rfl (by omega)).eq (v' := .int .u64 ((10 * valK 0 (s.take k) : Nat) : Int)) z_10) ?_
       refine m_ ?_
       refine m_ ?_
       refine f_ ((s_index_str rfl rfl (by omega)).eq (v' := U8 (s.getD k 0)) (by simp only [Int.toNat_natCast])) ?_
       refine f_ ((s_sub_raw rfl rfl).eq (v' := .int .u8 (((s.getD k 0).toNat - 48 : Nat) : Int)) (by rw [wrap_u8_in (by omega)]; congr 1; omega)) ?_
       refine f_ (s_conv_keep_u64 rfl (by omega)) ?_
       refine f_ ((s_add_u64 rfl rfl (by omega)).eq (v' := .int .u64 (valK 0 (s.take (k + 1)) : Nat)) (by rw [hv]; simp)) ?_
       refine a_ ?_
       repeat refine x_ ?_
       refine m_ ?_
       refine f_ (s_add_i64 rfl rfl (by omega)) ?_
       refine a_ ?_
       repeat refine n_ ?_
       refine at_next (k + 1) ⟨by omega, hall⟩ (by omega) ?_ ?_
       ·(repeat (first | exact Sub.nil _ | refine Sub.cons rfl ?_))
       ·intro w hw; exact hw
    ·have hkl : k = s.length := by simp at h; omega
     subst hkl
     rw [List.take_length]
     have hv := num_val h1 hz hno
     repeat refine x_ ?_
     refine m_ ?_
     refine f_ (s_gtr rfl rfl) ?_
     repeat refine n_ ?_
     refine g_cond rfl (fun h2 => ?_) (fun h2 => ?_)
     ·have : great < valK 0 s := by unfold great; simp at h2; omega
      rw [hv, if_pos this]
      repeat refine x_ ?_
      refine a_ ?_
      refine a_ ?_
      repeat refine n_ ?_
      refine g_ret ?_
      exact at_end2 rfl rfl rfl [] ⟨rfl, rfl⟩ (fun _ h => h)
     ·have : ¬great < valK 0 s := by unfold great; simp at h2; omega
      rw [hv, if_neg this]
      repeat refine x_ ?_
      refine m_ ?_
      refine a_ ?_
      refine a_ ?_
      repeat refine n_ ?_
      refine g_ret ?_
      exact at_end2 rfl rfl rfl [] ⟨rfl, rfl⟩ (fun _ h => h)
theorem flat_snoc {s : Bs} {k : Nat} (hk : k < s.length) : (s.take (k + 1)).flatMap escC = (s.take k).flatMap escC ++ escC (s.getD k 0) := by
 rw [List.take_succ_eq_append_getElem hk, List.flatMap_append, List.getD_eq_getElem?_getD, List.getElem?_eq_getElem hk]
 simp
theorem esc_len (s : Bs) : (s.flatMap escC).length ≤ 2 * s.length := by
 induction s with
 | nil => simp
 | cons c t ih =>
  rw [List.flatMap_cons, List.length_append, List.length_cons]
  have : (escC c).length ≤ 2 := by unfold escC; split <;> simp
  omega
theorem slice1 {s : Bs} {k : Nat} (hk : k < s.length) : (s.drop ((k : Nat) : Int).toNat).take ((((k : Nat) : Int) + 1).toNat - ((k : Nat) : Int).toNat) = [s.getD k 0] := by
 have e : (((k : Nat) : Int) + 1).toNat - ((k : Nat) : Int).toNat = 1 := by omega
 rw [e, Int.toNat_natCast, List.drop_eq_getElem_cons hk, List.getD_eq_getElem?_getD, List.getElem?_eq_getElem hk]
 rfl
abbrev optV (o : Option Bs) : Value := .tuple #[B (o.getD []), .bool o.isSome]
theorem QuoteR_ct (s : Bs) (hl : s.length ≤ 9223372036854775806) : Pu Tryz.prog 81 [B s] (fun _ => True) (optV (quoteS s)) := by
 refine ct_enter 41 Tryz.func81 rfl rfl rfl ?_
 intro F _
 repeat refine x_ ?_
 refine a_ ?_
 refine a_ ?_
 repeat refine x_ ?_
 refine m_ ?_
 refine f_ (s_len_str rfl) ?_
 refine f_ (s_gtr rfl rfl) ?_
 repeat refine n_ ?_
 refine g_cond rfl (fun h => ?_) (fun h => ?_)
 ·have e : quoteS s = none := by
   unfold quoteS
   rw [if_neg (fun k => by simp at h; omega)]
  rw [e]
  repeat refine x_ ?_
  refine a_ ?_
  refine a_ ?_
  repeat refine n_ ?_
  refine g_ret ?_
  exact at_end2 rfl rfl rfl [] ⟨rfl, rfl⟩ (fun _ h => h)
 have h512 : s.length ≤ 512 := by simp at h; omega
 repeat refine x_ ?_
 refine a_ ?_
 repeat refine x_ ?_
 refine a_ ?_
 repeat refine n_ ?_
 refine g_loop (ι := Nat) (fun k => k ≤ s.length ∧ ∀ j, j < k → quotable (s.getD j 0) = true) (fun k => [(0, B s), (4, B (34 :: (s.take k).flatMap escC)), (5, .int .i64 (k : Nat))]) (fun _ => []) (fun k => s.length - k) 0 ⟨by omega, fun j h => by omega⟩ ?_ ?_ ?_
 ·(repeat (first | exact Sub.nil _ | refine Sub.cons rfl ?_))
 ·intro w hw; exact hw
 ·rintro k ⟨hk, hno⟩
  have hlen := esc_len (s.take k)
  rw [List.length_take] at hlen
  repeat refine x_ ?_
  refine m_ ?_
  refine m_ ?_
  refine f_ (s_len_str rfl) ?_
  refine f_ (s_lss rfl rfl) ?_
  repeat refine n_ ?_
  refine g_cond rfl (fun h => ?_) (fun h => ?_)
  ·have hk' : k < s.length := by simp at h; omega
   repeat refine x_ ?_
   refine m_ ?_
   refine m_ ?_
   refine f_ ((s_index_str rfl rfl (by omega)).eq (v' := U8 (s.getD k 0)) (by simp only [Int.toNat_natCast])) ?_
   refine gl_callp rfl (quotableR_ct _) (fun h hh hb => by first | trivial | (first | exact RdS.le (by assumption) hh | (obtain ⟨bs, hb⟩ := hb; exact Sat.rd hb (z_2))) | (refine ⟨?_, ?_⟩ <;> (first | exact RdS.le (by assumption) hh | (obtain ⟨bs, hb⟩ := hb; exact Sat.rd hb (z_2)))) | (refine ⟨?_, ?_, ?_⟩ <;> (first | exact RdS.le (by assumption) hh | (obtain ⟨bs, hb⟩ := hb; exact Sat.rd hb (z_2))))) rfl ?_
   refine f_ (s_not rfl) ?_
   repeat refine n_ ?_
   refine g_cond rfl (fun h2 => ?_) (fun h2 => ?_)
   ·have h3 : quotable (s.getD k 0) = false := by simpa using h2
    have e : quoteS s = none := by
     unfold quoteS
     rw [if_neg (fun k => by rw [all_no hk' h3] at k; cases k.2)]
    rw [e]
    repeat refine x_ ?_
    refine a_ ?_
    refine a_ ?_
    repeat refine n_ ?_
    refine g_ret ?_
    exact at_end2 rfl rfl rfl [] ⟨rfl, rfl⟩ (fun _ h => h)
   have h3 : quotable (s.getD k 0) = true := by simpa using h2
   obtain ⟨q1, hq1⟩ : ∃ q, q = decide (s.getD k 0 = 34) := ⟨_, rfl⟩
   obtain ⟨q2, hq2⟩ : ∃ q, q = decide (s.getD k 0 = 92) := ⟨_, rfl⟩
   have hf := flat_snoc hk'
   repeat refine y_ ?_
   refine g_cutK [(0, B s), (4, B (34 :: (s.take k).flatMap escC)), (5, .int .i64 (k : Nat)), (29, .bool (q1 || q2))] [] ?_ ?_
   ·cases q1 <;> cases q2
    all_goals (
     repeat refine x_ ?_
     refine m_ ?_
     refine m_ ?_
     refine f_ ((s_index_str rfl rfl (by omega)).eq (v' := U8 (s.getD k 0)) (by simp only [Int.toNat_natCast])) ?_
     refine f_ ((s_eql rfl rfl).eq ((congrArg Value.bool (u8_eq (b := 34))).trans (congrArg Value.bool hq1.symm))) ?_
     refine m_ ?_
     (first | refine gl_guard_no rfl rfl rfl rfl rfl rfl rfl ?_ | (refine v_ ?_; refine m_ ?_))
     (first | refine gl_guard_no rfl rfl rfl rfl rfl rfl rfl ?_ | (refine v_ ?_; refine m_ ?_))
     (first | refine gl_guard_no rfl rfl rfl rfl rfl rfl rfl ?_ | (refine v_ ?_; refine f_ ((s_index_str rfl rfl (by omega)).eq (v' := U8 (s.getD k 0)) (by simp only [Int.toNat_natCast])) ?_))
     (first | refine gl_guard_no rfl rfl rfl rfl rfl rfl rfl ?_ | (refine v_ ?_; refine f_ ((s_eql rfl rfl).eq ((congrArg Value.bool (u8_eq (b := 92))).trans (congrArg Value.bool hq2.symm))) ?_))
     refine f_ z_4 ?_
     refine gl_nil ?_
     repeat refine y_ ?_)
    all_goals exact at_cut j_ i_
   have hesc : escC (s.getD k 0) = if (q1 || q2) = true then [92, s.getD k 0] else [s.getD k 0] := by
    rw [hq1, hq2]
    unfold escC
    by_cases a : s.getD k 0 = 34 <;> by_cases b : s.getD k 0 = 92 <;> simp [a, b]
   repeat refine y_ ?_
   refine g_cond rfl (fun h4 => ?_) (fun h4 => ?_)
   ·rw [if_pos h4] at hesc
    repeat refine x_ ?_
    refine m_ ?_
    refine f_ (s_add_str rfl rfl (by simp only [List.length_cons, List.length_append, List.length_nil]; omega)) ?_
    refine a_ ?_
    repeat refine x_ ?_
    refine m_ ?_
    refine m_ ?_
    refine m_ ?_
    refine m_ ?_
    refine f_ (s_add_i64 rfl rfl (by omega)) ?_
    refine f_ ((s_slice_str rfl rfl rfl (by omega)).eq (v' := B [s.getD k 0]) (congrArg B (slice1 hk'))) ?_
    refine f_ ((s_add_str rfl rfl (by simp only [List.length_cons, List.length_append, List.length_nil]; omega)).eq (v' := B (34 :: (s.take (k + 1)).flatMap escC)) (by rw [hf, hesc]; simp)) ?_
    refine a_ ?_
    repeat refine x_ ?_
    refine m_ ?_
    refine f_ (s_add_i64 rfl rfl (by omega)) ?_
    refine a_ ?_
    repeat refine n_ ?_
    refine at_next (k + 1) ⟨by omega, fun j hj => ?_⟩ (by omega) ?_ ?_
    ·rcases Nat.lt_succ_iff_lt_or_eq.1 hj with h4 | rfl
     ·exact hno j h4
     ·exact h3
    ·(repeat (first | exact Sub.nil _ | refine Sub.cons rfl ?_))
    ·intro w hw; exact hw
   ·rw [if_neg (by simp [h4])] at hesc
    repeat refine x_ ?_
    refine m_ ?_
    refine m_ ?_
    refine m_ ?_
    refine m_ ?_
    refine f_ (s_add_i64 rfl rfl (by omega)) ?_
    refine f_ ((s_slice_str rfl rfl rfl (by omega)).eq (v' := B [s.getD k 0]) (congrArg B (slice1 hk'))) ?_
    refine f_ ((s_add_str rfl rfl (by simp only [List.length_cons, List.length_append, List.length_nil]; omega)).eq (v' := B (34 :: (s.take (k + 1)).flatMap escC)) (by rw [hf, hesc]; simp)) ?_
    refine a_ ?_
    repeat refine x_ ?_
    refine m_ ?_
    refine f_ (s_add_i64 rfl rfl (by omega)) ?_
    refine a_ ?_
    repeat refine n_ ?_
    refine at_next (k + 1) ⟨by omega, fun j hj => ?_⟩ (by omega) ?_ ?_
    ·rcases Nat.lt_succ_iff_lt_or_eq.1 hj with h4 | rfl
     ·exact hno j h4
     ·exact h3
    ·(repeat (first | exact Sub.nil _ | refine Sub.cons rfl ?_))
    ·intro w hw; exact hw
  ·have hkl : k = s.length := by simp at h; omega
   subst hkl
   have e : quoteS s = some (34 :: s.flatMap escC ++ [34]) := by
    unfold quoteS
    rw [if_pos ⟨h512, all_yes hno⟩]
   rw [e, List.take_length] at *
   repeat refine x_ ?_
   refine m_ ?_
   refine f_ (s_add_str rfl rfl (by simp only [List.length_cons, List.length_append, List.length_nil]; omega)) ?_
   refine a_ ?_
   refine a_ ?_
   repeat refine n_ ?_
   refine g_ret ?_
   exact at_end2 rfl rfl rfl [] ⟨rfl, rfl⟩ (fun _ h => h)
end Go.Proofs.YtgllpcggdcknaaaGreatDoor.Rp
