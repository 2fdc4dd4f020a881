/- Tail, in plain words: what was merged stands in both; what stands above another base. -/
import Derived.Test.YtodcghipfolejaaU13
namespace Go.Proofs.Ytodcghipfolejaa
open Go Go.Sl
set_option linter.unusedVariables false
set_option linter.unusedSimpArgs false

/-- no datum is longer than the reference's lists may be -/
def LM.datS (g : LM) : Prop := ∀ i, i < g.l.length → (g.l.getD i E0).2.2.length ≤ 1000000000000
theorem LM.datS.dat {g : LM} (h : g.datS) : g.dat := fun i hi => Nat.le_trans (h i hi) (by decide)
theorem dat_of_bulk {g : LM} {N : Nat} (h : (g.l.map fun e => e.2.2.length + 3).sum ≤ N) (hN : N ≤ 1000000000000) : g.datS := by
  intro i hi
  have h1 : g.l.getD i E0 ∈ g.l := by
    rw [List.getD_eq_getElem?_getD, List.getElem?_eq_getElem hi]; exact List.getElem_mem hi
  have h2 : ∀ (l : List Ent) (e : Ent), e ∈ l → e.2.2.length ≤ (l.map fun e => e.2.2.length + 3).sum := by
    intro l
    induction l with
    | nil => intro e he; cases he
    | cons x r ih =>
      intro e he
      rw [List.mem_cons] at he
      simp only [List.map_cons, List.sum_cons]
      rcases he with rfl | he
      · omega
      · have := ih e he; omega
  have := h2 g.l _ h1
  omega

theorem hasL_cong {g m : LM} (hb : m.base = g.base) (hl : m.l.length = g.l.length) (i : Int) : hasL m i = hasL g i := by simp only [hasL, hb, hl]
theorem hasL_iff (g : LM) (i : Int) : hasL g i = true ↔ g.base ≤ i ∧ i - g.base ≤ (g.l.length : Int) := by
  simp only [hasL, Bool.and_eq_true, decide_eq_true_eq]
/-- how far what stands reaches -/
theorem first_reach {h : LM} {prev : Int} {l : List Ent} (hb : h.base ≤ prev) (hh : hasL h prev = true) : (prev - h.base).toNat + firstD h prev l ≤ h.l.length := by
  rw [hasL_iff] at hh
  by_cases h0 : firstD h prev l = 0
  · omega
  · have h1 := firstD_before (g := h) (prev := prev) (l := l) (j := firstD h prev l - 1) (by omega)
    rw [same, Bool.and_eq_true, hasL_iff] at h1
    have := h1.1.2
    omega
theorem mrg_in {h m : LM} {prev term : Int} {l : List Ent} (h0 : 0 ≤ h.base) (hb : h.base ≤ prev) (hh : hasL h prev = true) (ht : termV h prev = term) (hm : m.base = h.base) (hml : m.l = (mrgB h prev term l).l) {k : Nat} (hk : k < l.length) :
    hasL m (prev + 1 + (k : Int)) = true ∧ termV m (prev + 1 + (k : Int)) = (l.getD k E0).1 := by
  have hreach := first_reach (l := l) hb hh
  have hfl := firstD_le h prev l
  have hh2 := (hasL_iff h prev).1 hh
  rw [mrgB, if_neg (by simp [hh, ht])] at hml
  have key : ∀ e : Ent, (prev - h.base).toNat + k < m.l.length → m.l.getD ((prev - h.base).toNat + k) E0 = e → hasL m (prev + 1 + (k : Int)) = true ∧ termV m (prev + 1 + (k : Int)) = e.1 := fun e h1 h2 => by
    have h3 : hasL m (prev + 1 + (k : Int)) = true := by rw [hasL_iff, hm]; omega
    refine ⟨h3, ?_⟩
    rw [termV, if_pos h3, if_neg (by omega), ← h2, hm]
    congr 2; omega
  have old : k < firstD h prev l → (prev - h.base).toNat + k < h.l.length ∧ (h.l.getD ((prev - h.base).toNat + k) E0).1 = (l.getD k E0).1 := fun h1 => by
    have h2 := firstD_before h1
    rw [same, Bool.and_eq_true, decide_eq_true_eq] at h2
    refine ⟨by omega, ?_⟩
    rw [← h2.2, termV, if_pos h2.1, if_neg (by omega)]
    congr 2; omega
  by_cases hf : firstD h prev l = l.length
  · rw [if_pos hf] at hml
    have h1 := old (by omega)
    rw [← h1.2]
    exact key _ (by rw [hml]; exact h1.1) (by rw [hml])
  · rw [if_neg hf] at hml
    have htl : (h.l.take ((prev - h.base).toNat + firstD h prev l)).length = (prev - h.base).toNat + firstD h prev l := by rw [List.length_take]; omega
    by_cases hkf : k < firstD h prev l
    · have h1 := old hkf
      rw [← h1.2]
      refine key _ (by rw [hml]; simp only [List.length_append, htl, List.length_drop]; omega) ?_
      rw [hml, List.getD_eq_getElem?_getD, List.getElem?_append_left (by rw [htl]; omega), List.getElem?_take_of_lt (by omega), ← List.getD_eq_getElem?_getD]
    · refine key _ (by rw [hml]; simp only [List.length_append, htl, List.length_drop]; omega) ?_
      rw [hml, List.getD_eq_getElem?_getD, List.getElem?_append_right (by rw [htl]; omega), htl, List.getElem?_drop, ← List.getD_eq_getElem?_getD]
      congr 1; omega
theorem mrg_at {h : LM} {prev term : Int} {l : List Ent} (h0 : 0 ≤ h.base) (hb : h.base ≤ prev) (hh : hasL h prev = true) (ht : termV h prev = term) : (mrgB h prev term l).ok = true ∧ ((mrgB h prev term l).at_ = 0 ∨ (prev < (mrgB h prev term l).at_ ∧ (mrgB h prev term l).at_ ≤ prev + (l.length : Int) ∧ h.base + ((mrgB h prev term l).l.length : Int) = prev + (l.length : Int))) := by
  have hreach := first_reach (l := l) hb hh
  have hfl := firstD_le h prev l
  have hh2 := (hasL_iff h prev).1 hh
  rw [mrgB, if_neg (by simp [hh, ht])]
  by_cases hf : firstD h prev l = l.length
  · rw [if_pos hf]; exact ⟨rfl, .inl rfl⟩
  · rw [if_neg hf]
    refine ⟨rfl, .inr ⟨by simp only; omega, by simp only; omega, ?_⟩⟩
    simp only [List.length_append, List.length_take, List.length_drop]
    omega
theorem mrg_ahead {h m : LM} {prev term : Int} {l : List Ent} (h0 : 0 ≤ h.base) (hb : h.base ≤ prev) (hh : hasL h prev = true) (ht : termV h prev = term) (hm : m.base = h.base) (hml : m.l = (mrgB h prev term l).l) : sliceL m (m.base + 1) (prev - m.base) = sliceL h (h.base + 1) (prev - h.base) := by
  have hreach := first_reach (l := l) hb hh
  have hfl := firstD_le h prev l
  have hh2 := (hasL_iff h prev).1 hh
  rw [mrgB, if_neg (by simp [hh, ht])] at hml
  have e1 : ∀ x : LM, (x.base + 1 - x.base - 1).toNat = 0 := fun x => by omega
  by_cases hf : firstD h prev l = l.length
  · rw [if_pos hf] at hml
    simp only [sliceL, e1, hml, hm]
  · rw [if_neg hf] at hml
    simp only [sliceL, e1, List.drop_zero]
    rw [hm]
    by_cases hp : prev = h.base
    · rw [if_neg (by omega), if_neg (by omega)]
    · have hml2 : (m.l.length : Int) = ((prev - h.base).toNat + firstD h prev l : Nat) + ((l.length - firstD h prev l : Nat) : Int) := by
        rw [hml]; simp only [List.length_append, List.length_take, List.length_drop]; omega
      rw [if_pos (by omega), if_pos (by omega), hml, List.take_append_of_le_length (by rw [List.length_take]; omega), List.take_take, Nat.min_eq_left (by omega)]

def kindOk (e : Ent) : Prop := 1 ≤ e.2.1 ∧ e.2.1 ≤ 3
theorem okE_kind {l : List Ent} {bt : Int} {i : Nat} (h : okE l bt i = true) : kindOk (l.getD i E0) := by
  simp only [okE, Bool.and_eq_true, decide_eq_true_eq] at h
  exact h.1
theorem right_kinds {g : LM} (h : rightG g = true) : ∀ e ∈ g.l, kindOk e := fun e he => by
  obtain ⟨i, hi, rfl⟩ := List.getElem_of_mem he
  have := okE_kind ((rightG_spec h).2 i hi)
  simpa [hi] using this
theorem slice_mem {g : LM} {a b : Int} {e : Ent} (h : e ∈ sliceL g a b) : e ∈ g.l := by
  unfold sliceL at h
  split at h
  · exact List.mem_of_mem_drop (List.mem_of_mem_take h)
  · cases h
theorem mrg_mem {h : LM} {prev term : Int} {l : List Ent} {e : Ent} (he : e ∈ (mrgB h prev term l).l) : e ∈ h.l ∨ e ∈ l := by
  unfold mrgB at he
  split at he
  · exact .inl he
  · split at he
    · exact .inl he
    · simp only [List.mem_append] at he
      rcases he with he | he
      · exact .inl (List.mem_of_mem_take he)
      · exact .inr (List.mem_of_mem_drop he)
theorem sorted_right {h m : LM} (hr : rightG h = true) (hb : m.base = h.base) (hc : m.conf = h.conf) (hk : ∀ e ∈ m.l, kindOk e) (hs : sortedL m = true) : rightG m = true := by
  simp only [sortedL, Bool.and_eq_true, List.all_eq_true, List.mem_range, Bool.or_eq_true, decide_eq_true_eq] at hs
  obtain ⟨h1, h2, h3⟩ := hs
  have hh := (rightG_spec hr).1
  rw [rightG_end (fun i hi => ?_)]
  · simp only [headOk, Bool.and_eq_true, decide_eq_true_eq] at hh ⊢
    rw [hb, hc]
    exact ⟨hh.1, h2⟩
  · have h4 : m.l.getD i E0 ∈ m.l := by rw [List.getD_eq_getElem?_getD, List.getElem?_eq_getElem hi]; exact List.getElem_mem hi
    have h5 := hk _ h4
    simp only [okE, Bool.and_eq_true, decide_eq_true_eq]
    refine ⟨h5, ?_⟩
    by_cases hi0 : i = 0
    · subst hi0
      rcases h3 with h3 | h3
      · omega
      · simpa using h3
    · have h6 := h1 (i - 1) (by omega)
      simp only [riseB, decide_eq_true_eq] at h6
      rw [if_neg hi0]
      rw [show i - 1 + 1 = i by omega] at h6
      exact h6

theorem mrg_len (g : LM) (prev term : Int) (l : List Ent) : (mrgL g prev term l).l.length ≤ g.l.length + l.length := by
  have hB : ∀ p t m, (mrgB g p t m).l.length ≤ g.l.length + m.length := fun p t m => by
    unfold mrgB
    split
    · simp only; omega
    · split
      · simp only; omega
      · simp only [List.length_append, List.length_take, List.length_drop]; omega
  unfold mrgL
  split
  · have := hB g.base g.bt (l.drop (g.base - prev).toNat)
    rw [List.length_drop] at this; omega
  · exact hB prev term l
/-! ### another base -/
structure Cut (g c : LM) (b : Int) : Prop where
  base : c.base = b
  bt : c.bt = termV g b
  conf : c.conf = (confAt g b).1
  l : c.l = g.l.drop (b - g.base).toNat
theorem cut_has {g c : LM} {b i : Int} (hc : Cut g c b) (hh : hasL g b = true) (hi : b ≤ i) : hasL c i = hasL g i := by
  rw [hasL_iff] at hh
  rw [Bool.eq_iff_iff, hasL_iff, hasL_iff, hc.base, hc.l, List.length_drop]
  omega
theorem cut_term {g c : LM} {b i : Int} (hc : Cut g c b) (hh : hasL g b = true) (hi : b ≤ i) : termV c i = termV g i := by
  have h1 := cut_has hc hh hi
  have h2 := (hasL_iff g b).1 hh
  rw [termV, h1]
  by_cases h3 : hasL g i = true
  · rw [if_pos h3, hc.base, hc.bt]
    by_cases h4 : i = b
    · rw [if_pos h4, h4]
    · have h5 := (hasL_iff g i).1 h3
      rw [if_neg h4, termV, if_pos h3, if_neg (by omega), hc.l, List.getD_eq_getElem?_getD, List.getElem?_drop, ← List.getD_eq_getElem?_getD]
      congr 2; omega
  · rw [if_neg h3, termV, if_neg h3]
theorem cut_last {g c : LM} {b : Int} (hc : Cut g c b) (hh : hasL g b = true) (h0 : 0 ≤ g.base) : lastI c = lastI g ∧ lastT c = lastT g := by
  have h2 := (hasL_iff g b).1 hh
  have h1 : lastI c = lastI g := by
    rw [lastI, lastI, hc.base, hc.l, List.length_drop]; omega
  refine ⟨h1, ?_⟩
  have h3 := (last_term c (by rw [hc.base]; omega)).1
  have h4 := (last_term g h0).1
  rw [← h3, ← h4, h1]
  exact cut_term hc hh (by rw [lastI]; omega)
theorem confN_cut {g c : LM} {b : Int} (hc : Cut g c b) (hh : hasL g b = true) : ∀ n, (confN c n).1 = (confN g ((b - g.base).toNat + n)).1
  | 0 => by
    have h2 := (hasL_iff g b).1 hh
    rw [confN, hc.conf, confAt, Nat.min_eq_right (by omega)]; rfl
  | n + 1 => by
    have e : c.l.getD n E0 = g.l.getD ((b - g.base).toNat + n) E0 := by
      rw [hc.l, List.getD_eq_getElem?_getD, List.getElem?_drop, ← List.getD_eq_getElem?_getD]
    rw [← Nat.add_assoc, confN, confN, e]
    split
    · rfl
    · exact confN_cut hc hh n
theorem cut_conf {g c : LM} {b i : Int} (hc : Cut g c b) (hh : hasL g b = true) (hi : b ≤ i) : (confAt c i).1 = (confAt g i).1 := by
  have h2 := (hasL_iff g b).1 hh
  rw [confAt, confN_cut hc hh, confAt, hc.base]
  congr 2
  rw [hc.l, List.length_drop]
  omega
theorem cut_slice {g c : LM} {b f : Int} (hc : Cut g c b) (hh : hasL g b = true) (h0 : 0 ≤ g.base) (hf : b < f ∨ f = 0) (m : Int) : sliceL c f m = sliceL g f m := by
  have h2 := (hasL_iff g b).1 hh
  rcases hf with hf | rfl
  · rw [sliceL, sliceL, hc.base, hc.l, List.length_drop, List.drop_drop]
    by_cases h3 : g.base < f ∧ f - g.base ≤ (g.l.length : Int) ∧ 1 ≤ m
    · rw [if_pos (by omega), if_pos h3]
      congr 2; omega
    · rw [if_neg (by omega), if_neg h3]
  · rw [sliceL, sliceL, hc.base, if_neg (by omega), if_neg (by omega)]
theorem conf_right {g : LM} (hr : rightG g = true) : ∀ n, (0 < (confN g n).1.length → rightB (confN g n).1 = true)
  | 0 => fun h => by
    have h1 := (rightG_spec hr).1
    simp only [headOk, Bool.and_eq_true, Bool.not_eq_true', Bool.and_eq_false_iff, decide_eq_true_eq, decide_eq_false_iff_not, Bool.not_eq_false'] at h1
    rcases h1.1.1 with h2 | h2
    · exact absurd h h2
    · exact h2
  | n + 1 => by
    rw [confN]
    split
    · rename_i h1
      intro _
      simp only [isC, Bool.and_eq_true] at h1
      have h2 := ok_of_good (good_of_ok h1.2)
      simp only [readL, if_pos h1.2]
      rw [← h2]; exact h1.2
    · exact conf_right hr n
theorem cut_right {g c : LM} {b : Int} (hc : Cut g c b) (hr : rightG g = true) (hh : hasL g b = true) (hb : b ≤ 4611686018427387904) : rightG c = true := by
  have h2 := (hasL_iff g b).1 hh
  obtain ⟨h3, h4⟩ := rightG_spec hr
  have hcl : c.l.length = g.l.length - (b - g.base).toNat := by rw [hc.l, List.length_drop]
  have hget : ∀ i, c.l.getD i E0 = g.l.getD ((b - g.base).toNat + i) E0 := fun i => by
    rw [hc.l, List.getD_eq_getElem?_getD, List.getElem?_drop, ← List.getD_eq_getElem?_getD]
  rw [rightG_end (fun i hi => ?_)]
  · simp only [headOk, Bool.and_eq_true, decide_eq_true_eq] at h3 ⊢
    refine ⟨⟨?_, by rw [hc.base]; exact hb⟩, by omega⟩
    rw [hc.conf]
    simp only [Bool.not_eq_true', Bool.and_eq_false_iff, decide_eq_false_iff_not, Bool.not_eq_false']
    by_cases h5 : 0 < (confAt g b).1.length
    · exact .inr (conf_right hr _ h5)
    · exact .inl h5
  · have h5 := h4 ((b - g.base).toNat + i) (by omega)
    simp only [okE, Bool.and_eq_true, decide_eq_true_eq] at h5 ⊢
    rw [hget]
    refine ⟨h5.1, ?_⟩
    refine Int.le_trans (Int.le_of_eq ?_) h5.2
    by_cases hi0 : i = 0
    · subst hi0
      rw [if_pos rfl, hc.bt, termV, if_pos hh]
      by_cases h6 : b = g.base
      · rw [if_pos h6, if_pos (by omega)]
      · rw [if_neg h6, if_neg (by omega)]
        congr 2; omega
    · rw [if_neg hi0, if_neg (by omega), hget]
      congr 2; omega
end Go.Proofs.Ytodcghipfolejaa
