/- What a majority has, in plain words. -/
import Derived.Test.YtodcghipfolejaaCQMathB
import Derived.Test.YtodcghipfolejaaCQMathH
namespace Go.Proofs.Ytodcghipfolejaa
open Go Go.Sl
set_option linter.unusedVariables false
set_option linter.unusedSimpArgs false

/-- what was told: a node, an index -/
abbrev At2 := Int × Int
def atV (l : List At2) : List Value := l.flatMap fun p => [.int .i64 p.1, .int .u64 p.2]
theorem atV_length (l : List At2) : (atV l).length = l.length * 2 := by
  induction l with
  | nil => rfl
  | cons p l ih => simp only [atV, List.flatMap_cons, List.length_append, List.length_cons, List.length_nil] at *; omega
theorem atV_get : ∀ (l : List At2) (i : Nat), i < l.length → (atV l)[2 * i]? = some (.int .i64 (l.getD i (0, 0)).1) ∧ (atV l)[2 * i + 1]? = some (.int .u64 (l.getD i (0, 0)).2)
  | p :: l, 0, _ => by simp [atV]
  | p :: l, i + 1, h => by
    have := atV_get l i (by simpa using h)
    have e : atV (p :: l) = [Value.int .i64 p.1, .int .u64 p.2] ++ atV l := rfl
    rw [e, show 2 * (i + 1) = 2 * i + 2 by omega]
    simp only [List.getD_cons_succ]
    exact ⟨by rw [List.getElem?_append_right (by simp)]; simpa using this.1, by rw [List.getElem?_append_right (by simp)]; simpa [show 2 * i + 2 + 1 - 2 = 2 * i + 1 by omega] using this.2⟩
theorem atV_append (a b : List At2) : atV (a ++ b) = atV a ++ atV b := by simp [atV]
def bst (hs : List At2) (m : Int) : Int := hs.foldl (fun b p => if p.1 = m then max b p.2 else b) 0
theorem bst_append (hs : List At2) (p : At2) (m : Int) : bst (hs ++ [p]) m = if p.1 = m then max (bst hs m) p.2 else bst hs m := by simp [bst]
theorem take_succ_at {hs : List At2} {j : Nat} (h : j < hs.length) : hs.take (j + 1) = hs.take j ++ [hs.getD j (0, 0)] := by
  rw [List.take_succ_eq_append_getElem h]; simp [h]
theorem bst_nonneg (hs : List At2) (m : Int) : 0 ≤ bst hs m := by
  have key : ∀ (l : List At2) (b : Int), 0 ≤ b → 0 ≤ l.foldl (fun b p => if p.1 = m then max b p.2 else b) b := by
    intro l
    induction l with
    | nil => intro b hb; exact hb
    | cons p l ih => intro b hb; simp only [List.foldl_cons]; apply ih; split <;> omega
  exact key hs 0 (Int.le_refl _)
theorem bst_ge {hs : List At2} {m i : Int} (hi : 0 < i) : i ≤ bst hs m ↔ ∃ p ∈ hs, p.1 = m ∧ i ≤ p.2 := by
  have key : ∀ (l : List At2) (b : Int), i ≤ l.foldl (fun b p => if p.1 = m then max b p.2 else b) b ↔ i ≤ b ∨ ∃ p ∈ l, p.1 = m ∧ i ≤ p.2 := by
    intro l
    induction l with
    | nil => intro b; simp
    | cons p l ih =>
      intro b
      simp only [List.foldl_cons, List.mem_cons, exists_eq_or_imp]
      rw [ih]
      by_cases h : p.1 = m
      · rw [if_pos h]; simp only [h, true_and]
        constructor
        · rintro (h1 | h1)
          · by_cases h2 : i ≤ b
            · exact .inl h2
            · exact .inr (.inl (by omega))
          · exact .inr (.inr h1)
        · rintro (h1 | h1 | h1)
          · exact .inl (by omega)
          · exact .inl (by omega)
          · exact .inr h1
      · rw [if_neg h]; simp [h]
  have := key hs 0
  rw [bst, this]
  constructor
  · rintro (h | h)
    · omega
    · exact h
  · exact .inr
def cntI (l : List Int) (hs : List At2) (i : Int) : Nat := l.countP fun m => decide (i ≤ bst hs m)
/-- the greatest index that a majority has -/
def ComS (l : List Int) (hs : List At2) (r : Int) : Prop := ∀ i, i ≤ r ↔ l.length / 2 < cntI l hs i
theorem ComS_unique {l : List Int} {hs : List At2} {r r' : Int} (h : ComS l hs r) (h' : ComS l hs r') : r = r' := by
  have h1 := (h r).1 (Int.le_refl _)
  have h2 := (h' r').1 (Int.le_refl _)
  have := (h' r).2 h1
  have := (h r').2 h2
  omega
theorem cnt_mono {l : List Int} {hs : List At2} {i j : Int} (h : i ≤ j) : cntI l hs j ≤ cntI l hs i := by
  unfold cntI
  exact List.countP_mono_left fun m hm hq => by simp only [decide_eq_true_eq] at *; omega
theorem cnt_all {l : List Int} {hs : List At2} {i : Int} (h : i ≤ 0) : cntI l hs i = l.length := by
  unfold cntI
  rw [List.countP_eq_length]
  intro m hm
  have := bst_nonneg hs m
  simp only [decide_eq_true_eq]; omega
def whoL (hs : List At2) (x : Int) : List Int := (hs.filter fun p => decide (x ≤ p.2)).map (·.1)
theorem who_in {hs : List At2} {x m : Int} (hx : 0 < x) : inB (whoL hs x) m = decide (x ≤ bst hs m) := by
  unfold inB
  apply decide_eq_decide.2
  rw [bst_ge hx]
  simp only [whoL, List.mem_map, List.mem_filter, decide_eq_true_eq]
  constructor
  · rintro ⟨p, ⟨h1, h2⟩, h3⟩; exact ⟨p, h1, h3, h2⟩
  · rintro ⟨p, h1, h3, h2⟩; exact ⟨p, ⟨h1, h2⟩, h3⟩
theorem who_cnt {l : List Int} {hs : List At2} {x : Int} (hx : 0 < x) : cntB l (whoL hs x) = cntI l hs x := by
  unfold cntB cntI
  congr 1
  funext m
  exact who_in hx
theorem who_most {l : List Int} {hs : List At2} {x : Int} (hr : rightB l = true) (hx : 0 < x) : mostB l (whoL hs x) = decide (l.length / 2 < cntI l hs x) := by
  rw [mostB, hr, who_cnt hx, Bool.true_and]
  exact decide_eq_decide.2 (by omega)
/-- the least best that is not below i -/
theorem least_best (l : List Int) (hs : List At2) (i : Int) (h : 0 < cntI l hs i) : ∃ y, i ≤ y ∧ (∃ m ∈ l, bst hs m = y) ∧ cntI l hs y = cntI l hs i := by
  have key : ∀ (l : List Int), 0 < cntI l hs i → ∃ y, i ≤ y ∧ (∃ m ∈ l, bst hs m = y) ∧ ∀ m ∈ l, i ≤ bst hs m → y ≤ bst hs m := by
    intro l
    induction l with
    | nil => intro h; simp [cntI] at h
    | cons m l ih =>
      intro h
      by_cases h0 : 0 < cntI l hs i
      · obtain ⟨y, h1, ⟨m', hm', h2⟩, h3⟩ := ih h0
        by_cases h4 : i ≤ bst hs m ∧ bst hs m < y
        · refine ⟨bst hs m, h4.1, ⟨m, by simp, rfl⟩, fun k hk hik => ?_⟩
          rcases List.mem_cons.1 hk with rfl | hk
          · exact Int.le_refl _
          · have := h3 k hk hik; omega
        · refine ⟨y, h1, ⟨m', by simp [hm'], h2⟩, fun k hk hik => ?_⟩
          rcases List.mem_cons.1 hk with rfl | hk
          · omega
          · exact h3 k hk hik
      · have hz : ∀ k ∈ l, ¬ i ≤ bst hs k := by
          have : cntI l hs i = 0 := by omega
          unfold cntI at this
          rw [List.countP_eq_zero] at this
          intro k hk hik
          exact this k hk (by simpa using hik)
        have hm : i ≤ bst hs m := by
          apply Classical.byContradiction
          intro hn
          apply h0
          unfold cntI at h
          rw [List.countP_cons_of_neg (by simpa using hn)] at h
          exact h
        refine ⟨bst hs m, hm, ⟨m, by simp, rfl⟩, fun k hk hik => ?_⟩
        rcases List.mem_cons.1 hk with rfl | hk
        · exact Int.le_refl _
        · exact absurd hik (hz k hk)
  obtain ⟨y, h1, h2, h3⟩ := key l h
  refine ⟨y, h1, h2, Nat.le_antisymm (cnt_mono h1) ?_⟩
  unfold cntI
  refine List.countP_mono_left fun m hm hq => ?_
  simp only [decide_eq_true_eq] at *
  exact h3 m hm hq
end Go.Proofs.Ytodcghipfolejaa
