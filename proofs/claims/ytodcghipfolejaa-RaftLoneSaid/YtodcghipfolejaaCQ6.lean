/- The walks of has, members, the reference's Commit. -/
import Derived.Test.YtodcghipfolejaaCQ5
import Derived.Test.YtodcghipfolejaaCQ2
namespace Go.Proofs.Ytodcghipfolejaa
open Go Go.Sl
set_option linter.unusedVariables false
set_option linter.unusedSimpArgs false

theorem bst_hit : ∀ (hs : List At2) (m : Int), 0 < bst hs m → ∃ p ∈ hs, p.2 = bst hs m := by
  intro hs m h
  have h1 := (bst_ge (hs := hs) (m := m) h).1 (Int.le_refl _)
  obtain ⟨p, hp, hm, hle⟩ := h1
  have h2 : ¬ bst hs m < p.2 := fun hlt => by
    have := (bst_ge (hs := hs) (m := m) (i := p.2) (by omega)).2 ⟨p, hp, hm, Int.le_refl _⟩
    omega
  exact ⟨p, hp, by omega⟩
structure ComI (l : List Int) (hs : List At2) (k : Nat) (best : Int) : Prop where
  pos : 0 ≤ best
  has : best = 0 ∨ mostB l (whoL hs best) = true
  all : ∀ j, j < k → mostB l (whoL hs (hs.getD j (0, 0)).2) = true → (hs.getD j (0, 0)).2 ≤ best
theorem comI_end {l : List Int} {hs : List At2} {best : Int} (h : ComI l hs hs.length best) : com l hs = best := by
  cases hr : rightB l with
  | false =>
    rw [com_no hr]
    rcases h.has with h1 | h1
    · exact h1.symm
    · simp [mostB, hr] at h1
  | true =>
    have hl := (right_len hr).1
    refine com_eq hr fun i => ?_
    constructor
    · intro hi
      rcases Int.lt_or_le 0 best with hb | hb
      · have h1 : mostB l (whoL hs best) = true := by rcases h.has with h1 | h1; omega; exact h1
        rw [who_most hr hb] at h1
        have := of_decide_eq_true h1
        have := cnt_mono (l := l) (hs := hs) hi
        omega
      · rw [cnt_all (by omega)]; omega
    · intro hc
      rcases Int.lt_or_le 0 i with hi | hi
      · obtain ⟨y, h1, ⟨m, hm, h2⟩, h3⟩ := least_best l hs i (by omega)
        obtain ⟨p, hp, h4⟩ := bst_hit hs m (by omega)
        obtain ⟨j, hj, e⟩ := List.mem_iff_getElem.1 hp
        have e2 : hs.getD j (0, 0) = p := by simp [hj, e]
        have := h.all j hj
        rw [e2, h4, h2, who_most hr (by omega), h3] at this
        have := this (by simpa using hc)
        omega
      · have := h.pos; omega

end Go.Proofs.Ytodcghipfolejaa
