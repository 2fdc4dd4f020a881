/- The vault's laws in plain words: dropping, and what stays behind a crash. -/
import Derived.Test.YtolgclfbllcjhaaMV8
namespace Go.Proofs.Ytolgclfbllcjhaa.Vt
open Go Go.Sl
set_option linter.unusedVariables false
set_option linter.unusedSimpArgs false

theorem sum_some {n s : Bs} (h : sumN n = some s) : n = nmB s ∧ s.length = 32 := by
  unfold sumN at h
  split at h
  · cases h
  · rename_i h0
    have hl : n.length = 65 := Classical.not_not.1 fun h1 => h0 (.inl h1)
    have hc : n.getD 0 0 = 98 := Classical.not_not.1 fun h1 => h0 (.inr h1)
    split at h
    · rename_i h1
      injection h with h
      have h2 : Dg.hexs s = n.drop 1 := by
        unfold Dg.unhex at h h1
        split at h1
        · rename_i h3
          rw [if_pos h3] at h
          rw [← h]; exact h3
        · simp at h1
      cases n with
      | nil => simp at hl
      | cons c r =>
        simp at hc h2
        refine ⟨by rw [nmB, h2, hc], ?_⟩
        have h4 := Dg.hexs_length s
        rw [h2] at h4
        simp at hl
        omega
    · cases h
theorem all_mem {l : List Fl} {s : Bs} : s ∈ allL l ↔ ∃ f ∈ l, sumN f.1 = some s := by rw [allL, List.mem_filterMap]
theorem all_get {l : List Fl} {s : Bs} (h : s ∈ allL l) : getL l (nmB s) ≠ none ∧ s.length = 32 := by
  obtain ⟨f, hf, e⟩ := all_mem.1 h
  obtain ⟨e1, e2⟩ := sum_some e
  exact ⟨fun hn => (get_none hn).2 f hf e1, e2⟩
theorem dC_k (s : Bs) : (dC s).kind = 1 ∨ (dC s).kind = 2 ∨ ((dC s).kind = 3 ∧ (dC s).s = []) := .inr (.inr ⟨rfl, rfl⟩)
/-! ## VaultKeeps -/
/-! ## VaultKept -/
end Go.Proofs.Ytolgclfbllcjhaa.Vt
