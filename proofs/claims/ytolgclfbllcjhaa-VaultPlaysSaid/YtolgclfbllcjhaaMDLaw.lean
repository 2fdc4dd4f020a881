/- The disk's laws in plain words. -/
import Derived.Test.YtolgclfbllcjhaaMD13
namespace Go.Proofs.Ytolgclfbllcjhaa
open Go Go.Sl
set_option linter.unusedVariables false
set_option linter.unusedSimpArgs false

/-- with power all the time -/
structure On (cap : Int) (x : DM) : Prop where
  f : x.fused = false
  cap : x.cap = cap
  nm : ∀ g ∈ x.seen, badName g.1 = false
theorem On.off {cap : Int} {x : DM} (h : On cap x) : offD x = false := by rw [offD, h.f, Bool.false_and]
theorem spend_on {x : DM} (h : x.fused = false) : spendD x = x := by rw [spendD, if_neg (by rw [h]; decide)]
theorem on_new (cap : Int) : On cap (newD cap) := ⟨rfl, rfl, fun g hg => by cases hg⟩
theorem turnX_on {x : DM} (h : x.fused = false) (c : Cl) : turnX x c = { x with seen := doneL x.seen c (stepsC c), pend := x.pend ++ [c] } := by
  rw [turnX, spend_on]; exact h
theorem turnD_cases {x : DM} (h : x.fused = false) (c : Cl) : (turnsD x c = false ∧ turnD x c = x) ∨ (turnsD x c = true ∧ turnD x c = { x with seen := doneL x.seen c (stepsC c), pend := x.pend ++ [c] }) := by
  cases e : turnsD x c
  · exact .inl ⟨rfl, by rw [turnD, e]; rfl⟩
  · exact .inr ⟨rfl, by rw [turnD, if_pos e, turnX_on h]⟩
theorem on_turnD {cap : Int} {x : DM} (h : On cap x) (c : Cl) : On cap (turnD x c) := by
  rcases turnD_cases h.f c with ⟨_, e⟩ | ⟨e1, e⟩
  · rw [e]; exact h
  · rw [e]
    refine ⟨h.f, h.cap, fun g hg => ?_⟩
    rcases done_mem hg with hg | hg
    · exact h.nm g hg
    · rw [hg]; exact (turnsD_iff.1 e1).1
theorem sync_on {x : DM} (h : x.fused = false) : syncD x = { x with lasts := x.seen, pend := [] } := by
  rw [syncD, if_neg (by rw [offD, h]; simp), spend_on]; exact h
theorem on_sync {cap : Int} {x : DM} (h : On cap x) : On cap (syncD x) := by rw [sync_on h.f]; exact ⟨h.f, h.cap, h.nm⟩
theorem on_read {cap : Int} {x : DM} (h : On cap x) (n : Bs) : readS x n = (getL x.seen n).getD [] ∧ readE x n = if getL x.seen n = none then 6 else 0 := by
  rw [readS, readE, h.off]; exact ⟨rfl, rfl⟩

/-! ## DiskFull -/
/-! ## DiskSynced -/
/-! ## DiskBegins -/
end Go.Proofs.Ytolgclfbllcjhaa
