/- The disk's laws in plain words. -/
import Derived.Test.YtolgclfbllcjhaaLD13
namespace Go.Proofs.Ytolgclfbllcjhaa
open Go Go.Sl
set_option linter.unusedVariables false
set_option linter.unusedSimpArgs false

/-- with power all the time -/
structure On (cap : Int) (x : DM) : Prop where
  f : x.fused = false
  cap : x.cap = cap
  nm : ∀ g ∈ x.seen, badName g.1 = false
theorem On.off {cap : Int} {x : DM} (h : On cap x) : offD x = false := by rw [offD, h.f, Bool.false_and]
theorem spend_on {x : DM} (h : x.fused = false) : spendD x = x := by rw [spendD, if_neg (by rw [h]; decide)]
theorem on_new (cap : Int) : On cap (newD cap) := ⟨rfl, rfl, fun g hg => by cases hg⟩
theorem turnX_on {x : DM} (h : x.fused = false) (c : Cl) : turnX x c = { x with seen := doneL x.seen c (stepsC c), pend := x.pend ++ [c] } := by
  rw [turnX, spend_on]; exact h
theorem turnD_cases {x : DM} (h : x.fused = false) (c : Cl) : (turnsD x c = false ∧ turnD x c = x) ∨ (turnsD x c = true ∧ turnD x c = { x with seen := doneL x.seen c (stepsC c), pend := x.pend ++ [c] }) := by
  cases e : turnsD x c
  · exact .inl ⟨rfl, by rw [turnD, e]; rfl⟩
  · exact .inr ⟨rfl, by rw [turnD, if_pos e, turnX_on h]⟩
theorem on_turnD {cap : Int} {x : DM} (h : On cap x) (c : Cl) : On cap (turnD x c) := by
  rcases turnD_cases h.f c with ⟨_, e⟩ | ⟨e1, e⟩
  · rw [e]; exact h
  · rw [e]
    refine ⟨h.f, h.cap, fun g hg => ?_⟩
    rcases done_mem hg with hg | hg
    · exact h.nm g hg
    · rw [hg]; exact (turnsD_iff.1 e1).1
theorem sync_on {x : DM} (h : x.fused = false) : syncD x = { x with lasts := x.seen, pend := [] } := by
  rw [syncD, if_neg (by rw [offD, h]; simp), spend_on]; exact h
theorem on_sync {cap : Int} {x : DM} (h : On cap x) : On cap (syncD x) := by rw [sync_on h.f]; exact ⟨h.f, h.cap, h.nm⟩
theorem on_read {cap : Int} {x : DM} (h : On cap x) (n : Bs) : readS x n = (getL x.seen n).getD [] ∧ readE x n = if getL x.seen n = none then 6 else 0 := by
  rw [readS, readE, h.off]; exact ⟨rfl, rfl⟩

/-! ## DiskFull -/
/-! ## DiskSynced -/
theorem done_get {l : List Fl} (hs : Srt l) (c : Cl) (k : Nat) {n : Bs} (h : c.name ≠ n) : getL (doneL l c k) n = getL l n := by
  unfold doneL
  split
  · rfl
  · split
    · rw [get_with _ _ _ _ hs, if_neg (Ne.symm h)]
    · split
      · rw [get_with _ _ _ _ hs, if_neg (Ne.symm h)]
      · rw [get_without _ _ _ hs, if_neg (Ne.symm h)]
theorem replay_get {n : Bs} : ∀ (p : List Cl) {l : List Fl} (k : Nat), Srt l → (∀ c ∈ p, c.name ≠ n) → getL (replay l p k) n = getL l n
  | [], l, k, _, _ => rfl
  | c :: p, l, k, hs, h => by
    rw [replay, replay_get p _ (srt_done hs _ _) (fun d hd => h d (.tail _ hd)), done_get hs _ _ (h c (.head _))]
/-- a crash, of so many steps as there are -/
def lossD (x : DM) (k : Nat) : DM := { x with seen := replay x.lasts x.pend k, lasts := replay x.lasts x.pend k, pend := [], fused := false }
theorem crash_loss {x : DM} {k : Nat} (h : k ≤ countD x) : crashE x (k : Nat) = 0 ∧ crashD x (k : Nat) = lossD x k := by
  have h1 : ¬ (((k : Nat) : Int) < 0 ∨ ((countD x : Nat) : Int) < (k : Nat)) := by omega
  refine ⟨by rw [crashE, if_neg h1], ?_⟩
  rw [crashD, if_neg h1, lossD, Int.toNat_natCast]
/-! ## DiskBegins -/
end Go.Proofs.Ytolgclfbllcjhaa
