/- The vault's laws in plain words. -/
import Derived.Test.YtolgclfbllcjhaaLV3
import Derived.Test.YtolgclfbllcjhaaLDLaw
namespace Go.Proofs.Ytolgclfbllcjhaa.Vt
open Go Go.Sl
set_option linter.unusedVariables false
set_option linter.unusedSimpArgs false

theorem bad_bN (b : Bs) : badName (bN b) = false := by
  have h := bN_len b
  simp [badName, h]
/-- putting a body that fits -/
theorem put_ok {cap : Int} {x : DM} (ho : On cap x) (hI : Inv x) {b : Bs} (hb : b.length ≤ 4096) (hf : (usedL (withL x.seen (bN b) b) : Int) ≤ cap) :
    vpE x b = 0 ∧ vpS x b = Dg.sha b ∧ On cap (vpD x b) ∧ getL (vpD x b).seen (bN b) = some b ∧ ((vpD x b).seen = x.seen ∨ (vpD x b).seen = withL x.seen (bN b) b) := by
  have hl : ¬ 4096 < b.length := by omega
  cases hh : vpHas x b
  · have s1 : stepsC (vpC b) = 1 := by simp [stepsC, vpC]
    have d1 : doneL x.seen (vpC b) 1 = withL x.seen (bN b) b := by simp [doneL, vpC]
    have f1 : fullC x (vpC b) = false := by
      rw [fullC, if_pos (show (vpC b).kind = 2 from rfl), d1, ho.cap, decide_eq_false_iff_not]; omega
    have e1 : turnE x (vpC b) = 0 := by
      have hb := bad_bN b
      simp only [turnE, vpC] at f1 ⊢
      simp [hb, ho.off, f1]
    have t1 : (turnD x (vpC b)).seen = withL x.seen (bN b) b := by
      rcases turnD_cases ho.f (vpC b) with ⟨e, _⟩ | ⟨_, e⟩
      · rw [turnsD, e1, decide_eq_false (show ¬ ((vpC b).kind = 1) from (by decide : ¬ ((2 : Int) = 1))), Bool.false_and] at e
        simp at e
      · rw [e, s1, d1]
    have o1 := on_turnD ho (vpC b)
    have se : syncE (turnD x (vpC b)) = 0 := by rw [syncE, if_neg (by rw [o1.off]; decide)]
    have e2 : vpE x b = 0 := by simp [vpE, hl, hh, e1, se]
    have e3 : vpD x b = syncD (turnD x (vpC b)) := by simp [vpD, hl, hh, e1]
    have e4 : (vpD x b).seen = withL x.seen (bN b) b := by rw [e3, sync_on o1.f]; exact t1
    refine ⟨e2, by rw [vpS, e2, if_pos rfl], by rw [e3]; exact on_sync o1, ?_, .inr e4⟩
    rw [e4, get_with _ _ _ _ hI.seen, if_pos rfl]
  · have e2 : vpE x b = 0 := by simp [vpE, hl, hh]
    have e3 : vpD x b = x := by simp [vpD, hl, hh]
    refine ⟨e2, by rw [vpS, e2, if_pos rfl], by rw [e3]; exact ho, ?_, .inl (by rw [e3])⟩
    rw [e3]
    obtain ⟨h1, h2⟩ := on_read ho (bN b)
    rw [vpHas, h1, h2] at hh
    cases hg : getL x.seen (bN b) with
    | none => rw [hg] at hh; simp at hh
    | some t => rw [hg] at hh; simp at hh; rw [hh]
/-- getting what is there -/
theorem get_ok {cap : Int} {x : DM} (ho : On cap x) {s t : Bs} (hl : s.length = 32) (hg : getL x.seen (nmB s) = some t) :
    (Dg.sha t = s → vgE x s = 0 ∧ vgS x s = t) ∧ (Dg.sha t ≠ s → vgE x s = 5 ∧ vgS x s = []) := by
  obtain ⟨h1, h2⟩ := on_read ho (nmB s)
  rw [hg] at h1 h2
  simp only [Option.getD_some] at h1
  have h2 : readE x (nmB s) = 0 := by rw [h2]; simp
  refine ⟨fun h => ?_, fun h => ?_⟩
  · have e : vgE x s = 0 := by simp [vgE, hl, h1, h2, h]
    exact ⟨e, by rw [vgS, e, if_pos rfl, h1]⟩
  · have e : vgE x s = 5 := by simp [vgE, hl, h1, h2, h]
    exact ⟨e, by rw [vgS, e, if_neg (by decide)]⟩
theorem sum_of (s : Bs) (h : s.length = 32) : sumN (nmB s) = some s := by
  have h1 := Dg.hexs_length s
  have hl : (nmB s).length = 65 := by show (98 :: Dg.hexs s).length = 65; rw [List.length_cons, h1, h]
  have hd : (nmB s).drop 1 = Dg.hexs s := rfl
  have hu := Dg.unhex_yes (s := Dg.hexs s) (b := s) rfl
  rw [sumN, if_neg (by rintro (h | h); exact h hl; exact h rfl), hd, hu]; rfl
end Go.Proofs.Ytolgclfbllcjhaa.Vt
