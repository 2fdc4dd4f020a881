/- The vault's laws in plain words: dropping, and what stays behind a crash. -/
import Derived.Test.YtolgclfbllcjhaaLV8
namespace Go.Proofs.Ytolgclfbllcjhaa.Vt
open Go Go.Sl
set_option linter.unusedVariables false
set_option linter.unusedSimpArgs false

theorem hexs_inj2 {a b : Bs} (h : Dg.hexs a = Dg.hexs b) : a = b := by
  have h1 := Dg.unhex_yes (s := Dg.hexs b) (b := a) h
  have h2 := Dg.unhex_yes (s := Dg.hexs b) (b := b) rfl
  rw [h1] at h2
  injection h2
theorem nmB_inj {a b : Bs} (h : nmB a = nmB b) : a = b := hexs_inj2 (by injection h)
theorem sum_some {n s : Bs} (h : sumN n = some s) : n = nmB s ∧ s.length = 32 := by
  unfold sumN at h
  split at h
  · cases h
  · rename_i h0
    have hl : n.length = 65 := Classical.not_not.1 fun h1 => h0 (.inl h1)
    have hc : n.getD 0 0 = 98 := Classical.not_not.1 fun h1 => h0 (.inr h1)
    split at h
    · rename_i h1
      injection h with h
      have h2 : Dg.hexs s = n.drop 1 := by
        unfold Dg.unhex at h h1
        split at h1
        · rename_i h3
          rw [if_pos h3] at h
          rw [← h]; exact h3
        · simp at h1
      cases n with
      | nil => simp at hl
      | cons c r =>
        simp at hc h2
        refine ⟨by rw [nmB, h2, hc], ?_⟩
        have h4 := Dg.hexs_length s
        rw [h2] at h4
        simp at hl
        omega
    · cases h
theorem all_mem {l : List Fl} {s : Bs} : s ∈ allL l ↔ ∃ f ∈ l, sumN f.1 = some s := by rw [allL, List.mem_filterMap]
theorem all_get {l : List Fl} {s : Bs} (h : s ∈ allL l) : getL l (nmB s) ≠ none ∧ s.length = 32 := by
  obtain ⟨f, hf, e⟩ := all_mem.1 h
  obtain ⟨e1, e2⟩ := sum_some e
  exact ⟨fun hn => (get_none hn).2 f hf e1, e2⟩
theorem dC_k (s : Bs) : (dC s).kind = 1 ∨ (dC s).kind = 2 ∨ ((dC s).kind = 3 ∧ (dC s).s = []) := .inr (.inr ⟨rfl, rfl⟩)
theorem clash_eq {l : List Bs} (h : ¬ Clash l) {a b : Bs} (ha : a ∈ l) (hb : b ∈ l) (e : Dg.sha a = Dg.sha b) : a = b := by
  apply Classical.byContradiction
  intro hn
  obtain ⟨i, hi, rfl⟩ := List.getElem_of_mem ha
  obtain ⟨k, hk, rfl⟩ := List.getElem_of_mem hb
  have g : ∀ j (hj : j < l.length), l.getD j [] = l[j] := fun j hj => by simp [hj]
  rcases Nat.lt_trichotomy i k with h1 | h1 | h1
  · exact h ⟨k, hk, i, h1, by rw [g i hi, g k hk]; exact Ne.symm hn, by rw [g i hi, g k hk]; exact e.symm⟩
  · subst h1; exact hn rfl
  · exact h ⟨i, hi, k, h1, by rw [g i hi, g k hk]; exact hn, by rw [g i hi, g k hk]; exact e⟩
theorem bN_eq {l : List Bs} (h : ¬ Clash l) {a b : Bs} (ha : a ∈ l) (hb : b ∈ l) (e : bN a = bN b) : a = b := clash_eq h ha hb (nmB_inj e)
/-! ## VaultKeeps -/
def sumL (l : List Bs) : Nat := (l.map List.length).sum
/-! ## VaultKept -/
structure KI2 (kept : List Bs) (x : DM) : Prop where
  seen : ∀ b ∈ kept, getL x.seen (bN b) = some b
  lasts : ∀ b ∈ kept, getL x.lasts (bN b) = some b
  pend : ∀ b ∈ kept, ∀ c ∈ x.pend, c.name ≠ bN b
theorem ki_spend {kept : List Bs} {x : DM} (h : KI2 kept x) : KI2 kept (spendD x) := by
  obtain ⟨e1, e2, e3, _⟩ := spend_seen x
  exact ⟨by rw [e1]; exact h.seen, by rw [e2]; exact h.lasts, by rw [e3]; exact h.pend⟩
theorem ki_turn {kept : List Bs} {x : DM} {c : Cl} (h : KI2 kept x) (hI : Inv x) (hc : ∀ b ∈ kept, c.name ≠ bN b) : KI2 kept (turnD x c) := by
  unfold turnD
  split
  · unfold turnX
    refine ki_spend ⟨fun b hb => ?_, h.lasts, fun b hb d hd => ?_⟩
    · show getL (doneL x.seen c (stepsC c)) (bN b) = _
      rw [done_get hI.seen c _ (hc b hb)]; exact h.seen b hb
    · rcases List.mem_append.1 hd with hd | hd
      · exact h.pend b hb d hd
      · rw [List.mem_singleton.1 hd]; exact hc b hb
  · exact h
theorem ki_sync {kept : List Bs} {x : DM} (h : KI2 kept x) : KI2 kept (syncD x) := by
  unfold syncD
  split
  · exact h
  · exact ki_spend ⟨h.seen, h.seen, fun _ _ _ hd => (by cases hd)⟩
theorem ki_put {kept : List Bs} {x : DM} {b : Bs} (h : KI2 kept x) (hI : Inv x) (hj : ∀ a ∈ kept, bN a = bN b → a = b) : KI2 kept (vpD x b) := by
  unfold vpD
  split
  · exact h
  · split
    · exact h
    · rename_i hno
      split
      · rename_i h0
        by_cases hm : b ∈ kept
        · exfalso
          have hoff : offD x = false := by
            cases ho : offD x
            · rfl
            · exfalso
              simp [turnE, ho] at h0
              split at h0 <;> cases h0
          apply hno
          have hg := h.seen b hm
          simp [vpHas, readE, readS, hoff, hg]
        · refine ki_sync (ki_turn h hI (fun a ha e => hm ?_))
          have := hj a ha (show bN a = bN b from e.symm)
          exact this ▸ ha
      · exact h
theorem ki_drop {kept : List Bs} {x : DM} {s : Bs} (h : KI2 kept x) (hI : Inv x) (hs : s ∉ kept.map Dg.sha) : KI2 kept (turnD x (dC s)) :=
  ki_turn h hI fun b hb e => hs (List.mem_map.2 ⟨b, hb, (nmB_inj e).symm⟩)
theorem ki_keep {kept : List Bs} : ∀ (l : List Bs) (x : DM) (n m : Nat), KI2 kept x → Wf x m → KI2 kept (kpG (kept.map Dg.sha) x l n).1
  | [], x, n, m, h, hw => by
    rw [kpG]; split
    · exact h
    · exact ki_sync h
  | s :: r, x, n, m, h, hw => by
    rw [kpG]; split
    · exact ki_keep r x n m h hw
    · rename_i hs
      split
      · exact h
      · exact ki_keep r _ _ _ (ki_drop h hw.inv hs) (wf_turn hw (dC_k s))
theorem get_ok' {x : DM} (ho : offD x = false) {s t : Bs} (hl : s.length = 32) (hg : getL x.seen (nmB s) = some t) (h : Dg.sha t = s) : vgE x s = 0 ∧ vgS x s = t := by
  have h1 : readS x (nmB s) = t := by rw [readS, ho, hg]; rfl
  have h2 : readE x (nmB s) = 0 := by simp [readE, ho, hg]
  have e : vgE x s = 0 := by simp [vgE, hl, h1, h2, h]
  exact ⟨e, by rw [vgS, e, if_pos rfl, h1]⟩
theorem ki_loss {kept : List Bs} {x : DM} {k : Nat} (h : KI2 kept x) (hI : Inv x) {b : Bs} (hb : b ∈ kept) : vgE (lossD x k) (Dg.sha b) = 0 ∧ vgS (lossD x k) (Dg.sha b) = b := by
  refine get_ok' rfl (Dg.sha_length b) ?_ rfl
  show getL (replay x.lasts x.pend k) (bN b) = some b
  rw [replay_get _ _ hI.lasts (h.pend b hb)]; exact h.lasts b hb
/-- the first part: with power, each one synced -/
structure KA1 (cap : Int) (kept : List Bs) (x : DM) : Prop where
  on : On cap x
  ls : x.lasts = x.seen
  pd : x.pend = []
  has : ∀ b ∈ kept, getL x.seen (bN b) = some b
  used : usedL x.seen ≤ sumL kept
theorem ka_ki {cap : Int} {kept : List Bs} {x : DM} (h : KA1 cap kept x) (n : Int) : KI2 kept (fuseD x n) :=
  ⟨h.has, by show ∀ b ∈ kept, getL x.lasts (bN b) = some b; rw [h.ls]; exact h.has, fun b hb c hc => (by rw [show (fuseD x n).pend = x.pend from rfl, h.pd] at hc; cases hc)⟩
theorem ka_put {cap : Int} {kept : List Bs} {x : DM} {b : Bs} (h : KA1 cap kept x) (hI : Inv x) (hb : b.length ≤ 4096) (hc : (sumL kept + b.length : Nat) ≤ cap) (hj : ∀ a ∈ kept, bN a = bN b → a = b) :
    vpE x b = 0 ∧ vpS x b = Dg.sha b ∧ KA1 cap (kept ++ [b]) (vpD x b) := by
  have hu := used_with x.seen (bN b) b
  have hu2 := used_without hI.seen (bN b)
  have hle := h.used
  obtain ⟨p1, p2, p3, p4, p5⟩ := put_ok h.on hI hb (by omega)
  have hsum : sumL (kept ++ [b]) = sumL kept + b.length := by simp [sumL]
  have hls : (vpD x b).lasts = (vpD x b).seen ∧ (vpD x b).pend = [] := by
    unfold vpD
    split
    · exact ⟨h.ls, h.pd⟩
    · split
      · exact ⟨h.ls, h.pd⟩
      · split
        · rw [sync_on (on_turnD h.on _).f]; exact ⟨rfl, rfl⟩
        · exact ⟨h.ls, h.pd⟩
  refine ⟨p1, p2, p3, hls.1, hls.2, fun a ha => ?_, ?_⟩
  · rcases List.mem_append.1 ha with ha | ha
    · rcases p5 with e | e
      · rw [e]; exact h.has a ha
      · rw [e, get_with _ _ _ _ hI.seen]
        split
        · rename_i e2; rw [hj a ha e2]
        · exact h.has a ha
    · rw [List.mem_singleton.1 ha]; exact p4
  · rcases p5 with e | e <;> rw [e, hsum] <;> omega
end Go.Proofs.Ytolgclfbllcjhaa.Vt
