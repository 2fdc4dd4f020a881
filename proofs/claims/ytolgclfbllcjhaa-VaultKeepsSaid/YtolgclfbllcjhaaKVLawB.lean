/- The vault's laws in plain words: dropping, and what stays behind a crash. -/
import Derived.Test.YtolgclfbllcjhaaKV8
namespace Go.Proofs.Ytolgclfbllcjhaa.Vt
open Go Go.Sl
set_option linter.unusedVariables false
set_option linter.unusedSimpArgs false

theorem hexs_inj2 {a b : Bs} (h : Dg.hexs a = Dg.hexs b) : a = b := by
  have h1 := Dg.unhex_yes (s := Dg.hexs b) (b := a) h
  have h2 := Dg.unhex_yes (s := Dg.hexs b) (b := b) rfl
  rw [h1] at h2
  injection h2
theorem nmB_inj {a b : Bs} (h : nmB a = nmB b) : a = b := hexs_inj2 (by injection h)
theorem sum_some {n s : Bs} (h : sumN n = some s) : n = nmB s ∧ s.length = 32 := by
  unfold sumN at h
  split at h
  · cases h
  · rename_i h0
    have hl : n.length = 65 := Classical.not_not.1 fun h1 => h0 (.inl h1)
    have hc : n.getD 0 0 = 98 := Classical.not_not.1 fun h1 => h0 (.inr h1)
    split at h
    · rename_i h1
      injection h with h
      have h2 : Dg.hexs s = n.drop 1 := by
        unfold Dg.unhex at h h1
        split at h1
        · rename_i h3
          rw [if_pos h3] at h
          rw [← h]; exact h3
        · simp at h1
      cases n with
      | nil => simp at hl
      | cons c r =>
        simp at hc h2
        refine ⟨by rw [nmB, h2, hc], ?_⟩
        have h4 := Dg.hexs_length s
        rw [h2] at h4
        simp at hl
        omega
    · cases h
theorem all_mem {l : List Fl} {s : Bs} : s ∈ allL l ↔ ∃ f ∈ l, sumN f.1 = some s := by rw [allL, List.mem_filterMap]
theorem all_get {l : List Fl} {s : Bs} (h : s ∈ allL l) : getL l (nmB s) ≠ none ∧ s.length = 32 := by
  obtain ⟨f, hf, e⟩ := all_mem.1 h
  obtain ⟨e1, e2⟩ := sum_some e
  exact ⟨fun hn => (get_none hn).2 f hf e1, e2⟩
theorem get_all {l : List Fl} (hs : Srt l) {s t : Bs} (hl : s.length = 32) (h : getL l (nmB s) = some t) : s ∈ allL l :=
  all_mem.2 ⟨_, (get_some hs h).1, sum_of s hl⟩
theorem all_without (l : List Fl) {s : Bs} (hl : s.length = 32) : allL (withoutL l (nmB s)) = (allL l).filter fun t => decide (t ≠ s) := by
  induction l with
  | nil => rfl
  | cons f r ih =>
    by_cases hf : f.1 = nmB s
    · have e1 : withoutL (f :: r) (nmB s) = withoutL r (nmB s) := by simp [withoutL, hf]
      have e2 : allL (f :: r) = s :: allL r := by rw [allL, List.filterMap_cons, hf, sum_of s hl]; rfl
      rw [e1, e2, ih, List.filter_cons]; simp
    · have e1 : withoutL (f :: r) (nmB s) = f :: withoutL r (nmB s) := by simp [withoutL, hf]
      rw [e1]
      cases e : sumN f.1 with
      | none =>
        have e2 : ∀ q, allL (f :: q) = allL q := fun q => by rw [allL, List.filterMap_cons, e]; rfl
        rw [e2, e2, ih]
      | some t =>
        have e2 : ∀ q, allL (f :: q) = t :: allL q := fun q => by rw [allL, List.filterMap_cons, e]; rfl
        have hts : t ≠ s := fun h => hf (by rw [(sum_some e).1, h])
        rw [e2, e2, ih, List.filter_cons]; simp [hts]
theorem all_nodup {l : List Fl} (hs : Srt l) : (allL l).Nodup := by
  rw [allL, List.Nodup, List.pairwise_filterMap]
  refine List.Pairwise.imp ?_ hs
  intro a b hab s hs1 t hs2 e
  subst e
  have := ltB_ne hab
  exact this ((sum_some hs1).1.trans (sum_some hs2).1.symm)
theorem bad_dC {s : Bs} (h : s.length = 32) : badName (nmB s) = false := by
  have := Dg.hexs_length s
  have hl : (nmB s).length = 65 := by show (98 :: Dg.hexs s).length = 65; rw [List.length_cons, this, h]
  simp [badName, hl]
/-- dropping what is there -/
theorem drop_ok {cap : Int} {x : DM} (ho : On cap x) (hI : Inv x) {s : Bs} (h : s ∈ allL x.seen) :
    turnE x (dC s) = 0 ∧ turnD x (dC s) = { x with seen := withoutL x.seen (nmB s), pend := x.pend ++ [dC s] } := by
  obtain ⟨h1, h2⟩ := all_get h
  have hb := bad_dC h2
  have hst : stepsC (dC s) = 1 := rfl
  have hd : doneL x.seen (dC s) 1 = withoutL x.seen (nmB s) := rfl
  have hu := used_without hI.seen (nmB s)
  have hf : fullC x (dC s) = false := by
    rw [fullC, if_neg (show ¬ (dC s).kind = 2 from (by decide : ¬ (3 : Int) = 2)), hst, hd, decide_eq_false_iff_not]
    have := hI.used
    omega
  have ht : turnsD x (dC s) = true := turnsD_iff.2 ⟨hb, ho.off, fun hh => h1 hh.2, fun hh => absurd (show (3 : Int) = 1 from hh.1) (by decide), hf⟩
  have he : turnE x (dC s) = 0 := by
    have := (Bool.and_eq_true_iff.1 ht).1
    exact of_decide_eq_true this
  refine ⟨he, ?_⟩
  rw [turnD, if_pos ht, turnX_on ho.f, hst, hd]
theorem dC_k (s : Bs) : (dC s).kind = 1 ∨ (dC s).kind = 2 ∨ ((dC s).kind = 3 ∧ (dC s).s = []) := .inr (.inr ⟨rfl, rfl⟩)
def gone (ds l : List Bs) : List Bs := l.filter fun s => decide (s ∉ ds)
theorem keep_main {cap : Int} (ds : List Bs) : ∀ (l : List Bs) (x : DM) (n m : Nat), On cap x → Wf x m → (∀ s ∈ l, s ∈ allL x.seen) → l.Nodup →
    ∃ X, kpG ds x l n = (X, n + (gone ds l).length, 0) ∧ On cap X ∧ Wf X (m + l.length) ∧ (∀ nm, (∀ s ∈ gone ds l, nm ≠ nmB s) → getL X.seen nm = getL x.seen nm) ∧ allL X.seen = (allL x.seen).filter (fun s => decide (s ∉ gone ds l))
  | [], x, n, m, ho, hw, _, _ => by
    have hg : gone ds [] = [] := rfl
    rw [hg]
    have hf : (allL x.seen).filter (fun s => decide (s ∉ ([] : List Bs))) = allL x.seen := List.filter_eq_self.2 (fun s _ => by simp)
    rw [hf]
    by_cases h0 : n = 0
    · exact ⟨x, by simp [kpG, h0], ho, hw, fun _ _ => rfl, rfl⟩
    · have he : syncE x = 0 := by rw [syncE, if_neg (by rw [ho.off]; decide)]
      refine ⟨syncD x, by simp [kpG, h0, he], on_sync ho, wf_sync hw, fun nm _ => by rw [sync_on ho.f], by rw [sync_on ho.f]⟩
  | s :: r, x, n, m, ho, hw, hm, hn => by
    obtain ⟨hn1, hn2⟩ := List.nodup_cons.1 hn
    by_cases hs : s ∈ ds
    · have hg : gone ds (s :: r) = gone ds r := by simp [gone, List.filter_cons, hs]
      obtain ⟨X, h1, h2, h3, h4⟩ := keep_main ds r x n m ho hw (fun t ht => hm t (.tail _ ht)) hn2
      rw [hg]
      exact ⟨X, by rw [kpG, if_pos hs]; exact h1, h2, h3.mono (by rw [List.length_cons]; omega), h4⟩
    · have hg : gone ds (s :: r) = s :: gone ds r := by simp [gone, List.filter_cons, hs]
      obtain ⟨d1, d2⟩ := drop_ok ho hw.inv (hm s (.head _))
      have hl := (all_get (hm s (.head _))).2
      have ho1 := on_turnD ho (dC s)
      have hw1 := wf_turn hw (dC_k s)
      have hs1 : (turnD x (dC s)).seen = withoutL x.seen (nmB s) := by rw [d2]
      obtain ⟨X, h1, h2, h3, h4, h5⟩ := keep_main ds r (turnD x (dC s)) (n + 1) (m + 1) ho1 hw1 (fun t ht => by
        rw [hs1, all_without _ hl]
        exact List.mem_filter.2 ⟨hm t (.tail _ ht), decide_eq_true fun h => hn1 (h ▸ ht)⟩) hn2
      rw [hg]
      refine ⟨X, ?_, h2, h3.mono (by rw [List.length_cons]; omega), fun nm hnm => ?_, ?_⟩
      · rw [kpG, if_neg hs, if_neg (by rw [d1]; decide), h1, List.length_cons]
        congr 2; omega
      · rw [h4 nm (fun t ht => hnm t (.tail _ ht)), hs1, get_without _ _ _ hw.inv.seen, if_neg (hnm s (.head _))]
      · rw [h5, hs1, all_without _ hl, List.filter_filter]
        refine List.filter_congr fun t _ => ?_
        rw [← Bool.decide_and]
        exact decide_eq_decide.2 (by simp only [List.mem_cons, not_or]; exact and_comm)
/-- what Keep tells of a disk with power -/
theorem keep_ok {cap : Int} {x : DM} {m : Nat} (ds : List Bs) (ho : On cap x) (hw : Wf x m) :
    ∃ X n, kpG ds x (allL x.seen) 0 = (X, n, 0) ∧ On cap X ∧ Wf X (m + (allL x.seen).length) ∧ (∀ nm, (∀ s, s ∉ ds → nm ≠ nmB s) → getL X.seen nm = getL x.seen nm) ∧ (∀ s, s ∈ allL x.seen → s ∉ ds → getL X.seen (nmB s) = none) ∧ (allL X.seen).length + n = (allL x.seen).length := by
  obtain ⟨X, h1, h2, h3, h4, h5⟩ := keep_main ds (allL x.seen) x 0 m ho hw (fun _ h => h) (all_nodup hw.inv.seen)
  refine ⟨X, (gone ds (allL x.seen)).length, by rw [h1]; simp, h2, h3, fun nm hnm => h4 nm (fun s hs => hnm s (by have := (List.mem_filter.1 hs).2; simpa using this)), fun s hs hd => ?_, ?_⟩
  · cases e : getL X.seen (nmB s) with
    | none => rfl
    | some t =>
      have h6 := get_all h3.inv.seen (all_get hs).2 e
      rw [h5] at h6
      have h7 := (List.mem_filter.1 h6).2
      have h8 : s ∈ gone ds (allL x.seen) := List.mem_filter.2 ⟨hs, decide_eq_true hd⟩
      exact absurd h8 (of_decide_eq_true h7)
  · have h6 : allL X.seen = (allL x.seen).filter (fun s => !decide (s ∉ ds)) := by
      rw [h5]
      refine List.filter_congr fun t ht => ?_
      rw [← decide_not]
      exact decide_eq_decide.2 ⟨fun h h9 => h (List.mem_filter.2 ⟨ht, decide_eq_true h9⟩), fun h h9 => h (by have := (List.mem_filter.1 h9).2; simpa using this)⟩
    rw [h6, gone, ← List.countP_eq_length_filter, ← List.countP_eq_length_filter]
    have := List.length_eq_countP_add_countP (fun s => decide (s ∉ ds)) (l := allL x.seen)
    have e9 : List.countP (fun s => !decide (s ∉ ds)) (allL x.seen) = List.countP (fun a => decide ¬(fun s => decide (s ∉ ds)) a = true) (allL x.seen) := List.countP_congr fun s _ => by simp
    rw [e9]
    simp only at this ⊢
    omega
theorem clash_eq {l : List Bs} (h : ¬ Clash l) {a b : Bs} (ha : a ∈ l) (hb : b ∈ l) (e : Dg.sha a = Dg.sha b) : a = b := by
  apply Classical.byContradiction
  intro hn
  obtain ⟨i, hi, rfl⟩ := List.getElem_of_mem ha
  obtain ⟨k, hk, rfl⟩ := List.getElem_of_mem hb
  have g : ∀ j (hj : j < l.length), l.getD j [] = l[j] := fun j hj => by simp [hj]
  rcases Nat.lt_trichotomy i k with h1 | h1 | h1
  · exact h ⟨k, hk, i, h1, by rw [g i hi, g k hk]; exact Ne.symm hn, by rw [g i hi, g k hk]; exact e.symm⟩
  · subst h1; exact hn rfl
  · exact h ⟨i, hi, k, h1, by rw [g i hi, g k hk]; exact hn, by rw [g i hi, g k hk]; exact e⟩
theorem bN_eq {l : List Bs} (h : ¬ Clash l) {a b : Bs} (ha : a ∈ l) (hb : b ∈ l) (e : bN a = bN b) : a = b := clash_eq h ha hb (nmB_inj e)
/-! ## VaultKeeps -/
abbrev logN : Bs := [108, 111, 103]
def sumL (l : List Bs) : Nat := (l.map List.length).sum
theorem log_ne (s : Bs) : logN ≠ nmB s := fun h => by injection h with h _; cases h
structure KG (cap : Int) (bs : List Bs) (x : DM) : Prop where
  on : On cap x
  log : getL x.seen logN = some [120]
  has : ∀ b ∈ bs, getL x.seen (bN b) = some b
  used : usedL x.seen ≤ 1 + sumL bs
theorem kg_put {cap : Int} {bs : List Bs} {x : DM} {b : Bs} (h : KG cap bs x) (hI : Inv x) (hb : b.length ≤ 4096) (hc : (1 + sumL bs + b.length : Nat) ≤ cap) (hj : ∀ a ∈ bs, bN a = bN b → a = b) : KG cap (bs ++ [b]) (vpD x b) := by
  have hu := used_with x.seen (bN b) b
  have hu2 := used_without hI.seen (bN b)
  have hle := h.used
  obtain ⟨_, _, p3, p4, p5⟩ := put_ok h.on hI hb (by omega)
  have hsum : sumL (bs ++ [b]) = sumL bs + b.length := by simp [sumL]
  refine ⟨p3, ?_, fun a ha => ?_, ?_⟩
  · rcases p5 with e | e
    · rw [e]; exact h.log
    · rw [e, get_with _ _ _ _ hI.seen, if_neg (show logN ≠ bN b from log_ne _)]; exact h.log
  · rcases List.mem_append.1 ha with ha | ha
    · rcases p5 with e | e
      · rw [e]; exact h.has a ha
      · rw [e, get_with _ _ _ _ hI.seen]
        split
        · rename_i e2; rw [hj a ha e2]
        · exact h.has a ha
    · rw [List.mem_singleton.1 ha]; exact p4
  · rcases p5 with e | e <;> rw [e, hsum] <;> omega
theorem kg_has {cap : Int} {bs : List Bs} {x X : DM} {b : Bs} {keep : List Bs} (h : KG cap bs x) (hI : Inv x) (ho : On cap X) (hb : b ∈ bs) (hcl : ∀ k ∈ keep, Dg.sha k = Dg.sha b → k = b)
    (h1 : ∀ nm, (∀ s, s ∉ keep.map Dg.sha → nm ≠ nmB s) → getL X.seen nm = getL x.seen nm) (h2 : ∀ s, s ∈ allL x.seen → s ∉ keep.map Dg.sha → getL X.seen (nmB s) = none) :
    vgE X (Dg.sha b) = 0 ↔ b ∈ keep := by
  have hsl := Dg.sha_length b
  have hm : Dg.sha b ∈ keep.map Dg.sha ↔ b ∈ keep := by
    rw [List.mem_map]
    exact ⟨fun ⟨k, hk, e⟩ => hcl k hk e ▸ hk, fun hk => ⟨b, hk, rfl⟩⟩
  by_cases hk : b ∈ keep
  · have := h1 (nmB (Dg.sha b)) (fun s hs e => hs (by rw [← nmB_inj e]; exact hm.2 hk))
    have hg := h.has b hb
    rw [bN] at hg
    rw [hg] at this
    exact iff_of_true ((get_ok ho hsl this).1 rfl).1 hk
  · have := h2 _ (get_all hI.seen hsl (h.has b hb)) (fun h => hk (hm.1 h))
    refine iff_of_false (fun h0 => ?_) hk
    unfold vgE at h0
    rw [if_neg (by omega)] at h0
    obtain ⟨_, r2⟩ := on_read ho (nmB (Dg.sha b))
    rw [this, if_pos rfl] at r2
    rw [r2, if_pos (by decide)] at h0
    cases h0
/-! ## VaultKept -/
end Go.Proofs.Ytolgclfbllcjhaa.Vt
