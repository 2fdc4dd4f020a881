/- A disk, the program's beside the reference's: one call on both. -/
import Derived.Test.YtolgclfbllcjhaaLD8
namespace Go.Proofs.Ytolgclfbllcjhaa
open Go Go.Sl
set_option linter.unusedVariables false
set_option linter.unusedSimpArgs false

/-- what stays true of a disk that at most n calls have met -/
structure Wf (x : DM) (n : Nat) : Prop where
  inv : Inv x
  nm : ∀ f, f ∈ x.seen ∨ f ∈ x.lasts → f.1.length ≤ 80
  sz : x.lasts.length + x.pend.length ≤ n
theorem replay_len : ∀ (p : List Cl) (l : List Fl) (k : Nat), (replay l p k).length ≤ l.length + p.length
  | [], l, k => by simp [replay]
  | c :: p, l, k => by
    have h1 := done_len l c (min (stepsC c) k)
    have h2 := replay_len p (doneL l c (min (stepsC c) k)) (k - min (stepsC c) k)
    rw [replay, List.length_cons]; omega
theorem Wf.seen {x : DM} {n : Nat} (h : Wf x n) : x.seen.length ≤ n := by
  have h1 := h.inv.at_ (countD x) (Nat.le_refl _)
  have h2 := replay_len x.pend x.lasts (countD x)
  rw [h1] at h2
  have := h.sz; omega
theorem Wf.small {x : DM} {n : Nat} (h : Wf x n) (hn : n ≤ 1000000) : Small x 1000000 := by
  have h1 := h.seen
  have h2 := h.sz
  exact ⟨by omega, by omega, by omega⟩
theorem Wf.mono {x : DM} {n m : Nat} (h : Wf x n) (hm : n ≤ m) : Wf x m := ⟨h.inv, h.nm, Nat.le_trans h.sz hm⟩
theorem done_mem {l : List Fl} {c : Cl} {k : Nat} {f : Fl} (h : f ∈ doneL l c k) : f ∈ l ∨ f.1 = c.name := by
  have hw : ∀ n s, f ∈ withL l n s → f ∈ l ∨ f.1 = n := fun n s h => by
    rcases List.mem_cons.1 ((ins_perm _ _).mem_iff.1 h) with rfl | h
    · exact .inr rfl
    · exact .inl (List.mem_filter.1 h).1
  unfold doneL at h
  split at h
  · exact .inl h
  · split at h
    · exact hw _ _ h
    · split at h
      · exact hw _ _ h
      · exact .inl (List.mem_filter.1 h).1
theorem replay_mem : ∀ (p : List Cl) (l : List Fl) (k : Nat) (f : Fl), f ∈ replay l p k → f ∈ l ∨ ∃ c ∈ p, f.1 = c.name
  | [], l, k, f, h => .inl h
  | c :: p, l, k, f, h => by
    rw [replay] at h
    rcases replay_mem p _ _ f h with h | ⟨d, hd, e⟩
    · rcases done_mem h with h | h
      · exact .inl h
      · exact .inr ⟨c, .head _, h⟩
    · exact .inr ⟨d, .tail _ hd, e⟩
theorem bad_len {n : Bs} (h : badName n = false) : n.length ≤ 80 := by
  have := of_decide_eq_false (Bool.or_eq_false_iff.1 h).2
  omega
theorem wf_new {cap : Int} (h : badCap cap = false) : Wf (newD cap) 0 := ⟨newD_inv h, fun f hf => (by rcases hf with hf | hf <;> cases hf), Nat.le_refl _⟩
theorem wf_spend {x : DM} {n : Nat} (h : Wf x n) (ho : offD x = false) : Wf (spendD x) n := by
  obtain ⟨e1, e2, e3, _⟩ := spend_seen x
  exact ⟨spend_inv h.inv ho, by rw [e1, e2]; exact h.nm, by rw [e2, e3]; exact h.sz⟩
theorem wf_turn {x : DM} {n : Nat} (h : Wf x n) {c : Cl} (hk : c.kind = 1 ∨ c.kind = 2 ∨ (c.kind = 3 ∧ c.s = [])) : Wf (turnD x c) (n + 1) := by
  have hi := turn_inv h.inv hk
  by_cases ht : turnsD x c = true
  · obtain ⟨h1, _⟩ := turnsD_iff.1 ht
    have hb := bad_len h1
    have e : turnD x c = spendD { x with seen := doneL x.seen c (stepsC c), pend := x.pend ++ [c] } := by rw [turnD, if_pos ht, turnX]
    obtain ⟨e1, e2, e3, _⟩ := spend_seen { x with seen := doneL x.seen c (stepsC c), pend := x.pend ++ [c] }
    refine ⟨hi, fun f hf => ?_, ?_⟩
    · rw [e, e1, e2] at hf
      rcases hf with hf | hf
      · rcases done_mem hf with hf | hf
        · exact h.nm f (.inl hf)
        · rw [hf]; exact hb
      · exact h.nm f (.inr hf)
    · rw [e, e2, e3]
      have := h.sz
      simp only [List.length_append, List.length_cons, List.length_nil]; omega
  · have e : turnD x c = x := by rw [turnD, if_neg ht]
    rw [e]; exact h.mono (by omega)
theorem wf_sync {x : DM} {n : Nat} (h : Wf x n) : Wf (syncD x) n := by
  unfold syncD
  cases ho : offD x
  · have hs := h.seen
    rw [if_neg (by simp)]
    refine wf_spend ⟨⟨h.inv.cap, h.inv.seen, h.inv.seen, h.inv.used, fun k => h.inv.used, fun k _ => rfl, fun c hc => (by cases hc), h.inv.left⟩, fun f hf => h.nm f (.inl (hf.elim id id)), by simpa using hs⟩ ho
  · rw [if_pos rfl]; exact h
theorem wf_fuse {x : DM} {n : Nat} (h : Wf x n) {k : Int} (hk : -9223372036854775808 ≤ k ∧ k ≤ 9223372036854775807) : Wf (fuseD x k) n := ⟨⟨h.inv.cap, h.inv.seen, h.inv.lasts, h.inv.used, h.inv.all, h.inv.at_, h.inv.pend, hk⟩, h.nm, h.sz⟩
theorem wf_crash {x : DM} {n : Nat} (h : Wf x n) (k : Int) : Wf (crashD x k) n := by
  unfold crashD
  split
  · exact h
  · have hl := replay_len x.pend x.lasts k.toNat
    refine ⟨⟨h.inv.cap, srt_replay h.inv.lasts _ _, srt_replay h.inv.lasts _ _, h.inv.all _, fun j => h.inv.all _, fun j _ => rfl, fun c hc => (by cases hc), h.inv.left⟩, fun f hf => ?_, ?_⟩
    · have hf : f ∈ replay x.lasts x.pend k.toNat := hf.elim id id
      rcases replay_mem _ _ _ f hf with hf | ⟨c, hc, e⟩
      · exact h.nm f (.inr hf)
      · rw [e]; exact bad_len (h.inv.pend c hc).name
    · have := h.sz
      simp only [List.length_nil]; omega

/-- what lies at rest for both -/
structure BF (x : DM) (a : DA) (r : RA) (h : Heap) : Prop where
  p : ∀ p ∈ a.pl, PcOk h p
  r : RFacts x r h
theorem BF.le {x : DM} {a : DA} {r : RA} {h h' : Heap} (f : BF x a r h) (l : Heap.le h h') : BF x a r h' := ⟨fun p hp => (f.p p hp).le l, f.r.le l⟩
theorem Sat.two {h : Heap} {A B : List As} (hs : ∃ bs, Sat h (A ++ B) bs) : (∃ bs, Sat h A bs) ∧ ∃ bs, Sat h B bs := by
  obtain ⟨bs, hs⟩ := hs
  obtain ⟨ba, bb, _, h1, h2⟩ := Sat.split hs
  exact ⟨⟨ba, h1⟩, bb, h2⟩
end Go.Proofs.Ytolgclfbllcjhaa
