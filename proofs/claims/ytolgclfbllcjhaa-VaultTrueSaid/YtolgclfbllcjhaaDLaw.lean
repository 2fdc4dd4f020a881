/- The disk's laws in plain words. -/
import Derived.Test.YtolgclfbllcjhaaD13
namespace Go.Proofs.Ytolgclfbllcjhaa
open Go Go.Sl
set_option linter.unusedVariables false
set_option linter.unusedSimpArgs false

/-- with power all the time -/
structure On (cap : Int) (x : DM) : Prop where
  f : x.fused = false
  cap : x.cap = cap
  nm : ∀ g ∈ x.seen, badName g.1 = false
theorem On.off {cap : Int} {x : DM} (h : On cap x) : offD x = false := by rw [offD, h.f, Bool.false_and]
theorem spend_on {x : DM} (h : x.fused = false) : spendD x = x := by rw [spendD, if_neg (by rw [h]; decide)]
theorem on_new (cap : Int) : On cap (newD cap) := ⟨rfl, rfl, fun g hg => by cases hg⟩
theorem turnX_on {x : DM} (h : x.fused = false) (c : Cl) : turnX x c = { x with seen := doneL x.seen c (stepsC c), pend := x.pend ++ [c] } := by
  rw [turnX, spend_on]; exact h
theorem turnD_cases {x : DM} (h : x.fused = false) (c : Cl) : (turnsD x c = false ∧ turnD x c = x) ∨ (turnsD x c = true ∧ turnD x c = { x with seen := doneL x.seen c (stepsC c), pend := x.pend ++ [c] }) := by
  cases e : turnsD x c
  · exact .inl ⟨rfl, by rw [turnD, e]; rfl⟩
  · exact .inr ⟨rfl, by rw [turnD, if_pos e, turnX_on h]⟩
theorem on_turnD {cap : Int} {x : DM} (h : On cap x) (c : Cl) : On cap (turnD x c) := by
  rcases turnD_cases h.f c with ⟨_, e⟩ | ⟨e1, e⟩
  · rw [e]; exact h
  · rw [e]
    refine ⟨h.f, h.cap, fun g hg => ?_⟩
    rcases done_mem hg with hg | hg
    · exact h.nm g hg
    · rw [hg]; exact (turnsD_iff.1 e1).1
theorem on_t {cap : Int} {x : DM} (h : On cap x) (m : AM) : On cap (tD x m) := by
  unfold tD
  repeat' split
  · exact on_turnD h _
  · exact on_turnD h _
  · exact on_turnD h _
  · exact h
theorem sync_on {x : DM} (h : x.fused = false) : syncD x = { x with lasts := x.seen, pend := [] } := by
  rw [syncD, if_neg (by rw [offD, h]; simp), spend_on]; exact h
theorem on_sync {cap : Int} {x : DM} (h : On cap x) : On cap (syncD x) := by rw [sync_on h.f]; exact ⟨h.f, h.cap, h.nm⟩
theorem t_no {x : DM} {m : AM} (h : tE x m ≠ 0) : tD x m = x := by
  unfold tE at h
  unfold tD
  repeat' split
  all_goals simp_all only [if_true, if_false]
  all_goals first
    | exact turnD_no (by assumption)
    | rfl
    | skip
theorem on_read {cap : Int} {x : DM} (h : On cap x) (n : Bs) : readS x n = (getL x.seen n).getD [] ∧ readE x n = if getL x.seen n = none then 6 else 0 := by
  rw [readS, readE, h.off]; exact ⟨rfl, rfl⟩

/-! ## DiskFull -/
theorem full_end {x : DM} {n : Nat} {cap : Int} (hw : Wf x n) (ho : On cap x) {name s : Bs} (hg : getL x.seen name = some s) :
    turnE x ⟨3, name, []⟩ = 0 ∧ usedL (turnD x ⟨3, name, []⟩).seen + s.length = usedL x.seen ∧ turnE (turnD x ⟨3, name, []⟩) ⟨3, name, []⟩ = 6 ∧
      turnE (turnD x ⟨3, name, []⟩) ⟨2, name, s⟩ = 0 ∧ usedL (turnD (turnD x ⟨3, name, []⟩) ⟨2, name, s⟩).seen = usedL x.seen := by
  have hs := hw.inv.seen
  have hb : badName name = false := ho.nm _ (get_some hs hg).1
  have hu := used_without hs name
  rw [hg] at hu
  simp only [Option.getD_some] at hu
  have hcap := hw.inv.used
  have d1 : doneL x.seen ⟨3, name, []⟩ 1 = withoutL x.seen name := by simp [doneL]
  have s1 : stepsC ⟨3, name, []⟩ = 1 := by simp [stepsC]
  have f1 : fullC x ⟨3, name, []⟩ = false := by
    rw [fullC, s1]
    simp only [if_neg (show ¬ ((3 : Int) = 2) by decide), d1, decide_eq_false_iff_not]
    omega
  have e1 : turnE x ⟨3, name, []⟩ = 0 := by
    simp [turnE, hb, ho.off, hg, f1]
  have t1 : turnD x ⟨3, name, []⟩ = { x with seen := withoutL x.seen name, pend := x.pend ++ [⟨3, name, []⟩] } := by
    rcases turnD_cases ho.f ⟨3, name, []⟩ with ⟨e, _⟩ | ⟨_, e⟩
    · simp [turnsD, e1] at e
    · rw [e, s1, d1]
  obtain ⟨x1, hx1⟩ : ∃ x1, x1 = turnD x ⟨3, name, []⟩ := ⟨_, rfl⟩
  have o1 : On cap x1 := by rw [hx1]; exact on_turnD ho _
  rw [← hx1]
  have sn : x1.seen = withoutL x.seen name := by rw [hx1, t1]
  have cp : x1.cap = x.cap := by rw [o1.cap, ho.cap]
  have g1 : getL x1.seen name = none := by rw [sn, get_without _ _ _ hs, if_pos rfl]
  have srt1 : Srt x1.seen := by rw [sn]; exact srt_without hs _
  have w0 : withoutL x1.seen name = x1.seen := (get_none g1).1
  have d2 : doneL x1.seen ⟨2, name, s⟩ 1 = withL x1.seen name s := by simp [doneL]
  have u2 : usedL (withL x1.seen name s) = usedL x.seen := by rw [used_with, w0, sn]; omega
  have s2 : stepsC ⟨2, name, s⟩ = 1 := by simp [stepsC]
  have e3 : turnE x1 ⟨2, name, s⟩ = 0 := by
    have f2 : fullC x1 ⟨2, name, s⟩ = false := by
      rw [fullC, s2]
      simp only [if_pos, d2, decide_eq_false_iff_not, cp, u2]
      omega
    simp [turnE, hb, o1.off, f2]
  refine ⟨e1, by rw [sn]; omega, ?_, e3, ?_⟩
  · simp [turnE, hb, o1.off, g1]
  · rcases turnD_cases o1.f ⟨2, name, s⟩ with ⟨e, _⟩ | ⟨_, e⟩
    · simp [turnsD, e3] at e
    · rw [e, s2, d2]; exact u2

/-! ## DiskSynced -/
theorem t_cases {cap : Int} {x : DM} (h : On cap x) (m : AM) : tD x m = x ∨ ∃ c : Cl, c.name = m.name ∧ c.kind = m.kind ∧ (m.kind ≠ 3 → c.s = m.s) ∧ turnsD x c = true ∧ tD x m = { x with seen := doneL x.seen c (stepsC c), pend := x.pend ++ [c] } := by
  have key : ∀ c : Cl, c.name = m.name → c.kind = m.kind → (m.kind ≠ 3 → c.s = m.s) → tD x m = turnD x c → tD x m = x ∨ ∃ c : Cl, c.name = m.name ∧ c.kind = m.kind ∧ (m.kind ≠ 3 → c.s = m.s) ∧ turnsD x c = true ∧ tD x m = { x with seen := doneL x.seen c (stepsC c), pend := x.pend ++ [c] } := by
    intro c h1 h2 h3 h4
    rcases turnD_cases h.f c with ⟨_, e⟩ | ⟨e1, e⟩
    · left; rw [h4, e]
    · right; exact ⟨c, h1, h2, h3, e1, by rw [h4, e]⟩
  by_cases h1 : m.kind = 1
  · exact key ⟨1, m.name, m.s⟩ rfl h1.symm (fun _ => rfl) (by simp [tD, h1])
  · by_cases h2 : m.kind = 2
    · exact key ⟨2, m.name, m.s⟩ rfl h2.symm (fun _ => rfl) (by simp [tD, h2])
    · by_cases h3 : m.kind = 3
      · exact key ⟨3, m.name, []⟩ rfl h3.symm (fun h => absurd h3 h) (by simp [tD, h3])
      · left; simp [tD, h1, h2, h3]
structure Sy (S : List Fl) (l : List AM) (i : Nat) (x : DM) : Prop where
  lasts : x.lasts = S
  pend : ∀ c ∈ x.pend, ∃ j, j < i ∧ (l.getD j A0).name = c.name
theorem sy_t {cap : Int} {S : List Fl} {l : List AM} {i : Nat} {x : DM} (h : Sy S l i x) (ho : On cap x) : Sy S l (i + 1) (tD x (l.getD i A0)) := by
  have h1 : ∀ c ∈ x.pend, ∃ j, j < i + 1 ∧ (l.getD j A0).name = c.name := fun c hc => by
    obtain ⟨j, hj, e⟩ := h.pend c hc
    exact ⟨j, by omega, e⟩
  rcases t_cases ho (l.getD i A0) with e | ⟨c, hc, _, _, _, e⟩
  · rw [e]; exact ⟨h.lasts, h1⟩
  · rw [e]
    refine ⟨h.lasts, fun d hd => ?_⟩
    rcases List.mem_append.1 hd with hd | hd
    · exact h1 d hd
    · rw [List.mem_singleton.1 hd]; exact ⟨i, by omega, hc.symm⟩
theorem done_get {l : List Fl} (hs : Srt l) (c : Cl) (k : Nat) {n : Bs} (h : c.name ≠ n) : getL (doneL l c k) n = getL l n := by
  unfold doneL
  split
  · rfl
  · split
    · rw [get_with _ _ _ _ hs, if_neg (Ne.symm h)]
    · split
      · rw [get_with _ _ _ _ hs, if_neg (Ne.symm h)]
      · rw [get_without _ _ _ hs, if_neg (Ne.symm h)]
theorem replay_get {n : Bs} : ∀ (p : List Cl) {l : List Fl} (k : Nat), Srt l → (∀ c ∈ p, c.name ≠ n) → getL (replay l p k) n = getL l n
  | [], l, k, _, _ => rfl
  | c :: p, l, k, hs, h => by
    rw [replay, replay_get p _ (srt_done hs _ _) (fun d hd => h d (.tail _ hd)), done_get hs _ _ (h c (.head _))]
/-- a crash, of so many steps as there are -/
def lossD (x : DM) (k : Nat) : DM := { x with seen := replay x.lasts x.pend k, lasts := replay x.lasts x.pend k, pend := [], fused := false }
theorem crash_loss {x : DM} {k : Nat} (h : k ≤ countD x) : crashE x (k : Nat) = 0 ∧ crashD x (k : Nat) = lossD x k := by
  have h1 : ¬ (((k : Nat) : Int) < 0 ∨ ((countD x : Nat) : Int) < (k : Nat)) := by omega
  refine ⟨by rw [crashE, if_neg h1], ?_⟩
  rw [crashD, if_neg h1, lossD, Int.toNat_natCast]
theorem loss_count (x : DM) (k : Nat) : countD (lossD x k) = 0 := rfl
theorem loss_one (x : DM) (k : Nat) : crashE (lossD x k) 1 = 1 ∧ crashD (lossD x k) 1 = lossD x k := by
  have h1 : (1 : Int) < 0 ∨ ((countD (lossD x k) : Nat) : Int) < 1 := by rw [loss_count]; omega
  exact ⟨by rw [crashE, if_pos h1], by rw [crashD, if_pos h1]⟩
theorem loss_zero (x : DM) (k : Nat) : crashE (lossD x k) 0 = 0 ∧ crashD (lossD x k) 0 = lossD x k := by
  have h1 : ¬ ((0 : Int) < 0 ∨ ((countD (lossD x k) : Nat) : Int) < 0) := by rw [loss_count]; omega
  exact ⟨by rw [crashE, if_neg h1], by rw [crashD, if_neg h1]; rfl⟩
theorem synced_end {S : List Fl} {l : List AM} {m k : Nat} {x : DM} (hS : Srt S) (h : Sy S l m x) {n s : Bs} (hg : getL S n = some s) (hn : ∀ j, j < m → (l.getD j A0).name ≠ n) :
    readE (lossD x k) n = 0 ∧ readS (lossD x k) n = s := by
  have e : getL (lossD x k).seen n = some s := by
    show getL (replay x.lasts x.pend k) n = some s
    rw [h.lasts, replay_get _ _ hS, hg]
    intro c hc
    obtain ⟨j, hj, e⟩ := h.pend c hc
    rw [← e]; exact hn j hj
  have o : offD (lossD x k) = false := rfl
  rw [readE, readS, o, e]
  exact ⟨rfl, rfl⟩

/-! ## DiskBegins -/
def runT (x : DM) (l : List AM) : Nat → DM
  | 0 => x
  | i + 1 => tD (runT x l i) (l.getD i A0)
theorem run_on {cap : Int} {x : DM} (h : On cap x) (l : List AM) : ∀ i, On cap (runT x l i)
  | 0 => h
  | i + 1 => on_t (run_on h l i) _
theorem run_wf {x : DM} {n : Nat} (h : Wf x n) (l : List AM) : ∀ i, Wf (runT x l i) (n + i)
  | 0 => h
  | i + 1 => wf_t (run_wf h l i) _
theorem run_pend {cap : Int} {x : DM} (h : On cap x) (l : List AM) (i : Nat) : ∀ j, ∃ q, (runT x l (i + j)).pend = (runT x l i).pend ++ q ∧ (runT x l (i + j)).lasts = (runT x l i).lasts
  | 0 => ⟨[], by simp⟩
  | j + 1 => by
    obtain ⟨q, h1, h2⟩ := run_pend h l i j
    have e0 : runT x l (i + (j + 1)) = tD (runT x l (i + j)) (l.getD (i + j) A0) := rfl
    rcases t_cases (run_on h l (i + j)) (l.getD (i + j) A0) with e | ⟨c, _, _, _, _, e⟩
    · rw [e0, e]; exact ⟨q, h1, h2⟩
    · rw [e0, e]; exact ⟨q ++ [c], by simp only [h1, List.append_assoc], h2⟩
theorem replay_zero : ∀ (p : List Cl) (l : List Fl), replay l p 0 = l
  | [], l => rfl
  | c :: p, l => by rw [replay, Nat.min_zero, done_zero]; exact replay_zero p l
theorem replay_app : ∀ (p q : List Cl) (l : List Fl) (k : Nat), replay l (p ++ q) k = replay (replay l p k) q (k - countL p)
  | [], q, l, k => by simp [replay, countL]
  | c :: p, q, l, k => by
    rw [List.cons_append, replay, replay, replay_app p]
    have : countL (c :: p) = stepsC c + countL p := by simp [countL]
    rw [this]
    congr 1
    omega
/-- what a crash leaves, in the midst of a call -/
theorem begins_mid {cap : Int} {x : DM} {n : Nat} (hw : Wf x n) (h : On cap x) (l : List AM) {i m k : Nat} (him : i + 1 ≤ m) (h1 : countD (runT x l i) ≤ k) (h2 : k < countD (runT x l (i + 1))) :
    ((l.getD i A0).kind = 1 ∧ countD (runT x l i) < k → k - countD (runT x l i) ≤ (l.getD i A0).s.length ∧ turnE (runT x l i) ⟨1, (l.getD i A0).name, (l.getD i A0).s.take (k - countD (runT x l i))⟩ = 0 ∧ (turnD (runT x l i) ⟨1, (l.getD i A0).name, (l.getD i A0).s.take (k - countD (runT x l i))⟩).seen = (lossD (runT x l m) k).seen) ∧
      (¬ ((l.getD i A0).kind = 1 ∧ countD (runT x l i) < k) → (runT x l i).seen = (lossD (runT x l m) k).seen) := by
  obtain ⟨j, rfl⟩ : ∃ j, m = i + 1 + j := ⟨m - (i + 1), by omega⟩
  have ho := run_on h l i
  have hwi := run_wf hw l i
  have hI := hwi.inv
  have e0 : runT x l (i + 1) = tD (runT x l i) (l.getD i A0) := rfl
  obtain ⟨q, hq1, hq2⟩ := run_pend h l (i + 1) j
  rw [e0] at hq1 hq2 h2
  generalize runT x l i = y at h1 h2 ho hwi hI hq1 hq2 ⊢
  generalize l.getD i A0 = a at h2 hq1 hq2 ⊢
  rcases t_cases ho a with e | ⟨c, hc1, hc2, hc3, hc4, e⟩
  · rw [e] at h2; omega
  · rw [e] at hq1 hq2 h2
    simp only at hq1 hq2
    have hcn : countL (y.pend ++ [c]) = countL y.pend + stepsC c := by simp [countL]
    have h2' : k < countL y.pend + stepsC c := by rw [← hcn]; exact h2
    have hd : countD y = countL y.pend := rfl
    have hseen : (lossD (runT x l (i + 1 + j)) k).seen = doneL y.seen c (k - countD y) := by
      show replay _ _ k = _
      rw [hq1, hq2, List.append_assoc, replay_app, hI.at_ k h1, List.singleton_append, replay, Nat.min_eq_right (by omega), Nat.sub_self, replay_zero, hd]
    rw [hseen]
    have hpos := (turnsD_iff.1 hc4)
    obtain ⟨p1, p2, p3, p4, p5⟩ := hpos
    refine ⟨fun ⟨k1, k2⟩ => ?_, fun hno => ?_⟩
    · have ck : c.kind = 1 := hc2.trans k1
      have cs : c.s = a.s := hc3 (by rw [k1]; decide)
      have st : stepsC c = a.s.length := by rw [stepsC, if_pos ck, cs]
      have hle : k - countD y ≤ a.s.length := by rw [hd]; omega
      refine ⟨hle, ?_⟩
      obtain ⟨j', hj'⟩ : ∃ j', j' = k - countD y := ⟨_, rfl⟩
      have hj0 : j' ≠ 0 := by omega
      rw [← hj'] at hle ⊢
      have st2 : stepsC ⟨1, a.name, a.s.take j'⟩ = j' := by simp [stepsC]; omega
      have d2 : doneL y.seen ⟨1, a.name, a.s.take j'⟩ j' = doneL y.seen c j' := by
        simp only [doneL, if_neg hj0, ck, cs, hc1, if_pos]
        rw [List.take_take, Nat.min_self]
      have hu : (usedL (doneL y.seen c j') : Int) ≤ y.cap := by
        have q1 := used_done_le hI.seen c j'
        rw [st, Nat.min_eq_right hle] at q1
        have q2 := hI.used
        have q3 := used_full c (.inl ck) p5
        rw [st] at q3
        omega
      have nn : a.s.take j' ≠ [] := fun h => by
        have := congrArg List.length h
        rw [List.length_take, List.length_nil] at this
        omega
      have f2 : fullC y ⟨1, a.name, a.s.take j'⟩ = false := by
        rw [fullC, if_neg (show ¬ ((1 : Int) = 2) by decide), st2, d2, decide_eq_false_iff_not]; omega
      have bn : badName a.name = false := by rw [← hc1]; exact p1
      have e1 : turnE y ⟨1, a.name, a.s.take j'⟩ = 0 := by
        simp only [turnE, bn, p2, f2, nn]; simp
      refine ⟨e1, ?_⟩
      rcases turnD_cases ho.f ⟨1, a.name, a.s.take j'⟩ with ⟨e3, _⟩ | ⟨_, e3⟩
      · rw [turnsD, e1, decide_eq_false nn, Bool.and_false] at e3
        simp at e3
      · rw [e3, st2, ← d2]
    · by_cases k1 : a.kind = 1
      · have : k - countD y = 0 := by
          have : ¬ countD y < k := fun h => hno ⟨k1, h⟩
          omega
        rw [this, done_zero]
      · have st : stepsC c = 1 := by rw [stepsC, if_neg]; rw [hc2]; exact k1
        have : k - countD y = 0 := by rw [hd]; omega
        rw [this, done_zero]
theorem begins_end {cap : Int} {x : DM} {n : Nat} (hw : Wf x n) (h : On cap x) (l : List AM) {m k : Nat} (h1 : countD (runT x l m) ≤ k) : (lossD (runT x l m) k).seen = (runT x l m).seen :=
  (run_wf hw l m).inv.at_ k h1
end Go.Proofs.Ytolgclfbllcjhaa
