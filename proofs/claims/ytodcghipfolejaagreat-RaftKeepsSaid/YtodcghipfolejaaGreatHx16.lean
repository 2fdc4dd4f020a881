import Derived.Test.YtodcghipfolejaaGreatHx15
import Derived.Test.YtodcghipfolejaaGreatHx8
import Derived.Test.YtodcghipfolejaaGreatHx9
import Derived.Test.YtodcghipfolejaaGreatHx13
/- Raft's safety: what a node does by itself, or as a leader. -/
namespace Go.Proofs.YtodcghipfolejaaGreat.Rf
open Go Go.Sl
set_option linter.unusedVariables false
set_option linter.unusedSimpArgs false

variable {C0 : List Int} {g g' : Gh} {M : Int → RP} {Fs : Int → Lg} {S : MP → Prop} {n : Int} {p p' : RP} {F F' : Lg}
/-- the world, with node n in state p, its log F -/
def WN (C0 : List Int) (g : Gh) (M : Int → RP) (Fs : Int → Lg) (S : MP → Prop) (n : Int) (p : RP) (F : Lg) : Prop := WI C0 g (upI M n p) (upI Fs n F) S
theorem upI_self {α : Type} (f : Int → α) (n : Int) : upI f n (f n) = f := by
  funext k; unfold upI; split
  · rename_i h; rw [h]
  · rfl
theorem WN.of (W : WI C0 g M Fs S) (n : Int) : WN C0 g M Fs S n (M n) (Fs n) := by
  unfold WN; rw [upI_self, upI_self]; exact W
theorem WN.tree (W : WN C0 g M Fs S n p F) : Tree C0 g := WI.tree W
theorem WN.ni (W : WN C0 g M Fs S n p F) (hn : NB n) : NI C0 g n p F := by
  have := WI.node W n hn
  rw [upI_same, upI_same] at this
  exact this
theorem WN.accle (W : WN C0 g M Fs S n p F) (t j : Int) (c : Nat) (h : g.Acc t j c) : c ≤ (g.L t).length :=
  ((WI.node W j (W.racc t j c h)).acc t c h).2.1
theorem WN.quiet (W : WN C0 g M Fs S n p F) (N : NI C0 g n p' F') (ht : p.term ≤ p'.term) : WN C0 g M Fs S n p' F' := by
  have := WI.quiet (n := n) W N (by rw [upI_same]; exact ht)
  rw [upI_up, upI_up] at this
  exact this
theorem WN.more (W : WN C0 g M Fs S n p F) (h : Ext g g' n p.term) (T : Tree C0 g') (N : NI C0 g' n p' F') (ht : p.term ≤ p'.term)
    (hm : ∀ k t j, k ≠ n → NB k → g'.PV t j k → g.PV t j k ∨ t ≤ (M k).term) (hpv : ∀ t j i, g'.PV t j i → NB j ∧ NB i) (hacc : ∀ t j c, g'.Acc t j c → NB j) (hwin : ∀ t i, g'.Win t i → NB i) : WN C0 g' M Fs S n p' F' := by
  have := WI.more (n := n) W (by rw [upI_same]; exact h) T N (by rw [upI_same]; exact ht) (fun k t j hk hb hp => by rw [upI_ne _ _ _ hk]; exact hm k t j hk hb hp) hpv hacc hwin
  rw [upI_up, upI_up] at this
  exact this
/-- what there is afterwards -/
def Nx (C0 : List Int) (g : Gh) (M : Int → RP) (Fs : Int → Lg) (S : MP → Prop) (n : Int) (p' : RP) (new : List MP) : Prop :=
  ∃ g' F', WN C0 g' M Fs S n p' F' ∧ Gle g g' ∧ ∀ m ∈ new, MI C0 g' m ∧ m.frm = n ∧ (m.kind = 1 → m.term ≤ p'.term)
theorem Nx.done (W : WN C0 g M Fs S n p F) : Nx C0 g M Fs S n p [] := ⟨g, F, W, Gle.refl g, fun m hm => by cases hm⟩
theorem Nx.up {new : List MP} (h : Gle g g') (x : Nx C0 g' M Fs S n p new) : Nx C0 g M Fs S n p new := by
  obtain ⟨g2, F2, W, h2, hm⟩ := x
  exact ⟨g2, F2, W, h.trans h2, hm⟩
theorem Nx.one (W : WN C0 g M Fs S n p F) {m : MP} (h : MI C0 g m) (hf : m.frm = n) (hk : m.kind = 1 → m.term ≤ p.term) : Nx C0 g M Fs S n p [m] :=
  ⟨g, F, W, Gle.refl g, fun x hx => by obtain rfl := List.mem_singleton.1 hx; exact ⟨h, hf, hk⟩⟩
theorem NI.keep (N : NI C0 g n p F) (h1 : p'.id = p.id) (hb : p'.base = p.base) (hl : p'.l = p.l) (hbt : p'.bt = p.bt) (hc : p'.conf = p.conf) (ht : p'.term = p.term) (hv : p'.vote = p.vote) (hr : p'.role = p.role) (hcm : p'.commit = p.commit)
    (hvs : p'.role = 1 → p'.votes = p.votes) (hps : p'.role = 2 → LeadI g n p F → ∀ q ∈ p'.peers, PrI g p.term F q) : NI C0 g n p' F where
  id := h1.trans N.id
  rep := N.rep.same p' hb hl hbt hc
  path := N.path
  le := by rw [ht]; exact N.le
  term := by rw [ht]; exact N.term
  bc := by rw [hb, hcm]; exact N.bc
  cl := by rw [hcm]; exact N.cl
  acc := by rw [ht]; exact N.acc
  cm := by rw [ht, hcm]; exact N.cm
  pv := by rw [ht, hv]; exact N.pv
  mine := by rw [ht]; exact N.mine
  win := by rw [ht, hr]; exact N.win
  cand := fun h => by
    have c := N.cand (hr ▸ h)
    exact ⟨by rw [ht]; exact c.log, by rw [ht]; exact c.lt, by rw [ht, hvs h]; exact c.vs, by rw [ht]; exact c.pos⟩
  lead := fun h => by
    have c := N.lead (hr ▸ h)
    exact ⟨by rw [ht]; exact c.win, by rw [ht]; exact c.log, by rw [ht]; exact c.acc, by rw [ht, hcm]; exact c.com, by rw [ht]; exact hps h c⟩
theorem NI.follow (N : NI C0 g n p F) (t l : Int) : NI C0 g n (followP p t l) F := by
  have hle : p.term ≤ (followP p t l).term := by
    show p.term ≤ if p.term < t then t else p.term
    split <;> omega
  refine ⟨N.id, N.rep.same _ rfl rfl rfl rfl, N.path, fun k e he => Int.le_trans (N.le k e he) hle, Int.le_trans N.term hle, N.bc, N.cl, fun t c ha => ?_, N.cm.le hle, fun s i hp => ?_, fun s j hp => Int.le_trans (N.mine s j hp) hle, fun s hw => ⟨Int.le_trans (N.win s hw).1 hle, fun _ => (by show (0 : Int) ≠ 1; decide)⟩, fun h => ?_, fun h => ?_⟩
  · obtain ⟨h1, h2, h3⟩ := N.acc t c ha
    exact ⟨Int.le_trans h1 hle, h2, h3.up hle⟩
  · obtain ⟨h1, h2⟩ := N.pv s i hp
    refine ⟨Int.le_trans h1 hle, fun e => ?_⟩
    have e' : s = if p.term < t then t else p.term := e
    show (if p.term < t then 0 else p.vote) = i
    split
    · rename_i h; rw [if_pos h] at e'; omega
    · rename_i h; rw [if_neg h] at e'; exact h2 e'
  · exact absurd (show (0 : Int) = 1 from h) (by decide)
  · exact absurd (show (0 : Int) = 2 from h) (by decide)
theorem follow_le (p : RP) (t l : Int) : p.term ≤ (followP p t l).term := by
  show p.term ≤ if p.term < t then t else p.term
  split <;> omega
theorem WN.follow (W : WN C0 g M Fs S n p F) (hn : NB n) (t l : Int) : WN C0 g M Fs S n (followP p t l) F := W.quiet ((W.ni hn).follow t l) (follow_le p t l)
/-- a committed part is in every leader's log from then on -/
theorem cmt_lead (T : Tree C0 g) {s t : Int} {x : Nat} (h : Cmt g s F x) (hs : s ≤ t) {i : Int} (hw : g.Win t i) : Ag x (g.L t) F ∨ x = 0 := by
  rcases h with h | ⟨s', c, m, h1, h2, h3, h4⟩
  · exact .inr h
  · left
    by_cases e : s' = t
    · subst e; exact h4
    · have h5 := T.lc s' c m t i h1 hw (by omega)
      have h6 := (T.base t i hw).le h5.r
      exact ((h5.trans h6).le h3).symm.trans h4
theorem cmt_lead' (T : Tree C0 g) {s t : Int} {x : Nat} (h : Cmt g s F x) (hs : s ≤ t) {i : Int} (hw : g.Win t i) : Ag x (g.L t) F := by
  rcases cmt_lead T h hs hw with h | rfl
  · exact h
  · exact Ag.zero _ _
/-! ## restart, compact -/
theorem NI.again (N : NI C0 g n p F) (hb : badNew p.id p.tout = false) : NI C0 g n (againP p) F := by
  have e : againP p = newP p.id ⟨p.term, p.vote, 0⟩ p.g p.img p.tout := by rw [againP, hb, if_neg (by decide)]
  rw [e]
  have hbc := N.bc
  have hcl := N.cl
  have hb0 := N.rep.b0
  refine ⟨N.id, N.rep.same _ rfl rfl rfl rfl, N.path, N.le, N.term, Int.le_refl _, by show p.base ≤ _; omega, N.acc, ?_, N.pv, N.mine, fun s hw => ⟨(N.win s hw).1, fun _ => (by show (0 : Int) ≠ 1; decide)⟩, fun h => ?_, fun h => ?_⟩
  · show Cmt g p.term F p.base.toNat
    exact N.cm.ag (Ag.refl N.rep.bl) (by omega)
  · exact absurd (show (0 : Int) = 1 from h) (by decide)
  · exact absurd (show (0 : Int) = 2 from h) (by decide)
theorem NI.comp (N : NI C0 g n p F) (i : Int) (img : Bs) : NI C0 g n (compP p i img) F := by
  unfold compP
  split
  · exact N
  · rename_i h
    unfold compBad at h
    simp only [Bool.or_eq_true, decide_eq_true_eq, Bool.not_eq_true', not_or, Bool.not_eq_false] at h
    have hcl := N.cl
    have hh := (N.rep.has i).1 h.2.2.2
    refine ⟨N.id, N.rep.from_ hh.1 hh.2 _ rfl rfl rfl rfl, N.path, N.le, N.term, by show i ≤ p.commit; omega, N.cl, N.acc, N.cm, N.pv, N.mine, N.win, fun hr => ?_, fun hr => ?_⟩
    · have c := N.cand hr
      exact ⟨c.log, c.lt, c.vs, c.pos⟩
    · have c := N.lead hr
      refine ⟨c.win, c.log, c.acc, c.com, fun q hq => ?_⟩
      obtain ⟨q0, hq0, rfl⟩ := List.mem_map.1 hq
      exact c.prs q0 hq0
/-! ## a leader's updates -/
theorem lead_upd (T : Tree C0 g) (N : NI C0 g n p F) (hn : NB n) (hr : p.role = 2) {q : Pr} (hq : PrI g p.term F q) : MI C0 g (updateP p q) ∧ (updateP p q).frm = n ∧ ((updateP p q).kind = 1 → (updateP p q).term ≤ p.term) := by
  have c := N.lead hr
  have hb0 := N.rep.b0
  have hbl := N.rep.bl
  have hbc := N.bc
  have hcl := N.cl
  obtain ⟨q1, q2, q3, q4, q5⟩ := hq
  have hcm : ∀ x : Nat, x ≤ p.commit.toNat → Cmt g p.term (g.L p.term) x := fun x hx => by
    rw [← c.log]; exact N.cm.ag (Ag.refl (by omega)) hx
  unfold updateP
  split
  · refine ⟨⟨by show NB p.id; rw [N.id]; exact hn, fun h => absurd (show (5 : Int) = 1 from h) (by decide), fun h => absurd (show (5 : Int) = 2 from h) (by decide), fun h => absurd (show (5 : Int) = 3 from h) (by decide), fun h => absurd (show (5 : Int) = 4 from h) (by decide), fun _ => ?_⟩, N.id, fun h => absurd (show (5 : Int) = 1 from h) (by decide)⟩
    show g.Win p.term p.id ∧ 0 ≤ p.base ∧ p.base.toNat ≤ (g.L p.term).length ∧ Cmt g p.term (g.L p.term) p.base.toNat ∧ p.bt = tmI (g.L p.term) p.base.toNat ∧ p.conf = cfN C0 (g.L p.term) p.base.toNat
    rw [N.id, ← c.log]
    exact ⟨c.win, hb0, hbl, by rw [c.log]; exact hcm _ (by omega), N.rep.bt, N.rep.conf⟩
  · rename_i hnb
    refine ⟨⟨by show NB p.id; rw [N.id]; exact hn, fun h => absurd (show (3 : Int) = 1 from h) (by decide), fun h => absurd (show (3 : Int) = 2 from h) (by decide), fun _ => ?_, fun h => absurd (show (3 : Int) = 4 from h) (by decide), fun h => absurd (show (3 : Int) = 5 from h) (by decide)⟩, N.id, fun h => absurd (show (3 : Int) = 1 from h) (by decide)⟩
    show g.Win p.term p.id ∧ 0 ≤ q.next - 1 ∧ (q.next - 1).toNat + (sliceL p.g q.next 8).length ≤ (g.L p.term).length ∧ (∀ k, k < (sliceL p.g q.next 8).length → (g.L p.term)[(q.next - 1).toNat + k]? = (sliceL p.g q.next 8)[k]?) ∧ termV p.g (q.next - 1) = tmI (g.L p.term) (q.next - 1).toNat ∧ 0 ≤ p.commit ∧ Cmt g p.term (g.L p.term) p.commit.toNat
    rw [N.id, ← c.log, N.rep.slice (by omega), show (q.next - 1).toNat = q.next.toNat - 1 by omega]
    refine ⟨c.win, by omega, ?_, fun k hk => ?_, ?_, by omega, by rw [c.log]; exact hcm _ (Nat.le_refl _)⟩
    · rw [List.length_take, List.length_drop]; omega
    · rw [List.length_take, List.length_drop] at hk
      rw [List.getElem?_take_of_lt (by omega), List.getElem?_drop]
    · rw [N.rep.term (by omega) (by omega)]
      congr 1; omega
theorem lead_all (T : Tree C0 g) (N : NI C0 g n p F) (hn : NB n) : ∀ m ∈ allP p, MI C0 g m ∧ m.frm = n ∧ (m.kind = 1 → m.term ≤ p.term) := by
  intro m hm
  unfold allP at hm
  split at hm
  · rename_i hr
    obtain ⟨q, hq, rfl⟩ := List.mem_map.1 hm
    exact lead_upd T N hn hr ((N.lead hr).prs q hq)
  · cases hm
/-! ## a leader commits -/
theorem WN.com1 (W : WN C0 g M Fs S n p F) (hn : NB n) (hr : p.role = 2) : ∃ g', WN C0 g' M Fs S n (commit1 p) F ∧ Gle g g' := by
  have N := W.ni hn
  have c := N.lead hr
  have hb0 := N.rep.b0
  have hbc := N.bc
  unfold commit1
  split
  · rename_i h
    obtain ⟨h1, h2, h3⟩ := h
    have hhas := (N.rep.has _).1 h2
    have hpos : 0 < comP p := by omega
    have hright : rightB (confL p) = true := by
      cases hx : rightB (confL p)
      · exfalso
        have : comP p = 0 := by unfold comP com; rw [hx, if_neg (by decide)]
        omega
      · rfl
    have hmost := has_yes (l := confL p) (hs := haveP p) hright hpos
    have htm : tmI F (comP p).toNat = p.term := by rw [← N.rep.term hhas.1 hhas.2]; exact h3
    have hcl : (comP p).toNat ≤ F.length := by omega
    have hown : Own g p.term (comP p).toNat := by
      refine ⟨by omega, ?_⟩
      rw [← c.log]
      obtain ⟨e, he⟩ := getS (G := F) (k := (comP p).toNat - 1) (by omega)
      refine ⟨e, he, ?_⟩
      have := tmI_get he
      rw [show (comP p).toNat - 1 + 1 = (comP p).toNat by omega] at this
      rw [← this]; exact htm
    have hlt : ∀ a b, g.Com p.term a b → a < (comP p).toNat := fun a b w => by have := c.com a b w; omega
    have hq : ∃ Q, mostB (cfN C0 (g.L p.term) F.length) Q = true ∧ ∀ j ∈ Q, g.Acc p.term j (comP p).toNat := by
      have e : cfN C0 (g.L p.term) F.length = confL p := by rw [← c.log]; exact N.rep.confL.symm
      refine ⟨whoL (haveP p) (comP p), by rw [e]; exact hmost, fun j hj => ?_⟩
      unfold whoL at hj
      obtain ⟨x, hx, rfl⟩ := List.mem_map.1 hj
      obtain ⟨hx1, hx2⟩ := List.mem_filter.1 hx
      have hx3 : comP p ≤ x.2 := of_decide_eq_true hx2
      unfold haveP at hx1
      rcases List.mem_cons.1 hx1 with rfl | hx1
      · show g.Acc p.term p.id _
        rw [N.id]; exact c.acc _ hcl
      · obtain ⟨q, hq, rfl⟩ := List.mem_map.1 hx1
        exact (c.prs q hq).2.2.2.2 _ (by omega) (by show ((comP p).toNat : Int) ≤ q.mtc; have : comP p ≤ q.mtc := hx3; omega)
    have hml : F.length ≤ (g.L p.term).length := by rw [← c.log]; exact Nat.le_refl _
    have T' := tree_C W.tree hcl hml hown hq hlt
    refine ⟨gC g p.term (comP p).toNat F.length, ?_, (ext_C g p.term n p.term _ _ c.win).toGle⟩
    refine W.more (ext_C g p.term n p.term _ _ c.win) T' ?_ (Int.le_refl _) (fun k t j _ _ h => .inl h) W.rpv W.racc W.rwin
    refine ⟨N.id, N.rep.same _ rfl rfl rfl rfl, N.path, N.le, N.term, by show p.base ≤ comP p; omega, hhas.2, N.acc, ?_, N.pv, N.mine, N.win, fun h => ?_, fun h => ?_⟩
    · exact .inr ⟨p.term, _, _, .inr ⟨rfl, rfl, rfl⟩, Int.le_refl _, Nat.le_refl _, by show Ag _ (g.L p.term) F; rw [← c.log]; exact Ag.refl hcl⟩
    · have : p.role = 1 := h
      omega
    · refine ⟨c.win, c.log, c.acc, fun a b w => ?_, fun q hq => c.prs q hq⟩
      show (a : Int) ≤ comP p
      rcases w with w | ⟨_, rfl, _⟩
      · have := hlt a b w; omega
      · omega
  · exact ⟨g, W, Gle.refl g⟩
theorem WN.com (W : WN C0 g M Fs S n p F) (hn : NB n) (hr : p.role = 2) : ∃ g', WN C0 g' M Fs S n (commitP p) F ∧ Gle g g' := by
  obtain ⟨g', W', h⟩ := W.com1 hn hr
  refine ⟨g', ?_, h⟩
  unfold commitP
  split
  · exact W'.follow hn _ _
  · exact W'
theorem WN.com_all (W : WN C0 g M Fs S n p F) (hn : NB n) (hr : p.role = 2) : Nx C0 g M Fs S n (commitP p) (allP (commitP p)) := by
  obtain ⟨g', W', h⟩ := W.com hn hr
  exact ⟨g', F, W', h, lead_all W'.tree (W'.ni hn) hn⟩
/-! ## acks -/
theorem WN.acks (W : WN C0 g M Fs S n p F) (hn : NB n) (hr : p.role = 0) {x : Nat} (hA : Ag x (g.L p.term) F) : WN C0 (gK g p.term n x) M Fs S n p F := by
  have N := W.ni hn
  refine W.more (ext_K g p.term n p.term x) (tree_K W.tree fun t i h => (N.pv t i h).1) ?_ (Int.le_refl _) (fun k t j _ _ h => .inl h) W.rpv (fun t j c h => ?_) W.rwin
  · refine ⟨N.id, N.rep, N.path, N.le, N.term, N.bc, N.cl, fun t c ha => ?_, N.cm, N.pv, N.mine, N.win, fun h => by omega, fun h => by omega⟩
    rcases ha with ha | ⟨rfl, _, hc⟩
    · exact N.acc t c ha
    · exact ⟨Int.le_refl _, Nat.le_trans hc hA.l, fun _ => hA.le hc⟩
  · rcases h with h | ⟨_, rfl, _⟩
    · exact W.racc t j c h
    · exact hn
theorem ack_mi (hn : NB n) {t : Int} {x : Nat} {m : MP} (hf : m.frm = n) (ht : m.term = t) (hk : m.kind = 4) (hx : 0 ≤ m.index ∧ m.index ≤ (x : Int)) : MI C0 (gK g t n x) m :=
  ⟨by rw [hf]; exact hn, fun h => by omega, fun h => by omega, fun h => by omega, fun _ _ => ⟨hx.1, fun c h1 h2 => .inr ⟨ht, hf, by omega⟩⟩, fun h => by omega⟩
theorem dull_mi (hn : NB n) {m : MP} (hf : m.frm = n) (hk : m.kind = 6 ∨ ((m.kind = 4 ∨ m.kind = 2) ∧ m.ok = false)) : MI C0 g m := by
  have ho : m.ok = true → m.kind = 6 := fun ho => by
    rcases hk with hk | ⟨_, hk2⟩
    · exact hk
    · rw [hk2] at ho; cases ho
  refine ⟨by rw [hf]; exact hn, fun h => ?_, fun h h2 => ?_, fun h => ?_, fun h h2 => ?_, fun h => ?_⟩
  · omega
  · have := ho h2; omega
  · omega
  · have := ho h2; omega
  · omega
end Go.Proofs.YtodcghipfolejaaGreat.Rf
/- Raft's safety: votes, elections, proposals. -/
namespace Go.Proofs.YtodcghipfolejaaGreat.Rf
open Go Go.Sl
set_option linter.unusedVariables false
set_option linter.unusedSimpArgs false

variable {C0 : List Int} {g g' : Gh} {M : Int → RP} {Fs : Int → Lg} {S : MP → Prop} {n : Int} {p p' : RP} {F F' : Lg}
theorem tmI_end {G : Lg} {e : Ent} (h : G[G.length - 1]? = some e) : tmI G G.length = e.1 := by
  have := getI h
  have h2 := tmI_get h
  rw [show G.length - 1 + 1 = G.length by omega] at h2
  exact h2
/-- who has a leader's entry votes for nobody whose log is older -/
theorem ag_newer (T : Tree C0 g) {F : Lg} (pF : Path g.L F) {s : Int} {c : Nat} (ho : Own g s c) (ha : Ag c (g.L s) F) {G : Lg} (hn : tmI F F.length < tmI G G.length ∨ (tmI G G.length = tmI F F.length ∧ F.length ≤ G.length)) : upTo G s c := by
  obtain ⟨hc, e, he, hs⟩ := ho
  obtain ⟨i, hi⟩ := T.ne s _ _ he
  have hpos := T.pos s i hi
  have hF : F[c - 1]? = some e := by rw [← ha.eq _ (by omega)]; exact he
  have hr := ha.r
  obtain ⟨f, hf⟩ := getS (G := F) (k := F.length - 1) (by omega)
  have h1 := path_mono T pF hf hF (by omega)
  have h2 := tmI_end hf
  have hG : 0 < G.length := by
    apply Classical.byContradiction
    intro hx
    have : tmI G G.length = 0 := by rw [show G.length = 0 by omega]; rfl
    omega
  obtain ⟨f', hf'⟩ := getS (G := G) (k := G.length - 1) (by omega)
  have h3 := tmI_end hf'
  refine ⟨f', hf', ?_⟩
  by_cases hx : s < f'.1
  · exact .inl hx
  · right; omega
/-! ## a vote -/
theorem newer_tm (N : NI C0 g n p F) {i t : Int} {G : Lg} (h : newerL p.g i t = true) (hi : i = (G.length : Int)) (ht : t = tmI G G.length) : tmI F F.length < tmI G G.length ∨ (tmI G G.length = tmI F F.length ∧ F.length ≤ G.length) := by
  unfold newerL at h
  rw [N.rep.lastT, N.rep.last] at h
  simp only [Bool.or_eq_true, Bool.and_eq_true, decide_eq_true_eq] at h
  omega
theorem ni_vote (N : NI C0 g n p F) {v : Int} (hr : p.role = 0) (hv : p.vote = 0 ∨ p.vote = v) (hpv0 : ∀ t j i, g.PV t j i → NB j ∧ NB i) : NI C0 g n { p with vote := v, ticks := 0 } F ∧ NI C0 (gV g p.term n v) n { p with vote := v, ticks := 0 } F ∧ ∀ k, g.PV p.term n k → k = v := by
  have key : ∀ k, g.PV p.term n k → k = v := fun k h => by
    have h1 := (N.pv _ _ h).2 rfl
    have h2 := (hpv0 _ _ _ h).2
    unfold NB at h2
    omega
  refine ⟨⟨N.id, N.rep.same _ rfl rfl rfl rfl, N.path, N.le, N.term, N.bc, N.cl, N.acc, N.cm, fun t i h => ⟨(N.pv t i h).1, fun e => ?_⟩, N.mine, N.win, fun h => ?_, fun h => ?_⟩, ⟨N.id, N.rep.same _ rfl rfl rfl rfl, N.path, N.le, N.term, N.bc, N.cl, N.acc, N.cm, fun t i h => ?_, fun t j h => ?_, N.win, fun h => ?_, fun h => ?_⟩, key⟩
  · have e' : t = p.term := e
    subst e'
    exact (key _ h).symm
  · have : p.role = 1 := h
    omega
  · have : p.role = 2 := h
    omega
  · rcases h with h | ⟨rfl, _, rfl⟩
    · refine ⟨(N.pv t i h).1, fun e => ?_⟩
      have e' : t = p.term := e
      subst e'
      exact (key _ h).symm
    · exact ⟨Int.le_refl _, fun _ => rfl⟩
  · rcases h with h | ⟨rfl, _, rfl⟩
    · exact N.mine t j h
    · exact Int.le_refl _
  · have : p.role = 1 := h
    omega
  · have : p.role = 2 := h
    omega
theorem WN.vote (W : WN C0 g M Fs S n p F) (hn : NB n) {m : MP} (hm : MI C0 g m) (hk : m.kind = 1) (hne : m.frm ≠ n) (ht : m.term ≤ (M m.frm).term) : Nx C0 g M Fs S n (voteP p m) [grantM (voteP p m) m.frm (voteOk p m)] := by
  have N := W.ni hn
  unfold voteP
  by_cases hok : voteOk p m = true
  · rw [if_pos hok]
    have hok' := hok
    unfold voteOk at hok'
    simp only [Bool.and_eq_true, Bool.or_eq_true, decide_eq_true_eq] at hok'
    obtain ⟨h1, h2, h3, h4⟩ := hok'
    obtain ⟨n1, n2, key⟩ := ni_vote N (v := m.frm) h2 h3 W.rpv
    obtain ⟨k1, k2⟩ := hm.k1 hk
    have mi : ∀ g2 : Gh, (g2.PV m.term n m.frm ∨ g2.Win m.term m.frm) → MI C0 g2 (grantM { p with vote := m.frm, ticks := 0 } m.frm (voteOk p m)) := fun g2 hx =>
      ⟨by show NB p.id; rw [N.id]; exact hn, fun h => absurd (show (2 : Int) = 1 from h) (by decide), fun _ _ => by
        show g2.PV p.term p.id m.frm ∨ g2.Win p.term m.frm
        rw [N.id, ← h1]; exact hx, fun h => absurd (show (2 : Int) = 3 from h) (by decide), fun h => absurd (show (2 : Int) = 4 from h) (by decide), fun h => absurd (show (2 : Int) = 5 from h) (by decide)⟩
    by_cases hw : g.Win m.term m.frm
    · exact Nx.one (W.quiet n1 (Int.le_refl _)) (mi g (.inr hw)) N.id (fun h => absurd (show (2 : Int) = 1 from h) (by decide))
    · have hT : Tree C0 (gV g p.term n m.frm) := by
        refine tree_V W.tree key fun s c ha hs ho hpr => ?_
        refine ag_newer W.tree N.path ho ?_ (newer_tm N h4 (by rw [k1, h1]) (by rw [k2, h1]))
        refine (N.acc s c ha).2.2 fun s' l w' hs1 hs2 => ?_
        refine hpr s' l w' hs1 ?_
        by_cases e : s' = p.term
        · right
          refine ⟨e, ?_⟩
          rintro rfl
          rw [e, ← h1] at w'
          exact hw w'
        · left; omega
      have W' : WN C0 (gV g p.term n m.frm) M Fs S n { p with vote := m.frm, ticks := 0 } F := by
        refine W.more (ext_V g p.term n m.frm p.term) hT n2 (Int.le_refl _) (fun k t j hk1 hk2 h => ?_) (fun t j i h => ?_) W.racc W.rwin
        · rcases h with h | ⟨rfl, _, rfl⟩
          · exact .inl h
          · right; rw [← h1]; exact ht
        · rcases h with h | ⟨_, rfl, rfl⟩
          · exact W.rpv t j i h
          · exact ⟨hn, hm.frm⟩
      exact Nx.up (ext_V g p.term n m.frm p.term).toGle (Nx.one W' (mi _ (.inl (.inr ⟨h1, rfl, rfl⟩))) N.id (fun h => absurd (show (2 : Int) = 1 from h) (by decide)))
  · rw [if_neg hok]
    refine Nx.one W ?_ N.id (fun h => absurd (show (2 : Int) = 1 from h) (by decide))
    exact dull_mi hn N.id (.inr ⟨.inr rfl, by show voteOk p m = false; simpa using hok⟩)
/-! ## who stands -/
theorem WN.stand (W : WN C0 g M Fs S n p F) (hn : NB n) : ∃ g', WN C0 g' M Fs S n (stand1 p) F ∧ Gle g g' := by
  have N := W.ni hn
  have hw : ¬ g.Win (p.term + 1) n := fun h => by have := (N.win _ h).1; omega
  have hp : ∀ j, ¬ g.PV (p.term + 1) j n := fun j h => by have := N.mine _ _ h; omega
  have hpn : ∀ k, ¬ g.PV (p.term + 1) n k := fun k h => by have := (N.pv _ _ h).1; omega
  have T1 := tree_S (F := F) W.tree hw hp
  have hcb : (gS g (p.term + 1) n F).CB (p.term + 1) n = F := if_pos ⟨rfl, rfl⟩
  have T2 : Tree C0 (gV (gS g (p.term + 1) n F) (p.term + 1) n n) := by
    refine tree_V T1 (fun k h => absurd h (hpn k)) fun s c ha hs ho hpr => ?_
    rw [hcb]
    refine ag_newer W.tree N.path ho ?_ (.inr ⟨rfl, Nat.le_refl _⟩)
    exact (N.acc s c ha).2.2 fun s' l w' h1 h2 => hpr s' l w' h1 (.inl (by omega))
  have E : Ext g (gV (gS g (p.term + 1) n F) (p.term + 1) n n) n p.term := (ext_S g (p.term + 1) n p.term F (by omega)).trans (ext_V _ _ _ _ _)
  refine ⟨_, ?_, E.toGle⟩
  have hle : p.term ≤ p.term + 1 := by omega
  refine W.more E T2 ?_ hle (fun k t j hk _ h => ?_) (fun t j i h => ?_) W.racc W.rwin
  · refine ⟨N.id, N.rep.same _ rfl rfl rfl rfl, N.path, fun k e he => Int.le_trans (N.le k e he) hle, Int.le_trans N.term hle, N.bc, N.cl, fun t c ha => ?_, N.cm.le hle, fun t i h => ?_, fun t j h => ?_, fun t w => ?_, fun _ => ?_, fun h => absurd (show (1 : Int) = 2 from h) (by decide)⟩
    · obtain ⟨h1, h2, h3⟩ := N.acc t c ha
      exact ⟨Int.le_trans h1 hle, h2, h3.up hle⟩
    · rcases h with h | ⟨rfl, _, rfl⟩
      · have := (N.pv t i h).1
        exact ⟨Int.le_trans this hle, fun e => by have e' : t = p.term + 1 := e; omega⟩
      · exact ⟨Int.le_refl _, fun _ => N.id⟩
    · rcases h with h | ⟨rfl, _, _⟩
      · exact Int.le_trans (N.mine t j h) hle
      · exact Int.le_refl _
    · have := (N.win t w).1
      exact ⟨Int.le_trans this hle, fun e => by have e' : t = p.term + 1 := e; omega⟩
    · refine ⟨hcb.symm, fun k e he => ?_, fun j hj => ?_, ?_⟩
      · have := N.le k e he
        show e.1 < p.term + 1
        omega
      · have e1 : j = n := by rw [← N.id]; exact List.mem_singleton.1 hj
        exact .inr ⟨rfl, e1, rfl⟩
      · have := N.term
        show 1 ≤ p.term + 1
        omega
  · rcases h with h | ⟨_, _, rfl⟩
    · exact .inl h
    · exact absurd rfl hk
  · rcases h with h | ⟨_, rfl, rfl⟩
    · exact W.rpv t j i h
    · exact ⟨hn, hn⟩
/-! ## a log grows -/
theorem AccI.app {T : Int} {t : Int} {c : Nat} (X : Lg) (h : AccI g T F t c) : AccI g T (F ++ X) t c := fun hp => (h hp).app X
theorem PrI.more (h : Gle g g') {t : Int} {q : Pr} (e : Ent) (hq : PrI g t F q) : PrI g' t (F ++ [e]) q := by
  obtain ⟨q1, q2, q3, q4, q5⟩ := hq
  have hl : (F ++ [e]).length = F.length + 1 := by rw [List.length_append]; rfl
  exact ⟨q1, by rw [hl]; omega, q3, by rw [hl]; omega, fun c h1 h2 => h.acc _ _ _ (q5 c h1 h2)⟩
theorem PrI.fresh {t : Int} {q : Pr} (h1 : 1 ≤ q.next) (h2 : q.next ≤ (F.length : Int) + 1) (h3 : q.mtc = 0) : PrI g t F q := ⟨h1, h2, by omega, by omega, fun c a b => by omega⟩
/-- .. in any way, at its owner's: the log is the leader's own -/
theorem ni_app {T0 : Int} (N : NI C0 g n p F) (h : Gle g g') (T' : Tree C0 g') {e : Ent} (he : e.1 = p.term) (hb : p'.base = p.base) (hid : p'.id = p.id) (hl : p'.l = p.l ++ [e]) (hbt : p'.bt = p.bt) (hc : p'.conf = p.conf) (ht : p'.term = p.term) (hv : p'.vote = p.vote) (hcm : p'.commit = p.commit) (hr : p'.role = 2)
    (hL : g'.L p.term = F ++ [e]) (hacc : ∀ t c, g'.Acc t n c → g.Acc t n c ∨ (t = p.term ∧ c ≤ (F ++ [e]).length)) (hpv : ∀ t j i, g'.PV t j i → g.PV t j i) (hwin : ∀ t, g'.Win t n → g.Win t n ∨ t = p.term) (hld : LeadI g' n p' (F ++ [e])) : NI C0 g' n p' (F ++ [e]) := by
  have hA : Ag F.length F (F ++ [e]) := (Ag.refl (Nat.le_refl _)).app [e]
  have hbc := N.bc
  have hcl := N.cl
  have hb0 := N.rep.b0
  refine ⟨hid.trans N.id, (N.rep.app e).same p' hb hl hbt hc, by rw [← hL]; exact T'.path _, fun k f hf => ?_, by rw [ht]; exact N.term, by rw [hb, hcm]; exact hbc, ?_, fun t c ha => ?_, ?_, fun t i hx => by rw [ht, hv]; exact N.pv t i (hpv _ _ _ hx), fun t j hx => by rw [ht]; exact N.mine t j (hpv _ _ _ hx), fun t hw => ?_, fun hx => by omega, fun _ => hld⟩
  · rw [ht]
    exact T'.le p.term k f (by rw [hL]; exact hf)
  · rw [hcm, List.length_append]
    show p.commit ≤ ((F.length + 1 : Nat) : Int)
    omega
  · rw [ht]
    rcases hacc t c ha with ha | ⟨rfl, hc⟩
    · obtain ⟨h1, h2, h3⟩ := N.acc t c ha
      exact ⟨h1, Nat.le_trans h2 (h.L t).r, (h3.ext h h2).app [e]⟩
    · refine ⟨Int.le_refl _, by rw [hL]; exact hc, fun _ => ?_⟩
      rw [hL]; exact Ag.refl hc
  · rw [ht, hcm]
    exact (N.cm.ext h).ag (hA.le (show p.commit.toNat ≤ F.length by omega)) (Nat.le_refl _)
  · rw [ht, hr]
    rcases hwin t hw with hw | rfl
    · exact ⟨(N.win t hw).1, fun _ => by decide⟩
    · exact ⟨Int.le_refl _, fun _ => by decide⟩
/-! ## an election -/
theorem cand_elec (N : NI C0 g n p F) (hr : p.role = 1) (hw : wins p = true) : Elec C0 g p.term n F := by
  have c := N.cand hr
  refine ⟨N.path, c.lt, ⟨p.votes, ?_, c.vs⟩, c.log.symm⟩
  rw [← N.rep.confL]; exact hw
theorem peers_fresh (p : RP) (h : 0 ≤ lastI p.g) : ∀ q ∈ peersL (lead1 p), 1 ≤ q.next ∧ q.next = lastI p.g + 1 ∧ q.mtc = 0 := by
  intro q hq
  unfold peersL at hq
  obtain ⟨k, hk, rfl⟩ := List.mem_map.1 hq
  have e : peerOf (lead1 p) k = ⟨k, lastI p.g + 1, 0, 0⟩ := rfl
  rw [e]
  exact ⟨by show 1 ≤ lastI p.g + 1; omega, rfl, rfl⟩
theorem WN.lead2 (W : WN C0 g M Fs S n p F) (hn : NB n) (hr : p.role = 1) (hwin : wins p = true) : ∃ g' F', WN C0 g' M Fs S n (lead2 p) F' ∧ Gle g g' := by
  have N := W.ni hn
  have c := N.cand hr
  have E := cand_elec N hr hwin
  have hnw : ¬ g.Win p.term n := fun h => (N.win _ h).2 rfl hr
  have hno : ∀ i, ¬ g.Win p.term i := fun i h => one_win W.tree E h hnw
  have h0 := no_entry W.tree hno
  have hxc : isC ((p.term, 1, []) : Ent) = false := rfl
  have T1 := tree_W (x := (p.term, 1, [])) W.tree E hno rfl hxc c.pos W.accle
  have T2 : Tree C0 (gK (gW g p.term n F (p.term, 1, [])) p.term n (F.length + 1)) := tree_K T1 fun t i h => (N.pv t i h).1
  have EX : Ext g (gK (gW g p.term n F (p.term, 1, [])) p.term n (F.length + 1)) n p.term := (ext_W p.term h0 hno).trans (ext_K _ _ _ _ _)
  have hL : (gK (gW g p.term n F (p.term, 1, [])) p.term n (F.length + 1)).L p.term = F ++ [(p.term, 1, [])] := gW_L g p.term n F _
  have hlen : (F ++ [((p.term, 1, []) : Ent)]).length = F.length + 1 := by rw [List.length_append]; rfl
  have hlast : lastI p.g = (F.length : Int) := N.rep.last
  refine ⟨_, F ++ [(p.term, 1, [])], W.more EX T2 ?_ (Int.le_refl _) (fun k t j _ _ h => .inl h) W.rpv (fun t j c h => ?_) (fun t i h => ?_), EX.toGle⟩
  · refine ni_app (T0 := 0) N EX.toGle T2 rfl rfl rfl rfl rfl rfl rfl rfl rfl rfl hL (fun t c h => ?_) (fun t j i h => h) (fun t h => ?_) ?_
    · rcases h with h | ⟨rfl, _, h⟩
      · exact .inl h
      · exact .inr ⟨rfl, by rw [hlen]; exact h⟩
    · rcases h with h | ⟨rfl, _⟩
      · exact .inl h
      · exact .inr rfl
    · refine ⟨.inr ⟨rfl, rfl⟩, hL.symm, fun c hc => .inr ⟨rfl, rfl, by rw [hlen] at hc; exact hc⟩, fun a b w => ?_, fun q hq => ?_⟩
      · exfalso
        obtain ⟨_, _, ⟨_, e, he, _⟩⟩ := W.tree.comw _ a b w
        have h0' : g.L (Rf.lead2 p).term = [] := h0
        rw [h0'] at he
        cases he
      · obtain ⟨h1, h2, h3⟩ := peers_fresh p (by omega) q hq
        exact PrI.fresh h1 (by rw [hlen, h2, hlast]; omega) h3
  · rcases h with h | ⟨_, rfl, _⟩
    · exact W.racc t j c h
    · exact hn
  · rcases h with h | ⟨_, rfl⟩
    · exact W.rwin t i h
    · exact hn
theorem WN.lead (W : WN C0 g M Fs S n p F) (hn : NB n) (hr : p.role = 1) (hwin : wins p = true) : Nx C0 g M Fs S n (leadP p) (leadM p) := by
  obtain ⟨g', F', W', h⟩ := W.lead2 hn hr hwin
  exact Nx.up h (W'.com_all hn rfl)
theorem WN.tick (W : WN C0 g M Fs S n p F) (hn : NB n) : Nx C0 g M Fs S n (tickP p) (tickM p) := by
  unfold tickP tickM
  by_cases h2 : p.role = 2
  · rw [if_pos h2, if_pos h2]
    exact ⟨g, F, W, Gle.refl g, lead_all W.tree (W.ni hn) hn⟩
  · rw [if_neg h2, if_neg h2]
    have W1 : WN C0 g M Fs S n (tick1 p) F := W.quiet ((W.ni hn).keep rfl rfl rfl rfl rfl rfl rfl rfl rfl (fun _ => rfl) (fun h c => absurd h h2)) (Int.le_refl _)
    by_cases hs : stands (tick1 p) = true
    · rw [if_pos hs, if_pos hs]
      obtain ⟨g', W2, h⟩ := W1.stand hn
      refine Nx.up h ?_
      unfold standP standM
      by_cases hw : wins (stand1 (tick1 p)) = true
      · rw [if_pos hw, if_pos hw]
        exact W2.lead hn rfl hw
      · rw [if_neg hw, if_neg hw]
        refine ⟨g', F, W2, Gle.refl _, fun m hm => ?_⟩
        obtain ⟨k, hk, rfl⟩ := List.mem_map.1 hm
        have N := W2.ni hn
        have c := N.cand rfl
        refine ⟨⟨by show NB p.id; rw [(W.ni hn).id]; exact hn, fun _ => ?_, fun h => absurd (show (1 : Int) = 2 from h) (by decide), fun h => absurd (show (1 : Int) = 3 from h) (by decide), fun h => absurd (show (1 : Int) = 4 from h) (by decide), fun h => absurd (show (1 : Int) = 5 from h) (by decide)⟩, (W.ni hn).id, fun _ => Int.le_refl _⟩
        show lastI (stand1 (tick1 p)).g = ((g'.CB (stand1 (tick1 p)).term p.id).length : Int) ∧ lastT (stand1 (tick1 p)).g = tmI (g'.CB (stand1 (tick1 p)).term p.id) (g'.CB (stand1 (tick1 p)).term p.id).length
        rw [(W.ni hn).id, ← c.log]
        exact ⟨N.rep.last, N.rep.lastT⟩
    · rw [if_neg hs, if_neg hs]
      exact Nx.done W1
/-! ## a granted vote -/
theorem WN.grant (W : WN C0 g M Fs S n p F) (hn : NB n) {m : MP} (hm : MI C0 g m) (hk : m.kind = 2) (hto : m.to = n) : Nx C0 g M Fs S n (grantP p m) (grantMs p m) := by
  unfold grantP grantMs
  by_cases hg : grantOk p m = true
  · rw [if_pos hg, if_pos hg]
    have hg' := hg
    unfold grantOk at hg'
    simp only [Bool.and_eq_true, decide_eq_true_eq] at hg'
    obtain ⟨h1, h2, h3⟩ := hg'
    have N := W.ni hn
    have c := N.cand h1
    have hpv : g.PV p.term m.frm n := by
      rcases hm.k2 hk h3 with h | h
      · rw [h2, hto] at h; exact h
      · rw [h2, hto] at h
        exact absurd h1 ((N.win _ h).2 rfl)
    have W1 : WN C0 g M Fs S n (grant1 p m) F := by
      refine W.quiet ⟨N.id, N.rep.same _ rfl rfl rfl rfl, N.path, N.le, N.term, N.bc, N.cl, N.acc, N.cm, N.pv, N.mine, N.win, fun h => ⟨c.log, c.lt, fun j hj => ?_, c.pos⟩, fun h => ?_⟩ (Int.le_refl _)
      · have hj' : j ∈ pick (fun x => inB p.votes x || decide (x = m.frm)) 5 := hj
        unfold pick at hj'
        have := (List.mem_filter.1 hj').2
        simp only [Bool.or_eq_true, decide_eq_true_eq, inB] at this
        rcases this with h | rfl
        · exact c.vs j h
        · exact hpv
      · have : p.role = 2 := h
        omega
    by_cases hw : wins (grant1 p m) = true
    · rw [if_pos hw, if_pos hw]
      exact W1.lead hn h1 hw
    · rw [if_neg hw, if_neg hw]
      exact Nx.done W1
  · rw [if_neg hg, if_neg hg]
    exact Nx.done W
/-! ## a proposal -/
theorem prop_just (W : WN C0 g M Fs S n p F) (hn : NB n) (hr : p.role = 2) {ed : Bs} (he : changesE p ed = 0) : stepS (cf C0 (g.L p.term)) (readL ed) = true ∧ ∃ c m, g.Com p.term c m ∧ Jus g p.term (g.L p.term).length c := by
  have N := W.ni hn
  have c := N.lead hr
  have hb0 := N.rep.b0
  have hbc := N.bc
  have hcl := N.cl
  unfold changesE at he
  split at he
  · cases he
  · rename_i h1
    split at he
    · cases he
    · rename_i h2
      have h3 : stepS (confL p) (readL ed) = true := by
        cases hx : stepS (confL p) (readL ed)
        · exact absurd (.inr hx) h1
        · rfl
      have h4 : confI p ≤ p.commit := by
        apply Classical.byContradiction; intro hx; exact h2 (.inl (by omega))
      have h5 : termV p.g p.commit = p.term := by
        apply Classical.byContradiction; intro hx; exact h2 (.inr hx)
      rw [N.rep.term hbc hcl] at h5
      have hpos := W.tree.pos _ _ c.win
      have hc1 : 1 ≤ p.commit.toNat := by
        apply Classical.byContradiction
        intro hx
        rw [show p.commit.toNat = 0 by omega] at h5
        have : tmI F 0 = 0 := rfl
        omega
      rw [← c.log]
      refine ⟨by rw [← N.rep.confL]; exact h3, ?_⟩
      rcases N.cm with hx | ⟨s, x, m, w1, w2, w3, w4⟩
      · omega
      · have hs : s = p.term := by
          obtain ⟨e, hee⟩ := getS (G := F) (k := p.commit.toNat - 1) (by omega)
          have e1 := tmI_get hee
          rw [show p.commit.toNat - 1 + 1 = p.commit.toNat by omega, h5] at e1
          have e2 := w4.eq (p.commit.toNat - 1) (by omega)
          rw [hee] at e2
          have := W.tree.le s _ _ e2
          omega
        subst hs
        have hx := c.com x m w1
        have hxe : x = p.commit.toNat := by omega
        obtain ⟨_, _, hown⟩ := W.tree.comw _ x m w1
        refine ⟨x, m, w1, hown, by rw [hxe]; omega, fun k' hk' hck => ?_⟩
        apply Classical.byContradiction
        intro hge
        refine N.rep.confI.2 k' (by omega) ?_
        rw [c.log]; exact hck
theorem prop_peers (p : RP) (ek : Int) (ed : Bs) (hl : 0 ≤ lastI p.g) : ∀ q ∈ (prop2 p ek ed).peers, q ∈ p.peers ∨ (1 ≤ q.next ∧ q.next = lastI p.g + 2 ∧ q.mtc = 0) := by
  intro q hq
  unfold prop2 at hq
  split at hq
  · have hq' : q ∈ peersL (prop1 p ek ed) := hq
    unfold peersL at hq'
    obtain ⟨k, hk, rfl⟩ := List.mem_map.1 hq'
    rcases peerOf_cases (prop1 p ek ed) k with h | h
    · right
      have e : lastI (prop1 p ek ed).g = lastI p.g + 1 := by
        show p.base + (((p.l ++ [(p.term, ek, ed)]).length : Nat) : Int) = p.base + (p.l.length : Int) + 1
        rw [List.length_append]
        show p.base + ((p.l.length + 1 : Nat) : Int) = _
        omega
      rw [h, e]
      exact ⟨by show 1 ≤ lastI p.g + 1 + 1; omega, by show lastI p.g + 1 + 1 = _; omega, rfl⟩
    · exact .inl h
  · exact .inl hq
theorem prop2_keep (p : RP) (ek : Int) (ed : Bs) : (prop2 p ek ed).id = p.id ∧ (prop2 p ek ed).base = p.base ∧ (prop2 p ek ed).l = p.l ++ [(p.term, ek, ed)] ∧ (prop2 p ek ed).bt = p.bt ∧ (prop2 p ek ed).conf = p.conf ∧ (prop2 p ek ed).term = p.term ∧ (prop2 p ek ed).vote = p.vote ∧ (prop2 p ek ed).commit = p.commit ∧ (prop2 p ek ed).role = p.role := by
  unfold prop2; split <;> exact ⟨rfl, rfl, rfl, rfl, rfl, rfl, rfl, rfl, rfl⟩
theorem WN.prop (W : WN C0 g M Fs S n p F) (hn : NB n) (ek : Int) (ed : Bs) : Nx C0 g M Fs S n (propP p ek ed) (propM p ek ed) := by
  unfold propP propM
  by_cases he : propE p ek ed = 0
  · rw [if_pos he, if_pos he]
    have N := W.ni hn
    have hr : p.role = 2 := by
      apply Classical.byContradiction
      intro hx
      unfold propE at he
      rw [if_pos hx] at he; cases he
    have c := N.lead hr
    have hx : isC ((p.term, ek, ed) : Ent) = true → stepS (cf C0 (g.L p.term)) (readL ed) = true ∧ ∃ c m, g.Com p.term c m ∧ Jus g p.term (g.L p.term).length c := by
      intro hc
      unfold isC at hc
      simp only [Bool.and_eq_true, decide_eq_true_eq] at hc
      refine prop_just W hn hr ?_
      have h2 : ek = 2 := hc.1
      unfold propE at he
      rw [if_neg (by omega)] at he
      split at he
      · cases he
      split at he
      · cases he
      split at he
      · cases he
      exact he
    have hu : ∀ i, g.Win p.term i → i = n := fun i h => W.tree.uniq _ _ _ h c.win
    have T1 := tree_A (x := (p.term, ek, ed)) W.tree c.win rfl W.accle hx
    have T2 : Tree C0 (gK (gA g p.term (p.term, ek, ed)) p.term n (F.length + 1)) := tree_K T1 fun t i h => (N.pv t i h).1
    have EX : Ext g (gK (gA g p.term (p.term, ek, ed)) p.term n (F.length + 1)) n p.term := (ext_A g p.term n p.term _ hu).trans (ext_K _ _ _ _ _)
    have hL : (gK (gA g p.term (p.term, ek, ed)) p.term n (F.length + 1)).L p.term = F ++ [(p.term, ek, ed)] := by rw [c.log]; exact gA_L g p.term _
    have hlen : (F ++ [((p.term, ek, ed) : Ent)]).length = F.length + 1 := by rw [List.length_append]; rfl
    have hlast : lastI p.g = (F.length : Int) := N.rep.last
    obtain ⟨k1, k2, k3, k4, k5, k6, k7, k8, k9⟩ := prop2_keep p ek ed
    have W' : WN C0 (gK (gA g p.term (p.term, ek, ed)) p.term n (F.length + 1)) M Fs S n (prop2 p ek ed) (F ++ [(p.term, ek, ed)]) := by
      refine W.more EX T2 ?_ (by rw [k6]; exact Int.le_refl _) (fun k t j _ _ h => .inl h) W.rpv (fun t j c h => ?_) W.rwin
      · refine ni_app (T0 := 0) N EX.toGle T2 rfl k2 k1 k3 k4 k5 k6 k7 k8 (k9.trans hr) hL (fun t c h => ?_) (fun t j i h => h) (fun t h => .inl h) ?_
        · rcases h with h | ⟨rfl, _, h⟩
          · exact .inl h
          · exact .inr ⟨rfl, by rw [hlen]; exact h⟩
        · refine ⟨by rw [k6]; exact c.win, by rw [k6]; exact hL.symm, fun x hx => by rw [k6]; exact .inr ⟨rfl, rfl, by rw [hlen] at hx; exact hx⟩, fun a b w => by rw [k8]; rw [k6] at w; exact c.com a b w, fun q hq => ?_⟩
          rw [k6]
          rcases prop_peers p ek ed (by omega) q hq with h | ⟨h1, h2, h3⟩
          · exact (c.prs q h).more EX.toGle _
          · exact PrI.fresh h1 (by rw [hlen, h2, hlast]; omega) h3
      · rcases h with h | ⟨_, rfl, _⟩
        · exact W.racc t j c h
        · exact hn
    exact Nx.up EX.toGle (W'.com_all hn (k9.trans hr))
  · rw [if_neg he, if_neg he]
    exact Nx.done W
end Go.Proofs.YtodcghipfolejaaGreat.Rf
/- Raft's safety: a leader's entries and pieces, peers' answers; an event. -/
namespace Go.Proofs.YtodcghipfolejaaGreat.Rf
open Go Go.Sl
set_option linter.unusedVariables false
set_option linter.unusedSimpArgs false

variable {C0 : List Int} {g g' : Gh} {M : Int → RP} {Fs : Int → Lg} {S : MP → Prop} {n : Int} {p p' : RP} {F F' : Lg}
/-- an entry's term at the same index in a leader's log: all ahead of it is the same -/
theorem tm_same (T : Tree C0 g) (pF : Path g.L F) {t : Int} {x : Nat} (h1 : x ≤ F.length) (h2 : x ≤ (g.L t).length) (h : tmI F x = tmI (g.L t) x) : Ag x (g.L t) F := by
  cases x with
  | zero => exact Ag.zero _ _
  | succ k =>
    obtain ⟨e, he⟩ := getS (G := F) (k := k) (by omega)
    obtain ⟨f, hf⟩ := getS (G := g.L t) (k := k) (by omega)
    rw [tmI_get he, tmI_get hf] at h
    exact (path_same pF (T.path t) he hf h).symm
structure Mg (g : Gh) (t : Int) (F : Lg) (x0 : Int) (l : List Ent) : Prop where
  A : Ag x0.toNat (g.L t) F
  len : x0.toNat + l.length ≤ (g.L t).length
  at_ : ∀ k, k < l.length → (g.L t)[x0.toNat + k]? = l[k]?
theorem mg_same (R : Rep C0 p F) (T : Tree C0 g) (pF : Path g.L F) {t x0 : Int} {l : List Ent} (hx : p.base ≤ x0) (h : Mg g t F x0 l) {k : Nat} (hk : k < l.length) : same p.g x0 l k = true ↔ Ag (x0.toNat + k + 1) (g.L t) F := by
  have hb := R.b0
  have hlk := h.at_ k hk
  obtain ⟨f, hf⟩ := getS (G := g.L t) (k := x0.toNat + k) (by have := h.len; omega)
  have hl : l.getD k E0 = f := by rw [List.getD_eq_getElem?_getD, ← hlk, hf]; rfl
  unfold same
  rw [Bool.and_eq_true, decide_eq_true_eq, hl]
  constructor
  · rintro ⟨h1, h2⟩
    have h3 := (R.has _).1 h1
    rw [R.term h3.1 h3.2, show (x0 + 1 + (k : Int)).toNat = x0.toNat + k + 1 by omega, ← tmI_get hf] at h2
    exact tm_same T pF (by omega) (by have := getI hf; omega) h2
  · intro hA
    have h3 := hA.r
    refine ⟨(R.has _).2 ⟨by omega, by omega⟩, ?_⟩
    rw [R.term (by omega) (by omega), show (x0 + 1 + (k : Int)).toNat = x0.toNat + k + 1 by omega, ← tmI_get hf]
    exact (tmI_ag hA (Nat.le_refl _)).symm
theorem mg_first (R : Rep C0 p F) (T : Tree C0 g) (pF : Path g.L F) {t x0 : Int} {l : List Ent} (hx : p.base ≤ x0) (h : Mg g t F x0 l) : Ag (x0.toNat + firstD p.g x0 l) (g.L t) F ∧ (firstD p.g x0 l < l.length → ∀ c, Ag c (g.L t) F → c ≤ x0.toNat + firstD p.g x0 l) := by
  have hd := firstD_le p.g x0 l
  refine ⟨?_, fun hlt c hA => ?_⟩
  · by_cases h0 : firstD p.g x0 l = 0
    · rw [h0]; exact h.A
    · have h1 := firstD_before (g := p.g) (prev := x0) (l := l) (j := firstD p.g x0 l - 1) (by omega)
      have := (mg_same R T pF hx h (k := firstD p.g x0 l - 1) (by omega)).1 h1
      rw [show x0.toNat + (firstD p.g x0 l - 1) + 1 = x0.toNat + firstD p.g x0 l by omega] at this
      exact this
  · apply Classical.byContradiction
    intro hn
    have h1 := firstD_same (g := p.g) (prev := x0) (l := l) hlt
    rw [(mg_same R T pF hx h hlt).2 (hA.le (by omega))] at h1
    cases h1
/-- what a merge leaves -/
structure MgR (C0 : List Int) (g : Gh) (t : Int) (p : RP) (F : Lg) (l : List Ent) (x : Nat) (F' : Lg) : Prop where
  rep : Rep C0 { p with l := l } F'
  path : Path g.L F'
  le : ∀ (k : Nat) (e : Ent), F'[k]? = some e → e.1 ≤ t
  A : Ag x (g.L t) F'
  com : Ag p.commit.toNat F F'
  keep : ∀ c, Ag c (g.L t) F → Ag c (g.L t) F'
theorem mg_res (N : NI C0 g n p F) (T : Tree C0 g) {t x0 tm : Int} {l : List Ent} (ht : p.term = t) (hx : p.base ≤ x0) (h : Mg g t F x0 l) (hok : (mrgB p.g x0 tm l).ok = true) (hat : ¬ (0 < (mrgB p.g x0 tm l).at_ ∧ (mrgB p.g x0 tm l).at_ ≤ p.commit)) : ∃ F', MgR C0 g t p F (mrgB p.g x0 tm l).l (x0.toNat + l.length) F' := by
  have R := N.rep
  have hb := R.b0
  have hbc := N.bc
  have hcl := N.cl
  obtain ⟨h1, h2⟩ := mg_first R T N.path hx h
  unfold mrgB at hok hat ⊢
  by_cases hh : (hasL p.g x0 && decide (termV p.g x0 = tm)) = false
  · rw [if_pos hh] at hok; cases hok
  · rw [if_neg hh] at hat ⊢
    by_cases hd : firstD p.g x0 l = l.length
    · rw [if_pos hd] at hat ⊢
      rw [hd] at h1
      exact ⟨F, R.same _ rfl rfl rfl rfl, N.path, by rw [← ht]; exact N.le, h1, Ag.refl (by omega), fun c hc => hc⟩
    · rw [if_neg hd] at hat ⊢
      have hdl := firstD_le p.g x0 l
      have hy : firstD p.g x0 l < l.length := by omega
      have hat' : ¬ (0 < x0 + 1 + (firstD p.g x0 l : Int) ∧ x0 + 1 + (firstD p.g x0 l : Int) ≤ p.commit) := hat
      generalize hdd : firstD p.g x0 l = d at *
      have hyF : x0.toNat + d ≤ F.length := h1.r
      have htl : (F.take (x0.toNat + d)).length = x0.toNat + d := by rw [List.length_take]; omega
      have hlen : (F.take (x0.toNat + d) ++ l.drop d).length = x0.toNat + l.length := by rw [List.length_append, htl, List.length_drop]; omega
      have hFF : Ag (x0.toNat + d) F (F.take (x0.toNat + d) ++ l.drop d) := (Ag.take hyF).app _
      have hAg : Ag (x0.toNat + l.length) (g.L t) (F.take (x0.toNat + d) ++ l.drop d) := by
        refine ⟨h.len, by rw [hlen]; exact Nat.le_refl _, fun k hk => ?_⟩
        by_cases hkd : k < x0.toNat + d
        · rw [h1.eq k hkd]; exact hFF.eq k hkd
        · rw [List.getElem?_append_right (by omega), htl, List.getElem?_drop]
          have := h.at_ (k - x0.toNat) (by omega)
          rw [show x0.toNat + (k - x0.toNat) = k by omega] at this
          rw [this]
          congr 1; omega
      have hget : ∀ (k : Nat) (e : Ent), (F.take (x0.toNat + d) ++ l.drop d)[k]? = some e → k < x0.toNat + l.length ∧ (g.L t)[k]? = some e := fun k e he => by
        have hk := getI he
        rw [hlen] at hk
        exact ⟨hk, by rw [hAg.eq k hk]; exact he⟩
      refine ⟨F.take (x0.toNat + d) ++ l.drop d, ⟨hb, ?_, ?_, ?_, ?_⟩, fun k e he => ?_, fun k e he => ?_, hAg, hFF.le (by omega), fun c hc => hAg.le (by have := h2 hy c hc; omega)⟩
      · show p.base.toNat ≤ _
        rw [hlen]; omega
      · show p.g.l.take ((x0 - p.g.base).toNat + d) ++ l.drop d = (F.take (x0.toNat + d) ++ l.drop d).drop p.base.toNat
        rw [List.drop_append_of_le_length (by rw [htl]; omega), List.drop_take, ← R.l]
        congr 2
        show (x0 - p.base).toNat + d = x0.toNat + d - p.base.toNat
        omega
      · show p.bt = _
        rw [R.bt]; exact tmI_ag hFF (by omega)
      · show p.conf = _
        rw [R.conf]; exact cfN_ag C0 hFF _ (by omega)
      · obtain ⟨hk, he'⟩ := hget k e he
        exact (hAg.symm.le (by omega)).trans (T.path t k e he')
      · exact T.le t k e (hget k e he).2
theorem tk_res (N : NI C0 g n p F) (T : Tree C0 g) {m : MP} (hm : MI C0 g m) (hk : m.kind = 3) (ht : m.term = p.term) (hok : (tkR p m).ok = true) (hat : ¬ (0 < (tkR p m).at_ ∧ (tkR p m).at_ ≤ p.commit)) : ∃ F' x, MgR C0 g p.term p F (tkR p m).l x F' ∧ 0 ≤ matchI m ∧ (matchI m).toNat ≤ x := by
  obtain ⟨hw, h0, h1, h2, h3, h4, h5⟩ := hm.k3 hk
  rw [ht] at hw h1 h2 h3 h5
  have hb := N.rep.b0
  have hbc := N.bc
  have hmi : matchI m = m.index + (m.ents.length : Int) := rfl
  unfold tkR mrgL at hok hat ⊢
  by_cases hi : m.index < p.g.base
  · rw [if_pos hi] at hok hat ⊢
    have hi' : m.index < p.base := hi
    have hA : Ag p.base.toNat (g.L p.term) F := (cmt_lead' T N.cm (Int.le_refl _) hw).le (by omega)
    have hdl : (m.ents.drop (p.g.base - m.index).toNat).length = m.ents.length - (p.base - m.index).toNat := List.length_drop
    have hMg : Mg g p.term F p.g.base (m.ents.drop (p.g.base - m.index).toNat) := by
      refine ⟨hA, ?_, fun k hk => ?_⟩
      · rw [hdl]
        show p.base.toNat + _ ≤ _
        have := hA.l
        omega
      · rw [hdl] at hk
        rw [List.getElem?_drop]
        have := h2 ((p.base - m.index).toNat + k) (by omega)
        show (g.L p.term)[p.base.toNat + k]? = m.ents[(p.base - m.index).toNat + k]?
        rw [← this]
        congr 1; omega
    obtain ⟨F', hF⟩ := mg_res N T rfl (Int.le_refl _) hMg hok hat
    refine ⟨F', _, hF, by omega, ?_⟩
    rw [hdl, hmi]
    show _ ≤ p.base.toNat + _
    omega
  · rw [if_neg hi] at hok hat ⊢
    have hi' : ¬ m.index < p.base := hi
    have hh : (hasL p.g m.index && decide (termV p.g m.index = m.lt)) = true := by
      cases hx : (hasL p.g m.index && decide (termV p.g m.index = m.lt))
      · exfalso
        unfold mrgB at hok
        rw [if_pos hx] at hok; cases hok
      · rfl
    rw [Bool.and_eq_true, decide_eq_true_eq] at hh
    have hha := (N.rep.has _).1 hh.1
    have htm := hh.2
    rw [N.rep.term hha.1 hha.2, h3] at htm
    have hA : Ag m.index.toNat (g.L p.term) F := tm_same T N.path (by omega) (by omega) htm
    obtain ⟨F', hF⟩ := mg_res N T rfl (by omega) ⟨hA, h1, h2⟩ hok hat
    exact ⟨F', _, hF, by omega, by rw [hmi]; omega⟩
theorem WN.take (W : WN C0 g M Fs S n p F) (hn : NB n) (hr : p.role = 0) {m : MP} (hm : MI C0 g m) (hk : m.kind = 3) (ht : m.term = p.term) : Nx C0 g M Fs S n (tkP p m) (tkM p m) := by
  have N := W.ni hn
  have T := W.tree
  unfold tkP tkM
  by_cases hok : (tkR p m).ok = false
  · rw [if_pos (.inl hok), if_pos hok]
    exact Nx.one W (dull_mi hn N.id (.inr ⟨.inl rfl, rfl⟩)) N.id (fun h => absurd (show (4 : Int) = 1 from h) (by decide))
  · rw [if_neg hok]
    by_cases hat : 0 < (tkR p m).at_ ∧ (tkR p m).at_ ≤ p.commit
    · rw [if_pos (.inr hat), if_pos hat]
      exact Nx.done W
    · rw [if_neg (by rintro (h | h); exact hok h; exact hat h), if_neg hat]
      obtain ⟨F', x, hF, hm0, hmx⟩ := tk_res N T hm hk ht (by simpa using hok) hat
      obtain ⟨hw, h0, h1, h2, h3, h4, h5⟩ := hm.k3 hk
      rw [ht] at hw h1 h2 h3 h5
      have hlen := hF.rep.len
      have hlen' : p.base + ((tkR p m).l.length : Int) = (F'.length : Int) := hlen
      have hcr := hF.com.r
      have hc0 := N.rep.b0
      have hbc := N.bc
      have hAm : Ag (matchI m).toNat (g.L p.term) F' := hF.A.le hmx
      have W1 : WN C0 g M Fs S n { p with l := (tkR p m).l, commit := max p.commit (min (min m.commit (matchI m)) (p.base + ((tkR p m).l.length : Int))) } F' := by
        refine W.quiet ⟨N.id, hF.rep.same _ rfl rfl rfl rfl, hF.path, hF.le, N.term, ?_, ?_, fun t c ha => ?_, ?_, N.pv, N.mine, N.win, fun h => ?_, fun h => ?_⟩ (Int.le_refl _)
        · show p.base ≤ max p.commit _; omega
        · show max p.commit (min (min m.commit (matchI m)) (p.base + ((tkR p m).l.length : Int))) ≤ (F'.length : Int)
          rw [hlen']
          omega
        · obtain ⟨a1, a2, a3⟩ := N.acc t c ha
          refine ⟨a1, a2, fun hp => ?_⟩
          have hold := a3 hp
          have hLt : Ag c (g.L t) (g.L p.term) := by
            by_cases e : t = p.term
            · rw [e]; exact Ag.refl (by rw [← e]; exact a2)
            · have hb := hp p.term _ hw (by have : t ≤ p.term := a1; omega) (Int.le_refl _)
              exact hb.trans ((T.base _ _ hw).le hb.r)
          exact hLt.trans (hF.keep c (hLt.symm.trans hold))
        · show Cmt g p.term F' (max p.commit (min (min m.commit (matchI m)) (p.base + ((tkR p m).l.length : Int)))).toNat
          by_cases hcm : min (min m.commit (matchI m)) (p.base + ((tkR p m).l.length : Int)) ≤ p.commit
          · rw [show max p.commit (min (min m.commit (matchI m)) (p.base + ((tkR p m).l.length : Int))) = p.commit by omega]
            exact N.cm.ag hF.com (Nat.le_refl _)
          · refine h5.ag (hAm.le ?_) ?_ <;> omega
        · have : p.role = 1 := h
          omega
        · have : p.role = 2 := h
          omega
      have W2 := W1.acks hn hr (x := (matchI m).toNat) hAm
      refine Nx.up (ext_K g p.term n p.term _).toGle (Nx.one W2 ?_ N.id (fun h => absurd (show (4 : Int) = 1 from h) (by decide)))
      exact ack_mi hn N.id rfl rfl ⟨hm0, by show matchI m ≤ _; omega⟩
/-! ## pieces -/
theorem WN.piece (W : WN C0 g M Fs S n p F) (hn : NB n) (hr : p.role = 0) {m : MP} (hm : MI C0 g m) (hk : m.kind = 5) (ht : m.term = p.term) : Nx C0 g M Fs S n (pcP p m) (pcM p m) := by
  have N := W.ni hn
  have T := W.tree
  have hb := N.rep.b0
  have hbc := N.bc
  have hcl := N.cl
  obtain ⟨hw, h0, h1, h2, h3, h4⟩ := hm.k5 hk
  rw [ht] at hw h1 h2 h3 h4
  have hno : ∀ q : MP, q.kind ≠ 1 → (q.kind = 1 → q.term ≤ p.term) := fun q h1 h2 => absurd h2 h1
  unfold pcP pcM
  by_cases hpb : pieceBad p m = true
  · rw [if_pos (.inl hpb), if_pos hpb]
    exact Nx.done W
  · rw [if_neg hpb]
    by_cases hic : m.index ≤ p.commit
    · rw [if_pos (.inr (.inl hic)), if_pos hic]
      have hA : Ag m.index.toNat (g.L p.term) F := (cmt_lead' T N.cm (Int.le_refl _) hw).le (by omega)
      refine Nx.up (ext_K g p.term n p.term _).toGle (Nx.one (W.acks hn hr hA) ?_ N.id (fun h => absurd (show (4 : Int) = 1 from h) (by decide)))
      exact ack_mi hn N.id rfl rfl ⟨h0, by show m.index ≤ _; omega⟩
    · rw [if_neg hic]
      by_cases hof : m.off ≠ ((haveB p m).length : Int)
      · rw [if_pos (.inr (.inr hof)), if_pos hof]
        exact Nx.one W (dull_mi hn N.id (.inl rfl)) N.id (fun h => absurd (show (6 : Int) = 1 from h) (by decide))
      · rw [if_neg (by rintro (h | h | h); exact hpb h; exact hic h; exact hof h), if_neg hof]
        by_cases hsz : ((pieceB p m).length : Int) < m.size
        · rw [if_pos hsz, if_pos hsz]
          refine Nx.one (W.quiet (p' := piece1 p m) (N.keep rfl rfl rfl rfl rfl rfl rfl rfl rfl (fun _ => rfl) (fun h c => c.prs)) (Int.le_refl _)) (dull_mi hn N.id (.inl rfl)) N.id (fun h => absurd (show (6 : Int) = 1 from h) (by decide))
        · rw [if_neg hsz, if_neg hsz]
          have key : ∃ F', Ag m.index.toNat (g.L p.term) F' ∧ F'.drop m.index.toNat = instL p.g m.index m.lt ∧ Path g.L F' ∧ (∀ (k : Nat) (e : Ent), F'[k]? = some e → e.1 ≤ p.term) ∧ ∀ c, Ag c (g.L p.term) F → Ag c (g.L p.term) F' := by
            by_cases hh : (hasL p.g m.index && decide (termV p.g m.index = m.lt)) = true
            · have hh' := hh
              rw [Bool.and_eq_true, decide_eq_true_eq] at hh'
              have hha := (N.rep.has _).1 hh'.1
              have htm := hh'.2
              rw [N.rep.term hha.1 hha.2, h3] at htm
              refine ⟨F, tm_same T N.path (by omega) h1 htm, ?_, N.path, N.le, fun c hc => hc⟩
              unfold instL
              rw [if_pos hh]
              show _ = p.l.drop (m.index - p.base).toNat
              rw [N.rep.l, List.drop_drop]
              congr 1; omega
            · refine ⟨(g.L p.term).take m.index.toNat, Ag.take h1, ?_, (T.path p.term).take _, fun k e he => ?_, fun c hc => ?_⟩
              · unfold instL
                rw [if_neg hh, List.drop_of_length_le (by rw [List.length_take]; omega)]
              · have hki := getI he
                rw [List.length_take] at hki
                rw [List.getElem?_take_of_lt (by omega)] at he
                exact T.le _ _ _ he
              · refine (Ag.take_le ?_ hc.l).symm
                apply Classical.byContradiction
                intro hx
                have hcr := hc.r
                have hA := hc.le (show m.index.toNat ≤ c by omega)
                apply hh
                rw [Bool.and_eq_true, decide_eq_true_eq]
                refine ⟨(N.rep.has _).2 ⟨by omega, by omega⟩, ?_⟩
                rw [N.rep.term (by omega) (by omega), h3]
                exact (tmI_ag hA (Nat.le_refl _)).symm
          obtain ⟨F', hA, hdr, hpa, hle, hkeep⟩ := key
          have W1 : WN C0 g M Fs S n (piece2 p m) F' := by
            refine W.quiet ⟨N.id, ⟨h0, hA.r, hdr.symm, ?_, ?_⟩, hpa, hle, N.term, Int.le_refl _, ?_, fun t c ha => ?_, ?_, N.pv, N.mine, N.win, fun h => ?_, fun h => ?_⟩ (Int.le_refl _)
            · show m.lt = tmI F' m.index.toNat
              rw [h3]; exact tmI_ag hA (Nat.le_refl _)
            · show m.conf = cfN C0 F' m.index.toNat
              rw [h4]; exact cfN_ag C0 hA _ (Nat.le_refl _)
            · show m.index ≤ (F'.length : Int)
              have := hA.r; omega
            · obtain ⟨a1, a2, a3⟩ := N.acc t c ha
              refine ⟨a1, a2, fun hp => ?_⟩
              have hold := a3 hp
              have hLt : Ag c (g.L t) (g.L p.term) := by
                by_cases e : t = p.term
                · rw [e]; exact Ag.refl (by rw [← e]; exact a2)
                · have hb := hp p.term _ hw (by have : t ≤ p.term := a1; omega) (Int.le_refl _)
                  exact hb.trans ((T.base _ _ hw).le hb.r)
              exact hLt.trans (hkeep c (hLt.symm.trans hold))
            · show Cmt g p.term F' m.index.toNat
              exact h2.ag hA (Nat.le_refl _)
            · have : p.role = 1 := h
              omega
            · have : p.role = 2 := h
              omega
          refine Nx.up (ext_K g p.term n p.term _).toGle (Nx.one (W1.acks hn hr hA) ?_ N.id (fun h => absurd (show (4 : Int) = 1 from h) (by decide)))
          exact ack_mi hn N.id rfl rfl ⟨h0, by show m.index ≤ _; omega⟩
theorem WN.leads (W : WN C0 g M Fs S n p F) (hn : NB n) {m : MP} (hm : MI C0 g m) (hk : m.kind = 3 ∨ m.kind = 5) (ht : m.term ≤ p.term) : Nx C0 g M Fs S n (leadsP p m) (leadsM p m) := by
  unfold leadsP leadsM
  by_cases h1 : m.term < p.term
  · rw [if_pos (.inl h1), if_pos h1]
    exact Nx.one W (dull_mi hn (W.ni hn).id (.inr ⟨.inl rfl, rfl⟩)) (W.ni hn).id (fun h => absurd (show (4 : Int) = 1 from h) (by decide))
  · rw [if_neg h1]
    by_cases h2 : p.role = 2
    · rw [if_pos (.inr h2), if_pos h2]; exact Nx.done W
    · rw [if_neg (by rintro (h | h); exact h1 h; exact h2 h), if_neg h2]
      have e : (leads1 p m).term = p.term := by
        show (if p.term < p.term then p.term else p.term) = p.term
        split <;> rfl
      have W1 : WN C0 g M Fs S n (leads1 p m) F := by
        have W0 := W.follow hn p.term m.frm
        exact W0.quiet ((W0.ni hn).keep rfl rfl rfl rfl rfl rfl rfl rfl rfl (fun _ => rfl) (fun h c => c.prs)) (Int.le_refl _)
      by_cases h3 : m.kind = 3
      · rw [if_pos h3, if_pos h3]
        exact W1.take hn rfl hm h3 (by rw [e]; omega)
      · rw [if_neg h3, if_neg h3]
        exact W1.piece hn rfl hm (by rcases hk with h | h; exact absurd h h3; exact h) (by rw [e]; omega)
/-! ## peers' answers -/
theorem set_prs {t : Int} {l : List Pr} (h : ∀ q ∈ l, PrI g t F q) (i : Nat) {q : Pr} (hq : PrI g t F q) : ∀ x ∈ l.set i q, PrI g t F x := by
  intro x hx
  rcases List.mem_or_eq_of_mem_set hx with h1 | rfl
  · exact h x h1
  · exact hq
theorem peer_spec (p : RP) (m : MP) (h : isPeer p m = true) : p.role = 2 ∧ m.term = p.term ∧ peerG p m ∈ p.peers ∧ (peerG p m).node = m.frm := by
  unfold isPeer at h
  have h1 : peerAt p m < p.peers.length := of_decide_eq_true h
  have hx : p.role = 2 ∧ m.term = p.term := by
    apply Classical.byContradiction
    intro hn
    unfold peerAt at h1
    rw [if_neg hn] at h1; omega
  have e : peerG p m = p.peers[peerAt p m] := by
    unfold peerG
    rw [List.getD_eq_getElem?_getD, List.getElem?_eq_getElem h1]; rfl
  refine ⟨hx.1, hx.2, by rw [e]; exact List.getElem_mem _, ?_⟩
  rw [e]
  have h2 : peerAt p m = p.peers.findIdx (fun q => decide (q.node = m.frm)) := by unfold peerAt; rw [if_pos hx]
  have h3 : p.peers.findIdx (fun q => decide (q.node = m.frm)) < p.peers.length := by rw [← h2]; exact h1
  have := List.findIdx_getElem (w := h3)
  simp only [decide_eq_true_eq] at this
  rw [← this]
  simp only [h2]
theorem WN.ack (W : WN C0 g M Fs S n p F) (hn : NB n) {m : MP} (hm : MI C0 g m) (hk : m.kind = 4) : Nx C0 g M Fs S n (ackP p m) (ackMs p m) := by
  unfold ackP ackMs
  by_cases hi : isPeer p m = false
  · rw [if_pos hi, if_pos hi]; exact Nx.done W
  · rw [if_neg hi, if_neg hi]
    obtain ⟨hr, ht, hmem, hnode⟩ := peer_spec p m (by simpa using hi)
    have N := W.ni hn
    have c := N.lead hr
    have hq := c.prs _ hmem
    obtain ⟨q1, q2, q3, q4, q5⟩ := hq
    by_cases ho : m.ok = false
    · rw [if_pos ho, if_pos ho]
      have hq' : PrI g p.term F (backPr (peerG p m) m.index) := by
        refine ⟨?_, ?_, q3, q4, q5⟩
        · show 1 ≤ max (peerG p m).mtc (min ((peerG p m).next - 1) m.index) + 1; omega
        · show max (peerG p m).mtc (min ((peerG p m).next - 1) m.index) + 1 ≤ _; omega
      have N' : NI C0 g n (setPr p (peerAt p m) (backPr (peerG p m) m.index)) F := N.keep rfl rfl rfl rfl rfl rfl rfl rfl rfl (fun _ => rfl) (fun h c => set_prs c.prs _ hq')
      obtain ⟨a1, a2, a3⟩ := lead_upd W.tree N' hn hr hq'
      exact Nx.one (W.quiet N' (Int.le_refl _)) a1 a2 a3
    · rw [if_neg ho, if_neg ho]
      by_cases hx : m.index ≤ (peerG p m).mtc ∨ lastI p.g < m.index
      · rw [if_pos hx, if_pos hx]; exact Nx.done W
      · rw [if_neg hx, if_neg hx]
        have hlast := N.rep.last
        have hmtc : (peerG p m).mtc < m.index ∧ m.index ≤ (F.length : Int) := by omega
        have hk4 := hm.k4 hk (by simpa using ho)
        have hq' : PrI g p.term F (fwdPr (peerG p m) m.index) := by
          refine ⟨?_, ?_, ?_, ?_, fun x h1 h2 => ?_⟩
          · show 1 ≤ max (peerG p m).next (m.index + 1); omega
          · show max (peerG p m).next (m.index + 1) ≤ _; omega
          · show 0 ≤ m.index; omega
          · show m.index ≤ _; omega
          · show g.Acc p.term (peerG p m).node x
            rw [hnode, ← ht]
            exact hk4.2 x h1 h2
        have N' : NI C0 g n (setPr p (peerAt p m) (fwdPr (peerG p m) m.index)) F := N.keep rfl rfl rfl rfl rfl rfl rfl rfl rfl (fun _ => rfl) (fun h c => set_prs c.prs _ hq')
        obtain ⟨g', W2, h⟩ := (W.quiet N' (Int.le_refl _)).com hn hr
        have e : ackP p m = commitP (setPr p (peerAt p m) (fwdPr (peerG p m) m.index)) := by
          unfold ackP
          rw [if_neg hi, if_neg ho, if_neg hx]
        refine Nx.up h ?_
        rw [e]
        split
        · rename_i hc
          have N2 := W2.ni hn
          have c2 := N2.lead hc.1
          have ht2 : (commitP (setPr p (peerAt p m) (fwdPr (peerG p m) m.index))).term = p.term := by
            unfold commitP
            split
            · exact absurd hc.1 (by unfold commitP; rw [if_pos (by assumption)]; show ¬ ((0 : Int) = 2); decide)
            · unfold commit1; split <;> rfl
          obtain ⟨a1, a2, a3⟩ := lead_upd W2.tree N2 hn hc.1 (q := fwdPr (peerG p m) m.index) (by rw [ht2]; exact hq'.ext h)
          exact Nx.one W2 a1 a2 a3
        · exact Nx.done W2
theorem WN.got (W : WN C0 g M Fs S n p F) (hn : NB n) {m : MP} : Nx C0 g M Fs S n (gotP p m) (gotMs p m) := by
  by_cases hb : gotBad p m = true
  · unfold gotP gotMs
    rw [if_pos hb, if_pos hb]; exact Nx.done W
  · have hi : isPeer p m = true := by
      unfold gotBad at hb
      cases hx : isPeer p m
      · rw [hx] at hb; exact absurd rfl hb
      · rfl
    obtain ⟨hr, ht, hmem, hnode⟩ := peer_spec p m hi
    have e : gotP p m = setPr p (peerAt p m) (gotPr p m) := by unfold gotP; rw [if_neg hb]
    unfold gotMs
    rw [if_neg hb, e]
    have N := W.ni hn
    have c := N.lead hr
    have hq := c.prs _ hmem
    have hq' : PrI g p.term F (gotPr p m) := hq
    have N' : NI C0 g n (setPr p (peerAt p m) (gotPr p m)) F := N.keep rfl rfl rfl rfl rfl rfl rfl rfl rfl (fun _ => rfl) (fun h c => set_prs c.prs _ hq')
    obtain ⟨a1, a2, a3⟩ := lead_upd W.tree N' hn hr hq'
    exact Nx.one (W.quiet N' (Int.le_refl _)) a1 a2 a3
/-! ## a message, an event -/
theorem WN.hear (W : WN C0 g M Fs S n p F) (hn : NB n) {m : MP} (hm : MI C0 g m) (hmt : m.kind = 1 → m.term ≤ (upI M n p m.frm).term) : Nx C0 g M Fs S n (hearP p m) (hearM p m) := by
  unfold hearP hearM
  by_cases hb : hearBad p m = true ∨ hearOff p m = true
  · rw [if_pos hb, if_pos hb]; exact Nx.done W
  · rw [if_neg hb, if_neg hb]
    have N := W.ni hn
    have hb1 : hearBad p m = false := by
      cases hx : hearBad p m
      · rfl
      · exact absurd (.inl hx) hb
    unfold hearBad at hb1
    simp only [Bool.or_eq_false_iff, Bool.not_eq_false', decide_eq_true_eq, decide_eq_false_iff_not] at hb1
    obtain ⟨b1, b2, b3, b4, b5⟩ := hb1
    rw [N.id] at b1 b2
    have W1 : WN C0 g M Fs S n (hear1 p m) F := by
      unfold hear1
      split
      · exact W.follow hn _ _
      · exact W
    have ht : m.term ≤ (hear1 p m).term := by
      unfold hear1
      split
      · rename_i h
        show m.term ≤ if p.term < m.term then m.term else p.term
        rw [if_pos h]; exact Int.le_refl _
      · omega
    unfold doesP doesM
    by_cases h1 : m.kind = 1
    · rw [if_pos h1, if_pos h1]
      refine W1.vote hn hm h1 b2 ?_
      have := hmt h1
      rw [upI_ne _ _ _ b2] at this
      exact this
    rw [if_neg h1, if_neg h1]
    by_cases h2 : m.kind = 2
    · rw [if_pos h2, if_pos h2]; exact W1.grant hn hm h2 b1
    rw [if_neg h2, if_neg h2]
    by_cases h3 : m.kind = 3 ∨ m.kind = 5
    · rw [if_pos h3, if_pos h3]; exact W1.leads hn hm h3 ht
    rw [if_neg h3, if_neg h3]
    by_cases h4 : m.kind = 4
    · rw [if_pos h4, if_pos h4]; exact W1.ack hn hm h4
    rw [if_neg h4, if_neg h4]
    by_cases h6 : m.kind = 6
    · rw [if_pos h6, if_pos h6]; exact W1.got hn
    rw [if_neg h6, if_neg h6]
    exact Nx.done W1
theorem WN.step (W : WN C0 g M Fs S n p F) (hn : NB n) (e : EP) (hm : e.kind = 2 → MI C0 g e.m ∧ (e.m.kind = 1 → e.m.term ≤ (upI M n p e.m.frm).term)) : Nx C0 g M Fs S n (stepP p e) (stepM p e) := by
  unfold stepP stepM
  by_cases h1 : e.kind = 1
  · rw [if_pos h1, if_pos h1]; exact W.tick hn
  rw [if_neg h1, if_neg h1]
  by_cases h2 : e.kind = 2
  · rw [if_pos h2, if_pos h2]
    obtain ⟨a, b⟩ := hm h2
    exact W.hear hn a b
  rw [if_neg h2, if_neg h2]
  by_cases h3 : e.kind = 3
  · rw [if_pos h3, if_pos h3]; exact W.prop hn _ _
  rw [if_neg h3, if_neg h3]
  by_cases h4 : e.kind = 4
  · rw [if_pos h4]
    exact Nx.done (W.quiet ((W.ni hn).comp e.index e.img) (by show p.term ≤ (compP p e.index e.img).term; unfold compP; split <;> exact Int.le_refl _))
  rw [if_neg h4]
  exact Nx.done W
end Go.Proofs.YtodcghipfolejaaGreat.Rf
/- Raft's safety: a whole play. -/
namespace Go.Proofs.YtodcghipfolejaaGreat.Rf
open Go Go.Sl
set_option linter.unusedVariables false
set_option linter.unusedSimpArgs false

variable {C0 : List Int} {g g' : Gh}
/-- what was said of a world; its minds are numbered from 0, its nodes from 1 -/
abbrev nodeM (w : WP) (n : Int) : RP := mindAt w (n - 1)
def WW (C0 : List Int) (g : Gh) (w : WP) : Prop := ∃ Fs S, WI C0 g (nodeM w) Fs S ∧ ∀ m ∈ w.fl, S m
theorem nb_of {n : Int} (h : 0 ≤ n ∧ n < 5) : NB (n + 1) := by unfold NB; omega
theorem mind_set {w : WP} (hl : w.ms.length = 5) {n : Int} (hn : 0 ≤ n ∧ n < 5) (p : RP) (fl : List MP) : ∀ k, NB k → nodeM ⟨w.ms.set n.toNat p, fl⟩ k = upI (nodeM w) (n + 1) p k := by
  intro k hk
  unfold NB at hk
  show (w.ms.set n.toNat p).getD (k - 1).toNat rp0 = _
  rw [List.getD_eq_getElem?_getD, List.getElem?_set]
  unfold upI
  by_cases e : k = n + 1
  · rw [if_pos (by omega), if_pos (by omega), if_pos e]; rfl
  · rw [if_neg (by omega), if_neg e, ← List.getD_eq_getElem?_getD]; rfl
/-- only nodes from 1 to 5 count -/
theorem WI.same {M M' : Int → RP} {Fs : Int → Lg} {S : MP → Prop} (W : WI C0 g M Fs S) (h : ∀ k, NB k → M' k = M k) : WI C0 g M' Fs S :=
  ⟨W.tree, fun k hk => by rw [h k hk]; exact W.node k hk, fun m hm => ⟨(W.msg m hm).1, fun hk => by rw [h _ (W.msg m hm).1.frm]; exact (W.msg m hm).2 hk⟩, W.rpv, W.racc, W.rwin⟩
theorem WI.less {M : Int → RP} {Fs : Int → Lg} {S S' : MP → Prop} (W : WI C0 g M Fs S) (h : ∀ m, S' m → S m) : WI C0 g M Fs S' :=
  ⟨W.tree, W.node, fun m hm => W.msg m (h m hm), W.rpv, W.racc, W.rwin⟩
theorem ww_step {K : Int} {w : WP} (B : WB K w) (W : WW C0 g w) {n : Int} (hn : 0 ≤ n ∧ n < 5) {p : RP} {new : List MP} {fl : List MP}
    (h : ∀ Fs S, WI C0 g (nodeM w) Fs S → (∀ m ∈ w.fl, S m) → Nx C0 g (nodeM w) Fs S (n + 1) p new) (hf : ∀ m ∈ fl, m ∈ w.fl ∨ m ∈ new) : ∃ g', WW C0 g' ⟨w.ms.set n.toNat p, fl⟩ ∧ Gle g g' := by
  obtain ⟨Fs, S, W0, hS⟩ := W
  obtain ⟨g', F', W1, hg, hm⟩ := h Fs S W0 hS
  refine ⟨g', ⟨upI Fs (n + 1) F', fun m => S m ∨ m ∈ new, ?_, fun m hmf => ?_⟩, hg⟩
  · refine (WI.said W1 new fun m hmn => ?_).same (mind_set B.len hn p fl)
    obtain ⟨a, b, c⟩ := hm m hmn
    exact ⟨a, fun hk => by rw [b, upI_same]; exact c hk⟩
  · rcases hf m hmf with h1 | h1
    · exact .inl (hS m h1)
    · exact .inr h1
theorem ww_act {K : Int} {w : WP} {a : AcP} (B : WB K w) (hK : 0 ≤ K) (hd : a.data.length ≤ 100000) (W : WW C0 g w) : ∃ g', WW C0 g' (actP w a).w ∧ Gle g g' := by
  unfold actP
  split
  · have hn := nOf_range a
    have hmi := wb_mind B hn
    have hb := badNew_no (id := (mindAt w (nOf a)).id) (tout := (mindAt w (nOf a)).tout) (by omega) hmi.2.2
    refine ww_step B W hn (new := []) (fun Fs S W0 hS => ?_) (fun m hm => .inl hm)
    have W1 := WN.of W0 (nOf a + 1)
    have e : nodeM w (nOf a + 1) = mindAt w (nOf a) := by show mindAt w (nOf a + 1 - 1) = _; rw [show nOf a + 1 - 1 = nOf a by omega]
    rw [e] at W1
    exact Nx.done (W1.quiet ((W1.ni (nb_of hn)).again hb) (by rw [againP, hb, if_neg (by decide)]; exact Int.le_refl _))
  · split
    · obtain ⟨Fs, S, W0, hS⟩ := W
      exact ⟨g, ⟨Fs, S, W0, fun m hm => hS m (ev_fl hm)⟩, Gle.refl g⟩
    · rename_i h7 ho
      have ho1 : (evOf w a).ok = true := by simpa using ho
      have he := ev_ok B hK hd ho1
      refine ww_step B W he.n (new := stepM (mindAt w (evOf w a).n) (evOf w a).e) (fun Fs S W0 hS => ?_) (fun m hm => ?_)
      · have W1 := WN.of W0 ((evOf w a).n + 1)
        have e : nodeM w ((evOf w a).n + 1) = mindAt w (evOf w a).n := by show mindAt w ((evOf w a).n + 1 - 1) = _; rw [show (evOf w a).n + 1 - 1 = (evOf w a).n by omega]
        rw [e] at W1
        refine W1.step (nb_of he.n) _ fun hk => ?_
        have hmem : (evOf w a).e.m ∈ w.fl := by
          unfold evOf at ho1 hk ⊢
          split
          · rename_i h1
            rw [if_pos h1] at ho1
            split
            · rename_i h2
              rw [if_pos h2] at ho1; cases ho1
            · rename_i h2
              exact flM_mem (by omega)
          · rename_i h1
            rw [if_neg h1] at hk
            split at hk
            · exact absurd (show (1 : Int) = 2 from hk) (by decide)
            split at hk
            · exact absurd (show (3 : Int) = 2 from hk) (by decide)
            split at hk
            · exact absurd (show (3 : Int) = 2 from hk) (by decide)
            split at hk
            · exact absurd (show (4 : Int) = 2 from hk) (by decide)
            · exact absurd (show (0 : Int) = 2 from hk) (by decide)
        obtain ⟨c1, c2⟩ := W0.msg _ (hS _ hmem)
        refine ⟨c1, fun h1 => ?_⟩
        have := c2 h1
        unfold upI
        split
        · rename_i hx
          rw [hx, e] at this; exact this
        · exact this
      · rcases List.mem_append.1 (List.mem_of_mem_drop hm) with h1 | h1
        · exact .inl (ev_fl h1)
        · exact .inr h1
def g0 : Gh := ⟨fun _ => [], fun _ => [], fun _ _ => [], fun _ _ => False, fun _ _ _ => False, fun _ _ _ => False, fun _ _ _ => False⟩
theorem tree_0 (C0 : List Int) : Tree C0 g0 where
  path := fun t k e h => by cases h
  le := fun t k e h => by cases h
  base := fun t i h => h.elim
  low := fun t i h => h.elim
  ne := fun t k e h => by cases h
  pos := fun t i h => h.elim
  uniq := fun t i j h => h.elim
  cb := fun t i h => h.elim
  winq := fun t i h => h.elim
  pvu := fun t j i i' h => h.elim
  comw := fun t c m h => h.elim
  comq := fun t c m h => h.elim
  just := fun t k e h => by cases h
  justc := fun t c m h => h.elim
  hv := fun t t' j i c h => h.elim
  lc := fun t c m t' i h => h.elim
theorem ww_begin (p : PlP) : WW (memP p.mem) g0 (beginP p) := by
  refine ⟨fun _ => [], fun _ => False, ⟨tree_0 _, fun n hn => ?_, fun m h => h.elim, fun t j i h => h.elim, fun t j c h => h.elim, fun t i h => h.elim⟩, fun m hm => by cases hm⟩
  have e : nodeM (beginP p) n = newN p (n - 1).toNat := by
    unfold NB at hn
    show ((List.range 5).map (newN p)).getD (n - 1).toNat rp0 = _
    rw [List.getD_eq_getElem?_getD, List.getElem?_map, List.getElem?_range (by omega)]; rfl
  rw [e]
  unfold NB at hn
  refine ⟨by show (((n - 1).toNat : Nat) : Int) + 1 = n; omega, ⟨Int.le_refl _, Nat.le_refl _, rfl, rfl, rfl⟩, (fun k e h => by cases h), (fun k e h => by cases h), Int.le_refl _, Int.le_refl _, Int.le_refl _, fun t c h => h.elim, .inl rfl, fun t i h => h.elim, fun t j h => h.elim, fun t h => h.elim, fun h => ?_, fun h => ?_⟩
  · exact absurd (show (0 : Int) = 1 from h) (by decide)
  · exact absurd (show (0 : Int) = 2 from h) (by decide)
/-- behind each act of a play, one after the other -/
theorem ww_at {p : PlP} (hp : SmallA p) : ∃ G : Nat → Gh, ∀ k, k ≤ p.acts.length → WW (memP p.mem) (G k) (wAt p k) ∧ ∀ j, j ≤ k → Gle (G j) (G k) := by
  have step : ∀ k, k ≤ p.acts.length → ∃ G : Nat → Gh, ∀ i, i ≤ k → WW (memP p.mem) (G i) (wAt p i) ∧ ∀ j, j ≤ i → Gle (G j) (G i) := by
    intro k
    induction k with
    | zero => exact fun _ => ⟨fun _ => g0, fun i hi => by obtain rfl : i = 0 := by omega
                                                          exact ⟨ww_begin p, fun j hj => Gle.refl _⟩⟩
    | succ k ih =>
      intro hk
      obtain ⟨G, hG⟩ := ih (by omega)
      have hm : p.acts.getD k ⟨0, 0, 0, false, [], MP0⟩ ∈ p.acts := by
        rw [List.getD_eq_getElem?_getD, List.getElem?_eq_getElem (by omega)]; exact List.getElem_mem _
      obtain ⟨g', hw, hg⟩ := ww_act (wb_at hp k (by omega)) (by omega) (hp.2 _ hm) (hG k (Nat.le_refl _)).1
      refine ⟨fun i => if i ≤ k then G i else g', fun i hi => ?_⟩
      by_cases e : i ≤ k
      · show WW _ (if i ≤ k then G i else g') _ ∧ ∀ j, j ≤ i → Gle (if j ≤ k then G j else g') (if i ≤ k then G i else g')
        rw [if_pos e]
        exact ⟨(hG i e).1, fun j hj => by rw [if_pos (by omega)]; exact (hG i e).2 j hj⟩
      · obtain rfl : i = k + 1 := by omega
        show WW _ (if k + 1 ≤ k then G (k + 1) else g') _ ∧ ∀ j, j ≤ k + 1 → Gle (if j ≤ k then G j else g') (if k + 1 ≤ k then G (k + 1) else g')
        rw [if_neg e]
        refine ⟨hw, fun j hj => ?_⟩
        by_cases e2 : j ≤ k
        · rw [if_pos e2]; exact ((hG k (Nat.le_refl _)).2 j e2).trans hg
        · rw [if_neg e2]; exact Gle.refl _
  exact step p.acts.length (Nat.le_refl _)
end Go.Proofs.YtodcghipfolejaaGreat.Rf
/- Raft's safety: what the laws ask. -/
namespace Go.Proofs.YtodcghipfolejaaGreat.Rf
open Go Go.Sl
set_option linter.unusedVariables false
set_option linter.unusedSimpArgs false

variable {C0 : List Int} {g g' : Gh}
/-! ## a node's term, vote and commit -/
structure Up (p p' : RP) : Prop where
  t : p.term ≤ p'.term
  v : p'.term = p.term → p.vote ≠ 0 → p'.vote = p.vote
  c : p.commit ≤ p'.commit
theorem Up.refl (p : RP) : Up p p := ⟨Int.le_refl _, fun _ _ => rfl, Int.le_refl _⟩
theorem Up.trans {a b c : RP} (h : Up a b) (k : Up b c) : Up a c :=
  ⟨Int.le_trans h.t k.t, fun e hv => by
    have h1 := h.t
    have h2 := k.t
    have e1 : b.term = a.term := by omega
    have h3 := h.v e1 hv
    rw [k.v (by omega) (by rw [h3]; exact hv), h3], Int.le_trans h.c k.c⟩
theorem Up.same {p p' : RP} (h1 : p'.term = p.term) (h2 : p'.vote = p.vote) (h3 : p'.commit = p.commit) : Up p p' := ⟨by omega, fun _ _ => h2, by omega⟩
theorem up_follow (p : RP) (t n : Int) : Up p (followP p t n) := by
  refine ⟨follow_le p t n, fun e hv => ?_, Int.le_refl _⟩
  have e' : (if p.term < t then t else p.term) = p.term := e
  show (if p.term < t then 0 else p.vote) = p.vote
  split
  · rename_i h; rw [if_pos h] at e'; omega
  · rfl
theorem up_commit (p : RP) : Up p (commitP p) := by
  have h1 : Up p (commit1 p) := by
    unfold commit1
    split
    · rename_i h
      exact ⟨Int.le_refl _, fun _ _ => rfl, Int.le_of_lt h.1⟩
    · exact Up.refl p
  unfold commitP
  split
  · exact h1.trans (up_follow _ _ _)
  · exact h1
theorem up_lead (p : RP) : Up p (leadP p) := (Up.same (p := p) (p' := lead2 p) rfl rfl rfl).trans (up_commit _)
theorem up_tick (p : RP) : Up p (tickP p) := by
  unfold tickP
  split
  · exact Up.refl p
  · split
    · have h1 : Up p (stand1 (tick1 p)) := ⟨by show p.term ≤ p.term + 1; omega, fun e => by have e' : p.term + 1 = p.term := e; omega, Int.le_refl _⟩
      unfold standP
      split
      · exact h1.trans (up_lead _)
      · exact h1
    · exact Up.same rfl rfl rfl
theorem up_prop (p : RP) (ek : Int) (ed : Bs) : Up p (propP p ek ed) := by
  unfold propP
  split
  · obtain ⟨k1, k2, k3, k4, k5, k6, k7, k8, k9⟩ := prop2_keep p ek ed
    exact (Up.same k6 k7 k8).trans (up_commit _)
  · exact Up.refl p
theorem up_comp (p : RP) (i : Int) (img : Bs) : Up p (compP p i img) := by
  unfold compP
  split
  · exact Up.refl p
  · exact Up.same rfl rfl rfl
theorem up_leads (p : RP) (m : MP) : Up p (leadsP p m) := by
  unfold leadsP
  split
  · exact Up.refl p
  · have h1 : Up p (leads1 p m) := (up_follow p p.term m.frm).trans (Up.same rfl rfl rfl)
    refine h1.trans ?_
    generalize leads1 p m = q
    split
    · unfold tkP
      split
      · exact Up.refl q
      · exact ⟨Int.le_refl _, fun _ _ => rfl, by show q.commit ≤ max q.commit _; omega⟩
    · unfold pcP
      split
      · exact Up.refl q
      · rename_i h
        split
        · exact Up.same rfl rfl rfl
        · exact ⟨Int.le_refl _, fun _ _ => rfl, by
            show q.commit ≤ m.index
            apply Classical.byContradiction
            intro hx
            exact h (.inr (.inl (by omega)))⟩
theorem up_does (p : RP) (m : MP) : Up p (doesP p m) := by
  unfold doesP
  split
  · unfold voteP
    split
    · rename_i h
      unfold voteOk at h
      simp only [Bool.and_eq_true, Bool.or_eq_true, decide_eq_true_eq] at h
      exact ⟨Int.le_refl _, fun _ hv => by rcases h.2.2.1 with h | h; exact absurd h hv; exact h.symm, Int.le_refl _⟩
    · exact Up.refl p
  split
  · unfold grantP
    split
    · split
      · exact (Up.same (p := p) (p' := grant1 p m) rfl rfl rfl).trans (up_lead _)
      · exact Up.same rfl rfl rfl
    · exact Up.refl p
  split
  · exact up_leads p m
  split
  · unfold ackP
    split
    · exact Up.refl p
    split
    · exact Up.same rfl rfl rfl
    split
    · exact Up.refl p
    · exact (Up.same (p := p) (p' := setPr p (peerAt p m) (fwdPr (peerG p m) m.index)) rfl rfl rfl).trans (up_commit _)
  split
  · unfold gotP
    split
    · exact Up.refl p
    · exact Up.same rfl rfl rfl
  · exact Up.refl p
theorem up_step (p : RP) (e : EP) : Up p (stepP p e) := by
  unfold stepP
  split
  · exact up_tick p
  split
  · unfold hearP
    split
    · exact Up.refl p
    · have h1 : Up p (hear1 p e.m) := by
        unfold hear1
        split
        · exact up_follow _ _ _
        · exact Up.refl p
      exact h1.trans (up_does _ _)
  split
  · exact up_prop _ _ _
  split
  · exact up_comp _ _ _
  · exact Up.refl p
/-- of every node, behind an act -/
theorem act_up {K : Int} {w : WP} {a : AcP} (B : WB K w) (hK : 0 ≤ K) (hd : a.data.length ≤ 100000) {n : Int} (hn : 0 ≤ n ∧ n < 5) :
    (mindAt w n).term ≤ (mindAt (actP w a).w n).term ∧ ((mindAt (actP w a).w n).term = (mindAt w n).term → (mindAt w n).vote ≠ 0 → (mindAt (actP w a).w n).vote = (mindAt w n).vote) ∧ (a.kind ≠ 7 → (mindAt w n).commit ≤ (mindAt (actP w a).w n).commit) := by
  have set : ∀ (k : Int) (hk : 0 ≤ k ∧ k < 5) (p : RP) (fl : List MP), mindAt ⟨w.ms.set k.toNat p, fl⟩ n = if n = k then p else mindAt w n := by
    intro k hk p fl
    show (w.ms.set k.toNat p).getD n.toNat rp0 = _
    have hl := B.len
    rw [List.getD_eq_getElem?_getD, List.getElem?_set]
    by_cases e : n = k
    · rw [if_pos (by omega), if_pos (by omega), if_pos e]; rfl
    · rw [if_neg (by omega), if_neg e, ← List.getD_eq_getElem?_getD]; rfl
  unfold actP
  split
  · rename_i h7
    have hr := nOf_range a
    rw [set (nOf a) hr]
    split
    · rename_i e
      subst e
      have hmi := wb_mind B hr
      have hb := badNew_no (id := (mindAt w (nOf a)).id) (tout := (mindAt w (nOf a)).tout) (by omega) hmi.2.2
      have ea : againP (mindAt w (nOf a)) = newP (mindAt w (nOf a)).id ⟨(mindAt w (nOf a)).term, (mindAt w (nOf a)).vote, 0⟩ (mindAt w (nOf a)).g (mindAt w (nOf a)).img (mindAt w (nOf a)).tout := by rw [againP, hb, if_neg (by decide)]
      rw [ea]
      exact ⟨Int.le_refl _, fun _ _ => rfl, fun h => absurd h7 h⟩
    · exact ⟨Int.le_refl _, fun _ _ => rfl, fun h => absurd h7 h⟩
  · split
    · exact ⟨Int.le_refl _, fun _ _ => rfl, fun _ => Int.le_refl _⟩
    · rename_i h7 ho
      have ho1 : (evOf w a).ok = true := by simpa using ho
      have he := ev_ok B hK hd ho1
      rw [set (evOf w a).n he.n]
      split
      · rename_i e
        subst e
        have := up_step (mindAt w (evOf w a).n) (evOf w a).e
        exact ⟨this.t, this.v, fun _ => this.c⟩
      · exact ⟨Int.le_refl _, fun _ _ => rfl, fun _ => Int.le_refl _⟩
/-- the node that an act speaks of -/
theorem act_n {K : Int} {w : WP} {a : AcP} (B : WB K w) : 0 ≤ (actP w a).n ∧ (actP w a).n < 5 := by
  have hr := nOf_range a
  have he : 0 ≤ (evOf w a).n ∧ (evOf w a).n < 5 := by
    unfold evOf
    split
    · split
      · exact ⟨Int.le_refl _, (show (0 : Int) < 5 by decide)⟩
      · have := (B.fl _ (flM_mem (w := w) (a := a) (by omega))).to
        unfold NB at this
        show 0 ≤ (flM w a).to - 1 ∧ (flM w a).to - 1 < 5
        omega
    · split
      · exact hr
      split
      · exact hr
      split
      · exact hr
      split
      · exact hr
      · exact hr
  unfold actP
  split
  · exact hr
  split
  · exact he
  · exact he
/-! ## one world -/
theorem ww_ni {w : WP} (W : WW C0 g w) {n : Int} (hn : 0 ≤ n ∧ n < 5) : ∃ F, NI C0 g (n + 1) (mindAt w n) F := by
  obtain ⟨Fs, S, W0, _⟩ := W
  have := W0.node (n + 1) (nb_of hn)
  have e : nodeM w (n + 1) = mindAt w n := by show mindAt w (n + 1 - 1) = _; rw [show n + 1 - 1 = n by omega]
  rw [e] at this
  exact ⟨_, this⟩
theorem ww_tree {w : WP} (W : WW C0 g w) : Tree C0 g := by
  obtain ⟨Fs, S, W0, _⟩ := W
  exact W0.tree
/-- the entry at an index -/
def entI (p : RP) (i : Int) : Option Ent := if p.base < i then p.l[(i - p.base - 1).toNat]? else none
theorem ent_rep {p : RP} {F : Lg} (R : Rep C0 p F) {i : Int} (h : p.base < i) : entI p i = F[i.toNat - 1]? := by
  have hb := R.b0
  unfold entI
  rw [if_pos h, R.l, List.getElem?_drop]
  congr 1; omega
theorem ent_some {p : RP} {i : Int} {e : Ent} (h : entI p i = some e) : p.base < i ∧ i ≤ lastI p.g := by
  unfold entI at h
  split at h
  · rename_i h1
    have := (List.getElem?_eq_some_iff.1 h).1
    refine ⟨h1, ?_⟩
    show i ≤ p.base + (p.l.length : Int)
    omega
  · cases h
/-! ## what is known to be committed -/
def Kn (g : Gh) (i : Int) (e : Ent) (t : Int) : Prop := 1 ≤ i ∧ ∃ s c m, g.Com s c m ∧ s ≤ t ∧ i ≤ (c : Int) ∧ (g.L s)[i.toNat - 1]? = some e
theorem Kn.le (h : Gle g g') {i : Int} {e : Ent} {t : Int} (k : Kn g i e t) : Kn g' i e t := by
  obtain ⟨h1, s, c, m, h2, h3, h4, h5⟩ := k
  exact ⟨h1, s, c, m, h.com _ _ _ h2, h3, h4, by rw [← (h.L s).eq _ (getI h5)]; exact h5⟩
theorem kn_one (T : Tree C0 g) {i : Int} {e e' : Ent} {t t' : Int} (k : Kn g i e t) (k' : Kn g i e' t') : e = e' := by
  have key : ∀ (s s' : Int) (c c' m m' : Nat) (e e' : Ent), g.Com s c m → g.Com s' c' m' → s ≤ s' → 1 ≤ i → i ≤ (c : Int) → (g.L s)[i.toNat - 1]? = some e → (g.L s')[i.toNat - 1]? = some e' → e = e' := by
    intro s s' c c' m m' e e' h1 h2 hs hi hc he he'
    have hA : Ag c (g.L s) (g.L s') := by
      by_cases es : s = s'
      · subst es
        obtain ⟨a, b, _⟩ := T.comw _ _ _ h1
        exact Ag.refl (Nat.le_trans a b)
      · obtain ⟨_, _, ⟨_, f, hf, _⟩⟩ := T.comw _ _ _ h2
        obtain ⟨l, hl⟩ := T.ne _ _ _ hf
        have h5 := T.lc s c m s' l h1 hl (by omega)
        exact h5.trans ((T.base s' l hl).le h5.r)
    rw [hA.eq _ (by omega), he'] at he
    injection he with he
    exact he.symm
  obtain ⟨h1, s, c, m, h2, h3, h4, h5⟩ := k
  obtain ⟨_, s', c', m', h2', h3', h4', h5'⟩ := k'
  rcases Int.le_total s s' with h | h
  · exact key s s' c c' m m' e e' h2 h2' h h1 h4 h5 h5'
  · exact (key s' s c' c m' m e' e h2' h2 h h1 h4' h5' h5).symm
/-- what a node knows -/
theorem ww_learn {w : WP} (W : WW C0 g w) {n : Int} (hn : 0 ≤ n ∧ n < 5) {i : Int} (h1 : (mindAt w n).base < i) (h2 : i ≤ (mindAt w n).commit) : ∃ e, entI (mindAt w n) i = some e ∧ Kn g i e (mindAt w n).term := by
  obtain ⟨F, N⟩ := ww_ni W hn
  have hb := N.rep.b0
  have hcl := N.cl
  rw [ent_rep N.rep h1]
  obtain ⟨e, he⟩ := getS (G := F) (k := i.toNat - 1) (by omega)
  refine ⟨e, he, by omega, ?_⟩
  rcases N.cm with h | ⟨s, c, m, a1, a2, a3, a4⟩
  · omega
  · exact ⟨s, c, m, a1, a2, by omega, by rw [a4.eq _ (by omega)]; exact he⟩
/-- a leader has it, if it was known in a term below its own -/
theorem ww_keeps {w : WP} (W : WW C0 g w) {n : Int} (hn : 0 ≤ n ∧ n < 5) (hr : (mindAt w n).role = 2) {i : Int} {e : Ent} {t : Int} (k : Kn g i e t) (ht : t < (mindAt w n).term) (hi : (mindAt w n).base < i) : entI (mindAt w n) i = some e := by
  obtain ⟨F, N⟩ := ww_ni W hn
  have T := ww_tree W
  have c := N.lead hr
  obtain ⟨h1, s, x, m, h2, h3, h4, h5⟩ := k
  rw [ent_rep N.rep hi, c.log]
  have h6 := T.lc s x m _ _ h2 c.win (by omega)
  have h7 := h6.trans ((T.base _ _ c.win).le h6.r)
  rw [← h7.eq _ (by omega)]
  exact h5
theorem ww_known {w : WP} (W : WW C0 g w) {n : Int} (hn : 0 ≤ n ∧ n < 5) : 0 ≤ (mindAt w n).base ∧ (mindAt w n).base ≤ (mindAt w n).commit ∧ (mindAt w n).commit ≤ lastI (mindAt w n).g := by
  obtain ⟨F, N⟩ := ww_ni W hn
  have := N.rep.last
  exact ⟨N.rep.b0, N.bc, by rw [this]; exact N.cl⟩
end Go.Proofs.YtodcghipfolejaaGreat.Rf
