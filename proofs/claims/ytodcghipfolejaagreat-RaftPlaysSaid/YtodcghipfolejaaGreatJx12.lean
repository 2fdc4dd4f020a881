import Derived.Test.YtodcghipfolejaaGreatJx11
set_option linter.unusedVariables false
set_option linter.unusedSimpArgs false
namespace Go.Proofs.YtodcghipfolejaaGreat.Rf
open Go Go.Sl
def EB (K : Int) (e : Ent) : Prop := e.2.2.length ≤ 100000 ∧ 0 ≤ e.1 ∧ e.1 ≤ K
def NB (n : Int) : Prop := 1 ≤ n ∧ n ≤ 5
def QB (K : Int) (n : Nat) (q : Pr) : Prop := 1 ≤ q.next ∧ q.next ≤ K + 1 ∧ 0 ≤ q.mtc ∧ q.mtc ≤ K ∧ 0 ≤ q.off ∧ q.off ≤ (n : Int) ∧ 1 ≤ q.node ∧ q.node ≤ 5
structure BI (K : Int) (p : RP) : Prop where
 base : 0 ≤ p.base ∧ p.base + (p.l.length : Int) ≤ K
 conf : p.conf.length ≤ 5 ∧ ∀ n ∈ p.conf, NB n
 ent : ∀ e ∈ p.l, EB K e
 bt : 0 ≤ p.bt ∧ p.bt ≤ K
 img : p.img.length ≤ 300000
 piece : p.piece.length ≤ 300000
 votes : VotesOk p
 peers : p.peers.length ≤ 5
 prs : ∀ q ∈ p.peers, QB K p.img.length q
 ticks : 0 ≤ p.ticks ∧ p.ticks ≤ K
 term : 0 ≤ p.term ∧ p.term ≤ K
 commit : 0 ≤ p.commit ∧ p.commit ≤ K
structure BM (K : Int) (m : MP) : Prop where
 index : 0 ≤ m.index ∧ m.index + (m.ents.length : Int) ≤ K
 lt : 0 ≤ m.lt ∧ m.lt ≤ K
 commit : 0 ≤ m.commit ∧ m.commit ≤ K
 term : 0 ≤ m.term ∧ m.term ≤ K
 el : m.ents.length ≤ 100
 ent : ∀ e ∈ m.ents, EB K e
 conf : m.conf.length ≤ 5 ∧ ∀ n ∈ m.conf, NB n
 off : 0 ≤ m.off ∧ m.off ≤ 300000
 to : NB m.to
theorem eb_mono {K K' : Int} (h : K ≤ K') {e : Ent} (he : EB K e) : EB K' e := ⟨he.1, he.2.1, by have := he.2.2; omega⟩
theorem qb_mono {K K' : Int} (h : K ≤ K') {n : Nat} {q : Pr} (hq : QB K n q) : QB K' n q := by
 unfold QB at *; omega
theorem bi_mono {K K' : Int} {p : RP} (hp : BI K p) (h : K ≤ K') : BI K' p :=
 ⟨⟨hp.base.1, by have := hp.base.2; omega⟩, hp.conf, fun e he => eb_mono h (hp.ent e he), ⟨hp.bt.1, by have := hp.bt.2; omega⟩, hp.img, hp.piece, hp.votes, hp.peers, fun q hq => qb_mono h (hp.prs q hq),
  ⟨hp.ticks.1, by have := hp.ticks.2; omega⟩, ⟨hp.term.1, by have := hp.term.2; omega⟩, ⟨hp.commit.1, by have := hp.commit.2; omega⟩⟩
theorem bm_mono {K K' : Int} {m : MP} (hp : BM K m) (h : K ≤ K') : BM K' m :=
 ⟨⟨hp.index.1, by have := hp.index.2; omega⟩, ⟨hp.lt.1, by have := hp.lt.2; omega⟩, ⟨hp.commit.1, by have := hp.commit.2; omega⟩, ⟨hp.term.1, by have := hp.term.2; omega⟩, hp.el, fun e he => eb_mono h (hp.ent e he), hp.conf, hp.off, hp.to⟩
theorem bm_fit {K : Int} {m : MP} (h : BM K m) (hK : K ≤ 90000) : MFit m :=
 ⟨⟨h.index.1, by have := h.index.2; omega⟩, ⟨h.lt.1, by have := h.lt.2; omega⟩, ⟨h.commit.1, by have := h.commit.2; omega⟩, ⟨h.term.1, by have := h.term.2; omega⟩, by have := h.el; omega, fun e he => by have := (h.ent e he).1; omega, by have := h.conf.1; omega, by have := h.off; omega⟩
theorem bi_st {K : Int} {p : RP} (h : BI K p) (hK : K ≤ 90000) : PSt p := by
 have hb := h.base
 have hv : p.votes.length ≤ 5 := by
  have := h.votes
  unfold VotesOk at this
  rw [← this]; exact pick_le _ _
 refine ⟨⟨⟨hb.1, by omega⟩, by omega, by have := h.conf.1; omega, dat_mem.2 fun e he => by have := (h.ent e he).1; omega, by have := h.img; omega, by omega, by have := h.peers; omega, fun q hq => ?_, ?_, ?_, ?_⟩, h.votes, by omega, by have := h.piece; omega, fun q hq => ?_, ?_⟩
 ·have := h.prs q hq; unfold QB at this; omega
 ·have := h.ticks; omega
 ·have := h.term; omega
 ·have := h.commit; omega
 ·have := h.prs q hq; unfold QB at this; omega
 ·have := h.ticks; omega
theorem bi_last {K : Int} {p : RP} (h : BI K p) : 0 ≤ lastI p.g ∧ lastI p.g ≤ K := by
 have := h.base
 show 0 ≤ p.base + (p.l.length : Int) ∧ p.base + (p.l.length : Int) ≤ K
 omega
theorem getD_mem {l : List Ent} {i : Nat} (h : i < l.length) : l.getD i E0 ∈ l := by
 rw [List.getD_eq_getElem?_getD, List.getElem?_eq_getElem h]; exact List.getElem_mem h
theorem bi_term {K : Int} {p : RP} (h : BI K p) (hK : 0 ≤ K) (i : Int) : 0 ≤ termV p.g i ∧ termV p.g i ≤ K := by
 unfold termV
 split
 ·split
  ·exact h.bt
  ·by_cases hi : (i - p.g.base - 1).toNat < p.g.l.length
   ·have := h.ent _ (getD_mem (l := p.l) hi)
    exact this.2
   ·rw [List.getD_eq_getElem?_getD, List.getElem?_eq_none (by omega)]
    exact ⟨Int.le_refl _, hK⟩
 ·exact ⟨Int.le_refl _, hK⟩
theorem read_nb (s : Bs) : ∀ n ∈ readL s, NB n := by
 intro n hn
 unfold readL at hn
 split at hn
 ·rename_i h
  unfold okR at h
  simp only [Bool.and_eq_true, decide_eq_true_eq] at h
  have hr : rightB (decL s) = true := by
   cases hr : rightB (decL s)
   ·have := h.2
    rw [textL, if_neg (by rw [hr]; decide)] at this
    rw [← this] at h
    simp at h
   ·rfl
  exact right_small hr n hn
 ·cases hn
theorem confN_5 (g : LM) (hc : g.conf.length ≤ 5 ∧ ∀ n ∈ g.conf, NB n) : ∀ k, (confN g k).1.length ≤ 5 ∧ ∀ n ∈ (confN g k).1, NB n
 | 0 => hc
 | n + 1 => by
  rw [confN]
  split
  ·exact ⟨read_le _, read_nb _⟩
  ·exact confN_5 g hc n
theorem bi_conf {K : Int} {p : RP} (h : BI K p) (i : Int) : (confAt p.g i).1.length ≤ 5 ∧ ∀ n ∈ (confAt p.g i).1, NB n := confN_5 p.g h.conf _
theorem slice_in {g : LM} {a b : Int} {e : Ent} (h : e ∈ sliceL g a b) : e ∈ g.l := by
 unfold sliceL at h
 split at h
 ·exact List.mem_of_mem_drop (List.mem_of_mem_take h)
 ·cases h
theorem bm_update {K : Int} {p : RP} (h : BI K p) (hK : 0 ≤ K) {q : Pr} (hq : QB K p.img.length q) : BM K (updateP p q) := by
 have hb := h.base
 have hc := h.commit
 have ht := h.term
 unfold QB at hq
 unfold updateP
 split
 ·refine ⟨⟨hb.1, ?_⟩, h.bt, ⟨Int.le_refl _, hK⟩, ht, by show 0 ≤ 100; decide, (fun e he => by cases he), h.conf, by have := h.img; show 0 ≤ q.off ∧ q.off ≤ 300000; omega, hq.2.2.2.2.2.2⟩
  show p.base + ((0 : Nat) : Int) ≤ K
  omega
 ·rename_i hn
  have hl8 : (sliceL p.g q.next 8).length ≤ 8 := by
   unfold sliceL; split
   ·rw [List.length_take]; omega
   ·simp
  have hsl : q.next - 1 + ((sliceL p.g q.next 8).length : Int) ≤ K := by
   unfold sliceL
   split
   ·rename_i h1
    have e1 : p.g.base = p.base := rfl
    have e2 : p.g.l.length = p.l.length := rfl
    rw [List.length_take, List.length_drop]
    omega
   ·simp only [List.length_nil]; omega
  refine ⟨⟨by show 0 ≤ q.next - 1; omega, hsl⟩, bi_term h hK _, hc, ht, by show (sliceL p.g q.next 8).length ≤ 100; omega, fun e he => h.ent e (slice_in (g := p.g) he), ⟨by show 0 ≤ 5; decide, (fun n hn => by cases hn)⟩, by show (0 : Int) ≤ 0 ∧ (0 : Int) ≤ 300000; omega, hq.2.2.2.2.2.2⟩
theorem bm_all {K : Int} {p : RP} (h : BI K p) (hK : 0 ≤ K) : ∀ m ∈ allP p, BM K m := by
 intro m hm
 unfold allP at hm
 split at hm
 ·obtain ⟨q, hq, rfl⟩ := List.mem_map.1 hm
  exact bm_update h hK (h.prs q hq)
 ·cases hm
theorem bm_ack {K : Int} {p : RP} (h : BI K p) (hK : 0 ≤ K) {to : Int} (hto : NB to) (ok : Bool) {i : Int} (hi : 0 ≤ i ∧ i ≤ K) : BM K (ackM p to ok i) :=
 ⟨⟨hi.1, by show i + ((0 : Nat) : Int) ≤ K; omega⟩, ⟨Int.le_refl _, hK⟩, ⟨Int.le_refl _, hK⟩, h.term, by show 0 ≤ 100; decide, (fun e he => by cases he), ⟨by show 0 ≤ 5; decide, (fun n hn => by cases hn)⟩, by show (0 : Int) ≤ 0 ∧ (0 : Int) ≤ 300000; omega, hto⟩
theorem bm_got {K : Int} {p : RP} (h : BI K p) (hK : 0 ≤ K) {to : Int} (hto : NB to) {i off : Int} (hi : 0 ≤ i ∧ i ≤ K) (ho : 0 ≤ off ∧ off ≤ 300000) : BM K (gotM p to i off) :=
 ⟨⟨hi.1, by show i + ((0 : Nat) : Int) ≤ K; omega⟩, ⟨Int.le_refl _, hK⟩, ⟨Int.le_refl _, hK⟩, h.term, by show 0 ≤ 100; decide, (fun e he => by cases he), ⟨by show 0 ≤ 5; decide, (fun n hn => by cases hn)⟩, ho, hto⟩
theorem bm_grant {K : Int} {p : RP} (h : BI K p) (hK : 0 ≤ K) {to : Int} (hto : NB to) (ok : Bool) : BM K (grantM p to ok) :=
 ⟨⟨Int.le_refl _, by show (0 : Int) + ((0 : Nat) : Int) ≤ K; omega⟩, ⟨Int.le_refl _, hK⟩, ⟨Int.le_refl _, hK⟩, h.term, by show 0 ≤ 100; decide, (fun e he => by cases he), ⟨by show 0 ≤ 5; decide, (fun n hn => by cases hn)⟩, by show (0 : Int) ≤ 0 ∧ (0 : Int) ≤ 300000; omega, hto⟩
theorem votes_nil : pick (inB []) 5 = ([] : List Int) := by decide
theorem bi_follow {K : Int} {p : RP} (h : BI K p) (t n : Int) (ht : 0 ≤ t ∧ t ≤ K) : BI K (followP p t n) :=
 ⟨h.base, h.conf, h.ent, h.bt, h.img, h.piece, votes_nil, Nat.zero_le _, (fun q hq => by cases hq), h.ticks, by
  have := h.term
  show 0 ≤ (if p.term < t then t else p.term) ∧ (if p.term < t then t else p.term) ≤ K
  split <;> omega, h.commit⟩
theorem bi_com {K : Int} {p : RP} (h : BI K p) (hK : 0 ≤ K) : 0 ≤ comP p ∧ comP p ≤ K := by
 refine com_bd hK (fun q hq => ?_)
 have := bi_last h
 rcases List.mem_cons.1 hq with rfl | hq
 ·show lastI p.g ≤ _; omega
 ·obtain ⟨r, hr, rfl⟩ := List.mem_map.1 hq
  exact (h.prs r hr).2.2.2.1
theorem bi_commit {K : Int} {p : RP} (h : BI K p) (hK : 0 ≤ K) : BI K (commitP p) := by
 have h1 : BI K (commit1 p) := by
  unfold commit1
  split
  ·exact ⟨h.base, h.conf, h.ent, h.bt, h.img, h.piece, h.votes, h.peers, h.prs, h.ticks, h.term, bi_com h hK⟩
  ·exact h
 unfold commitP
 split
 ·exact bi_follow h1 _ _ h1.term
 ·exact h1
theorem peersL_5 {K : Int} {p : RP} (h : BI K p) : (peersL p).length ≤ 5 := by
 unfold peersL
 rw [List.length_map]
 exact Nat.le_trans (List.length_filter_le _ _) (bi_conf h _).1
theorem peersL_qb {K : Int} {p : RP} (h : BI K p) : ∀ q ∈ peersL p, QB K p.img.length q := by
 intro q hq
 obtain ⟨n, hn, rfl⟩ := List.mem_map.1 hq
 rcases peerOf_cases p n with e | e
 ·rw [e]
  have := bi_last h
  have h2 := (bi_conf h _).2 n (List.mem_filter.1 hn).1
  unfold NB at h2
  unfold QB
  simp only
  omega
 ·exact h.prs _ e
theorem bi_app {K : Int} {p : RP} (h : BI K p) {e : Ent} (he : EB K e) : BI (K + 1) { p with l := p.l ++ [e] } := by
 have h' := bi_mono h (show K ≤ K + 1 by omega)
 have hb := h.base
 refine ⟨⟨hb.1, ?_⟩, h'.conf, fun f hf => ?_, h'.bt, h'.img, h'.piece, h'.votes, h'.peers, h'.prs, h'.ticks, h'.term, h'.commit⟩
 ·show p.base + ((p.l ++ [e]).length : Int) ≤ K + 1
  rw [List.length_append, List.length_singleton]; omega
 ·rcases List.mem_append.1 hf with h1 | h1
  ·exact h'.ent f h1
  ·rw [List.mem_singleton.1 h1]; exact eb_mono (by omega) he
theorem bi_lead {K : Int} {p : RP} (h : BI K p) (hK : 0 ≤ K) : BI (K + 1) (leadP p) := by
 have h1 : BI K (lead1 p) := ⟨h.base, h.conf, h.ent, h.bt, h.img, h.piece, votes_nil, Nat.zero_le _, (fun q hq => by cases hq), h.ticks, h.term, h.commit⟩
 have h2 : BI K { lead1 p with peers := peersL (lead1 p) } := ⟨h1.base, h1.conf, h1.ent, h1.bt, h1.img, h1.piece, h1.votes, peersL_5 h1, peersL_qb h1, h1.ticks, h1.term, h1.commit⟩
 have h3 := bi_app h2 (e := (p.term, 1, [])) ⟨by show 0 ≤ 100000; decide, h.term⟩
 exact bi_commit (p := lead2 p) h3 (by omega)
theorem bm_lead {K : Int} {p : RP} (h : BI K p) (hK : 0 ≤ K) : ∀ m ∈ leadM p, BM (K + 1) m := bm_all (bi_lead h hK) (by omega)
theorem bi_tick {K : Int} {p : RP} (h : BI K p) (hK : 0 ≤ K) (hid : 1 ≤ p.id ∧ p.id ≤ 5) : BI (K + 2) (tickP p) ∧ ∀ m ∈ tickM p, BM (K + 2) m := by
 unfold tickP tickM
 by_cases hr : p.role = 2
 ·rw [if_pos hr, if_pos hr]
  exact ⟨bi_mono h (by omega), fun m hm => bm_mono (bm_all h hK m hm) (by omega)⟩
 rw [if_neg hr, if_neg hr]
 have h1 : BI (K + 1) (tick1 p) := by
  have h' := bi_mono h (show K ≤ K + 1 by omega)
  exact ⟨h'.base, h'.conf, h'.ent, h'.bt, h'.img, h'.piece, h'.votes, h'.peers, h'.prs, by have := h.ticks; show 0 ≤ p.ticks + 1 ∧ p.ticks + 1 ≤ K + 1; omega, h'.term, h'.commit⟩
 by_cases hs : stands (tick1 p) = true
 ·rw [if_pos hs, if_pos hs]
  have hv : VotesOk (stand1 (tick1 p)) := by
   unfold VotesOk
   show pick (inB [p.id]) 5 = [p.id]
   have : p.id = 1 ∨ p.id = 2 ∨ p.id = 3 ∨ p.id = 4 ∨ p.id = 5 := by omega
   rcases this with e | e | e | e | e <;> rw [e] <;> decide
  have h2 : BI (K + 1) (stand1 (tick1 p)) := ⟨h1.base, h1.conf, h1.ent, h1.bt, h1.img, h1.piece, hv, Nat.zero_le _, fun q hq => (by cases hq), ⟨Int.le_refl _, by show (0 : Int) ≤ K + 1; omega⟩, by have := h.term; show 0 ≤ p.term + 1 ∧ p.term + 1 ≤ K + 1; omega, h1.commit⟩
  unfold standP standM
  by_cases hw : wins (stand1 (tick1 p)) = true
  ·rw [if_pos hw, if_pos hw]
   have := bi_lead h2 (by omega)
   have e : K + 1 + 1 = K + 2 := by omega
   rw [e] at this
   exact ⟨this, fun m hm => bm_mono (bm_lead h2 (by omega) m hm) (by omega)⟩
  ·rw [if_neg hw, if_neg hw]
   refine ⟨bi_mono h2 (by omega), fun m hm => ?_⟩
   obtain ⟨n, hn, rfl⟩ := List.mem_map.1 hm
   have hnb := (bi_conf h1 _).2 n (List.mem_filter.1 hn).1
   have hl := bi_last h2
   have hlt : lastT (stand1 (tick1 p)).g = termV (stand1 (tick1 p)).g (lastI (stand1 (tick1 p)).g) := ((last_term (stand1 (tick1 p)).g h2.base.1).1).symm
   have ht := bi_term h2 (by omega) (lastI (stand1 (tick1 p)).g)
   rw [← hlt] at ht
   have htm := h2.term
   refine ⟨⟨hl.1, ?_⟩, ⟨ht.1, by have := ht.2; show lastT (stand1 (tick1 p)).g ≤ K + 2; omega⟩, ⟨Int.le_refl _, by show (0 : Int) ≤ K + 2; omega⟩, ⟨htm.1, by have := htm.2; show (stand1 (tick1 p)).term ≤ K + 2; omega⟩, by show 0 ≤ 100; decide, (fun e he => by cases he), ⟨by show 0 ≤ 5; decide, (fun n hn => by cases hn)⟩, by show (0 : Int) ≤ 0 ∧ (0 : Int) ≤ 300000; omega, hnb⟩
   show lastI (stand1 (tick1 p)).g + ((0 : Nat) : Int) ≤ K + 2
   omega
 ·rw [if_neg hs, if_neg hs]
  exact ⟨bi_mono h1 (by omega), fun m hm => by cases hm⟩
theorem bi_prop {K : Int} {p : RP} (h : BI K p) (hK : 0 ≤ K) (ek : Int) {ed : Bs} (hd : ed.length ≤ 100000) : BI (K + 2) (propP p ek ed) ∧ ∀ m ∈ propM p ek ed, BM (K + 2) m := by
 unfold propP propM
 by_cases hE : propE p ek ed = 0
 ·rw [if_pos hE, if_pos hE]
  have h1 : BI (K + 1) (prop1 p ek ed) := bi_app h (e := (p.term, ek, ed)) ⟨hd, h.term⟩
  have h2 : BI (K + 1) (prop2 p ek ed) := by
   unfold prop2
   split
   ·exact ⟨h1.base, h1.conf, h1.ent, h1.bt, h1.img, h1.piece, h1.votes, peersL_5 h1, peersL_qb h1, h1.ticks, h1.term, h1.commit⟩
   ·exact h1
  have h3 := bi_commit h2 (by omega)
  exact ⟨bi_mono h3 (by omega), fun m hm => bm_mono (bm_all h3 (by omega) m hm) (by omega)⟩
 ·rw [if_neg hE, if_neg hE]
  exact ⟨bi_mono h (by omega), fun m hm => by cases hm⟩
theorem bi_comp {K : Int} {p : RP} (h : BI K p) (hK : 0 ≤ K) (i : Int) (img : Bs) : BI K (compP p i img) := by
 unfold compP
 cases hb : compBad p i img
 ·rw [if_neg (by decide)]
  rw [compBad] at hb
  simp only [Bool.or_eq_false_iff, decide_eq_false_iff_not, Bool.not_eq_false'] at hb
  obtain ⟨h1, h2, h3, h4⟩ := hb
  simp only [hasL, Bool.and_eq_true, decide_eq_true_eq] at h4
  have hbs := h.base
  have e1 : p.g.base = p.base := rfl
  have e2 : p.g.l.length = p.l.length := rfl
  refine ⟨⟨by show 0 ≤ i; omega, ?_⟩, bi_conf h i, fun e he => h.ent e (List.mem_of_mem_drop he), bi_term h hK i, by show img.length ≤ 300000; omega, h.piece, h.votes, by show (p.peers.map zeroOff).length ≤ 5; rw [List.length_map]; exact h.peers, fun q hq => ?_, h.ticks, h.term, h.commit⟩
  ·show i + ((p.l.drop (i - p.base).toNat).length : Int) ≤ K
   rw [List.length_drop]; omega
  ·obtain ⟨q0, hq0, rfl⟩ := List.mem_map.1 hq
   have := h.prs q0 hq0
   unfold QB at *
   show 1 ≤ q0.next ∧ q0.next ≤ K + 1 ∧ 0 ≤ q0.mtc ∧ q0.mtc ≤ K ∧ (0 : Int) ≤ 0 ∧ (0 : Int) ≤ (img.length : Int) ∧ 1 ≤ q0.node ∧ q0.node ≤ 5
   omega
 ·rw [if_pos rfl]; exact h
theorem bi_vote {K : Int} {p : RP} (h : BI K p) (hK : 0 ≤ K) (m : MP) : BI K (voteP p m) := by
 unfold voteP
 split
 ·exact ⟨h.base, h.conf, h.ent, h.bt, h.img, h.piece, h.votes, h.peers, h.prs, ⟨Int.le_refl _, hK⟩, h.term, h.commit⟩
 ·exact h
theorem votesL_ok (p : RP) (n : Int) : pick (inB (votesL p n)) 5 = votesL p n := by
 unfold votesL
 generalize hf : (fun x => inB p.votes x || decide (x = n)) = f
 have key : ∀ b1 b2 b3 b4 b5 : Bool, f 1 = b1 → f 2 = b2 → f 3 = b3 → f 4 = b4 → f 5 = b5 → pick (inB (pick f 5)) 5 = pick f 5 := by
  intro b1 b2 b3 b4 b5 h1 h2 h3 h4 h5
  have e : pick f 5 = (if b1 then [1] else []) ++ (if b2 then [2] else []) ++ (if b3 then [3] else []) ++ (if b4 then [4] else []) ++ (if b5 then [5] else []) := by
   simp only [pick_succ]
   simp [pick, h1, h2, h3, h4, h5]
  rw [e]
  cases b1 <;> cases b2 <;> cases b3 <;> cases b4 <;> cases b5 <;> decide
 exact key _ _ _ _ _ rfl rfl rfl rfl rfl
theorem bi_grant {K : Int} {p : RP} (h : BI K p) (hK : 0 ≤ K) (m : MP) : BI (K + 1) (grantP p m) ∧ ∀ x ∈ grantMs p m, BM (K + 1) x := by
 unfold grantP grantMs
 by_cases hg : grantOk p m = true
 ·rw [if_pos hg, if_pos hg]
  have h1 : BI K (grant1 p m) := ⟨h.base, h.conf, h.ent, h.bt, h.img, h.piece, votesL_ok p m.frm, h.peers, h.prs, h.ticks, h.term, h.commit⟩
  by_cases hw : wins (grant1 p m) = true
  ·rw [if_pos hw, if_pos hw]
   exact ⟨bi_lead h1 hK, bm_lead h1 hK⟩
  ·rw [if_neg hw, if_neg hw]
   exact ⟨bi_mono h1 (by omega), fun x hx => by cases hx⟩
 ·rw [if_neg hg, if_neg hg]
  exact ⟨bi_mono h (by omega), fun x hx => by cases hx⟩
theorem mrgB_far {g : LM} {prev term : Int} {l : List Ent} (hb : g.base ≤ prev) : g.base + ((mrgB g prev term l).l.length : Int) ≤ max (g.base + (g.l.length : Int)) (prev + (l.length : Int)) := by
 unfold mrgB
 split
 ·show g.base + (g.l.length : Int) ≤ _; omega
 ·split
  ·show g.base + (g.l.length : Int) ≤ _; omega
  ·have := firstD_le g prev l
   show g.base + ((g.l.take ((prev - g.base).toNat + firstD g prev l) ++ l.drop (firstD g prev l)).length : Int) ≤ _
   rw [List.length_append, List.length_take, List.length_drop]
   omega
theorem tk_far {K : Int} {p : RP} {m : MP} (h : BI K p) (hm : BM K m) : p.base + ((tkR p m).l.length : Int) ≤ K := by
 have hb := h.base
 have hi := hm.index
 have e1 : p.g.base = p.base := rfl
 have e2 : p.g.l.length = p.l.length := rfl
 unfold tkR mrgL
 split
 ·rename_i hlt
  have := mrgB_far (g := p.g) (prev := p.g.base) (term := p.g.bt) (l := m.ents.drop (p.g.base - m.index).toNat) (Int.le_refl _)
  rw [List.length_drop] at this
  omega
 ·rename_i hlt
  have := mrgB_far (g := p.g) (prev := m.index) (term := m.lt) (l := m.ents) (by omega)
  omega
theorem bi_take {K : Int} {p : RP} {m : MP} (hfr : NB m.frm) (h : BI K p) (hK : 0 ≤ K) (hm : BM K m) : BI K (tkP p m) ∧ ∀ x ∈ tkM p m, BM K x := by
 have hi := hm.index
 have hl := bi_last h
 have hfar := tk_far h hm
 constructor
 ·unfold tkP
  split
  ·exact h
  ·refine ⟨⟨h.base.1, hfar⟩, h.conf, fun e he => ?_, h.bt, h.img, h.piece, h.votes, h.peers, h.prs, h.ticks, h.term, ?_⟩
   ·rcases tk_mem he with h1 | h1
    ·exact h.ent e h1
    ·exact hm.ent e h1
   ·have := h.commit
    have := hm.commit
    show 0 ≤ max p.commit (min (min m.commit (matchI m)) (p.base + ((tkR p m).l.length : Int))) ∧ max p.commit (min (min m.commit (matchI m)) (p.base + ((tkR p m).l.length : Int))) ≤ K
    omega
 ·intro x hx
  unfold tkM at hx
  split at hx
  ·rw [List.mem_singleton.1 hx]; exact bm_ack h hK hfr _ (by omega)
  ·split at hx
   ·cases hx
   ·rw [List.mem_singleton.1 hx]; exact bm_ack h hK hfr _ (by unfold matchI; omega)
theorem bi_piece {K : Int} {p : RP} {m : MP} (hfr : NB m.frm) (h : BI K p) (hp : p.peers = []) (hK : 0 ≤ K) (hm : BM K m) : BI K (pcP p m) ∧ ∀ x ∈ pcM p m, BM K x := by
 have hi := hm.index
 have hin : 0 ≤ m.index ∧ m.index ≤ K := by omega
 have hhv := haveB_le p m
 have hpc := h.piece
 have hpl : pieceBad p m = false → m.off = ((haveB p m).length : Int) → (pieceB p m).length ≤ 300000 := by
  intro hb ho
  rw [pieceBad] at hb
  simp only [Bool.or_eq_false_iff, decide_eq_false_iff_not] at hb
  unfold pieceB
  rw [List.length_append]
  omega
 constructor
 ·unfold pcP
  split
  ·exact h
  ·rename_i hno
   have hb : pieceBad p m = false := by
    cases hb : pieceBad p m
    ·rfl
    ·exact absurd (.inl hb) hno
   have ho : m.off = ((haveB p m).length : Int) := by
    apply Classical.byContradiction
    intro ho
    exact hno (.inr (.inr ho))
   have hpl := hpl hb ho
   split
   ·exact ⟨h.base, h.conf, h.ent, h.bt, h.img, hpl, h.votes, h.peers, h.prs, h.ticks, h.term, h.commit⟩
   ·have hbs := h.base
    refine ⟨⟨hin.1, ?_⟩, hm.conf, fun e he => ?_, hm.lt, hpl, by show 0 ≤ 300000; decide, h.votes, h.peers, fun q hq => ?_, h.ticks, h.term, hin⟩
    ·show m.index + ((instL p.g m.index m.lt).length : Int) ≤ K
     unfold instL
     split
     ·rename_i hh
      rw [Bool.and_eq_true] at hh
      have h4 := hh.1
      simp only [hasL, Bool.and_eq_true, decide_eq_true_eq] at h4
      have e1 : p.g.base = p.base := rfl
      have e2 : p.g.l.length = p.l.length := rfl
      rw [List.length_drop]
      omega
     ·simp only [List.length_nil]; omega
    ·have he' : e ∈ instL p.g m.index m.lt := he
     unfold instL at he'
     split at he'
     ·exact h.ent e (List.mem_of_mem_drop he')
     ·cases he'
    ·have hq' : q ∈ p.peers := hq
     rw [hp] at hq'; cases hq'
 ·intro x hx
  unfold pcM at hx
  by_cases hb : pieceBad p m = true
  ·rw [if_pos hb] at hx; cases hx
  rw [if_neg hb] at hx
  have hb' : pieceBad p m = false := by simpa using hb
  by_cases h1 : m.index ≤ p.commit
  ·rw [if_pos h1] at hx; rw [List.mem_singleton.1 hx]; exact bm_ack h hK hfr _ hin
  rw [if_neg h1] at hx
  by_cases h2 : m.off ≠ ((haveB p m).length : Int)
  ·rw [if_pos h2] at hx; rw [List.mem_singleton.1 hx]; exact bm_got h hK hfr hin (by omega)
  rw [if_neg h2] at hx
  have hpl := hpl hb' (Classical.not_not.1 h2)
  split at hx
  ·rw [List.mem_singleton.1 hx]; exact bm_got h hK hfr hin (by omega)
  ·rw [List.mem_singleton.1 hx]; exact bm_ack h hK hfr _ hin
theorem bi_leads {K : Int} {p : RP} {m : MP} (hfr : NB m.frm) (h : BI K p) (hK : 0 ≤ K) (hm : BM K m) : BI K (leadsP p m) ∧ ∀ x ∈ leadsM p m, BM K x := by
 have h0 := bi_follow h p.term m.frm h.term
 have h1 : BI K (leads1 p m) := ⟨h0.base, h0.conf, h0.ent, h0.bt, h0.img, h0.piece, h0.votes, h0.peers, h0.prs, ⟨Int.le_refl _, hK⟩, h0.term, h0.commit⟩
 unfold leadsP leadsM
 by_cases ht : m.term < p.term
 ·rw [if_pos (.inl ht), if_pos ht]
  exact ⟨h, fun x hx => by rw [List.mem_singleton.1 hx]; exact bm_ack h hK hfr _ ⟨Int.le_refl _, hK⟩⟩
 by_cases hr : p.role = 2
 ·rw [if_pos (.inr hr), if_neg ht, if_pos hr]
  exact ⟨h, fun x hx => by cases hx⟩
 rw [if_neg (by rintro (h | h); exact ht h; exact hr h), if_neg ht, if_neg hr]
 by_cases hk : m.kind = 3
 ·rw [if_pos hk, if_pos hk]; exact bi_take hfr h1 hK hm
 ·rw [if_neg hk, if_neg hk]; exact bi_piece hfr h1 rfl hK hm
theorem bi_setPr {K : Int} {p : RP} (h : BI K p) (i : Nat) {q : Pr} (hq : QB K p.img.length q) : BI K (setPr p i q) := by
 refine ⟨h.base, h.conf, h.ent, h.bt, h.img, h.piece, h.votes, by show (p.peers.set i q).length ≤ 5; rw [List.length_set]; exact h.peers, fun r hr => ?_, h.ticks, h.term, h.commit⟩
 rcases List.mem_or_eq_of_mem_set hr with h1 | h1
 ·exact h.prs r h1
 ·rw [h1]; exact hq
theorem bi_peer {K : Int} {p : RP} {m : MP} (h : BI K p) (hp : isPeer p m = true) : QB K p.img.length (peerG p m) := h.prs _ (getD_memP (isPeer_lt hp))
theorem bi_ack {K : Int} {p : RP} {m : MP} (h : BI K p) (hK : 0 ≤ K) (hm : BM K m) : BI K (ackP p m) ∧ ∀ x ∈ ackMs p m, BM K x := by
 have hi := hm.index
 have hl := bi_last h
 unfold ackMs
 cases hp : isPeer p m
 ·rw [ackP, if_pos hp, if_pos rfl]
  exact ⟨h, fun x hx => by cases hx⟩
 have hq := bi_peer h hp
 unfold QB at hq
 rw [if_neg (by decide)]
 cases hok : m.ok
 ·rw [ackP, if_neg (by rw [hp]; decide), if_pos hok, if_pos rfl]
  have hqb : QB K p.img.length (backPr (peerG p m) m.index) := by
   unfold QB
   show 1 ≤ max (peerG p m).mtc (min ((peerG p m).next - 1) m.index) + 1 ∧ max (peerG p m).mtc (min ((peerG p m).next - 1) m.index) + 1 ≤ K + 1 ∧ 0 ≤ (peerG p m).mtc ∧ (peerG p m).mtc ≤ K ∧ 0 ≤ (peerG p m).off ∧ (peerG p m).off ≤ (p.img.length : Int) ∧ 1 ≤ (peerG p m).node ∧ (peerG p m).node ≤ 5
   omega
  have h1 := bi_setPr h (peerAt p m) hqb
  exact ⟨h1, fun x hx => by rw [List.mem_singleton.1 hx]; exact bm_update h1 hK hqb⟩
 rw [if_neg (by decide)]
 by_cases hb : m.index ≤ (peerG p m).mtc ∨ lastI p.g < m.index
 ·rw [ackP, if_neg (by rw [hp]; decide), if_neg (by rw [hok]; decide), if_pos hb, if_pos hb]
  exact ⟨h, fun x hx => by cases hx⟩
 rw [if_neg hb]
 have hqf : QB K p.img.length (fwdPr (peerG p m) m.index) := by
  unfold QB
  show 1 ≤ max (peerG p m).next (m.index + 1) ∧ max (peerG p m).next (m.index + 1) ≤ K + 1 ∧ 0 ≤ m.index ∧ m.index ≤ K ∧ (0 : Int) ≤ 0 ∧ (0 : Int) ≤ (p.img.length : Int) ∧ 1 ≤ (peerG p m).node ∧ (peerG p m).node ≤ 5
  have : ¬ lastI p.g < m.index := fun h => hb (.inr h)
  omega
 have h1 := bi_setPr h (peerAt p m) hqf
 have h2 := bi_commit h1 hK
 have e : ackP p m = commitP (setPr p (peerAt p m) (fwdPr (peerG p m) m.index)) := by rw [ackP, if_neg (by rw [hp]; decide), if_neg (by rw [hok]; decide), if_neg hb]
 rw [e]
 refine ⟨h2, fun x hx => ?_⟩
 split at hx
 ·rw [List.mem_singleton.1 hx]
  exact bm_update h2 hK (by rw [(commitP_log _).2.2.1]; exact hqf)
 ·cases hx
theorem bi_got {K : Int} {p : RP} {m : MP} (h : BI K p) (hK : 0 ≤ K) : BI K (gotP p m) ∧ ∀ x ∈ gotMs p m, BM K x := by
 unfold gotMs
 cases hb : gotBad p m
 ·have hbb := hb
  rw [gotBad] at hbb
  simp only [Bool.or_eq_false_iff, decide_eq_false_iff_not, Bool.not_eq_false'] at hbb
  have hq := bi_peer h hbb.1
  unfold QB at hq
  have hqg : QB K p.img.length (gotPr p m) := by
   unfold QB
   show 1 ≤ (peerG p m).next ∧ (peerG p m).next ≤ K + 1 ∧ 0 ≤ (peerG p m).mtc ∧ (peerG p m).mtc ≤ K ∧ 0 ≤ m.off ∧ m.off ≤ (p.img.length : Int) ∧ 1 ≤ (peerG p m).node ∧ (peerG p m).node ≤ 5
   omega
  have h1 := bi_setPr h (peerAt p m) hqg
  have e : gotP p m = setPr p (peerAt p m) (gotPr p m) := by rw [gotP, if_neg (by rw [hb]; decide)]
  rw [e, if_neg (by decide)]
  exact ⟨h1, fun x hx => by rw [List.mem_singleton.1 hx]; exact bm_update h1 hK hqg⟩
 ·have e : gotP p m = p := by rw [gotP, if_pos hb]
  rw [e, if_pos rfl]
  exact ⟨h, fun x hx => by cases hx⟩
theorem bi_hear {K : Int} {p : RP} {m : MP} (h : BI K p) (hK : 0 ≤ K) (hm : BM K m) : BI (K + 1) (hearP p m) ∧ ∀ x ∈ hearM p m, BM (K + 1) x := by
 have up : ∀ {p' : RP} {l : List MP}, (BI K p' ∧ ∀ x ∈ l, BM K x) → BI (K + 1) p' ∧ ∀ x ∈ l, BM (K + 1) x := fun h => ⟨bi_mono h.1 (by omega), fun x hx => bm_mono (h.2 x hx) (by omega)⟩
 unfold hearP hearM
 by_cases hb : hearBad p m = true ∨ hearOff p m = true
 ·rw [if_pos hb, if_pos hb]
  exact up ⟨h, fun x hx => by cases hx⟩
 rw [if_neg hb, if_neg hb]
 have hfr : NB m.frm := by
  have h0 : hearBad p m = false := by
   cases h0 : hearBad p m
   ·rfl
   ·exact absurd (.inl h0) hb
  rw [hearBad] at h0
  simp only [Bool.or_eq_false_iff, decide_eq_false_iff_not] at h0
  unfold NB
  omega
 have h1 : BI K (hear1 p m) := by
  unfold hear1; split
  ·exact bi_follow h _ _ hm.term
  ·exact h
 unfold doesP doesM
 by_cases k1 : m.kind = 1
 ·rw [if_pos k1, if_pos k1]
  have hv := bi_vote h1 hK m
  exact up ⟨hv, fun x hx => by rw [List.mem_singleton.1 hx]; exact bm_grant hv hK hfr _⟩
 rw [if_neg k1, if_neg k1]
 by_cases k2 : m.kind = 2
 ·rw [if_pos k2, if_pos k2]; exact bi_grant h1 hK m
 rw [if_neg k2, if_neg k2]
 by_cases k3 : m.kind = 3 ∨ m.kind = 5
 ·rw [if_pos k3, if_pos k3]; exact up (bi_leads hfr h1 hK hm)
 rw [if_neg k3, if_neg k3]
 by_cases k4 : m.kind = 4
 ·rw [if_pos k4, if_pos k4]; exact up (bi_ack h1 hK hm)
 rw [if_neg k4, if_neg k4]
 by_cases k6 : m.kind = 6
 ·rw [if_pos k6, if_pos k6]; exact up (bi_got h1 hK)
 rw [if_neg k6, if_neg k6]
 exact up ⟨h1, fun x hx => by cases hx⟩
structure BE (K : Int) (e : EP) : Prop where
 m : e.kind = 2 → BM K e.m
 ed : e.ed.length ≤ 100000
theorem bi_step {K : Int} {p : RP} {e : EP} (h : BI K p) (hK : 0 ≤ K) (hid : 1 ≤ p.id ∧ p.id ≤ 5) (he : BE K e) : BI (K + 2) (stepP p e) ∧ ∀ x ∈ stepM p e, BM (K + 2) x := by
 unfold stepP stepM
 by_cases k1 : e.kind = 1
 ·rw [if_pos k1, if_pos k1]; exact bi_tick h hK hid
 rw [if_neg k1, if_neg k1]
 by_cases k2 : e.kind = 2
 ·rw [if_pos k2, if_pos k2]
  have := bi_hear h hK (he.m k2)
  exact ⟨bi_mono this.1 (by omega), fun x hx => bm_mono (this.2 x hx) (by omega)⟩
 rw [if_neg k2, if_neg k2]
 by_cases k3 : e.kind = 3
 ·rw [if_pos k3, if_pos k3]; exact bi_prop h hK e.ek he.ed
 rw [if_neg k3, if_neg k3]
 refine ⟨?_, fun x hx => by cases hx⟩
 by_cases k4 : e.kind = 4
 ·rw [if_pos k4]; exact bi_mono (bi_comp h hK e.index e.img) (by omega)
 ·rw [if_neg k4]; exact bi_mono h (by omega)
theorem commitP_id (p : RP) : (commitP p).id = p.id ∧ (commitP p).tout = p.tout := by
 have h1 : (commit1 p).id = p.id ∧ (commit1 p).tout = p.tout := by unfold commit1; split <;> exact ⟨rfl, rfl⟩
 unfold commitP; split
 ·exact h1
 ·exact h1
theorem leadP_id (p : RP) : (leadP p).id = p.id ∧ (leadP p).tout = p.tout := commitP_id (lead2 p)
theorem step_id (p : RP) (e : EP) : (stepP p e).id = p.id ∧ (stepP p e).tout = p.tout := by
 have hst : ∀ p : RP, (standP p).id = p.id ∧ (standP p).tout = p.tout := fun p => by unfold standP; split; exact leadP_id _; exact ⟨rfl, rfl⟩
 have ht : (tickP p).id = p.id ∧ (tickP p).tout = p.tout := by
  unfold tickP; split; exact ⟨rfl, rfl⟩; split; exact hst _; exact ⟨rfl, rfl⟩
 have hp : ∀ ek ed, (propP p ek ed).id = p.id ∧ (propP p ek ed).tout = p.tout := fun ek ed => by
  unfold propP; split
  ·have := commitP_id (prop2 p ek ed)
   have h2 : (prop2 p ek ed).id = p.id ∧ (prop2 p ek ed).tout = p.tout := by unfold prop2; split <;> exact ⟨rfl, rfl⟩
   exact ⟨this.1.trans h2.1, this.2.trans h2.2⟩
  ·exact ⟨rfl, rfl⟩
 have hc : ∀ i img, (compP p i img).id = p.id ∧ (compP p i img).tout = p.tout := fun i img => by unfold compP; split <;> exact ⟨rfl, rfl⟩
 have hd : ∀ (p : RP) (m : MP), (doesP p m).id = p.id ∧ (doesP p m).tout = p.tout := fun p m => by
  unfold doesP
  split
  ·unfold voteP; split <;> exact ⟨rfl, rfl⟩
  split
  ·unfold grantP; split
   ·split
    ·exact leadP_id _
    ·exact ⟨rfl, rfl⟩
   ·exact ⟨rfl, rfl⟩
  split
  ·unfold leadsP; split
   ·exact ⟨rfl, rfl⟩
   ·split
    ·unfold tkP; split <;> exact ⟨rfl, rfl⟩
    ·unfold pcP; split
     ·exact ⟨rfl, rfl⟩
     ·split <;> exact ⟨rfl, rfl⟩
  split
  ·unfold ackP; split
   ·exact ⟨rfl, rfl⟩
   ·split
    ·exact ⟨rfl, rfl⟩
    ·split
     ·exact ⟨rfl, rfl⟩
     ·exact commitP_id _
  split
  ·unfold gotP; split <;> exact ⟨rfl, rfl⟩
  ·exact ⟨rfl, rfl⟩
 have hh : ∀ m, (hearP p m).id = p.id ∧ (hearP p m).tout = p.tout := fun m => by
  unfold hearP; split
  ·exact ⟨rfl, rfl⟩
  ·have h1 : (hear1 p m).id = p.id ∧ (hear1 p m).tout = p.tout := by unfold hear1; split <;> exact ⟨rfl, rfl⟩
   have := hd (hear1 p m) m
   exact ⟨this.1.trans h1.1, this.2.trans h1.2⟩
 unfold stepP
 split
 ·exact ht
 split
 ·exact hh _
 split
 ·exact hp _ _
 split
 ·exact hc _ _
 ·exact ⟨rfl, rfl⟩
end Go.Proofs.YtodcghipfolejaaGreat.Rf
namespace Go.Proofs.YtodcghipfolejaaGreat.Rf
open Go Go.Sl
structure AcP where
 kind : Int
 n : Int
 i : Int
 add : Bool
 data : Bs
 m : MP
structure WP where
 ms : List RP
 fl : List MP
def uM (x k : Int) : Int := IntKind.u64.wrap x % k
theorem uM_range (x : Int) {k : Int} (hk : 0 < k) : 0 ≤ uM x k ∧ uM x k < k := ⟨Int.emod_nonneg _ (by omega), Int.emod_lt_of_pos _ hk⟩
def memP (n : Int) : List Int := (List.range (1 + (uM n 5).toNat)).map fun i => ((i : Nat) : Int) + 1
def toP (n : Int) : Int := 1 + uM n 1000
def noEv : EP := ⟨0, MP0, 0, [], 0, []⟩
def mindAt (w : WP) (n : Int) : RP := w.ms.getD n.toNat rp0
def flIx (w : WP) (a : AcP) : Nat := (uM a.i (w.fl.length : Int)).toNat
def flM (w : WP) (a : AcP) : MP := w.fl.getD (flIx w a) MP0
structure EvR where
 n : Int
 e : EP
 ok : Bool
 fl : List MP
def nOf (a : AcP) : Int := uM a.n 5
def lessP (w : WP) (a : AcP) : Int := if (mindAt w (nOf a)).commit < uM a.i 3 then 0 else uM a.i 3
def evOf (w : WP) (a : AcP) : EvR :=
 if 1 ≤ a.kind ∧ a.kind ≤ 3 then
  if w.fl.length = 0 then ⟨0, noEv, false, w.fl⟩
  else ⟨(flM w a).to - 1, ⟨2, flM w a, 0, [], 0, []⟩, !decide (a.kind = 2) && (decide (1 ≤ (flM w a).to) && decide ((flM w a).to ≤ 5)), if a.kind < 3 then w.fl.take (flIx w a) ++ w.fl.drop (flIx w a + 1) else w.fl⟩
 else if a.kind = 0 then ⟨nOf a, ⟨1, MP0, 0, [], 0, []⟩, true, w.fl⟩
 else if a.kind = 4 then ⟨nOf a, ⟨3, MP0, 3, a.data, 0, []⟩, true, w.fl⟩
 else if a.kind = 5 then ⟨nOf a, ⟨3, MP0, 2, textL (if a.add = true then withL (confL (mindAt w (nOf a))) (1 + uM a.i 5) else withoutL (confL (mindAt w (nOf a))) (1 + uM a.i 5)), 0, []⟩, true, w.fl⟩
 else if a.kind = 6 then ⟨nOf a, ⟨4, MP0, 0, [], (mindAt w (nOf a)).commit - lessP w a, a.data⟩, true, w.fl⟩
 else ⟨nOf a, noEv, false, w.fl⟩
def againP (p : RP) : RP := if badNew p.id p.tout = true then rp0 else newP p.id ⟨p.term, p.vote, 0⟩ p.g p.img p.tout
def cut40 (l : List MP) : List MP := l.drop (l.length - 40)
structure AcR where
 w : WP
 n : Int
 ok : Bool
noncomputable def actP (w : WP) (a : AcP) : AcR :=
 if a.kind = 7 then ⟨⟨w.ms.set (nOf a).toNat (againP (mindAt w (nOf a))), w.fl⟩, nOf a, !badNew (mindAt w (nOf a)).id (mindAt w (nOf a)).tout⟩
 else if (evOf w a).ok = false then ⟨⟨w.ms, (evOf w a).fl⟩, (evOf w a).n, true⟩
 else ⟨⟨w.ms.set (evOf w a).n.toNat (stepP (mindAt w (evOf w a).n) (evOf w a).e), cut40 ((evOf w a).fl ++ stepM (mindAt w (evOf w a).n) (evOf w a).e)⟩, (evOf w a).n, true⟩
structure PlP where
 mem : Int
 tos : List Int
 acts : List AcP
def newN (p : PlP) (n : Nat) : RP := newP ((n : Int) + 1) ⟨0, 0, 0⟩ ⟨0, 0, memP p.mem, [], none, 0, none, 0⟩ [] (toP (p.tos.getD n 0))
def beginP (p : PlP) : WP := ⟨(List.range 5).map (newN p), []⟩
noncomputable def wAt (p : PlP) : Nat → WP
 | 0 => beginP p
 | k + 1 => (actP (wAt p k) (p.acts.getD k ⟨0, 0, 0, false, [], MP0⟩)).w
structure WB (K : Int) (w : WP) : Prop where
 len : w.ms.length = 5
 mind : ∀ n, n < 5 → BI K (w.ms.getD n rp0) ∧ (w.ms.getD n rp0).id = (n : Int) + 1 ∧ 1 ≤ (w.ms.getD n rp0).tout ∧ (w.ms.getD n rp0).tout ≤ 1000
 fl : ∀ m ∈ w.fl, BM K m
 few : w.fl.length ≤ 40
theorem badNew_no {id tout : Int} (h1 : 1 ≤ id ∧ id ≤ 5) (h2 : 1 ≤ tout ∧ tout ≤ 1000) : badNew id tout = false := by
 unfold badNew
 rw [decide_eq_false (by omega), decide_eq_false (by omega), decide_eq_false (by omega), decide_eq_false (by omega)]; rfl
theorem nOf_range (a : AcP) : 0 ≤ nOf a ∧ nOf a < 5 := uM_range a.n (by decide)
theorem wb_mind {K : Int} {w : WP} (h : WB K w) {n : Int} (hn : 0 ≤ n ∧ n < 5) : BI K (mindAt w n) ∧ (mindAt w n).id = n + 1 ∧ 1 ≤ (mindAt w n).tout ∧ (mindAt w n).tout ≤ 1000 := by
 have := h.mind n.toNat (by omega)
 unfold mindAt
 rw [show ((n.toNat : Nat) : Int) = n by omega] at this
 exact this
theorem flIx_lt {w : WP} {a : AcP} (h : 0 < w.fl.length) : flIx w a < w.fl.length := by
 have := uM_range a.i (k := (w.fl.length : Int)) (by omega)
 unfold flIx; omega
theorem flM_mem {w : WP} {a : AcP} (h : 0 < w.fl.length) : flM w a ∈ w.fl := by
 unfold flM
 rw [List.getD_eq_getElem?_getD, List.getElem?_eq_getElem (flIx_lt h)]
 exact List.getElem_mem _
theorem mfit_zero : MFit MP0 := ⟨⟨Int.le_refl _, by show (0 : Int) ≤ _; decide⟩, ⟨Int.le_refl _, by show (0 : Int) ≤ _; decide⟩, ⟨Int.le_refl _, by show (0 : Int) ≤ _; decide⟩, ⟨Int.le_refl _, by show (0 : Int) ≤ _; decide⟩, Nat.zero_le _, (fun e he => by cases he), Nat.zero_le _, by show (-9223372036854775808 : Int) ≤ 0 ∧ (0 : Int) ≤ 9223372036854775807; decide⟩
theorem textL_6 (l : List Int) : (textL l).length ≤ 6 := textL_le l 6 (Nat.le_refl _)
theorem ev_fl {w : WP} {a : AcP} {m : MP} (h : m ∈ (evOf w a).fl) : m ∈ w.fl := by
 unfold evOf at h
 split at h
 ·split at h
  ·exact h
  ·simp only at h
   split at h
   ·rcases List.mem_append.1 h with h | h
    ·exact List.mem_of_mem_take h
    ·exact List.mem_of_mem_drop h
   ·exact h
 ·split at h
  ·exact h
  ·split at h
   ·exact h
   ·split at h
    ·exact h
    ·split at h
     ·exact h
     ·exact h
theorem ev_fllen (w : WP) (a : AcP) : (evOf w a).fl.length ≤ w.fl.length := by
 unfold evOf
 split
 ·split
  ·exact Nat.le_refl _
  ·simp only
   split
   ·rw [List.length_append, List.length_take, List.length_drop]; omega
   ·exact Nat.le_refl _
 ·split
  ·exact Nat.le_refl _
  ·split
   ·exact Nat.le_refl _
   ·split
    ·exact Nat.le_refl _
    ·split
     ·exact Nat.le_refl _
     ·exact Nat.le_refl _
structure EvOk (K : Int) (r : EvR) : Prop where
 n : 0 ≤ r.n ∧ r.n < 5
 be : BE K r.e
 kind : 1 ≤ r.e.kind ∧ r.e.kind ≤ 4
 mfit : K ≤ 90000 → MFit r.e.m
 index : 0 ≤ r.e.index ∧ r.e.index ≤ K
theorem ev_ok {K : Int} {w : WP} {a : AcP} (h : WB K w) (hK : 0 ≤ K) (hd : a.data.length ≤ 100000) (ho : (evOf w a).ok = true) : EvOk K (evOf w a) := by
 have hn := nOf_range a
 have hi0 : (0 : Int) ≤ 0 ∧ (0 : Int) ≤ K := ⟨Int.le_refl _, hK⟩
 unfold evOf at ho ⊢
 split
 ·rename_i h1
  rw [if_pos h1] at ho
  split
  ·rename_i h2
   rw [if_pos h2] at ho; cases ho
  ·rename_i h2
   rw [if_neg h2] at ho
   simp only [Bool.and_eq_true, decide_eq_true_eq] at ho
   exact ⟨by show 0 ≤ (flM w a).to - 1 ∧ (flM w a).to - 1 < 5; omega, ⟨fun _ => h.fl _ (flM_mem (by omega)), Nat.zero_le _⟩, by show (1 : Int) ≤ 2 ∧ (2 : Int) ≤ 4; decide, fun hk => bm_fit (h.fl _ (flM_mem (by omega))) hk, hi0⟩
 ·rename_i h1
  rw [if_neg h1] at ho
  split
  ·exact ⟨hn, ⟨(fun h => absurd (show (1 : Int) = 2 from h) (by decide)), Nat.zero_le _⟩, by show (1 : Int) ≤ 1 ∧ (1 : Int) ≤ 4; decide, fun _ => mfit_zero, hi0⟩
  ·rename_i h2
   rw [if_neg h2] at ho
   split
   ·exact ⟨hn, ⟨(fun h => absurd (show (3 : Int) = 2 from h) (by decide)), hd⟩, by show (1 : Int) ≤ 3 ∧ (3 : Int) ≤ 4; decide, fun _ => mfit_zero, hi0⟩
   ·rename_i h3
    rw [if_neg h3] at ho
    split
    ·exact ⟨hn, ⟨(fun h => absurd (show (3 : Int) = 2 from h) (by decide)), Nat.le_trans (textL_6 _) (by decide)⟩, by show (1 : Int) ≤ 3 ∧ (3 : Int) ≤ 4; decide, fun _ => mfit_zero, hi0⟩
    ·rename_i h4
     rw [if_neg h4] at ho
     split
     ·refine ⟨hn, ⟨(fun h => absurd (show (4 : Int) = 2 from h) (by decide)), Nat.zero_le _⟩, by show (1 : Int) ≤ 4 ∧ (4 : Int) ≤ 4; decide, fun _ => mfit_zero, ?_⟩
      have hc := (wb_mind h hn).1.commit
      have hu := uM_range a.i (k := 3) (by decide)
      show 0 ≤ (mindAt w (nOf a)).commit - lessP w a ∧ (mindAt w (nOf a)).commit - lessP w a ≤ K
      unfold lessP
      split <;> omega
     ·rename_i h5
      rw [if_neg h5] at ho; cases ho
theorem bi_again {K : Int} {p : RP} (h : BI K p) (hb : badNew p.id p.tout = false) (hK : 0 ≤ K) : BI K (againP p) ∧ (againP p).id = p.id ∧ (againP p).tout = p.tout := by
 have e : againP p = newP p.id ⟨p.term, p.vote, 0⟩ p.g p.img p.tout := by rw [againP, hb, if_neg (by decide)]
 rw [e]
 have hbs := h.base
 exact ⟨⟨h.base, h.conf, h.ent, h.bt, h.img, Nat.zero_le _, votes_nil, Nat.zero_le _, (fun q hq => by cases hq), ⟨Int.le_refl _, hK⟩, h.term, by show 0 ≤ p.base ∧ p.base ≤ K; omega⟩, rfl, rfl⟩
theorem wb_set {K : Int} {w : WP} (h : WB K w) {n : Int} (hn : 0 ≤ n ∧ n < 5) {p : RP} (hp : BI K p ∧ p.id = n + 1 ∧ 1 ≤ p.tout ∧ p.tout ≤ 1000) {fl : List MP} (hf : ∀ m ∈ fl, BM K m) (hfw : fl.length ≤ 40) : WB K ⟨w.ms.set n.toNat p, fl⟩ := by
 refine ⟨by show (w.ms.set n.toNat p).length = 5; rw [List.length_set]; exact h.len, fun k hk => ?_, hf, hfw⟩
 show BI K ((w.ms.set n.toNat p).getD k rp0) ∧ _
 rw [List.getD_eq_getElem?_getD, List.getElem?_set]
 by_cases e : n.toNat = k
 ·rw [if_pos e, if_pos (by rw [h.len]; omega)]
  simp only [Option.getD_some]
  exact ⟨hp.1, by omega, hp.2.2⟩
 ·rw [if_neg e, ← List.getD_eq_getElem?_getD]
  exact h.mind k hk
theorem wb_mono {K K' : Int} {w : WP} (h : WB K w) (hK : K ≤ K') : WB K' w := ⟨h.len, fun n hn => ⟨bi_mono (h.mind n hn).1 hK, (h.mind n hn).2⟩, fun m hm => bm_mono (h.fl m hm) hK, h.few⟩
theorem wb_act {K : Int} {w : WP} {a : AcP} (h : WB K w) (hK : 0 ≤ K) (hd : a.data.length ≤ 100000) : WB (K + 2) (actP w a).w ∧ (actP w a).ok = true := by
 have h' := wb_mono h (show K ≤ K + 2 by omega)
 unfold actP
 split
 ·have hn := nOf_range a
  have hm := wb_mind h' hn
  have hb := badNew_no (id := (mindAt w (nOf a)).id) (tout := (mindAt w (nOf a)).tout) (by omega) hm.2.2
  have hag := bi_again hm.1 hb (by omega)
  exact ⟨wb_set h' hn ⟨hag.1, by rw [hag.2.1]; exact hm.2.1, by rw [hag.2.2]; exact hm.2.2⟩ h'.fl h'.few, by show (!badNew _ _) = true; rw [hb]; rfl⟩
 ·split
  ·exact ⟨⟨h'.len, h'.mind, fun m hm => h'.fl m (ev_fl hm), Nat.le_trans (ev_fllen w a) h'.few⟩, rfl⟩
  ·rename_i ho
   have ho1 : (evOf w a).ok = true := by simpa using ho
   have he := ev_ok h hK hd ho1
   have hm := wb_mind h he.n
   have hs := bi_step hm.1 hK (by have := he.n; omega) he.be
   have hid := step_id (mindAt w (evOf w a).n) (evOf w a).e
   refine ⟨wb_set h' he.n ⟨hs.1, by rw [hid.1]; exact hm.2.1, by rw [hid.2]; exact hm.2.2⟩ (fun m hm2 => ?_) ?_, rfl⟩
   ·rcases List.mem_append.1 (List.mem_of_mem_drop hm2) with h1 | h1
    ·exact h'.fl m (ev_fl h1)
    ·exact hs.2 m h1
   ·show (cut40 _).length ≤ 40
    unfold cut40
    rw [List.length_drop]; omega
theorem memP_nb (n : Int) : ∀ k ∈ memP n, NB k := by
 have := uM_range n (k := 5) (by decide)
 intro k hk
 unfold memP at hk
 obtain ⟨i, hi, rfl⟩ := List.mem_map.1 hk
 rw [List.mem_range] at hi
 unfold NB
 omega
theorem memP_le (n : Int) : (memP n).length ≤ 5 := by
 have := uM_range n (k := 5) (by decide)
 unfold memP
 rw [List.length_map, List.length_range]; omega
theorem wb_begin (p : PlP) : WB 0 (beginP p) := by
 refine ⟨by show ((List.range 5).map (newN p)).length = 5; simp, fun n hn => ?_, (fun m hm => by cases hm), Nat.zero_le _⟩
 have e : (beginP p).ms.getD n rp0 = newN p n := by
  show ((List.range 5).map (newN p)).getD n rp0 = _
  rw [List.getD_eq_getElem?_getD, List.getElem?_map, List.getElem?_range hn]; rfl
 rw [e]
 have := uM_range (p.tos.getD n 0) (k := 1000) (by decide)
 refine ⟨⟨⟨Int.le_refl _, Int.le_refl _⟩, ⟨memP_le _, memP_nb _⟩, (fun e he => by cases he), ⟨Int.le_refl _, Int.le_refl _⟩, Nat.zero_le _, Nat.zero_le _, votes_nil, Nat.zero_le _, (fun q hq => by cases hq), ⟨Int.le_refl _, Int.le_refl _⟩, ⟨Int.le_refl _, Int.le_refl _⟩, ⟨Int.le_refl _, Int.le_refl _⟩⟩, rfl, ?_⟩
 show 1 ≤ toP (p.tos.getD n 0) ∧ toP (p.tos.getD n 0) ≤ 1000
 unfold toP; omega
def SmallA (p : PlP) : Prop := p.acts.length ≤ 400 ∧ ∀ a ∈ p.acts, a.data.length ≤ 100000
theorem wb_at {p : PlP} (hp : SmallA p) : ∀ k, k ≤ p.acts.length → WB (2 * (k : Int)) (wAt p k)
 | 0, _ => wb_begin p
 | k + 1, hk => by
  have h := wb_at hp k (by omega)
  have hm : p.acts.getD k ⟨0, 0, 0, false, [], MP0⟩ ∈ p.acts := by
   rw [List.getD_eq_getElem?_getD, List.getElem?_eq_getElem (by omega)]; exact List.getElem_mem _
  have := (wb_act h (by omega) (hp.2 _ hm)).1
  rw [wAt, show 2 * ((k + 1 : Nat) : Int) = 2 * (k : Int) + 2 by omega]
  exact this
structure AcM where
 kind : Int
 n : Int
 i : Int
 add : Bool
 data : Bs
 m : MM
abbrev AcM.p (a : AcM) : AcP := ⟨a.kind, a.n, a.i, a.add, a.data, a.m.p⟩
abbrev acC (a : AcM) : List Value := [.int .i64 a.kind, .int .i64 a.n, .int .i64 a.i, .bool a.add, B a.data, .int .i64 a.m.p.kind, .int .i64 a.m.p.frm, .int .i64 a.m.p.to, .int .u64 a.m.p.term, .int .u64 a.m.p.index, .int .u64 a.m.p.lt, .int .u64 a.m.p.commit, .bool a.m.p.ok, .slice a.m.ea a.m.p.ents.length a.m.ec, .slice a.m.ka a.m.p.conf.length a.m.kc, .int .i64 a.m.p.off, .int .i64 a.m.p.size, B a.m.p.data]
abbrev acA (a : AcM) : Value := .agg #[.int .i64 a.kind, .int .i64 a.n, .int .i64 a.i, .bool a.add, B a.data, .int .i64 a.m.p.kind, .int .i64 a.m.p.frm, .int .i64 a.m.p.to, .int .u64 a.m.p.term, .int .u64 a.m.p.index, .int .u64 a.m.p.lt, .int .u64 a.m.p.commit, .bool a.m.p.ok, .slice a.m.ea a.m.p.ents.length a.m.ec, .slice a.m.ka a.m.p.conf.length a.m.kc, .int .i64 a.m.p.off, .int .i64 a.m.p.size, B a.m.p.data]
abbrev acV (l : List AcM) : List Value := l.flatMap acC
theorem acC_len : ∀ x, (acC x).length = 18 := fun _ => rfl
abbrev AcM0 : AcM := ⟨0, 0, 0, false, [], MM0⟩
abbrev Mi := RP × RA
abbrev miC (x : Mi) : List Value := rsC x.1 x.2
abbrev miV (l : List Mi) : List Value := l.flatMap miC
theorem miC_len : ∀ x, (miC x).length = 18 := fun _ => rfl
theorem miC_one : ∀ x, ∀ q ∈ miC x, q.oneCell' = true := fun x q hq => by
 simp at hq
 rcases hq with rfl | rfl | rfl | rfl | rfl | rfl | rfl | rfl | rfl | rfl | rfl | rfl | rfl | rfl | rfl | rfl | rfl | rfl <;> rfl
theorem miV_len (l : List Mi) : (miV l).length = l.length * 18 := rec_length (C := miC) miC_len l
abbrev Mi0 : Mi := (rp0, RA0)
structure WS where
 ms : List Mi
 fm : List MM
 ma : Option Addr
 mc : Nat
 fa : Option Addr
 fc : Nat
abbrev WS.w (s : WS) : WP := ⟨s.ms.map (·.1), s.fm.map MM.p⟩
abbrev wB (W : Nat) (s : WS) : As := .blk W (.cells #[.slice s.ma s.ms.length s.mc, .slice s.fa s.fm.length s.fc] 31)
abbrev OwnMi (a : Option Addr) (l : List Mi) (c : Nat) : As := .own (.slice a l.length c) 49 18 (miV l)
structure WS.ok (h : Heap) (s : WS) : Prop where
 ms : ∀ x ∈ s.ms, RRd h x.1 x.2
 cap : ∀ x ∈ s.ms, x.1.l.length ≤ x.2.lc
 fa : RdS h s.fa (mmV s.fm)
 fm : ∀ m ∈ s.fm, MOk h m
 fc : s.fm.length ≤ s.fc
theorem WS.ok.le {h h' : Heap} {s : WS} (f : WS.ok h s) (l : Heap.le h h') : WS.ok h' s := ⟨fun x hx => (f.ms x hx).le l, f.cap, f.fa.le l, fun m hm => (f.fm m hm).le l, f.fc⟩
def mi (s : WS) (n : Int) : Mi := s.ms.getD n.toNat Mi0
theorem mi_mind (s : WS) (n : Int) : (mi s n).1 = mindAt s.w n := by
 unfold mi mindAt
 rw [List.getD_eq_getElem?_getD, List.getD_eq_getElem?_getD, List.getElem?_map]
 cases s.ms[n.toNat]? <;> rfl
theorem mi_mem {s : WS} {n : Int} (h : n.toNat < s.ms.length) : mi s n ∈ s.ms := by
 unfold mi
 rw [List.getD_eq_getElem?_getD, List.getElem?_eq_getElem h]; exact List.getElem_mem _
end Go.Proofs.YtodcghipfolejaaGreat.Rf
namespace Go.Proofs.YtodcghipfolejaaGreat.Rf
open Go Go.Sl
section
variable {P : Program} {N : Nat} {L : Lcs} {F : Snap} {H : List As}
theorem at_endT {fn : Func} {Post : Value → List As → Prop} {t n b t1 t2 : Nat} {tt te : TypeId} {cs : Array Value} {fr : Nat × Nat} {H' : List As} {v1 v2 : Value} [ha : HA P tt true] [hs : HS P tt n] (hr : fn.results = #[.tmp t1, .cell t tt, .tmp t2]) (hv : find L t = some (.pointer (some ⟨b, 0, none⟩))) (hv1 : find L t1 = some v1) (hv2 : find L t2 = some v2)
  (u : Upd H (.blk b (.cells cs te fr)) [] H') (hn : Nat.beq n cs.size = true) (A : List As) (hpost : Post (.tuple #[v1, .agg cs, v2]) A) (hA : ∀ w, Hp F w H → Hp F w A) : At N (RetQ P fn F Post) L F H := by
 unfold At
 intro a w hf hw
 have e1 := Nat.eq_of_beq_eq_true hn
 have e : sl cs 0 cs.size = cs.toList := by
  simp only [sl, List.drop_zero]
  exact List.take_of_length_le (by simp)
 obtain ⟨ad, e2, hc⟩ := peek_blkN (n := cs.size) hw u
 injection e2 with e2; subst e2
 rw [e] at hc
 have h1 := run_loadCells_peek (P := P) hc
 have h2 : a.tmps.getD t undef = .pointer (some ⟨b, 0, none⟩) := hf.eval (x := .tmp t) hv
 have h4 : a.tmps.getD t1 undef = v1 := hf.eval (x := .tmp t1) hv1
 have h6 : a.tmps.getD t2 undef = v2 := hf.eval (x := .tmp t2) hv2
 subst e1
 refine ⟨.tuple #[v1, .agg cs, v2], A, ?_, hpost, hA w hw, hf.defers⟩
 have h3 : a.tmps[t]?.getD undef = .pointer (some ⟨b, 0, none⟩) := by simpa using h2
 have h5 : a.tmps[t1]?.getD undef = v1 := by simpa using h4
 have h7 : a.tmps[t2]?.getD undef = v2 := by simpa using h6
 simp at h1
 simp [results, hr, h3, h5, h7, asAddr, loadVar, ha.h, hs.h, h1]
end
section
variable {α : Type} {C : α → List Value} {n : Nat}
theorem rec_take (hn : ∀ x, (C x).length = n) : ∀ (l : List α) (k : Nat), (l.flatMap C).take (k * n) = (l.take k).flatMap C
 | [], k => by simp
 | x :: r, 0 => by simp
 | x :: r, k + 1 => by
  have e : (k + 1) * n = (C x).length + k * n := by rw [hn x, Nat.succ_mul]; omega
  rw [List.take_succ_cons, List.flatMap_cons, List.flatMap_cons, e, List.take_length_add_append, rec_take hn r k]
theorem rec_drop (hn : ∀ x, (C x).length = n) : ∀ (l : List α) (k : Nat), (l.flatMap C).drop (k * n) = (l.drop k).flatMap C
 | [], k => by simp
 | x :: r, 0 => by simp
 | x :: r, k + 1 => by
  have e : (k + 1) * n = (C x).length + k * n := by rw [hn x, Nat.succ_mul]; omega
  rw [List.drop_succ_cons, List.flatMap_cons, e, List.drop_length_add_append, rec_drop hn r k]
end
theorem rd_takeM {h : Heap} {a : Option Addr} {l : List MM} {c i : Nat} (r : RdS h a (mmV l)) (hc : l.length ≤ c) (hi : i ≤ l.length) : RdS h a (mmV (l.take i)) := by
 have := r.cut (sz := 13) (mmV_len l) hc 0 i (Nat.zero_le _) hi
 rw [cutA_zero, Nat.zero_mul, List.drop_zero, Nat.sub_zero, rec_take mmC_len] at this
 exact this
theorem rd_dropM {h : Heap} {a : Option Addr} {l : List MM} {c i : Nat} (r : RdS h a (mmV l)) (hc : l.length ≤ c) (hi : i ≤ l.length) : RdS h (cutA a c i 13) (mmV (l.drop i)) := by
 have := r.cut (sz := 13) (mmV_len l) hc i l.length hi (Nat.le_refl _)
 rw [rec_drop mmC_len, List.take_of_length_le (by rw [rec_length (C := mmC) mmC_len, List.length_drop]; omega)] at this
 exact this
def memK (k : Nat) : List Int := (List.range k).map fun i => ((i : Nat) : Int) + 1
theorem memK_succ (k : Nat) : memK (k + 1) = memK k ++ [(k : Int) + 1] := by unfold memK; rw [List.range_succ, List.map_append]; rfl
theorem memK_len (k : Nat) : (memK k).length = k := by unfold memK; simp
theorem few_ct (n : Int) : Pu Tryz.prog 25 [.int .i64 n] (fun _ => True) (.int .i64 (min n 1048576)) := by
 refine ct_enter 5 Tryz.func25 rfl rfl rfl ?_
 intro F _
 repeat refine x_ ?_
 refine a_ ?_
 repeat refine x_ ?_
 refine m_ ?_
 refine f_ (s_min2 rfl rfl) ?_
 refine a_ ?_
 repeat refine n_ ?_
 refine g_ret ?_
 exact at_end1 rfl rfl [] ⟨rfl, rfl⟩ (fun _ h => h)
theorem timeout_ct (n : Int) : Pu Tryz.prog 27 [.int .i64 n] (fun _ => True) (.int .i64 (toP n)) := by
 have hu := uM_range n (k := 1000) (by decide)
 obtain ⟨u, hue⟩ : ∃ u, u = IntKind.u64.wrap n := ⟨_, rfl⟩
 have hu0 : 0 ≤ u ∧ u ≤ 18446744073709551615 := by rw [hue, IntKind.wrap_u64]; omega
 have e : uM n 1000 = u % 1000 := by rw [uM, hue]
 rw [e] at hu
 refine ct_enter 8 Tryz.func27 rfl rfl rfl ?_
 intro F _
 repeat refine x_ ?_
 refine a_ ?_
 repeat refine x_ ?_
 refine m_ ?_
 refine f_ ((s_conv_int rfl).eq (v' := .int .u64 u) (by rw [hue])) ?_
 refine f_ (s_rem_pos rfl rfl (by omega)) ?_
 refine f_ (s_conv_keep_i64 rfl (by omega)) ?_
 refine f_ ((s_add_i64 rfl rfl (by omega)).eq (v' := .int .i64 (toP n)) (by rw [toP, e])) ?_
 refine a_ ?_
 repeat refine n_ ?_
 refine g_ret ?_
 exact at_end1 rfl rfl [] ⟨rfl, rfl⟩ (fun _ h => h)
theorem rmem_ct (n : Int) : Ct Tryz.prog 26 [.int .i64 n] (fun _ => True) [] (LsP (memP n)) := by
 have hu := uM_range n (k := 5) (by decide)
 obtain ⟨u, hue⟩ : ∃ u, u = IntKind.u64.wrap n := ⟨_, rfl⟩
 have hu0 : 0 ≤ u ∧ u ≤ 18446744073709551615 := by rw [hue, IntKind.wrap_u64]; omega
 have e : uM n 5 = u % 5 := by rw [uM, hue]
 have eM : memP n = memK (1 + (uM n 5).toNat) := rfl
 obtain ⟨k0, hk0⟩ : ∃ k0, k0 = 1 + (uM n 5).toNat := ⟨_, rfl⟩
 rw [eM, ← hk0]
 rw [e] at hu hk0
 have hk5 : k0 ≤ 5 := by omega
 refine ct_enter 20 Tryz.func26 rfl rfl rfl ?_
 intro F _
 repeat refine x_ ?_
 refine a_ ?_
 repeat refine x_ ?_
 refine m_ ?_
 refine f_ ((s_conv_int rfl).eq (v' := .int .u64 u) (by rw [hue])) ?_
 refine f_ (s_rem_pos rfl rfl (by omega)) ?_
 refine f_ (s_conv_keep_i64 rfl (by omega)) ?_
 refine f_ ((s_add_i64 rfl rfl (by omega)).eq (v' := .int .i64 (k0 : Nat)) (by congr 1; omega)) ?_
 refine a_ ?_
 repeat refine x_ ?_
 refine a_ ?_
 repeat refine x_ ?_
 refine a_ ?_
 repeat refine n_ ?_
 refine g_own_nil 3 1 ?_
 refine g_loop (ι := Nat × Option Addr × Nat) (fun i => i.1 ≤ k0) (fun i => [(0, .int .i64 (k0 : Nat)), (3, .slice i.2.1 (memK i.1).length i.2.2), (4, .int .i64 ((i.1 : Nat) + 1))]) (fun i => [OwnC i.2.1 (memK i.1) i.2.2]) (fun i => k0 - i.1) (0, none, 0) (Nat.zero_le _) ?_ ?_ ?_
 ·(repeat (first | exact Sub.nil _ | refine Sub.cons rfl ?_))
 ·intro w hw; exact hw
 rintro ⟨k, b, d⟩ hk
 simp only at hk
 have hml := memK_len k
 have hml2 : (memK ((k, b, d) : Nat × Option Addr × Nat).1).length = k := hml
 repeat refine x_ ?_
 refine m_ ?_
 refine m_ ?_
 refine f_ (s_leq rfl rfl) ?_
 repeat refine n_ ?_
 refine g_cond rfl (fun h => ?_) (fun h => ?_)
 ·have hk' : k < k0 := by simp at h; omega
  repeat refine x_ ?_
  refine m_ ?_
  refine m_ ?_
  refine gl_buildSliceU rfl rfl rfl rfl rfl rfl (xs := intsV [(k : Int) + 1]) rfl rfl ?_; intro a17 ha17
  refine gl_append rfl rfl (fun a' c' => z_5) (fun w hw => (hw.ownN z_2).2.2.1) rfl rfl rfl (intsV_one _) (by show (_ + 1) * 8 ≤ _; omega) (by omega) rfl ?_; intro a18 c18 hc18
  refine a_ ?_
  repeat refine x_ ?_
  refine m_ ?_
  refine f_ (s_add_i64 rfl rfl (by omega)) ?_
  refine a_ ?_
  repeat refine n_ ?_
  refine at_next (k + 1, a18, c18) (by simp only; omega) (by simp only; omega) ?_ ?_
  ·simp only [memK_len] at hc18 ⊢
   (repeat (first | exact Sub.nil _ | refine Sub.cons rfl ?_))
  ·intro w hw
   simp only [OwnC, memK_succ, List.length_append, List.length_singleton, intsV_append]
   exact hw.drop
 ·have hkl : k = k0 := by simp at h; omega
  subst hkl
  repeat refine x_ ?_
  refine m_ ?_
  refine a_ ?_
  repeat refine n_ ?_
  refine g_ret ?_
  exact at_end1 rfl rfl [OwnC b (memK k) d] ⟨b, d, rfl, rfl⟩ (fun _ h => h)
end Go.Proofs.YtodcghipfolejaaGreat.Rf
namespace Go.Proofs.YtodcghipfolejaaGreat.Rf
open Go Go.Sl
theorem rdMi_own {F : Snap} {w : World} {H H' : List As} {a : Option Addr} {l : List Mi} {n c q i : Nat} {te : TypeId} (hw : Hp F w H) (u : Upd H (.own (.slice a n c) te 18 (miV l)) [] H') (h : q = 18 * i) (hi : i < l.length) : PeekC (hp w) (addO a q) (miC (l.getD i Mi0)) := rec_rdN (C := miC) (hw.ownN u).2.2.1 miC_len (by decide) Mi0 h hi
theorem rdMi1_own {F : Snap} {w : World} {H H' : List As} {a : Option Addr} {l : List Mi} {n c q i j : Nat} {te : TypeId} {v : Value} (hw : Hp F w H) (u : Upd H (.own (.slice a n c) te 18 (miV l)) [] H') (h : q = 18 * i + j) (hi : i < l.length) (hv : (miC (l.getD i Mi0))[j]? = some v) : PeekC (hp w) (addO a q) [v] := rec_rd1 (C := miC) (hw.ownN u).2.2.1 miC_len Mi0 h hi hv
theorem rdMM {F : Snap} {w : World} {H : List As} {a : Option Addr} {l : List MM} {q i : Nat} (hw : Hp F w H) (r : RdS F.heap a (mmV l)) (h : q = 13 * i) (hi : i < l.length) : PeekC (hp w) (addO a q) (mmC (l.getD i MM0)) := rec_rdN (C := mmC) (r.le hw.keep) mmC_len (by decide) MM0 h hi
theorem rdMM_some {h : Heap} {a : Option Addr} {l : List MM} {i : Nat} (r : RdS h a (mmV l)) (hi : i < l.length) : ∃ ad, a = some ad := rec_some (C := mmC) r mmC_len (by decide) hi
def EV0 : EV := ⟨0, MM0, 0, 0, [], 0, []⟩
def EvP (W : Nat) (s : WS) (r : EvR) (v : Value) (A : List As) : Prop :=
 ∃ (e : EV) (fm : List MM) (fa : Option Addr) (fc : Nat) (Z : List As), v = .tuple #[.int .i64 r.n, evA e, .bool r.ok] ∧ evp e = r.e ∧ fm.map MM.p = r.fl ∧ A = wB W { s with fm := fm, fa := fa, fc := fc } :: OwnMi s.ma s.ms s.mc :: Z ∧
  ∀ h, WS.ok h s → (∃ bs, Sat h Z bs) → WS.ok h { s with fm := fm, fa := fa, fc := fc } ∧ MOk h e.m
theorem mok_0 (h : Heap) : MOk h MM0 := ⟨RdS.nil _ _, RdS.nil _ _, Nat.le_refl _⟩
theorem EvP.plain (W : Nat) (s : WS) (e : EV) (n : Int) (ok : Bool) (he : e.m = MM0) : EvP W s ⟨n, evp e, ok, s.fm.map MM.p⟩ (.tuple #[.int .i64 n, evA e, .bool ok]) [wB W s, OwnMi s.ma s.ms s.mc] :=
 ⟨e, s.fm, s.fa, s.fc, [], rfl, rfl, rfl, rfl, fun h f _ => ⟨f, by rw [he]; exact mok_0 h⟩⟩
set_option maxRecDepth 16000 in
set_option maxHeartbeats 8000000 in
theorem event_ct (W : Nat) (s : WS) (a : AcM) (K : Int) (hwb : WB K s.w) (hK : 0 ≤ K ∧ K ≤ 80000) :
  Ct Tryz.prog 15 [Ptr W, acA a] (fun h => WS.ok h s) [wB W s, OwnMi s.ma s.ms s.mc] (EvP W s (evOf s.w a.p)) := by
 have hlen : s.ms.length = 5 := by have := hwb.len; simpa using this
 have hfew : s.fm.length ≤ 40 := by have := hwb.few; simpa using this
 have hwfl : s.w.fl.length = s.fm.length := by simp
 have hnr := nOf_range a.p
 obtain ⟨nn, hnn⟩ : ∃ n, n = nOf a.p := ⟨_, rfl⟩
 rw [← hnn] at hnr
 have hnnl : nn.toNat < s.ms.length := by omega
 obtain ⟨un, hun⟩ : ∃ u, u = IntKind.u64.wrap a.n := ⟨_, rfl⟩
 have hun0 : 0 ≤ un ∧ un ≤ 18446744073709551615 := by rw [hun, IntKind.wrap_u64]; omega
 have hnu : un % 5 = nn := by rw [hnn, nOf, uM, hun]
 obtain ⟨ui, hui⟩ : ∃ u, u = IntKind.u64.wrap a.i := ⟨_, rfl⟩
 have hui0 : 0 ≤ ui ∧ ui ≤ 18446744073709551615 := by rw [hui, IntKind.wrap_u64]; omega
 refine ct_enter 165 Tryz.func15 rfl rfl rfl ?_
 intro F hok
 refine g_ownN (a := s.ma) z_2 (fun _ _ hma => ?_)
 have hmas : ∃ ad, s.ma = some ad := hma (by omega)
 repeat refine x_ ?_
 refine gl_boxA rfl rfl ?_; intro g3
 refine a_ ?_
 refine gl_allocA rfl ?_; intro g5
 refine a_ ?_
 repeat refine n_ ?_
 refine g_pull (H' := [.blk g5 (.cells (evC EV0).toArray 53), .blk g3 (.cells (acC a).toArray 40), wB W s, OwnMi s.ma s.ms s.mc]) i_ ?_
 repeat refine x_ ?_
 refine f_ z_1 ?_
 refine r_ (by exact s_load_blk rfl z_2 a18_1) ?_
 refine f_ ((s_conv_int rfl).eq (v' := .int .u64 un) (by rw [hun])) ?_
 refine f_ (s_rem_pos rfl rfl (by omega)) ?_
 refine f_ ((s_conv_keep_i64 rfl (by omega)).eq (v' := .int .i64 nn) (by rw [hnu])) ?_
 refine a_ ?_
 repeat refine x_ ?_
 refine a_ ?_
 repeat refine n_ ?_
 obtain ⟨q1, hq1⟩ : ∃ q, q = decide (1 ≤ a.kind) := ⟨_, rfl⟩
 obtain ⟨q2, hq2⟩ : ∃ q, q = decide (a.kind ≤ 3) := ⟨_, rfl⟩
 obtain ⟨q12, hq12⟩ : ∃ q, q = (q1 && q2) := ⟨_, rfl⟩
 refine g_cutK [(0, Ptr W), (3, Ptr g3), (5, Ptr g5), (7, .int .i64 nn), (25, .bool q12)] [.blk g5 (.cells (evC EV0).toArray 53), .blk g3 (.cells (acC a).toArray 40), wB W s, OwnMi s.ma s.ms s.mc] ?_ ?_
 ·rw [hq12]
  cases q1
  all_goals
   repeat refine x_ ?_
   refine f_ z_1 ?_
   refine r_ (by exact s_load_blk rfl z_2 a18_0) ?_
   refine f_ ((s_geq rfl rfl).eb hq1) ?_
   refine m_ ?_
   (first | refine gl_guard_no rfl rfl rfl rfl rfl rfl rfl ?_ | (refine v_ ?_; refine f_ z_1 ?_))
   (first | refine gl_guard_no rfl rfl rfl rfl rfl rfl rfl ?_ | (refine v_ ?_; refine r_ (by exact s_load_blk rfl z_2 a18_0) ?_))
   (first | refine gl_guard_no rfl rfl rfl rfl rfl rfl rfl ?_ | (refine v_ ?_; refine f_ ((s_leq rfl rfl).eb hq2) ?_))
   refine f_ z_6 ?_
   repeat refine n_ ?_
   exact at_cut j_ i_
 have h13 : q12 = true ↔ (1 ≤ a.kind ∧ a.kind ≤ 3) := by rw [hq12, Bool.and_eq_true, hq1, hq2, decide_eq_true_eq, decide_eq_true_eq]
 repeat refine y_ ?_
 cases q12
 rotate_left
 ·have hk := h13.1 rfl
  obtain ⟨q3, hq3⟩ : ∃ q, q = decide ((s.fm.length : Int) = 0) := ⟨_, rfl⟩
  repeat refine x_ ?_
  refine m_ ?_
  refine f_ (s_nilCheck rfl) ?_
  refine f_ z_1 ?_
  refine r_ (by exact s_load_blk rfl z_2 a2_1) ?_
  refine f_ (s_len_sl rfl) ?_
  refine f_ ((s_eql rfl rfl).eb hq3) ?_
  repeat refine n_ ?_
  cases q3
  rotate_left
  ·have h0 : s.fm.length = 0 := by have := of_decide_eq_true hq3.symm; omega
   have e1 : evOf s.w a.p = ⟨0, noEv, false, s.w.fl⟩ := by rw [evOf, if_pos hk, if_pos (by rw [hwfl]; exact h0)]
   rw [e1]
   repeat refine x_ ?_
   refine f_ ((s_bld (cells := (evC EV0).toArray) rfl z_4).eq (v' := evA EV0) rfl) ?_
   refine a_ ?_
   (refine gl_store_blkW rfl rfl z_5 z_7 z_7 z_3 ?_)
   refine a_ ?_
   repeat refine n_ ?_
   refine g_ret ?_
   exact at_endT rfl rfl rfl rfl z_2 rfl [wB W s, OwnMi s.ma s.ms s.mc] (EvP.plain W s EV0 0 false rfl) (fun w hw => hw.drop.drop)
  have h0 : 0 < s.fm.length := by have := of_decide_eq_false hq3.symm; omega
  obtain ⟨ix, hix⟩ : ∃ ix, ix = flIx s.w a.p := ⟨_, rfl⟩
  have hixl : ix < s.fm.length := by rw [hix, ← hwfl]; exact flIx_lt (by omega)
  have hixu : ui % (s.fm.length : Int) = (ix : Nat) := by
   have e : flIx s.w a.p = (ui % (s.fm.length : Int)).toNat := by rw [flIx, uM, hwfl, hui]
   have := Int.emod_nonneg ui (show (s.fm.length : Int) ≠ 0 by omega)
   rw [hix, e]; omega
  obtain ⟨m, hm⟩ : ∃ m, m = s.fm.getD ix MM0 := ⟨_, rfl⟩
  have hmm : m ∈ s.fm := by rw [hm, List.getD_eq_getElem?_getD, List.getElem?_eq_getElem hixl]; exact List.getElem_mem _
  have hmp : flM s.w a.p = m.p := by
   rw [flM, ← hix, hm, List.getD_eq_getElem?_getD, List.getD_eq_getElem?_getD, List.getElem?_map]
   cases s.fm[ix]? <;> rfl
  have hto : NB m.p.to := (hwb.fl m.p (List.mem_map.2 ⟨m, hmm, rfl⟩)).to
  unfold NB at hto
  have hsome := rdMM_some hok.fa hixl
  have hfc := hok.fc
  repeat refine y_ ?_
  refine g_draw ([1, 6], [0, 1, 3, 0, 8, 24, 56, 120, 248, 511, 1023, 2047], []) [.blk g3 (.cells (acC a).toArray 40), wB W s] 12 rfl ?_
  refine w_ 0 rfl z_1 ?_
  (refine ga_read_k 1 rfl z_11 (s_load_blk rfl .del a18_2) k_ rfl rfl rfl z_4 ?_)
  refine w_ 2 rfl ((s_conv_int rfl).eq (v' := .int .u64 ui) (by rw [hui])) ?_
  refine w_ 3 rfl (s_move rfl) ?_
  refine w_ 4 rfl (s_nilCheck rfl) ?_
  refine w_ 5 rfl z_1 ?_
  (refine ga_read_k 6 rfl z_9 (s_load_blk rfl .del a2_1) k_ rfl rfl rfl z_4 ?_)
  refine w_ 7 rfl (s_len_sl rfl) ?_
  refine w_ 8 rfl (s_conv_keep_u64 rfl (by omega)) ?_
  refine w_ 9 rfl (s_rem_pos rfl rfl (by omega)) ?_
  refine w_ 10 rfl ((s_conv_keep_i64 rfl (by omega)).eq (v' := .int .i64 (ix : Nat)) (by rw [hixu])) ?_
  refine w_ 11 rfl (s_assign rfl) ?_
  refine ga_done z_4 ?_
  repeat refine x_ ?_
  refine m_ ?_
  refine f_ (s_nilCheck rfl) ?_
  refine f_ z_1 ?_
  refine r_ (by exact s_load_blk rfl z_2 a2_1) ?_
  refine m_ ?_
  refine f_ (s_indexAddr rfl hsome rfl (by show 0 ≤ (ix : Int) ∧ (ix : Int) < (s.fm.length : Nat); omega)) ?_
  refine r_ ((s_loadN (cs := mmC m) rfl (fun w hw => by rw [hm]; exact rdMM hw hok.fa (i := ix) (by omega) hixl) rfl).eq (v' := mmA m) rfl) ?_
  refine gl_allocA rfl ?_; intro g9
  (refine gl_store_blkW rfl rfl z_5 z_7 z_7 z_3 ?_)
  repeat refine n_ ?_
  obtain ⟨q4, hq4⟩ : ∃ q, q = decide (a.kind < 3) := ⟨_, rfl⟩
  repeat refine x_ ?_
  refine f_ z_1 ?_
  refine r_ (by exact s_load_blk rfl z_2 a18_0) ?_
  refine f_ ((s_lss rfl rfl).eb hq4) ?_
  repeat refine n_ ?_
  refine g_cutE (ι := { x : List MM × Option Addr × Nat × List As // x.1.map MM.p = (if a.kind < 3 then s.w.fl.take ix ++ s.w.fl.drop (ix + 1) else s.w.fl) ∧ ∀ h, WS.ok h s → (∃ bs, Sat h x.2.2.2 bs) → WS.ok h { s with fm := x.1, fa := x.2.1, fc := x.2.2.1 } }) (fun _ => [(3, Ptr g3), (5, Ptr g5), (9, Ptr g9)]) (fun x => blkMsg g9 m :: .blk g5 (.cells (evC EV0).toArray 53) :: .blk g3 (.cells (acC a).toArray 40) :: wB W { s with fm := x.1.1, fa := x.1.2.1, fc := x.1.2.2.1 } :: OwnMi s.ma s.ms s.mc :: x.1.2.2.2) ?_ (fun x => ?_)
  ·cases q4
   ·have n4 := of_decide_eq_false hq4.symm
    repeat refine y_ ?_
    exact at_cutE ⟨(s.fm, s.fa, s.fc, []), by rw [if_neg n4], fun h f _ => f⟩ j_ i_
   ·have n4 := of_decide_eq_true hq4.symm
    have ht1 : (s.fm.take ix).length = ix := by rw [List.length_take]; omega
    have hd1 : (s.fm.drop (ix + 1)).length = s.fm.length - (ix + 1) := List.length_drop
    repeat refine y_ ?_
    refine g_draw ([5, 12], [0, 0, 0, 4, 12, 28, 0, 124, 254, 0, 512, 1536, 3584, 0, 8192, 32256, 65534, 131071, 262143, 524287], [1, 8, 16, 19]) [wB W s] 20 rfl ?_
    refine w_ 0 rfl (s_move rfl) ?_
    refine w_ 2 rfl (s_move rfl) ?_
    refine w_ 3 rfl (s_nilCheck rfl) ?_
    refine w_ 4 rfl z_1 ?_
    (refine ga_read_k 5 rfl z_11 (s_load_blk rfl .del a2_1) k_ rfl rfl rfl z_4 ?_)
    refine w_ 6 rfl (s_move rfl) ?_
    refine w_ 7 rfl ((s_slice_sl rfl rfl rfl (by omega)).eq (v' := .slice s.fa ix s.fc) (by show Value.slice (cutA s.fa s.fc 0 13) ((ix : Int).toNat - 0) (s.fc - 0) = _; rw [cutA_zero, Nat.sub_zero, Nat.sub_zero, Int.toNat_natCast])) ?_
    refine w_ 9 rfl (s_move rfl) ?_
    refine w_ 10 rfl (s_nilCheck rfl) ?_
    refine w_ 11 rfl z_1 ?_
    (refine ga_read_k 12 rfl z_11 (s_load_blk rfl .del a2_1) k_ rfl rfl rfl z_4 ?_)
    refine w_ 13 rfl (s_move rfl) ?_
    refine w_ 14 rfl ((s_add_i64 rfl rfl (by omega)).eq (v' := .int .i64 ((ix + 1 : Nat) : Int)) (by congr 1)) ?_
    refine w_ 15 rfl ((s_slice_sl rfl rfl rfl (by omega)).eq (v' := .slice (cutA s.fa s.fc (ix + 1) 13) (s.fm.length - (ix + 1)) (s.fc - (ix + 1))) z_7) ?_
    refine ga_one 1 rfl z_4 ?_
    refine gl_buildSlice0 rfl ?_; intro a55
    refine gl_nil ?_
    refine at_ga (.inr (by exact keeps_of k_)) ?_
    refine ga_one 8 rfl z_4 ?_
    refine gl_append (sz := 13) rfl rfl (fun a' c' => z_5) (fun w hw => rd_takeM (hok.fa.le hw.keep) hfc (i := ix) (by omega)) (by rw [mmV_len, ht1]) rfl rfl (mmV_one _) (by show (0 + ix) * 144 ≤ 140737488355328; omega) (by omega) rfl ?_; intro a62 c62 hc62
    refine gl_nil ?_
    refine at_ga (.inr (by exact keeps_of k_)) ?_
    refine ga_one 16 rfl z_4 ?_
    refine gl_append (sz := 13) rfl rfl (fun a' c' => z_5) (fun w hw => rd_dropM (hok.fa.le hw.keep) hfc (i := ix + 1) (by omega)) (by rw [mmV_len, hd1]) rfl rfl (mmV_one _) (by show (0 + ix + (s.fm.length - (ix + 1))) * 144 ≤ 140737488355328; omega) (by omega) rfl ?_; intro a70 c70 hc70
    refine gl_nil ?_
    refine at_ga (.inl z_4) ?_
    refine w_ 17 rfl (s_nilCheck rfl) ?_
    refine w_ 18 rfl z_1 ?_
    refine ga_one 19 rfl z_4 ?_
    (refine gl_store_blkC (pre := [_]) (post := []) rfl rfl z_5 z_7 z_7 z_7 ?_)
    refine gl_nil ?_
    refine at_ga (.inl z_4) ?_
    refine ga_done z_4 ?_
    repeat refine y_ ?_
    have hne : (s.fm.take ix ++ s.fm.drop (ix + 1)).length = 0 + ix + (s.fm.length - (ix + 1)) := by rw [List.length_append, ht1, hd1, Nat.zero_add]
    exact at_cutE ⟨(s.fm.take ix ++ s.fm.drop (ix + 1), a70, c70, [OwnM a70 (s.fm.take ix ++ s.fm.drop (ix + 1)) c70]), by rw [if_pos n4]; simp [List.map_take, List.map_drop], fun h f ⟨bs, hb⟩ => ⟨f.ms, f.cap, Sat.rd (a := a70) hb z_2, fun x hx => by
     rcases List.mem_append.1 hx with hx | hx
     ·exact f.fm x (List.mem_of_mem_take hx)
     ·exact f.fm x (List.mem_of_mem_drop hx), by rw [hne]; exact hc70⟩⟩ j_ (fun w hw => by
      simp only [wB, OwnM, mmV_append, hne]
      rw [List.nil_append] at hw
      exact hw.perm (perm_up z_2 (perm_up z_2 (perm_up z_2 (perm_up z_2 (perm_up z_2 (.refl _)))))))
  obtain ⟨⟨fm, fa, fc, Z⟩, hfm, hZ⟩ := x
  simp only at hfm hZ ⊢
  obtain ⟨q5, hq5⟩ : ∃ q, q = decide (a.kind = 2) := ⟨_, rfl⟩
  have e1 : evOf s.w a.p = ⟨m.p.to - 1, ⟨2, m.p, 0, [], 0, []⟩, !q5, fm.map MM.p⟩ := by
   rw [evOf, if_pos hk, if_neg (by rw [hwfl]; omega), hmp, ← hix, hfm, hq5, decide_eq_true hto.1, decide_eq_true hto.2]
   simp
  rw [e1]
  repeat refine y_ ?_
  refine g_cutK [(4, .int .i64 (m.p.to - 1)), (5, Ptr g5), (6, .bool (!q5))] (.blk g5 (.cells (evC ⟨2, m, 0, 0, [], 0, []⟩).toArray 53) :: wB W { s with fm := fm, fa := fa, fc := fc } :: OwnMi s.ma s.ms s.mc :: Z) ?_ ?_
  ·cases q5
   all_goals
    repeat refine y_ ?_
    refine g_draw ([1, 3, 6, 10, 15], [0, 1, 3, 0, 8, 0, 32, 96, 224, 480, 992, 2016, 4064, 8160, 16352, 32736, 65504, 131040, 16359, 278527, 1048575], [19]) [blkMsg g9 m, .blk g3 (.cells (acC a).toArray 40)] 21 rfl ?_
    refine w_ 0 rfl z_1 ?_
    (refine ga_read_k 1 rfl z_11 (s_load_blk rfl .del a13_2) k_ rfl rfl rfl z_4 ?_)
    refine w_ 2 rfl (s_sub_i64 rfl rfl (by omega)) ?_
    refine ga_read_k 3 rfl z_11 ((s_load_blkW rfl .del z_7).eq (v' := mmA m) rfl) k_ rfl rfl rfl z_4 ?_
    refine w_ 4 rfl ((s_bld (cells := (evC ⟨2, m, 0, 0, [], 0, []⟩).toArray) rfl z_4).eq (v' := evA ⟨2, m, 0, 0, [], 0, []⟩) rfl) ?_
    refine w_ 5 rfl z_1 ?_
    (refine ga_read_k 6 rfl z_9 (s_load_blk rfl .del a18_0) k_ rfl rfl rfl z_4 ?_)
    refine w_ 7 rfl ((s_neq rfl rfl).eq (congrArg (fun b => Value.bool (!b)) hq5.symm)) ?_
    refine w_ 8 rfl (s_move rfl) ?_
    (first | refine s_ 9 ?_ | refine ga_free_g 9 rfl z_1 rfl rfl rfl rfl rfl rfl z_4 ?_)
    (first | refine s_ 10 ?_ | refine ga_read_kg 10 rfl z_11 (s_load_blk rfl .del a13_2) k_ rfl rfl rfl rfl rfl rfl z_4 ?_)
    (first | refine s_ 11 ?_ | refine ga_free_g 11 rfl ((s_geq rfl rfl).eq (v' := .bool true) (congrArg Value.bool (decide_eq_true hto.1))) rfl rfl rfl rfl rfl rfl z_4 ?_)
    refine w_ 12 rfl z_6 ?_
    refine w_ 13 rfl (s_move rfl) ?_
    (first | refine s_ 14 ?_ | refine ga_free_g 14 rfl z_1 rfl rfl rfl rfl rfl rfl z_4 ?_)
    (first | refine s_ 15 ?_ | refine ga_read_kg 15 rfl z_11 (s_load_blk rfl .del a13_2) k_ rfl rfl rfl rfl rfl rfl z_4 ?_)
    (first | refine s_ 16 ?_ | refine ga_free_g 16 rfl ((s_leq rfl rfl).eq (v' := .bool true) (congrArg Value.bool (decide_eq_true hto.2))) rfl rfl rfl rfl rfl rfl z_4 ?_)
    refine w_ 17 rfl z_6 ?_
    refine w_ 18 rfl (s_assign rfl) ?_
    refine ga_one 19 rfl z_4 ?_
    (refine gl_store_blkW rfl rfl z_5 z_7 z_7 z_3 ?_)
    refine gl_nil ?_
    refine at_ga (.inr (by exact keeps_of k_)) ?_
    refine w_ 20 rfl (s_assign rfl) ?_
    refine ga_done z_4 ?_
    repeat refine y_ ?_
    all_goals
     exact at_cut j_ (fun w hw => hw.drop |> fun h => h.perm (.swap _ _ _) |> fun h => h.drop)
  repeat refine y_ ?_
  refine g_ret ?_
  exact at_endT rfl rfl rfl rfl z_2 rfl (wB W { s with fm := fm, fa := fa, fc := fc } :: OwnMi s.ma s.ms s.mc :: Z) ⟨⟨2, m, 0, 0, [], 0, []⟩, fm, fa, fc, Z, rfl, rfl, rfl, rfl, fun h f hs => ⟨hZ h f hs, f.fm m hmm⟩⟩ (fun w hw => hw.drop)
 have hk : ¬ (1 ≤ a.kind ∧ a.kind ≤ 3) := fun h => by have := h13.2 h; cases this
 have hfl : s.w.fl = s.fm.map MM.p := rfl
 obtain ⟨x, hx⟩ : ∃ x, x = s.ms.getD nn.toNat Mi0 := ⟨_, rfl⟩
 have hxm : x ∈ s.ms := by rw [hx, List.getD_eq_getElem?_getD, List.getElem?_eq_getElem hnnl]; exact List.getElem_mem _
 have hxp : mindAt s.w nn = x.1 := by rw [← mi_mind, mi, ← hx]
 have hxb := wb_mind hwb hnr
 rw [hxp] at hxb
 have hxs := bi_st hxb.1 (by omega)
 have hxc := hok.cap x hxm
 have hxr := hok.ms x hxm
 obtain ⟨q0, hq0⟩ : ∃ q, q = decide (a.kind = 0) := ⟨_, rfl⟩
 obtain ⟨q4, hq4⟩ : ∃ q, q = decide (a.kind = 4) := ⟨_, rfl⟩
 obtain ⟨q5, hq5⟩ : ∃ q, q = decide (a.kind = 5) := ⟨_, rfl⟩
 obtain ⟨q6, hq6⟩ : ∃ q, q = decide (a.kind = 6) := ⟨_, rfl⟩
 repeat refine x_ ?_
 refine f_ z_1 ?_
 refine r_ (by exact s_load_blk rfl z_2 a18_0) ?_
 repeat refine x_ ?_
 refine f_ ((s_eql rfl rfl).eb hq0) ?_
 refine a_ ?_
 repeat refine n_ ?_
 cases q0
 rotate_left
 ·have e1 : evOf s.w a.p = ⟨nn, evp ⟨1, MM0, 0, 0, [], 0, []⟩, true, s.fm.map MM.p⟩ := by rw [evOf, if_neg hk, if_pos (of_decide_eq_true hq0.symm), hnn]
  rw [e1]
  repeat refine x_ ?_
  refine m_ ?_
  refine f_ ((s_bld (cells := (evC ⟨1, MM0, 0, 0, [], 0, []⟩).toArray) rfl z_4).eq (v' := evA ⟨1, MM0, 0, 0, [], 0, []⟩) rfl) ?_
  refine a_ ?_
  (refine gl_store_blkW rfl rfl z_5 z_7 z_7 z_3 ?_)
  refine a_ ?_
  repeat refine n_ ?_
  refine g_ret ?_
  exact at_endT rfl rfl rfl rfl z_2 rfl [wB W s, OwnMi s.ma s.ms s.mc] (EvP.plain W s ⟨1, MM0, 0, 0, [], 0, []⟩ nn true rfl) (fun w hw => hw.drop.drop)
 have n0 := of_decide_eq_false hq0.symm
 repeat refine x_ ?_
 refine f_ ((s_eql rfl rfl).eb hq4) ?_
 refine a_ ?_
 repeat refine n_ ?_
 cases q4
 rotate_left
 ·have e1 : evOf s.w a.p = ⟨nn, evp ⟨3, MM0, 0, 3, a.data, 0, []⟩, true, s.fm.map MM.p⟩ := by rw [evOf, if_neg hk, if_neg n0, if_pos (of_decide_eq_true hq4.symm), hnn]
  rw [e1]
  repeat refine y_ ?_
  refine g_draw ([2], [0, 0, 2, 6, 14, 1, 63, 127], [6]) [.blk g3 (.cells (acC a).toArray 40)] 8 rfl ?_
  refine w_ 0 rfl (s_move rfl) ?_
  refine w_ 1 rfl z_1 ?_
  (refine ga_read_k 2 rfl z_11 (s_load_blk rfl .del a18_4) k_ rfl rfl rfl z_4 ?_)
  refine w_ 3 rfl ((s_bld (cells := #[.int .u64 0, .int .i64 3, B a.data]) rfl z_4)) ?_
  refine w_ 4 rfl ((s_bld (cells := (evC ⟨3, MM0, 0, 3, a.data, 0, []⟩).toArray) rfl z_4).eq (v' := evA ⟨3, MM0, 0, 3, a.data, 0, []⟩) rfl) ?_
  refine w_ 5 rfl (s_assign rfl) ?_
  refine ga_one 6 rfl z_4 ?_
  (refine gl_store_blkW rfl rfl z_5 z_7 z_7 z_3 ?_)
  refine gl_nil ?_
  refine at_ga (.inl z_4) ?_
  refine w_ 7 rfl (s_assign rfl) ?_
  refine ga_done z_4 ?_
  repeat refine y_ ?_
  refine g_ret ?_
  exact at_endT rfl rfl rfl rfl z_2 rfl [wB W s, OwnMi s.ma s.ms s.mc] (EvP.plain W s ⟨3, MM0, 0, 3, a.data, 0, []⟩ nn true rfl) (fun w hw => hw.drop.drop)
 have n4 := of_decide_eq_false hq4.symm
 repeat refine x_ ?_
 refine f_ ((s_eql rfl rfl).eb hq5) ?_
 refine a_ ?_
 repeat refine n_ ?_
 cases q5
 rotate_left
 ·obtain ⟨ui5, hui5⟩ : ∃ u, u = 1 + uM a.i 5 := ⟨_, rfl⟩
  have hui5e : 1 + ui % 5 = ui5 := by rw [hui5, uM, hui]
  obtain ⟨add, hadd⟩ : ∃ b, b = a.add := ⟨_, rfl⟩
  obtain ⟨l', hl'⟩ : ∃ l', l' = (if a.add = true then withL (confL x.1) ui5 else withoutL (confL x.1) ui5) := ⟨_, rfl⟩
  have hcl : (confL x.1).length ≤ 5 := (bi_conf hxb.1 _).1
  have hl5 : l'.length ≤ 5 := by
   rw [hl']; split
   ·exact pick_le _ _
   ·exact Nat.le_trans (without_le _ _) hcl
  have e1 : evOf s.w a.p = ⟨nn, evp ⟨3, MM0, 0, 2, textL l', 0, []⟩, true, s.fm.map MM.p⟩ := by rw [evOf, if_neg hk, if_neg n0, if_neg n4, if_pos (of_decide_eq_true hq5.symm), ← hnn, hxp, hl', hui5]
  rw [e1]
  repeat refine x_ ?_
  refine m_ ?_
  refine f_ (s_nilCheck rfl) ?_
  refine f_ z_1 ?_
  refine r_ (by exact s_load_blk rfl z_2 a2_0) ?_
  refine m_ ?_
  refine f_ (s_indexAddr rfl hmas rfl (by omega)) ?_
  refine r_ ((s_loadN (cs := miC x) rfl (fun w hw => by rw [hx]; exact rdMi_own (a := s.ma) hw z_2 (i := nn.toNat) (by omega) hnnl) rfl).eq (v' := rsV x.1 x.2) rfl) ?_
  refine gl_call _ rfl (Members_ct x.1 x.2 hxs.fit hxc) i_ (fun h hh _ => ⟨hxr.rc.le hh, hxr.rl.le hh⟩) rfl ?_; rintro v A ⟨ca, cc, rfl, rfl⟩
  refine a_ ?_
  repeat refine x_ ?_
  refine f_ z_1 ?_
  refine r_ (by exact s_load_blk rfl z_2 a18_2) ?_
  refine f_ ((s_conv_int rfl).eq (v' := .int .u64 ui) (by rw [hui])) ?_
  refine f_ (s_rem_pos rfl rfl (by omega)) ?_
  refine f_ (s_conv_keep_i64 rfl (by omega)) ?_
  refine f_ ((s_add_i64 rfl rfl (by omega)).eq (v' := .int .i64 ui5) (by rw [hui5e])) ?_
  refine a_ ?_
  repeat refine x_ ?_
  refine f_ z_1 ?_
  refine r_ ((s_load_blk rfl z_2 z_7).eq (v' := .bool add) (by rw [hadd]; rfl)) ?_
  repeat refine n_ ?_
  refine g_cutE (ι := Option Addr × Nat) (fun y => [(5, Ptr g5), (7, .int .i64 nn), (10, .slice y.1 l'.length y.2)]) (fun y => OwnC y.1 l' y.2 :: .blk g5 (.cells (evC EV0).toArray 53) :: [wB W s, OwnMi s.ma s.ms s.mc]) ?_ (fun y => ?_)
  ·rw [← hadd] at hl'
   cases add
   ·rw [if_neg (by decide)] at hl'
    repeat refine x_ ?_
    refine m_ ?_
    refine m_ ?_
    refine gl_call _ rfl (Without_ct (confL x.1) ui5 ca cc (by omega)) i_ (fun h hh ⟨bs, hb⟩ => Sat.rd (a := ca) hb z_2) rfl ?_; rw [← hl']; rintro v A ⟨da, dc, rfl, rfl⟩
    refine a_ ?_
    repeat refine n_ ?_
    exact at_cutE (da, dc) j_ (fun w hw => Hp.left (R := [OwnC ca (confL x.1) cc, .blk g3 (.cells (acC a).toArray 40)]) (hw.perm (perm_up z_2 (perm_up z_2 (perm_up z_2 (perm_up z_2 (perm_up z_2 (.refl _))))))))
   ·rw [if_pos rfl] at hl'
    repeat refine x_ ?_
    refine m_ ?_
    refine m_ ?_
    refine gl_call _ rfl (With_ct (confL x.1) ui5 ca cc (by omega)) i_ (fun h hh ⟨bs, hb⟩ => Sat.rd (a := ca) hb z_2) rfl ?_; rw [← hl']; rintro v A ⟨da, dc, rfl, rfl⟩
    refine a_ ?_
    repeat refine n_ ?_
    exact at_cutE (da, dc) j_ (fun w hw => Hp.left (R := [OwnC ca (confL x.1) cc, .blk g3 (.cells (acC a).toArray 40)]) (hw.perm (perm_up z_2 (perm_up z_2 (perm_up z_2 (perm_up z_2 (perm_up z_2 (.refl _))))))))
  obtain ⟨da, dc⟩ := y
  simp only
  repeat refine x_ ?_
  refine m_ ?_
  refine m_ ?_
  refine gl_callp rfl (rText_ct l' da dc (by omega)) (fun h hh ⟨bs, hb⟩ => Sat.rd (a := da) hb z_2) rfl ?_
  refine f_ ((s_bld (cells := #[.int .u64 0, .int .i64 2, B (textL l')]) rfl z_4)) ?_
  refine f_ ((s_bld (cells := (evC ⟨3, MM0, 0, 2, textL l', 0, []⟩).toArray) rfl z_4).eq (v' := evA ⟨3, MM0, 0, 2, textL l', 0, []⟩) rfl) ?_
  refine a_ ?_
  (refine gl_store_blkW rfl rfl z_5 z_7 z_7 z_3 ?_)
  refine a_ ?_
  repeat refine n_ ?_
  refine g_ret ?_
  exact at_endT rfl rfl rfl rfl z_2 rfl [wB W s, OwnMi s.ma s.ms s.mc] (EvP.plain W s ⟨3, MM0, 0, 2, textL l', 0, []⟩ nn true rfl) (fun w hw => hw.drop.drop)
 have n5 := of_decide_eq_false hq5.symm
 repeat refine x_ ?_
 refine f_ ((s_eql rfl rfl).eb hq6) ?_
 refine a_ ?_
 repeat refine n_ ?_
 cases q6
 rotate_left
 ·obtain ⟨ui3, hui3⟩ : ∃ u, u = uM a.i 3 := ⟨_, rfl⟩
  have hui3e : ui % 3 = ui3 := by rw [hui3, uM, hui]
  have hu3 := uM_range a.i (k := 3) (by decide)
  rw [← hui3] at hu3
  obtain ⟨less, hless⟩ : ∃ l, l = lessP s.w a.p := ⟨_, rfl⟩
  have hlv : less = if x.1.commit < ui3 then 0 else ui3 := by rw [hless, lessP, ← hnn, hxp, hui3]
  have hcm := hxb.1.commit
  have hlr : 0 ≤ less ∧ less ≤ x.1.commit := by rw [hlv]; split <;> omega
  have e1 : evOf s.w a.p = ⟨nn, evp ⟨4, MM0, 0, 0, [], x.1.commit - less, a.data⟩, true, s.fm.map MM.p⟩ := by rw [evOf, if_neg hk, if_neg n0, if_neg n4, if_neg n5, if_pos (of_decide_eq_true hq6.symm), ← hnn, hxp, hless]
  rw [e1]
  obtain ⟨q7, hq7⟩ : ∃ q, q = decide (x.1.commit < ui3) := ⟨_, rfl⟩
  repeat refine x_ ?_
  refine f_ z_1 ?_
  refine r_ (by exact s_load_blk rfl z_2 a18_2) ?_
  refine f_ ((s_conv_int rfl).eq (v' := .int .u64 ui) (by rw [hui])) ?_
  refine f_ ((s_rem_pos rfl rfl (by omega)).eq (v' := .int .u64 ui3) (by rw [hui3e])) ?_
  refine a_ ?_
  repeat refine x_ ?_
  refine m_ ?_
  refine f_ (s_nilCheck rfl) ?_
  refine f_ z_1 ?_
  refine r_ (by exact s_load_blk rfl z_2 a2_0) ?_
  refine m_ ?_
  refine f_ (s_indexAddr rfl hmas rfl (by omega)) ?_
  refine f_ z_8 ?_
  refine r_ (s_load1 (v := .int .u64 x.1.commit) rfl (fun w hw => rdMi1_own (a := s.ma) hw z_2 (i := nn.toNat) (j := 10) (by omega) hnnl (by rw [← hx]; rfl))) ?_
  refine m_ ?_
  refine f_ ((s_lss rfl rfl).eb hq7) ?_
  repeat refine n_ ?_
  refine g_cutK [(0, Ptr W), (3, Ptr g3), (5, Ptr g5), (7, .int .i64 nn), (12, .int .u64 less)] (.blk g5 (.cells (evC EV0).toArray 53) :: .blk g3 (.cells (acC a).toArray 40) :: [wB W s, OwnMi s.ma s.ms s.mc]) ?_ ?_
  ·cases q7
   ·rw [if_neg (of_decide_eq_false hq7.symm)] at hlv
    rw [hlv]
    repeat refine y_ ?_
    exact at_cut j_ i_
   ·rw [if_pos (of_decide_eq_true hq7.symm)] at hlv
    rw [hlv]
    repeat refine x_ ?_
    refine a_ ?_
    repeat refine n_ ?_
    exact at_cut j_ i_
  repeat refine y_ ?_
  refine g_draw ([4, 8, 12], [0, 0, 2, 6, 14, 0, 62, 126, 254, 0, 1022, 0, 2048, 8190, 1, 32767, 65535], [15]) [.blk g3 (.cells (acC a).toArray 40), wB W s, OwnMi s.ma s.ms s.mc] 17 rfl ?_
  refine w_ 0 rfl (s_move rfl) ?_
  refine w_ 1 rfl (s_move rfl) ?_
  refine w_ 2 rfl (s_nilCheck rfl) ?_
  refine w_ 3 rfl z_1 ?_
  (refine ga_read_k 4 rfl z_9 (s_load_blk rfl .del a2_0) k_ rfl rfl rfl z_4 ?_)
  refine w_ 5 rfl (s_move rfl) ?_
  refine w_ 6 rfl (s_indexAddr rfl hmas rfl (by omega)) ?_
  refine w_ 7 rfl z_8 ?_
  refine ga_read_k 8 rfl z_17 (s_load1 (v := .int .u64 x.1.commit) rfl (fun w hw => rdMi1_own (a := s.ma) hw .del (i := nn.toNat) (j := 10) (by omega) hnnl (by rw [← hx]; rfl))) k_ rfl rfl rfl z_4 ?_
  refine w_ 9 rfl (s_move rfl) ?_
  refine w_ 10 rfl (s_sub_u64 rfl rfl (by omega)) ?_
  refine w_ 11 rfl z_1 ?_
  (refine ga_read_k 12 rfl z_11 (s_load_blk rfl .del a18_4) k_ rfl rfl rfl z_4 ?_)
  refine w_ 13 rfl ((s_bld (cells := (evC ⟨4, MM0, 0, 0, [], x.1.commit - less, a.data⟩).toArray) rfl z_4).eq (v' := evA ⟨4, MM0, 0, 0, [], x.1.commit - less, a.data⟩) rfl) ?_
  refine w_ 14 rfl (s_assign rfl) ?_
  refine ga_one 15 rfl z_4 ?_
  (refine gl_store_blkW rfl rfl z_5 z_7 z_7 z_3 ?_)
  refine gl_nil ?_
  refine at_ga (.inl z_4) ?_
  refine w_ 16 rfl (s_assign rfl) ?_
  refine ga_done z_4 ?_
  repeat refine y_ ?_
  refine g_ret ?_
  exact at_endT rfl rfl rfl rfl z_2 rfl [wB W s, OwnMi s.ma s.ms s.mc] (EvP.plain W s ⟨4, MM0, 0, 0, [], x.1.commit - less, a.data⟩ nn true rfl) (fun w hw => hw.drop.drop)
 have n6 := of_decide_eq_false hq6.symm
 have e1 : evOf s.w a.p = ⟨nn, evp EV0, false, s.fm.map MM.p⟩ := by rw [evOf, if_neg hk, if_neg n0, if_neg n4, if_neg n5, if_neg n6, hnn]; rfl
 rw [e1]
 repeat refine x_ ?_
 refine m_ ?_
 refine f_ ((s_bld (cells := (evC EV0).toArray) rfl z_4).eq (v' := evA EV0) rfl) ?_
 refine a_ ?_
 (refine gl_store_blkW rfl rfl z_5 z_7 z_7 z_3 ?_)
 refine a_ ?_
 repeat refine n_ ?_
 refine g_ret ?_
 exact at_endT rfl rfl rfl rfl z_2 rfl [wB W s, OwnMi s.ma s.ms s.mc] (EvP.plain W s EV0 nn false rfl) (fun w hw => hw.drop.drop)
end Go.Proofs.YtodcghipfolejaaGreat.Rf
namespace Go.Proofs.YtodcghipfolejaaGreat.Rf
open Go Go.Sl
theorem Sat.own_cap {h : Heap} {H H' : List As} {bs : List Nat} {a : Option Addr} {n c sz : Nat} {xs : List Value} {te : TypeId} (hs : Sat h H bs) (u : Upd H (.own (.slice a n c) te sz xs) [] H') : n ≤ c := by
 obtain ⟨b2, hx⟩ := Sat.get hs u
 rcases hx with ⟨hv, _, _⟩ | ⟨g, _, ⟨o, n', cap, pre, post, fr, hv, _, _, _, _, hle, _⟩⟩
 ·injection hv with e1 e2 e3; omega
 ·injection hv with e1 e2 e3; subst e2 e3; exact hle
theorem sat_tail {h : Heap} {x : As} {r : List As} (hs : ∃ bs, Sat h (x :: r) bs) : ∃ bs, Sat h r bs := by
 obtain ⟨bs, b1, b2, _, _, h2⟩ := hs
 exact ⟨b2, h2⟩
theorem ownS_ok {h : Heap} {p : RP} {a : RA} (hs : ∃ bs, Sat h (OwnS p a) bs) : RRd h p a ∧ p.l.length ≤ a.lc := by
 obtain ⟨bs, hb⟩ := hs
 exact ⟨⟨Sat.rd (a := a.ca) hb z_2, Sat.rd (a := a.la) hb z_2, Sat.rd (a := a.va) hb z_2, Sat.rd (a := a.pa) hb z_2⟩, Sat.own_cap (a := a.la) hb z_2⟩
theorem putx_whole {xs vs : List Value} (h : xs.length = vs.length) : putx xs 0 vs = vs := by
 unfold putx
 rw [List.take_zero, List.nil_append, Nat.zero_add, ← h, List.drop_length, List.append_nil]
theorem putx_mi {l : List Mi} {i : Nat} {y : Mi} (hi : i < l.length) : putx (miV l) (18 * i) (miC y) = miV (l.set i y) :=
 rec_put (C := miC) miC_len Mi0 l i hi 0 (miC y) y (by show 0 + 18 ≤ 18; decide) (putx_whole (by rw [miC_len, miC_len])).symm
theorem ws_set {h : Heap} {s : WS} {i : Nat} {y : Mi} (f : WS.ok h s) (hr : RRd h y.1 y.2) (hc : y.1.l.length ≤ y.2.lc) : WS.ok h { s with ms := s.ms.set i y } := by
 refine ⟨fun x hx => ?_, fun x hx => ?_, f.fa, f.fm, f.fc⟩
 ·rcases List.mem_or_eq_of_mem_set hx with h1 | h1
  ·exact f.ms x h1
  ·rw [h1]; exact hr
 ·rcases List.mem_or_eq_of_mem_set hx with h1 | h1
  ·exact f.cap x h1
  ·rw [h1]; exact hc
theorem ws_set_w (s : WS) (i : Nat) (y : Mi) : ({ s with ms := s.ms.set i y } : WS).w = ⟨s.w.ms.set i y.1, s.w.fl⟩ := by
 show (⟨(s.ms.set i y).map (·.1), s.fm.map MM.p⟩ : WP) = _
 rw [List.map_set]
def AgP (W : Nat) (s : WS) (n : Nat) (p' : RP) (v : Value) (A : List As) : Prop :=
 v = .bool true ∧ ∃ a' : RA, A = wB W { s with ms := s.ms.set n (p', a') } :: OwnMi s.ma (s.ms.set n (p', a')) s.mc :: OwnS p' a'
set_option maxRecDepth 16000 in
set_option maxHeartbeats 4000000 in
theorem again_ct (W : Nat) (s : WS) (n : Int) (K : Int) (hwb : WB K s.w) (hK : 0 ≤ K ∧ K ≤ 80000) (hn : 0 ≤ n ∧ n < 5) :
  Ct Tryz.prog 28 [Ptr W, .int .i64 n] (fun h => WS.ok h s) [wB W s, OwnMi s.ma s.ms s.mc] (AgP W s n.toNat (againP (mindAt s.w n))) := by
 have hlen : s.ms.length = 5 := by have := hwb.len; simpa using this
 have hnl : n.toNat < s.ms.length := by omega
 obtain ⟨x, hx⟩ : ∃ x, x = s.ms.getD n.toNat Mi0 := ⟨_, rfl⟩
 have hxp : mindAt s.w n = x.1 := by rw [← mi_mind, mi, ← hx]
 have hxm : x ∈ s.ms := by rw [hx, List.getD_eq_getElem?_getD, List.getElem?_eq_getElem hnl]; exact List.getElem_mem _
 have hxb := wb_mind hwb hn
 rw [hxp] at hxb
 have hxs := bi_st hxb.1 (by omega)
 have hbn := badNew_no (id := x.1.id) (tout := x.1.tout) (by omega) hxb.2.2
 have hag : againP x.1 = newP x.1.id ⟨x.1.term, x.1.vote, 0⟩ (x.1.lm x.2) x.1.img x.1.tout := by rw [againP, hbn, if_neg (by decide)]; rfl
 rw [hxp, hag]
 have hcl := hxs.fit.cl
 have hll := hxs.fit.len
 refine ct_enter 41 Tryz.func28 rfl rfl rfl ?_
 intro F hok
 have hxr := hok.ms x hxm
 refine g_ownN (a := s.ma) z_2 (fun _ _ hma => ?_)
 have hmas : ∃ ad, s.ma = some ad := hma (by omega)
 repeat refine x_ ?_
 refine a_ ?_
 repeat refine x_ ?_
 refine m_ ?_
 refine f_ (s_nilCheck rfl) ?_
 refine f_ z_1 ?_
 refine r_ (by exact s_load_blk rfl z_2 a2_0) ?_
 refine m_ ?_
 refine f_ (s_indexAddr rfl hmas rfl (by omega)) ?_
 refine r_ ((s_loadN (cs := miC x) rfl (fun w hw => by rw [hx]; exact rdMi_own (a := s.ma) hw z_2 (i := n.toNat) (by omega) hnl) rfl).eq (v' := rsV x.1 x.2) rfl) ?_
 refine gl_allocA rfl ?_; intro g5
 (refine gl_store_blkW rfl rfl z_5 z_7 z_7 z_3 ?_)
 repeat refine x_ ?_
 refine f_ z_1 ?_
 refine r_ (by exact s_load_blk rfl z_2 a18_0) ?_
 refine f_ z_1 ?_
 refine r_ (by exact s_load_blk rfl z_2 a18_1) ?_
 refine f_ z_1 ?_
 refine r_ (by exact s_load_blk rfl z_2 a18_2) ?_
 refine f_ ((s_bld (cells := #[.int .u64 x.1.term, .int .i64 x.1.vote, .int .u64 0]) rfl z_4)) ?_
 refine f_ z_1 ?_
 refine r_ ((s_load_blkN rfl z_2 z_7).eq (v' := (x.1.lm x.2).v) rfl) ?_
 refine f_ z_1 ?_
 refine r_ (by exact s_load_blk rfl z_2 a18_9) ?_
 refine f_ z_1 ?_
 refine r_ (by exact s_load_blk rfl z_2 a18_12) ?_
 refine gl_call _ rfl (New_ok x.1.id ⟨x.1.term, x.1.vote, 0⟩ (x.1.lm x.2) x.1.img x.1.tout (by show x.1.conf.length ≤ _; omega) (by show x.1.l.length ≤ _; omega) hbn) i_ (fun h hh _ => ⟨hxr.rc.le hh, hxr.rl.le hh⟩) rfl ?_; rintro v A ⟨a1, rfl, rfl⟩
 refine m_ ?_
 refine f_ (s_extract rfl rfl) ?_
 refine f_ (s_extract rfl rfl) ?_
 refine gl_allocA rfl ?_; intro g6
 (refine gl_store_blkW rfl rfl z_5 z_7 z_7 z_3 ?_)
 refine a_ ?_
 repeat refine n_ ?_
 obtain ⟨p1, hp1⟩ : ∃ p1, p1 = newP x.1.id ⟨x.1.term, x.1.vote, 0⟩ (x.1.lm x.2) x.1.img x.1.tout := ⟨_, rfl⟩
 rw [← hp1]
 repeat refine y_ ?_
 refine g_draw ([3, 5], [0, 1, 3, 7, 0, 0, 63, 127], [7]) [wB W s, .blk g6 (.cells (rsC p1 a1).toArray 49)] 8 rfl ?_
 refine w_ 0 rfl (s_move rfl) ?_
 refine w_ 1 rfl (s_nilCheck rfl) ?_
 refine w_ 2 rfl z_1 ?_
 (refine ga_read_k 3 rfl z_11 (s_load_blk rfl .del a2_0) k_ rfl rfl rfl z_4 ?_)
 refine w_ 4 rfl (s_move rfl) ?_
 refine ga_read_k 5 rfl z_9 ((s_load_blkW rfl .del z_7).eq (v' := rsV p1 a1) rfl) k_ rfl rfl rfl z_4 ?_
 refine w_ 6 rfl ((s_indexAddr rfl hmas rfl (by omega)).eq (v' := .pointer (addO s.ma (18 * n.toNat))) (by congr 2; omega)) ?_
 refine ga_one 7 rfl z_4 ?_
 refine gl_store_own (q := 18 * n.toNat) rfl rfl z_5 z_7 (by decide) z_3 (by show 18 * n.toNat + 18 ≤ (miV s.ms).length; rw [miV_len]; omega) ?_
 refine gl_nil ?_
 refine at_ga (.inl z_4) ?_
 refine ga_done z_4 ?_
 repeat refine x_ ?_
 refine m_ ?_
 refine f_ ((s_eql rfl rfl).eq (v' := .bool true) rfl) ?_
 refine a_ ?_
 repeat refine n_ ?_
 refine g_ret ?_
 have hpm := putx_mi (l := s.ms) (i := n.toNat) (y := (p1, a1)) hnl
 have hsl : (s.ms.set n.toNat (p1, a1)).length = s.ms.length := List.length_set
 exact at_end1 rfl rfl _ ⟨rfl, a1, rfl⟩ (fun w hw => by
  simp only [wB, OwnMi, hsl, ← hpm]
  exact Hp.left (R := [.blk g6 (.cells (rsC p1 a1).toArray 49), .blk g5 (.cells (rsC x.1 x.2).toArray 49)]) (hw.perm (perm_up z_2 (perm_up z_2 (perm_up z_2 (perm_up z_2 (perm_up z_2 (perm_up z_2 (perm_up z_2 (.refl _))))))))))
end Go.Proofs.YtodcghipfolejaaGreat.Rf
