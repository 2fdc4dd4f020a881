/- A mind in plain words: its state, messages, what it does; and how these lie in memory. -/
import Derived.Test.YtodcghipfolejaaCU10
import Derived.Test.YtodcghipfolejaaCU6
import Derived.Test.YtodcghipfolejaaCU4
namespace Go.Proofs.Ytodcghipfolejaa.Rf
open Go Go.Sl
set_option linter.unusedVariables false
set_option linter.unusedSimpArgs false

abbrev Bs := List UInt8
/-- a peer: node, next, match, offset -/
structure Pr where
  node : Int
  next : Int
  mtc : Int
  off : Int
deriving DecidableEq
abbrev P0 : Pr := ⟨0, 0, 0, 0⟩
abbrev prC (q : Pr) : List Value := [.int .i64 q.node, .int .u64 q.next, .int .u64 q.mtc, .int .i64 q.off]
abbrev prV (l : List Pr) : List Value := l.flatMap prC
theorem prC_len : ∀ x, (prC x).length = 4 := fun _ => rfl
theorem prC_one : ∀ x, ∀ q ∈ prC x, q.oneCell' = true := fun x q hq => by simp at hq; rcases hq with rfl | rfl | rfl | rfl <;> rfl
theorem prV_len (l : List Pr) : (prV l).length = l.length * 4 := rec_length (C := prC) prC_len l
theorem prV_one (l : List Pr) : ∀ q ∈ prV l, q.oneCell' = true := rec_one (C := prC) prC_one l
theorem prV_append (a b : List Pr) : prV (a ++ b) = prV a ++ prV b := List.flatMap_append
abbrev prA (q : Pr) : Value := .agg #[.int .i64 q.node, .int .u64 q.next, .int .u64 q.mtc, .int .i64 q.off]
/-- a message -/
structure MP where
  kind : Int
  frm : Int
  to : Int
  term : Int
  index : Int
  lt : Int
  commit : Int
  ok : Bool
  ents : List Ent
  conf : List Int
  off : Int
  size : Int
  data : Bs
deriving DecidableEq
abbrev MP0 : MP := ⟨0, 0, 0, 0, 0, 0, 0, false, [], [], 0, 0, []⟩
/-- .. in memory -/
structure MM where
  p : MP
  ea : Option Addr
  ec : Nat
  ka : Option Addr
  kc : Nat
abbrev MM0 : MM := ⟨MP0, none, 0, none, 0⟩
abbrev mmC (m : MM) : List Value := [.int .i64 m.p.kind, .int .i64 m.p.frm, .int .i64 m.p.to, .int .u64 m.p.term, .int .u64 m.p.index, .int .u64 m.p.lt, .int .u64 m.p.commit, .bool m.p.ok, .slice m.ea m.p.ents.length m.ec, .slice m.ka m.p.conf.length m.kc, .int .i64 m.p.off, .int .i64 m.p.size, B m.p.data]
abbrev mmA (m : MM) : Value := .agg #[.int .i64 m.p.kind, .int .i64 m.p.frm, .int .i64 m.p.to, .int .u64 m.p.term, .int .u64 m.p.index, .int .u64 m.p.lt, .int .u64 m.p.commit, .bool m.p.ok, .slice m.ea m.p.ents.length m.ec, .slice m.ka m.p.conf.length m.kc, .int .i64 m.p.off, .int .i64 m.p.size, B m.p.data]
abbrev mmV (l : List MM) : List Value := l.flatMap mmC
theorem mmC_one : ∀ x, ∀ q ∈ mmC x, q.oneCell' = true := fun x q hq => by simp at hq; rcases hq with rfl | rfl | rfl | rfl | rfl | rfl | rfl | rfl | rfl | rfl | rfl | rfl | rfl <;> rfl
theorem mmV_append (a b : List MM) : mmV (a ++ b) = mmV a ++ mmV b := List.flatMap_append
structure MOk (h : Heap) (m : MM) : Prop where
  e : RdS h m.ea (enV m.p.ents)
  k : RdS h m.ka (intsV m.p.conf)
  ec : m.p.ents.length ≤ m.ec
theorem MOk.le {h h' : Heap} {m : MM} (f : MOk h m) (l : Heap.le h h') : MOk h' m := ⟨f.e.le l, f.k.le l, f.ec⟩
/-- a state -/
structure RP where
  id : Int
  term : Int
  vote : Int
  role : Int
  leader : Int
  base : Int
  bt : Int
  conf : List Int
  l : List Ent
  img : Bs
  commit : Int
  ticks : Int
  tout : Int
  votes : List Int
  peers : List Pr
  piece : Bs
  pix : Int
  pt : Int
structure RA where
  ca : Option Addr
  cc : Nat
  la : Option Addr
  lc : Nat
  va : Option Addr
  vc : Nat
  pa : Option Addr
  pc : Nat
abbrev RA0 : RA := ⟨none, 0, none, 0, none, 0, none, 0⟩
abbrev RP.lm (p : RP) (a : RA) : LM := ⟨p.base, p.bt, p.conf, p.l, a.ca, a.cc, a.la, a.lc⟩
abbrev RP.g (p : RP) : LM := ⟨p.base, p.bt, p.conf, p.l, none, 0, none, 0⟩
abbrev rsV (p : RP) (a : RA) : Value := .agg #[.int .i64 p.id, .int .u64 p.term, .int .i64 p.vote, .int .i64 p.role, .int .i64 p.leader, .int .u64 p.base, .int .u64 p.bt, .slice a.ca p.conf.length a.cc, .slice a.la p.l.length a.lc, B p.img, .int .u64 p.commit, .int .i64 p.ticks, .int .i64 p.tout, .slice a.va p.votes.length a.vc, .slice a.pa p.peers.length a.pc, B p.piece, .int .u64 p.pix, .int .u64 p.pt]
abbrev rsC (p : RP) (a : RA) : List Value := [.int .i64 p.id, .int .u64 p.term, .int .i64 p.vote, .int .i64 p.role, .int .i64 p.leader, .int .u64 p.base, .int .u64 p.bt, .slice a.ca p.conf.length a.cc, .slice a.la p.l.length a.lc, B p.img, .int .u64 p.commit, .int .i64 p.ticks, .int .i64 p.tout, .slice a.va p.votes.length a.vc, .slice a.pa p.peers.length a.pc, B p.piece, .int .u64 p.pix, .int .u64 p.pt]
structure ROk (h : Heap) (p : RP) (a : RA) : Prop where
  rc : RdS h a.ca (intsV p.conf)
  rl : RdS h a.la (enV p.l)
  rv : RdS h a.va (intsV p.votes)
  rp : RdS h a.pa (prV p.peers)
  cap : p.l.length ≤ a.lc
theorem ROk.le {h h' : Heap} {p : RP} {a : RA} (f : ROk h p a) (l : Heap.le h h') : ROk h' p a := ⟨f.rc.le l, f.rl.le l, f.rv.le l, f.rp.le l, f.cap⟩
theorem ROk.g {h : Heap} {p : RP} {a : RA} (f : ROk h p a) : (p.lm a).ok h := ⟨f.rc, f.rl⟩
/-- a mind at work -/
structure MD where
  p : RP
  a : RA
  outs : List MM
  oa : Option Addr
  oc : Nat
abbrev mdO (d : MD) : Obj := .cells #[.int .i64 d.p.id, .int .u64 d.p.term, .int .i64 d.p.vote, .int .i64 d.p.role, .int .i64 d.p.leader, .int .u64 d.p.base, .int .u64 d.p.bt, .slice d.a.ca d.p.conf.length d.a.cc, .slice d.a.la d.p.l.length d.a.lc, B d.p.img, .int .u64 d.p.commit, .int .i64 d.p.ticks, .int .i64 d.p.tout, .slice d.a.va d.p.votes.length d.a.vc, .slice d.a.pa d.p.peers.length d.a.pc, B d.p.piece, .int .u64 d.p.pix, .int .u64 d.p.pt, .slice d.oa d.outs.length d.oc] 124
abbrev OwnP (a : Option Addr) (l : List Pr) (c : Nat) : As := .own (.slice a l.length c) 121 4 (prV l)
abbrev OwnM (a : Option Addr) (l : List MM) (c : Nat) : As := .own (.slice a l.length c) 98 13 (mmV l)
abbrev mdH (X : Nat) (d : MD) : List As := [.blk X (mdO d), OwnL d.a.la d.p.l d.a.lc, OwnC d.a.ca d.p.conf d.a.cc, OwnC d.a.va d.p.votes d.a.vc, OwnP d.a.pa d.p.peers d.a.pc, OwnM d.oa d.outs d.oc]
def OutsOk (h : Heap) (d : MD) : Prop := ∀ m ∈ d.outs, MOk h m
theorem OutsOk.le {h h' : Heap} {d : MD} (f : OutsOk h d) (l : Heap.le h h') : OutsOk h' d := fun m hm => (f m hm).le l
def MdP (X : Nat) (d : MD) (p' : RP) (new : List MP) (r v : Value) (A : List As) : Prop :=
  v = r ∧ ∃ d' Z, d'.p = p' ∧ d'.outs.map MM.p = d.outs.map MM.p ++ new ∧ A = mdH X d' ++ Z ∧ ∀ h, OutsOk h d → (∃ bs, Sat h Z bs) → OutsOk h d'
theorem MdP.same (X : Nat) (d d' : MD) (r : Value) (h : d'.outs = d.outs) : MdP X d d'.p [] r r (mdH X d' ++ []) := ⟨rfl, d', [], rfl, by rw [h, List.append_nil], rfl, fun h2 f _ => fun m hm => f m (by rw [← h]; exact hm)⟩

/-- of a bearable size -/
structure PFit (p : RP) : Prop where
  base : 0 ≤ p.base ∧ p.base ≤ 2305843009213693952
  len : p.l.length ≤ 100000
  cl : p.conf.length ≤ 100000
  dat : ∀ i, i < p.l.length → (p.l.getD i E0).2.2.length ≤ 1000000000000
  img : p.img.length ≤ 1000000000000
  votes : p.votes.length ≤ 100000
  peers : p.peers.length ≤ 1000000
  prs : ∀ q ∈ p.peers, 1 ≤ q.next ∧ q.next ≤ 4611686018427387904 ∧ 0 ≤ q.mtc ∧ q.mtc ≤ 4611686018427387904 ∧ 0 ≤ q.off ∧ q.off ≤ p.img.length
  ticks : 0 ≤ p.ticks ∧ p.ticks ≤ 4611686018427387904
  term : 0 ≤ p.term ∧ p.term ≤ 4611686018427387904
  commit : 0 ≤ p.commit ∧ p.commit ≤ 4611686018427387904
theorem PFit.fit {p : RP} (h : PFit p) (a : RA) (hc : p.l.length ≤ a.lc) : (p.lm a).fit := ⟨h.base.1, by have := h.base.2; show p.base ≤ _; omega, by have := h.len; show p.l.length ≤ _; omega, by have := h.cl; show p.conf.length ≤ _; omega, hc⟩
theorem PFit.datL {p : RP} (h : PFit p) (a : RA) : (p.lm a).dat := fun i hi => by have := h.dat i hi; show (p.l.getD i E0).2.2.length ≤ _; omega
theorem PFit.last {p : RP} (h : PFit p) : 0 ≤ lastI p.g ∧ lastI p.g ≤ 2305843009213793952 := by
  have h1 := h.base
  have h2 := h.len
  unfold lastI
  show 0 ≤ p.base + (p.l.length : Int) ∧ p.base + (p.l.length : Int) ≤ _
  omega
theorem confN_any (p : RP) (a : RA) : ∀ n, confN (p.lm a) n = confN p.g n
  | 0 => rfl
  | n + 1 => by rw [confN, confN, confN_any p a n]
theorem confAt_any (p : RP) (a : RA) (i : Int) : confAt (p.lm a) i = confAt p.g i := confN_any p a _
theorem PFit.cn {p : RP} (h : PFit p) (i : Int) : (confAt p.g i).1.length ≤ 1000000 := confN_le p.g (by have := h.cl; show p.conf.length ≤ _; omega) _
theorem conf_at (p : RP) : ∀ n, p.base ≤ (confN p.g n).2 ∧ (confN p.g n).2 ≤ p.base + (n : Int)
  | 0 => by
    show p.base ≤ p.base ∧ p.base ≤ _
    omega
  | n + 1 => by
    rw [confN]
    split
    · show p.base ≤ p.base + (n : Int) + 1 ∧ p.base + (n : Int) + 1 ≤ _
      omega
    · have := conf_at p n; omega
theorem PFit.ca {p : RP} (h : PFit p) (i : Int) : 0 ≤ (confAt p.g i).2 ∧ (confAt p.g i).2 ≤ 2305843009213793952 := by
  have h1 := conf_at p (min p.g.l.length (i - p.g.base).toNat)
  have h2 := h.base
  have h3 := h.len
  have h4 : min p.g.l.length (i - p.g.base).toNat ≤ p.l.length := Nat.min_le_left _ _
  unfold confAt
  omega

/-! ## what a mind does -/
def followP (p : RP) (t n : Int) : RP := { p with term := if p.term < t then t else p.term, vote := if p.term < t then 0 else p.vote, role := 0, leader := n, votes := [], peers := [] }
def confL (p : RP) : List Int := (confAt p.g (lastI p.g)).1
def confI (p : RP) : Int := (confAt p.g (lastI p.g)).2
def mayP (p : RP) : Bool := inB (confL p) p.id || (decide (p.commit < confI p) && inB (confAt p.g (confI p - 1)).1 p.id)
def pieceP (p : RP) (q : Pr) : MP := ⟨5, p.id, q.node, p.term, p.base, p.bt, 0, false, [], p.conf, q.off, p.img.length, (p.img.drop q.off.toNat).take 4096⟩
def appendP (p : RP) (q : Pr) : MP := ⟨3, p.id, q.node, p.term, q.next - 1, termV p.g (q.next - 1), p.commit, false, sliceL p.g q.next 8, [], 0, 0, []⟩
def updateP (p : RP) (q : Pr) : MP := if q.next ≤ p.base then pieceP p q else appendP p q
def allP (p : RP) : List MP := if p.role = 2 then p.peers.map (updateP p) else []
def haveP (p : RP) : List At2 := (p.id, lastI p.g) :: p.peers.map fun q => (q.node, q.mtc)
noncomputable def comP (p : RP) : Int := com (confL p) (haveP p)
noncomputable def commit1 (p : RP) : RP := if p.commit < comP p ∧ hasL p.g (comP p) = true ∧ termV p.g (comP p) = p.term then { p with commit := comP p } else p
noncomputable def commitP (p : RP) : RP := if inB (confL p) p.id = false ∧ confI p ≤ (commit1 p).commit then followP (commit1 p) (commit1 p).term 0 else commit1 p
def peerOf (p : RP) (n : Int) : Pr := p.peers.foldl (fun b q => if q.node = n then q else b) ⟨n, lastI p.g + 1, 0, 0⟩
def peersL (p : RP) : List Pr := ((confL p).filter fun n => decide (n ≠ p.id)).map (peerOf p)
def lead1 (p : RP) : RP := { p with role := 2, leader := p.id, votes := [], peers := [] }
def lead2 (p : RP) : RP := { lead1 p with peers := peersL (lead1 p), l := p.l ++ [(p.term, 1, [])] }
noncomputable def leadP (p : RP) : RP := commitP (lead2 p)
noncomputable def leadM (p : RP) : List MP := allP (leadP p)
def stand1 (p : RP) : RP := { p with term := p.term + 1, vote := p.id, role := 1, leader := 0, votes := [p.id], peers := [], ticks := 0 }
def voteM (p : RP) (n : Int) : MP := ⟨1, p.id, n, p.term, lastI p.g, lastT p.g, 0, false, [], [], 0, 0, []⟩
def wins (p : RP) : Bool := mostB (confL p) p.votes
noncomputable def standP (p : RP) : RP := if wins (stand1 p) = true then leadP (stand1 p) else stand1 p
noncomputable def standM (p : RP) : List MP := if wins (stand1 p) = true then leadM (stand1 p) else ((confL p).filter fun n => decide (n ≠ p.id)).map (voteM (stand1 p))
def tick1 (p : RP) : RP := { p with ticks := p.ticks + 1 }
def stands (p : RP) : Bool := decide (p.tout ≤ p.ticks) && (decide (p.term < 4611686018427387904) && mayP p)
noncomputable def tickP (p : RP) : RP := if p.role = 2 then p else if stands (tick1 p) = true then standP (tick1 p) else tick1 p
noncomputable def tickM (p : RP) : List MP := if p.role = 2 then allP p else if stands (tick1 p) = true then standM (tick1 p) else []
end Go.Proofs.Ytodcghipfolejaa.Rf
