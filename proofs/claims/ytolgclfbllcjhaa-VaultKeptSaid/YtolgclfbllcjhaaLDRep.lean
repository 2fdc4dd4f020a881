/- How a disk lies in memory: the program's, and the reference's. -/
import Derived.Test.YtolgclfbllcjhaaLDMath
namespace Go.Proofs.Ytolgclfbllcjhaa
open Go Go.Sl
set_option linter.unusedVariables false
set_option linter.unusedSimpArgs false

abbrev Ptr (b : Nat) : Value := .pointer (some ⟨b, 0, none⟩)
abbrev flC (f : Fl) : List Value := [B f.1, B f.2]
abbrev rcC (c : Cl) : List Value := [.int .i64 c.kind, B c.name, B c.s]
abbrev flV (l : List Fl) : List Value := l.flatMap flC
abbrev rcV (l : List Cl) : List Value := l.flatMap rcC
abbrev F0 : Fl := ([], [])
abbrev C0 : Cl := ⟨0, [], []⟩
theorem flC_len : ∀ x, (flC x).length = 2 := fun _ => rfl
/-- the reference's disk -/
structure RA where
  X : Nat
  sa : Option Addr
  sc : Nat
  la : Option Addr
  lc : Nat
  pa : Option Addr
  pc : Nat
abbrev refO (x : DM) (r : RA) : Obj := .cells #[.int .i64 x.cap, .slice r.sa x.seen.length r.sc, .slice r.la x.lasts.length r.lc, .slice r.pa x.pend.length r.pc, .bool x.fused, .int .i64 x.left] 75
structure RFacts (x : DM) (r : RA) (h : Heap) : Prop where
  seen : RdS h r.sa (flV x.seen)
  lasts : RdS h r.la (flV x.lasts)
  pend : RdS h r.pa (rcV x.pend)
theorem RFacts.le {x : DM} {r : RA} {h h' : Heap} (f : RFacts x r h) (l : Heap.le h h') : RFacts x r h' := ⟨f.seen.le l, f.lasts.le l, f.pend.le l⟩

/-- a pending call of the program's: what it does, and where its words lie -/
structure PC where
  c : Cl
  bn : Nat
  bs : Nat
def fnV (p : PC) : Value := if p.c.kind = 1 then .func (.func 58) #[] #[Ptr p.bn, Ptr p.bs] else if p.c.kind = 2 then .func (.func 56) #[] #[Ptr p.bs, Ptr p.bn] else .func (.func 55) #[] #[Ptr p.bn]
def pcC (p : PC) : List Value := [.int .i64 (stepsC p.c : Nat), fnV p]
abbrev pcV (l : List PC) : List Value := l.flatMap pcC
theorem pcC_len : ∀ x, (pcC x).length = 2 := fun _ => rfl
theorem fnV_one (p : PC) : (fnV p).oneCell' = true := by unfold fnV; split <;> (try split) <;> rfl
theorem pcC_one : ∀ x, ∀ q ∈ pcC x, q.oneCell' = true := fun x q hq => by
  simp [pcC] at hq; rcases hq with rfl | rfl
  · rfl
  · exact fnV_one x
structure PcOk (h : Heap) (p : PC) : Prop where
  n : h p.bn = some (.cells #[B p.c.name] 9)
  s : p.c.kind = 1 ∨ p.c.kind = 2 → h p.bs = some (.cells #[B p.c.s] 9)
theorem PcOk.le {h h' : Heap} {p : PC} (f : PcOk h p) (l : Heap.le h h') : PcOk h' p := ⟨l _ _ f.n, fun e => l _ _ (f.s e)⟩
def fsV (l : List Fl) : List KV := l.map fun f => (B f.1, B f.2)
structure DA where
  D : Nat
  ms : Nat
  ml : Nat
  es : Array MapEntry
  cs : Nat
  el : Array MapEntry
  cl : Nat
  pl : List PC
  pa : Option Addr
  pc : Nat
abbrev dskO (x : DM) (a : DA) : Obj := .cells #[.int .i64 x.cap, .map (some a.ms), .map (some a.ml), .slice a.pa a.pl.length a.pc, .bool x.fused, .int .i64 x.left] 84
abbrev OwnP (a : Option Addr) (l : List PC) (c : Nat) : As := .own (.slice a l.length c) 89 2 (pcV l)
abbrev dskH (x : DM) (a : DA) : List As := [.blk a.D (dskO x a), .blk a.ms (.map a.es a.cs), .blk a.ml (.map a.el a.cl), OwnP a.pa a.pl a.pc]
structure DOk (x : DM) (a : DA) : Prop where
  seen : MapOk .string a.es a.cs (fsV x.seen)
  lasts : MapOk .string a.el a.cl (fsV x.lasts)
  pl : x.pend = a.pl.map (·.c)
/-- .. as one who reads sees it -/
structure DRd (x : DM) (a : DA) (h : Heap) : Prop where
  d : h a.D = some (dskO x a)
  s : h a.ms = some (.map a.es a.cs)
  l : h a.ml = some (.map a.el a.cl)
  p : RdS h a.pa (pcV a.pl)
theorem DRd.le {x : DM} {a : DA} {h h' : Heap} (f : DRd x a h) (l : Heap.le h h') : DRd x a h' := ⟨l _ _ f.d, l _ _ f.s, l _ _ f.l, f.p.le l⟩
/-- texts as keys -/
theorem B_inj {a b : Bs} (h : B a = B b) : a = b := by
  injection h with h; injection h with h
  simpa using h
theorem fs_mem {l : List Fl} {n s : Bs} : (B n, B s) ∈ fsV l ↔ (n, s) ∈ l := by
  constructor
  · intro h
    obtain ⟨f, hf, e⟩ := List.mem_map.1 h
    injection e with e1 e2
    rw [← B_inj e1, ← B_inj e2]; exact hf
  · intro h; exact List.mem_map.2 ⟨_, h, rfl⟩
theorem fs_nokey {l : List Fl} {n : Bs} (h : getL l n = none) : NoKey (fsV l) (B n) := fun v hv => by
  obtain ⟨f, hf, e⟩ := List.mem_map.1 hv
  injection e with e1 _
  exact (get_none h).2 f hf (B_inj e1)
theorem fs_get {l : List Fl} (hs : Srt l) (n : Bs) : GetV (fsV l) (B n) ((getL l n).map B) := by
  cases e : getL l n with
  | none => exact fs_nokey e
  | some s => exact fs_mem.2 (get_some hs e).1
theorem fs_put {l : List Fl} (hs : Srt l) (n s : Bs) : PutV (fsV l) (B n) (B s) (fsV (withL l n s)) := by
  have h1 : (fsV (withL l n s)).Perm ((B n, B s) :: fsV (withoutL l n)) := (ins_perm _ _).map _
  cases e : getL l n with
  | none =>
    rw [(get_none e).1] at h1
    exact .inl ⟨fs_nokey e, h1.symm⟩
  | some t => exact .inr ⟨B t, fsV (withoutL l n), (get_some hs e).2.map _, h1.symm⟩
theorem fs_del {l : List Fl} (hs : Srt l) (n : Bs) : DelV (fsV l) (B n) (fsV (withoutL l n)) := by
  cases e : getL l n with
  | none => rw [(get_none e).1]; exact .inl ⟨fs_nokey e, .refl _⟩
  | some t => exact .inr ⟨B t, (get_some hs e).2.map _⟩
end Go.Proofs.Ytolgclfbllcjhaa
