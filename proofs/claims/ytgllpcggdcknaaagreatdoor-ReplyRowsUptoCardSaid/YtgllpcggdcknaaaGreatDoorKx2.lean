import Derived.WalkKit
import Derived.ProofKit
import Derived.Lib.Strings
import Derived.Laws.Append
import Derived.Orders
import Derived.Laws.IdiomStrings
import Derived.Great.FillDense
import Derived.OrdersHeld
import Derived.Laws.StructEq
import Derived.RangeFuncNested
import Derived.RangeFuncBound
import Derived.RangeFuncCalls
import Derived.RangeFuncLeaves
import Derived.Scope
import Derived.Maps.RangeRun
import Derived.MapKept
import Derived.Laws.Externs
import Derived.Shelf.SlMaps.Clone
set_option linter.unusedVariables false
set_option linter.unusedSimpArgs false
namespace Go.Sl
open Go Go.RowKit
abbrev Lcs := List (Nat × Value)
def find : Lcs → Nat → Option Value
 | [], _ => none
 | (t, v) :: r, n => bif Nat.beq t n then some v else find r n
def ev (L : Lcs) : Operand → Option Value
 | .tmp t => find L t
 | .const v => some v
 | .global g => some (.pointer (some ⟨g, 0, none⟩))
 | .func f => some (.func (.func f) #[] #[])
structure Fits (N : Nat) (L : Lcs) (a : Act) : Prop where
 defers : a.defers = []
 size : a.tmps.size = N
 at_ : ∀ t v, find L t = some v → a.tmps[t]? = some v
theorem Fits.eval {N : Nat} {L : Lcs} {a : Act} (h : Fits N L a) {x : Operand} {v : Value} (hx : ev L x = some v) : a.eval x = v := by
 cases x with
 | tmp t => simp only [ev] at hx; simp [Act.eval, h.at_ t v hx]
 | const u => simp only [ev, Option.some.injEq] at hx; subst hx; rfl
 | global g => simp only [ev, Option.some.injEq] at hx; subst hx; rfl
 | func f => simp only [ev, Option.some.injEq] at hx; subst hx; rfl
theorem Fits.put {N : Nat} {L : Lcs} {a : Act} (h : Fits N L a) {d : Nat} (hd : Nat.blt d N = true) (v : Value) : Fits N ((d, v) :: L) (a.put (some d) v) := by
 have hd' : d < N := by simpa [Nat.blt_eq] using hd
 refine ⟨h.defers, by simp [Act.put, h.size], fun t u ht => ?_⟩
 simp only [find] at ht
 by_cases e : d = t
 ·subst e
  simp only [Nat.beq_refl, cond_true, Option.some.injEq] at ht
  subst ht
  simp [Act.put, h.size, hd']
 ·have e' : Nat.beq d t = false := by
   cases hb : Nat.beq d t
   ·rfl
   ·exact absurd (Nat.eq_of_beq_eq_true hb) e
  rw [e'] at ht
  simp only [cond_false] at ht
  simp only [Act.put]
  rw [Array.getElem?_setIfInBounds_ne e]
  exact h.at_ t u ht
def Sub (L' L : Lcs) : Prop := ∀ t v, find L' t = some v → find L t = some v
theorem Sub.nil (L : Lcs) : Sub [] L := fun _ _ h => by simp [find] at h
theorem Sub.cons {L' L : Lcs} {t : Nat} {v : Value} (h : find L t = some v) (r : Sub L' L) : Sub ((t, v) :: L') L := fun n u hu => by
 simp only [find] at hu
 cases e : Nat.beq t n
 ·rw [e] at hu; exact r n u hu
 ·rw [e] at hu
  have := Nat.eq_of_beq_eq_true e
  subst this
  simp only [cond_true, Option.some.injEq] at hu
  subst hu; exact h
theorem Fits.sub {N : Nat} {L L' : Lcs} {a : Act} (h : Fits N L a) (s : Sub L' L) : Fits N L' a := ⟨h.defers, h.size, fun t v ht => h.at_ t v (s t v ht)⟩
abbrev Heap := Nat → Option Obj
def hp (w : World) : Heap := fun b => w.heap[b]?
def Heap.le (h h' : Heap) : Prop := ∀ b o, h b = some o → h' b = some o
theorem Heap.le_refl (h : Heap) : Heap.le h h := fun _ _ e => e
theorem Heap.le_trans {a b c : Heap} (h : Heap.le a b) (k : Heap.le b c) : Heap.le a c := fun x o e => k x o (h x o e)
def Heap.cell? (h : Heap) (a : Addr) : Option Value :=
 match h a.block with
 | some (.cells c _ _) => if a.spot.isSome then none else c[a.off]?
 | _ => none
theorem cell?_hp (w : World) (a : Addr) : (hp w).cell? a = w.cell? a := rfl
theorem Heap.cell?_le {h h' : Heap} (hl : Heap.le h h') {a : Addr} {v : Value} (hc : h.cell? a = some v) : h'.cell? a = some v := by
 unfold Heap.cell? at *
 cases e : h a.block with
 | none => rw [e] at hc; cases hc
 | some o => rw [e] at hc; rw [hl _ _ e]; exact hc
inductive As where
 | blk (b : Nat) (o : Obj)
 | own (v : Value) (t : TypeId) (sz : Nat) (xs : List Value)
structure OwnAt (h : Heap) (v : Value) (t : TypeId) (sz : Nat) (xs : List Value) (g : Nat) : Prop where
 ex : ∃ o n cap pre post fr, v = .slice (some ⟨g, o, none⟩) n cap ∧ h g = some (.cells (pre ++ xs ++ post).toArray t fr) ∧ pre.length = o ∧ xs.length = n * sz ∧
  cap * sz ≤ (xs ++ post).length ∧ n ≤ cap ∧ (fr.2 ≤ fr.1 ∨ (pre ++ xs ++ post).length ≤ fr.1)
def As.sat (h : Heap) : As → List Nat → Prop
 | .blk b o, bs => bs = [b] ∧ h b = some o
 | .own v t sz xs, bs => (v = .slice none 0 0 ∧ xs = [] ∧ bs = []) ∨ ∃ g, bs = [g] ∧ OwnAt h v t sz xs g
def Sat (h : Heap) : List As → List Nat → Prop
 | [], bs => bs = []
 | x :: r, bs => ∃ b1 b2, bs = b1 ++ b2 ∧ x.sat h b1 ∧ Sat h r b2
theorem As.sat_some {h : Heap} {x : As} {bs : List Nat} (hs : x.sat h bs) : ∀ b ∈ bs, (h b).isSome = true := by
 cases x with
 | blk b o => obtain ⟨rfl, e⟩ := hs; intro c hc; simp at hc; subst hc; simp [e]
 | own v t sz xs =>
  rcases hs with ⟨_, _, rfl⟩ | ⟨g, rfl, ⟨o, n, cap, pre, post, fr, _, e, _⟩⟩
  ·intro c hc; cases hc
  ·intro c hc; simp at hc; subst hc; simp [e]
theorem Sat.some {h : Heap} : ∀ {H : List As} {bs : List Nat}, Sat h H bs → ∀ b ∈ bs, (h b).isSome = true
 | [], bs, hs, b, hb => by simp only [Sat] at hs; subst hs; cases hb
 | x :: r, bs, hs, b, hb => by
  obtain ⟨b1, b2, rfl, h1, h2⟩ := hs
  rcases List.mem_append.1 hb with hb | hb
  ·exact As.sat_some h1 b hb
  ·exact Sat.some h2 b hb
theorem As.sat_same {h h' : Heap} {x : As} {bs : List Nat} (hs : x.sat h bs) (e : ∀ b ∈ bs, h' b = h b) : x.sat h' bs := by
 cases x with
 | blk b o => obtain ⟨rfl, e'⟩ := hs; exact ⟨rfl, by rw [e b (by simp)]; exact e'⟩
 | own v t sz xs =>
  rcases hs with hs | ⟨g, rfl, ⟨o, n, cap, pre, post, fr, h1, h2, h3⟩⟩
  ·exact .inl hs
  ·exact .inr ⟨g, rfl, ⟨o, n, cap, pre, post, fr, h1, by rw [e g (by simp)]; exact h2, h3⟩⟩
theorem Sat.same {h h' : Heap} : ∀ {H : List As} {bs : List Nat}, Sat h H bs → (∀ b ∈ bs, h' b = h b) → Sat h' H bs
 | [], _, hs, _ => hs
 | _ :: _, _, ⟨b1, b2, hb, h1, h2⟩, e => by
  subst hb
  exact ⟨b1, b2, rfl, As.sat_same h1 fun b hb => e b (List.mem_append.2 (.inl hb)), Sat.same h2 fun b hb => e b (List.mem_append.2 (.inr hb))⟩
theorem Sat.le {h h' : Heap} {H : List As} {bs : List Nat} (hs : Sat h H bs) (e : Heap.le h h') : Sat h' H bs :=
 Sat.same hs fun b hb => by
  obtain ⟨o, ho⟩ := Option.isSome_iff_exists.1 (Sat.some hs b hb)
  rw [ho]; exact e b o ho
theorem Sat.append {h : Heap} : ∀ {A B : List As} {ba bb : List Nat}, Sat h A ba → Sat h B bb → Sat h (A ++ B) (ba ++ bb)
 | [], _, _, _, ha, hb => by simp only [Sat] at ha; subst ha; simpa using hb
 | _ :: _, _, _, _, ⟨b1, b2, e, h1, h2⟩, hb => by subst e; exact ⟨b1, b2 ++ _, by simp, h1, Sat.append h2 hb⟩
theorem Sat.split {h : Heap} : ∀ {A B : List As} {bs : List Nat}, Sat h (A ++ B) bs → ∃ ba bb, bs = ba ++ bb ∧ Sat h A ba ∧ Sat h B bb
 | [], _, bs, hs => ⟨[], bs, rfl, rfl, hs⟩
 | _ :: r, B, bs, ⟨b1, b2, e, h1, h2⟩ => by
  obtain ⟨ba, bb, e', ha, hb⟩ := Sat.split (A := r) (B := B) h2
  exact ⟨b1 ++ ba, bb, by rw [e, e']; simp, ⟨b1, ba, rfl, h1, ha⟩, hb⟩
structure Snap where
 os : Os
 tape : Nat → Question → Nat
 output : Array (Nat × ByteArray)
 heap : Heap
structure Hp (F : Snap) (w : World) (H : List As) : Prop where
 os : w.os = F.os
 tape : w.tape = F.tape
 output : w.output = F.output
 keep : Heap.le F.heap (hp w)
 own : ∃ bs, Sat (hp w) H bs ∧ bs.Nodup ∧ ∀ b ∈ bs, F.heap b = none
def hpBut (w : World) (bs : List Nat) : Heap := fun b => if b ∈ bs then none else w.heap[b]?
def snapBut (w : World) (bs : List Nat) : Snap := ⟨w.os, w.tape, w.output, hpBut w bs⟩
def snap (w : World) : Snap := snapBut w []
theorem hpBut_nil (w : World) : hpBut w [] = hp w := by funext b; simp [hpBut, hp]
theorem hpBut_le (w : World) (bs : List Nat) : Heap.le (hpBut w bs) (hp w) := fun b o e => by
 unfold hpBut at e
 split at e
 ·cases e
 ·exact e
theorem Hp.start {w : World} {C : List As} {bs : List Nat} (hs : Sat (hp w) C bs) (hn : bs.Nodup) : Hp (snapBut w bs) w C :=
 ⟨rfl, rfl, rfl, hpBut_le w bs, bs, hs, hn, fun b hb => by simp [snapBut, hpBut, hb]⟩
theorem Hp.drew {F : Snap} {w : World} {H : List As} (h : Hp F w H) : Hp F { w with drawn := w.drawn + 1 } H := ⟨h.os, h.tape, h.output, h.keep, h.own⟩
theorem Hp.drew' {F : Snap} {w : World} {H : List As} (h : Hp F w H) : Hp F w.drew H := ⟨h.os, h.tape, h.output, h.keep, h.own⟩
inductive Upd : List As → As → List As → List As → Prop
 | hereN {x : As} {r ys : List As} : Upd (x :: r) x ys (ys ++ r)
 | del {x : As} {r : List As} : Upd (x :: r) x [] r
 | here {x y : As} {r : List As} : Upd (x :: r) x [y] (y :: r)
 | there {x y : As} {r ys r' : List As} : Upd r x ys r' → Upd (y :: r) x ys (y :: r')
section
variable {x z : As} {r : List As}
end
theorem Upd.sat {h : Heap} : ∀ {H H' ys : List As} {x : As}, Upd H x ys H' → ∀ {bs : List Nat}, Sat h H bs →
  ∃ b1 b2 b3, bs = b1 ++ b2 ++ b3 ∧ x.sat h b2 ∧ ∀ h' c, (∀ b ∈ b1 ++ b3, h' b = h b) → Sat h' ys c → Sat h' H' (b1 ++ c ++ b3)
 | _, _, _, _, .del, bs, hs => by
  obtain ⟨b1, b2, e, h1, h2⟩ := hs
  refine ⟨[], b1, b2, by simpa using e, h1, fun h' c hk hc => ?_⟩
  simp only [Sat] at hc; subst hc
  simpa using Sat.same h2 fun b hb => hk b (by simpa using hb)
 | _, _, _, _, .here, bs, hs => by
  obtain ⟨b1, b2, e, h1, h2⟩ := hs
  exact ⟨[], b1, b2, by simpa using e, h1, fun h' c hk hc => by simpa using Sat.append hc (Sat.same h2 fun b hb => hk b (by simpa using hb))⟩
 | _, _, _, _, .hereN, bs, hs => by
  obtain ⟨b1, b2, e, h1, h2⟩ := hs
  exact ⟨[], b1, b2, by simpa using e, h1, fun h' c hk hc => by simpa using Sat.append hc (Sat.same h2 fun b hb => hk b (by simpa using hb))⟩
 | _, _, _, _, .there u, bs, hs => by
  obtain ⟨b1, b2, e, h1, h2⟩ := hs
  obtain ⟨c1, c2, c3, e', hx, hk⟩ := Upd.sat u h2
  refine ⟨b1 ++ c1, c2, c3, by rw [e, e']; simp, hx, fun h' c hold hc => ?_⟩
  refine ⟨b1, c1 ++ c ++ c3, by simp, As.sat_same h1 fun b hb => hold b (by simp [hb]), hk h' c (fun b hb => hold b ?_) hc⟩
  rcases List.mem_append.1 hb with hb | hb
  ·simp [hb]
  ·simp [hb]
theorem Hp.focus {F : Snap} {w : World} {H H' ys : List As} {x : As} (h : Hp F w H) (u : Upd H x ys H') :
  ∃ b2, x.sat (hp w) b2 ∧ b2.Nodup ∧ (∀ b ∈ b2, F.heap b = none ∧ b < w.heap.size) ∧
   ∀ w' c, w'.os = w.os → w'.tape = w.tape → w'.output = w.output → (∀ b, b < w.heap.size → b ∉ b2 → w'.heap[b]? = w.heap[b]?) → Sat (hp w') ys c → c.Nodup →
    (∀ b ∈ c, b ∈ b2 ∨ w.heap.size ≤ b) → Hp F w' H' := by
 obtain ⟨bs, hs, hn, hf⟩ := h.own
 obtain ⟨b1, b2, b3, e, hx, hk⟩ := Upd.sat u hs
 subst e
 have hlt : ∀ b, ((hp w) b).isSome = true → b < w.heap.size := fun b hb => by
  rcases Nat.lt_or_ge b w.heap.size with h | h
  ·exact h
  ·simp [hp, h] at hb
 have hsome := Sat.some hs
 refine ⟨b2, hx, ?_, fun b hb => ⟨hf b (by simp [hb]), hlt b (hsome b (by simp [hb]))⟩, ?_⟩
 ·exact (List.nodup_append.1 (List.nodup_append.1 hn).1).2.1
 intro w' c h1 h2 h3 hold hc hcn hcb
 have hn1 := List.nodup_append.1 hn
 have hn2 := List.nodup_append.1 hn1.1
 have far : ∀ b ∈ b1 ++ b3, b < w.heap.size ∧ b ∉ b2 := fun b hb => by
  rcases List.mem_append.1 hb with hb | hb
  ·exact ⟨hlt b (hsome b (by simp [hb])), fun hb2 => hn2.2.2 b hb b hb2 rfl⟩
  ·exact ⟨hlt b (hsome b (by simp [hb])), fun hb2 => hn1.2.2 b (by simp [hb2]) b hb rfl⟩
 refine ⟨h1.trans h.os, h2.trans h.tape, h3.trans h.output, fun b o ho => ?_, b1 ++ c ++ b3, hk (hp w') c (fun b hb => hold b (far b hb).1 (far b hb).2) hc, ?_, ?_⟩
 ·have h5 := h.keep b o ho
  have : b < w.heap.size := hlt b (by simp [h5])
  show w'.heap[b]? = _
  rw [hold b this (fun hb => by rw [hf b (by simp [hb])] at ho; cases ho)]
  exact h5
 ·rw [List.nodup_append, List.nodup_append]
  refine ⟨⟨hn2.1, hcn, fun x hx y hy => ?_⟩, hn1.2.1, fun x hx y hy => ?_⟩
  ·rintro rfl
   have := far x (by simp [hx])
   rcases hcb x hy with h | h
   ·exact this.2 h
   ·omega
  ·rintro rfl
   have := far x (by simp [hy])
   rcases List.mem_append.1 hx with hx | hx
   ·exact hn1.2.2 x (by simp [hx]) x hy rfl
   ·rcases hcb x hx with h | h
    ·exact this.2 h
    ·omega
 ·intro b hb
  rcases List.mem_append.1 hb with hb | hb
  ·rcases List.mem_append.1 hb with hb | hb
   ·exact hf b (by simp [hb])
   ·rcases hcb b hb with h6 | h6
    ·exact hf b (by simp [h6])
    ·cases hq : F.heap b with
     | none => rfl
     | some o => have := hlt b (by simp [h.keep b o hq]); omega
  ·exact hf b (by simp [hb])
theorem Hp.none_ge {F : Snap} {w : World} {H : List As} (h : Hp F w H) {b : Nat} (hb : w.heap.size ≤ b) : F.heap b = none := by
 cases hq : F.heap b with
 | none => rfl
 | some o =>
  have := h.keep b o hq
  simp [hp, hb] at this
theorem Hp.alloc {F : Snap} {w : World} {H : List As} (h : Hp F w H) (o : Obj) : Hp F (w.alloc o) (.blk w.heap.size o :: H) := by
 obtain ⟨bs, hs, hn, hf⟩ := h.own
 have old : ∀ b, b < w.heap.size → (hp (w.alloc o)) b = (hp w) b := fun b hb => (Go.heap_alloc_old w o hb)
 have hlt : ∀ b ∈ bs, b < w.heap.size := fun b hb => by
  have := Sat.some hs b hb
  rcases Nat.lt_or_ge b w.heap.size with h | h
  ·exact h
  ·simp [hp, h] at this
 refine ⟨h.os, h.tape, h.output, fun b o' ho => ?_, w.heap.size :: bs, ⟨[w.heap.size], bs, rfl, ⟨rfl, heap_alloc_new w o⟩, Sat.same hs fun b hb => old b (hlt b hb)⟩, ?_, ?_⟩
 ·have h5 := h.keep b o' ho
  rcases Nat.lt_or_ge b w.heap.size with hb | hb
  ·rw [old b hb]; exact h5
  ·simp [hp, hb] at h5
 ·rw [List.nodup_cons]; exact ⟨fun hm => by have := hlt _ hm; omega, hn⟩
 ·intro b hb
  rcases List.mem_cons.1 hb with rfl | hb
  ·exact h.none_ge (Nat.le_refl _)
  ·exact hf b hb
theorem Hp.drop {F : Snap} {w : World} {x : As} {H : List As} (h : Hp F w (x :: H)) : Hp F w H := by
 obtain ⟨bs, ⟨b1, b2, e, h1, h2⟩, hn, hf⟩ := h.own
 subst e
 exact ⟨h.os, h.tape, h.output, h.keep, b2, h2, (List.nodup_append.1 hn).2.1, fun b hb => hf b (by simp [hb])⟩
theorem Hp.dropAll {F : Snap} {w : World} {H : List As} (h : Hp F w H) : Hp F w [] :=
 ⟨h.os, h.tape, h.output, h.keep, [], rfl, List.nodup_nil, fun b hb => by cases hb⟩
theorem Hp.perm {F : Snap} {w : World} {H H' : List As} (h : Hp F w H) (p : H.Perm H') : Hp F w H' := by
 obtain ⟨bs, hs, hn, hf⟩ := h.own
 have key : ∃ bs', Sat (hp w) H' bs' ∧ bs.Perm bs' := by
  clear hn hf h
  induction p generalizing bs with
  | nil => exact ⟨bs, hs, .refl _⟩
  | cons x p ih =>
   obtain ⟨b1, b2, e, h1, h2⟩ := hs
   obtain ⟨bs', h3, h4⟩ := ih b2 h2
   subst e
   exact ⟨b1 ++ bs', ⟨b1, bs', rfl, h1, h3⟩, h4.append_left b1⟩
  | swap x y r =>
   obtain ⟨b1, b2, e, h1, b3, b4, e', h2, h3⟩ := hs
   subst e e'
   exact ⟨b3 ++ (b1 ++ b4), ⟨b3, b1 ++ b4, rfl, h2, b1, b4, rfl, h1, h3⟩, by rw [← List.append_assoc, ← List.append_assoc]; exact List.perm_append_comm.append_right b4⟩
  | trans p q ih1 ih2 =>
   obtain ⟨b1, h1, p1⟩ := ih1 bs hs
   obtain ⟨b2, h2, p2⟩ := ih2 b1 h1
   exact ⟨b2, h2, p1.trans p2⟩
 obtain ⟨bs', h1, h2⟩ := key
 exact ⟨h.os, h.tape, h.output, h.keep, bs', h1, h2.nodup hn, fun b hb => hf b (h2.mem_iff.2 hb)⟩
theorem Hp.back {F : Snap} {w w' : World} {C R A : List As} {bc br : List Nat} (h : Hp F w (C ++ R)) (hC : Sat (hp w) C bc) (hR : Sat (hp w) R br) (hn : (bc ++ br).Nodup) (hf : ∀ b ∈ bc ++ br, F.heap b = none)
  (k : Hp (snapBut w bc) w' A) : Hp F w' (A ++ R) := by
 obtain ⟨ba, hA, hna, hfa⟩ := k.own
 have hold : ∀ b, b < w.heap.size → b ∉ bc → w'.heap[b]? = w.heap[b]? := fun b hb hnb => by
  have : (snapBut w bc).heap b = some w.heap[b] := by simp [snapBut, hpBut, hnb, hb]
  have := k.keep b _ this
  simpa [hp, hb] using this
 have hlt : ∀ b ∈ br, b < w.heap.size := fun b hb => by
  have := Sat.some hR b hb
  rcases Nat.lt_or_ge b w.heap.size with h | h
  ·exact h
  ·simp [hp, h] at this
 have hnn := List.nodup_append.1 hn
 have hbr : ∀ b ∈ br, b ∉ bc := fun b hb hc => hnn.2.2 b hc b hb rfl
 have hAin : ∀ b ∈ ba, b ∈ bc ∨ w.heap.size ≤ b := fun b hb => by
  have := hfa b hb
  by_cases h1 : b ∈ bc
  ·exact .inl h1
  ·refine .inr ?_
   rcases Nat.lt_or_ge b w.heap.size with h | h
   ·simp [snapBut, hpBut, h1, h] at this
   ·exact h
 refine ⟨k.os.trans h.os, k.tape.trans h.tape, k.output.trans h.output, fun b o ho => ?_, ba ++ br, Sat.append hA (Sat.same hR fun b hb => hold b (hlt b hb) (hbr b hb)), ?_, ?_⟩
 ·have h5 := h.keep b o ho
  have hb : b < w.heap.size := by
   rcases Nat.lt_or_ge b w.heap.size with h | h
   ·exact h
   ·simp [hp, h] at h5
  show w'.heap[b]? = _
  rw [hold b hb (fun hc => by rw [hf b (by simp [hc])] at ho; cases ho)]
  exact h5
 ·rw [List.nodup_append]
  refine ⟨hna, hnn.2.1, fun x hx y hy => ?_⟩
  rintro rfl
  rcases hAin x hx with h1 | h1
  ·exact hbr x hy h1
  ·have := hlt x hy; omega
 ·intro b hb
  rcases List.mem_append.1 hb with hb | hb
  ·rcases hAin b hb with h1 | h1
   ·exact hf b (by simp [h1])
   ·exact h.none_ge h1
  ·exact hf b (by simp [hb])
def Ct (P : Program) (f : FuncId) (args : List Value) (Pre : Heap → Prop) (C : List As) (Post : Value → List As → Prop) : Prop :=
 ∀ w bs, Sat (hp w) C bs → bs.Nodup → Pre (hpBut w bs) → Calls P f args.toArray w fun e w' => ∃ v A, e = .returned v ∧ Post v A ∧ Hp (snapBut w bs) w' A
def Pu (P : Program) (f : FuncId) (args : List Value) (Pre : Heap → Prop) (v : Value) : Prop := Ct P f args Pre [] fun u A => u = v ∧ A = []
def MQ (K : Act → World → Prop) (E : List (Nat × (Act → World → Prop))) (R : Act → World → Prop) : Exit → Act → World → Prop
 | .normal, a, w => K a w
 | .ret, a, w => R a w
 | .exit id, a, w => match E.lookup id with
  | some k => k a w
  | none => False
 | _, _, _ => False
abbrev Kont := Act → World → Prop
def At (N : Nat) (K : Kont) (L : Lcs) (F : Snap) (H : List As) : Prop := ∀ a w, Fits N L a → Hp F w H → K a w
def G (P : Program) (N : Nat) (c : Code) (K : Kont) (E : List (Nat × Kont)) (R : Kont) (L : Lcs) (F : Snap) (H : List As) : Prop :=
 ∀ a w, Fits N L a → Hp F w H → c.wp P (MQ K E R) a w
def GL (P : Program) (N : Nat) (ops : Array Oper) (rest : List Oper) (K : Kont) (E : List (Nat × Kont)) (R : Kont) (L : Lcs) (F : Snap) (H : List As) : Prop :=
 ∀ a w, Fits N L a → Hp F w H → wpList P ops (MQ K E R) rest a w
section
variable {P : Program} {N : Nat} {K R : Kont} {E : List (Nat × Kont)} {L : Lcs} {F : Snap} {H : List As}
theorem at_code {c : Code} (h : G P N c K E R L F H) : At N (fun a w => c.wp P (MQ K E R) a w) L F H := h
theorem G.weaken {c : Code} {L' : Lcs} {H' : List As} (h : G P N c K E R L' F H') (hs : Sub L' L) (hh : ∀ w, Hp F w H → Hp F w H') : G P N c K E R L F H := fun a w hf hw => h a w (hf.sub hs) (hh w hw)
theorem g_seq {x y : Code} (h : G P N x (fun a w => y.wp P (MQ K E R) a w) E R L F H) : G P N (.seq x y) K E R L F H := fun a w hf hw =>
 wp_seq (Code.wp_mono (fun e a w q => by cases e <;> exact q) (h a w hf hw))
theorem g_skip (h : At N K L F H) : G P N .skip K E R L F H := fun a w hf hw => wp_skip (h a w hf hw)
theorem g_ret (h : At N R L F H) : G P N .ret K E R L F H := fun a w hf hw => wp_ret (h a w hf hw)
theorem g_exit {id : Nat} {k : Kont} (hk : E.lookup id = some k) (h : At N k L F H) : G P N (.exit id) K E R L F H := fun a w hf hw =>
 wp_exit (by simp only [MQ, hk]; exact h a w hf hw)
theorem g_block {id : Nat} {c : Code} (h : G P N c K ((id, K) :: E) R L F H) : G P N (.block id c) K E R L F H := fun a w hf hw =>
 wp_block (Code.wp_mono (fun e a w q => by
  cases e with
  | exit id' =>
   simp only [MQ, List.lookup] at q
   simp only [Exit.inBlock]
   split
   ·rename_i h1; subst h1; simpa [MQ] using q
   ·rename_i h1
    have : (id' == id) = false := by simpa using h1
    rw [this] at q
    exact q
  | _ => exact q) (h a w hf hw))
theorem g_cond {c : Operand} {x y : Code} {t : Bool} (hc : ev L c = some (.bool t)) (ht : t = true → G P N x K E R L F H) (hf : t = false → G P N y K E R L F H) :
  G P N (.cond c x y) K E R L F H := fun a w hfit hw =>
 wp_cond_split (hfit.eval hc) (fun h => ht h a w hfit hw) (fun h => hf h a w hfit hw)
theorem g_cond_t {c : Operand} {x y : Code} (hc : ev L c = some (.bool true)) (h : G P N x K E R L F H) : G P N (.cond c x y) K E R L F H := fun a w hfit hw =>
 wp_cond_true (hfit.eval hc) (h a w hfit hw)
theorem g_cond_f {c : Operand} {x y : Code} (hc : ev L c = some (.bool false)) (h : G P N y K E R L F H) : G P N (.cond c x y) K E R L F H := fun a w hfit hw =>
 wp_cond_false (hfit.eval hc) (h a w hfit hw)
theorem g_region {id : Nat} {l : List Oper} (h : GL P N l.toArray l K E R L F H) : G P N (.region id l.toArray false) K E R L F H := fun a w hf hw =>
 wp_region_lit (h a w hf hw)
theorem gl_nil {ops : Array Oper} (h : At N K L F H) : GL P N ops [] K E R L F H := fun a w hf hw => wpList_nil (h a w hf hw)
theorem g_loop {ι : Type} {c : Code} (Pre : ι → Prop) (LI : ι → Lcs) (HI : ι → List As) (μ : ι → Nat) (i0 : ι) (h0 : Pre i0) (hL : Sub (LI i0) L) (hH : ∀ w, Hp F w H → Hp F w (HI i0))
  (round : ∀ i, Pre i → G P N c (fun a w => ∃ j, Pre j ∧ μ j < μ i ∧ Fits N (LI j) a ∧ Hp F w (HI j)) E R (LI i) F (HI i)) : G P N (.loop c) K E R L F H := by
 intro a w hf hw b k cs
 have key : ∀ n i a w, μ i = n → Pre i → Fits N (LI i) a → Hp F w (HI i) →
   ∃ e a' w', MQ K E R e a' w' ∧ Arrives P (lone (b.at a (.code c :: .inLoop c :: k)) cs w) b k cs e a' w' := by
  intro n
  induction n using Nat.strongRecOn with
  | _ n ih =>
   intro i a w hn hp hf hw
   obtain ⟨e, a₁, w₁, hq, harr⟩ := round i hp a w hf hw b (.inLoop c :: k) cs
   cases e with
   | normal =>
    obtain ⟨j, hj, hlt, hf1, hw1⟩ := hq
    obtain ⟨e₂, a₂, w₂, hq₂, harr₂⟩ := ih (μ j) (hn ▸ hlt) j a₁ w₁ rfl hj hf1 hw1
    exact ⟨e₂, a₂, w₂, hq₂, .of_steps (Steps.trans harr (.one step_inLoop)) harr₂⟩
   | exit id => exact ⟨.exit id, a₁, w₁, hq, .pass (x := .inLoop c) rfl (fun _ _ => .inl (by simp)) harr⟩
   | goto l => exact hq.elim
   | ret => exact ⟨.ret, a₁, w₁, hq, .pass (x := .inLoop c) rfl (fun _ _ => .inl (by simp)) harr⟩
   | panic ch => exact hq.elim
   | outgrown => exact hq.elim
 obtain ⟨e, a', w', hq, harr⟩ := key _ i0 a w rfl h0 (hf.sub hL) (hH w hw)
 exact ⟨e, a', w', hq, .of_steps (.one step_loop) harr⟩
theorem at_next {ι : Type} {Pre : ι → Prop} {LI : ι → Lcs} {HI : ι → List As} {μ : ι → Nat} {i : ι} (j : ι) (h0 : Pre j) (hm : μ j < μ i) (hL : Sub (LI j) L) (hH : ∀ w, Hp F w H → Hp F w (HI j)) :
  At N (fun a w => ∃ j, Pre j ∧ μ j < μ i ∧ Fits N (LI j) a ∧ Hp F w (HI j)) L F H := fun a w hf hw => ⟨j, h0, hm, hf.sub hL, hH w hw⟩
def RetQ (P : Program) (fn : Func) (F0 : Snap) (Post : Value → List As → Prop) : Kont := fun a w => ∃ v A, (results fn a.tmps).run P w = .ok v w ∧ Post v A ∧ Hp F0 w A ∧ a.defers = []
end
def argLoc : Nat → List Value → Lcs
 | _, [] => []
 | n, v :: r => (n, v) :: argLoc (n + 1) r
theorem find_argLoc : ∀ (l : List Value) (n t : Nat) (v : Value), find (argLoc n l) t = some v → n ≤ t ∧ l[t - n]? = some v
 | [], n, t, v, h => by simp [argLoc, find] at h
 | x :: r, n, t, v, h => by
  simp only [argLoc, find] at h
  cases e : Nat.beq n t
  ·rw [e] at h
   have ih := find_argLoc r (n + 1) t v h
   refine ⟨by omega, ?_⟩
   have : t - n = (t - (n + 1)) + 1 := by omega
   rw [this]; simpa using ih.2
  ·rw [e] at h
   have := Nat.eq_of_beq_eq_true e
   subst this
   simp only [cond_true, Option.some.injEq] at h
   subst h
   exact ⟨Nat.le_refl _, by simp⟩
theorem fits_enter (N : Nat) (args : List Value) (hN : Nat.ble args.length N = true) : Fits N (argLoc 0 args) { tmps := args.toArray ++ Array.replicate (N - args.toArray.size) undef, defers := [] } := by
 have hN' : args.length ≤ N := by simpa [Nat.ble_eq] using hN
 refine ⟨rfl, by simp; omega, fun t v h => ?_⟩
 have := (find_argLoc args 0 t v h).2
 simp only [Nat.sub_zero] at this
 have hlt : t < args.length := (List.getElem?_eq_some_iff.1 this).1
 rw [Array.getElem?_append_left (by simpa using hlt)]
 simpa using this
theorem ct_enter {P : Program} {f : FuncId} {fn : Func} {c : Code} {args : List Value} {Pre : Heap → Prop} {C : List As} {Post : Value → List As → Prop} (N : Nat)
  (hf : P.funcs[f]? = some fn) (hb : fn.body = some c) (hN : fn.ntmps = N) (hle : Nat.ble args.length N = true)
  (h : ∀ F : Snap, Pre F.heap → G P N c (RetQ P fn F Post) [] (RetQ P fn F Post) (argLoc 0 args) F C) : Ct P f args Pre C Post := by
 intro w bs hs hn hpre
 refine calls_of_wp hf hb ?_
 rw [hN]
 have h1 := h (snapBut w bs) hpre _ w (fits_enter N args hle) (Hp.start hs hn)
 refine Code.wp_mono (fun e a w' q => ?_) h1
 cases e with
 | normal => obtain ⟨v, A, h1, h2, h3, h4⟩ := q; exact ⟨h4, v, h1, v, A, rfl, h2, h3⟩
 | ret => obtain ⟨v, A, h1, h2, h3, h4⟩ := q; exact ⟨h4, v, h1, v, A, rfl, h2, h3⟩
 | exit id => simp [MQ] at q
 | goto l => exact q.elim
 | panic ch => exact q.elim
 | outgrown => exact q.elim
end Go.Sl
namespace Go.Sl
open Go Go.RowKit
class HU (P : Program) (t : TypeId) (d : outParam TypeDesc) : Prop where
 h : P.underlying t = some d
class HS (P : Program) (t : TypeId) (n : outParam Nat) : Prop where
 h : ∀ w, (sizeOf t).run P w = .ok n w
class HA (P : Program) (t : TypeId) (b : outParam Bool) : Prop where
 h : ∀ w, (isAgg t).run P w = .ok b w
class HZ (P : Program) (t : TypeId) (v : outParam Value) : Prop where
 h : ∀ w, (zeroValue t).run P w = .ok v w
class HI (P : Program) (t : TypeId) (i : outParam TypeInfo) : Prop where
 h : P.info? t = some i
class HF (P : Program) (f : FuncId) : Prop where
 h : ∀ args w, (callFunc f args).run P w = .ok (.enter f args) w
theorem hf_mk {P : Program} {f : FuncId} {fn : Func} (hf : P.funcs[f]? = some fn) (hb : fn.body.isNone = false) (hn : (fn.name == "runtime.NumGoroutine") = false) : HF P f :=
 ⟨fun args w => by
  unfold callFunc
  simp only [Sem.run_bind, run_program, Result.andThen_ok, hf, hn, hb, Bool.false_eq_true, if_false]
  rfl⟩
abbrev B (l : List UInt8) : Value := .string ⟨l.toArray⟩
def addO : Option Addr → Nat → Option Addr
 | some a, n => some (a.add n)
 | none, _ => none
theorem add_add (a : Addr) (i j : Nat) : (a.add i).add j = a.add (i + j) := by
 unfold Addr.add
 by_cases hi : i = 0 <;> by_cases hj : j = 0 <;> simp [hi, hj, Nat.add_assoc]
def RdS (h : Heap) (a : Option Addr) (xs : List Value) : Prop := xs ≠ [] → ∃ ad, a = some ad ∧ ∀ j u, xs[j]? = some u → h.cell? (ad.add j) = some u
theorem RdS.le {h h' : Heap} {a : Option Addr} {xs : List Value} (r : RdS h a xs) (l : Heap.le h h') : RdS h' a xs := fun hx => by
 obtain ⟨ad, e, k⟩ := r hx
 exact ⟨ad, e, fun j u hu => Heap.cell?_le l (k j u hu)⟩
theorem RdS.nil (h : Heap) (a : Option Addr) : RdS h a [] := fun e => absurd rfl e
def PeekC (h : Heap) (p : Option Addr) (cs : List Value) : Prop := ∃ ad, p = some ad ∧ ∀ j u, cs[j]? = some u → h.cell? (ad.add j) = some u
theorem RdS.peek {h : Heap} {a : Option Addr} {xs cs : List Value} (r : RdS h a xs) (k : Nat) (hne : cs ≠ []) (hc : ∀ j u, cs[j]? = some u → xs[k + j]? = some u) : PeekC h (addO a k) cs := by
 have hx : xs ≠ [] := by
  rintro rfl
  cases cs with
  | nil => exact hne rfl
  | cons c r => have := hc 0 c (by simp); simp at this
 obtain ⟨ad, rfl, hk⟩ := r hx
 exact ⟨ad.add k, rfl, fun j u hu => by rw [add_add]; exact hk _ _ (hc j u hu)⟩
def Agr (L : Lcs) (ρ : Operand → Value) : Prop := ∀ x v, ev L x = some v → ρ x = v
theorem Fits.agr {N : Nat} {L : Lcs} {a : Act} (h : Fits N L a) : Agr L a.eval := fun _ _ hx => h.eval hx
def OpF (P : Program) (o : Oper) (L : Lcs) (v : Value) : Prop := ∀ ρ w, Agr L ρ → (execOp ρ o).run P w = .ok (.value v) w
def OpR (P : Program) (o : Oper) (L : Lcs) (F : Snap) (H : List As) (v : Value) : Prop := ∀ ρ w, Agr L ρ → Hp F w H → (execOp ρ o).run P w = .ok (.value v) w
section
variable {P : Program} {N : Nat} {K R : Kont} {E : List (Nat × Kont)} {L : Lcs} {F : Snap} {H : List As} {ops : Array Oper} {rest : List Oper} {ty : TypeId} {pos : String} {af : Array Edge} {dst : Option Nat} {gd : Option (Nat × Bool)}
theorem gl_run {o : Oper} {d : Nat} (hg : o.guard = none) (hdst : o.dst = some d) (hd : Nat.blt d N = true)
  (h : ∀ a w, Fits N L a → Hp F w H → ∃ v w' H', (execOp a.eval o).run P w = .ok (.value v) w' ∧ Hp F w' H' ∧ GL P N ops rest K E R ((d, v) :: L) F H') :
  GL P N ops (o :: rest) K E R L F H := fun a w hf hw => by
 obtain ⟨v, w', H', h1, h2, h3⟩ := h a w hf hw
 refine wpList_plain hg fun K' hK => ?_
 unfold Oper.wp
 rw [h1, Oper.upon_value, hdst]
 exact hK _ _ (h3 _ _ (hf.put hd v) h2)
theorem gl_pure {o : Oper} {d : Nat} {v : Value} (hg : o.guard = none) (hdst : o.dst = some d) (hd : Nat.blt d N = true)
  (hrun : ∀ a w, Fits N L a → Hp F w H → (execOp a.eval o).run P w = .ok (.value v) w) (h : GL P N ops rest K E R ((d, v) :: L) F H) : GL P N ops (o :: rest) K E R L F H :=
 gl_run hg hdst hd fun a w hf hw => ⟨v, w, H, hrun a w hf hw, hw, h⟩
theorem gl_eff {o : Oper} (hg : o.guard = none) (hdst : o.dst = none)
  (h : ∀ a w, Fits N L a → Hp F w H → ∃ w' H', (execOp a.eval o).run P w = .ok .skip w' ∧ Hp F w' H' ∧ GL P N ops rest K E R L F H') :
  GL P N ops (o :: rest) K E R L F H := fun a w hf hw => by
 obtain ⟨w', H', h1, h2, h3⟩ := h a w hf hw
 refine wpList_plain hg fun K' hK => ?_
 unfold Oper.wp
 rw [h1, Oper.upon_skip, hdst]
 exact hK _ _ (h3 _ _ hf h2)
theorem gl_f {o : Oper} {d : Nat} {v : Value} (s : OpF P o L v) (hg : o.guard = none) (hdst : o.dst = some d) (hd : Nat.blt d N = true) (h : GL P N ops rest K E R ((d, v) :: L) F H) : GL P N ops (o :: rest) K E R L F H :=
 gl_pure hg hdst hd (fun a w hf hw => s _ _ hf.agr) h
theorem gl_r {o : Oper} {d : Nat} {v : Value} (s : OpR P o L F H v) (hg : o.guard = none) (hdst : o.dst = some d) (hd : Nat.blt d N = true) (h : GL P N ops rest K E R ((d, v) :: L) F H) : GL P N ops (o :: rest) K E R L F H :=
 gl_pure hg hdst hd (fun a w hf hw => s _ _ hf.agr hw) h
theorem s_move {x : Operand} {v : Value} (hx : ev L x = some v) : OpF P ⟨dst, .move x, ty, pos, af, gd⟩ L (v) :=
 (fun ρ w hf => by simp [execOp, hf _ _ hx])
theorem s_assign {x : Operand} {v : Value} (hx : ev L x = some v) : OpF P ⟨dst, .assign x, ty, pos, af, gd⟩ L (v) :=
 (fun ρ w hf => by simp [execOp, hf _ _ hx])
section
variable {d : Nat} {x y : Operand} {k : IntKind} {m n : Int} {t t' : TypeId}
theorem s_bin {op : BinOp} {u v r : Value} (hx : ev L x = some u) (hy : ev L y = some v) (hrun : ∀ w, (do eqGuard op t x y u v; binOp op t u v : Sem Value).run P w = .ok r w) : OpF P ⟨dst, .binOp op t x y t', ty, pos, af, gd⟩ L (r) :=
 (fun ρ w hf => by
  have := hrun w
  simp only [execOp, hf _ _ hx, hf _ _ hy]
  rw [Sem.run_bind, this]; rfl)
theorem s_add_i64 (hx : ev L x = some (.int .i64 m)) (hy : ev L y = some (.int .i64 n)) (hr : -9223372036854775808 ≤ m + n ∧ m + n ≤ 9223372036854775807) : OpF P ⟨dst, .binOp .add t x y t', ty, pos, af, gd⟩ L (.int .i64 (m + n)) :=
 s_bin hx hy (fun w => by
  have e : IntKind.i64.wrap (m + n) = m + n := by (rw [IntKind.wrap_i64]; omega)
  simp [go_sem, Op.intArith, e])
theorem s_sub_i64 (hx : ev L x = some (.int .i64 m)) (hy : ev L y = some (.int .i64 n)) (hr : -9223372036854775808 ≤ m - n ∧ m - n ≤ 9223372036854775807) : OpF P ⟨dst, .binOp .sub t x y t', ty, pos, af, gd⟩ L (.int .i64 (m - n)) :=
 s_bin hx hy (fun w => by
  have e : IntKind.i64.wrap (m - n) = m - n := by (rw [IntKind.wrap_i64]; omega)
  simp [go_sem, Op.intArith, e])
theorem s_mul_i64 (hx : ev L x = some (.int .i64 m)) (hy : ev L y = some (.int .i64 n)) (hr : -9223372036854775808 ≤ m * n ∧ m * n ≤ 9223372036854775807) : OpF P ⟨dst, .binOp .mul t x y t', ty, pos, af, gd⟩ L (.int .i64 (m * n)) :=
 s_bin hx hy (fun w => by
  have e : IntKind.i64.wrap (m * n) = m * n := by (rw [IntKind.wrap_i64]; generalize m * n = q at *; omega)
  simp [go_sem, Op.intArith, e])
theorem s_sub_u64 (hx : ev L x = some (.int .u64 m)) (hy : ev L y = some (.int .u64 n)) (hr : 0 ≤ m - n ∧ m - n ≤ 18446744073709551615) : OpF P ⟨dst, .binOp .sub t x y t', ty, pos, af, gd⟩ L (.int .u64 (m - n)) :=
 s_bin hx hy (fun w => by
  have e : IntKind.u64.wrap (m - n) = m - n := by (rw [IntKind.wrap_u64]; omega)
  simp [go_sem, Op.intArith, e])
theorem s_mul_u64 (hx : ev L x = some (.int .u64 m)) (hy : ev L y = some (.int .u64 n)) (hr : 0 ≤ m * n ∧ m * n ≤ 18446744073709551615) : OpF P ⟨dst, .binOp .mul t x y t', ty, pos, af, gd⟩ L (.int .u64 (m * n)) :=
 s_bin hx hy (fun w => by
  have e : IntKind.u64.wrap (m * n) = m * n := by (rw [IntKind.wrap_u64]; generalize m * n = q at *; omega)
  simp [go_sem, Op.intArith, e])
theorem s_add_raw (hx : ev L x = some (.int k m)) (hy : ev L y = some (.int k n)) : OpF P ⟨dst, .binOp .add t x y t', ty, pos, af, gd⟩ L (.int k (k.wrap (m + n))) :=
 s_bin hx hy (fun w => by simp [go_sem, Op.intArith])
theorem s_sub_raw (hx : ev L x = some (.int k m)) (hy : ev L y = some (.int k n)) : OpF P ⟨dst, .binOp .sub t x y t', ty, pos, af, gd⟩ L (.int k (k.wrap (m - n))) :=
 s_bin hx hy (fun w => by simp [go_sem, Op.intArith])
theorem s_shl {k' : IntKind} (hx : ev L x = some (.int k m)) (hy : ev L y = some (.int k' n)) (hr : 0 ≤ n) : OpF P ⟨dst, .binOp .shl t x y t', ty, pos, af, gd⟩ L (.int k (k.wrap (m * 2 ^ (min n.toNat k.bits)))) :=
 s_bin hx hy (fun w => by
  have : ¬ n < 0 := by omega
  simp [eqGuard_shl, binOp_shl, Op.shift, this])
theorem s_lss (hx : ev L x = some (.int k m)) (hy : ev L y = some (.int k n)) : OpF P ⟨dst, .binOp .lss t x y t', ty, pos, af, gd⟩ L (.bool (decide (m < n))) :=
 s_bin hx hy (fun w => by simp [go_sem])
theorem s_leq (hx : ev L x = some (.int k m)) (hy : ev L y = some (.int k n)) : OpF P ⟨dst, .binOp .leq t x y t', ty, pos, af, gd⟩ L (.bool (decide (m ≤ n))) :=
 s_bin hx hy (fun w => by simp [go_sem])
theorem s_gtr (hx : ev L x = some (.int k m)) (hy : ev L y = some (.int k n)) : OpF P ⟨dst, .binOp .gtr t x y t', ty, pos, af, gd⟩ L (.bool (decide (n < m))) :=
 s_bin hx hy (fun w => by simp [go_sem])
theorem s_geq (hx : ev L x = some (.int k m)) (hy : ev L y = some (.int k n)) : OpF P ⟨dst, .binOp .geq t x y t', ty, pos, af, gd⟩ L (.bool (decide (n ≤ m))) :=
 s_bin hx hy (fun w => by simp [go_sem])
theorem s_eql (hx : ev L x = some (.int k m)) (hy : ev L y = some (.int k n)) : OpF P ⟨dst, .binOp .eql t x y t', ty, pos, af, gd⟩ L (.bool (decide (m = n))) :=
 s_bin hx hy (fun w => by simp [go_sem, BEq.beq])
theorem s_neq (hx : ev L x = some (.int k m)) (hy : ev L y = some (.int k n)) : OpF P ⟨dst, .binOp .neq t x y t', ty, pos, af, gd⟩ L (.bool (!decide (m = n))) :=
 s_bin hx hy (fun w => by simp [go_sem, bne, BEq.beq])
theorem s_not {b : Bool} (hx : ev L x = some (.bool b)) : OpF P ⟨dst, .unOp .not t x, ty, pos, af, gd⟩ L (.bool (!b)) :=
 (fun ρ w hf => by simp [execOp, hf _ _ hx, Op.unary])
theorem s_conv_int {k' : IntKind} {dsrc : TypeDesc} [hs : HU P t dsrc] [ht : HU P t' (.int k')] (hx : ev L x = some (.int k m)) : OpF P ⟨dst, .convert t t' x, ty, pos, af, gd⟩ L (.int k' (k'.wrap m)) :=
 (fun ρ w hf => by simp [execOp, hf _ _ hx, convert, run_underlying hs.h, run_underlying ht.h, Conv.intToInt])
theorem s_eql_bool [hu : HU P t .bool] {p q : Bool} (hx : ev L x = some (.bool p)) (hy : ev L y = some (.bool q)) : OpF P ⟨dst, .binOp .eql t x y t', ty, pos, af, gd⟩ L (.bool (p == q)) :=
 s_bin hx hy (fun w => by rw [eqGuard_at_bool]; exact run_eql_bool w t p q hu.h)
theorem s_neq_bool [hu : HU P t .bool] {p q : Bool} (hx : ev L x = some (.bool p)) (hy : ev L y = some (.bool q)) : OpF P ⟨dst, .binOp .neq t x y t', ty, pos, af, gd⟩ L (.bool (!(p == q))) :=
 s_bin hx hy (fun w => by rw [eqGuard_at_bool]; exact run_neq_bool w t p q hu.h)
variable {l l' : List UInt8}
theorem s_eql_str (hx : ev L x = some (B l)) (hy : ev L y = some (B l')) : OpF P ⟨dst, .binOp .eql t x y t', ty, pos, af, gd⟩ L (.bool (decide (l = l'))) :=
 s_bin hx hy (fun w => by
  have e : (l == l') = decide (l = l') := by (rw [Bool.eq_iff_iff]; simp)
  simp only [eqGuard_at_string, binOp_string_eql, ByteArray.toList_mk, e]; rfl)
theorem s_neq_str (hx : ev L x = some (B l)) (hy : ev L y = some (B l')) : OpF P ⟨dst, .binOp .neq t x y t', ty, pos, af, gd⟩ L (.bool (!decide (l = l'))) :=
 s_bin hx hy (fun w => by
  have e : (l == l') = decide (l = l') := by (rw [Bool.eq_iff_iff]; simp)
  simp only [eqGuard_at_string, binOp_string_neq, ByteArray.toList_mk, e]; rfl)
theorem s_add_str (hx : ev L x = some (B l)) (hy : ev L y = some (B l')) (hr : l.length + l'.length ≤ 9223372036854775807) : OpF P ⟨dst, .binOp .add t x y t', ty, pos, af, gd⟩ L (B (l ++ l')) :=
 s_bin hx hy (fun w => by
  have e1 : ¬ (((⟨l.toArray⟩ : ByteArray).size + (⟨l'.toArray⟩ : ByteArray).size : Nat) : Int) > IntKind.i64.max := by
   rw [IntKind.max_i64]; simp only [ByteArray.size, List.size_toArray]; omega
  have e2 : (⟨l.toArray⟩ : ByteArray) ++ ⟨l'.toArray⟩ = ⟨(l ++ l').toArray⟩ := by
   apply ByteArray.ext; simp
  simp only [eqGuard_add, binOp, Op.stringOp, if_neg e1, e2]; rfl)
theorem s_len_str [hu : HU P t .string] (hx : ev L x = some (B l)) : OpF P ⟨dst, .call ⟨.builtin .len, #[x], #[t]⟩, ty, pos, af, gd⟩ L (.int .i64 (l.length : Nat)) :=
 (fun ρ w hf => by
  have hs : (⟨l.toArray⟩ : ByteArray).size = l.length := by simp [ByteArray.size]
  simp [execOp, resolve, invoke, builtin, Builtin.len_, hf _ _ hx, run_underlying hu.h, goInt, hs])
theorem s_index_str [hu : HU P t .string] (hx : ev L x = some (B l)) (hy : ev L y = some (.int k n)) (hr : 0 ≤ n ∧ n < l.length) : OpF P ⟨dst, .index t x y, ty, pos, af, gd⟩ L (.int .u8 ((l.getD n.toNat 0).toNat : Nat)) :=
 (fun ρ w hf => by
  have h1 : n.toNat < l.length := by omega
  have e : (⟨l.toArray⟩ : ByteArray)[n.toNat]? = some (l.getD n.toNat 0) := by
   have h2 : n.toNat < (⟨l.toArray⟩ : ByteArray).size := by simpa [ByteArray.size] using h1
   rw [getElem?_pos (⟨l.toArray⟩ : ByteArray) n.toNat h2]
   congr 1
   show l.toArray[n.toNat] = _
   simp [h1]
  simp [execOp, Instr.index, hf _ _ hx, hf _ _ hy, asIntOf, run_underlying hu.h, hr.1, e])
theorem extract_B (l : List UInt8) (a b : Nat) : (⟨l.toArray⟩ : ByteArray).extract a b = ⟨((l.drop a).take (b - a)).toArray⟩ := by
 apply ByteArray.ext
 apply Array.toList_inj.1
 rw [Lib.extract_data]
def bnd (L : Lcs) : Option Operand → Int → Option Int
 | none, dflt => some dflt
 | some o, _ => match ev L o with
  | some (.int _ n) => some n
  | _ => none
theorem s_slice_str {lo hi : Option Operand} {i j : Int} [hu : HU P t .string] (hx : ev L x = some (B l)) (hlo : bnd L lo 0 = some i) (hhi : bnd L hi l.length = some j) (hr : 0 ≤ i ∧ i ≤ j ∧ j ≤ l.length) : OpF P ⟨dst, .slice t x lo hi none, ty, pos, af, gd⟩ L (B ((l.drop i.toNat).take (j.toNat - i.toNat))) :=
 (fun ρ w hf => by
  have hs : (⟨l.toArray⟩ : ByteArray).size = l.length := by simp [ByteArray.size]
  have hb : ∀ (o : Operand) (q : Int), (match ev L o with | some (.int _ n) => some n | _ => none) = some q → ∃ kk, ρ o = .int kk q := by
   intro o q hq
   cases e : ev L o with
   | none => rw [e] at hq; cases hq
   | some u => rw [e] at hq; cases u <;> simp at hq; subst hq; exact ⟨_, hf _ _ e⟩
  have key : (Instr.sliceBounds false l.length l.length (lo.map ρ) (hi.map ρ) none).run P w = .ok (i.toNat, j.toNat, l.length) w := by
   cases lo with
   | none =>
    simp only [bnd, Option.some.injEq] at hlo; subst hlo
    cases hi with
    | none =>
     simp only [bnd, Option.some.injEq] at hhi; subst hhi
     simp [Instr.sliceBounds]
    | some o =>
     obtain ⟨kk, ek⟩ := hb o j hhi
     simp [Instr.sliceBounds, Instr.sliceBound, ek, asIntOf, hr.2.2, show 0 ≤ j from by omega]
   | some o2 =>
    obtain ⟨kk2, ek2⟩ := hb o2 i hlo
    cases hi with
    | none =>
     simp only [bnd, Option.some.injEq] at hhi; subst hhi
     simp [Instr.sliceBounds, Instr.sliceBound, ek2, asIntOf, hr.1, hr.2.1]
    | some o =>
     obtain ⟨kk, ek⟩ := hb o j hhi
     have h5 : ¬ max j 0 < i := by omega
     simp [Instr.sliceBounds, Instr.sliceBound, ek, ek2, asIntOf, hr.1, hr.2.2, h5, show 0 ≤ j from by omega]
  simp [execOp, Instr.sliceAt, Instr.slice, hf _ _ hx, run_underlying hu.h, hs, key, extract_B])
end
end
end Go.Sl
namespace Go.Sl
open Go Go.RowKit
section
variable {P : Program} {N : Nat} {K R : Kont} {E : List (Nat × Kont)} {L : Lcs} {F : Snap} {H : List As} {ops : Array Oper} {rest : List Oper} {ty : TypeId} {pos : String} {af : Array Edge} {dst : Option Nat} {gd : Option (Nat × Bool)}
variable {d : Nat} {x y : Operand} {t t' : TypeId}
theorem s_nilCheck {a0 : Addr} (hx : ev L x = some (.pointer (some a0))) : OpF P ⟨dst, .nilCheck x, ty, pos, af, gd⟩ L (.pointer (some a0)) :=
 (fun ρ w hf => by simp [execOp, hf _ _ hx])
theorem s_fieldAddr {fs : Array Field} {nm tg pk : String} {ft : TypeId} {off bo : Nat} {em : Bool} {i b o n : Nat} [hu : HU P t (.struct fs)] (hx : ev L x = some (.pointer (some ⟨b, o, none⟩))) (hf0 : fs[i]? = some ⟨nm, ft, off, em, tg, pk, bo⟩) (hs : HS P ft n) (hn : n ≠ 0) : OpF P ⟨dst, .fieldAddr t x i, ty, pos, af, gd⟩ L (.pointer (some ⟨b, o + off, none⟩)) :=
 (fun ρ w hf => by
  have : (⟨b, o, none⟩ : Addr).add off = ⟨b, o + off, none⟩ := Addr.add_lit _ _ _
  simp [execOp, Instr.fieldAt, fieldPlace, Instr.sureAddr, hf _ _ hx, run_underlying hu.h, hf0, hs.h, hn, this])
theorem s_fieldAddr_o {fs : Array Field} {nm tg pk : String} {ft : TypeId} {off bo : Nat} {em : Bool} {i k n : Nat} {a0 : Option Addr} [hu : HU P t (.struct fs)] (hx : ev L x = some (.pointer (addO a0 k))) (he : ∃ ad, a0 = some ad) (hf0 : fs[i]? = some ⟨nm, ft, off, em, tg, pk, bo⟩) (hs : HS P ft n) (hn : n ≠ 0) : OpF P ⟨dst, .fieldAddr t x i, ty, pos, af, gd⟩ L (.pointer (addO a0 (k + off))) :=
 (fun ρ w hf => by
  obtain ⟨ad, rfl⟩ := he
  simp [execOp, Instr.fieldAt, fieldPlace, Instr.sureAddr, hf _ _ hx, run_underlying hu.h, hf0, hs.h, hn, addO, add_add])
theorem s_indexAddr {k : IntKind} {n : Int} {a0 : Option Addr} {len c e sz : Nat} [hu : HU P t (.slice e)] [hs : HS P e sz] (hx : ev L x = some (.slice a0 len c)) (he : ∃ ad, a0 = some ad) (hy : ev L y = some (.int k n)) (hr : 0 ≤ n ∧ n < len) : OpF P ⟨dst, .indexAddr t x y, ty, pos, af, gd⟩ L (.pointer (addO a0 (n.toNat * sz))) :=
 (fun ρ w hf => by
  obtain ⟨ad, rfl⟩ := he
  simp [execOp, Instr.indexAt, asIntOf, hf _ _ hx, hf _ _ hy, run_underlying hu.h, hs.h, hr.1, hr.2, addO])
theorem run_loadCells_peek {w : World} {ad : Addr} {cs : List Value} (h : ∀ j u, cs[j]? = some u → (hp w).cell? (ad.add j) = some u) : (loadCells ad cs.length).run P w = .ok cs.toArray w :=
 run_loadCells_list (P := P) w ad cs h
theorem s_load1 {p : Option Addr} {v : Value} [ha : HA P t false] (hx : ev L x = some (.pointer p)) (hpk : ∀ w, Hp F w H → PeekC (hp w) p [v]) : OpR P ⟨dst, .load t x, ty, pos, af, gd⟩ L F H (v) :=
 (fun ρ w hf hw => by
  obtain ⟨ad, rfl, hc⟩ := hpk w hw
  have h0 := hc 0 v (by simp)
  rw [cell?_hp] at h0
  have h1 : w.cell? ad = some v := by simpa [Addr.add] using h0
  simp [execOp, Instr.loadAt, Instr.sureAddr, loadVar, hf _ _ hx, ha.h, h1])
theorem s_loadN {p : Option Addr} {cs : List Value} {n : Nat} [ha : HA P t true] [hs : HS P t n] (hx : ev L x = some (.pointer p)) (hpk : ∀ w, Hp F w H → PeekC (hp w) p cs) (hn : cs.length = n) : OpR P ⟨dst, .load t x, ty, pos, af, gd⟩ L F H (.agg cs.toArray) :=
 (fun ρ w hf hw => by
  obtain ⟨ad, rfl, hc⟩ := hpk w hw
  have h1 := run_loadCells_peek (P := P) hc
  subst hn
  simp [execOp, Instr.loadAt, Instr.sureAddr, loadVar, hf _ _ hx, ha.h, hs.h, h1])
theorem Hp.blk {w : World} {b : Nat} {o : Obj} {ys H' : List As} (hw : Hp F w H) (u : Upd H (.blk b o) ys H') : w.heap[b]? = some o := by
 obtain ⟨b2, ⟨_, h1⟩, _⟩ := hw.focus u
 exact h1
theorem peek_blk {w : World} {b o : Nat} {cs : Array Value} {te : TypeId} {fr : Nat × Nat} {ys H' : List As} {v : Value} (hw : Hp F w H) (u : Upd H (.blk b (.cells cs te fr)) ys H') (hv : cs[o]? = some v) : PeekC (hp w) (some ⟨b, o, none⟩) [v] :=
 ⟨_, rfl, fun j q hj => by
  match j, hj with
  | 0, hj =>
   simp at hj; subst hj
   have := hw.blk u
   simp [Heap.cell?, hp, Addr.add, this, hv]⟩
def sl (cs : Array Value) (o n : Nat) : List Value := (cs.toList.drop o).take n
theorem peek_blkN {w : World} {b o n : Nat} {cs : Array Value} {te : TypeId} {fr : Nat × Nat} {ys H' : List As} (hw : Hp F w H) (u : Upd H (.blk b (.cells cs te fr)) ys H') : PeekC (hp w) (some ⟨b, o, none⟩) (sl cs o n) :=
 ⟨_, rfl, fun j q hj => by
  have := hw.blk u
  have e : (⟨b, o, none⟩ : Addr).add j = ⟨b, o + j, none⟩ := Addr.add_lit _ _ _
  rw [e]
  simp only [sl, List.getElem?_take] at hj
  split at hj
  ·rw [List.getElem?_drop] at hj
   simp [Heap.cell?, hp, this]
   simpa using hj
  ·cases hj⟩
theorem s_load_blk {b o : Nat} {cs : Array Value} {te : TypeId} {fr : Nat × Nat} {v : Value} {H' : List As} [ha : HA P t false] (hx : ev L x = some (.pointer (some ⟨b, o, none⟩))) (u : Upd H (.blk b (.cells cs te fr)) [] H') (hv : cs[o]? = some v) : OpR P ⟨dst, .load t x, ty, pos, af, gd⟩ L F H (v) :=
 s_load1 hx (fun w hw => peek_blk hw u hv)
theorem s_load_blkN {b o n : Nat} {cs : Array Value} {te : TypeId} {fr : Nat × Nat} {H' : List As} [ha : HA P t true] [hs : HS P t n] (hx : ev L x = some (.pointer (some ⟨b, o, none⟩))) (u : Upd H (.blk b (.cells cs te fr)) [] H') (hv : Nat.ble (o + n) cs.size = true) : OpR P ⟨dst, .load t x, ty, pos, af, gd⟩ L F H (.agg (sl cs o n).toArray) :=
 s_loadN hx (fun w hw => peek_blkN (n := n) hw u) (by
  have : o + n ≤ cs.size := by simpa [Nat.ble_eq] using hv
  simp [sl]; omega)
def putL (cs : Array Value) (o : Nat) (vs : List Value) : Array Value := (cs.toList.take o ++ vs ++ cs.toList.drop (o + vs.length)).toArray
theorem gl_store_blkP {b o n : Nat} {cs : Array Value} {te : TypeId} {v : Value} {H' : List As} [hs : HS P t n] (hx : ev L x = some (.pointer (some ⟨b, o, none⟩))) (hy : ev L y = some v)
  (u : Upd H (.blk b (.cells cs te (0, 0))) [.blk b (.cells (putL cs o v.cells.toList) te (0, 0))] H') (hn : v.cells.size = n) (h1 : ∀ q ∈ v.cells.toList, q.oneCell' = true) (hle : o + n ≤ cs.size)
  (h : GL P N ops rest K E R L F H') : GL P N ops (⟨none, .store t x y, ty, pos, af, none⟩ :: rest) K E R L F H :=
 gl_eff rfl rfl fun a w hf hw => by
  obtain ⟨b2, ⟨rfl, hblk⟩, _, hlt, k⟩ := hw.focus u
  have hst := run_storeCells_at P b o te v.cells.toList 0 cs w hblk (by simp [hn]; omega) h1
  simp only [Nat.add_zero] at hst
  refine ⟨w.setRow b (putL cs o v.cells.toList), H', ?_, ?_, h⟩
  ·simp [execOp, Instr.storeAt, Instr.sureAddr, storeVar, hf.eval hx, hf.eval hy, hs.h, hn, hst, putL]
  ·refine k _ [b] rfl rfl rfl (fun c hc hcb => setRow_other w b c _ (by simpa using hcb)) ⟨[b], [], rfl, ⟨rfl, setRow_heap w b cs _ te _ hblk⟩, rfl⟩ (by simp) (fun c hc => .inl hc)
theorem gl_alloc {z : Value} [hz : HZ P t z] (hd : Nat.blt d N = true) (h : ∀ g, GL P N ops rest K E R ((d, .pointer (some ⟨g, 0, none⟩)) :: L) F (.blk g (.cells z.cells t) :: H)) :
  GL P N ops (⟨some d, .alloc t, ty, pos, af, none⟩ :: rest) K E R L F H :=
 gl_run rfl rfl hd fun a w hf hw => ⟨_, w.alloc (.cells z.cells t), _, by simp [execOp, Instr.alloc, hz.h, newVar, newRow], hw.alloc _, h _⟩
theorem gl_box {v : Value} (hx : ev L x = some v) (hd : Nat.blt d N = true) (h : ∀ g, GL P N ops rest K E R ((d, .pointer (some ⟨g, 0, none⟩)) :: L) F (.blk g (.cells v.cells t) :: H)) :
  GL P N ops (⟨some d, .box t x, ty, pos, af, none⟩ :: rest) K E R L F H :=
 gl_run rfl rfl hd fun a w hf hw => ⟨_, w.alloc (.cells v.cells t), _, by simp [execOp, Instr.box, newVar, newRow, hf.eval hx], hw.alloc _, h _⟩
def evP (L : Lcs) : List (Nat × Operand) → Option (List (Nat × Value))
 | [] => some []
 | (i, x) :: r => match ev L x, evP L r with
  | some v, some vs => some ((i, v) :: vs)
  | _, _ => none
theorem evP_eval {ρ : Operand → Value} (hf : Agr L ρ) : ∀ {ps : List (Nat × Operand)} {vs : List (Nat × Value)}, evP L ps = some vs → (ps.map fun (i, x) => (i, ρ x)) = vs
 | [], vs, h => by simp [evP] at h; subst h; rfl
 | (i, x) :: r, vs, h => by
  simp only [evP] at h
  cases e : ev L x with
  | none => rw [e] at h; simp at h
  | some v =>
   cases e2 : evP L r with
   | none => rw [e, e2] at h; simp at h
   | some us =>
    rw [e, e2] at h; simp at h; subst h
    simp only [List.map_cons, hf _ _ e]
    rw [← evP_eval hf e2]
theorem s_build {ps : List (Nat × Operand)} {vs : List (Nat × Value)} {v : Value} (hx : evP L ps = some vs) (hrun : ∀ w, (Instr.build t vs.toArray).run P w = .ok v w) : OpF P ⟨dst, .build t ps.toArray, ty, pos, af, gd⟩ L (v) :=
 (fun ρ w hf => by
  have := evP_eval hf hx
  simp only [execOp, List.map_toArray]
  rw [this, Sem.run_bind, hrun w]; rfl)
theorem run_build_struct {fs : Array Field} {z : Value} {places : List (Nat × Nat)} {vs : List (Nat × Value)} {cells : Array Value} [hu : HU P t (.struct fs)] [hz : HZ P t z]
  (hp : fs.toList.map (fun f => (f.offset, P.cellsOf f.type)) = places) (hin : ∀ f ∈ fs.toList, (P.info? f.type).isSome = true) (hfill : Instr.fill (places[·]?) z.cells vs = some cells) (w : World) : (Instr.build t vs.toArray).run P w = .ok (.agg cells) w := by
 have key : ∀ (l : List Field) (acc : Array (Nat × Nat)), (∀ f ∈ l, (P.info? f.type).isSome = true) →
   (l.foldlM (fun (bs : Array (Nat × Nat)) (f : Field) => do let b ← (do pure (f.offset, ← sizeOf f.type) : Sem (Nat × Nat)); pure (bs.push b)) acc).run P w = .ok (acc ++ (l.map (fun f : Field => (f.offset, P.cellsOf f.type))).toArray) w := by
  intro l
  induction l with
  | nil => intro acc _; simp
  | cons f r ih =>
   intro acc hl
   obtain ⟨i, hi⟩ := Option.isSome_iff_exists.1 (hl f (by simp))
   have h2 : (sizeOf f.type).run P w = .ok (P.cellsOf f.type) w := by simp [sizeOf, typeInfo, hi, Program.cellsOf]
   simp only [List.foldlM_cons, Sem.run_bind, h2, Result.andThen_ok, Sem.run_pure]
   rw [ih _ (fun f hf => hl f (by simp [hf]))]
   simp
 have hm : (fs.mapM (fun f => do pure (f.offset, ← sizeOf f.type) : Field → Sem (Nat × Nat))).run P w = .ok places.toArray w := by
  rw [Array.mapM_eq_foldlM, ← Array.foldlM_toList]
  have := key fs.toList #[] hin
  rw [hp] at this
  simpa using this
 have hz' := hz.h w
 simp only [Instr.build, Sem.run_bind, hz', Result.andThen_ok, run_underlying hu.h, hm]
 have e : (fun i : Nat => places.toArray[i]?) = fun i : Nat => places[i]? := by funext i; simp
 rw [e]
 simp [hfill]
end
end Go.Sl
namespace Go.Sl
open Go Go.RowKit
def evs (L : Lcs) : List Operand → Option (List Value)
 | [] => some []
 | x :: r => match ev L x, evs L r with
  | some v, some vs => some (v :: vs)
  | _, _ => none
theorem evs_eval {L : Lcs} {ρ : Operand → Value} (hf : Agr L ρ) : ∀ {ps : List Operand} {vs : List Value}, evs L ps = some vs → ps.map ρ = vs
 | [], vs, h => by simp [evs] at h; subst h; rfl
 | x :: r, vs, h => by
  simp only [evs] at h
  cases e : ev L x with
  | none => rw [e] at h; simp at h
  | some v =>
   cases e2 : evs L r with
   | none => rw [e, e2] at h; simp at h
   | some us =>
    rw [e, e2] at h; simp at h; subst h
    simp only [List.map_cons, hf _ _ e]
    rw [evs_eval hf e2]
section
variable {P : Program} {N : Nat} {K R : Kont} {E : List (Nat × Kont)} {L : Lcs} {F : Snap} {H : List As} {ops : Array Oper} {rest : List Oper} {ty : TypeId} {pos : String} {af : Array Edge} {dst : Option Nat} {gd : Option (Nat × Bool)}
theorem gl_enter {o : Oper} {d : Nat} {f : FuncId} {vs : List Value} {Pre : Heap → Prop} {C Rr : List As} {Post : Value → List As → Prop} (hg : o.guard = none) (hdst : o.dst = some d) (hd : Nat.blt d N = true)
  (hrun : ∀ ρ w, Agr L ρ → (execOp ρ o).run P w = .ok (.enter f vs.toArray) w)
  (hc : Ct P f vs Pre C Post) (hH : ∀ w, Hp F w H → Hp F w (C ++ Rr)) (hpre : ∀ h, Heap.le F.heap h → (∃ bs, Sat h Rr bs) → Pre h)
  (h : ∀ v A, Post v A → GL P N ops rest K E R ((d, v) :: L) F (A ++ Rr)) : GL P N ops (o :: rest) K E R L F H := fun a w hf hw => by
 have hw' := hH w hw
 obtain ⟨bs, hs, hn, hfr⟩ := hw'.own
 obtain ⟨bc, br, e, hsc, hsr⟩ := Sat.split hs
 subst e
 have hpre' : Pre (hpBut w bc) := by
  refine hpre _ (fun b ob hob => ?_) ⟨br, Sat.same hsr fun b hb => ?_⟩
  ·have h1 := hw'.keep b ob hob
   have h2 : b ∉ bc := fun hb => by rw [hfr b (by simp [hb])] at hob; cases hob
   simpa [hpBut, h2, hp] using h1
  ·have h2 : b ∉ bc := fun hc => (List.nodup_append.1 hn).2.2 b hc b hb rfl
   simp [hpBut, h2, hp]
 refine wpList_plain hg fun K' hK => ?_
 unfold Oper.wp
 rw [hrun _ w hf.agr, Oper.upon_enter]
 refine (hc w bc hsc (List.nodup_append.1 hn).1 hpre').mono ?_
 rintro e w' ⟨v, A, rfl, hpost, hback⟩
 rw [hdst]
 exact hK _ _ (h v A hpost _ _ (hf.put hd v) (hw'.back hsc hsr hn hfr hback))
theorem run_call_go {ρ : Operand → Value} {f : FuncId} {args : List Operand} {tys : Array TypeId} {vs : List Value} [hF : HF P f] (hx : evs L args = some vs) (hf : Agr L ρ) (w : World) :
  (execOp ρ ⟨dst, .call ⟨.value (.func f), args.toArray, tys⟩, ty, pos, af, gd⟩).run P w = .ok (.enter f vs.toArray) w := by
 have e : ρ (.func f) = .func (.func f) #[] #[] := hf _ _ rfl
 have e2 := evs_eval hf hx
 simp only [execOp, resolve, e, Deferred.ofValue, List.map_toArray, e2, Sem.run_bind, Sem.run_pure, Result.andThen_ok, invoke]
 have : (#[] ++ vs.toArray ++ #[] : Array Value) = vs.toArray := by simp
 rw [this]
 exact hF.h _ w
theorem gl_call {d : Nat} {f : FuncId} {args : List Operand} {tys : Array TypeId} {vs : List Value} {Pre : Heap → Prop} {C : List As} {Post : Value → List As → Prop} [HF P f] (Rr : List As) (hx : evs L args = some vs)
  (hc : Ct P f vs Pre C Post) (hH : ∀ w, Hp F w H → Hp F w (C ++ Rr)) (hpre : ∀ h, Heap.le F.heap h → (∃ bs, Sat h Rr bs) → Pre h) (hd : Nat.blt d N = true)
  (h : ∀ v A, Post v A → GL P N ops rest K E R ((d, v) :: L) F (A ++ Rr)) : GL P N ops (⟨some d, .call ⟨.value (.func f), args.toArray, tys⟩, ty, pos, af, none⟩ :: rest) K E R L F H :=
 gl_enter rfl rfl hd (fun ρ w hf => run_call_go hx hf w) hc hH hpre h
theorem gl_callp {d : Nat} {f : FuncId} {args : List Operand} {tys : Array TypeId} {vs : List Value} {Pre : Heap → Prop} {v : Value} [HF P f] (hx : evs L args = some vs)
  (hc : Pu P f vs Pre v) (hpre : ∀ h, Heap.le F.heap h → (∃ bs, Sat h H bs) → Pre h) (hd : Nat.blt d N = true)
  (h : GL P N ops rest K E R ((d, v) :: L) F H) : GL P N ops (⟨some d, .call ⟨.value (.func f), args.toArray, tys⟩, ty, pos, af, none⟩ :: rest) K E R L F H :=
 gl_call H hx hc (fun w hw => hw) hpre hd (by rintro v A ⟨rfl, rfl⟩; exact h)
theorem at_end0 {fn : Func} {Post : Value → List As → Prop} (hr : fn.results = #[]) (A : List As) (hp : Post (.tuple #[]) A) (hA : ∀ w, Hp F w H → Hp F w A) : At N (RetQ P fn F Post) L F H := fun a w hf hw =>
 ⟨_, A, results_none hr _ _ _, hp, hA w hw, hf.defers⟩
theorem at_end1 {fn : Func} {Post : Value → List As → Prop} {t : Nat} {v : Value} (hr : fn.results = #[.tmp t]) (hv : find L t = some v) (A : List As) (hp : Post v A) (hA : ∀ w, Hp F w H → Hp F w A) : At N (RetQ P fn F Post) L F H := fun a w hf hw =>
 ⟨_, A, results_tmp hr _ _ _, by rw [show a.tmps.getD t undef = v from hf.eval (x := .tmp t) hv]; exact hp, hA w hw, hf.defers⟩
theorem at_end2 {fn : Func} {Post : Value → List As → Prop} {t u : Nat} {v v2 : Value} (hr : fn.results = #[.tmp t, .tmp u]) (hv : find L t = some v) (hv2 : find L u = some v2) (A : List As) (hp : Post (.tuple #[v, v2]) A) (hA : ∀ w, Hp F w H → Hp F w A) : At N (RetQ P fn F Post) L F H := fun a w hf hw =>
 ⟨_, A, results_tmp2 hr _ _ _, by rw [show a.tmps.getD t undef = v from hf.eval (x := .tmp t) hv, show a.tmps.getD u undef = v2 from hf.eval (x := .tmp u) hv2]; exact hp, hA w hw, hf.defers⟩
theorem at_end3 {fn : Func} {Post : Value → List As → Prop} {t u r : Nat} {v v2 v3 : Value} (hr : fn.results = #[.tmp t, .tmp u, .tmp r]) (hv : find L t = some v) (hv2 : find L u = some v2) (hv3 : find L r = some v3) (A : List As) (hp : Post (.tuple #[v, v2, v3]) A) (hA : ∀ w, Hp F w H → Hp F w A) : At N (RetQ P fn F Post) L F H := fun a w hf hw =>
 ⟨_, A, results_tmp3 hr _ _ _, by rw [show a.tmps.getD t undef = v from hf.eval (x := .tmp t) hv, show a.tmps.getD u undef = v2 from hf.eval (x := .tmp u) hv2, show a.tmps.getD r undef = v3 from hf.eval (x := .tmp r) hv3]; exact hp, hA w hw, hf.defers⟩
theorem at_endc {fn : Func} {Post : Value → List As → Prop} {t n : Nat} {tt : TypeId} {p : Option Addr} {cs : List Value} [ha : HA P tt true] [hs : HS P tt n] (hr : fn.results = #[.cell t tt]) (hv : find L t = some (.pointer p)) (hpk : ∀ w, Hp F w H → PeekC (hp w) p cs) (hn : cs.length = n)
  (A : List As) (hpost : Post (.agg cs.toArray) A) (hA : ∀ w, Hp F w H → Hp F w A) : At N (RetQ P fn F Post) L F H := fun a w hf hw => by
 obtain ⟨ad, rfl, hc⟩ := hpk w hw
 have h1 := run_loadCells_peek (P := P) hc
 have h2 : a.tmps.getD t undef = .pointer (some ad) := hf.eval (x := .tmp t) hv
 subst hn
 refine ⟨.agg cs.toArray, A, ?_, hpost, hA w hw, hf.defers⟩
 have h3 : a.tmps[t]?.getD undef = .pointer (some ad) := by simpa using h2
 simp [results, hr, h3, asAddr, loadVar, ha.h, hs.h, h1]
theorem gl_guard_no {o : Oper} {d j : Nat} {b q : Bool} {t : Nat} {oj : Oper} (hg : o.guard = some (j, b)) (hj : ops[j]? = some oj) (ht : oj.dst = some t) (hv : find L t = some (.bool q)) (hne : q = !b) (hdst : o.dst = some d) (hd : Nat.blt d N = true)
  (h : GL P N ops rest K E R ((d, undef) :: L) F H) : GL P N ops (o :: rest) K E R L F H := fun a w hf hw => by
 have h1 : a.tmps[t]? = some (.bool q) := hf.at_ _ _ hv
 have hw' : Region.wanted o (yielded ops a.tmps) = false := by
  subst hne
  simp [Region.wanted, hg, yielded, hj, ht, h1]
 refine wpList_skip hw' ?_
 rw [hdst]
 exact h _ _ (hf.put hd undef) hw
theorem gl_guard_un {o : Oper} {d j : Nat} {b : Bool} {t : Nat} {oj : Oper} (hg : o.guard = some (j, b)) (hj : ops[j]? = some oj) (ht : oj.dst = some t) (hv : find L t = some undef) (hdst : o.dst = some d) (hd : Nat.blt d N = true)
  (h : GL P N ops rest K E R ((d, undef) :: L) F H) : GL P N ops (o :: rest) K E R L F H := fun a w hf hw => by
 have h1 : a.tmps[t]? = some undef := hf.at_ _ _ hv
 have hw' : Region.wanted o (yielded ops a.tmps) = false := by
  simp [Region.wanted, hg, yielded, hj, ht, h1, undef]
 refine wpList_skip hw' ?_
 rw [hdst]
 exact h _ _ (hf.put hd undef) hw
theorem gl_guard_yes {d j : Nat} {b : Bool} {t : Nat} {op : Op} {oj : Oper} (hj : ops[j]? = some oj) (ht : oj.dst = some t) (hv : find L t = some (.bool b))
  (h : GL P N ops (⟨some d, op, ty, pos, af, none⟩ :: rest) K E R L F H) : GL P N ops (⟨some d, op, ty, pos, af, some (j, b)⟩ :: rest) K E R L F H := fun a w hf hw => by
 have h1 : a.tmps[t]? = some (.bool b) := hf.at_ _ _ hv
 have hw' : Region.wanted (⟨some d, op, ty, pos, af, some (j, b)⟩ : Oper) (yielded ops a.tmps) = true := by
  simp [Region.wanted, yielded, hj, ht, h1]
 have h2 := h a w hf hw
 unfold wpList at h2 ⊢
 rw [if_pos hw']
 rw [if_pos (by simp [Region.wanted])] at h2
 exact h2
end
end Go.Sl
namespace Go.Sl
open Go Go.RowKit
theorem OpF.eq {P : Program} {o : Oper} {L : Lcs} {v v' : Value} (s : OpF P o L v) (h : v = v') : OpF P o L v' := h ▸ s
theorem OpR.eq {P : Program} {o : Oper} {L : Lcs} {F : Snap} {H : List As} {v v' : Value} (s : OpR P o L F H v) (h : v = v') : OpR P o L F H v' := h ▸ s
theorem wrap_u8_in {z : Int} (h : 0 ≤ z ∧ z ≤ 255) : IntKind.u8.wrap z = z := by rw [IntKind.wrap_u8]; omega
theorem wrap_u64_in {z : Int} (h : 0 ≤ z ∧ z ≤ 18446744073709551615) : IntKind.u64.wrap z = z := by rw [IntKind.wrap_u64]; omega
theorem wrap_i64_in {z : Int} (h : -9223372036854775808 ≤ z ∧ z ≤ 9223372036854775807) : IntKind.i64.wrap z = z := by rw [IntKind.wrap_i64]; omega
section
variable {P : Program} {N : Nat} {K R : Kont} {E : List (Nat × Kont)} {L : Lcs} {F : Snap} {H : List As} {ops : Array Oper} {rest : List Oper} {ty : TypeId} {pos : String} {af : Array Edge} {dst : Option Nat} {gd : Option (Nat × Bool)}
variable {d : Nat} {x y : Operand} {t t' : TypeId} {k : IntKind} {m n : Int}
theorem s_add_in {z : Int} (hx : ev L x = some (.int k m)) (hy : ev L y = some (.int k n)) (hw : k.wrap (m + n) = z) : OpF P ⟨dst, .binOp .add t x y t', ty, pos, af, gd⟩ L (.int k z) := by
 subst hw; exact s_add_raw hx hy
theorem s_sub_in {z : Int} (hx : ev L x = some (.int k m)) (hy : ev L y = some (.int k n)) (hw : k.wrap (m - n) = z) : OpF P ⟨dst, .binOp .sub t x y t', ty, pos, af, gd⟩ L (.int k z) := by
 subst hw; exact s_sub_raw hx hy
theorem s_conv_keep {k' : IntKind} {dsrc : TypeDesc} {z : Int} [hs : HU P t dsrc] [ht : HU P t' (.int k')] (hx : ev L x = some (.int k m)) (hr : k'.wrap m = z) : OpF P ⟨dst, .convert t t' x, ty, pos, af, gd⟩ L (.int k' z) := by
 subst hr; exact s_conv_int hx
theorem s_conv_keep_u8 {dsrc : TypeDesc} [hs : HU P t dsrc] [ht : HU P t' (.int .u8)] (hx : ev L x = some (.int k m)) (hr : 0 ≤ m ∧ m ≤ 255) : OpF P ⟨dst, .convert t t' x, ty, pos, af, gd⟩ L (.int .u8 m) := s_conv_keep hx (wrap_u8_in hr)
theorem s_conv_keep_u64 {dsrc : TypeDesc} [hs : HU P t dsrc] [ht : HU P t' (.int .u64)] (hx : ev L x = some (.int k m)) (hr : 0 ≤ m ∧ m ≤ 18446744073709551615) : OpF P ⟨dst, .convert t t' x, ty, pos, af, gd⟩ L (.int .u64 m) := s_conv_keep hx (wrap_u64_in hr)
theorem s_conv_keep_i64 {dsrc : TypeDesc} [hs : HU P t dsrc] [ht : HU P t' (.int .i64)] (hx : ev L x = some (.int k m)) (hr : -9223372036854775808 ≤ m ∧ m ≤ 9223372036854775807) : OpF P ⟨dst, .convert t t' x, ty, pos, af, gd⟩ L (.int .i64 m) := s_conv_keep hx (wrap_i64_in hr)
theorem s_len_sl {a : Option Addr} {n c : Nat} {e : TypeId} [hu : HU P t (.slice e)] (hx : ev L x = some (.slice a n c)) : OpF P ⟨dst, .call ⟨.builtin .len, #[x], #[t]⟩, ty, pos, af, gd⟩ L (.int .i64 n) :=
 (fun ρ w hf => by simp [execOp, resolve, invoke, builtin, Builtin.len_, hf _ _ hx, run_underlying hu.h, goInt])
theorem s_extract {vs : Array Value} {i : Nat} {v : Value} (hx : ev L x = some (.tuple vs)) (hv : vs[i]? = some v) : OpF P ⟨dst, .extract x i, ty, pos, af, gd⟩ L v :=
 (fun ρ w hf => by simp [execOp, Instr.extract, hf _ _ hx, hv])
theorem s_makeFunc {fnn : Fn} {p q : List Operand} {ps qs : List Value} (hp : evs L p = some ps) (hq : evs L q = some qs) : OpF P ⟨dst, .makeFunc fnn p.toArray q.toArray, ty, pos, af, gd⟩ L (.func fnn ps.toArray qs.toArray) :=
 (fun ρ w hf => by
  have h1 := evs_eval hf hp
  have h2 := evs_eval hf hq
  simp [execOp, Instr.makeFunc, h1, h2])
theorem Hp.ownN {w : World} {a : Option Addr} {n c sz : Nat} {xs : List Value} {ys H' : List As} (hw : Hp F w H) (u : Upd H (.own (.slice a n c) t sz xs) ys H') :
  xs.length = n * sz ∧ n ≤ c ∧ RdS (hp w) a xs ∧ (0 < n → ∃ ad, a = some ad) := by
 obtain ⟨b2, h1, _⟩ := hw.focus u
 rcases h1 with ⟨hv, rfl, _⟩ | ⟨g, rfl, ⟨o, n', cap, pre, post, fr, hv, hg, ho, hl, hl2, hle, hfr⟩⟩
 ·injection hv with e1 e2 e3; subst e1 e2 e3
  exact ⟨by simp, Nat.le_refl _, RdS.nil _ _, fun h => absurd h (by omega)⟩
 ·injection hv with e1 e2 e3; subst e1 e2 e3
  refine ⟨hl, hle, fun _ => ⟨_, rfl, fun j u hu => ?_⟩, fun _ => ⟨_, rfl⟩⟩
  have e : (⟨g, o, none⟩ : Addr).add j = ⟨g, o + j, none⟩ := Addr.add_lit _ _ _
  rw [e]
  have hj : j < xs.length := (List.getElem?_eq_some_iff.1 hu).1
  simp only [Heap.cell?, hg]
  simp
  rw [List.getElem?_append_right (by omega), List.getElem?_append_left (by omega)]
  rw [show o + j - pre.length = j by omega]; exact hu
theorem Sat.own_rd {h : Heap} {bs : List Nat} {a : Option Addr} {n c sz : Nat} {xs : List Value} (hs : (As.own (.slice a n c) t sz xs).sat h bs) : RdS h a xs := by
 rcases hs with ⟨hv, rfl, _⟩ | ⟨g, rfl, ⟨o, n', cap, pre, post, fr, hv, hg, ho, hl, hl2, hle, hfr⟩⟩
 ·exact RdS.nil _ _
 ·injection hv with e1 e2 e3; subst e1 e2 e3
  refine fun _ => ⟨_, rfl, fun j u hu => ?_⟩
  have e : (⟨g, o, none⟩ : Addr).add j = ⟨g, o + j, none⟩ := Addr.add_lit _ _ _
  rw [e]
  have hj : j < xs.length := (List.getElem?_eq_some_iff.1 hu).1
  simp only [Heap.cell?, hg]
  simp
  rw [List.getElem?_append_right (by omega), List.getElem?_append_left (by omega)]
  rw [show o + j - pre.length = j by omega]; exact hu
theorem s_indexAddr_own {a : Option Addr} {len c e sz sz' : Nat} {xs : List Value} {te : TypeId} {H' : List As} [hu : HU P t (.slice e)] [hs : HS P e sz] (hx : ev L x = some (.slice a len c)) (u : Upd H (.own (.slice a len c) te sz' xs) [] H') (hy : ev L y = some (.int k n)) (hr : 0 ≤ n ∧ n < len) :
  OpR P ⟨dst, .indexAddr t x y, ty, pos, af, gd⟩ L F H (.pointer (addO a (n.toNat * sz))) := fun ρ w hf hw => by
 obtain ⟨_, _, _, h4⟩ := hw.ownN u
 obtain ⟨ad, rfl⟩ := h4 (by omega)
 simp [execOp, Instr.indexAt, asIntOf, hf _ _ hx, hf _ _ hy, run_underlying hu.h, hs.h, hr.1, hr.2, addO]
theorem peek_own {w : World} {a : Option Addr} {len c sz q : Nat} {xs cs : List Value} {te : TypeId} {ys H' : List As} (hw : Hp F w H) (u : Upd H (.own (.slice a len c) te sz xs) ys H') (hne : cs ≠ []) (hc : ∀ j u, cs[j]? = some u → xs[q + j]? = some u) : PeekC (hp w) (addO a q) cs :=
 (hw.ownN u).2.2.1.peek q hne hc
theorem peek_rd {w : World} {a : Option Addr} {q : Nat} {xs cs : List Value} (hw : Hp F w H) (r : RdS F.heap a xs) (hne : cs ≠ []) (hc : ∀ j u, cs[j]? = some u → xs[q + j]? = some u) : PeekC (hp w) (addO a q) cs :=
 (r.le hw.keep).peek q hne hc
theorem run_storeCells_fr (g o : Nat) (tt : TypeId) (fr : Nat × Nat) : ∀ (vs : List Value) (i : Nat) (cur : Array Value) (w : World), w.heap[g]? = some (.cells cur tt fr) → (fr.2 ≤ fr.1 ∨ cur.size ≤ fr.1) → o + i + vs.length ≤ cur.size → (∀ v ∈ vs, v.oneCell' = true) →
  (storeCells ⟨g, o, none⟩ vs i).run P w = .ok () (w.setRow g (cur.toList.take (o + i) ++ vs ++ cur.toList.drop (o + i + vs.length)).toArray)
 | [], i, cur, w, hg, _, _, _ => by
  simp only [storeCells, List.append_nil, List.length_nil, Nat.add_zero, List.take_append_drop, Array.toArray_toList]
  rw [setRow_self w g cur tt fr hg]
  rfl
 | v :: rest, i, cur, w, hg, hfr, hl, h1 => by
  have hi : o + i < cur.size := by simp at hl; omega
  have hadd : (⟨g, o, none⟩ : Addr).add i = ⟨g, o + i, none⟩ := Addr.add_lit _ _ _
  have hcell : w.cell? ⟨g, o + i, none⟩ = some cur[o + i] := by simp [World.cell?, hg, hi]
  have hfro : w.frozen? ⟨g, o + i, none⟩ = false := by
   simp only [World.frozen?, hg]
   rcases hfr with h | h <;> (simp; omega)
  have hst : (store ((⟨g, o, none⟩ : Addr).add i) v).run P w = .ok () (w.setRow g (cur.setIfInBounds (o + i) v)) := by
   rw [hadd, run_store P w _ v _ (h1 v (by simp)), hcell]
   simp [hfro, setCell_eq_setRow w g (o + i) cur tt fr v hg]
  have ih := run_storeCells_fr g o tt fr rest (i + 1) (cur.setIfInBounds (o + i) v) (w.setRow g (cur.setIfInBounds (o + i) v)) (setRow_heap w g cur _ tt _ hg) (by simpa using hfr) (by simp at hl ⊢; omega) (fun x hx => h1 x (by simp [hx]))
  simp only [storeCells, Sem.run_bind, hst, Result.andThen_ok, ih, setRow_setRow]
  congr 3
  have e := list_seg_step cur.toList (o + i) v rest (by simp at hl ⊢; omega)
  simpa [Array.toList_setIfInBounds, Nat.add_assoc] using e
def putx (xs : List Value) (q : Nat) (vs : List Value) : List Value := xs.take q ++ vs ++ xs.drop (q + vs.length)
theorem putx_mid (pre xs post vs : List Value) (q : Nat) (h : q + vs.length ≤ xs.length) :
  (pre ++ xs ++ post).take (pre.length + q) ++ vs ++ (pre ++ xs ++ post).drop (pre.length + q + vs.length) = pre ++ putx xs q vs ++ post := by
 unfold putx
 rw [List.append_assoc pre xs post, List.take_length_add_append, List.take_append_of_le_length (by omega)]
 rw [show pre.length + q + vs.length = pre.length + (q + vs.length) by omega, List.drop_length_add_append, List.drop_append_of_le_length (by omega)]
 simp
theorem gl_store_own {a : Option Addr} {len c sz q n : Nat} {xs : List Value} {te : TypeId} {v : Value} {H' : List As} [hs : HS P t n] (hx : ev L x = some (.pointer (addO a q))) (hy : ev L y = some v)
  (u : Upd H (.own (.slice a len c) te sz xs) [.own (.slice a len c) te sz (putx xs q v.cells.toList)] H') (hn : v.cells.size = n) (hpos : 0 < n) (h1 : ∀ q ∈ v.cells.toList, q.oneCell' = true) (hv : q + n ≤ xs.length)
  (h : GL P N ops rest K E R L F H') : GL P N ops (⟨none, .store t x y, ty, pos, af, none⟩ :: rest) K E R L F H :=
 gl_eff rfl rfl fun w0 w hf hw => by
  obtain ⟨b2, hsat, _, hlt, kk⟩ := hw.focus u
  rcases hsat with ⟨hv0, rfl, rfl⟩ | ⟨g, rfl, ⟨o, n', cap, pre, post, fr, hv0, hg, ho, hl, hl2, hle, hfr⟩⟩
  ·simp at hv; omega
  ·injection hv0 with e1 e2 e3; subst e1 e2 e3
   have hvl : v.cells.toList.length = n := by simpa using hn
   have hadd : (⟨g, o, none⟩ : Addr).add q = ⟨g, o + q, none⟩ := Addr.add_lit _ _ _
   have hst := run_storeCells_fr (P := P) g (o + q) te fr v.cells.toList 0 (pre ++ xs ++ post).toArray w hg (by simpa using hfr) (by simp [hn]; omega) h1
   simp only [Nat.add_zero, ← ho] at hst
   have hm := putx_mid pre xs post v.cells.toList q (by omega)
   rw [hm] at hst
   have hpl : (putx xs q v.cells.toList).length = xs.length := by
    simp only [putx, List.length_append, List.length_take, List.length_drop, hvl]; omega
   refine ⟨w.setRow g (pre ++ putx xs q v.cells.toList ++ post).toArray, H', ?_, ?_, h⟩
   ·simp only [execOp, Instr.storeAt, Instr.sureAddr, hf.eval hx, hf.eval hy, addO, hadd, storeVar]
    simp [hs.h, hn]
    rw [ho] at hst
    simp [hst]
   ·refine kk _ [g] rfl rfl rfl (fun c hc hcb => setRow_other w g c _ (by simpa using hcb)) ⟨[g], [], rfl, .inr ⟨g, rfl, ⟨o, len, c, pre, post, fr, rfl, setRow_heap w g _ _ te _ hg, ho, by rw [hpl]; exact hl, ?_, hle, ?_⟩⟩, rfl⟩ (by simp) (fun c hc => .inl hc)
    ·simp only [List.length_append, hpl]; simpa using hl2
    ·simp only [List.length_append, hpl] at hfr ⊢; exact hfr
def Src (h : Heap) (a : Option Addr) (news : List Value) : Prop := RdS h a news
theorem gl_append {d : Nat} {s x : Operand} {a b : Option Addr} {n c m mc sz : Nat} {xs news : List Value} {e : TypeId} {H' : Option Addr → Nat → List As} {z : Value} {i : TypeInfo} [hu : HU P t (.slice e)] [hz : HZ P e z] [hi : HI P e i] [hs : HS P e sz]
  (hsx : ev L s = some (.slice a n c)) (hxx : ev L x = some (.slice b m mc))
  (u : ∀ a' c', Upd H (.own (.slice a n c) e sz xs) [.own (.slice a' (n + m) c') e sz (xs ++ news)] (H' a' c'))
  (hsrc : ∀ w, Hp F w H → Src (hp w) b news) (hl : news.length = m * sz) (hsz : Nat.blt 0 sz = true) (hzs : z.cells.size = sz) (h1 : ∀ q ∈ news, q.oneCell' = true)
  (hbytes : (n + m) * i.bytes ≤ 140737488355328) (h63 : n + m ≤ 9223372036854775807) (hd : Nat.blt d N = true)
  (h : ∀ a' c', n + m ≤ c' → GL P N ops rest K E R ((d, .slice a' (n + m) c') :: L) F (H' a' c')) :
  GL P N ops (⟨some d, .call ⟨.builtin .append, #[s, x], #[t, t]⟩, ty, pos, af, none⟩ :: rest) K E R L F H :=
 gl_run rfl rfl hd fun w0 w hf hw => by
  have hsz' : 0 < sz := by simpa [Nat.blt_eq] using hsz
  have hinfo := hi.h
  have hisz : i.size = sz := by
   have h2 := hs.h w
   simp [sizeOf, typeInfo, hinfo] at h2; exact h2
  have hiz : i.zero = some z := by
   have h2 := hz.h w
   simp only [zeroValue, Sem.run_bind, typeInfo] at h2
   cases hq : i.zero with
   | none => simp [hinfo, hq] at h2
   | some z' => simp [hinfo, hq] at h2; rw [h2]
  have hexec : ∀ vv w', (Builtin.append_ #[t, t] ty #[.slice a n c, .slice b m mc]).run P w = .ok vv w' →
    (execOp w0.eval ⟨some d, .call ⟨.builtin .append, #[s, x], #[t, t]⟩, ty, pos, af, none⟩).run P w = .ok (.value vv) w' := fun vv w' hrun => by
   simp [execOp, resolve, invoke, builtin, hf.eval hsx, hf.eval hxx, hrun]
  obtain ⟨b2, hsat, _, hlt, kk0⟩ := hw.focus (u a c)
  by_cases hm0 : m = 0
  ·subst hm0
   have hnil : news = [] := List.eq_nil_of_length_eq_zero (by simpa using hl)
   subst hnil
   refine ⟨.slice a (n + 0) c, w, H' a c, hexec _ _ ?_, ?_, h a c ?_⟩
   ·have hle : n ≤ c := (hw.ownN (u a c)).2.1
    have hfc : (Builtin.firstCells sz 0 (.slice b 0 mc)).run P w = .ok #[] w := by cases b <;> simp [Builtin.firstCells, loadCells, loadCellsFrom]
    cases a <;> simp [Builtin.append_, run_underlying hu.h, hs.h, Builtin.lenOf, hle, hfc, storeCells]
   ·refine kk0 w b2 rfl rfl rfl (fun _ _ _ => rfl) ⟨b2, [], by simp, by simpa using hsat, rfl⟩ (by assumption) (fun _ hb => .inl hb)
   ·exact (hw.ownN (u a c)).2.1
  ·have hne : news ≠ [] := by
    rintro rfl
    have : 0 < m * sz := Nat.mul_pos (by omega) hsz'
    simp at hl; omega
   obtain ⟨ad, rfl, hcells⟩ := hsrc w hw hne
   have hcells' : ∀ j u, news[j]? = some u → w.cell? (ad.add j) = some u := hcells
   have grown : ∀ (old : Nat), old < n + m → (∀ w', w' = w.drew.alloc (.cells (xs.toArray ++ news.toArray ++ Builtin.zeroCells z.cells (grownCap w (n + m) old e - (n + m))) e) → xs.length = n * sz →
     Hp F w' (H' (some ⟨w.heap.size, 0, none⟩) (grownCap w (n + m) old e)) ∧ n + m ≤ grownCap w (n + m) old e) := fun old ho w' hw' hxl => by
    have hge := grownCap_ge w (n + m) old e
    subst hw'
    obtain ⟨b3, hsat3, hnd3, hlt3, kk3⟩ := hw.focus (u (some ⟨w.heap.size, 0, none⟩) (grownCap w (n + m) old e))
    refine ⟨kk3 _ [w.heap.size] rfl rfl rfl (fun q hq _ => Go.heap_alloc_old w.drew _ hq) ⟨[w.heap.size], [], rfl, .inr ⟨w.heap.size, rfl, ⟨0, n + m, grownCap w (n + m) old e, [], (Builtin.zeroCells z.cells (grownCap w (n + m) old e - (n + m))).toList, (0, 0), rfl, ?_, rfl, ?_, ?_, hge, .inl (Nat.le_refl _)⟩⟩, rfl⟩ (by simp) (fun q hq => .inr (by simp at hq; omega)), hge⟩
    ·have := Go.heap_alloc_new w.drew (.cells (xs.toArray ++ news.toArray ++ Builtin.zeroCells z.cells (grownCap w (n + m) old e - (n + m))) e)
     show (w.drew.alloc _).heap[w.drew.heap.size]? = _
     rw [this]
     congr 2
     apply Array.toList_inj.1; simp
    ·rw [List.length_append, hxl, hl, Nat.add_mul]
    ·simp only [List.length_append, hxl, hl, Array.length_toList, size_zeroCells, hzs, ← Nat.add_mul]
     apply Nat.mul_le_mul_right; omega
   rcases hsat with ⟨hv0, rfl, rfl⟩ | ⟨g, rfl, ⟨o, n', cap, pre, post, fr, hv0, hg, ho, hxl, hl2, hle, hfr⟩⟩
   ·injection hv0 with e1 e2 e3; subst e1 e2 e3
    have hr := run_append_nil (P := P) w t ty e i z hu.h hinfo hiz ad m mc news (by rw [hisz]; exact hl) hcells' (by omega) (by omega) (by rw [Nat.zero_add] at hbytes; omega)
    have hgr := grown 0 (by omega) _ rfl (by simp)
    simp only [Nat.zero_add] at hgr
    refine ⟨_, _, H' (some ⟨w.heap.size, 0, none⟩) (grownCap w m 0 e), hexec _ _ hr, ?_, ?_⟩
    ·have := hgr.1
     simpa using this
    ·have := h (some ⟨w.heap.size, 0, none⟩) (grownCap w m 0 e) (by simpa using hgr.2)
     simpa using this
   ·injection hv0 with e1 e2 e3; subst e1 e2 e3
    by_cases hroom : n + m ≤ c
    ·have hadd : (⟨g, o, none⟩ : Addr).add (n * sz) = ⟨g, o + n * sz, none⟩ := Addr.add_lit _ _ _
     have hpost : news.length ≤ post.length := by
      rw [List.length_append, hxl] at hl2
      have : (n + m) * sz ≤ c * sz := Nat.mul_le_mul_right _ hroom
      rw [Nat.add_mul] at this; omega
     have hst := run_storeCells_fr (P := P) g (o + n * sz) e fr news 0 (pre ++ xs ++ post).toArray w hg (by simpa using hfr) (by simp; omega) h1
     have hfirst := run_firstCells_some (P := P) w sz m ad m mc news hl hcells'
     have hnew : (pre ++ xs ++ post).take (o + n * sz) ++ news ++ (pre ++ xs ++ post).drop (o + n * sz + news.length) = pre ++ (xs ++ news) ++ post.drop news.length := by
      rw [← hxl, ← ho, show pre.length + xs.length = (pre ++ xs).length by simp, List.take_left, List.drop_append, List.drop_of_length_le (by simp)]
      simp
     simp only [Nat.add_zero] at hst
     rw [hnew] at hst
     refine ⟨.slice (some ⟨g, o, none⟩) (n + m) c, w.setRow g (pre ++ (xs ++ news) ++ post.drop news.length).toArray, H' (some ⟨g, o, none⟩) c, hexec _ _ ?_, ?_, h _ c hroom⟩
     ·simp [Builtin.append_, run_underlying hu.h, hs.h, Builtin.lenOf, hroom, hfirst, hadd]
      simp at hst
      simp [hst]
     ·obtain ⟨b3, hsat3, hnd3, hlt3, kk3⟩ := hw.focus (u (some ⟨g, o, none⟩) c)
      refine kk0 _ [g] rfl rfl rfl (fun q hq hqb => setRow_other w g q _ (by simpa using hqb)) ⟨[g], [], rfl, .inr ⟨g, rfl, ⟨o, n + m, c, pre, post.drop news.length, fr, rfl, setRow_heap w g _ _ e _ hg, ho, ?_, ?_, hroom, ?_⟩⟩, rfl⟩ (by simp) (fun q hq => .inl hq)
      ·rw [List.length_append, hxl, hl, Nat.add_mul]
      ·simp only [List.length_append, List.length_drop] at hl2 ⊢; omega
      ·simp only [List.length_append, List.length_drop] at hfr ⊢
       rcases hfr with h2 | h2
       ·exact .inl h2
       ·exact .inr (by omega)
    ·have hxs : ∀ j v, xs[j]? = some v → w.cell? ((⟨g, o, none⟩ : Addr).add j) = some v := fun j v hj => by
      have hx0 : xs ≠ [] := by rintro rfl; simp at hj
      obtain ⟨ad2, e2, hc2⟩ := (hw.ownN (u (some ⟨g, o, none⟩) c)).2.2.1 hx0
      injection e2 with e2; subst e2
      exact hc2 j v hj
     have hr := run_append_grow (P := P) w t ty e i z hu.h hinfo hiz ⟨g, o, none⟩ n c xs (by rw [hisz]; exact hxl) hxs ad m mc news (by rw [hisz]; exact hl) hcells' (by omega) (by omega) (growslice_fits (by omega) hbytes)
     have hgr := grown c (by omega) _ rfl hxl
     exact ⟨_, _, H' (some ⟨w.heap.size, 0, none⟩) (grownCap w (n + m) c e), hexec _ _ hr, hgr.1, h _ _ hgr.2⟩
theorem s_pick_t {c a b : Operand} {v : Value} (hc : ev L c = some (.bool true)) (ha : ev L a = some v) : OpF P ⟨dst, .pick c a b, ty, pos, af, gd⟩ L v :=
 (fun ρ w hf => by simp [execOp, asBool, hf _ _ hc, hf _ _ ha])
theorem s_pick_f {c a b : Operand} {v : Value} (hc : ev L c = some (.bool false)) (hb : ev L b = some v) : OpF P ⟨dst, .pick c a b, ty, pos, af, gd⟩ L v :=
 (fun ρ w hf => by simp [execOp, asBool, hf _ _ hc, hf _ _ hb])
end
end Go.Sl
namespace Go.Sl
open Go Go.RowKit
theorem Hp.addNil {F : Snap} {w : World} {H : List As} (h : Hp F w H) (t : TypeId) (sz : Nat) : Hp F w (.own (.slice none 0 0) t sz [] :: H) := by
 obtain ⟨bs, hs, hn, hf⟩ := h.own
 exact ⟨h.os, h.tape, h.output, h.keep, bs, ⟨[], bs, rfl, .inl ⟨rfl, rfl, rfl⟩, hs⟩, hn, hf⟩
def bytesV (l : List UInt8) : List Value := l.map fun b => .int .u8 (b.toNat : Nat)
def cutA (a : Option Addr) (c lo sz : Nat) : Option Addr := if c = lo then a else a.map (·.add (lo * sz))
section
variable {P : Program} {N : Nat} {K R : Kont} {E : List (Nat × Kont)} {L : Lcs} {F : Snap} {H : List As} {ops : Array Oper} {rest : List Oper} {ty : TypeId} {pos : String} {af : Array Edge} {dst : Option Nat} {gd : Option (Nat × Bool)}
variable {d m' : Nat} {x y : Operand} {t t' : TypeId} {k : IntKind} {m n : Int}
theorem g_own_nil (e : TypeId) (sz : Nat) {c : Code} (h : G P N c K E R L F (.own (.slice none 0 0) e sz [] :: H)) : G P N c K E R L F H := fun a w hf hw => h a w hf (hw.addNil e sz)
theorem gl_pull {H' : List As} {rest : List Oper} (hh : ∀ w, Hp F w H → Hp F w H') (h : GL P N ops rest K E R L F H') : GL P N ops rest K E R L F H := fun a w hf hw => h a w hf (hh w hw)
theorem g_ownN {a : Option Addr} {n c sz : Nat} {xs : List Value} {te : TypeId} {H' : List As} {cc : Code} (u : Upd H (.own (.slice a n c) te sz xs) [] H') (h : xs.length = n * sz → n ≤ c → (0 < n → ∃ ad, a = some ad) → G P N cc K E R L F H) : G P N cc K E R L F H := fun ac w hf hw =>
 have q := hw.ownN u
 h q.1 q.2.1 q.2.2.2 ac w hf hw
theorem own_alloc {w : World} {e : TypeId} {sz n c : Nat} {xs post : List Value} {fr : Nat × Nat} (hw : Hp F w H) (hl : xs.length = n * sz) (hl2 : (xs ++ post).length = c * sz) (hc : n ≤ c) (hfr : fr.2 ≤ fr.1 ∨ (xs ++ post).length ≤ fr.1) {w' : World}
  (hw' : w' = w.alloc (.cells (xs ++ post).toArray e fr)) : Hp F w' (.own (.slice (some ⟨w.heap.size, 0, none⟩) n c) e sz xs :: H) := by
 subst hw'
 have h := hw.alloc (.cells (xs ++ post).toArray e fr)
 obtain ⟨bs, ⟨b1, b2, e1, ⟨e2, h2⟩, h3⟩, hn, hf⟩ := h.own
 subst e1 e2
 exact ⟨h.os, h.tape, h.output, h.keep, _, ⟨[w.heap.size], b2, rfl, .inr ⟨w.heap.size, rfl, ⟨0, n, c, [], post, fr, rfl, by simpa using h2, rfl, hl, Nat.le_of_eq hl2.symm, hc, by simpa using hfr⟩⟩, h3⟩, hn, hf⟩
theorem gl_buildSlice {ps : List (Nat × Operand)} {vs : List (Nat × Value)} {e : TypeId} {z : Value} {sz len : Nat} {cells : Array Value} [hu : HU P t (.slice e)] [hz : HZ P e z] [hs : HS P e sz] (hx : evP L ps = some vs) (hsmall : Nat.ble (len * sz) 16777216 = true) (hpos : Nat.blt 0 (len * sz) = true)
  (hfill : Instr.fill (fun i => some (i * sz, sz)) ((Array.range (len * sz)).map (z.cells[· % z.cells.size]!)) vs = some cells) (hcs : cells.size = len * sz) (hd : Nat.blt d N = true)
  (h : ∀ a, (∃ ad, a = some ad) → GL P N ops rest K E R ((d, .slice a len len) :: L) F (.own (.slice a len len) e sz cells.toList :: H)) : GL P N ops (⟨some d, .buildSlice t len ps.toArray, ty, pos, af, none⟩ :: rest) K E R L F H :=
 gl_run rfl rfl hd fun w0 w hf hw => by
  have e1 := evP_eval hf.agr hx
  have e2 : ¬ (len * sz > 2 ^ 24) := by
   have : len * sz ≤ 16777216 := by simpa [Nat.ble_eq] using hsmall
   omega
  have e3 : len * sz ≠ 0 := by
   have : 0 < len * sz := by simpa [Nat.blt_eq] using hpos
   omega
  refine ⟨.slice (some ⟨w.heap.size, 0, none⟩) len len, w.alloc (.cells cells e), _, ?_, ?_, h _ ⟨_, rfl⟩⟩
  ·simp only [execOp, List.map_toArray]
   rw [e1]
   simp only [Instr.buildSlice, Sem.run_bind, run_underlying hu.h, hs.h, Result.andThen_ok, if_neg e2, if_neg e3, hz.h, Sem.run_pure, hfill]
   simp [newRow]
  ·exact own_alloc (post := []) (fr := (0, 0)) hw (by simpa using hcs) (by simpa using hcs) (Nat.le_refl _) (.inl (Nat.le_refl _)) (by simp)
theorem gl_buildSliceU {ps : List (Nat × Operand)} {vs : List (Nat × Value)} {e : TypeId} {z : Value} {sz len : Nat} {xs : List Value} [hu : HU P t (.slice e)] [hz : HZ P e z] [hs : HS P e sz] (hx : evP L ps = some vs) (hsmall : Nat.ble (len * sz) 16777216 = true) (hpos : Nat.blt 0 (len * sz) = true)
  (hvs : vs = ((vs.map (·.2)).zipIdx 0).map fun x => (x.2, x.1)) (hall : (vs.all fun p => Nat.beq p.2.cells.size sz) = true) (hlen : vs.length = len) (hxs : (vs.map (·.2)).flatMap (fun v => v.cells.toList) = xs) (hd : Nat.blt d N = true)
  (h : ∀ a, (∃ ad, a = some ad) → GL P N ops rest K E R ((d, .slice a len len) :: L) F (.own (.slice a len len) e sz xs :: H)) : GL P N ops (⟨some d, .buildSlice t len ps.toArray, ty, pos, af, none⟩ :: rest) K E R L F H := by
 have hp : 0 < len * sz := by simpa [Nat.blt_eq] using hpos
 have hsz : 0 < sz := Nat.pos_of_mul_pos_left hp
 have hal : ∀ v ∈ vs.map (·.2), v.cells.size = sz := fun v hv => by
  obtain ⟨p, hp, rfl⟩ := List.mem_map.1 hv
  exact Nat.eq_of_beq_eq_true (List.all_eq_true.1 hall p hp)
 have hfl : (vs.map (·.2)).length * sz = ((Array.range (len * sz)).map (z.cells[· % z.cells.size]!)).size := by simp [hlen]
 have hf := Great.fill_whole hsz (vs.map (·.2)) ((Array.range (len * sz)).map (z.cells[· % z.cells.size]!)) hal hfl
 rw [← hvs] at hf
 obtain ⟨r, hr, hrs, _⟩ := Great.fill_dense hsz (vs.map (·.2)) 0 ((Array.range (len * sz)).map (z.cells[· % z.cells.size]!)) hal (by rw [Nat.zero_add, hfl]; exact Nat.le_refl _)
 rw [← hvs, hf] at hr
 injection hr with hr
 rw [← hr] at hrs
 refine gl_buildSlice (cells := ((vs.map (·.2)).flatMap fun v => v.cells.toList).toArray) hx hsmall hpos hf (by rw [hrs]; simp) hd (fun a ha => ?_)
 subst hxs
 exact h a ha
theorem gl_bytes {l : List UInt8} {e : TypeId} [hs : HU P t .string] [ht : HU P t' (.slice e)] [he : HU P e (.int .u8)] (hx : ev L x = some (B l)) (hd : Nat.blt d N = true)
  (h : ∀ a c, l.length ≤ c → GL P N ops rest K E R ((d, .slice a l.length c) :: L) F (.own (.slice a l.length c) e 1 (bytesV l) :: H)) : GL P N ops (⟨some d, .convert t t' x, ty, pos, af, none⟩ :: rest) K E R L F H :=
 gl_run rfl rfl hd fun w0 w hf hw => by
  have hr := run_bytes_of_string (P := P) w t t' e ⟨l.toArray⟩ hs.h ht.h he.h
  have hsz : (⟨l.toArray⟩ : ByteArray).size = l.length := by simp [ByteArray.size]
  rw [hsz] at hr
  have hge := grownCap_ge w l.length 0 e
  have hrow : bytesRow ⟨l.toArray⟩ (grownCap w l.length 0 e) = (bytesV l ++ List.replicate (grownCap w l.length 0 e - l.length) (Value.int .u8 0)).toArray := by
   apply Array.toList_inj.1
   simp [bytesRow, bytesV, hsz]
  refine ⟨_, _, _, by simp only [execOp, hf.eval hx]; rw [Sem.run_bind, hr]; rfl, ?_, h _ _ hge⟩
  have hw2 : Hp F w.drew H := hw.drew'
  refine own_alloc (w := w.drew) (post := List.replicate (grownCap w l.length 0 e - l.length) (.int .u8 0)) (fr := ((bytesRow ⟨l.toArray⟩ (grownCap w l.length 0 e)).size, (bytesRow ⟨l.toArray⟩ (grownCap w l.length 0 e)).size + 1)) hw2 (by simp [bytesV]) (by simp [bytesV]; omega) hge (.inr (by rw [hrow]; simp)) ?_
  rw [hrow]
theorem foldl_bytes (l : List UInt8) : ((l.map fun b => ((b.toNat : Nat) : Int)).foldl (fun r n => r.push (UInt8.ofNat n.toNat)) ByteArray.empty) = ⟨l.toArray⟩ := by
 rw [foldl_push_byteCells]
 apply ByteArray.ext
 simp
theorem s_string {l : List UInt8} {a : Option Addr} {n c : Nat} {e : TypeId} [hs : HU P t (.slice e)] [ht : HU P t' .string] [he : HU P e (.int .u8)] (hx : ev L x = some (.slice a n c)) (hn : n = l.length) (hsrc : ∀ w, Hp F w H → RdS (hp w) a (bytesV l)) :
  OpR P ⟨dst, .convert t t' x, ty, pos, af, gd⟩ L F H (B l) := fun ρ w hf hw => by
 have h0 : (Conv.bytesToString (.slice a n c)).run P w = .ok (B l) w := by
  by_cases hl : l = []
  ·subst hl
   subst hn
   cases a with
   | none => rfl
   | some ad =>
    have := run_bytesToString (P := P) w ad 0 c [] (by simp [loadCells, loadCellsFrom])
    exact this
  ·obtain ⟨ad, rfl, hc⟩ := hsrc w hw (by simpa [bytesV] using hl)
   have h1 := run_loadCells_peek (P := P) (w := w) hc
   have h2 : (bytesV l).toArray = ((l.map fun b => ((b.toNat : Nat) : Int)).map (Value.int .u8)).toArray := by simp [bytesV]
   rw [h2] at h1
   have h4 : (bytesV l).length = l.length := by simp [bytesV]
   rw [h4] at h1
   have := run_bytesToString (P := P) w ad n c (l.map fun b => ((b.toNat : Nat) : Int)) (by rw [hn]; exact h1)
   rw [this, foldl_bytes]
 simp only [execOp, hf _ _ hx]
 have h3 : (convert t t' (.slice a n c)).run P w = .ok (B l) w := by
  cases a <;> simp [convert, run_underlying hs.h, run_underlying ht.h, run_underlying he.h, h0]
 rw [Sem.run_bind, h3]; rfl
theorem s_slice_sl {a : Option Addr} {n c e sz : Nat} {lo hi : Option Operand} {i j : Int} [hu : HU P t (.slice e)] [hs : HS P e sz] (hx : ev L x = some (.slice a n c)) (hlo : bnd L lo 0 = some i) (hhi : bnd L hi n = some j) (hr : 0 ≤ i ∧ i ≤ j ∧ j ≤ c) :
  OpF P ⟨dst, .slice t x lo hi none, ty, pos, af, gd⟩ L (.slice (cutA a c i.toNat sz) (j.toNat - i.toNat) (c - i.toNat)) :=
 (fun ρ w hf => by
  have hb : ∀ (o : Operand) (q : Int), (match ev L o with | some (.int _ n) => some n | _ => none) = some q → ∃ kk, ρ o = .int kk q := by
   intro o q hq
   cases e : ev L o with
   | none => rw [e] at hq; cases hq
   | some u => rw [e] at hq; cases u <;> simp at hq; subst hq; exact ⟨_, hf _ _ e⟩
  have key : (Instr.sliceBounds true n c (lo.map ρ) (hi.map ρ) none).run P w = .ok (i.toNat, j.toNat, c) w := by
   cases lo with
   | none =>
    simp only [bnd, Option.some.injEq] at hlo; subst hlo
    cases hi with
    | none =>
     simp only [bnd, Option.some.injEq] at hhi; subst hhi
     simp [Instr.sliceBounds]
    | some o =>
     obtain ⟨kk, ek⟩ := hb o j hhi
     simp [Instr.sliceBounds, Instr.sliceBound, ek, asIntOf, hr.2.2, show 0 ≤ j from by omega]
   | some o2 =>
    obtain ⟨kk2, ek2⟩ := hb o2 i hlo
    cases hi with
    | none =>
     simp only [bnd, Option.some.injEq] at hhi; subst hhi
     simp [Instr.sliceBounds, Instr.sliceBound, ek2, asIntOf, hr.1, hr.2.1]
    | some o =>
     obtain ⟨kk, ek⟩ := hb o j hhi
     have h5 : ¬ max j 0 < i := by omega
     simp [Instr.sliceBounds, Instr.sliceBound, ek, ek2, asIntOf, hr.1, hr.2.2, h5, show 0 ≤ j from by omega]
  have h0 : (Instr.slice t (.slice a n c) (lo.map ρ) (hi.map ρ) none).run P w = .ok (.slice (cutA a c i.toNat sz) (j.toNat - i.toNat) (c - i.toNat)) w := by
   simp only [Instr.slice, Sem.run_bind, run_underlying hu.h, Result.andThen_ok, key, hs.h, Sem.run_pure, cutA]
  have h1 : (Instr.sliceAt t (.slice a n c) (lo.map ρ) (hi.map ρ) none).run P w = .ok (.slice (cutA a c i.toNat sz) (j.toNat - i.toNat) (c - i.toNat)) w := by
   simp only [Instr.sliceAt, Sem.run_bind, run_underlying hu.h, Result.andThen_ok, h0]
  simp only [execOp, hf _ _ hx]
  rw [show (none : Option Operand).map ρ = none from rfl, Sem.run_bind, h1]; rfl)
theorem s_index_arrS {cs : Array Value} {len e : Nat} {v : Value} (i : Nat) [hu : HU P t (.array len e)] [hs : HS P e 1] [ha : HA P e false] (hx : ev L x = some (.agg cs)) (hy : ev L y = some (.int k n)) (hn : n = i) (hi : i < len) (hv : cs[i]? = some v) : OpF P ⟨dst, .index t x y, ty, pos, af, gd⟩ L v :=
 (fun ρ w hf => by
  subst hn
  simp [execOp, Instr.index, asIntOf, hf _ _ hx, hf _ _ hy, run_underlying hu.h, hi, hs.h, part, ha.h, hv])
theorem Sat.get {h : Heap} {H H' ys : List As} {x : As} {bs : List Nat} (hs : Sat h H bs) (u : Upd H x ys H') : ∃ b2, x.sat h b2 := by
 obtain ⟨b1, b2, b3, _, hx, _⟩ := Upd.sat u hs
 exact ⟨b2, hx⟩
theorem Sat.rd {h : Heap} {H H' : List As} {bs : List Nat} {a : Option Addr} {n c sz : Nat} {xs : List Value} {te : TypeId} (hs : Sat h H bs) (u : Upd H (.own (.slice a n c) te sz xs) [] H') : RdS h a xs := by
 obtain ⟨b2, hx⟩ := Sat.get hs u
 exact Sat.own_rd hx
theorem rd_blk {h : Heap} {b : Nat} {cs : Array Value} {te : TypeId} {fr : Nat × Nat} {bs : List Nat} (hs : (As.blk b (.cells cs te fr)).sat h bs) (xs : List Value) (hx : ∀ (j : Nat) (u : Value), xs[j]? = some u → cs[j]? = some u) : RdS h (some ⟨b, 0, none⟩) xs := fun _ => by
 obtain ⟨rfl, hb⟩ := hs
 refine ⟨_, rfl, fun j u hu => ?_⟩
 have e : (⟨b, 0, none⟩ : Addr).add j = ⟨b, j, none⟩ := by rw [Addr.add_lit]; simp
 rw [e]
 simp [Heap.cell?, hb, hx j u hu]
theorem Hp.rdBlk {w : World} {b : Nat} {cs : Array Value} {te : TypeId} {fr : Nat × Nat} {ys H' : List As} (hw : Hp F w H) (u : Upd H (.blk b (.cells cs te fr)) ys H') (xs : List Value) (hx : ∀ (j : Nat) (u : Value), xs[j]? = some u → cs[j]? = some u) : RdS (hp w) (some ⟨b, 0, none⟩) xs := by
 obtain ⟨b2, h1, _⟩ := hw.focus u
 exact rd_blk h1 xs hx
end
end Go.Sl
namespace Go.Sl
open Go Go.RowKit
section
variable {P : Program} {ops : Array Oper} {Q : Exit → Act → World → Prop} {S : World → Prop} {nd : Array Bool → Nat → Bool}
def anyN (P : Program) (ops : Array Oper) (Q : Exit → Act → World → Prop) (S : World → Prop) (nd : Array Bool → Nat → Bool) : Nat → Array Bool → Act → World → Prop
 | 0, listed, a, w => Region.ready .any ops listed = [] ∧ Q .normal a w
 | fuel + 1, listed, a, w =>
  (Region.ready .any ops listed = [] → Q .normal a w) ∧
  ∀ i ∈ Region.ready .any ops listed, wpOp P ops Q i (fun a' w' => (nd listed i = true → S w → S w') ∧ anyN P ops Q S nd fuel (listed.setIfInBounds i true) a' w') a w
theorem any_of_anyN : ∀ (fuel : Nat) (listed : Array Bool) (a : Act) (w : World), anyN P ops Q S nd fuel listed a w → wpAny P .any ops Q fuel listed a w
 | 0, _, _, _, h => h
 | fuel + 1, _, _, _, h => ⟨h.1, fun i hi => wpOp_mono (fun a' w' h' => any_of_anyN fuel _ a' w' h'.2) (h.2 i hi)⟩
theorem anyN_first {T : World → Prop} {i : Nat} {oi : Oper} {v : Value} (hi : ops[i]? = some oi) (hsel : ∀ (j : Nat) (o : Oper) cs b, ops[j]? = some o → o.op ≠ .select cs b)
  (hQ : ∀ c a w, Q (.panic c) (a.put oi.dst v) w → Q (.panic c) a w) (hnd : ∀ listed j, nd (listed.setIfInBounds i true) j = nd listed j) :
  ∀ (fuel : Nat) (listed : Array Bool) (a : Act) (w : World),
   (∀ j oj, ops[j]? = some oj → j ≠ i → listed.getD j true = false → (∀ e ∈ oj.after, Region.binds .any e = true → e.on ≠ i) → oi.apart ops oj = true ∧ ∀ w w', T w → T w') →
   i ∈ Region.ready .any ops listed → YieldsIf P ops T oi v a → T w →
   anyN P ops Q S nd fuel (listed.setIfInBounds i true) (a.put oi.dst v) w → anyN P ops Q S nd (fuel + 1) listed a w := by
 intro fuel
 induction fuel with
 | zero =>
  intro listed a w _ hr hy hT H
  refine ⟨fun h => (by rw [h] at hr; cases hr), fun j hj => ?_⟩
  by_cases hji : j = i
  ·subst hji; exact hy.wpOp hi hT ⟨fun _ h => h, H⟩
  ·have := ready_mono hj hji
   rw [H.1] at this
   cases this
 | succ fuel ih =>
  intro listed a w hfree hr hy hT H
  refine ⟨fun h => (by rw [h] at hr; cases hr), fun j hj => ?_⟩
  by_cases hji : j = i
  ·subst hji; exact hy.wpOp hi hT ⟨fun _ h => h, H⟩
  ·have h1 := H.2 j (ready_mono hj hji)
   obtain ⟨hjun, oj, hoj, hall⟩ := mem_ready.1 hj
   have hnot : ∀ e ∈ oj.after, Region.binds .any e = true → e.on ≠ i := fun e he hb heq => by
    have h1 := hall e he hb
    have h0 := (mem_ready.1 hr).1
    rw [heq] at h1
    rcases Nat.lt_or_ge i listed.size with h' | h'
    ·simp [h'] at h0 h1; rw [h0] at h1; cases h1
    ·simp [Array.getElem?_eq_none h'] at h1
   have hap := hfree j oj hoj hji hjun hnot
   have h2 := wpOp_putIf hoj hap.1 (fun cs b => hsel i oi cs b hi) (fun cs b => hsel j oj cs b hoj) hQ hy h1
   have hfree' : ∀ k ok, ops[k]? = some ok → k ≠ i → (listed.setIfInBounds j true).getD k true = false →
     (∀ e ∈ ok.after, Region.binds .any e = true → e.on ≠ i) → oi.apart ops ok = true ∧ ∀ w w', T w → T w' := fun k ok hk hki hun hno => by
    refine hfree k ok hk hki ?_ hno
    by_cases hjk : j = k
    ·subst hjk; exact hjun
    ·rw [getD_set_ne true hjk] at hun; exact hun
   refine wpOp_mono (fun a' w' h3 => ⟨fun hn => h3.2.1 (by rw [hnd]; exact hn), ih (listed.setIfInBounds j true) a' w' hfree' (ready_mono hr (Ne.symm hji)) h3.1 (hap.2 w w' hT) ?_⟩) h2
   rw [Array.setIfInBounds_comm _ _ hji]
   exact h3.2.2
theorem anyN_first2 {T : World → Prop} {i : Nat} {oi : Oper} {v : Value} {M : Nat → Nat → Bool} (hi : ops[i]? = some oi) (hsel : ∀ (j : Nat) (o : Oper) cs b, ops[j]? = some o → o.op ≠ .select cs b)
  (hQ : ∀ c a w, Q (.panic c) (a.put oi.dst v) w → Q (.panic c) a w) (hnd : ∀ listed j, nd (listed.setIfInBounds i true) j = nd listed j)
  (hM : ∀ j oj i, ops[j]? = some oj → M j i = true → ∃ e ∈ oj.after, Region.binds .any e = true ∧ (e.on = i ∨ M e.on i = true)) :
  ∀ (fuel : Nat) (listed : Array Bool) (a : Act) (w : World),
   (∀ k, listed.getD k false = true → ∀ i, M k i = true → listed.getD i false = true) →
   (∀ j oj, ops[j]? = some oj → j ≠ i → listed.getD j true = false → M j i = false → (∀ e ∈ oj.after, Region.binds .any e = true → e.on ≠ i) → oi.apart ops oj = true) →
   (∀ (listed : Array Bool) j oj, ops[j]? = some oj → j ≠ i → (∀ k, listed.getD k false = true → M k i = false) → M j i = false → (∀ e ∈ oj.after, Region.binds .any e = true → e.on ≠ i) → ∀ w w', T w → (nd listed j = true → S w → S w') → T w') →
   i ∈ Region.ready .any ops listed → YieldsIf P ops T oi v a → T w →
   anyN P ops Q S nd fuel (listed.setIfInBounds i true) (a.put oi.dst v) w → anyN P ops Q S nd (fuel + 1) listed a w := by
 intro fuel
 induction fuel with
 | zero =>
  intro listed a w _ _ _ hr hy hT H
  refine ⟨fun h => (by rw [h] at hr; cases hr), fun j hj => ?_⟩
  by_cases hji : j = i
  ·subst hji; exact hy.wpOp hi hT ⟨fun _ h => h, H⟩
  ·have := ready_mono hj hji
   rw [H.1] at this
   cases this
 | succ fuel ih =>
  intro listed a w hl hfree hTs hr hy hT H
  refine ⟨fun h => (by rw [h] at hr; cases hr), fun j hj => ?_⟩
  by_cases hji : j = i
  ·subst hji; exact hy.wpOp hi hT ⟨fun _ h => h, H⟩
  ·have h1 := H.2 j (ready_mono hj hji)
   obtain ⟨hjun, oj, hoj, hall⟩ := mem_ready.1 hj
   have hiun := (mem_ready.1 hr).1
   have hno_i : listed.getD i false ≠ true := fun h1 => by
    rcases Nat.lt_or_ge i listed.size with h' | h'
    ·simp [h'] at hiun h1; rw [hiun] at h1; cases h1
    ·simp [Array.getElem?_eq_none h'] at h1
   have hnot : ∀ e ∈ oj.after, Region.binds .any e = true → e.on ≠ i := fun e he hb heq => hno_i (by rw [← heq]; exact hall e he hb)
   have hMj : M j i = false := by
    cases hm : M j i
    ·rfl
    ·obtain ⟨e, he, hb, h3⟩ := hM j oj i hoj hm
     rcases h3 with h3 | h3
     ·exact absurd h3 (hnot e he hb)
     ·exact absurd (hl e.on (hall e he hb) i h3) hno_i
   have hap := hfree j oj hoj hji hjun hMj hnot
   have h2 := wpOp_putIf hoj hap (fun cs b => hsel i oi cs b hi) (fun cs b => hsel j oj cs b hoj) hQ hy h1
   have hclo : ∀ k, listed.getD k false = true → M k i = false := fun k hk => by
    cases hm : M k i
    ·rfl
    ·exact absurd (hl k hk i hm) hno_i
   have hup : ∀ k, listed.getD k false = true → (listed.setIfInBounds j true).getD k false = true := fun k hk => by
    by_cases hjk : j = k
    ·subst hjk
     rcases Nat.lt_or_ge j listed.size with h' | h'
     ·simp [h']
     ·simp [Array.getElem?_eq_none h'] at hk
    ·rw [getD_set_ne false hjk]; exact hk
   have hl' : ∀ k, (listed.setIfInBounds j true).getD k false = true → ∀ i, M k i = true → (listed.setIfInBounds j true).getD i false = true := fun k hk i hm => by
    by_cases hjk : j = k
    ·subst hjk
     obtain ⟨e, he, hb, h3⟩ := hM j oj i hoj hm
     rcases h3 with h3 | h3
     ·rw [← h3]; exact hup _ (hall e he hb)
     ·exact hup _ (hl e.on (hall e he hb) i h3)
    ·rw [getD_set_ne false hjk] at hk
     exact hup _ (hl k hk i hm)
   have hfree' : ∀ k ok, ops[k]? = some ok → k ≠ i → (listed.setIfInBounds j true).getD k true = false → M k i = false →
     (∀ e ∈ ok.after, Region.binds .any e = true → e.on ≠ i) → oi.apart ops ok = true := fun k ok hk hki hun hmk hno => by
    refine hfree k ok hk hki ?_ hmk hno
    by_cases hjk : j = k
    ·subst hjk; exact hjun
    ·rw [getD_set_ne true hjk] at hun; exact hun
   refine wpOp_mono (fun a' w' h3 => ⟨fun hn => h3.2.1 (by rw [hnd]; exact hn), ih (listed.setIfInBounds j true) a' w' hl' hfree' hTs (ready_mono hr (Ne.symm hji)) h3.1 (hTs listed j oj hoj hji hclo hMj hnot w w' hT (fun hn => h3.2.1 (by rw [hnd]; exact hn))) ?_⟩) h2
   rw [Array.setIfInBounds_comm _ _ hji]
   exact h3.2.2
theorem anyN_done {listed : Array Bool} {a : Act} {w : World} (hr : Region.ready .any ops listed = []) (h : Q .normal a w) : ∀ fuel, anyN P ops Q S nd fuel listed a w
 | 0 => ⟨hr, h⟩
 | _ + 1 => ⟨fun _ => h, by rw [hr]; simp⟩
end
def listedOf (n : Nat) : List Nat → Array Bool
 | [] => Array.replicate n false
 | i :: r => (listedOf n r).setIfInBounds i true
abbrev Rs := List Nat × List Nat × List Nat
def behind (ms : List Nat) (j i : Nat) : Bool := (ms.getD j 0).testBit i
def ndOf (ops : Array Oper) (rs : Rs) (listed : Array Bool) (j : Nat) : Bool := rs.1.any fun i => i != j && (match ops[j]? with
 | some oj => !(oj.after.any (fun e => Region.binds .any e && e.on == i) || behind rs.2.1 j i)
 | none => false) && !rs.2.2.any fun k => listed.getD k false && behind rs.2.1 k i
theorem ndOf_set {ops : Array Oper} {rs : Rs} {i : Nat} (h : rs.2.2.contains i = false) (listed : Array Bool) (j : Nat) : ndOf ops rs (listed.setIfInBounds i true) j = ndOf ops rs listed j := by
 have key : ∀ x, (rs.2.2.any fun k => (listed.setIfInBounds i true).getD k false && behind rs.2.1 k x) = (rs.2.2.any fun k => listed.getD k false && behind rs.2.1 k x) := fun x => by
  have : ∀ l : List Nat, l.contains i = false → (l.any fun k => (listed.setIfInBounds i true).getD k false && behind rs.2.1 k x) = (l.any fun k => listed.getD k false && behind rs.2.1 k x) := by
   intro l
   induction l with
   | nil => intro _; rfl
   | cons k r ih =>
    intro hc
    rw [List.contains_cons, Bool.or_eq_false_iff] at hc
    rw [List.any_cons, List.any_cons, ih hc.2, getD_set_ne false (by intro e; subst e; simp at hc)]
  exact this _ h
 unfold ndOf
 simp only [key]
def upOf (ms : List Nat) (oj : Oper) : Nat := oj.after.toList.foldr (fun e m => if Region.binds .any e then Nat.lor m (Nat.lor (2 ^ e.on) (ms.getD e.on 0)) else m) 0
def msOk (ops : Array Oper) (ms : List Nat) : Bool := (List.range ms.length).all fun j => match ops[j]? with
 | some oj => Nat.beq (Nat.land (ms.getD j 0) (upOf ms oj)) (ms.getD j 0)
 | none => true
def maskOf (done : List Nat) : Nat := done.foldr (fun k m => Nat.lor m (2 ^ k)) 0
def msDone (n : Nat) (ms : List Nat) (done : List Nat) : Bool := done.all fun k => Nat.beq (Nat.land (ms.getD k 0) (maskOf done)) (ms.getD k 0) && Nat.blt k n
theorem sub_bit {a b i : Nat} (h : Nat.beq (Nat.land a b) a = true) (ha : a.testBit i = true) : b.testBit i = true := by
 have h1 := Nat.eq_of_beq_eq_true h
 rw [← h1] at ha
 have : (a &&& b).testBit i = true := ha
 rw [Nat.testBit_and, Bool.and_eq_true] at this
 exact this.2
theorem upOf_spec {ms : List Nat} {oj : Oper} {i : Nat} (h : (upOf ms oj).testBit i = true) : ∃ e ∈ oj.after, Region.binds .any e = true ∧ (e.on = i ∨ behind ms e.on i = true) := by
 have key : ∀ l : List Edge, (l.foldr (fun e m => if Region.binds .any e then Nat.lor m (Nat.lor (2 ^ e.on) (ms.getD e.on 0)) else m) 0).testBit i = true → ∃ e ∈ l, Region.binds .any e = true ∧ (e.on = i ∨ behind ms e.on i = true) := by
  intro l
  induction l with
  | nil => intro h; simp at h
  | cons e r ih =>
   intro h
   rw [List.foldr_cons] at h
   split at h
   ·rename_i hb
    have h2 : ((r.foldr (fun e m => if Region.binds .any e then Nat.lor m (Nat.lor (2 ^ e.on) (ms.getD e.on 0)) else m) 0) ||| (2 ^ e.on ||| ms.getD e.on 0)).testBit i = true := h
    rw [Nat.testBit_or, Nat.testBit_or, Bool.or_eq_true, Bool.or_eq_true] at h2
    rcases h2 with h2 | h2 | h2
    ·obtain ⟨e', he', h3⟩ := ih h2
     exact ⟨e', .tail _ he', h3⟩
    ·rw [Nat.testBit_two_pow] at h2
     exact ⟨e, .head _, hb, .inl (of_decide_eq_true h2)⟩
    ·exact ⟨e, .head _, hb, .inr h2⟩
   ·obtain ⟨e', he', h3⟩ := ih h
    exact ⟨e', .tail _ he', h3⟩
 obtain ⟨e, he, h1⟩ := key _ h
 exact ⟨e, by simpa using he, h1⟩
theorem msOk_spec {ops : Array Oper} {ms : List Nat} (h : msOk ops ms = true) (j : Nat) (oj : Oper) (i : Nat) (hj : ops[j]? = some oj) (hm : behind ms j i = true) : ∃ e ∈ oj.after, Region.binds .any e = true ∧ (e.on = i ∨ behind ms e.on i = true) := by
 unfold behind at hm
 by_cases hl : j < ms.length
 ·simp only [msOk, List.all_eq_true, List.mem_range] at h
  have h1 := h j hl
  rw [hj] at h1
  exact upOf_spec (sub_bit h1 hm)
 ·rw [List.getD_eq_getElem?_getD, List.getElem?_eq_none (by omega)] at hm
  simp at hm
theorem maskOf_spec {done : List Nat} {i : Nat} (h : (maskOf done).testBit i = true) : i ∈ done := by
 induction done with
 | nil => simp [maskOf] at h
 | cons k r ih =>
  have h2 : (maskOf r ||| 2 ^ k).testBit i = true := h
  rw [Nat.testBit_or, Bool.or_eq_true] at h2
  rcases h2 with h2 | h2
  ·exact .tail _ (ih h2)
  ·rw [Nat.testBit_two_pow] at h2
   rw [← of_decide_eq_true h2]; exact .head _
class HM (P : Program) : Prop where
 h : P.follows .mixedOrders = true
theorem Upd.mem {H H' ys : List As} {x : As} (u : Upd H x ys H') : x ∈ H := by
 induction u with
 | hereN => simp
 | del => simp
 | here => simp
 | there _ ih => exact List.mem_cons_of_mem _ ih
theorem upd_of_mem : ∀ {H : List As} {x : As}, x ∈ H → ∃ H', Upd H x [] H'
 | y :: r, x, h => by
  rcases List.mem_cons.1 h with rfl | h
  ·exact ⟨_, .del⟩
  ·obtain ⟨H', u⟩ := upd_of_mem h
   exact ⟨_, .there u⟩
theorem Hp.only {F : Snap} {w : World} {H : List As} {x : As} (h : Hp F w H) (hx : x ∈ H) : Hp F w [x] := by
 obtain ⟨H', u⟩ := upd_of_mem hx
 obtain ⟨b2, h1, h2, h3, _⟩ := h.focus u
 exact ⟨h.os, h.tape, h.output, h.keep, b2, ⟨b2, [], by simp, h1, rfl⟩, h2, fun b hb => (h3 b hb).1⟩
def Keeps (F : Snap) (Hk : List As) (w : World) : Prop := ∃ X, Hp F w X ∧ ∀ x ∈ Hk, x ∈ X
theorem keeps_self {F : Snap} {H : List As} {w : World} (h : Hp F w H) : Keeps F H w := ⟨H, h, fun _ hx => hx⟩
def GA (P : Program) (N : Nat) (ops : Array Oper) (rs : Rs) (Hk : List As) (n : Nat) (done : List Nat) (K : Kont) (E : List (Nat × Kont)) (R : Kont) (L : Lcs) (F : Snap) (H : List As) : Prop :=
 ∀ a w, Fits N L a → Hp F w H → anyN P ops (MQ K E R) (fun w => Keeps F Hk w) (ndOf ops rs) n (listedOf ops.size done) a w
section
variable {P : Program} {N : Nat} {K R : Kont} {E : List (Nat × Kont)} {L : Lcs} {F : Snap} {H Hk : List As} {ops : Array Oper} {rs : Rs} {done : List Nat} {n d : Nat}
theorem g_draw {id : Nat} {l : List Oper} [hm : HM P] (rs : Rs) (Hk : List As) (n : Nat) (hn : n = l.toArray.size) (h : GA P N l.toArray rs Hk n [] K E R L F H) : G P N (.region id l.toArray true) K E R L F H := fun a w hf hw => by
 subst hn
 exact wp_region_any hm.h (any_of_anyN _ _ _ _ (h a _ hf hw.drew))
theorem g_draw0 {id : Nat} {l : List Oper} [hm : HM P] (rs : Rs) (n : Nat) (hn : n = l.toArray.size) (h : GA P N l.toArray rs H n [] K E R L F H) : G P N (.region id l.toArray true) K E R L F H := g_draw rs H n hn h
def canTake (ops : Array Oper) (rs : Rs) (done : List Nat) (i : Nat) : Bool := !rs.2.2.contains i && Region.noSelect ops && Region.free .any ops (listedOf ops.size done) i && (Region.ready .any ops (listedOf ops.size done)).contains i
theorem ga_free (i : Nat) {o : Oper} {v : Value} (hi : ops[i]? = some o) (s : OpF P o L v) (hg : o.guard = none) (hdst : o.dst = some d) (hd : Nat.blt d N = true) (hc : canTake ops rs done i = true)
  (h : GA P N ops rs Hk n (i :: done) K E R ((d, v) :: L) F H) : GA P N ops rs Hk (n + 1) done K E R L F H := fun a w hf hw => by
 simp only [canTake, Bool.and_eq_true] at hc
 obtain ⟨⟨⟨hne0, hs⟩, hfr⟩, hr⟩ := hc
 have hfit := hf.put hd v
 refine anyN_first (T := fun _ => True) (v := v) hi (Region.noSelect_spec hs) (fun c a w q => q.elim) (ndOf_set (by simpa using hne0)) n _ a w (fun j oj hj hne hun hno => ⟨Region.free_spec hi hfr j oj hj hne hun hno, fun _ _ _ => trivial⟩) (by simpa using hr)
  (.inl ⟨by simp [Region.wanted, hg], fun w _ => s _ _ hf.agr⟩) trivial ?_
 rw [hdst]
 exact h _ _ hfit hw
theorem listedOf_getD {n : Nat} : ∀ {done : List Nat} {k : Nat}, ((listedOf n done).getD k false = true → k ∈ done) ∧ (k ∈ done → k < n → (listedOf n done).getD k false = true)
 | [], k => by
  refine ⟨fun h => ?_, fun h => by cases h⟩
  rcases Nat.lt_or_ge k n with h' | h' <;> simp [listedOf, h'] at h
 | i :: r, k => by
  have ih := listedOf_getD (n := n) (done := r) (k := k)
  have hs : ∀ l, (listedOf n l).size = n := by
   intro l; induction l with
   | nil => simp [listedOf]
   | cons x r ih => simp [listedOf, ih]
  by_cases e : i = k
  ·subst e
   refine ⟨fun _ => .head _, fun _ hk => ?_⟩
   simp [listedOf, hs, hk]
  ·have e1 : (listedOf n (i :: r)).getD k false = (listedOf n r).getD k false := by
    show ((listedOf n r).setIfInBounds i true).getD k false = _
    exact getD_set_ne false e
   rw [e1]
   refine ⟨fun h => .tail _ (ih.1 h), fun h hk => ?_⟩
   rcases List.mem_cons.1 h with h | h
   ·exact absurd h.symm e
   ·exact ih.2 h hk
theorem msDone_spec {n : Nat} {ms done : List Nat} (h : msDone n ms done = true) (k : Nat) (hk : (listedOf n done).getD k false = true) (i : Nat) (hm : behind ms k i = true) : (listedOf n done).getD i false = true := by
 simp only [msDone, List.all_eq_true, Bool.and_eq_true] at h
 have h1 := maskOf_spec (sub_bit (h k (listedOf_getD.1 hk)).1 hm)
 refine listedOf_getD.2 h1 ?_
 have := (h i h1).2
 simpa [Nat.blt_eq] using this
def readOk (ops : Array Oper) (rs : Rs) (done : List Nat) (i : Nat) : Bool := canTake ops rs done i && (msOk ops rs.2.1 && msDone ops.size rs.2.1 done) && rs.1.contains i
theorem nd_read {ops : Array Oper} {rs : Rs} {i j : Nat} {oj : Oper} {listed : Array Bool} (h : rs.1.contains i = true) (hj : ops[j]? = some oj) (hne : j ≠ i) (hc : ∀ k, listed.getD k false = true → behind rs.2.1 k i = false) (hm : behind rs.2.1 j i = false) (hno : ∀ e ∈ oj.after, Region.binds .any e = true → e.on ≠ i) : ndOf ops rs listed j = true := by
 unfold ndOf
 rw [List.any_eq_true]
 refine ⟨i, by simpa using h, ?_⟩
 rw [hj]
 have h1 : (oj.after.any fun e => Region.binds .any e && e.on == i) = false := by
  cases e : (oj.after.any fun e => Region.binds .any e && e.on == i)
  ·rfl
  ·obtain ⟨x, hx, hb⟩ := Array.any_eq_true'.1 e
   simp only [Bool.and_eq_true, beq_iff_eq] at hb
   exact absurd hb.2 (hno x hx hb.1)
 have h2 : (rs.2.2.any fun k => listed.getD k false && behind rs.2.1 k i) = false := by
  rw [List.any_eq_false]
  intro k _ hk
  rw [Bool.and_eq_true] at hk
  rw [hc k hk.1] at hk
  cases hk.2
 simp only [h1, h2, hm, Bool.or_false, Bool.not_false, Bool.and_true, bne_iff_ne, ne_eq]
 exact fun e => hne e.symm
theorem ga_readW (i : Nat) {o : Oper} {v : Value} (hi : ops[i]? = some o) (s : ∀ ρ w, Agr L ρ → Keeps F Hk w → (execOp ρ o).run P w = .ok (.value v) w) (hg : ∀ a, Fits N L a → Region.wanted o (yielded ops a.tmps) = true) (hdst : o.dst = some d) (hd : Nat.blt d N = true) (hc : readOk ops rs done i = true)
  (hk : ∀ w, Hp F w H → Keeps F Hk w) (h : GA P N ops rs Hk n (i :: done) K E R ((d, v) :: L) F H) : GA P N ops rs Hk (n + 1) done K E R L F H := fun a w hf hw => by
 simp only [readOk, Bool.and_eq_true] at hc
 obtain ⟨⟨hct, hmo, hmd⟩, hri⟩ := hc
 simp only [canTake, Bool.and_eq_true] at hct
 obtain ⟨⟨⟨hne0, hs⟩, hfr⟩, hr⟩ := hct
 refine anyN_first2 (T := fun w => Keeps F Hk w) (v := v) (M := behind rs.2.1) hi (Region.noSelect_spec hs) (fun c a w q => q.elim) (ndOf_set (by simpa using hne0)) (msOk_spec hmo) n _ a w (msDone_spec hmd)
  (fun j oj hj hne hun _ hno => Region.free_spec hi hfr j oj hj hne hun hno) (fun l j oj hj hne hcl hmj hno w0 w' h4 h5 => h5 (nd_read hri hj hne hcl hmj hno) h4) (by simpa using hr)
  (.inl ⟨hg a hf, fun w hX => s _ _ hf.agr hX⟩) (hk w hw) ?_
 rw [hdst]
 exact h _ _ (hf.put hd v) hw
theorem wanted_none {o : Oper} (hg : o.guard = none) (a : Act) : Region.wanted o (yielded ops a.tmps) = true := by simp [Region.wanted, hg]
theorem wanted_yes {o oj : Oper} {j t : Nat} {b : Bool} {a : Act} (hg : o.guard = some (j, b)) (hj : ops[j]? = some oj) (ht : oj.dst = some t) (hv : find L t = some (.bool b)) (hf : Fits N L a) : Region.wanted o (yielded ops a.tmps) = true := by
 have h1 : a.tmps[t]? = some (.bool b) := hf.at_ _ _ hv
 simp [Region.wanted, hg, yielded, hj, ht, h1]
theorem ga_read (i : Nat) {o : Oper} {v : Value} {x : As} {H' : List As} (hi : ops[i]? = some o) (u : Upd H x [] H') (s : OpR P o L F [x] v) (hg : o.guard = none) (hdst : o.dst = some d) (hd : Nat.blt d N = true) (hc : readOk ops rs done i = true)
  (h : GA P N ops rs H n (i :: done) K E R ((d, v) :: L) F H) : GA P N ops rs H (n + 1) done K E R L F H :=
 ga_readW i hi (fun ρ w ha ⟨X, hX, hin⟩ => s ρ w ha (hX.only (hin x u.mem))) (fun a _ => wanted_none hg a) hdst hd hc (fun w hw => keeps_self hw) h
theorem ga_read_k (i : Nat) {o : Oper} {v : Value} {x : As} (hi : ops[i]? = some o) (hx : x ∈ Hk) (s : OpR P o L F [x] v) (hk : ∀ y ∈ Hk, y ∈ H) (hg : o.guard = none) (hdst : o.dst = some d) (hd : Nat.blt d N = true) (hc : readOk ops rs done i = true)
  (h : GA P N ops rs Hk n (i :: done) K E R ((d, v) :: L) F H) : GA P N ops rs Hk (n + 1) done K E R L F H :=
 ga_readW i hi (fun ρ w ha ⟨X, hX, hin⟩ => s ρ w ha (hX.only (hin x hx))) (fun a _ => wanted_none hg a) hdst hd hc (fun w hw => ⟨H, hw, hk⟩) h
theorem ga_readF (i : Nat) {o : Oper} {v : Value} (hi : ops[i]? = some o) (s : OpR P o L F [] v) (hk : ∀ y ∈ Hk, y ∈ H) (hg : o.guard = none) (hdst : o.dst = some d) (hd : Nat.blt d N = true) (hc : readOk ops rs done i = true)
  (h : GA P N ops rs Hk n (i :: done) K E R ((d, v) :: L) F H) : GA P N ops rs Hk (n + 1) done K E R L F H :=
 ga_readW i hi (fun ρ w ha ⟨X, hX, _⟩ => s ρ w ha hX.dropAll) (fun a _ => wanted_none hg a) hdst hd hc (fun w hw => ⟨H, hw, hk⟩) h
theorem ga_read_g (i : Nat) {o oj : Oper} {v : Value} {x : As} {H' : List As} {j t : Nat} {b : Bool} (hi : ops[i]? = some o) (u : Upd H x [] H') (s : OpR P o L F [x] v) (hg : o.guard = some (j, b)) (hj : ops[j]? = some oj) (ht : oj.dst = some t) (hv : find L t = some (.bool b)) (hdst : o.dst = some d) (hd : Nat.blt d N = true) (hc : readOk ops rs done i = true)
  (h : GA P N ops rs H n (i :: done) K E R ((d, v) :: L) F H) : GA P N ops rs H (n + 1) done K E R L F H :=
 ga_readW i hi (fun ρ w ha ⟨X, hX, hin⟩ => s ρ w ha (hX.only (hin x u.mem))) (fun a hf => wanted_yes hg hj ht hv hf) hdst hd hc (fun w hw => keeps_self hw) h
theorem ga_free_g (i : Nat) {o oj : Oper} {v : Value} {j t : Nat} {b : Bool} (hi : ops[i]? = some o) (s : OpF P o L v) (hg : o.guard = some (j, b)) (hj : ops[j]? = some oj) (ht : oj.dst = some t) (hv : find L t = some (.bool b)) (hdst : o.dst = some d) (hd : Nat.blt d N = true) (hc : canTake ops rs done i = true)
  (h : GA P N ops rs Hk n (i :: done) K E R ((d, v) :: L) F H) : GA P N ops rs Hk (n + 1) done K E R L F H := fun a w hf hw => by
 simp only [canTake, Bool.and_eq_true] at hc
 obtain ⟨⟨⟨hne0, hs⟩, hfr⟩, hr⟩ := hc
 refine anyN_first (T := fun _ => True) (v := v) hi (Region.noSelect_spec hs) (fun c a w q => q.elim) (ndOf_set (by simpa using hne0)) n _ a w (fun j oj hj hne hun hno => ⟨Region.free_spec hi hfr j oj hj hne hun hno, fun _ _ _ => trivial⟩) (by simpa using hr)
  (.inl ⟨wanted_yes hg hj ht hv hf, fun w _ => s _ _ hf.agr⟩) trivial ?_
 rw [hdst]
 exact h _ _ (hf.put hd v) hw
theorem ga_skip (i : Nat) {o oj : Oper} {j t : Nat} {b q : Bool} (hi : ops[i]? = some o) (hg : o.guard = some (j, b)) (hj : ops[j]? = some oj) (ht : oj.dst = some t) (hv : find L t = some (.bool q)) (hne : q = !b) (hdst : o.dst = some d) (hd : Nat.blt d N = true) (hc : canTake ops rs done i = true)
  (h : GA P N ops rs Hk n (i :: done) K E R ((d, undef) :: L) F H) : GA P N ops rs Hk (n + 1) done K E R L F H := fun a w hf hw => by
 simp only [canTake, Bool.and_eq_true] at hc
 obtain ⟨⟨⟨hne0, hs⟩, hfr⟩, hr⟩ := hc
 have h1 : a.tmps[t]? = some (.bool q) := hf.at_ _ _ hv
 have hw' : Region.wanted o (yielded ops a.tmps) = false := by
  subst hne
  simp [Region.wanted, hg, yielded, hj, ht, h1]
 refine anyN_first (T := fun _ => True) (v := undef) hi (Region.noSelect_spec hs) (fun c a w q => q.elim) (ndOf_set (by simpa using hne0)) n _ a w (fun j oj hj hne hun hno => ⟨Region.free_spec hi hfr j oj hj hne hun hno, fun _ _ _ => trivial⟩) (by simpa using hr)
  (.inr ⟨hw', rfl⟩) trivial ?_
 rw [hdst]
 exact h _ _ (hf.put hd undef) hw
theorem ga_skip_un (i : Nat) {o oj : Oper} {j t : Nat} {b : Bool} (hi : ops[i]? = some o) (hg : o.guard = some (j, b)) (hj : ops[j]? = some oj) (ht : oj.dst = some t) (hv : find L t = some undef) (hdst : o.dst = some d) (hd : Nat.blt d N = true) (hc : canTake ops rs done i = true)
  (h : GA P N ops rs Hk n (i :: done) K E R ((d, undef) :: L) F H) : GA P N ops rs Hk (n + 1) done K E R L F H := fun a w hf hw => by
 simp only [canTake, Bool.and_eq_true] at hc
 obtain ⟨⟨⟨hne0, hs⟩, hfr⟩, hr⟩ := hc
 have h1 : a.tmps[t]? = some undef := hf.at_ _ _ hv
 have hw' : Region.wanted o (yielded ops a.tmps) = false := by
  simp [Region.wanted, hg, yielded, hj, ht, h1, undef]
 refine anyN_first (T := fun _ => True) (v := undef) hi (Region.noSelect_spec hs) (fun c a w q => q.elim) (ndOf_set (by simpa using hne0)) n _ a w (fun j oj hj hne hun hno => ⟨Region.free_spec hi hfr j oj hj hne hun hno, fun _ _ _ => trivial⟩) (by simpa using hr)
  (.inr ⟨hw', rfl⟩) trivial ?_
 rw [hdst]
 exact h _ _ (hf.put hd undef) hw
theorem ga_one (i : Nat) {o : Oper} (hi : ops[i]? = some o) (hr : (Region.ready .any ops (listedOf ops.size done) == [i]) = true)
  (h : GL P N ops [o] (fun a w => (ndOf ops rs (listedOf ops.size done) i = true → True → Keeps F Hk w) ∧ anyN P ops (MQ K E R) (fun w => Keeps F Hk w) (ndOf ops rs) n (listedOf ops.size (i :: done)) a w) [] (fun _ _ => False) L F H) : GA P N ops rs Hk (n + 1) done K E R L F H := fun a w hf hw => by
 have hr' := beq_iff_eq.1 hr
 refine ⟨fun h0 => (by rw [h0] at hr'; cases hr'), fun j hj => ?_⟩
 rw [hr'] at hj
 simp at hj; subst hj
 have h1 := h a w hf hw
 unfold wpList at h1
 unfold wpOp
 rw [hi]
 dsimp only
 split
 ·rename_i hwant
  rw [if_pos hwant] at h1
  rcases h1 with h1 | ⟨_, a0, w0, q⟩
  ·refine .inl ?_
   unfold Oper.wp at h1 ⊢
   generalize (execOp a.eval o).run P w = r at h1 ⊢
   cases r with
   | ok x w' =>
    cases x <;> simp only [Oper.upon] at h1 ⊢
    case value v => exact ⟨fun hn _ => h1.1 hn trivial, h1.2⟩
    case skip => exact ⟨fun hn _ => h1.1 hn trivial, h1.2⟩
    case defer dd => exact ⟨fun hn _ => h1.1 hn trivial, h1.2⟩
    case enter f args =>
     refine h1.mono fun e w'' q => ?_
     cases e with
     | returned v => exact ⟨fun hn _ => q.1 hn trivial, q.2⟩
     | panicked c => exact q.elim
     | outgrown => obtain ⟨a0, w0, q⟩ := q; exact q.elim
    case row row args => exact h1.mono fun v w'' q => ⟨fun hn _ => q.1 hn trivial, q.2⟩
   | halt x w' => cases x <;> simp only [Oper.upon] at h1 ⊢; exact h1.elim
  ·exact q.elim
 ·rename_i hwant
  rw [if_neg hwant] at h1
  exact ⟨fun hn _ => h1.1 hn trivial, h1.2⟩
theorem at_ga {i : Nat} {L' : Lcs} {H' : List As} (hk : ndOf ops rs (listedOf ops.size done) i = false ∨ ∀ w, Hp F w H' → Keeps F Hk w) (h : GA P N ops rs Hk n (i :: done) K E R L' F H') :
  At N (fun a w => (ndOf ops rs (listedOf ops.size done) i = true → True → Keeps F Hk w) ∧ anyN P ops (MQ K E R) (fun w => Keeps F Hk w) (ndOf ops rs) n (listedOf ops.size (i :: done)) a w) L' F H' := fun a w hf hw =>
 ⟨fun hn _ => by rcases hk with h1 | h1; (rw [h1] at hn; cases hn); exact h1 w hw, h a w hf hw⟩
theorem ga_done (hr : Region.ready .any ops (listedOf ops.size done) = []) (h : At N K L F H) : GA P N ops rs Hk n done K E R L F H := fun a w hf hw => anyN_done hr (h a w hf hw) n
end
end Go.Sl
namespace Go.Sl
open Go Go.RowKit
section
variable {P : Program} {N : Nat} {K R : Kont} {E : List (Nat × Kont)} {L : Lcs} {F : Snap} {H : List As} {ops : Array Oper} {rest : List Oper} {ty : TypeId} {pos : String} {af : Array Edge} {dst : Option Nat} {gd : Option (Nat × Bool)}
variable {x y : Operand} {t t' : TypeId}
theorem s_makeIface {ds : TypeDesc} {v : Value} [hu : HU P t ds] (hni : ∀ ms, ds ≠ .interface ms) (hx : ev L x = some v) : OpF P ⟨dst, .makeInterface t x, ty, pos, af, gd⟩ L (.iface t v) :=
 (fun ρ w hf => by
  cases ds <;> first | (exact absurd rfl (hni _)) | simp [execOp, Instr.makeInterface, hf _ _ hx, run_underlying hu.h])
theorem g_cutK {c : Code} (L' : Lcs) (H' : List As) (h1 : G P N c (fun a w => Fits N L' a ∧ Hp F w H') E R L F H) (h2 : At N K L' F H') : G P N c K E R L F H := fun a w hf hw =>
 Code.wp_mono (fun e a w q => by
  cases e with
  | normal => exact h2 a w q.1 q.2
  | _ => exact q) (h1 a w hf hw)
theorem at_cut {L' : Lcs} {H' : List As} (hs : Sub L' L) (hH : ∀ w, Hp F w H → Hp F w H') : At N (fun a w => Fits N L' a ∧ Hp F w H') L F H := fun a w hf hw => ⟨hf.sub hs, hH w hw⟩
end
end Go.Sl
namespace Go.Sl
open Go Go.RowKit
section
variable {P : Program} {N : Nat} {K R : Kont} {E : List (Nat × Kont)} {L : Lcs} {F : Snap} {H : List As} {ops : Array Oper} {rest : List Oper} {ty : TypeId} {pos : String} {af : Array Edge} {dst : Option Nat} {gd : Option (Nat × Bool)}
variable {x y : Operand} {t t' : TypeId}
theorem gl_buildSlice0 {d : Nat} {e : TypeId} {sz : Nat} [hu : HU P t (.slice e)] [hs : HS P e sz] (hd : Nat.blt d N = true)
  (h : ∀ a, GL P N ops rest K E R ((d, .slice a 0 0) :: L) F (.own (.slice a 0 0) e sz [] :: H)) : GL P N ops (⟨some d, .buildSlice t 0 #[], ty, pos, af, none⟩ :: rest) K E R L F H :=
 gl_run rfl rfl hd fun w0 w hf hw => by
  refine ⟨.slice (some ⟨w.heap.size, 0, none⟩) 0 0, w.alloc (.cells #[] e), _, ?_, ?_, h _⟩
  ·simp [execOp, Instr.buildSlice, run_underlying hu.h, hs.h, Instr.fill, newRow]
   have e0 : Array.map (fun _ => (default : Value)) (Array.range 0) = #[] := by apply Array.eq_empty_of_size_eq_zero; simp
   rw [e0]
  ·exact own_alloc (xs := []) (post := []) (fr := (0, 0)) hw (by simp) (by simp) (Nat.le_refl _) (.inl (Nat.le_refl _)) (by simp)
theorem wpOp_of_gl {i n : Nat} {o : Oper} {Hk : List As} {rs : Rs} {done : List Nat} (hi : ops[i]? = some o) {a : Act} {w : World}
  (h1 : wpList P ops (MQ (fun a w => (ndOf ops rs (listedOf ops.size done) i = true → True → Keeps F Hk w) ∧ anyN P ops (MQ K E R) (fun w => Keeps F Hk w) (ndOf ops rs) n (listedOf ops.size (i :: done)) a w) [] (fun _ _ => False)) [o] a w) :
  wpOp P ops (MQ K E R) i (fun a' w' => (ndOf ops rs (listedOf ops.size done) i = true → Keeps F Hk w → Keeps F Hk w') ∧ anyN P ops (MQ K E R) (fun w => Keeps F Hk w) (ndOf ops rs) n ((listedOf ops.size done).setIfInBounds i true) a' w') a w := by
 unfold wpList at h1
 unfold wpOp
 rw [hi]
 dsimp only
 split
 ·rename_i hwant
  rw [if_pos hwant] at h1
  rcases h1 with h1 | ⟨_, a0, w0, q⟩
  ·refine .inl ?_
   unfold Oper.wp at h1 ⊢
   generalize (execOp a.eval o).run P w = r at h1 ⊢
   cases r with
   | ok x w' =>
    cases x <;> simp only [Oper.upon] at h1 ⊢
    case value v => exact ⟨fun hn _ => h1.1 hn trivial, h1.2⟩
    case skip => exact ⟨fun hn _ => h1.1 hn trivial, h1.2⟩
    case defer dd => exact ⟨fun hn _ => h1.1 hn trivial, h1.2⟩
    case enter f args =>
     refine h1.mono fun e w'' q => ?_
     cases e with
     | returned v => exact ⟨fun hn _ => q.1 hn trivial, q.2⟩
     | panicked c => exact q.elim
     | outgrown => obtain ⟨a0, w0, q⟩ := q; exact q.elim
    case row row args => exact h1.mono fun v w'' q => ⟨fun hn _ => q.1 hn trivial, q.2⟩
   | halt x w' => cases x <;> simp only [Oper.upon] at h1 ⊢; exact h1.elim
  ·exact q.elim
 ·rename_i hwant
  rw [if_neg hwant] at h1
  exact ⟨fun hn _ => h1.1 hn trivial, h1.2⟩
variable {Hk : List As} {rs : Rs} {done : List Nat} {n : Nat}
theorem ga_two (i j : Nat) {o o' : Oper} (hi : ops[i]? = some o) (hj : ops[j]? = some o') (hr : (Region.ready .any ops (listedOf ops.size done) == [i, j]) = true)
  (h : GL P N ops [o] (fun a w => (ndOf ops rs (listedOf ops.size done) i = true → True → Keeps F Hk w) ∧ anyN P ops (MQ K E R) (fun w => Keeps F Hk w) (ndOf ops rs) n (listedOf ops.size (i :: done)) a w) [] (fun _ _ => False) L F H)
  (h' : GL P N ops [o'] (fun a w => (ndOf ops rs (listedOf ops.size done) j = true → True → Keeps F Hk w) ∧ anyN P ops (MQ K E R) (fun w => Keeps F Hk w) (ndOf ops rs) n (listedOf ops.size (j :: done)) a w) [] (fun _ _ => False) L F H) : GA P N ops rs Hk (n + 1) done K E R L F H := fun a w hf hw => by
 have hr' := beq_iff_eq.1 hr
 refine ⟨fun h0 => (by rw [h0] at hr'; cases hr'), fun q hq => ?_⟩
 rw [hr'] at hq
 simp at hq
 rcases hq with rfl | rfl
 ·exact wpOp_of_gl hi (h a w hf hw)
 ·exact wpOp_of_gl hj (h' a w hf hw)
end
section
variable {P : Program} {N : Nat} {K R : Kont} {E : List (Nat × Kont)} {L : Lcs} {F : Snap} {H : List As} {ops : Array Oper} {rest : List Oper}
end
end Go.Sl
namespace Go.Sl
open Go Go.RowKit
section
variable {P : Program} {N : Nat} {K R : Kont} {E : List (Nat × Kont)} {L : Lcs} {F : Snap} {H : List As} {ops : Array Oper} {rest : List Oper} {ty : TypeId} {pos : String} {af : Array Edge} {dst : Option Nat} {gd : Option (Nat × Bool)}
variable {x y : Operand} {t t' : TypeId}
theorem eqGuard_at_sl (op : BinOp) (a b : Option Addr) (n c m d : Nat) : eqGuard op t x y (.slice a n c) (.slice b m d) = pure () := by cases op <;> rfl
theorem run_equalIn_slnil {e : TypeId} (hu : P.underlying t = some (.slice e)) (w : World) (a : Option Addr) (n c : Nat) (d : Nat) : (Op.equalIn (d + 1) t (.slice a n c) (.slice none 0 0)).run P w = .ok a.isNone w := by
 cases a <;> simp [Op.equalIn, run_underlying hu]
theorem s_eql_slnil {a : Option Addr} {n c : Nat} {e : TypeId} [hu : HU P t (.slice e)] (hx : ev L x = some (.slice a n c)) (hy : ev L y = some (.slice none 0 0)) : OpF P ⟨dst, .binOp .eql t x y t', ty, pos, af, gd⟩ L (.bool a.isNone) :=
 s_bin hx hy (fun w => by
  rw [eqGuard_at_sl]
  simp only [binOp]
  simp [Op.equal, Op.maxDepth, run_equalIn_slnil hu.h w a n c 9999])
end
theorem Hp.left {F : Snap} {w : World} {A R : List As} (h : Hp F w (A ++ R)) : Hp F w A := by
 obtain ⟨bs, hs, hn, hf⟩ := h.own
 obtain ⟨ba, bb, rfl, ha, hb⟩ := Sat.split hs
 exact ⟨h.os, h.tape, h.output, h.keep, ba, ha, (List.nodup_append.1 hn).1, fun b hb => hf b (by simp [hb])⟩
section
variable {P : Program} {N : Nat} {K R : Kont} {E : List (Nat × Kont)} {L : Lcs} {F : Snap} {H : List As} {ops : Array Oper} {rest : List Oper} {ty : TypeId} {pos : String} {af : Array Edge} {dst : Option Nat} {gd : Option (Nat × Bool)}
variable {x y : Operand} {t t' : TypeId}
theorem gl_callv {d : Nat} {f : FuncId} {args : List Operand} {tys : Array TypeId} {vs ps qs all : List Value} {Pre : Heap → Prop} {C : List As} {Post : Value → List As → Prop} [hF : HF P f] (Rr : List As) (hv : ev L x = some (.func (.func f) ps.toArray qs.toArray)) (hx : evs L args = some vs)
  (hall : ps ++ vs ++ qs = all) (hc : Ct P f all Pre C Post) (hH : ∀ w, Hp F w H → Hp F w (C ++ Rr)) (hpre : ∀ h, Heap.le F.heap h → (∃ bs, Sat h Rr bs) → Pre h) (hd : Nat.blt d N = true)
  (h : ∀ v A, Post v A → GL P N ops rest K E R ((d, v) :: L) F (A ++ Rr)) : GL P N ops (⟨some d, .call ⟨.value x, args.toArray, tys⟩, ty, pos, af, none⟩ :: rest) K E R L F H :=
 gl_enter rfl rfl hd (fun ρ w hf => by
  have e1 := hf _ _ hv
  have e2 := evs_eval hf hx
  subst hall
  simp only [execOp, resolve, e1, Deferred.ofValue, List.map_toArray, e2, Sem.run_bind, Sem.run_pure, Result.andThen_ok, invoke]
  have : (ps.toArray ++ vs.toArray ++ qs.toArray : Array Value) = (ps ++ vs ++ qs).toArray := by simp
  rw [this]
  exact hF.h _ w) hc hH hpre h
end
section
variable {P : Program} {N : Nat} {K R : Kont} {E : List (Nat × Kont)} {L : Lcs} {F : Snap} {H : List As} {ops : Array Oper} {rest : List Oper} {ty : TypeId} {pos : String} {af : Array Edge} {dst : Option Nat} {gd : Option (Nat × Bool)}
variable {x y : Operand} {t t' : TypeId}
theorem gl_allocA {d : Nat} {cs : Array Value} [hz : HZ P t (.agg cs)] (hd : Nat.blt d N = true) (h : ∀ g, GL P N ops rest K E R ((d, .pointer (some ⟨g, 0, none⟩)) :: L) F (.blk g (.cells cs t) :: H)) :
  GL P N ops (⟨some d, .alloc t, ty, pos, af, none⟩ :: rest) K E R L F H := gl_alloc (z := .agg cs) hd h
theorem gl_boxA {d : Nat} {cs : Array Value} (hx : ev L x = some (.agg cs)) (hd : Nat.blt d N = true) (h : ∀ g, GL P N ops rest K E R ((d, .pointer (some ⟨g, 0, none⟩)) :: L) F (.blk g (.cells cs t) :: H)) :
  GL P N ops (⟨some d, .box t x, ty, pos, af, none⟩ :: rest) K E R L F H := gl_box (v := .agg cs) hx hd h
theorem s_load_blkW {b n : Nat} {cs : Array Value} {te : TypeId} {fr : Nat × Nat} {H' : List As} [ha : HA P t true] [hs : HS P t n] (hx : ev L x = some (.pointer (some ⟨b, 0, none⟩))) (u : Upd H (.blk b (.cells cs te fr)) [] H') (hv : Nat.beq n cs.size = true) : OpR P ⟨dst, .load t x, ty, pos, af, gd⟩ L F H (.agg cs) := by
 have hn := Nat.eq_of_beq_eq_true hv
 subst hn
 have h := s_load_blkN (P := P) (F := F) (dst := dst) (ty := ty) (pos := pos) (af := af) (gd := gd) hx u (hs := hs) (by simp [Nat.ble_eq])
 have e : (sl cs 0 cs.size).toArray = cs := by
  apply Array.toList_inj.1
  simp only [sl, List.drop_zero, List.toList_toArray]
  exact List.take_of_length_le (by simp)
 rwa [e] at h
theorem gl_store_blkW {b n : Nat} {cs vs : Array Value} {te : TypeId} {H' : List As} [hs : HS P t n] (hx : ev L x = some (.pointer (some ⟨b, 0, none⟩))) (hy : ev L y = some (.agg vs))
  (u : Upd H (.blk b (.cells cs te (0, 0))) [.blk b (.cells vs te (0, 0))] H') (hn : Nat.beq n cs.size = true) (hn2 : Nat.beq n vs.size = true) (h1 : ∀ q ∈ vs.toList, q.oneCell' = true)
  (h : GL P N ops rest K E R L F H') : GL P N ops (⟨none, .store t x y, ty, pos, af, none⟩ :: rest) K E R L F H := by
 have e1 := Nat.eq_of_beq_eq_true hn
 have e2 := Nat.eq_of_beq_eq_true hn2
 refine gl_store_blkP (cs := cs) (te := te) (n := n) hx hy ?_ e2.symm h1 (by omega) h
 have e : putL cs 0 (Value.agg vs).cells.toList = vs := by
  apply Array.toList_inj.1
  have : (Value.agg vs).cells = vs := rfl
  rw [this]
  simp only [putL, List.take_zero, List.nil_append, Nat.zero_add, List.toList_toArray]
  rw [List.drop_of_length_le (by simp; omega)]; simp
 rw [e]; exact u
theorem gl_store_blkC {b o : Nat} {v v0 : Value} {pre post : List Value} {te : TypeId} {H' : List As} [hs : HS P t 1] (hx : ev L x = some (.pointer (some ⟨b, o, none⟩))) (hy : ev L y = some v)
  (u : Upd H (.blk b (.cells (pre ++ v0 :: post).toArray te (0, 0))) [.blk b (.cells (pre ++ v :: post).toArray te (0, 0))] H') (ho : Nat.beq o pre.length = true) (hc : v.cells = #[v]) (h1 : v.oneCell' = true)
  (h : GL P N ops rest K E R L F H') : GL P N ops (⟨none, .store t x y, ty, pos, af, none⟩ :: rest) K E R L F H := by
 have e1 := Nat.eq_of_beq_eq_true ho
 subst e1
 refine gl_store_blkP (cs := (pre ++ v0 :: post).toArray) (te := te) (n := 1) hx hy ?_ (by rw [hc]; rfl) (fun q hq => by rw [hc] at hq; simp at hq; subst hq; exact h1) (by simp) h
 have e : putL (pre ++ v0 :: post).toArray pre.length v.cells.toList = (pre ++ v :: post).toArray := by
  apply Array.toList_inj.1
  rw [hc]
  simp [putL]
 rw [e]; exact u
theorem at_endB {fn : Func} {Post : Value → List As → Prop} {t n b : Nat} {tt te : TypeId} {cs : Array Value} {fr : Nat × Nat} {H' : List As} [ha : HA P tt true] [hs : HS P tt n] (hr : fn.results = #[.cell t tt]) (hv : find L t = some (.pointer (some ⟨b, 0, none⟩)))
  (u : Upd H (.blk b (.cells cs te fr)) [] H') (hn : Nat.beq n cs.size = true) (A : List As) (hpost : Post (.agg cs) A) (hA : ∀ w, Hp F w H → Hp F w A) : At N (RetQ P fn F Post) L F H := by
 have e1 := Nat.eq_of_beq_eq_true hn
 have e : sl cs 0 cs.size = cs.toList := by
  simp only [sl, List.drop_zero]
  exact List.take_of_length_le (by simp)
 refine at_endc (cs := cs.toList) (n := n) hr hv (fun w hw => by rw [← e]; exact peek_blkN (n := cs.size) hw u) (by simp [e1]) A (by simpa using hpost) hA
theorem at_endB2 {fn : Func} {Post : Value → List As → Prop} {t n b t1 t2 : Nat} {tt te : TypeId} {cs : Array Value} {fr : Nat × Nat} {H' : List As} {v1 v2 : Value} [ha : HA P tt true] [hs : HS P tt n] (hr : fn.results = #[.cell t tt, .tmp t1, .tmp t2]) (hv : find L t = some (.pointer (some ⟨b, 0, none⟩))) (hv1 : find L t1 = some v1) (hv2 : find L t2 = some v2)
  (u : Upd H (.blk b (.cells cs te fr)) [] H') (hn : Nat.beq n cs.size = true) (A : List As) (hpost : Post (.tuple #[.agg cs, v1, v2]) A) (hA : ∀ w, Hp F w H → Hp F w A) : At N (RetQ P fn F Post) L F H := fun a w hf hw => by
 have e1 := Nat.eq_of_beq_eq_true hn
 have e : sl cs 0 cs.size = cs.toList := by
  simp only [sl, List.drop_zero]
  exact List.take_of_length_le (by simp)
 obtain ⟨ad, e2, hc⟩ := peek_blkN (n := cs.size) hw u
 injection e2 with e2; subst e2
 rw [e] at hc
 have h1 := run_loadCells_peek (P := P) hc
 have h2 : a.tmps.getD t undef = .pointer (some ⟨b, 0, none⟩) := hf.eval (x := .tmp t) hv
 have h4 : a.tmps.getD t1 undef = v1 := hf.eval (x := .tmp t1) hv1
 have h6 : a.tmps.getD t2 undef = v2 := hf.eval (x := .tmp t2) hv2
 subst e1
 refine ⟨.tuple #[.agg cs, v1, v2], A, ?_, hpost, hA w hw, hf.defers⟩
 have h3 : a.tmps[t]?.getD undef = .pointer (some ⟨b, 0, none⟩) := by simpa using h2
 have h5 : a.tmps[t1]?.getD undef = v1 := by simpa using h4
 have h7 : a.tmps[t2]?.getD undef = v2 := by simpa using h6
 simp at h1
 simp [results, hr, h3, h5, h7, asAddr, loadVar, ha.h, hs.h, h1]
end
end Go.Sl
namespace Go.Sl
open Go Go.RowKit
def Fn (ro : Option Nat) : Fence := { Fence.wide with round := ro }
section
variable {ro : Option Nat} {n : Nat} {P : Program} {N : Nat} {Q : Exit → Act → World → Prop} {L : Lcs} {F : Snap} {H : List As} {x y : Code} {id : Nat}
end
end Go.Sl
namespace Go.Sl
open Go Go.RowKit
section
variable {P : Program} {Q : Exit → Act → World → Prop}
end
section
variable {P : Program} {N : Nat} {K R : Kont} {E : List (Nat × Kont)} {L : Lcs} {F : Snap} {H Hk : List As} {ops : Array Oper} {rs : Rs} {done : List Nat} {n : Nat}
end
end Go.Sl
namespace Go.Sl
open Go Go.RowKit
theorem sub_nil {H : List As} : ∀ y ∈ ([] : List As), y ∈ H := fun _ h => by cases h
theorem sub_cons {x : As} {l H : List As} (h : x ∈ H) (r : ∀ y ∈ l, y ∈ H) : ∀ y ∈ x :: l, y ∈ H := fun y hy => by
 rcases List.mem_cons.1 hy with rfl | hy
 ·exact h
 ·exact r y hy
theorem keeps_of {F : Snap} {H Hk : List As} (h : ∀ y ∈ Hk, y ∈ H) : ∀ w, Hp F w H → Keeps F Hk w := fun w hw => ⟨H, hw, h⟩
abbrev KV := Value × Value
section
variable {P : Program} {kt : TypeId} {d : TypeDesc} {es : Array MapEntry} {clock : Nat} {ms : List KV} {key : Value} {w : World}
end
section
variable {P : Program} {N : Nat} {K R : Kont} {E : List (Nat × Kont)} {L : Lcs} {F : Snap} {H : List As} {ops : Array Oper} {rest : List Oper} {ty : TypeId} {pos : String} {af : Array Edge} {dst : Option Nat} {gd : Option (Nat × Bool)}
variable {x y z : Operand} {t kt et : TypeId} {td : TypeDesc} {es : Array MapEntry} {clock b d : Nat} {ms : List KV} {key val : Value}
end
end Go.Sl
namespace Go.Sl
open Go Go.RowKit
structure Snap.le (F F' : Snap) : Prop where
 os : F'.os = F.os
 tape : F'.tape = F.tape
 output : F'.output = F.output
 heap : Heap.le F.heap F'.heap
theorem Snap.le_refl (F : Snap) : F.le F := ⟨rfl, rfl, rfl, Heap.le_refl _⟩
section
variable {P : Program} {N : Nat} {K R : Kont} {E : List (Nat × Kont)} {L : Lcs} {F : Snap} {H Z : List As} {ops : Array Oper} {rest : List Oper} {c : Code}
end
section
variable {P : Program} {N : Nat} {K R : Kont} {E : List (Nat × Kont)} {L : Lcs} {F : Snap} {H : List As} {ops : Array Oper} {rest : List Oper} {ty : TypeId} {pos : String} {af : Array Edge} {dst : Option Nat} {gd : Option (Nat × Bool)}
variable {x y z : Operand} {t t' t'' kt et : TypeId} {td : TypeDesc} {es : Array MapEntry} {clock b d : Nat} {ms : List KV} {key val : Value} {l l' : List UInt8}
end
section
variable {α : Type} {C : α → List Value} {n : Nat}
theorem rec_length (hn : ∀ x, (C x).length = n) (l : List α) : (l.flatMap C).length = l.length * n := by
 induction l with
 | nil => simp
 | cons x r ih => rw [List.flatMap_cons, List.length_append, ih, hn, List.length_cons, Nat.add_mul]; omega
theorem rec_one (h1 : ∀ x, ∀ q ∈ C x, q.oneCell' = true) (l : List α) : ∀ q ∈ l.flatMap C, q.oneCell' = true := fun q hq => by
 obtain ⟨x, _, hx⟩ := List.mem_flatMap.1 hq
 exact h1 x q hx
theorem rec_get (hn : ∀ x, (C x).length = n) (d : α) : ∀ (l : List α) (i : Nat), i < l.length → ∀ j u, (C (l.getD i d))[j]? = some u → (l.flatMap C)[n * i + j]? = some u
 | x :: l, 0, _, j, u, h => by
  have hj : j < n := by have := (List.getElem?_eq_some_iff.1 h).1; simpa [hn] using this
  rw [List.flatMap_cons, List.getElem?_append_left (by rw [hn]; omega)]
  simpa using h
 | x :: l, i + 1, hi, j, u, h => by
  have := rec_get hn d l i (by simpa using hi) j u (by simpa using h)
  rw [List.flatMap_cons, List.getElem?_append_right (by rw [hn, Nat.mul_add]; omega)]
  have e : n * (i + 1) + j - (C x).length = n * i + j := by rw [hn, Nat.mul_add]; omega
  rw [e]; exact this
theorem rec_rd {h : Heap} {a : Option Addr} {l : List α} {cs : List Value} {q i j : Nat} (r : RdS h a (l.flatMap C)) (hn : ∀ x, (C x).length = n) (d : α) (hq : q = n * i + j) (hi : i < l.length) (hne : cs ≠ []) (hc : ∀ k u, cs[k]? = some u → (C (l.getD i d))[j + k]? = some u) : PeekC h (addO a q) cs :=
 r.peek q hne (fun k u hu => by
  have := rec_get hn d l i hi (j + k) u (hc k u hu)
  rw [hq, Nat.add_assoc]; exact this)
theorem rec_rdN {h : Heap} {a : Option Addr} {l : List α} {q i : Nat} (r : RdS h a (l.flatMap C)) (hn : ∀ x, (C x).length = n) (hpos : 0 < n) (d : α) (hq : q = n * i) (hi : i < l.length) : PeekC h (addO a q) (C (l.getD i d)) :=
 rec_rd r hn d (j := 0) (by omega) hi (by intro e; have := hn (l.getD i d); rw [e] at this; simp at this; omega) (fun k u hu => by rw [Nat.zero_add]; exact hu)
theorem rec_some {h : Heap} {a : Option Addr} {l : List α} {i : Nat} (r : RdS h a (l.flatMap C)) (hn : ∀ x, (C x).length = n) (hpos : 0 < n) (hi : i < l.length) : ∃ ad, a = some ad := by
 obtain ⟨ad, e, _⟩ := r (by
  intro e
  have := congrArg List.length e
  rw [rec_length hn] at this
  have h2 : 0 < l.length * n := Nat.mul_pos (by omega) hpos
  simp at this; omega)
 exact ⟨ad, e⟩
end
section
variable {P : Program} {N : Nat} {K R : Kont} {E : List (Nat × Kont)} {L : Lcs} {F : Snap} {H : List As} {ops : Array Oper} {rest : List Oper} {ty : TypeId} {pos : String} {af : Array Edge} {dst : Option Nat} {gd : Option (Nat × Bool)}
variable {x y z : Operand} {t t' t'' kt et : TypeId} {td : TypeDesc} {es : Array MapEntry} {clock b d : Nat} {ms : List KV} {key val : Value}
end
end Go.Sl
namespace Go.Sl
attribute [irreducible] At G GL GA OpF OpR
end Go.Sl
namespace Go.Sl
open Go Go.RowKit
theorem y_ {A B : Prop} (h : B) (f : B → A := by first | exact g_seq | exact at_code | exact g_skip | exact g_block | exact g_exit rfl | exact g_cond_t rfl | exact g_cond_f rfl) : A := f h
theorem u_ {A B : Prop} (h : B) (f : B → A := by first | exact gl_guard_no rfl rfl rfl rfl rfl rfl rfl | exact gl_guard_un rfl rfl rfl rfl rfl rfl) : A := f h
theorem n_ {A B : Prop} (h : B) (f : B → A := by first | exact gl_nil | exact g_seq | exact at_code | exact g_skip | exact g_block | exact g_exit rfl | exact g_cond_t rfl | exact g_cond_f rfl) : A := f h
theorem x_ {A B : Prop} (h : B) (f : B → A := by first | exact gl_nil | exact g_region | exact g_seq | exact at_code | exact g_skip | exact g_block | exact g_exit rfl | exact g_cond_t rfl | exact g_cond_f rfl) : A := f h
theorem i_ {α : Type} {p : α → Prop} : ∀ w, p w → p w := fun _ h => h
theorem j_ {L' L : Lcs} (h : Sub L' L := by repeat first | exact Sub.nil _ | refine Sub.cons rfl ?_) : Sub L' L := h
theorem k_ {p : Prop} (h : p := by first | exact fun _ h => h | (repeat first | exact sub_nil | refine sub_cons (by repeat first | exact List.Mem.head _ | apply List.Mem.tail) ?_)) : p := h
theorem OpF.eb {P : Program} {o : Oper} {L : Lcs} {b q : Bool} (h : OpF P o L (.bool b)) (e : q = b) : OpF P o L (.bool q) := h.eq (congrArg Value.bool e.symm)
theorem z_1 {p : Prop} (h : p := by exact s_fieldAddr rfl (by rfl) (by infer_instance) (by decide)) : p := h
theorem z_2 {p : Prop} (h : p := by (intro q hq; simp [Value.cells] at hq; first | (subst hq; rfl) | (rcases hq with rfl | rfl | rfl | rfl | rfl | rfl | rfl | rfl <;> rfl) | (rcases hq with rfl | rfl | rfl | rfl | rfl | rfl | rfl | rfl | rfl | rfl | rfl | rfl | rfl | rfl | rfl | rfl | rfl | rfl | rfl | rfl <;> rfl))) : p := h
theorem z_3 {p : Prop} (h : p := by repeat first|exact .del|apply Upd.there) : p := h
theorem z_4 {p : Prop} (h : p := by first | exact s_pick_t rfl rfl | exact s_pick_f rfl rfl) : p := h
theorem z_5 {p : Prop} (h : p := by kernel_rfl) : p := h
theorem z_6 {p : Prop} (h : p := by repeat first|exact .here|apply Upd.there) : p := h
theorem z_7 {p : Prop} (h : p := by rfl) : p := h
theorem z_8 {p : Prop} (h : p := by simp) : p := h
section
variable {P : Program} {N : Nat} {K R : Kont} {E : List (Nat × Kont)} {L : Lcs} {F : Snap} {H Hk : List As} {ops : Array Oper} {rs : Rs} {done : List Nat} {n d : Nat} {rest : List Oper} {o oj : Oper} {v : Value} {ty : TypeId} {pos : String} {af : Array Edge}
theorem f_ (s : OpF P o L v) (h : GL P N ops rest K E R ((d, v) :: L) F H) (hg : o.guard = none := by exact rfl) (hdst : o.dst = some d := by exact rfl) (hd : Nat.blt d N = true := by exact rfl) : GL P N ops (o :: rest) K E R L F H := gl_f s hg hdst hd h
theorem r_ (s : OpR P o L F H v) (h : GL P N ops rest K E R ((d, v) :: L) F H) (hg : o.guard = none := by exact rfl) (hdst : o.dst = some d := by exact rfl) (hd : Nat.blt d N = true := by exact rfl) : GL P N ops (o :: rest) K E R L F H := gl_r s hg hdst hd h
theorem m_ {x : Operand} (h : GL P N ops rest K E R ((d, v) :: L) F H) (hx : ev L x = some v := by exact rfl) (hd : Nat.blt d N = true := by exact rfl) : GL P N ops (⟨some d, .move x, ty, pos, af, none⟩ :: rest) K E R L F H := gl_f (s_move hx) rfl rfl hd h
theorem a_ {x : Operand} (h : GL P N ops rest K E R ((d, v) :: L) F H) (hx : ev L x = some v := by exact rfl) (hd : Nat.blt d N = true := by exact rfl) : GL P N ops (⟨some d, .assign x, ty, pos, af, none⟩ :: rest) K E R L F H := gl_f (s_assign hx) rfl rfl hd h
theorem s_ (i : Nat) {j t : Nat} {b q : Bool} (h : GA P N ops rs Hk n (i :: done) K E R ((d, undef) :: L) F H) (hi : ops[i]? = some o := by exact rfl) (hg : o.guard = some (j, b) := by exact rfl) (hj : ops[j]? = some oj := by exact rfl) (ht : oj.dst = some t := by exact rfl) (hv : find L t = some (.bool q) := by exact rfl) (hne : q = !b := by exact rfl) (hdst : o.dst = some d := by exact rfl) (hd : Nat.blt d N = true := by exact rfl) (hc : canTake ops rs done i = true := by kernel_rfl) : GA P N ops rs Hk (n + 1) done K E R L F H := ga_skip i hi hg hj ht hv hne hdst hd hc h
theorem t_ (i : Nat) {j t : Nat} {b : Bool} (h : GA P N ops rs Hk n (i :: done) K E R ((d, undef) :: L) F H) (hi : ops[i]? = some o := by exact rfl) (hg : o.guard = some (j, b) := by exact rfl) (hj : ops[j]? = some oj := by exact rfl) (ht : oj.dst = some t := by exact rfl) (hv : find L t = some undef := by exact rfl) (hdst : o.dst = some d := by exact rfl) (hd : Nat.blt d N = true := by exact rfl) (hc : canTake ops rs done i = true := by kernel_rfl) : GA P N ops rs Hk (n + 1) done K E R L F H := ga_skip_un i hi hg hj ht hv hdst hd hc h
theorem w_ (i : Nat) (hi : ops[i]? = some o) (s : OpF P o L v) (h : GA P N ops rs Hk n (i :: done) K E R ((d, v) :: L) F H) (hg : o.guard = none := by exact rfl) (hdst : o.dst = some d := by exact rfl) (hd : Nat.blt d N = true := by exact rfl) (hc : canTake ops rs done i = true := by kernel_rfl) : GA P N ops rs Hk (n + 1) done K E R L F H := ga_free i hi s hg hdst hd hc h
theorem v_ {A B : Prop} (h : B) (f : B → A := by exact gl_guard_yes rfl rfl rfl) : A := f h
end
end Go.Sl
