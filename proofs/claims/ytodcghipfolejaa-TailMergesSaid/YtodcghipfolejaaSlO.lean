/- More rules of the walk. -/
import Derived.Test.YtodcghipfolejaaU8
import Derived.Scope
namespace Go.Sl
open Go Go.RowKit
set_option linter.unusedVariables false
set_option linter.unusedSimpArgs false

/-! ## blocks that an assertion names -/
def As.blks : As → List Nat
  | .blk b _ => [b]
  | .own (.slice (some a) _ _) _ _ _ => [a.block]
  | _ => []
theorem As.sat_blks {h : Heap} {x : As} {bs : List Nat} (hs : x.sat h bs) : bs = x.blks := by
  cases x with
  | blk b o => exact hs.1
  | own v t sz xs =>
    rcases hs with ⟨rfl, _, rfl⟩ | ⟨g, rfl, ⟨o, n, cap, pre, post, fr, rfl, _⟩⟩
    · rfl
    · rfl
theorem Sat.blks {h : Heap} : ∀ {H : List As} {bs : List Nat}, Sat h H bs → bs = H.flatMap As.blks
  | [], _, hs => hs
  | x :: r, _, ⟨b1, b2, e, h1, h2⟩ => by rw [e, As.sat_blks h1, Sat.blks h2]; rfl
def As.isC : As → Bool
  | .blk _ o => o.isCells
  | .own .. => true
theorem As.sat_cells {h : Heap} {x : As} {bs : List Nat} (hs : x.sat h bs) (hc : x.isC = true) : ∀ b ∈ bs, ∃ o, h b = some o ∧ o.isCells = true := by
  cases x with
  | blk b o => obtain ⟨rfl, e⟩ := hs; intro c hc'; simp at hc'; subst hc'; exact ⟨o, e, hc⟩
  | own v t sz xs =>
    rcases hs with ⟨_, _, rfl⟩ | ⟨g, rfl, ⟨o, n, cap, pre, post, fr, _, e, _⟩⟩
    · intro c hc; cases hc
    · intro c hc'; simp at hc'; subst hc'; exact ⟨_, e, rfl⟩
theorem Sat.cells {h : Heap} : ∀ {H : List As} {bs : List Nat}, Sat h H bs → H.all As.isC = true → ∀ b ∈ bs, ∃ o : Obj, h b = Option.some o ∧ o.isCells = true
  | [], _, hs, _, b, hb => by rw [show _ = [] from hs] at hb; cases hb
  | x :: r, _, ⟨b1, b2, e, h1, h2⟩, hc, b, hb => by
    rw [List.all_cons, Bool.and_eq_true] at hc
    rw [e, List.mem_append] at hb
    rcases hb with hb | hb
    · exact As.sat_cells h1 hc.1 b hb
    · exact Sat.cells h2 hc.2 b hb
@[simp] theorem blks_blk (b : Nat) (o : Obj) : (As.blk b o).blks = [b] := rfl
/-- a block without cells, not of ours, is turned -/
theorem hp_grown {F : Snap} {W W' : World} {H : List As} {row : Option Nat} {B : Nat} (h : Hp F W H) (hc : H.all As.isC = true) (hB : ∀ b, (F.heap b).isSome = true → b < B) (hg : W.grownBy W' row) (hr : ∀ r, row = some r → B ≤ r ∧ ∃ o : Obj, W.heap[r]? = some o ∧ o.isCells = false) : Hp F W' H := by
  obtain ⟨bs, hs, hn, hf⟩ := h.own
  refine ⟨hg.os.trans h.os, hg.tape.trans h.tape, hg.output.trans h.output, fun b o hb => ?_, bs, hs.same (fun b hb => ?_), hn, hf⟩
  · have h1 := h.keep b o hb
    have h2 := hB b (by rw [hb]; rfl)
    exact (hg.block b (Array.getElem?_eq_some_iff.1 h1).1 (fun e => by have := (hr b e.symm).1; omega)).trans h1
  · obtain ⟨o, h1, h2⟩ := hs.cells hc b hb
    refine hg.block b (Array.getElem?_eq_some_iff.1 h1).1 (fun e => ?_)
    obtain ⟨o', h3, h4⟩ := (hr b e.symm).2
    have h1' : W.heap[b]? = some o := h1
    rw [h1'] at h3; cases h3; rw [h2] at h4; cases h4
/-- what a walk over cells of one's own did: nothing that is no cells was touched -/
theorem hp_keeps {W W' : World} {H A : List As} {bs : List Nat} (hs : Sat (hp W) H bs) (hc : H.all As.isC = true) (h : Hp (snapBut W bs) W' A) (hA : ∀ b ∈ bs, b ∈ A.flatMap As.blks) (B : Nat) : KeepsFrom B W W' := by
  have hk : ∀ k o, k ∉ bs → W.heap[k]? = some o → W'.heap[k]? = some o := fun k o hk ho => h.keep k o (by simp [snapBut, hpBut, hk, ho])
  refine ⟨?_, fun k o _ ho hco => hk k o (fun hb => ?_) ho⟩
  · rcases Nat.lt_or_ge W'.heap.size W.heap.size with hlt | hge
    · have e := Array.getElem?_eq_getElem hlt
      by_cases hb : W'.heap.size ∈ bs
      · obtain ⟨ba, ha, _, _⟩ := h.own
        have h1 := hA _ hb
        rw [← ha.blks] at h1
        have h2 := ha.some _ h1
        simp [hp] at h2
      · have h3 := hk _ _ hb e
        simp at h3
    · exact hge
  · obtain ⟨o', h1, h2⟩ := hs.cells hc k hb
    have h1' : W.heap[k]? = some o' := h1
    rw [ho] at h1'; cases h1'; rw [hco] at h2; cases h2
/-- ours in two -/
theorem hp_split {F : Snap} {w : World} {C R : List As} (h : Hp F w (C ++ R)) : ∃ bc br, Sat (hp w) C bc ∧ Sat (hp w) R br ∧ (bc ++ br).Nodup ∧ ∀ b ∈ bc ++ br, F.heap b = none := by
  obtain ⟨bs, hs, hn, hf⟩ := h.own
  obtain ⟨bc, br, rfl, h1, h2⟩ := Sat.split hs
  exact ⟨bc, br, h1, h2, hn, hf⟩
theorem sat_blk {h : Heap} {b : Nat} {o : Obj} : ∀ {R : List As} {br : List Nat}, Sat h R br → .blk b o ∈ R → b ∈ br ∧ h b = some o
  | [], _, _, hm => by cases hm
  | x :: r, _, ⟨b1, b2, e, h1, h2⟩, hm => by
    rw [List.mem_cons] at hm
    rcases hm with rfl | hm
    · obtain ⟨rfl, e2⟩ := h1; exact ⟨by rw [e]; simp, e2⟩
    · obtain ⟨h3, h4⟩ := sat_blk h2 hm; exact ⟨by rw [e]; simp [h3], h4⟩
theorem but_blk {w : World} {R : List As} {bc br : List Nat} {b : Nat} {o : Obj} (hR : Sat (hp w) R br) (hn : (bc ++ br).Nodup) (hm : .blk b o ∈ R) : (snapBut w bc).heap b = some o := by
  obtain ⟨h1, h2⟩ := sat_blk hR hm
  have h3 : b ∉ bc := fun hb => (List.nodup_append.1 hn).2.2 b hb b h1 rfl
  have h4 : w.heap[b]? = some o := h2
  simp [snapBut, hpBut, h3, h4]
theorem but_le {F : Snap} {w : World} {H : List As} {bc br : List Nat} (h : Hp F w H) (hf : ∀ b ∈ bc ++ br, F.heap b = none) : Heap.le F.heap (snapBut w bc).heap := fun b o hb => by
  have h1 : w.heap[b]? = some o := h.keep b o hb
  have h2 : b ∉ bc := fun hm => by have := hf b (by simp [hm]); rw [hb] at this; cases this
  simp [snapBut, hpBut, h1, h2]
theorem but_lt {w : World} {bc : List Nat} (b : Nat) (h : ((snapBut w bc).heap b).isSome = true) : b < w.heap.size := by
  unfold snapBut hpBut at h
  simp only at h
  split at h
  · cases h
  · simpa using h
/-- a round's walk, begun from ours as it lies -/
theorem hp_round {F : Snap} {W : World} {H : List As} (h : Hp F W H) : ∃ bs, Sat (hp W) H bs ∧ Hp (snapBut W bs) W H ∧ ∀ W' A, Hp (snapBut W bs) W' A → Hp F W' A := by
  obtain ⟨bs, hs, hn, hf⟩ := h.own
  refine ⟨bs, hs, Hp.start hs hn, fun W' A k => ?_⟩
  have h1 := Hp.back (F := F) (w := W) (w' := W') (C := H) (R := []) (A := A) (bc := bs) (br := []) (by simpa using h) hs rfl (by simpa using hn) (by simpa using hf) k
  simpa using h1

/-! ## activations that defer -/
def adD (ds : List Deferred) (a : Act) : Act := { a with defers := a.defers ++ ds }
def shQ (ds : List Deferred) (Q : Exit → Act → World → Prop) : Exit → Act → World → Prop := fun e a w => ∃ a0, a = adD ds a0 ∧ Q e a0 w
theorem put_adD (ds : List Deferred) (a : Act) (d : Option Tmp) (v : Value) : (adD ds a).put d v = adD ds (a.put d v) := by cases d <;> rfl
theorem adD_fits {N : Nat} {L : Lcs} {a : Act} (h : Fits N L a) (d : Deferred) : { a with defers := d :: a.defers } = adD [d] a := by
  unfold adD; rw [h.defers]; rfl
section
variable {P : Program} {Q : Exit → Act → World → Prop}
theorem wpOp_adD {ops : Array Oper} (ds : List Deferred) {i : Nat} {K K' : Act → World → Prop} (hK : ∀ a w, K a w → K' (adD ds a) w) {a : Act} {w : World} (h : wpOp P ops Q i K a w) : wpOp P ops (shQ ds Q) i K' (adD ds a) w := by
  unfold wpOp at *
  split
  · rename_i ho; simp only [ho] at h; exact hK _ _ h
  · rename_i o ho
    simp only [ho] at h
    have et : (adD ds a).tmps = a.tmps := rfl
    have ee : (adD ds a).eval = a.eval := by funext x; cases x <;> rfl
    rw [et]
    split
    · rename_i hw
      simp only [hw, if_true] at h
      rcases h with h | ⟨h, ⟨a1, w1, hq⟩⟩
      · left
        unfold Oper.wp at *
        rw [ee]
        generalize (execOp a.eval o).run P w = r at *
        cases r with
        | ok n w' =>
          cases n <;> simp only [Oper.upon] at *
          case value v => rw [put_adD]; exact hK _ _ h
          case skip => rw [put_adD]; exact hK _ _ h
          case defer d => have e9 := hK _ _ h; rw [← put_adD] at e9; exact e9
          case enter f args =>
            refine h.mono (fun e w'' q => ?_)
            cases e with
            | returned v => simp only at q ⊢; rw [put_adD]; exact hK _ _ q
            | panicked c => exact ⟨_, rfl, q⟩
            | outgrown => obtain ⟨a1, w1, q⟩ := q; exact ⟨_, w1, a1, rfl, q⟩
          case row row args => exact h.mono (fun v w'' q => by rw [put_adD]; exact hK _ _ q)
        | halt x w' => cases x <;> simp only [Oper.upon] at * <;> first | exact h.elim | exact ⟨_, rfl, h⟩
      · right
        refine ⟨?_, ⟨_, w1, a1, rfl, hq⟩⟩
        unfold Oper.asks at *
        rw [ee]; exact h
    · rename_i hw
      simp only [hw] at h
      rw [put_adD]; exact hK _ _ h
theorem wpAny_adD {ops : Array Oper} {md : Region.Mode} (ds : List Deferred) : ∀ (n : Nat) (listed : Array Bool) (a : Act) (w : World), wpAny P md ops Q n listed a w → wpAny P md ops (shQ ds Q) n listed (adD ds a) w
  | 0, _, _, _, h => ⟨h.1, _, rfl, h.2⟩
  | n + 1, _, _, _, h => ⟨fun hr => ⟨_, rfl, h.1 hr⟩, fun i hi => wpOp_adD ds (fun a w h => wpAny_adD ds n _ a w h) (h.2 i hi)⟩
end
/-- a region that draws, where calls are deferred -/
theorem draw_adD {n N nn : Nat} {P : Program} {id : Nat} {l : List Oper} [hm : HM P] {K : Kont} {L : Lcs} {F : Snap} {H Hk : List As} {Q : Exit → Act → World → Prop} (ds : List Deferred) (rs : List Nat) (hn : nn = l.toArray.size)
    (h : GA P N l.toArray rs Hk nn [] K [] (fun _ _ => False) L F H) (hQ : ∀ a w, K a w → Q .normal (adD ds a) w) {a : Act} {w : World} (hf : Fits N L a) (hw : Hp F w H) : (Code.region id l.toArray true).wpIn (Fn none) n P Q (adD ds a) w := by
  subst hn
  unfold GA at h
  have h1 := wpAny_adD (P := P) (md := .any) ds _ _ a _ (any_of_anyN _ _ _ _ (h a _ hf hw.drew))
  refine (wpIn_wide (n := n)).2 (Code.wp_mono ?_ (wp_region_any hm.h h1))
  rintro e a' w' ⟨a0, rfl, q⟩
  cases e with
  | normal => exact hQ _ _ q
  | exit id => simp [MQ] at q
  | ret => exact q.elim
  | goto l => exact q.elim
  | panic c => exact q.elim
  | outgrown => exact q.elim
theorem gn_scope {n : Nat} {P : Program} {N : Nat} {Q : Exit → Act → World → Prop} {L : Lcs} {F : Snap} {H : List As} {c : Code} (h : GN none n P N c (Exit.noGoto Q) L F H) : GN none n P N (.scope c) Q L F H := fun a w hf hw =>
  (wpIn_wide (n := n)).2 (wp_scope_straight ((wpIn_wide (n := n)).1 (h a w hf hw)))
/-- the function's end behind one mark -/
theorem leaves_mark {n : Nat} {P : Program} {fn : Func} {R : Ending → World → Prop} {a : Act} {w : World} {D : Nat} {ds : List Deferred} (hd : a.defers = { target := .collected D, args := #[] } :: ds) (hds : ds = []) (hK : w.heap[D]? = some (.deferred (some [])))
    (h : ∃ v, (results fn a.tmps).run P (w.putObj D (.deferred none)) = .ok v (w.putObj D (.deferred none)) ∧ R (.returned v) (w.putObj D (.deferred none))) : bodyPostM (Fn none) n P fn R .normal a w ∧ bodyPostM (Fn none) n P fn R .ret a w := by
  have : LeavesInM (Fn none) n P fn a.tmps R a.defers .returning w := by
    rw [hd, hds]
    exact ⟨by simp, .inl ⟨D, _, rfl, run_takeDeferred hK, h⟩⟩
  exact ⟨this, this⟩
/-- the parameters of a round -/
theorem fits_round2 {N : Nat} {L : Lcs} {a : Act} (h : Fits N L a) {p q : Nat} (hp : Nat.blt p N = true) (hq : Nat.blt q N = true) (u v : Value) : Fits N ((q, v) :: (p, u) :: L) { tmps := (a.tmps.setIfInBounds p u).setIfInBounds q v, defers := [] } := by
  have h1 := (h.put hp u).put hq v
  exact ⟨rfl, h1.size, h1.at_⟩
section
variable {P : Program} {N : Nat} {K R : Kont} {E : List (Nat × Kont)} {L : Lcs} {F : Snap} {H Hk : List As} {ops : Array Oper} {rs done : List Nat} {n : Nat}
/-- three that may come up, whichever first -/
theorem ga_three (i j k : Nat) {o o' o'' : Oper} (hi : ops[i]? = some o) (hj : ops[j]? = some o') (hk : ops[k]? = some o'') (hr : (Region.ready .any ops (listedOf ops.size done) == [i, j, k]) = true)
    (h : GL P N ops [o] (fun a w => (ndOf ops rs i = true → True → Keeps F Hk w) ∧ anyN P ops (MQ K E R) (fun w => Keeps F Hk w) (ndOf ops rs) n (listedOf ops.size (i :: done)) a w) [] (fun _ _ => False) L F H)
    (h' : GL P N ops [o'] (fun a w => (ndOf ops rs j = true → True → Keeps F Hk w) ∧ anyN P ops (MQ K E R) (fun w => Keeps F Hk w) (ndOf ops rs) n (listedOf ops.size (j :: done)) a w) [] (fun _ _ => False) L F H)
    (h'' : GL P N ops [o''] (fun a w => (ndOf ops rs k = true → True → Keeps F Hk w) ∧ anyN P ops (MQ K E R) (fun w => Keeps F Hk w) (ndOf ops rs) n (listedOf ops.size (k :: done)) a w) [] (fun _ _ => False) L F H) : GA P N ops rs Hk (n + 1) done K E R L F H := by
  unfold GL at h h' h''
  unfold GA
  intro a w hf hw
  have hr' := beq_iff_eq.1 hr
  refine ⟨fun h0 => (by rw [h0] at hr'; cases hr'), fun q hq => ?_⟩
  rw [hr'] at hq
  simp at hq
  rcases hq with rfl | rfl | rfl
  · exact wpOp_of_gl hi (h a w hf hw)
  · exact wpOp_of_gl hj (h' a w hf hw)
  · exact wpOp_of_gl hk (h'' a w hf hw)
theorem perm_up {x : As} {T T' : List As} (u : Upd H x [] T') (h : T'.Perm T) : H.Perm (x :: T) := (u.perm rfl).trans (h.cons _)
theorem at_cutE {ι : Type} {L' : ι → Lcs} {H' : ι → List As} (i : ι) (hs : Sub (L' i) L) (hH : ∀ w, Hp F w H → Hp F w (H' i)) : At N (fun a w => ∃ i, Fits N (L' i) a ∧ Hp F w (H' i)) L F H := by
  unfold At
  intro a w hf hw
  exact ⟨i, hf.sub hs, hH w hw⟩
theorem gn_cutE {m : Nat} {x y : Code} {Q : Exit → Act → World → Prop} {ι : Type} (L' : ι → Lcs) (H' : ι → List As) (h : G P N x (fun a w => ∃ i, Fits N (L' i) a ∧ Hp F w (H' i)) [] (fun _ _ => False) L F H) (h2 : ∀ i, GN none m P N y Q (L' i) F (H' i)) : GN none m P N (.seq x y) Q L F H := by
  refine gn_seq (fun a w hf hw => (wpIn_wide (n := m)).2 (Code.wp_mono (fun e a w q => ?_) ((show ∀ a w, Fits N L a → Hp F w H → _ by unfold G at h; exact h) a w hf hw)))
  cases e with
  | normal => obtain ⟨i, h3, h4⟩ := q; exact h2 i a w h3 h4
  | exit id => simp [MQ] at q
  | ret => exact q.elim
  | goto l => exact q.elim
  | panic c => exact q.elim
  | outgrown => exact q.elim
end
end Go.Sl
