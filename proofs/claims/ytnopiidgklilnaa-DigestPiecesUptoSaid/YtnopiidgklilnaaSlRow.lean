/- From a contract of the walk to a row of the second kind: a law that answers true and turns nothing of what was there. -/
import Derived.Test.YtnopiidgklilnaaSl
import Derived.Carry
import Derived.ChangeSame
import Derived.OpenShut
import Derived.SizedLaws
import Derived.JoinedCond
import Derived.JoinedOf
import Derived.Deep.CondSized
import Derived.ChangeMaps5
import Derived.SliceStrings

namespace Go.Sl
open Go Go.RowKit Go.WideShapes Go.ChangeShapes Go.ChangeMaps
set_option linter.unusedVariables false
set_option linter.unusedSimpArgs false

theorem Hp.below {W w' : World} {A : List As} (h : Hp (snap W) w' A) : Below W.heap.size W w' := by
  have hk : ∀ k, k < W.heap.size → w'.heap[k]? = W.heap[k]? := fun k hk => by
    have e : W.heap[k]? = some W.heap[k] := Array.getElem?_eq_getElem hk
    rw [e]
    exact h.keep k _ (by show hpBut W [] k = _; rw [hpBut_nil]; exact e)
  refine ⟨h.os, h.tape, h.output, ?_, hk⟩
  rcases Nat.lt_or_ge w'.heap.size W.heap.size with hlt | hge
  · have h1 := hk w'.heap.size hlt
    rw [Array.getElem?_eq_getElem hlt] at h1
    simp at h1
  · exact hge

section
variable {H : Type} {enc : TypeId × Value → H} {P : Program}
theorem law_post {f : Func} {s : ChangeSpec} {apart fresh handsOn again : Bool} {W W' : World} {args : Array Value} {v : Value} {ds gs : List (DataW H)} {before pa pv : List MemPlace}
    (hW : DataW.Whole enc P f.params.toList s.vars apart W args.toList ds gs before)
    (hres : ∀ (b : Nat) (sp : Nat → Bool) (hd : Bool), DataW.TrodAll enc P W' b sp hd f.resultTypes.toList (v.resultList f.resultTypes.size) (s.fn H (ds ++ gs)).results [])
    (hargs : ∀ sp : Nat → Bool, (∀ p ∈ before, sp p.block = true) → DataW.TrodAll enc P W' 0 sp true f.params.toList args.toList (s.fn H (ds ++ gs)).args pa)
    (hvars : ∀ sp : Nat → Bool, (∀ p ∈ before, sp p.block = true) → DataW.TrodVars enc P W' sp s.vars (s.fn H (ds ++ gs)).vars pv)
    (hps : before = pa ++ pv) (hb : Below W.heap.size W W')
    (hok : ∀ (j : Nat) (t : TypeId) (r : Value), f.resultTypes[j]? = some t → (v.resultList f.resultTypes.size)[j]? = some r → Value.okWide P W' .any 0 t r) :
    s.post enc P f apart fresh handsOn again W args v W' := by
  have hlt : ∀ p ∈ before, p.block < W.heap.size := fun p hp => hW.lt p hp
  have hold : ∀ p ∈ before, (fun b => decide (b < W.heap.size)) p.block = true := fun p hp => by simpa using hlt p hp
  refine ⟨ds, gs, before, [], pa, pv, hW, hres _ _ _, hargs _ hold, hvars _ hold, World.keptBut_mono (fun p hp => ⟨hp, ?_⟩) (hb.frame (· ∈ before)), fun _ => ?_⟩
  · rw [hps, List.mem_append] at hp
    exact Or.inr hp
  · obtain ⟨_, _, _, _, _, hz, hn⟩ := hW
    refine ⟨hok, _, _, ([] ++ pa) ++ pv, ⟨[] ++ pa, pv, trodAll_append (hargs _ (fun _ _ => rfl)) (hres _ _ _), hvars _ (fun _ _ => rfl), rfl, ?_, ?_⟩, ?_⟩
    · intro b off hp
      have hin : MemPlace.cell b off ∈ before := by rw [hps]; simpa using hp
      rw [hb.frozen (hlt _ hin)]
      exact hz b off hin
    · intro ha
      have := hn ha
      rw [hps] at this
      simpa using this
    · intro p hp _
      rw [hps]
      simpa using hp

theorem trodAll_below (hl : laidOutB P = true) {W W' : World} (hb : Below W.heap.size W W') (sp : Nat → Bool) : ∀ {ts : List TypeId} {vs : List Value} {ds : List (DataW H)} {ps : List MemPlace},
    (ts.all fun t => P.readableRec t && decide (t < P.types.size)) = true → DataW.TrodAll enc P W 0 (fun _ => true) true ts vs ds ps → (∀ p ∈ ps, p.block < W.heap.size) → (∀ p ∈ ps, sp p.block = true) →
      DataW.TrodAll enc P W' 0 sp true ts vs ds ps
  | [], vs, ds, ps, _, h, _, _ => by
    obtain ⟨rfl, rfl, rfl⟩ := trodAll_nil h
    rfl
  | t :: ts, vs, ds, ps, hr, h, hlt, hs => by
    obtain ⟨v, vs', d, ds', p, q, rfl, rfl, rfl, h1, h2⟩ := trodAll_cons h
    simp only [List.all_cons, Bool.and_eq_true, decide_eq_true_eq] at hr
    refine ⟨p, q, WideElems.Trod_stays hl hr.1.1 hr.1.2 h1 (fun x hx => hb.same (hlt x (List.mem_append.2 (.inl hx)))) (fun x hx => hs x (List.mem_append.2 (.inl hx))), ?_, rfl⟩
    exact trodAll_below hl hb sp (by simpa using hr.2) h2 (fun x hx => hlt x (List.mem_append.2 (.inr hx))) (fun x hx => hs x (List.mem_append.2 (.inr hx)))

/-- THE STEP FROM A CONTRACT TO THE ROW -/
theorem law_true {f : FuncId} {fn : Func} {s : ChangeSpec} {fresh handsOn again : Bool} {W : World} {vs : List Value} {ds gs : List (DataW H)} {before : List MemPlace} {Pre : Heap → Prop} {t : TypeId}
    (hc : Pu P f vs Pre (.bool true)) (hpre : Pre (hp W)) (hvs : s.vars = [])
    (hW : DataW.Whole enc P fn.params.toList s.vars false W vs ds gs before) (hres : fn.resultTypes = #[t]) (ht : P.underlying t = some .bool)
    (hl : laidOutB P = true) (hr : (fn.params.toList.all fun t => P.readableRec t && decide (t < P.types.size)) = true)
    (hs : s.fn H (ds ++ gs) = { results := [.lit (.bool true)], args := ds }) :
    Calls P f vs.toArray W fun e W' => ∃ v, e = .returned v ∧ s.post enc P fn false fresh handsOn again W vs.toArray v W' := by
  refine (hc W [] rfl List.nodup_nil (by rw [hpBut_nil]; exact hpre)).mono ?_
  rintro e W' ⟨v, A, rfl, ⟨rfl, rfl⟩, hh⟩
  refine ⟨_, rfl, ?_⟩
  have hW' := hW
  have hlt := fun p hp => hW'.lt p hp
  obtain ⟨p, q, hA, hV, hpq, hfz, hnd⟩ := hW
  rw [hvs] at hV
  obtain ⟨rfl, rfl⟩ := trodVars_none hV
  have hb := Hp.below hh
  refine law_post (pa := p) (pv := []) (args := vs.toArray) (by simpa using hW') (fun b sp hd => ?_) (fun sp hsp => ?_) (fun sp hsp => ?_) hpq hb ?_
  · rw [hs, hres]
    exact trodAll_cons_mk (shut_bool ht true) trodAll_mk0
  · rw [hs]
    refine trodAll_below hl hb sp hr hA (fun x hx => hlt x ?_) (fun x hx => hsp x ?_) <;> (rw [hpq]; simpa using hx)
  · rw [hs, hvs]; rfl
  · exact ok_one hres rfl (okWide_bool_mk ht true)

/-! ### arguments opened -/
theorem arg_string {r : Reach} {b0 base : Nat} {sp : Nat → Bool} {held : Bool} {w : World} {t : TypeId} {v : Value} {d : DataW H} {ps : List MemPlace} (ht : P.underlying t = some .string) (hval : Value.okWide P w r b0 t v) (hd : DataW.Trod enc P w base sp held t v d ps) :
    ∃ l : List UInt8, v = B l ∧ d = .lit (.string l) ∧ l.length ≤ maxLen := by
  obtain ⟨s, rfl, rfl, _, hs⟩ := open_string ht hval hd
  exact ⟨s.data.toList, rfl, rfl, by rw [Array.length_toList]; exact hs⟩
def strV (ps : List (List UInt8)) : List Value := ps.map B
/-- a slice of texts -/
theorem arg_strings {r : Reach} {b0 base : Nat} {sp : Nat → Bool} {held : Bool} {w : World} {t e : TypeId} {v : Value} {d : DataW H} {ps : List MemPlace} (ht : P.underlying t = some (.slice e)) (he : P.underlying e = some .string) (hc : P.cellsOf e = 1)
    (hval : Value.okWide P w r b0 t v) (hd : DataW.Trod enc P w base sp held t v d ps) :
    ∃ (a : Option Addr) (ls : List (List UInt8)) (c : Nat), v = .slice a ls.length c ∧ ls.length ≤ c ∧ c ≤ maxLen ∧ RdS (hp w) a (strV ls) ∧ ((d = .nil ∧ ls = []) ∨ ∃ spare, d = .slice (ls.map fun l => .lit (.string l)) spare) := by
  obtain ⟨a0, n0, c0, rfl⟩ := okWide_slice ht hval
  obtain ⟨fuel, hf⟩ := hd
  rcases open_strings ht he hc hf with ⟨e1, e2⟩ | ⟨a, len, cap, ss, e1, _, h1, h2, h3, e2, h4, h5⟩
  · injection e2 with e2 e3
    simp [Value.cells] at e1
    obtain ⟨rfl, rfl, rfl⟩ := e1
    exact ⟨none, [], 0, rfl, Nat.le_refl _, Nat.zero_le _, RdS.nil _ _, .inl ⟨e2, rfl⟩⟩
  · injection e2 with e2 e3
    simp [Value.cells] at e1
    obtain ⟨rfl, rfl, rfl⟩ := e1
    have hl : n0 ≤ ss.length := by rw [h3]; split <;> omega
    refine ⟨some a, (ss.take n0).map (·.data.toList), c0, ?_, ?_, h2, ?_, .inr ⟨strs (ss.drop n0), ?_⟩⟩
    · simp [Nat.min_eq_left hl]
    · simp; omega
    · intro _
      refine ⟨a, rfl, fun j u hu => ?_⟩
      simp only [strV, List.getElem?_map, List.getElem?_take, Option.map_eq_some_iff] at hu
      obtain ⟨l, ⟨s, hs, rfl⟩, rfl⟩ := hu
      split at hs
      · have hj := (List.getElem?_eq_some_iff.1 hs).1
        rw [cell?_hp, h4 j hj, List.getD_eq_getElem?_getD, hs]; rfl
      · cases hs
    · rw [e2]; simp only [strs, List.map_map]; rfl
end
end Go.Sl
