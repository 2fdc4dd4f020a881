/- From a contract of the walk to a row of the second kind: a law that answers true and turns nothing of what was there. -/
import Derived.Test.YtodcghipfolejaaCSl
import Derived.Carry
import Derived.ChangeSame
import Derived.OpenShut
import Derived.SizedLaws
import Derived.JoinedCond
import Derived.JoinedOf
import Derived.Deep.CondSized
import Derived.ChangeMaps5
import Derived.SliceStrings

namespace Go.Sl
open Go Go.RowKit Go.WideShapes Go.ChangeShapes Go.ChangeMaps
set_option linter.unusedVariables false
set_option linter.unusedSimpArgs false

theorem Hp.below {W w' : World} {A : List As} (h : Hp (snap W) w' A) : Below W.heap.size W w' := by
  have hk : ∀ k, k < W.heap.size → w'.heap[k]? = W.heap[k]? := fun k hk => by
    have e : W.heap[k]? = some W.heap[k] := Array.getElem?_eq_getElem hk
    rw [e]
    exact h.keep k _ (by show hpBut W [] k = _; rw [hpBut_nil]; exact e)
  refine ⟨h.os, h.tape, h.output, ?_, hk⟩
  rcases Nat.lt_or_ge w'.heap.size W.heap.size with hlt | hge
  · have h1 := hk w'.heap.size hlt
    rw [Array.getElem?_eq_getElem hlt] at h1
    simp at h1
  · exact hge

section
variable {H : Type} {enc : TypeId × Value → H} {P : Program}
theorem law_post {f : Func} {s : ChangeSpec} {apart fresh handsOn again : Bool} {W W' : World} {args : Array Value} {v : Value} {ds gs : List (DataW H)} {before pa pv : List MemPlace}
    (hW : DataW.Whole enc P f.params.toList s.vars apart W args.toList ds gs before)
    (hres : ∀ (b : Nat) (sp : Nat → Bool) (hd : Bool), DataW.TrodAll enc P W' b sp hd f.resultTypes.toList (v.resultList f.resultTypes.size) (s.fn H (ds ++ gs)).results [])
    (hargs : ∀ sp : Nat → Bool, (∀ p ∈ before, sp p.block = true) → DataW.TrodAll enc P W' 0 sp true f.params.toList args.toList (s.fn H (ds ++ gs)).args pa)
    (hvars : ∀ sp : Nat → Bool, (∀ p ∈ before, sp p.block = true) → DataW.TrodVars enc P W' sp s.vars (s.fn H (ds ++ gs)).vars pv)
    (hps : before = pa ++ pv) (hb : Below W.heap.size W W')
    (hok : ∀ (j : Nat) (t : TypeId) (r : Value), f.resultTypes[j]? = some t → (v.resultList f.resultTypes.size)[j]? = some r → Value.okWide P W' .any 0 t r) :
    s.post enc P f apart fresh handsOn again W args v W' := by
  have hlt : ∀ p ∈ before, p.block < W.heap.size := fun p hp => hW.lt p hp
  have hold : ∀ p ∈ before, (fun b => decide (b < W.heap.size)) p.block = true := fun p hp => by simpa using hlt p hp
  refine ⟨ds, gs, before, [], pa, pv, hW, hres _ _ _, hargs _ hold, hvars _ hold, World.keptBut_mono (fun p hp => ⟨hp, ?_⟩) (hb.frame (· ∈ before)), fun _ => ?_⟩
  · rw [hps, List.mem_append] at hp
    exact Or.inr hp
  · obtain ⟨_, _, _, _, _, hz, hn⟩ := hW
    refine ⟨hok, _, _, ([] ++ pa) ++ pv, ⟨[] ++ pa, pv, trodAll_append (hargs _ (fun _ _ => rfl)) (hres _ _ _), hvars _ (fun _ _ => rfl), rfl, ?_, ?_⟩, ?_⟩
    · intro b off hp
      have hin : MemPlace.cell b off ∈ before := by rw [hps]; simpa using hp
      rw [hb.frozen (hlt _ hin)]
      exact hz b off hin
    · intro ha
      have := hn ha
      rw [hps] at this
      simpa using this
    · intro p hp _
      rw [hps]
      simpa using hp

theorem trodAll_below (hl : laidOutB P = true) {W W' : World} (hb : Below W.heap.size W W') (sp : Nat → Bool) : ∀ {ts : List TypeId} {vs : List Value} {ds : List (DataW H)} {ps : List MemPlace},
    (ts.all fun t => P.readableRec t && decide (t < P.types.size)) = true → DataW.TrodAll enc P W 0 (fun _ => true) true ts vs ds ps → (∀ p ∈ ps, p.block < W.heap.size) → (∀ p ∈ ps, sp p.block = true) →
      DataW.TrodAll enc P W' 0 sp true ts vs ds ps
  | [], vs, ds, ps, _, h, _, _ => by
    obtain ⟨rfl, rfl, rfl⟩ := trodAll_nil h
    rfl
  | t :: ts, vs, ds, ps, hr, h, hlt, hs => by
    obtain ⟨v, vs', d, ds', p, q, rfl, rfl, rfl, h1, h2⟩ := trodAll_cons h
    simp only [List.all_cons, Bool.and_eq_true, decide_eq_true_eq] at hr
    refine ⟨p, q, WideElems.Trod_stays hl hr.1.1 hr.1.2 h1 (fun x hx => hb.same (hlt x (List.mem_append.2 (.inl hx)))) (fun x hx => hs x (List.mem_append.2 (.inl hx))), ?_, rfl⟩
    exact trodAll_below hl hb sp (by simpa using hr.2) h2 (fun x hx => hlt x (List.mem_append.2 (.inr hx))) (fun x hx => hs x (List.mem_append.2 (.inr hx)))

/-- THE STEP FROM A CONTRACT TO THE ROW -/
theorem law_true {f : FuncId} {fn : Func} {s : ChangeSpec} {fresh handsOn again : Bool} {W : World} {vs : List Value} {ds gs : List (DataW H)} {before : List MemPlace} {Pre : Heap → Prop} {t : TypeId}
    (hc : Pu P f vs Pre (.bool true)) (hpre : Pre (hp W)) (hvs : s.vars = [])
    (hW : DataW.Whole enc P fn.params.toList s.vars false W vs ds gs before) (hres : fn.resultTypes = #[t]) (ht : P.underlying t = some .bool)
    (hl : laidOutB P = true) (hr : (fn.params.toList.all fun t => P.readableRec t && decide (t < P.types.size)) = true)
    (hs : s.fn H (ds ++ gs) = { results := [.lit (.bool true)], args := ds }) :
    Calls P f vs.toArray W fun e W' => ∃ v, e = .returned v ∧ s.post enc P fn false fresh handsOn again W vs.toArray v W' := by
  refine (hc W [] rfl List.nodup_nil (by rw [hpBut_nil]; exact hpre)).mono ?_
  rintro e W' ⟨v, A, rfl, ⟨rfl, rfl⟩, hh⟩
  refine ⟨_, rfl, ?_⟩
  have hW' := hW
  have hlt := fun p hp => hW'.lt p hp
  obtain ⟨p, q, hA, hV, hpq, hfz, hnd⟩ := hW
  rw [hvs] at hV
  obtain ⟨rfl, rfl⟩ := trodVars_none hV
  have hb := Hp.below hh
  refine law_post (pa := p) (pv := []) (args := vs.toArray) (by simpa using hW') (fun b sp hd => ?_) (fun sp hsp => ?_) (fun sp hsp => ?_) hpq hb ?_
  · rw [hs, hres]
    exact trodAll_cons_mk (shut_bool ht true) trodAll_mk0
  · rw [hs]
    refine trodAll_below hl hb sp hr hA (fun x hx => hlt x ?_) (fun x hx => hsp x ?_) <;> (rw [hpq]; simpa using hx)
  · rw [hs, hvs]; rfl
  · exact ok_one hres rfl (okWide_bool_mk ht true)

/-! ### arguments opened -/
def strV (ps : List (List UInt8)) : List Value := ps.map B
end
end Go.Sl
namespace Go.Sl
open Go Go.RowKit Go.WideShapes Go.ChangeShapes Go.ChangeMaps
set_option linter.unusedVariables false
set_option linter.unusedSimpArgs false

mutual
def bulkOf {H : Type} : DataW H → Nat
  | .lit (.string bytes) => bytes.length + 1
  | .lit _ => 1
  | .nil => 1
  | .ptr d => bulkOf d + 1
  | .slice elems spare => bulkAll elems + bulkAll spare + 1
  | .agg parts => bulkAll parts + 1
  | .iface _ d => bulkOf d + 1
  | .map entries => bulkEntries entries + 1
  | .held _ => 1
def bulkAll {H : Type} : List (DataW H) → Nat
  | [] => 0
  | d :: r => bulkOf d + bulkAll r
def bulkEntries {H : Type} : List (Lit × DataW H) → Nat
  | [] => 0
  | x :: r => bulkEntry x + bulkEntries r
def bulkEntry {H : Type} : Lit × DataW H → Nat
  | (.string bytes, d) => bytes.length + bulkOf d + 1
  | (_, d) => bulkOf d + 1
end
theorem bulkAll_sum {H : Type} (l : List (DataW H)) : bulkAll l = (l.map bulkOf).sum := by
  induction l with
  | nil => rfl
  | cons d r ih => simp only [bulkAll, List.map_cons, List.sum_cons, ih]

/-- every reading of a type is one of these -/
structure Shp (P : Program) (t : TypeId) {α : Type} (cells : α → List Value) (ok : Heap → α → Prop) (bulk : α → Nat) : Prop where
  h : ∀ {H : Type} (enc : TypeId × Value → H) (w : World) (base : Nat) (sp : Nat → Bool) (held : Bool) (fuel : Nat) (cs : List Value) (x : DataW H × List MemPlace), DataW.trod enc P w base sp held fuel t cs = some x → ∃ y, cs = cells y ∧ ok (hp w) y ∧ bulk y ≤ bulkOf x.1

section
variable {P : Program} {t e : TypeId} {k : IntKind}
theorem shp_string (ht : P.underlying t = some .string) : Shp P t (fun l : List UInt8 => [B l]) (fun _ l => l.length ≤ maxLen) (fun l => l.length + 1) := ⟨fun enc w base sp held fuel cs x h => by
  obtain ⟨s, rfl, rfl, hs⟩ := DataW.trod_string ht h
  exact ⟨s.data.toList, rfl, by rw [Array.length_toList]; exact hs, by simp [bulkOf]⟩⟩

/-- what a reading of a slice says -/
structure SlOk {α : Type} (cells : α → List Value) (ok : Heap → α → Prop) (h : Heap) (a : Option Addr) (ls : List α) (c : Nat) : Prop where
  le : ls.length ≤ c
  max : c ≤ maxLen
  rd : RdS h a (ls.flatMap cells)
  each : ∀ y ∈ ls, ok h y
theorem flat_get {α : Type} {cells : α → List Value} {n : Nat} (hn : ∀ y, (cells y).length = n) (hpos : 0 < n) : ∀ (ls : List α) (j : Nat) (u : Value), (ls.flatMap cells)[j]? = some u → ∃ y, ls[j / n]? = some y ∧ (cells y)[j % n]? = some u
  | [], j, u, h => by simp at h
  | x :: r, j, u, h => by
    rw [List.flatMap_cons] at h
    by_cases hj : j < n
    · rw [List.getElem?_append_left (by rw [hn]; exact hj)] at h
      refine ⟨x, ?_, ?_⟩
      · rw [Nat.div_eq_of_lt hj]; rfl
      · rw [Nat.mod_eq_of_lt hj]; exact h
    · rw [List.getElem?_append_right (by rw [hn]; omega), hn] at h
      obtain ⟨y, h1, h2⟩ := flat_get hn hpos r (j - n) u h
      refine ⟨y, ?_, ?_⟩
      · have : j / n = (j - n) / n + 1 := by
          conv => lhs; rw [show j = (j - n) + n by omega]
          rw [Nat.add_div_right _ hpos]
        rw [this]; simpa using h1
      · rw [Nat.mod_eq_sub_mod (by omega)]; exact h2
theorem slice_open {α : Type} {cells : α → List Value} {ok : Heap → α → Prop} {bulk : α → Nat} (ht : P.underlying t = some (.slice e)) (S : Shp P e cells ok bulk) {n : Nat} (hc : P.cellsOf e = n) (hn : ∀ y, (cells y).length = n) (hpos : 0 < n)
    {H : Type} {enc : TypeId × Value → H} {w : World} {base : Nat} {sp : Nat → Bool} {held : Bool} {fuel : Nat} {cs : List Value} {x : DataW H × List MemPlace} (h : DataW.trod enc P w base sp held fuel t cs = some x) :
    ∃ (a : Option Addr) (ls : List α) (c : Nat), cs = [.slice a ls.length c] ∧ SlOk cells ok (hp w) a ls c ∧ ((x.1 = .nil ∧ ls = []) ∨ ∃ elems spare, x.1 = .slice elems spare ∧ elems.length = ls.length) ∧ (ls.map bulk).sum + 1 ≤ bulkOf x.1 := by
  rcases DataW.trod_slice ht h with ⟨rfl, rfl⟩ | ⟨a, len, cap, elems, rest, m, _, rfl, rfl, hb, hl, hm, hlen, hel, _, _⟩
  · exact ⟨none, [], 0, rfl, ⟨Nat.le_refl _, Nat.zero_le _, RdS.nil _ _, by simp⟩, .inl ⟨rfl, rfl⟩, by simp [bulkOf]⟩
  · have key : ∀ (k : Nat), k ≤ len → ∃ ls : List α, ls.length = k ∧ (∀ i y, ls[i]? = some y → w.cells? base (a.add (i * n)) n = some (cells y) ∧ ok (hp w) y) ∧ (ls.map bulk).sum ≤ ((elems.take k).map (fun x => bulkOf x.1)).sum := by
      intro k
      induction k with
      | zero => intro _; exact ⟨[], rfl, by simp, by simp⟩
      | succ k ih =>
        intro hk
        obtain ⟨ls, h1, h2, h3⟩ := ih (by omega)
        have h4 := hel k (by omega)
        have hk' : k < elems.length := by omega
        rw [List.getElem?_eq_getElem hk', hc, Option.bind_eq_some_iff] at h4
        obtain ⟨cs, h5, h6⟩ := h4
        obtain ⟨y, rfl, h7, h8⟩ := S.h enc w base sp held m cs _ h6
        refine ⟨ls ++ [y], by simp [h1], fun i z hz => ?_, ?_⟩
        · by_cases hi : i < k
          · rw [List.getElem?_append_left (by omega)] at hz; exact h2 i z hz
          · rw [List.getElem?_append_right (by omega)] at hz
            have hi0 : i = k := by
              have := (List.getElem?_eq_some_iff.1 hz).1
              simp at this; omega
            subst hi0
            simp [h1] at hz; subst hz
            exact ⟨h5, h7⟩
        · rw [List.take_succ_eq_append_getElem hk']
          simp only [List.map_append, List.map_cons, List.map_nil, List.sum_append, List.sum_cons, List.sum_nil]
          omega
    obtain ⟨ls, h1, h2, h3⟩ := key len (Nat.le_refl _)
    subst h1
    refine ⟨some a, ls, cap, rfl, ⟨hl, hm, fun _ => ⟨a, rfl, fun j u hu => ?_⟩, fun y hy => ?_⟩, .inr ⟨_, _, rfl, by simp [hlen]⟩, ?_⟩
    · obtain ⟨y, h4, h5⟩ := flat_get hn hpos ls j u hu
      obtain ⟨h6, _⟩ := h2 _ _ h4
      have h7 := (World.cells?_some h6).2.2 (j % n) (Nat.mod_lt _ hpos)
      rw [cell?_hp]
      rw [h5, add_add] at h7
      have : j / n * n + j % n = j := by rw [Nat.mul_comm]; exact Nat.div_add_mod j n
      rw [this] at h7; exact h7
    · obtain ⟨i, hi⟩ := List.getElem?_of_mem hy
      exact (h2 i y hi).2
    · simp only [bulkOf, bulkAll_sum, List.map_map]
      rw [List.take_of_length_le (by omega)] at h3
      simp only [Function.comp_def]
      omega
/-- the same, in other words -/
theorem Shp.map {α β : Type} {c1 : α → List Value} {ok1 : Heap → α → Prop} {b1 : α → Nat} {c2 : β → List Value} {ok2 : Heap → β → Prop} {b2 : β → Nat} (S : Shp P t c1 ok1 b1) (f : α → β) (hc : ∀ y, c1 y = c2 (f y)) (ho : ∀ h y, ok1 h y → ok2 h (f y)) (hb : ∀ y, b2 (f y) ≤ b1 y) : Shp P t c2 ok2 b2 := ⟨fun enc w base sp held fuel cs x h => by
  obtain ⟨y, h1, h2, h3⟩ := S.h enc w base sp held fuel cs x h
  exact ⟨f y, by rw [h1, hc], ho _ _ h2, Nat.le_trans (hb y) h3⟩⟩

variable {H : Type} {enc : TypeId × Value → H} {w : World} {r : Reach} {b0 base : Nat} {sp : Nat → Bool} {held : Bool} {v : Value} {d : DataW H} {ps : List MemPlace}
theorem arg_slice {α : Type} {cells : α → List Value} {ok : Heap → α → Prop} {bulk : α → Nat} (ht : P.underlying t = some (.slice e)) (S : Shp P e cells ok bulk) {n : Nat} (hc : P.cellsOf e = n) (hn : ∀ y, (cells y).length = n) (hpos : 0 < n)
    (hval : Value.okWide P w r b0 t v) (hd : DataW.Trod enc P w base sp held t v d ps) :
    ∃ (a : Option Addr) (ls : List α) (c : Nat), v = .slice a ls.length c ∧ SlOk cells ok (hp w) a ls c ∧ ((d = .nil ∧ ls = []) ∨ ∃ elems spare, d = .slice elems spare ∧ elems.length = ls.length) ∧ (ls.map bulk).sum + 1 ≤ bulkOf d := by
  obtain ⟨a0, n0, c0, rfl⟩ := okWide_slice ht hval
  obtain ⟨fuel, hf⟩ := hd
  obtain ⟨a, ls, c, h1, h2, h3, h4⟩ := slice_open ht S hc hn hpos hf
  simp [Value.cells] at h1
  obtain ⟨rfl, rfl, rfl⟩ := h1
  exact ⟨_, _, _, rfl, h2, h3, h4⟩
theorem arg_int (ht : P.underlying t = some (.int k)) (hval : Value.okWide P w r b0 t v) (hd : DataW.Trod enc P w base sp held t v d ps) : ∃ n : Int, v = .int k n ∧ (Lit.int k n).wf = true := by
  obtain ⟨n, h1, _, _, h2⟩ := open_int ht hval hd
  exact ⟨n, h1, h2⟩
end
theorem len_sized {H : Type} {P : Program} {ts : List TypeId} {ds : List (DataW H)} (hsz : (DataW.weightsEach P ts ds).all (· ≤ reachBytes) = true) {j : Nat} {t e : TypeId} {d : DataW H} {α : Type} {ls : List α} {n : Nat} (ht : ts[j]? = some t) (hd : ds[j]? = some d) (hu : P.underlying t = some (.slice e)) (hb : P.bytesOf e = n)
    (z : (d = .nil ∧ ls = []) ∨ ∃ elems spare, d = .slice elems spare ∧ elems.length = ls.length) : ls.length * n ≤ 140737488355328 := by
  rcases z with ⟨_, rfl⟩ | ⟨elems, spare, rfl, h⟩
  · simp
  · have := sized_slice hsz ht hd hu
    rw [hb, h, Nat.add_mul] at this
    have e : reachBytes = 140737488351232 := rfl
    omega
/-- every reading of a type, of bearable weight, is one of these -/
structure ShpW (P : Program) (t : TypeId) {α : Type} (cells : α → List Value) (ok : Heap → α → Prop) : Prop where
  h : ∀ {H : Type} (enc : TypeId × Value → H) (w : World) (base : Nat) (sp : Nat → Bool) (held : Bool) (fuel : Nat) (cs : List Value) (x : DataW H × List MemPlace), DataW.trod enc P w base sp held fuel t cs = some x → (x.1.weights P t).all (· ≤ reachBytes) = true → ∃ y, cs = cells y ∧ ok (hp w) y

section
variable {P : Program} {t e : TypeId} {k : IntKind}
theorem Shp.w {α : Type} {cells : α → List Value} {ok : Heap → α → Prop} {bulk : α → Nat} (S : Shp P t cells ok bulk) : ShpW P t cells ok := ⟨fun enc w base sp held fuel cs x h _ => by
  obtain ⟨y, h1, h2, _⟩ := S.h enc w base sp held fuel cs x h
  exact ⟨y, h1, h2⟩⟩
theorem ShpW.map {α β : Type} {c1 : α → List Value} {ok1 : Heap → α → Prop} {c2 : β → List Value} {ok2 : Heap → β → Prop} (S : ShpW P t c1 ok1) (f : α → β) (hc : ∀ y, c1 y = c2 (f y)) (ho : ∀ h y, ok1 h y → ok2 h (f y)) : ShpW P t c2 ok2 := ⟨fun enc w base sp held fuel cs x h hw => by
  obtain ⟨y, h1, h2⟩ := S.h enc w base sp held fuel cs x h hw
  exact ⟨f y, by rw [h1, hc], ho _ _ h2⟩⟩

variable {H : Type} {enc : TypeId × Value → H} {w : World} {r : Reach} {b0 base : Nat} {sp : Nat → Bool} {held : Bool} {v : Value} {d : DataW H} {ps : List MemPlace}
end
section
variable {P : Program} {t e : TypeId} {k : IntKind} {n : Nat}
variable {H : Type} {enc : TypeId × Value → H} {w : World} {r : Reach} {b0 base : Nat} {sp : Nat → Bool} {held : Bool} {v : Value} {d : DataW H} {ps : List MemPlace}
end
end Go.Sl
