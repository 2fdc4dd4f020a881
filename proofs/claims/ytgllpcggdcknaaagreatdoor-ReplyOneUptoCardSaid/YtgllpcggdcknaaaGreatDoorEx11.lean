import Derived.Test.YtgllpcggdcknaaaGreatDoorEx10
import Derived.Test.YtgllpcggdcknaaaGreatDoorEx2
import Derived.Carry
import Derived.ChangeSame
import Derived.OpenShut
import Derived.SizedLaws
import Derived.JoinedCond
import Derived.JoinedOf
import Derived.Deep.CondSized
import Derived.ChangeMaps5
import Derived.SliceStrings
import Derived.Test.YtgllpcggdcknaaaGreatDoorRows
import Derived.Test.YtgllpcggdcknaaaGreatDoorEx5
import Derived.WalkKit
import Derived.ProofKit
import Derived.MakeChecks
import Derived.Lib.LaidTab
import Derived.Stop.LaidErr
import Derived.Deep.DeepLaidRun
import Derived.Deep.DeepHandedRow
import Derived.Deep.DeepWitnessRowRef
set_option linter.unusedVariables false
set_option linter.unusedSimpArgs false
namespace Go.Proofs.YtgllpcggdcknaaaGreatDoor.Rp
open Go Go.Sl Go.RowKit
set_option maxRecDepth 8000 in
theorem ReplyOne_ct (s : Bs) (hs : s.length < 4294967281) : Pu Tryz.prog 6 [B s] Gl (.bool true) := by
 have c12 := Read_ct s hs
 obtain ⟨o, ho⟩ : ∃ o, o = readS s := ⟨_, rfl⟩
 rw [← ho] at c12
 refine ct_enter 45 Tryz.func6 rfl rfl rfl ?_
 intro F hg
 repeat refine x_ ?_
 refine a_ ?_
 repeat refine x_ ?_
 refine gl_callp rfl alive_ct (fun h hh hb => hg.le hh) rfl ?_
 refine f_ (s_not rfl) ?_
 repeat refine n_ ?_
 cases o with
 | none =>
  unfold ReadW at c12
  simp only [Option.getD_none, Option.isSome_none] at c12
  repeat refine x_ ?_
  refine m_ ?_
  refine gl_call _ rfl c12 i_ (fun h hh hb => hg.le hh) rfl ?_; rintro v A ⟨x, hx, rfl, rfl⟩; refine gl_pull (fun w hw => hw.perm List.perm_append_comm) ?_; simp only [List.cons_append, List.nil_append]
  refine m_ ?_
  refine f_ (s_extract rfl rfl) ?_
  refine f_ (s_extract rfl rfl) ?_
  refine f_ (s_extract rfl rfl) ?_
  refine gl_allocA rfl ?_; intro g3
  (refine gl_store_blkW rfl rfl z_5 z_8 z_8 z_2 ?_)
  refine a_ ?_
  refine a_ ?_
  repeat refine x_ ?_
  refine m_ ?_
  refine f_ ((s_neq rfl rfl).eq (v' := .bool true) rfl) ?_
  repeat refine n_ ?_
  have hm1 : ∀ v ∈ rrH R0 x, v ∈ (blkR g3 R0 x :: rrH R0 x) := fun v hv => .tail _ hv
  repeat refine x_ ?_
  refine m_ ?_
  refine f_ ((s_eql rfl rfl).eq (v' := .bool true) rfl) ?_
  refine m_ ?_
  (refine v_ ?_; refine r_ ((s_load_blkW rfl z_3 z_8).eq (v' := rrA R0 x) rfl) ?_)
  (refine v_ ?_; refine f_ ((s_bld rfl rfl).eq (v' := rrA R0 L0) rfl) ?_)
  (refine v_ ?_; refine gl_callp rfl (SameR_ct R0 R0 x L0 szR0.c) (fun h hh hb => ⟨rrd_own hx hm1 hb, rrd_none R0 h rfl rfl rfl⟩) rfl ?_; rw [decide_eq_true rfl])
  refine f_ (by exact s_pick_t rfl rfl) ?_
  refine a_ ?_
  repeat refine n_ ?_
  refine g_ret ?_
  exact at_end1 rfl rfl [] ⟨rfl, rfl⟩ (fun w hw => hw.dropAll)
 | some q =>
  obtain ⟨r, n⟩ := q
  unfold ReadW at c12
  simp only [Option.getD_some, Option.isSome_some, if_true] at c12
  have hl := read_len ho.symm
  have hok := (read_A ho.symm).1
  have hz := szW_read ho.symm (by omega)
  repeat refine x_ ?_
  refine m_ ?_
  refine gl_call _ rfl c12 i_ (fun h hh hb => hg.le hh) rfl ?_; rintro v A ⟨x, hx, rfl, rfl⟩; refine gl_pull (fun w hw => hw.perm List.perm_append_comm) ?_; simp only [List.cons_append, List.nil_append]
  refine m_ ?_
  refine f_ (s_extract rfl rfl) ?_
  refine f_ (s_extract rfl rfl) ?_
  refine f_ (s_extract rfl rfl) ?_
  refine gl_allocA rfl ?_; intro g3
  (refine gl_store_blkW rfl rfl z_5 z_8 z_8 z_2 ?_)
  refine a_ ?_
  refine a_ ?_
  repeat refine x_ ?_
  refine m_ ?_
  refine f_ ((s_neq rfl rfl).eq (v' := .bool false) rfl) ?_
  repeat refine n_ ?_
  have hm1 : ∀ v ∈ rrH r x, v ∈ (blkR g3 r x :: rrH r x) := fun v hv => .tail _ hv
  refine g_cap hm1 fun hcap => ?_
  have c9 := Print_ct r x hz hcap hx (by omega)
  rw [write_eq, if_pos hok] at c9
  unfold writeV at c9
  simp only [Option.getD_some, Option.isSome_some, if_true] at c9
  repeat refine x_ ?_
  refine r_ ((s_load_blkW rfl z_3 z_8).eq (v' := rrA r x) rfl) ?_
  refine gl_callp rfl c9 (fun h hh hb => ⟨hg.le hh, rrd_own hx hm1 hb⟩) rfl ?_
  refine m_ ?_
  refine f_ (s_extract rfl rfl) ?_
  refine f_ (s_extract rfl rfl) ?_
  refine a_ ?_
  refine a_ ?_
  repeat refine n_ ?_
  have hT : textP r ++ crlf = s.take n := hl.2.2.symm
  repeat refine x_ ?_
  refine m_ ?_
  refine f_ ((s_eql rfl rfl).eq (v' := .bool true) rfl) ?_
  refine m_ ?_
  (refine v_ ?_; refine m_ ?_)
  (refine v_ ?_; refine m_ ?_)
  (refine v_ ?_; refine f_ (s_len_str rfl) ?_)
  (refine v_ ?_; refine f_ ((s_leq rfl rfl).eq (v' := .bool true) (congrArg Value.bool (decide_eq_true (by omega)))) ?_)
  refine f_ (by exact s_pick_t rfl rfl) ?_
  refine m_ ?_
  (refine v_ ?_; refine m_ ?_)
  (refine v_ ?_; refine m_ ?_)
  (refine v_ ?_; refine m_ ?_)
  (refine v_ ?_; refine f_ ((s_slice_str rfl rfl rfl (by omega)).eq (v' := B (textP r ++ crlf)) (by rw [hT]; simp)) ?_)
  (refine v_ ?_; refine f_ ((s_eql_str rfl rfl).eq (v' := .bool true) (congrArg Value.bool (decide_eq_true rfl))) ?_)
  refine f_ (by exact s_pick_t rfl rfl) ?_
  refine a_ ?_
  repeat refine n_ ?_
  refine g_ret ?_
  exact at_end1 rfl rfl [] ⟨rfl, rfl⟩ (fun w hw => hw.dropAll)
end Go.Proofs.YtgllpcggdcknaaaGreatDoor.Rp
namespace Go.Sl
open Go Go.RowKit Go.WideShapes Go.ChangeShapes Go.ChangeMaps
theorem Hp.below {W w' : World} {A : List As} (h : Hp (snap W) w' A) : Below W.heap.size W w' := by
 have hk : ∀ k, k < W.heap.size → w'.heap[k]? = W.heap[k]? := fun k hk => by
  have e : W.heap[k]? = some W.heap[k] := Array.getElem?_eq_getElem hk
  rw [e]
  exact h.keep k _ (by show hpBut W [] k = _; rw [hpBut_nil]; exact e)
 refine ⟨h.os, h.tape, h.output, ?_, hk⟩
 rcases Nat.lt_or_ge w'.heap.size W.heap.size with hlt | hge
 ·have h1 := hk w'.heap.size hlt
  rw [Array.getElem?_eq_getElem hlt] at h1
  simp at h1
 ·exact hge
section
variable {H : Type} {enc : TypeId × Value → H} {P : Program}
theorem law_post {f : Func} {s : ChangeSpec} {apart fresh handsOn again : Bool} {W W' : World} {args : Array Value} {v : Value} {ds gs : List (DataW H)} {before pa pv : List MemPlace}
  (hW : DataW.Whole enc P f.params.toList s.vars apart W args.toList ds gs before)
  (hres : ∀ (b : Nat) (sp : Nat → Bool) (hd : Bool), DataW.TrodAll enc P W' b sp hd f.resultTypes.toList (v.resultList f.resultTypes.size) (s.fn H (ds ++ gs)).results [])
  (hargs : ∀ sp : Nat → Bool, (∀ p ∈ before, sp p.block = true) → DataW.TrodAll enc P W' 0 sp true f.params.toList args.toList (s.fn H (ds ++ gs)).args pa)
  (hvars : ∀ sp : Nat → Bool, (∀ p ∈ before, sp p.block = true) → DataW.TrodVars enc P W' sp s.vars (s.fn H (ds ++ gs)).vars pv)
  (hps : before = pa ++ pv) (hb : Below W.heap.size W W')
  (hok : ∀ (j : Nat) (t : TypeId) (r : Value), f.resultTypes[j]? = some t → (v.resultList f.resultTypes.size)[j]? = some r → Value.okWide P W' .any 0 t r) :
  s.post enc P f apart fresh handsOn again W args v W' := by
 have hlt : ∀ p ∈ before, p.block < W.heap.size := fun p hp => hW.lt p hp
 have hold : ∀ p ∈ before, (fun b => decide (b < W.heap.size)) p.block = true := fun p hp => by simpa using hlt p hp
 refine ⟨ds, gs, before, [], pa, pv, hW, hres _ _ _, hargs _ hold, hvars _ hold, World.keptBut_mono (fun p hp => ⟨hp, ?_⟩) (hb.frame (· ∈ before)), fun _ => ?_⟩
 ·rw [hps, List.mem_append] at hp
  exact Or.inr hp
 ·obtain ⟨_, _, _, _, _, hz, hn⟩ := hW
  refine ⟨hok, _, _, ([] ++ pa) ++ pv, ⟨[] ++ pa, pv, trodAll_append (hargs _ (fun _ _ => rfl)) (hres _ _ _), hvars _ (fun _ _ => rfl), rfl, ?_, ?_⟩, ?_⟩
  ·intro b off hp
   have hin : MemPlace.cell b off ∈ before := by rw [hps]; simpa using hp
   rw [hb.frozen (hlt _ hin)]
   exact hz b off hin
  ·intro ha
   have := hn ha
   rw [hps] at this
   simpa using this
  ·intro p hp _
   rw [hps]
   simpa using hp
theorem trodAll_below (hl : laidOutB P = true) {W W' : World} (hb : Below W.heap.size W W') (sp : Nat → Bool) : ∀ {ts : List TypeId} {vs : List Value} {ds : List (DataW H)} {ps : List MemPlace},
  (ts.all fun t => P.readableRec t && decide (t < P.types.size)) = true → DataW.TrodAll enc P W 0 (fun _ => true) true ts vs ds ps → (∀ p ∈ ps, p.block < W.heap.size) → (∀ p ∈ ps, sp p.block = true) →
   DataW.TrodAll enc P W' 0 sp true ts vs ds ps
 | [], vs, ds, ps, _, h, _, _ => by
  obtain ⟨rfl, rfl, rfl⟩ := trodAll_nil h
  rfl
 | t :: ts, vs, ds, ps, hr, h, hlt, hs => by
  obtain ⟨v, vs', d, ds', p, q, rfl, rfl, rfl, h1, h2⟩ := trodAll_cons h
  simp only [List.all_cons, Bool.and_eq_true, decide_eq_true_eq] at hr
  refine ⟨p, q, WideElems.Trod_stays hl hr.1.1 hr.1.2 h1 (fun x hx => hb.same (hlt x (List.mem_append.2 (.inl hx)))) (fun x hx => hs x (List.mem_append.2 (.inl hx))), ?_, rfl⟩
  exact trodAll_below hl hb sp (by simpa using hr.2) h2 (fun x hx => hlt x (List.mem_append.2 (.inr hx))) (fun x hx => hs x (List.mem_append.2 (.inr hx)))
theorem law_true {f : FuncId} {fn : Func} {s : ChangeSpec} {fresh handsOn again : Bool} {W : World} {vs : List Value} {ds gs : List (DataW H)} {before : List MemPlace} {Pre : Heap → Prop} {t : TypeId}
  (hc : Pu P f vs Pre (.bool true)) (hpre : Pre (hp W)) (hvs : s.vars = [])
  (hW : DataW.Whole enc P fn.params.toList s.vars false W vs ds gs before) (hres : fn.resultTypes = #[t]) (ht : P.underlying t = some .bool)
  (hl : laidOutB P = true) (hr : (fn.params.toList.all fun t => P.readableRec t && decide (t < P.types.size)) = true)
  (hs : s.fn H (ds ++ gs) = { results := [.lit (.bool true)], args := ds }) :
  Calls P f vs.toArray W fun e W' => ∃ v, e = .returned v ∧ s.post enc P fn false fresh handsOn again W vs.toArray v W' := by
 refine (hc W [] rfl List.nodup_nil (by rw [hpBut_nil]; exact hpre)).mono ?_
 rintro e W' ⟨v, A, rfl, ⟨rfl, rfl⟩, hh⟩
 refine ⟨_, rfl, ?_⟩
 have hW' := hW
 have hlt := fun p hp => hW'.lt p hp
 obtain ⟨p, q, hA, hV, hpq, hfz, hnd⟩ := hW
 rw [hvs] at hV
 obtain ⟨rfl, rfl⟩ := trodVars_none hV
 have hb := Hp.below hh
 refine law_post (pa := p) (pv := []) (args := vs.toArray) (by simpa using hW') (fun b sp hd => ?_) (fun sp hsp => ?_) (fun sp hsp => ?_) hpq hb ?_
 ·rw [hs, hres]
  exact trodAll_cons_mk (shut_bool ht true) trodAll_mk0
 ·rw [hs]
  refine trodAll_below hl hb sp hr hA (fun x hx => hlt x ?_) (fun x hx => hsp x ?_) <;> (rw [hpq]; simpa using hx)
 ·rw [hs, hvs]; rfl
 ·exact ok_one hres rfl (okWide_bool_mk ht true)
theorem arg_string {r : Reach} {b0 base : Nat} {sp : Nat → Bool} {held : Bool} {w : World} {t : TypeId} {v : Value} {d : DataW H} {ps : List MemPlace} (ht : P.underlying t = some .string) (hval : Value.okWide P w r b0 t v) (hd : DataW.Trod enc P w base sp held t v d ps) :
  ∃ l : List UInt8, v = B l ∧ d = .lit (.string l) ∧ l.length ≤ maxLen := by
 obtain ⟨s, rfl, rfl, _, hs⟩ := open_string ht hval hd
 exact ⟨s.data.toList, rfl, rfl, by rw [Array.length_toList]; exact hs⟩
end
end Go.Sl
namespace Go.Sl
open Go Go.RowKit Go.WideShapes Go.ChangeShapes Go.ChangeMaps
mutual
def bulkOf {H : Type} : DataW H → Nat
 | .lit (.string bytes) => bytes.length + 1
 | .lit _ => 1
 | .nil => 1
 | .ptr d => bulkOf d + 1
 | .slice elems spare => bulkAll elems + bulkAll spare + 1
 | .agg parts => bulkAll parts + 1
 | .iface _ d => bulkOf d + 1
 | .map entries => bulkEntries entries + 1
 | .held _ => 1
def bulkAll {H : Type} : List (DataW H) → Nat
 | [] => 0
 | d :: r => bulkOf d + bulkAll r
def bulkEntries {H : Type} : List (Lit × DataW H) → Nat
 | [] => 0
 | x :: r => bulkEntry x + bulkEntries r
def bulkEntry {H : Type} : Lit × DataW H → Nat
 | (.string bytes, d) => bytes.length + bulkOf d + 1
 | (_, d) => bulkOf d + 1
end
section
variable {P : Program} {t e : TypeId} {k : IntKind}
variable {H : Type} {enc : TypeId × Value → H} {w : World} {r : Reach} {b0 base : Nat} {sp : Nat → Bool} {held : Bool} {v : Value} {d : DataW H} {ps : List MemPlace}
theorem arg_str (ht : P.underlying t = some .string) (hval : Value.okWide P w r b0 t v) (hd : DataW.Trod enc P w base sp held t v d ps) : ∃ l : List UInt8, v = B l ∧ d = .lit (.string l) ∧ l.length ≤ maxLen ∧ l.length + 1 ≤ bulkOf d := by
 obtain ⟨l, h1, h2, h3⟩ := arg_string ht hval hd
 exact ⟨l, h1, h2, h3, by subst h2; simp [bulkOf]⟩
end
section
variable {P : Program} {t e : TypeId} {k : IntKind}
variable {H : Type} {enc : TypeId × Value → H} {w : World} {r : Reach} {b0 base : Nat} {sp : Nat → Bool} {held : Bool} {v : Value} {d : DataW H} {ps : List MemPlace}
end
section
variable {P : Program} {t e : TypeId} {k : IntKind} {n : Nat}
variable {H : Type} {enc : TypeId × Value → H} {w : World} {r : Reach} {b0 base : Nat} {sp : Nat → Bool} {held : Bool} {v : Value} {d : DataW H} {ps : List MemPlace}
end
end Go.Sl
namespace Go.Proofs.YtgllpcggdcknaaaGreatDoor.Rp
open Go Go.Sl Go.RowKit
abbrev laidL : List (String × DataW Unit) := [("math/bits.deBruijn32tab", Rows.laid_math_bits_deBruijn32tab), ("math/bits.deBruijn64tab", Rows.laid_math_bits_deBruijn64tab), ("internal/strconv.uint64pow10", Rows.laid_internal_strconv_uint64pow10), ("unicode/utf8.acceptRanges", Rows.laid_unicode_utf8_acceptRanges), ("strconv.ErrRange", Rows.laid_strconv_ErrRange), ("strconv.ErrSyntax", Rows.laid_strconv_ErrSyntax), ("unicode/utf8.first", Rows.laid_unicode_utf8_first)]
theorem gPow : Tryz.prog.globalNamed "internal/strconv.uint64pow10" = some 1 := by kernel_rfl
theorem gPowT : (Tryz.prog.globals[1]?).map (·.type) = some 132 := by kernel_rfl
theorem gSyn : Tryz.prog.globalNamed "strconv.ErrSyntax" = some 2 := by kernel_rfl
theorem gSynT : (Tryz.prog.globals[2]?).map (·.type) = some 94 := by kernel_rfl
theorem gRng : Tryz.prog.globalNamed "strconv.ErrRange" = some 3 := by kernel_rfl
theorem gRngT : (Tryz.prog.globals[3]?).map (·.type) = some 94 := by kernel_rfl
theorem starE : "*" ++ "errors.errorString" = "*errors.errorString" := by decide
theorem row167 (u : TypeId) (h : Tryz.prog.typeName? 3 u = some "*errors.errorString") : u = 167 :=
 typeName_ptr_named (nm := "errors.errorString") (by rw [starE]; kernel_rfl) z_6 (by decide) u (by rw [starE]; exact h)
theorem var_block {P : Program} {W : World} {n : String} {g : Nat} {cs : Array Value} (hg : P.globalNamed n = some g) (h : W.var? P n = some cs) : ∃ t fr, hp W g = some (.cells cs t fr) := by
 unfold World.var? at h
 rw [hg] at h
 simp only [Option.bind_some] at h
 split at h
 ·next c t fr hh =>
  cases h
  exact ⟨t, fr, hh⟩
 ·cases h
theorem gMax : Tryz.prog.globalNamed "internal/bytealg.MaxLen" = some 0 := by kernel_rfl
theorem one_of {cs : Array Value} {v : Value} (hs : cs.size = 1) (h : cs[0]? = some v) : cs = #[v] := by
 obtain ⟨l⟩ := cs
 match l, hs with
 | [u], _ =>
  simp at h
  subst h
  rfl
theorem max_open {W : World} (h : W.ShapedOpen Tryz.prog) : ∃ m t fr, hp W 0 = some (.cells #[.int .i64 m] t fr) := by
 obtain ⟨m, hm⟩ := cell_of_shapedOpen_int (zero := #[.int .i64 0]) (t := 3) (g := 0) h (of_decide_eq_true z_6) z_6 rfl z_6 z_6 Tryz.underlying3
 obtain ⟨cs, hcc, hsz, _⟩ := h.1 0 #[.int .i64 0] 3 (of_decide_eq_true z_6) z_6
 have hv : W.var? Tryz.prog "internal/bytealg.MaxLen" = some cs := by
  unfold World.var?
  rw [gMax]
  simp only [Option.bind_some]
  rw [hcc]
 have h3 := World.var?_cell gMax hv 0
 rw [hm] at h3
 have hs1 : cs.size = 1 := hsz
 have hcs := one_of hs1 h3.symm
 subst hcs
 exact ⟨_, _, _, hcc⟩
theorem pow_eq : (Rows.laid_internal_strconv_uint64pow10 : DataW Unit) = Lib.tabData .u64 Lib.pow10Tab := rfl
theorem gl_of_laid {W : World} (hL : laidMetH Tryz.prog laidL W) (hO : W.ShapedOpen Tryz.prog) : Gl (hp W) := by
 rw [MakeChecks.laidMetH_plain _ _ _ z_6] at hL
 have h2 := hL.tail.tail
 have h4 := h2.tail.tail
 rw [pow_eq] at h2
 have hP := Lib.tabIs_of_head gPow gPowT Tryz.underlying132 Tryz.underlying22 z_6 z_6 h2
 obtain ⟨a3, s3, v3, _⟩ := laid_sentinel h4 gRng gRngT Tryz.underlying94 row167 Tryz.underlying167 Tryz.underlying169 rfl rfl Tryz.underlying9 z_6 z_6
 obtain ⟨a2, s2, v2, _⟩ := laid_sentinel h4.tail gSyn gSynT Tryz.underlying94 row167 Tryz.underlying167 Tryz.underlying169 rfl rfl Tryz.underlying9 z_6 z_6
 obtain ⟨t1, f1, b1⟩ := var_block gPow hP
 obtain ⟨t2, f2, b2⟩ := var_block gSyn v2
 obtain ⟨t3, f3, b3⟩ := var_block gRng v3
 exact ⟨max_open hO, ⟨t1, f1, b1⟩, ⟨_, t2, f2, b2, .inr ⟨_, _, rfl⟩⟩, ⟨_, t3, f3, b3, .inr ⟨_, _, rfl⟩⟩⟩
end Go.Proofs.YtgllpcggdcknaaaGreatDoor.Rp
namespace Go.Proofs.YtgllpcggdcknaaaGreatDoor.Rp
open Go Go.Sl Go.RowKit
def lit1 : DataW Unit → Value
 | .lit (.int k n) => .int k n
 | _ => .nilFunc
def tab1 : DataW Unit → List Value
 | .agg ps => ps.map lit1
 | _ => []
def tab2 : DataW Unit → List Value
 | .agg ps => ps.flatMap tab1
 | _ => []
def putO (cs : List Value) : Obj → Obj
 | .cells _ t fr => .cells cs.toArray t fr
 | o => o
noncomputable def low : Nat := (World.holding Tryz.prog default ⟨#[], #[], []⟩).heap.size
abbrev rngS : ByteArray := ⟨#[118, 97, 108, 117, 101, 32, 111, 117, 116, 32, 111, 102, 32, 114, 97, 110, 103, 101]⟩
abbrev synS : ByteArray := ⟨#[105, 110, 118, 97, 108, 105, 100, 32, 115, 121, 110, 116, 97, 120]⟩
noncomputable def laidWorld (os : Os) : World :=
 let w0 := World.holding Tryz.prog os ⟨#[.cells #[.string rngS] 169, .cells #[.string synS] 169], #[], []⟩
 { w0 with heap := ((((((w0.heap.modify 1 (putO (tab1 Rows.laid_internal_strconv_uint64pow10))).modify 2 (putO [.iface 167 (.pointer (some ⟨low + 1, 0, none⟩))])).modify 3 (putO [.iface 167 (.pointer (some ⟨low, 0, none⟩))])).modify 4 (putO (tab1 Rows.laid_math_bits_deBruijn32tab))).modify 5 (putO (tab1 Rows.laid_math_bits_deBruijn64tab))).modify 6 (putO (tab1 Rows.laid_unicode_utf8_first))).modify 7 (putO (tab2 Rows.laid_unicode_utf8_acceptRanges)) }
set_option maxRecDepth 100000 in
theorem laid_met (os : Os) (args : Array Value) : laidMetH Tryz.prog laidL ((laidWorld os).forCall (fun _ _ => 0) ⟨#[], args, []⟩).memory := by
 rw [MakeChecks.laidMetH_plain _ _ _ z_6]
 exact laidMet_of_run3 8 z_6 z_6 z_6
set_option maxRecDepth 100000 in
theorem laid_vars (os : Os) (args : Array Value) : ((laidWorld os).forCall (fun _ _ => 0) ⟨#[], args, []⟩).variablesRefB Tryz.prog = true := by kernel_rfl
set_option maxRecDepth 100000 in
theorem laid_rest (os : Os) (args : Array Value) : (((laidWorld os).forCall (fun _ _ => 0) ⟨#[], args, []⟩).heap.toList.drop Tryz.prog.globals.size).take ((begin Tryz.prog (fun _ _ => 0) default).world.heap.size - Tryz.prog.globals.size) =
   (begin Tryz.prog (fun _ _ => 0) default).world.heap.toList.drop Tryz.prog.globals.size := by kernel_rfl
end Go.Proofs.YtgllpcggdcknaaaGreatDoor.Rp
namespace Go.Proofs.YtgllpcggdcknaaaGreatDoor.Rp
open Go Go.Sl Go.RowKit
mutual
theorem bulk_eq {H : Type} : ∀ d : DataW H, Rows.uptoBulk d = bulkOf d
 | .lit l => by cases l <;> rfl
 | .nil => rfl
 | .ptr d => by simp only [Rows.uptoBulk, bulkOf, bulk_eq d]
 | .slice e s => by simp only [Rows.uptoBulk, bulkOf, bulk_all e, bulk_all s]
 | .agg p => by simp only [Rows.uptoBulk, bulkOf, bulk_all p]
 | .iface _ d => by simp only [Rows.uptoBulk, bulkOf, bulk_eq d]
 | .map e => by simp only [Rows.uptoBulk, bulkOf, bulk_entries e]
 | .held _ => rfl
theorem bulk_all {H : Type} : ∀ l : List (DataW H), Rows.uptoBulkAll l = bulkAll l
 | [] => rfl
 | d :: r => by simp only [Rows.uptoBulkAll, bulkAll, bulk_eq d, bulk_all r]
theorem bulk_entries {H : Type} : ∀ l : List (Lit × DataW H), Rows.uptoBulkEntries l = bulkEntries l
 | [] => rfl
 | x :: r => by simp only [Rows.uptoBulkEntries, bulkEntries, bulk_entry x, bulk_entries r]
theorem bulk_entry {H : Type} : ∀ x : Lit × DataW H, Rows.uptoBulkEntry x = bulkEntry x
 | (l, d) => by cases l <;> simp only [Rows.uptoBulkEntry, bulkEntry, bulk_eq d]
end
theorem own : ownKnob Tryz.prog.godebug = none := by kernel_rfl
end Go.Proofs.YtgllpcggdcknaaaGreatDoor.Rp
