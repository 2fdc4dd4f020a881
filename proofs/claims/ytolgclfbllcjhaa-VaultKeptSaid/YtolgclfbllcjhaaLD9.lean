/- The program's disk: the names, by rising. -/
import Derived.Test.YtolgclfbllcjhaaLD8
import Derived.Test.YtolgclfbllcjhaaLShelf
import Derived.Shelf.SlIter.Nil
import Derived.Shelf.SortM.Plain
import Derived.Shelf.SortM.SortNone
namespace Go.Proofs.Ytolgclfbllcjhaa
open Go Go.Sl Go.RowKit Go.Maps Go.Sort Go.Shelf
set_option linter.unusedVariables false
set_option linter.unusedSimpArgs false

theorem lt_ltB : ∀ a b : Bs, (a < b) ↔ ltB a b = true
  | [], [] => by simp [ltB, Op.bytesLess]
  | [], b :: y => by simp [ltB, Op.bytesLess]
  | a :: x, [] => by simp [ltB, Op.bytesLess]
  | a :: x, b :: y => by
    rw [List.cons_lt_cons_iff, lt_ltB x y]
    simp [ltB, Op.bytesLess]
theorem le_ltB {a b : Bs} (h : decide (a ≤ b) = true) (hn : a ≠ b) : ltB a b = true := by
  have h1 : ¬ b < a := of_decide_eq_true h
  rw [lt_ltB] at h1
  exact ltB_total (Ne.symm hn) (by simpa using h1)
theorem sorted_names {l : List Fl} (hs : Srt l) {ss : List Bs} (hp : ss.Perm (l.map (·.1))) : ss.mergeSort (fun x y => decide (x ≤ y)) = l.map (·.1) := by
  have h1 : (ss.mergeSort (fun x y => decide (x ≤ y))).Perm (l.map (·.1)) := (List.mergeSort_perm ss _).trans hp
  have h2 : (ss.mergeSort (fun x y => decide (x ≤ y))).Pairwise (fun x y => decide (x ≤ y) = true) := List.pairwise_mergeSort (fun a b c h k => by
    have h := of_decide_eq_true h
    have k := of_decide_eq_true k
    exact decide_eq_true (List.le_trans h k)) (fun a b => by
    rcases List.le_total a b with h | h <;> simp [h]) ss
  have h3 : (l.map (·.1)).Nodup := by
    rw [List.Nodup, List.pairwise_map]
    exact hs.imp (fun h => ltB_ne h)
  have h4 : (ss.mergeSort (fun x y => decide (x ≤ y))).Nodup := h1.symm.nodup h3
  generalize ss.mergeSort (fun x y => decide (x ≤ y)) = r at h1 h2 h4
  have h5 : Srt (r.map fun n => ((n, []) : Fl)) := by
    rw [Srt, List.pairwise_map]
    exact (h2.and h4).imp (fun h => le_ltB h.1 h.2)
  have h6 : Srt ((l.map (·.1)).map fun n => ((n, []) : Fl)) := by
    rw [Srt, List.pairwise_map, List.pairwise_map]
    exact hs
  have h7 := srt_perm h5 h6 (h1.map _)
  have h8 := congrArg (List.map (·.1)) h7
  simpa [List.map_map, Function.comp_def] using h8

/-- of the kit's contract: whatever world, wherever the box lies -/
theorem sorted_any {H : Type} (g b nn : Nat) (D0 : DataW H) (R : Value → Option (DataW H × List MemPlace)) (W : World) (hg : W.cell? ⟨g, 0, none⟩ = some (.map (some b))) (hgl : g < W.heap.size) (hown : W.ownsMap Try.prog 9 R b nn D0) (hmax : Maps.size D0 ≤ maxLen) (hbytes : Maps.size D0 * 16 ≤ 140737488355328) :
    CallsIn Fence.wide 5 Try.prog 64 #[.func (.func 86) #[] #[.pointer (some ⟨g, 0, none⟩)]] W fun e w' => ∃ (v : Value) (ss : List (List UInt8)), e = .returned v ∧ ss.Perm (strKeys D0) ∧
      w'.ownsRow W.heap.size 9 1 v ss.length ((ss.mergeSort (fun x y => decide (x ≤ y))).map encStr) ∧ (v = .slice none 0 0 ↔ ss = []) ∧ Below W.heap.size W w' := by
  have hsorts : ∀ m, AnyZ.SortsIn Try.prog Try.sorted64_ren Fence.wide m := fun m =>
    ⟨fun blk off cap ss W hH hblk hsz => callsIn_wide.2 (AnyM.slices_Sort_string Try.sort85 blk off cap ss W hH hblk hsz), fun p cap W => callsIn_wide.2 (AnyM.slices_Sort_string_none Try.sort85 p cap W)⟩
  have hseq : SeqGives Fence.wide 2 Try.prog 86 #[.pointer (some ⟨g, 0, none⟩)] encStr (fun ss => ss.Perm (strKeys D0)) (Maps.size D0) W :=
    AnyZ.keys_gives (ρ := Try.keys65_ren) { Try.keys65 with } Fence.wide _ trivial rfl (by omega) g b nn D0 _ hgl hg hown
  exact AnyZ.sorted_in Try.sorted64 Fence.wide 5 trivial trivial trivial trivial rfl (by omega) (hsorts _) (enters_of Try.func85 (by kernel_rfl) rfl) 86 #[.pointer (some ⟨g, 0, none⟩)] trivial (enters_of Try.func86 (by kernel_rfl) rfl) _ _ hmax hbytes _ hseq
/-- a map of texts, as the kit reads it -/
def anyR (v : Value) : Option (DataW Unit × List MemPlace) := some (.lit (.bool true), [])
theorem owns_of {es : Array MapEntry} {cs : Nat} {l : List Fl} {W : World} {b : Nat} (hm : MapOk .string es cs (fsV l)) (hb : W.heap[b]? = some (.map es cs)) (hn : ∀ f ∈ l, f.1.length ≤ 80) (hl : l.length ≤ 1000000) :
    ∃ D0 : DataW Unit, W.ownsMap Try.prog 9 anyR b es.size D0 ∧ (strKeys D0).Perm (l.map (·.1)) ∧ Maps.size D0 = l.length := by
  have hsz : es.size = l.length := by
    have := hm.perm.length_eq
    simpa [kvs, fsV] using this
  have hread : ∀ x ∈ es.toList, ∃ f ∈ l, x.key = B f.1 ∧ WideElems.rd Try.prog 9 anyR x = some (.string f.1, .lit (.bool true)) := fun x hx => by
    have h1 : (x.key, x.val) ∈ fsV l := hm.perm.mem_iff.1 (List.mem_map.2 ⟨x, hx, rfl⟩)
    obtain ⟨f, hf, e⟩ := List.mem_map.1 h1
    injection e with e1 e2
    refine ⟨f, hf, e1.symm, ?_⟩
    have h3 := hn f hf
    have h2 : keyOf Try.prog 9 x.key = some (.string f.1) := by
      rw [← e1]
      have : mapKey Try.prog 9 (B f.1) = some (.string f.1) := by
        unfold mapKey
        rw [Try.underlying9]
        have h4 : (⟨f.1.toArray⟩ : ByteArray).size ≤ maxLen := by
          have : (⟨f.1.toArray⟩ : ByteArray).size = f.1.length := by simp [ByteArray.size]
          rw [this]
          have : maxLen = 9223372036854775807 := by decide
          omega
        simp only [h4, if_true]
      unfold keyOf
      rw [Try.underlying9]
      exact this
    unfold WideElems.rd
    rw [h2]
    rfl
  have hF : WideElems.Fit Try.prog 9 anyR es cs := by
    refine ⟨?_, hm.st, fun x hx => ?_⟩
    · rw [hsz]; have : maxLen = 9223372036854775807 := by decide
      omega
    · obtain ⟨f, _, _, h⟩ := hread x hx; exact ⟨_, h⟩
  refine ⟨.map ((es.toList.map (WideElems.rg Try.prog 9 anyR)).foldr DataW.insert []), ⟨es, cs, hb, hF, Nat.le_refl _, rfl⟩, ?_, ?_⟩
  · show (List.map (fun p => strOf p.1) ((es.toList.map (WideElems.rg Try.prog 9 anyR)).foldr DataW.insert [])).Perm _
    refine ((WideShapes.sorted_perm _).map _).trans ?_
    rw [List.map_map]
    have e : es.toList.map ((fun p : Lit × DataW Unit => strOf p.1) ∘ WideElems.rg Try.prog 9 anyR) = (kvs es).map (fun p => match p.1 with | .string s => s.data.toList | _ => []) := by
      rw [kvs, List.map_map]
      refine List.map_congr_left (fun x hx => ?_)
      obtain ⟨f, _, e1, h⟩ := hread x hx
      simp only [Function.comp]
      rw [WideElems.rg_of h, e1]
      rfl
    rw [e]
    refine (hm.perm.map _).trans ?_
    rw [fsV, List.map_map]
    exact List.Perm.of_eq (List.map_congr_left (fun f _ => rfl))
  · rw [show Maps.size (DataW.map ((es.toList.map (WideElems.rg Try.prog 9 anyR)).foldr DataW.insert [])) = es.size from by simp [Maps.size, length_sorted], hsz]
def nmV (l : List Fl) : List Value := l.map fun f => B f.1
abbrev OwnN (a : Option Addr) (l : List Fl) (c : Nat) : As := .own (.slice a l.length c) 9 1 (nmV l)
def NmP (l : List Fl) (v : Value) (A : List As) : Prop := ∃ a c, v = .slice a l.length c ∧ A = [OwnN a l c]
theorem Keys_ct (m : Nat) : Ct Try.prog 65 [.map (some m)] (fun _ => True) [] (fun v A => ∃ g, v = .func (.func 86) #[] #[Ptr g] ∧ A = [.blk g (.cells #[.map (some m)] 81)]) := by
  refine ct_enter 4 Try.func65 rfl rfl rfl ?_
  intro F _
  repeat (first | refine g_seq ?_ | refine at_code ?_ | refine g_skip ?_ | refine g_block ?_ | refine g_exit rfl ?_ | refine g_cond_t rfl ?_ | refine g_cond_f rfl ?_)
  refine g_region ?_
  refine gl_box rfl rfl ?_; intro g1
  refine gl_f (s_assign rfl) rfl rfl rfl ?_
  refine gl_nil ?_
  repeat (first | refine g_seq ?_ | refine at_code ?_ | refine g_skip ?_ | refine g_block ?_ | refine g_exit rfl ?_ | refine g_cond_t rfl ?_ | refine g_cond_f rfl ?_)
  refine g_region ?_
  refine gl_f (s_makeFunc rfl rfl) rfl rfl rfl ?_
  refine gl_f (s_assign rfl) rfl rfl rfl ?_
  refine gl_nil ?_
  repeat (first | refine g_seq ?_ | refine at_code ?_ | refine g_skip ?_ | refine g_block ?_ | refine g_exit rfl ?_ | refine g_cond_t rfl ?_ | refine g_cond_f rfl ?_)
  refine g_ret ?_
  exact at_end1 rfl rfl _ ⟨g1, rfl, rfl⟩ (fun _ h => h)
theorem Sorted_ct (l : List Fl) (g m : Nat) (es : Array MapEntry) (cs : Nat) (hm : MapOk .string es cs (fsV l)) (hs : Srt l) (hn : ∀ f ∈ l, f.1.length ≤ 80) (hl : l.length ≤ 1000000) :
    Ct Try.prog 64 [.func (.func 86) #[] #[Ptr g]] (fun h => h m = some (.map es cs)) [.blk g (.cells #[.map (some m)] 81)] (NmP l) := by
  intro w bs hsat hnd hpre
  obtain ⟨b1, b2, e, ⟨e1, h1⟩, h2⟩ := hsat
  have h2 : b2 = [] := h2
  subst e1 h2
  simp only [List.append_nil] at e
  subst e
  have hb : w.heap[m]? = some (.map es cs) := hpBut_le w _ m _ hpre
  have hgl : g < w.heap.size := (Array.getElem?_eq_some_iff.1 h1).1
  have hg : w.cell? ⟨g, 0, none⟩ = some (.map (some m)) := by
    have h1' : w.heap[g]? = some (.cells #[.map (some m)] 81) := h1
    simp [World.cell?, h1']
  obtain ⟨D0, hown, hk, hsz⟩ := owns_of hm hb hn hl
  have hc := sorted_any g m _ D0 _ w hg hgl hown (by rw [hsz]; have : maxLen = 9223372036854775807 := by decide
                                                     omega) (by rw [hsz]; omega)
  refine (callsIn_wide.1 hc).mono ?_
  rintro e w' ⟨v, ss, rfl, hpm, hrow, hnil, hbel⟩
  have hnames := sorted_names hs (hpm.trans hk)
  have hlen : ss.length = l.length := by have := (hpm.trans hk).length_eq; simpa using this
  have hxs : (ss.mergeSort (fun x y => decide (x ≤ y))).map encStr = nmV l := by rw [hnames, nmV, List.map_map]; rfl
  rw [hxs, hlen] at hrow
  obtain ⟨r1, hrow⟩ := hrow
  have hkeep : Heap.le (snapBut w [g]).heap (hp w') := fun b o hbo => by
    have h3 : w.heap[b]? = some o := hpBut_le w [g] b o hbo
    have h4 : b < w.heap.size := (Array.getElem?_eq_some_iff.1 h3).1
    show w'.heap[b]? = _
    rw [hbel.block b h4]; exact h3
  rcases hrow with ⟨rfl, hl0⟩ | ⟨g2, cap, cur, rfl, hge, hg2, hcap, hmx, hcs, htk⟩
  · have : l = [] := List.eq_nil_of_length_eq_zero hl0
    subst this
    refine ⟨_, [OwnN none [] 0], rfl, ⟨none, 0, rfl, rfl⟩, hbel.os, hbel.tape, hbel.output, hkeep, [], ⟨[], [], rfl, .inl ⟨rfl, rfl, rfl⟩, rfl⟩, List.nodup_nil, by simp⟩
  · refine ⟨_, [OwnN (some ⟨g2, 0, none⟩) l cap], rfl, ⟨_, cap, rfl, rfl⟩, hbel.os, hbel.tape, hbel.output, hkeep, [g2], ⟨[g2], [], rfl, .inr ⟨g2, rfl, ⟨0, l.length, cap, [], cur.toList.drop (l.length * 1), (0, 0), rfl, ?_, rfl, r1, ?_, hcap, .inl (Nat.le_refl _)⟩⟩, rfl⟩, by simp, fun b hb => ?_⟩
    · show w'.heap[g2]? = _
      rw [hg2, List.nil_append, ← htk, List.take_append_drop]
    · rw [← htk, List.take_append_drop, Array.length_toList, hcs]; exact Nat.le_refl _
    · simp only [List.mem_singleton] at hb
      subst hb
      show hpBut w [g] b = none
      unfold hpBut
      split
      · rfl
      · exact Array.getElem?_eq_none hge
/-- Names -/
theorem Names_ct (x : DM) (a : DA) (hm : MapOk .string a.es a.cs (fsV x.seen)) (hs : Srt x.seen) (hn : ∀ f ∈ x.seen, f.1.length ≤ 80) (hl : x.seen.length ≤ 1000000) : Ct Try.prog 30 [Ptr a.D] (SRd x a) [] (NmP x.seen) := by
  refine ct_enter 11 Try.func30 rfl rfl rfl ?_
  intro F hSR
  have hX := hSR.d
  repeat (first | refine g_seq ?_ | refine at_code ?_ | refine g_skip ?_ | refine g_block ?_ | refine g_exit rfl ?_ | refine g_cond_t rfl ?_ | refine g_cond_f rfl ?_)
  refine g_region ?_
  refine gl_f (s_assign rfl) rfl rfl rfl ?_
  refine gl_nil ?_
  repeat (first | refine g_seq ?_ | refine at_code ?_ | refine g_skip ?_ | refine g_block ?_ | refine g_exit rfl ?_ | refine g_cond_t rfl ?_ | refine g_cond_f rfl ?_)
  refine g_region ?_
  refine gl_f (s_move rfl) rfl rfl rfl ?_
  refine gl_f (s_eql_ptr rfl rfl) rfl rfl rfl ?_
  refine gl_nil ?_
  repeat (first | refine g_seq ?_ | refine at_code ?_ | refine g_skip ?_ | refine g_block ?_ | refine g_exit rfl ?_ | refine g_cond_t rfl ?_ | refine g_cond_f rfl ?_)
  refine g_region ?_
  refine gl_f (s_move rfl) rfl rfl rfl ?_
  refine gl_f (s_nilCheck rfl) rfl rfl rfl ?_
  refine gl_f (by first | exact s_fieldAddr rfl (by rfl) (by infer_instance) (by decide) | exact s_fieldAddr_o rfl (by assumption) (by rfl) (by infer_instance) (by decide)) rfl rfl rfl ?_
  refine gl_r (by first | exact s_load_blk rfl (by repeat first|exact .del|apply Upd.there) (by rfl) | exact s_load1 rfl (fun w hw => peekB hw (by assumption) (by rfl))) rfl rfl rfl ?_
  refine gl_call _ rfl (Keys_ct a.ms) (fun w hw => hw) (fun _ _ _ => trivial) rfl ?_; rintro v A ⟨g, rfl, rfl⟩
  refine gl_call _ rfl (Sorted_ct x.seen g a.ms a.es a.cs hm hs hn hl) (fun w hw => hw) (fun h hh _ => hh _ _ hSR.s) rfl ?_; rintro v A ⟨na, nc, rfl, rfl⟩
  refine gl_f (s_assign rfl) rfl rfl rfl ?_
  refine gl_nil ?_
  repeat (first | refine g_seq ?_ | refine at_code ?_ | refine g_skip ?_ | refine g_block ?_ | refine g_exit rfl ?_ | refine g_cond_t rfl ?_ | refine g_cond_f rfl ?_)
  refine g_ret ?_
  exact at_end1 rfl rfl [OwnN na x.seen nc] ⟨na, nc, rfl, rfl⟩ (fun w hw => Hp.left (hw.perm (perm_up (by repeat first|exact .del|apply Upd.there) (.refl _))))
end Go.Proofs.Ytolgclfbllcjhaa
