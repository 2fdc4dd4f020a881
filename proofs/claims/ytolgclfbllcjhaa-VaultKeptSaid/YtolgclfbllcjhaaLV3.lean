/- The vault's program: All. -/
import Derived.Test.YtolgclfbllcjhaaLV2
namespace Go.Proofs.Ytolgclfbllcjhaa.Vt
open Go Go.Sl
set_option linter.unusedVariables false
set_option linter.unusedSimpArgs false

/-- whose file a name is -/
def sumN (n : Bs) : Option Bs := if n.length ≠ 65 ∨ n.getD 0 0 ≠ 98 then none else if (Dg.unhex (n.drop 1)).2 = true then some (Dg.unhex (n.drop 1)).1 else none
def allL (l : List Fl) : List Bs := l.filterMap fun f => sumN f.1
theorem all_take {l : List Fl} {k : Nat} (hk : k < l.length) : allL (l.take (k + 1)) = allL (l.take k) ++ (sumN (l.getD k F0).1).toList := by
  rw [allL, allL, take_get hk, List.filterMap_append]
  have e : l.getD k F0 = l[k] := by simp [hk]
  rw [e]
  cases h : sumN (l[k]).1 <;> simp [h]
theorem all_len (l : List Fl) : (allL l).length ≤ l.length := List.length_filterMap_le _ _
abbrev OwnB (a : Option Addr) (l : List Bs) (c : Nat) : As := .own (.slice a l.length c) 9 1 (l.map B)
def AlP (l : List Bs) (v : Value) (A : List As) : Prop := ∃ a c, v = .slice a l.length c ∧ A = [OwnB a l c]
theorem own_snocB {a : Option Addr} {l : List Bs} {s : Bs} {c n : Nat} (hn : n = l.length + 1) : As.own (.slice a n c) 9 1 (l.map B ++ [B s]) = OwnB a (l ++ [s]) c := by
  subst hn
  simp [OwnB]
set_option maxRecDepth 8000 in
set_option maxHeartbeats 2000000 in
theorem All_ct (x : DM) (a : DA) (V n : Nat) (hw0 : Wf x n) (hn : n ≤ 1000000) (hok : DOk x a) : Ct Try.prog 40 [Ptr V] (VRd x a V) [] (AlP (allL x.seen)) := by
  have hI := hw0.inv
  have hsm := hw0.small hn
  have hsl := hsm.seen
  refine ct_enter 41 Try.func40 rfl rfl rfl ?_
  intro F hV
  have hv := hV.v
  repeat (first | refine g_seq ?_ | refine at_code ?_ | refine g_skip ?_ | refine g_block ?_ | refine g_exit rfl ?_ | refine g_cond_t rfl ?_ | refine g_cond_f rfl ?_)
  refine g_region ?_
  refine gl_f (s_assign rfl) rfl rfl rfl ?_
  refine gl_nil ?_
  repeat (first | refine g_seq ?_ | refine at_code ?_ | refine g_skip ?_ | refine g_block ?_ | refine g_exit rfl ?_ | refine g_cond_t rfl ?_ | refine g_cond_f rfl ?_)
  refine g_region ?_
  refine gl_f (s_assign rfl) rfl rfl rfl ?_
  refine gl_nil ?_
  repeat (first | refine g_seq ?_ | refine at_code ?_ | refine g_skip ?_ | refine g_block ?_ | refine g_exit rfl ?_ | refine g_cond_t rfl ?_ | refine g_cond_f rfl ?_)
  refine g_region ?_
  refine gl_f (s_move rfl) rfl rfl rfl ?_
  refine gl_f (s_eql_ptr rfl rfl) rfl rfl rfl ?_
  refine gl_nil ?_
  repeat (first | refine g_seq ?_ | refine at_code ?_ | refine g_skip ?_ | refine g_block ?_ | refine g_exit rfl ?_ | refine g_cond_t rfl ?_ | refine g_cond_f rfl ?_)
  repeat (first | refine g_seq ?_ | refine at_code ?_ | refine g_skip ?_ | refine g_block ?_ | refine g_exit rfl ?_ | refine g_cond_t rfl ?_ | refine g_cond_f rfl ?_)
  refine g_region ?_
  refine gl_f (s_move rfl) rfl rfl rfl ?_
  refine gl_f (s_nilCheck rfl) rfl rfl rfl ?_
  refine gl_f (by first | exact s_fieldAddr rfl (by rfl) (by infer_instance) (by decide) | exact s_fieldAddr_o rfl (by assumption) (by rfl) (by infer_instance) (by decide)) rfl rfl rfl ?_
  refine gl_r (by first | exact s_load_blk rfl (by repeat first|exact .del|apply Upd.there) (by rfl) | exact s_load1 rfl (fun w hw => peekB hw (by assumption) (by rfl))) rfl rfl rfl ?_
  refine gl_call _ rfl (Names_ct x a hok.seen hI.seen (fun f hf => hw0.nm f (.inl hf)) hsl) (fun w hw => hw) (fun h hh _ => hV.d.le hh) rfl ?_; rintro v A ⟨na, nc, rfl, rfl⟩
  refine gl_f (s_len_sl rfl) rfl rfl rfl ?_
  refine gl_f (s_move rfl) rfl rfl rfl ?_
  refine gl_nil ?_
  repeat (first | refine g_seq ?_ | refine at_code ?_ | refine g_skip ?_ | refine g_block ?_ | refine g_exit rfl ?_ | refine g_cond_t rfl ?_ | refine g_cond_f rfl ?_)
  refine g_own_nil 9 1 ?_
  refine g_ownN (a := na) (by repeat first|exact .del|apply Upd.there) (fun _ _ hna => ?_)
  refine g_loop (ι := Nat × Option Addr × Nat) (fun i => i.1 ≤ x.seen.length) (fun i => [(3, .slice i.2.1 (allL (x.seen.take i.1)).length i.2.2), (14, .slice na x.seen.length nc), (15, .int .i64 (x.seen.length : Nat)), (16, .int .i64 (i.1 : Nat))]) (fun i => [OwnB i.2.1 (allL (x.seen.take i.1)) i.2.2, OwnN na x.seen nc]) (fun i => x.seen.length - i.1) (0, none, 0) (Nat.zero_le _) ?_ ?_ ?_
  · (repeat (first | exact Sub.nil _ | refine Sub.cons rfl ?_))
  · intro w hw; exact hw
  rintro ⟨k, b, d⟩ hk
  simp only at hk
  have hal : (allL (x.seen.take k)).length ≤ x.seen.length := Nat.le_trans (all_len _) (by rw [List.length_take]; omega)
  have hal' : (allL (x.seen.take ((k, b, d) : Nat × Option Addr × Nat).fst)).length ≤ x.seen.length := hal
  repeat (first | refine g_seq ?_ | refine at_code ?_ | refine g_skip ?_ | refine g_block ?_ | refine g_exit rfl ?_ | refine g_cond_t rfl ?_ | refine g_cond_f rfl ?_)
  refine g_region ?_
  refine gl_f (s_lss rfl rfl) rfl rfl rfl ?_
  refine gl_nil ?_
  repeat (first | refine g_seq ?_ | refine at_code ?_ | refine g_skip ?_ | refine g_block ?_ | refine g_exit rfl ?_ | refine g_cond_t rfl ?_ | refine g_cond_f rfl ?_)
  refine g_cond rfl (fun h => ?_) (fun h => ?_)
  rotate_left
  · have hkl : k = x.seen.length := by simp at h; omega
    subst hkl
    simp only [List.take_length]
    repeat (first | refine g_seq ?_ | refine at_code ?_ | refine g_skip ?_ | refine g_block ?_ | refine g_exit rfl ?_ | refine g_cond_t rfl ?_ | refine g_cond_f rfl ?_)
    repeat (first | refine g_seq ?_ | refine at_code ?_ | refine g_skip ?_ | refine g_block ?_ | refine g_exit rfl ?_ | refine g_cond_t rfl ?_ | refine g_cond_f rfl ?_)
    refine g_region ?_
    refine gl_f (s_move rfl) rfl rfl rfl ?_
    refine gl_f (s_assign rfl) rfl rfl rfl ?_
    refine gl_nil ?_
    repeat (first | refine g_seq ?_ | refine at_code ?_ | refine g_skip ?_ | refine g_block ?_ | refine g_exit rfl ?_ | refine g_cond_t rfl ?_ | refine g_cond_f rfl ?_)
    refine g_ret ?_
    exact at_end1 rfl rfl [OwnB b (allL x.seen) d] ⟨b, d, rfl, rfl⟩ (fun w hw => Hp.left (R := [_]) hw)
  have hk' : k < x.seen.length := by simp at h; omega
  have hsome : ∃ ad, na = some ad := hna (by omega)
  obtain ⟨nm, hnm⟩ : ∃ nm, nm = (x.seen.getD k F0).1 := ⟨_, rfl⟩
  have hnl : nm.length ≤ 80 := by
    rw [hnm, List.getD_eq_getElem?_getD, List.getElem?_eq_getElem hk']
    exact hw0.nm _ (.inl (List.getElem_mem hk'))
  have hpk : ∀ {w : World} {H H' : List As}, Hp F w H → Upd H (OwnN na x.seen nc) [] H' → PeekC (hp w) (addO na (k * 1)) [B nm] := fun hw u => peek_own hw u (by simp) (fun j v hj => by
    match j, hj with
    | 0, hj => simp at hj; subst hj; rw [Nat.mul_one, hnm]; simpa using nm_get x.seen k hk')
  have hex := all_take hk'
  rw [← hnm] at hex
  repeat (first | refine g_seq ?_ | refine at_code ?_ | refine g_skip ?_ | refine g_block ?_ | refine g_exit rfl ?_ | refine g_cond_t rfl ?_ | refine g_cond_f rfl ?_)
  repeat (first | refine g_seq ?_ | refine at_code ?_ | refine g_skip ?_ | refine g_block ?_ | refine g_exit rfl ?_ | refine g_cond_t rfl ?_ | refine g_cond_f rfl ?_)
  refine g_region ?_
  refine gl_f (s_indexAddr rfl (by assumption) rfl (by omega)) rfl rfl rfl ?_
  refine gl_r (s_load1 (v := B nm) rfl (fun w hw => hpk hw (by repeat first|exact .del|apply Upd.there))) rfl rfl rfl ?_
  refine gl_f (s_assign rfl) rfl rfl rfl ?_
  refine gl_nil ?_
  repeat (first | refine g_seq ?_ | refine at_code ?_ | refine g_skip ?_ | refine g_block ?_ | refine g_exit rfl ?_ | refine g_cond_t rfl ?_ | refine g_cond_f rfl ?_)
  obtain ⟨q1, hq1⟩ : ∃ q, q = decide ((nm.length : Int) = 65) := ⟨_, rfl⟩
  cases q1
  · have hs0 : sumN nm = none := by rw [sumN, if_pos (.inl (by have := of_decide_eq_false hq1.symm; omega))]
    rw [hs0] at hex
    repeat (first | refine g_seq ?_ | refine at_code ?_ | refine g_skip ?_ | refine g_block ?_ | refine g_exit rfl ?_ | refine g_cond_t rfl ?_ | refine g_cond_f rfl ?_)
    refine g_region ?_
    refine gl_f (s_move rfl) rfl rfl rfl ?_
    refine gl_f (s_len_str rfl) rfl rfl rfl ?_
    refine gl_f ((s_neq rfl rfl).eq (v' := .bool true) (by rw [← hq1]; rfl)) rfl rfl rfl ?_
    refine gl_f (s_move rfl) rfl rfl rfl ?_
    (first | refine gl_guard_no rfl rfl rfl rfl rfl rfl rfl ?_ | refine gl_guard_un rfl rfl rfl rfl rfl rfl ?_ | (refine gl_guard_yes rfl rfl rfl ?_; refine gl_f (s_move rfl) rfl rfl rfl ?_))
    (first | refine gl_guard_no rfl rfl rfl rfl rfl rfl rfl ?_ | refine gl_guard_un rfl rfl rfl rfl rfl rfl ?_ | (refine gl_guard_yes rfl rfl rfl ?_; refine gl_f (s_index_str rfl rfl (by omega)) rfl rfl rfl ?_))
    (first | refine gl_guard_no rfl rfl rfl rfl rfl rfl rfl ?_ | refine gl_guard_un rfl rfl rfl rfl rfl rfl ?_ | (refine gl_guard_yes rfl rfl rfl ?_; refine gl_f (s_neq rfl rfl) rfl rfl rfl ?_))
    refine gl_f (by first | exact s_pick_t rfl rfl | exact s_pick_f rfl rfl) rfl rfl rfl ?_
    refine gl_nil ?_
    repeat (first | refine g_seq ?_ | refine at_code ?_ | refine g_skip ?_ | refine g_block ?_ | refine g_exit rfl ?_ | refine g_cond_t rfl ?_ | refine g_cond_f rfl ?_)
    repeat (first | refine g_seq ?_ | refine at_code ?_ | refine g_skip ?_ | refine g_block ?_ | refine g_exit rfl ?_ | refine g_cond_t rfl ?_ | refine g_cond_f rfl ?_)
    refine g_region ?_
    refine gl_f (s_add_i64 rfl rfl (by omega)) rfl rfl rfl ?_
    refine gl_f (s_move rfl) rfl rfl rfl ?_
    refine gl_nil ?_
    repeat (first | refine g_seq ?_ | refine at_code ?_ | refine g_skip ?_ | refine g_block ?_ | refine g_exit rfl ?_ | refine g_cond_t rfl ?_ | refine g_cond_f rfl ?_)
    refine at_next (k + 1, b, d) (by simp only; omega) (by simp only; omega) ?_ ?_
    · simp only [hex, Option.toList, List.append_nil]; (repeat (first | exact Sub.nil _ | refine Sub.cons rfl ?_))
    · intro w hw; simp only [hex, Option.toList, List.append_nil]; exact hw
  have hl65 : nm.length = 65 := by have := of_decide_eq_true hq1.symm; omega
  have hh0 : (0 : Nat) < nm.length := by omega
  obtain ⟨q2, hq2⟩ : ∃ q, q = decide ((((nm.getD 0 0).toNat : Nat) : Int) = 98) := ⟨_, rfl⟩
  cases q2
  · have h98 : nm.getD 0 0 ≠ 98 := fun h => of_decide_eq_false hq2.symm (by rw [h]; rfl)
    have hs0 : sumN nm = none := by rw [sumN, if_pos (.inr h98)]
    rw [hs0] at hex
    repeat (first | refine g_seq ?_ | refine at_code ?_ | refine g_skip ?_ | refine g_block ?_ | refine g_exit rfl ?_ | refine g_cond_t rfl ?_ | refine g_cond_f rfl ?_)
    refine g_region ?_
    refine gl_f (s_move rfl) rfl rfl rfl ?_
    refine gl_f (s_len_str rfl) rfl rfl rfl ?_
    refine gl_f ((s_neq rfl rfl).eq (v' := .bool false) (by rw [← hq1]; rfl)) rfl rfl rfl ?_
    refine gl_f (s_move rfl) rfl rfl rfl ?_
    (first | refine gl_guard_no rfl rfl rfl rfl rfl rfl rfl ?_ | refine gl_guard_un rfl rfl rfl rfl rfl rfl ?_ | (refine gl_guard_yes rfl rfl rfl ?_; refine gl_f (s_move rfl) rfl rfl rfl ?_))
    (first | refine gl_guard_no rfl rfl rfl rfl rfl rfl rfl ?_ | refine gl_guard_un rfl rfl rfl rfl rfl rfl ?_ | (refine gl_guard_yes rfl rfl rfl ?_; refine gl_f (s_index_str rfl rfl ⟨by omega, by omega⟩) rfl rfl rfl ?_))
    (first | refine gl_guard_no rfl rfl rfl rfl rfl rfl rfl ?_ | refine gl_guard_un rfl rfl rfl rfl rfl rfl ?_ | (refine gl_guard_yes rfl rfl rfl ?_; refine gl_f ((s_neq rfl rfl).eq (v' := .bool true) (by rw [show (0 : Int).toNat = 0 from rfl, ← hq2]; rfl)) rfl rfl rfl ?_))
    refine gl_f (by first | exact s_pick_t rfl rfl | exact s_pick_f rfl rfl) rfl rfl rfl ?_
    refine gl_nil ?_
    repeat (first | refine g_seq ?_ | refine at_code ?_ | refine g_skip ?_ | refine g_block ?_ | refine g_exit rfl ?_ | refine g_cond_t rfl ?_ | refine g_cond_f rfl ?_)
    repeat (first | refine g_seq ?_ | refine at_code ?_ | refine g_skip ?_ | refine g_block ?_ | refine g_exit rfl ?_ | refine g_cond_t rfl ?_ | refine g_cond_f rfl ?_)
    refine g_region ?_
    refine gl_f (s_add_i64 rfl rfl (by omega)) rfl rfl rfl ?_
    refine gl_f (s_move rfl) rfl rfl rfl ?_
    refine gl_nil ?_
    repeat (first | refine g_seq ?_ | refine at_code ?_ | refine g_skip ?_ | refine g_block ?_ | refine g_exit rfl ?_ | refine g_cond_t rfl ?_ | refine g_cond_f rfl ?_)
    refine at_next (k + 1, b, d) (by simp only; omega) (by simp only; omega) ?_ ?_
    · simp only [hex, Option.toList, List.append_nil]; (repeat (first | exact Sub.nil _ | refine Sub.cons rfl ?_))
    · intro w hw; simp only [hex, Option.toList, List.append_nil]; exact hw
  have h98 : nm.getD 0 0 = 98 := by
    have h1 := of_decide_eq_true hq2.symm
    exact UInt8.toNat_inj.1 (by rw [show ((98 : UInt8).toNat) = 98 from rfl]; omega)
  have hdl : (nm.drop 1).length = 64 := by rw [List.length_drop]; omega
  obtain ⟨u, hu⟩ : ∃ u, u = Dg.unhex (nm.drop 1) := ⟨_, rfl⟩
  have hsN : sumN nm = if u.2 = true then some u.1 else none := by
    rw [sumN, if_neg (by rintro (h | h); exact h hl65; exact h h98), ← hu]
  obtain ⟨u1, u2⟩ := u
  simp only at hsN
  repeat (first | refine g_seq ?_ | refine at_code ?_ | refine g_skip ?_ | refine g_block ?_ | refine g_exit rfl ?_ | refine g_cond_t rfl ?_ | refine g_cond_f rfl ?_)
  refine g_region ?_
  refine gl_f (s_move rfl) rfl rfl rfl ?_
  refine gl_f (s_len_str rfl) rfl rfl rfl ?_
  refine gl_f ((s_neq rfl rfl).eq (v' := .bool false) (by rw [← hq1]; rfl)) rfl rfl rfl ?_
  refine gl_f (s_move rfl) rfl rfl rfl ?_
  (first | refine gl_guard_no rfl rfl rfl rfl rfl rfl rfl ?_ | refine gl_guard_un rfl rfl rfl rfl rfl rfl ?_ | (refine gl_guard_yes rfl rfl rfl ?_; refine gl_f (s_move rfl) rfl rfl rfl ?_))
  (first | refine gl_guard_no rfl rfl rfl rfl rfl rfl rfl ?_ | refine gl_guard_un rfl rfl rfl rfl rfl rfl ?_ | (refine gl_guard_yes rfl rfl rfl ?_; refine gl_f (s_index_str rfl rfl ⟨by omega, by omega⟩) rfl rfl rfl ?_))
  (first | refine gl_guard_no rfl rfl rfl rfl rfl rfl rfl ?_ | refine gl_guard_un rfl rfl rfl rfl rfl rfl ?_ | (refine gl_guard_yes rfl rfl rfl ?_; refine gl_f ((s_neq rfl rfl).eq (v' := .bool false) (by rw [show (0 : Int).toNat = 0 from rfl, ← hq2]; rfl)) rfl rfl rfl ?_))
  refine gl_f (by first | exact s_pick_t rfl rfl | exact s_pick_f rfl rfl) rfl rfl rfl ?_
  refine gl_nil ?_
  repeat (first | refine g_seq ?_ | refine at_code ?_ | refine g_skip ?_ | refine g_block ?_ | refine g_exit rfl ?_ | refine g_cond_t rfl ?_ | refine g_cond_f rfl ?_)
  repeat (first | refine g_seq ?_ | refine at_code ?_ | refine g_skip ?_ | refine g_block ?_ | refine g_exit rfl ?_ | refine g_cond_t rfl ?_ | refine g_cond_f rfl ?_)
  refine g_region ?_
  refine gl_f (s_move rfl) rfl rfl rfl ?_
  refine gl_f ((s_slice_str rfl rfl rfl ⟨by omega, by omega, by omega⟩).eq (v' := B (nm.drop 1)) (by rw [List.take_of_length_le]; rfl; rw [List.length_drop]; omega)) rfl rfl rfl ?_
  refine gl_callp rfl (Dg.Unhex_ct (nm.drop 1) (by omega)) (fun _ _ _ => trivial) rfl ?_; rw [Dg.unhexV, ← hu]
  refine gl_f (s_move rfl) rfl rfl rfl ?_
  refine gl_f (s_extract rfl rfl) rfl rfl rfl ?_
  refine gl_f (s_extract rfl rfl) rfl rfl rfl ?_
  refine gl_f (s_assign rfl) rfl rfl rfl ?_
  refine gl_f (s_assign rfl) rfl rfl rfl ?_
  refine gl_nil ?_
  repeat (first | refine g_seq ?_ | refine at_code ?_ | refine g_skip ?_ | refine g_block ?_ | refine g_exit rfl ?_ | refine g_cond_t rfl ?_ | refine g_cond_f rfl ?_)
  cases u2
  · rw [if_neg (by decide)] at hsN
    rw [hsN] at hex
    repeat (first | refine g_seq ?_ | refine at_code ?_ | refine g_skip ?_ | refine g_block ?_ | refine g_exit rfl ?_ | refine g_cond_t rfl ?_ | refine g_cond_f rfl ?_)
    refine g_region ?_
    refine gl_f (s_move rfl) rfl rfl rfl ?_
    refine gl_nil ?_
    repeat (first | refine g_seq ?_ | refine at_code ?_ | refine g_skip ?_ | refine g_block ?_ | refine g_exit rfl ?_ | refine g_cond_t rfl ?_ | refine g_cond_f rfl ?_)
    refine g_region ?_
    refine gl_f (s_add_i64 rfl rfl (by omega)) rfl rfl rfl ?_
    refine gl_f (s_move rfl) rfl rfl rfl ?_
    refine gl_nil ?_
    repeat (first | refine g_seq ?_ | refine at_code ?_ | refine g_skip ?_ | refine g_block ?_ | refine g_exit rfl ?_ | refine g_cond_t rfl ?_ | refine g_cond_f rfl ?_)
    refine at_next (k + 1, b, d) (by simp only; omega) (by simp only; omega) ?_ ?_
    · simp only [hex, Option.toList, List.append_nil]; (repeat (first | exact Sub.nil _ | refine Sub.cons rfl ?_))
    · intro w hw; simp only [hex, Option.toList, List.append_nil]; exact hw
  · rw [if_pos rfl] at hsN
    rw [hsN] at hex
    repeat (first | refine g_seq ?_ | refine at_code ?_ | refine g_skip ?_ | refine g_block ?_ | refine g_exit rfl ?_ | refine g_cond_t rfl ?_ | refine g_cond_f rfl ?_)
    refine g_region ?_
    refine gl_f (s_move rfl) rfl rfl rfl ?_
    refine gl_nil ?_
    repeat (first | refine g_seq ?_ | refine at_code ?_ | refine g_skip ?_ | refine g_block ?_ | refine g_exit rfl ?_ | refine g_cond_t rfl ?_ | refine g_cond_f rfl ?_)
    repeat (first | refine g_seq ?_ | refine at_code ?_ | refine g_skip ?_ | refine g_block ?_ | refine g_exit rfl ?_ | refine g_cond_t rfl ?_ | refine g_cond_f rfl ?_)
    refine g_region ?_
    refine gl_f (s_move rfl) rfl rfl rfl ?_
    refine gl_f (s_move rfl) rfl rfl rfl ?_
    refine gl_buildSliceU rfl rfl rfl rfl rfl rfl (xs := [B u1]) rfl rfl ?_; intro a7 ha7
    refine gl_append rfl rfl (fun a' c' => .there .here) (fun w hw => (hw.ownN (by repeat first|exact .del|apply Upd.there)).2.2.1) rfl rfl rfl (by (intro q hq; simp [Value.cells] at hq; first | (subst hq; rfl) | (rcases hq with rfl | rfl | rfl | rfl | rfl | rfl | rfl | rfl <;> rfl) | (rcases hq with rfl | rfl | rfl | rfl | rfl | rfl | rfl <;> rfl) | (rcases hq with rfl | rfl | rfl | rfl | rfl | rfl <;> rfl) | (rcases hq with rfl | rfl | rfl | rfl | rfl <;> rfl) | (rcases hq with rfl | rfl | rfl | rfl <;> rfl) | (rcases hq with rfl | rfl | rfl <;> rfl) | (rcases hq with rfl | rfl <;> rfl))) (by show (_ + 1) * 16 ≤ _; omega) (by omega) rfl ?_; intro a8 c8 hc8
    refine gl_f (s_assign rfl) rfl rfl rfl ?_
    refine gl_nil ?_
    repeat (first | refine g_seq ?_ | refine at_code ?_ | refine g_skip ?_ | refine g_block ?_ | refine g_exit rfl ?_ | refine g_cond_t rfl ?_ | refine g_cond_f rfl ?_)
    repeat (first | refine g_seq ?_ | refine at_code ?_ | refine g_skip ?_ | refine g_block ?_ | refine g_exit rfl ?_ | refine g_cond_t rfl ?_ | refine g_cond_f rfl ?_)
    refine g_region ?_
    refine gl_f (s_add_i64 rfl rfl (by omega)) rfl rfl rfl ?_
    refine gl_f (s_move rfl) rfl rfl rfl ?_
    refine gl_nil ?_
    repeat (first | refine g_seq ?_ | refine at_code ?_ | refine g_skip ?_ | refine g_block ?_ | refine g_exit rfl ?_ | refine g_cond_t rfl ?_ | refine g_cond_f rfl ?_)
    refine at_next (k + 1, a8, c8) (by simp only; omega) (by simp only; omega) ?_ ?_
    · simp only [hex, Option.toList, List.length_append, List.length_singleton]
      (repeat (first | exact Sub.nil _ | refine Sub.cons rfl ?_))
    · intro w hw
      simp only [hex, Option.toList]
      rw [← own_snocB rfl]
      exact hw.drop
end Go.Proofs.Ytolgclfbllcjhaa.Vt
