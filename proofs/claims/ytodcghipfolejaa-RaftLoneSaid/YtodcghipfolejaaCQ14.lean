/- The walks of Read: the program's and the reference's; QuorumTexts. -/
import Derived.Test.YtodcghipfolejaaCQ13
import Derived.Test.YtodcghipfolejaaCQ9
namespace Go.Proofs.Ytodcghipfolejaa
open Go Go.Sl
set_option linter.unusedVariables false
set_option linter.unusedSimpArgs false

def decL (s : List UInt8) : List Int := (s.drop 1).map fun c => ((c.toNat : Nat) : Int)
def okR (s : List UInt8) : Bool := decide (2 ≤ s.length) && decide (textL (decL s) = s)
def readL (s : List UInt8) : List Int := if okR s then decL s else []
def readE (s : List UInt8) : Int := if okR s then 0 else 4
theorem byte_toNat (c : UInt8) : byte ((c.toNat : Nat) : Int) = c := by
  simp [byte]
theorem dec_byte (s : List UInt8) : (decL s).map byte = s.drop 1 := by
  rw [decL, List.map_map]
  conv => rhs; rw [← List.map_id (s.drop 1)]
  congr 1
  funext c
  exact byte_toNat c
/-- a count, and so many small bytes -/
structure GoodT (s : List UInt8) : Prop where
  pos : 0 < s.length
  cnt : (s.getD 0 0).toNat + 1 = s.length
  small : ∀ i, i < s.length → (s.getD i 0).toNat ≤ 5
theorem good_of_ok {s : List UInt8} (h : okR s = true) : GoodT s := by
  simp only [okR, Bool.and_eq_true, decide_eq_true_eq] at h
  obtain ⟨h2, ht⟩ := h
  unfold textL at ht
  split at ht
  · rename_i hr
    have hl := right_len hr
    have hsm := right_small hr
    have hdl : (decL s).length = s.length - 1 := by simp [decL]
    have h0 : s.getD 0 0 = byte (decL s).length := (congrArg (fun x : List UInt8 => x.getD 0 0) ht).symm
    have hb : ((byte ((decL s).length : Nat)).toNat : Int) = ((decL s).length : Nat) := byte_int (by omega) (by omega)
    refine ⟨by omega, by rw [h0]; omega, fun i hi => ?_⟩
    by_cases hi0 : i = 0
    · subst hi0; rw [h0]; omega
    · have hm : ((s.getD i 0).toNat : Int) ∈ decL s := by
        rw [decL, List.mem_map]
        refine ⟨s.getD i 0, ?_, rfl⟩
        rw [List.mem_iff_getElem]
        refine ⟨i - 1, by simp; omega, ?_⟩
        simp [List.getElem_drop, hi]
        simp only [show i - 1 + 1 = i by omega]
      have := hsm _ hm
      omega
  · rw [← ht] at h2; simp at h2
theorem ok_of_good {s : List UInt8} (h : GoodT s) : okR s = rightB (decL s) := by
  have hdl : (decL s).length = s.length - 1 := by simp [decL]
  cases hr : rightB (decL s) with
  | false =>
    have : textL (decL s) = [] := by rw [textL, if_neg (by rw [hr]; simp)]
    rw [okR, this, Bool.and_eq_false_iff]
    right
    refine decide_eq_false fun e => ?_
    have := h.pos
    rw [← e] at this; simp at this
  | true =>
    have hl := right_len hr
    have ht : textL (decL s) = s := by
      rw [textL, if_pos hr, dec_byte]
      have h0 : byte ((decL s).length : Nat) = s.getD 0 0 := by
        have := h.cnt
        rw [show (((decL s).length : Nat) : Int) = (((s.getD 0 0).toNat : Nat) : Int) by omega]
        exact byte_toNat _
      rw [h0]
      have := drop_at (k := 0) h.pos
      rw [List.drop_zero] at this
      exact this.symm
    rw [okR, ht]
    simp; omega
theorem dec_take {s : List UInt8} {j : Nat} (h : 1 + j < s.length) : (decL s).take (j + 1) = (decL s).take j ++ [((s.getD (1 + j) 0).toNat : Int)] := by
  have hl : j < (decL s).length := by simp [decL]; omega
  rw [List.take_succ_eq_append_getElem hl]
  congr 2
  simp [decL, List.getElem_drop, h]
  simp only [show j + 1 = 1 + j by omega]

/-- the reader's state behind j numbers -/
structure RdI (s : List UInt8) (k j : Nat) (l : List Int) (p x : Nat) : Prop where
  len : l.length = j
  le : p ≤ s.length
  good : x = 0 → 0 < s.length ∧ (s.getD 0 0).toNat = k ∧ p = 1 + j ∧ l = (decL s).take j ∧ ∀ i, i < 1 + j → (s.getD i 0).toNat ≤ 5
  bad : x ≠ 0 → ¬ GoodT s
theorem rdI_start {s : List UInt8} {n p x : Nat} (h : Cnt5 s 0 0 (n, 1, p, x)) (hp : p ≤ s.length) : RdI s n 0 [] p x := by
  by_cases hc : 0 < s.length ∧ (s.getD 0 0).toNat ≤ 5
  · have := h.good rfl hc.1 hc.2
    simp only [Prod.mk.injEq] at this
    have hs0 : ∀ i, i < 1 + 0 → (s.getD i 0).toNat ≤ 5 := fun i hi => by
      have e : i = 0 := by omega
      rw [e]; exact hc.2
    exact ⟨rfl, hp, fun _ => ⟨hc.1, by omega, by omega, by simp, hs0⟩, fun hx => by omega⟩
  · have := h.bad (by intro h; exact hc h.2)
    refine ⟨rfl, hp, fun hx => by simp only at this; omega, fun _ hg => ?_⟩
    exact hc ⟨hg.pos, hg.small 0 hg.pos⟩
theorem rdI_next {s : List UInt8} {k j n p x p' x' : Nat} {l : List Int} (hI : RdI s k j l p x) (hj : j < k) (h : Cnt5 s p x (n, 1, p', x')) (hp : p' ≤ s.length) : RdI s k (j + 1) (l ++ [(n : Int)]) p' x' := by
  by_cases hc : x = 0 ∧ p < s.length ∧ (s.getD p 0).toNat ≤ 5
  · have := h.good hc.1 hc.2.1 hc.2.2
    simp only [Prod.mk.injEq] at this
    obtain ⟨h0, h1, h2, h3, h4⟩ := hI.good hc.1
    subst h2
    refine ⟨by simp [hI.len], hp, fun _ => ⟨h0, h1, by omega, ?_, fun i hi => ?_⟩, fun hx => by omega⟩
    · rw [dec_take hc.2.1, h3, this.1]
    · by_cases hi2 : i < 1 + j
      · exact h4 i hi2
      · have : i = 1 + j := by omega
        subst this; exact hc.2.2
  · have := h.bad hc
    simp only at this
    refine ⟨by simp [hI.len], hp, fun hx => by omega, fun _ hg => ?_⟩
    by_cases hx : x = 0
    · obtain ⟨h0, h1, h2, h3, h4⟩ := hI.good hx
      have := hg.cnt
      by_cases hl : p < s.length
      · exact hc ⟨hx, hl, hg.small p hl⟩
      · omega
    · exact hI.bad hx hg
theorem rdI_end {s : List UInt8} {k p x : Nat} {l : List Int} (hI : RdI s k k l p x) : (endE s p x = 0 → GoodT s ∧ l = decL s) ∧ (endE s p x ≠ 0 → okR s = false) := by
  by_cases hx : x = 0
  · obtain ⟨h0, h1, h2, h3, h4⟩ := hI.good hx
    by_cases hl : p < s.length
    · rw [endE, if_pos ⟨hx, hl⟩]
      refine ⟨fun h => by omega, fun _ => ?_⟩
      apply Bool.eq_false_iff.2
      intro hok
      have := (good_of_ok hok).cnt
      omega
    · have hle := hI.le
      rw [endE, if_neg (by omega)]
      refine ⟨fun _ => ⟨⟨h0, by omega, fun i hi => h4 i (by omega)⟩, ?_⟩, fun h => absurd hx h⟩
      rw [h3, List.take_of_length_le (by simp [decL]; omega)]
  · rw [endE, if_neg (by omega)]
    refine ⟨fun h => absurd h hx, fun _ => ?_⟩
    apply Bool.eq_false_iff.2
    intro hok
    exact hI.bad hx (good_of_ok hok)

def RdP (s : List UInt8) (v : Value) (A : List As) : Prop := ∃ a c, v = .tuple #[.slice a (readL s).length c, .int .i64 (readE s)] ∧ A = [.own (.slice a (readL s).length c) 3 1 (intsV (readL s))]
set_option maxHeartbeats 2000000 in
theorem Read_ct (s : List UInt8) (hs : s.length ≤ 9223372036854775807) : Ct Try.prog 59 [B s] (fun _ => True) [] (RdP s) := by
  refine ct_enter 27 Try.func59 rfl rfl rfl ?_
  intro F _
  repeat (first | refine g_seq ?_ | refine at_code ?_ | refine g_skip ?_ | refine g_block ?_ | refine g_exit rfl ?_ | refine g_cond_t rfl ?_ | refine g_cond_f rfl ?_)
  refine g_region ?_
  refine gl_f (s_assign rfl) rfl rfl rfl ?_
  refine gl_f (s_assign rfl) rfl rfl rfl ?_
  refine gl_nil ?_
  repeat (first | refine g_seq ?_ | refine at_code ?_ | refine g_skip ?_ | refine g_block ?_ | refine g_exit rfl ?_ | refine g_cond_t rfl ?_ | refine g_cond_f rfl ?_)
  repeat (first | refine g_seq ?_ | refine at_code ?_ | refine g_skip ?_ | refine g_block ?_ | refine g_exit rfl ?_ | refine g_cond_t rfl ?_ | refine g_cond_f rfl ?_)
  refine g_region ?_
  refine gl_f (s_move rfl) rfl rfl rfl ?_
  refine gl_call [] rfl (Open_ct s) (fun w hw => hw) (fun _ _ _ => trivial) rfl ?_; rintro v A ⟨b, rfl, rfl⟩
  refine gl_f (s_assign rfl) rfl rfl rfl ?_
  refine gl_nil ?_
  repeat (first | refine g_seq ?_ | refine at_code ?_ | refine g_skip ?_ | refine g_block ?_ | refine g_exit rfl ?_ | refine g_cond_t rfl ?_ | refine g_cond_f rfl ?_)
  repeat (first | refine g_seq ?_ | refine at_code ?_ | refine g_skip ?_ | refine g_block ?_ | refine g_exit rfl ?_ | refine g_cond_t rfl ?_ | refine g_cond_f rfl ?_)
  refine g_region ?_
  refine gl_f (s_assign rfl) rfl rfl rfl ?_
  refine gl_nil ?_
  repeat (first | refine g_seq ?_ | refine at_code ?_ | refine g_skip ?_ | refine g_block ?_ | refine g_exit rfl ?_ | refine g_cond_t rfl ?_ | refine g_cond_f rfl ?_)
  repeat (first | refine g_seq ?_ | refine at_code ?_ | refine g_skip ?_ | refine g_block ?_ | refine g_exit rfl ?_ | refine g_cond_t rfl ?_ | refine g_cond_f rfl ?_)
  refine g_region ?_
  refine gl_f (s_move rfl) rfl rfl rfl ?_
  refine gl_call [] rfl (Count_ct b s 0 0 hs (by omega)) (fun w hw => by rw [List.append_nil]; exact hw) (fun _ _ _ => trivial) rfl ?_; rintro v A ⟨k, p, x, hc, hp, hk, rfl, rfl⟩
  refine gl_f (s_move rfl) rfl rfl rfl ?_
  refine gl_nil ?_
  repeat (first | refine g_seq ?_ | refine at_code ?_ | refine g_skip ?_ | refine g_block ?_ | refine g_exit rfl ?_ | refine g_cond_t rfl ?_ | refine g_cond_f rfl ?_)
  have hI0 := rdI_start hc hp
  refine g_own_nil 3 1 ?_
  refine g_loop (ι := Nat × (List Int × Option Addr × Nat) × Nat × Nat) (fun i => i.1 ≤ k ∧ RdI s k i.1 i.2.1.1 i.2.2.1 i.2.2.2) (fun i => [(4, Ptr b), (5, .slice i.2.1.2.1 i.2.1.1.length i.2.1.2.2), (9, .int .i64 (k : Nat)), (10, .int .i64 (i.1 : Nat))]) (fun i => [.own (.slice i.2.1.2.1 i.2.1.1.length i.2.1.2.2) 3 1 (intsV i.2.1.1), RD b s i.2.2.1 i.2.2.2]) (fun i => k - i.1) (0, ([], none, 0), p, x) ⟨by simp, hI0⟩ ?_ ?_ ?_
  · (repeat (first | exact Sub.nil _ | refine Sub.cons rfl ?_))
  · intro w hw; exact hw
  · rintro ⟨j, ⟨l, a, c⟩, p, x⟩ ⟨hj, hI⟩
    simp only at hj hI
    have hlen := hI.len
    repeat (first | refine g_seq ?_ | refine at_code ?_ | refine g_skip ?_ | refine g_block ?_ | refine g_exit rfl ?_ | refine g_cond_t rfl ?_ | refine g_cond_f rfl ?_)
    refine g_region ?_
    refine gl_f (s_lss rfl rfl) rfl rfl rfl ?_
    refine gl_nil ?_
    repeat (first | refine g_seq ?_ | refine at_code ?_ | refine g_skip ?_ | refine g_block ?_ | refine g_exit rfl ?_ | refine g_cond_t rfl ?_ | refine g_cond_f rfl ?_)
    refine g_cond rfl (fun h => ?_) (fun h => ?_)
    · have hj' : j < k := by simp at h; omega
      have hl5 : (j, (l, a, c), p, x).2.1.1.length ≤ 5 := by show l.length ≤ 5; omega
      repeat (first | refine g_seq ?_ | refine at_code ?_ | refine g_skip ?_ | refine g_block ?_ | refine g_exit rfl ?_ | refine g_cond_t rfl ?_ | refine g_cond_f rfl ?_)
      refine g_region ?_
      refine gl_f (s_move rfl) rfl rfl rfl ?_
      refine gl_f (s_move rfl) rfl rfl rfl ?_
      refine gl_call [.own (.slice a l.length c) 3 1 (intsV l)] rfl (Count_ct b s p x hs hI.le) (fun w hw => hw.front (.there .del)) (fun _ _ _ => trivial) rfl ?_; rintro v A ⟨n, p', x', hc2, hp2, hn2, rfl, rfl⟩
      refine gl_buildSliceU rfl rfl rfl rfl rfl rfl (xs := intsV [(n : Int)]) rfl rfl ?_; intro a3 ha3
      refine gl_append rfl rfl (fun a' c' => (by repeat first|exact .here|apply Upd.there)) (fun w hw => (hw.ownN .del).2.2.1) rfl rfl rfl (intsV_one _) (by show (_ + 1) * 8 ≤ _; omega) (by omega) rfl ?_; intro a5 c5 hc5
      refine gl_f (s_assign rfl) rfl rfl rfl ?_
      refine gl_nil ?_
      repeat (first | refine g_seq ?_ | refine at_code ?_ | refine g_skip ?_ | refine g_block ?_ | refine g_exit rfl ?_ | refine g_cond_t rfl ?_ | refine g_cond_f rfl ?_)
      repeat (first | refine g_seq ?_ | refine at_code ?_ | refine g_skip ?_ | refine g_block ?_ | refine g_exit rfl ?_ | refine g_cond_t rfl ?_ | refine g_cond_f rfl ?_)
      refine g_region ?_
      refine gl_f (s_add_i64 rfl rfl (by omega)) rfl rfl rfl ?_
      refine gl_f (s_move rfl) rfl rfl rfl ?_
      refine gl_nil ?_
      repeat (first | refine g_seq ?_ | refine at_code ?_ | refine g_skip ?_ | refine g_block ?_ | refine g_exit rfl ?_ | refine g_cond_t rfl ?_ | refine g_cond_f rfl ?_)
      refine at_next (j + 1, (l ++ [(n : Int)], a5, c5), p', x') ⟨by simp only; omega, rdI_next hI hj' hc2 hp2⟩ (by simp only; omega) ?_ ?_
      · have el : (l ++ [(n : Int)]).length = l.length + 1 := by simp
        simp only [el]
        (repeat (first | exact Sub.nil _ | refine Sub.cons rfl ?_))
      · intro w hw
        have el : (l ++ [(n : Int)]).length = l.length + 1 := by simp
        simp only [el, intsV_append]
        exact (hw.drop).front (.there .del)
    · have hkl : j = k := by simp at h; omega
      subst hkl
      have hE := rdI_end hI
      repeat (first | refine g_seq ?_ | refine at_code ?_ | refine g_skip ?_ | refine g_block ?_ | refine g_exit rfl ?_ | refine g_cond_t rfl ?_ | refine g_cond_f rfl ?_)
      obtain ⟨q, hq⟩ : ∃ q, q = okR s := ⟨_, rfl⟩
      refine g_cutK [(5, .slice a l.length c), (25, .bool (!q))] [.own (.slice a l.length c) 3 1 (intsV l)] ?_ ?_
      · by_cases he : endE s p x = 0
        · obtain ⟨hg, hld⟩ := hE.1 he
          have hok := ok_of_good hg
          rw [← hld, ← hq] at hok
          repeat (first | refine g_seq ?_ | refine at_code ?_ | refine g_skip ?_ | refine g_block ?_ | refine g_exit rfl ?_ | refine g_cond_t rfl ?_ | refine g_cond_f rfl ?_)
          refine g_region ?_
          refine gl_f (s_move rfl) rfl rfl rfl ?_
          refine gl_call [.own (.slice a l.length c) 3 1 (intsV l)] rfl (End_ct b s p x hs hI.le) (fun w hw => hw.front (.there .del)) (fun _ _ _ => trivial) rfl ?_; rintro v A ⟨rfl, rfl⟩; rw [he]
          refine gl_f (s_neq rfl rfl) rfl rfl rfl ?_
          refine gl_f (s_move rfl) rfl rfl rfl ?_
          (first | refine gl_guard_no rfl rfl rfl rfl rfl rfl rfl ?_ | refine gl_guard_un rfl rfl rfl rfl rfl rfl ?_ | (refine gl_guard_yes rfl rfl rfl ?_; refine gl_f (s_move rfl) rfl rfl rfl ?_))
          (first | refine gl_guard_no rfl rfl rfl rfl rfl rfl rfl ?_ | refine gl_guard_un rfl rfl rfl rfl rfl rfl ?_ | (refine gl_guard_yes rfl rfl rfl ?_; refine gl_callp rfl (Right_ct l a c (by omega)) (fun h hh ⟨bs, hb⟩ => Sat.rd hb (by repeat first|exact .del|apply Upd.there)) rfl ?_; rw [← hok]))
          (first | refine gl_guard_no rfl rfl rfl rfl rfl rfl rfl ?_ | refine gl_guard_un rfl rfl rfl rfl rfl rfl ?_ | (refine gl_guard_yes rfl rfl rfl ?_; refine gl_f (s_not rfl) rfl rfl rfl ?_))
          refine gl_f (by first | exact s_pick_t rfl rfl | exact s_pick_f rfl rfl) rfl rfl rfl ?_
          refine gl_nil ?_
          repeat (first | refine g_seq ?_ | refine at_code ?_ | refine g_skip ?_ | refine g_block ?_ | refine g_exit rfl ?_ | refine g_cond_t rfl ?_ | refine g_cond_f rfl ?_)
          exact at_cut (by (repeat (first | exact Sub.nil _ | refine Sub.cons rfl ?_))) (fun w hw => hw.drop)
        · have hok := hE.2 he
          rw [← hq] at hok
          subst hok
          repeat (first | refine g_seq ?_ | refine at_code ?_ | refine g_skip ?_ | refine g_block ?_ | refine g_exit rfl ?_ | refine g_cond_t rfl ?_ | refine g_cond_f rfl ?_)
          refine g_region ?_
          refine gl_f (s_move rfl) rfl rfl rfl ?_
          refine gl_call [.own (.slice a l.length c) 3 1 (intsV l)] rfl (End_ct b s p x hs hI.le) (fun w hw => hw.front (.there .del)) (fun _ _ _ => trivial) rfl ?_; rintro v A ⟨rfl, rfl⟩
          refine gl_f ((s_neq rfl rfl).eq (v' := .bool true) (by rw [decide_eq_false (by omega)]; rfl)) rfl rfl rfl ?_
          refine gl_f (s_move rfl) rfl rfl rfl ?_
          (first | refine gl_guard_no rfl rfl rfl rfl rfl rfl rfl ?_ | refine gl_guard_un rfl rfl rfl rfl rfl rfl ?_ | (refine gl_guard_yes rfl rfl rfl ?_; refine gl_f (s_move rfl) rfl rfl rfl ?_))
          (first | refine gl_guard_no rfl rfl rfl rfl rfl rfl rfl ?_ | refine gl_guard_un rfl rfl rfl rfl rfl rfl ?_ | (refine gl_guard_yes rfl rfl rfl ?_; refine gl_callp rfl (Right_ct _ _ _ (by omega)) (fun h hh hb => by first | trivial | (first | exact RdS.le (by assumption) hh | (obtain ⟨bs, hb⟩ := hb; exact Sat.rd hb ((by repeat first|exact .del|apply Upd.there)))) | (refine ⟨?_, ?_⟩ <;> (first | exact RdS.le (by assumption) hh | (obtain ⟨bs, hb⟩ := hb; exact Sat.rd hb ((by repeat first|exact .del|apply Upd.there))))) | (refine ⟨?_, ?_, ?_⟩ <;> (first | exact RdS.le (by assumption) hh | (obtain ⟨bs, hb⟩ := hb; exact Sat.rd hb ((by repeat first|exact .del|apply Upd.there)))))) rfl ?_))
          (first | refine gl_guard_no rfl rfl rfl rfl rfl rfl rfl ?_ | refine gl_guard_un rfl rfl rfl rfl rfl rfl ?_ | (refine gl_guard_yes rfl rfl rfl ?_; refine gl_f (s_not rfl) rfl rfl rfl ?_))
          refine gl_f (by first | exact s_pick_t rfl rfl | exact s_pick_f rfl rfl) rfl rfl rfl ?_
          refine gl_nil ?_
          repeat (first | refine g_seq ?_ | refine at_code ?_ | refine g_skip ?_ | refine g_block ?_ | refine g_exit rfl ?_ | refine g_cond_t rfl ?_ | refine g_cond_f rfl ?_)
          exact at_cut (by (repeat (first | exact Sub.nil _ | refine Sub.cons rfl ?_))) (fun w hw => hw.drop)
      · repeat (first | refine g_seq ?_ | refine at_code ?_ | refine g_skip ?_ | refine g_block ?_ | refine g_exit rfl ?_ | refine g_cond_t rfl ?_ | refine g_cond_f rfl ?_)
        cases q
        · repeat (first | refine g_seq ?_ | refine at_code ?_ | refine g_skip ?_ | refine g_block ?_ | refine g_exit rfl ?_ | refine g_cond_t rfl ?_ | refine g_cond_f rfl ?_)
          refine g_region ?_
          refine gl_f (s_assign rfl) rfl rfl rfl ?_
          refine gl_f (s_assign rfl) rfl rfl rfl ?_
          refine gl_nil ?_
          repeat (first | refine g_seq ?_ | refine at_code ?_ | refine g_skip ?_ | refine g_block ?_ | refine g_exit rfl ?_ | refine g_cond_t rfl ?_ | refine g_cond_f rfl ?_)
          refine g_ret ?_
          refine g_end_own 3 1 ?_
          have e1 : readL s = [] := by rw [readL, ← hq]; rfl
          have e2 : readE s = 4 := by rw [readE, ← hq]; rfl
          exact at_end2 rfl rfl rfl [.own (.slice none 0 0) 3 1 []] ⟨none, 0, by rw [e1, e2]; rfl, by rw [e1]; rfl⟩ (fun w hw => by
            have := hw.upd_same (.there .del)
            exact this)
        · have hld : l = decL s := by
            by_cases he : endE s p x = 0
            · exact (hE.1 he).2
            · have := hE.2 he
              rw [← hq] at this; cases this
          have e1 : readL s = l := by rw [readL, ← hq, hld]; rfl
          have e2 : readE s = 0 := by rw [readE, ← hq]; rfl
          repeat (first | refine g_seq ?_ | refine at_code ?_ | refine g_skip ?_ | refine g_block ?_ | refine g_exit rfl ?_ | refine g_cond_t rfl ?_ | refine g_cond_f rfl ?_)
          refine g_region ?_
          refine gl_f (s_move rfl) rfl rfl rfl ?_
          refine gl_f (s_assign rfl) rfl rfl rfl ?_
          refine gl_f (s_assign rfl) rfl rfl rfl ?_
          refine gl_nil ?_
          repeat (first | refine g_seq ?_ | refine at_code ?_ | refine g_skip ?_ | refine g_block ?_ | refine g_exit rfl ?_ | refine g_cond_t rfl ?_ | refine g_cond_f rfl ?_)
          refine g_ret ?_
          exact at_end2 rfl rfl rfl [.own (.slice a l.length c) 3 1 (intsV l)] ⟨a, c, by rw [e1, e2], by rw [e1]⟩ (fun w hw => hw)

theorem read_le (s : List UInt8) : (readL s).length ≤ 5 := by
  unfold readL
  split
  · rename_i h
    have hg := good_of_ok h
    have h1 := hg.cnt
    have h2 := hg.small 0 hg.pos
    simp [decL]; omega
  · simp
end Go.Proofs.Ytodcghipfolejaa
