import Derived.Test.YtodcghipfolejaaGreatJx4
set_option linter.unusedVariables false
set_option linter.unusedSimpArgs false
namespace Go.Proofs.YtodcghipfolejaaGreat
open Go Go.Sl
def decL (s : List UInt8) : List Int := (s.drop 1).map fun c => ((c.toNat : Nat) : Int)
def okR (s : List UInt8) : Bool := decide (2 ≤ s.length) && decide (textL (decL s) = s)
def readL (s : List UInt8) : List Int := if okR s then decL s else []
def readE (s : List UInt8) : Int := if okR s then 0 else 4
theorem byte_toNat (c : UInt8) : byte ((c.toNat : Nat) : Int) = c := by
 simp [byte]
theorem dec_byte (s : List UInt8) : (decL s).map byte = s.drop 1 := by
 rw [decL, List.map_map]
 conv => rhs; rw [← List.map_id (s.drop 1)]
 congr 1
 funext c
 exact byte_toNat c
structure GoodT (s : List UInt8) : Prop where
 pos : 0 < s.length
 cnt : (s.getD 0 0).toNat + 1 = s.length
 small : ∀ i, i < s.length → (s.getD i 0).toNat ≤ 5
theorem good_of_ok {s : List UInt8} (h : okR s = true) : GoodT s := by
 simp only [okR, Bool.and_eq_true, decide_eq_true_eq] at h
 obtain ⟨h2, ht⟩ := h
 unfold textL at ht
 split at ht
 ·rename_i hr
  have hl := right_len hr
  have hsm := right_small hr
  have hdl : (decL s).length = s.length - 1 := by simp [decL]
  have h0 : s.getD 0 0 = byte (decL s).length := (congrArg (fun x : List UInt8 => x.getD 0 0) ht).symm
  have hb : ((byte ((decL s).length : Nat)).toNat : Int) = ((decL s).length : Nat) := byte_int (by omega) (by omega)
  refine ⟨by omega, by rw [h0]; omega, fun i hi => ?_⟩
  by_cases hi0 : i = 0
  ·subst hi0; rw [h0]; omega
  ·have hm : ((s.getD i 0).toNat : Int) ∈ decL s := by
    rw [decL, List.mem_map]
    refine ⟨s.getD i 0, ?_, rfl⟩
    rw [List.mem_iff_getElem]
    refine ⟨i - 1, by simp; omega, ?_⟩
    simp [List.getElem_drop, hi]
    simp only [show i - 1 + 1 = i by omega]
   have := hsm _ hm
   omega
 ·rw [← ht] at h2; simp at h2
theorem ok_of_good {s : List UInt8} (h : GoodT s) : okR s = rightB (decL s) := by
 have hdl : (decL s).length = s.length - 1 := by simp [decL]
 cases hr : rightB (decL s) with
 | false =>
  have : textL (decL s) = [] := by rw [textL, if_neg (by rw [hr]; simp)]
  rw [okR, this, Bool.and_eq_false_iff]
  right
  refine decide_eq_false fun e => ?_
  have := h.pos
  rw [← e] at this; simp at this
 | true =>
  have hl := right_len hr
  have ht : textL (decL s) = s := by
   rw [textL, if_pos hr, dec_byte]
   have h0 : byte ((decL s).length : Nat) = s.getD 0 0 := by
    have := h.cnt
    rw [show (((decL s).length : Nat) : Int) = (((s.getD 0 0).toNat : Nat) : Int) by omega]
    exact byte_toNat _
   rw [h0]
   have := drop_at (k := 0) h.pos
   rw [List.drop_zero] at this
   exact this.symm
  rw [okR, ht]
  simp; omega
theorem dec_take {s : List UInt8} {j : Nat} (h : 1 + j < s.length) : (decL s).take (j + 1) = (decL s).take j ++ [((s.getD (1 + j) 0).toNat : Int)] := by
 have hl : j < (decL s).length := by simp [decL]; omega
 rw [List.take_succ_eq_append_getElem hl]
 congr 2
 simp [decL, List.getElem_drop, h]
 simp only [show j + 1 = 1 + j by omega]
structure RdI (s : List UInt8) (k j : Nat) (l : List Int) (p x : Nat) : Prop where
 len : l.length = j
 le : p ≤ s.length
 good : x = 0 → 0 < s.length ∧ (s.getD 0 0).toNat = k ∧ p = 1 + j ∧ l = (decL s).take j ∧ ∀ i, i < 1 + j → (s.getD i 0).toNat ≤ 5
 bad : x ≠ 0 → ¬ GoodT s
theorem rdI_start {s : List UInt8} {n p x : Nat} (h : Cnt5 s 0 0 (n, 1, p, x)) (hp : p ≤ s.length) : RdI s n 0 [] p x := by
 by_cases hc : 0 < s.length ∧ (s.getD 0 0).toNat ≤ 5
 ·have := h.good rfl hc.1 hc.2
  simp only [Prod.mk.injEq] at this
  have hs0 : ∀ i, i < 1 + 0 → (s.getD i 0).toNat ≤ 5 := fun i hi => by
   have e : i = 0 := by omega
   rw [e]; exact hc.2
  exact ⟨rfl, hp, fun _ => ⟨hc.1, by omega, by omega, by simp, hs0⟩, fun hx => by omega⟩
 ·have := h.bad (by intro h; exact hc h.2)
  refine ⟨rfl, hp, fun hx => by simp only at this; omega, fun _ hg => ?_⟩
  exact hc ⟨hg.pos, hg.small 0 hg.pos⟩
theorem rdI_next {s : List UInt8} {k j n p x p' x' : Nat} {l : List Int} (hI : RdI s k j l p x) (hj : j < k) (h : Cnt5 s p x (n, 1, p', x')) (hp : p' ≤ s.length) : RdI s k (j + 1) (l ++ [(n : Int)]) p' x' := by
 by_cases hc : x = 0 ∧ p < s.length ∧ (s.getD p 0).toNat ≤ 5
 ·have := h.good hc.1 hc.2.1 hc.2.2
  simp only [Prod.mk.injEq] at this
  obtain ⟨h0, h1, h2, h3, h4⟩ := hI.good hc.1
  subst h2
  refine ⟨by simp [hI.len], hp, fun _ => ⟨h0, h1, by omega, ?_, fun i hi => ?_⟩, fun hx => by omega⟩
  ·rw [dec_take hc.2.1, h3, this.1]
  ·by_cases hi2 : i < 1 + j
   ·exact h4 i hi2
   ·have : i = 1 + j := by omega
    subst this; exact hc.2.2
 ·have := h.bad hc
  simp only at this
  refine ⟨by simp [hI.len], hp, fun hx => by omega, fun _ hg => ?_⟩
  by_cases hx : x = 0
  ·obtain ⟨h0, h1, h2, h3, h4⟩ := hI.good hx
   have := hg.cnt
   by_cases hl : p < s.length
   ·exact hc ⟨hx, hl, hg.small p hl⟩
   ·omega
  ·exact hI.bad hx hg
theorem rdI_end {s : List UInt8} {k p x : Nat} {l : List Int} (hI : RdI s k k l p x) : (endE s p x = 0 → GoodT s ∧ l = decL s) ∧ (endE s p x ≠ 0 → okR s = false) := by
 by_cases hx : x = 0
 ·obtain ⟨h0, h1, h2, h3, h4⟩ := hI.good hx
  by_cases hl : p < s.length
  ·rw [endE, if_pos ⟨hx, hl⟩]
   refine ⟨fun h => by omega, fun _ => ?_⟩
   apply Bool.eq_false_iff.2
   intro hok
   have := (good_of_ok hok).cnt
   omega
  ·have hle := hI.le
   rw [endE, if_neg (by omega)]
   refine ⟨fun _ => ⟨⟨h0, by omega, fun i hi => h4 i (by omega)⟩, ?_⟩, fun h => absurd hx h⟩
   rw [h3, List.take_of_length_le (by simp [decL]; omega)]
 ·rw [endE, if_neg (by omega)]
  refine ⟨fun h => absurd h hx, fun _ => ?_⟩
  apply Bool.eq_false_iff.2
  intro hok
  exact hI.bad hx (good_of_ok hok)
def RdP (s : List UInt8) (v : Value) (A : List As) : Prop := ∃ a c, v = .tuple #[.slice a (readL s).length c, .int .i64 (readE s)] ∧ A = [.own (.slice a (readL s).length c) 3 1 (intsV (readL s))]
set_option maxHeartbeats 2000000 in
theorem Read_ct (s : List UInt8) (hs : s.length ≤ 9223372036854775807) : Ct Tryz.prog 87 [B s] (fun _ => True) [] (RdP s) := by
 refine ct_enter 27 Tryz.func87 rfl rfl rfl ?_
 intro F _
 repeat refine x_ ?_
 refine a_ ?_
 refine a_ ?_
 repeat refine x_ ?_
 refine m_ ?_
 refine gl_call [] rfl (Open_ct s) i_ (fun _ _ _ => trivial) rfl ?_; rintro v A ⟨b, rfl, rfl⟩
 refine a_ ?_
 repeat refine x_ ?_
 refine a_ ?_
 repeat refine x_ ?_
 refine m_ ?_
 refine gl_call [] rfl (Count_ct b s 0 0 hs (by omega)) (fun w hw => by rw [List.append_nil]; exact hw) (fun _ _ _ => trivial) rfl ?_; rintro v A ⟨k, p, x, hc, hp, hk, rfl, rfl⟩
 refine m_ ?_
 repeat refine n_ ?_
 have hI0 := rdI_start hc hp
 refine g_own_nil 3 1 ?_
 refine g_loop (ι := Nat × (List Int × Option Addr × Nat) × Nat × Nat) (fun i => i.1 ≤ k ∧ RdI s k i.1 i.2.1.1 i.2.2.1 i.2.2.2) (fun i => [(4, Ptr b), (5, .slice i.2.1.2.1 i.2.1.1.length i.2.1.2.2), (9, .int .i64 (k : Nat)), (10, .int .i64 (i.1 : Nat))]) (fun i => [.own (.slice i.2.1.2.1 i.2.1.1.length i.2.1.2.2) 3 1 (intsV i.2.1.1), RD b s i.2.2.1 i.2.2.2]) (fun i => k - i.1) (0, ([], none, 0), p, x) ⟨by simp, hI0⟩ ?_ ?_ ?_
 ·(repeat (first | exact Sub.nil _ | refine Sub.cons rfl ?_))
 ·intro w hw; exact hw
 ·rintro ⟨j, ⟨l, a, c⟩, p, x⟩ ⟨hj, hI⟩
  simp only at hj hI
  have hlen := hI.len
  repeat refine x_ ?_
  refine f_ (s_lss rfl rfl) ?_
  repeat refine n_ ?_
  refine g_cond rfl (fun h => ?_) (fun h => ?_)
  ·have hj' : j < k := by simp at h; omega
   have hl5 : (j, (l, a, c), p, x).2.1.1.length ≤ 5 := by show l.length ≤ 5; omega
   repeat refine x_ ?_
   refine m_ ?_
   refine m_ ?_
   refine gl_call [.own (.slice a l.length c) 3 1 (intsV l)] rfl (Count_ct b s p x hs hI.le) (fun w hw => hw.front (.there .del)) (fun _ _ _ => trivial) rfl ?_; rintro v A ⟨n, p', x', hc2, hp2, hn2, rfl, rfl⟩
   refine gl_buildSliceU rfl rfl rfl rfl rfl rfl (xs := intsV [(n : Int)]) rfl rfl ?_; intro a3 ha3
   refine gl_append rfl rfl (fun a' c' => z_5) (fun w hw => (hw.ownN .del).2.2.1) rfl rfl rfl (intsV_one _) (by show (_ + 1) * 8 ≤ _; omega) (by omega) rfl ?_; intro a5 c5 hc5
   refine a_ ?_
   repeat refine x_ ?_
   refine f_ (s_add_i64 rfl rfl (by omega)) ?_
   refine m_ ?_
   repeat refine n_ ?_
   refine at_next (j + 1, (l ++ [(n : Int)], a5, c5), p', x') ⟨by simp only; omega, rdI_next hI hj' hc2 hp2⟩ (by simp only; omega) ?_ ?_
   ·have el : (l ++ [(n : Int)]).length = l.length + 1 := by simp
    simp only [el]
    (repeat (first | exact Sub.nil _ | refine Sub.cons rfl ?_))
   ·intro w hw
    have el : (l ++ [(n : Int)]).length = l.length + 1 := by simp
    simp only [el, intsV_append]
    exact (hw.drop).front (.there .del)
  ·have hkl : j = k := by simp at h; omega
   subst hkl
   have hE := rdI_end hI
   repeat refine y_ ?_
   obtain ⟨q, hq⟩ : ∃ q, q = okR s := ⟨_, rfl⟩
   refine g_cutK [(5, .slice a l.length c), (25, .bool (!q))] [.own (.slice a l.length c) 3 1 (intsV l)] ?_ ?_
   ·by_cases he : endE s p x = 0
    ·obtain ⟨hg, hld⟩ := hE.1 he
     have hok := ok_of_good hg
     rw [← hld, ← hq] at hok
     repeat refine x_ ?_
     refine m_ ?_
     refine gl_call [.own (.slice a l.length c) 3 1 (intsV l)] rfl (End_ct b s p x hs hI.le) (fun w hw => hw.front (.there .del)) (fun _ _ _ => trivial) rfl ?_; rintro v A ⟨rfl, rfl⟩; rw [he]
     refine f_ (s_neq rfl rfl) ?_
     refine m_ ?_
     (refine v_ ?_; refine m_ ?_)
     (refine v_ ?_; refine gl_callp rfl (Right_ct l a c (by omega)) (fun h hh ⟨bs, hb⟩ => Sat.rd hb z_2) rfl ?_; rw [← hok])
     (refine v_ ?_; refine f_ (s_not rfl) ?_)
     refine f_ z_12 ?_
     repeat refine n_ ?_
     exact at_cut j_ (fun w hw => hw.drop)
    ·have hok := hE.2 he
     rw [← hq] at hok
     subst hok
     repeat refine x_ ?_
     refine m_ ?_
     refine gl_call [.own (.slice a l.length c) 3 1 (intsV l)] rfl (End_ct b s p x hs hI.le) (fun w hw => hw.front (.there .del)) (fun _ _ _ => trivial) rfl ?_; rintro v A ⟨rfl, rfl⟩
     refine f_ ((s_neq rfl rfl).eq (v' := .bool true) (by rw [decide_eq_false (by omega)]; rfl)) ?_
     refine m_ ?_
     (refine gl_guard_no rfl rfl rfl rfl rfl rfl rfl ?_)
     (refine gl_guard_no rfl rfl rfl rfl rfl rfl rfl ?_)
     (refine gl_guard_no rfl rfl rfl rfl rfl rfl rfl ?_)
     refine f_ z_13 ?_
     repeat refine n_ ?_
     exact at_cut j_ (fun w hw => hw.drop)
   ·repeat refine y_ ?_
    cases q
    ·repeat refine y_ ?_
     refine g_region ?_
     refine a_ ?_
     refine a_ ?_
     repeat refine n_ ?_
     refine g_ret ?_
     refine g_end_own 3 1 ?_
     have e1 : readL s = [] := by rw [readL, ← hq]; rfl
     have e2 : readE s = 4 := by rw [readE, ← hq]; rfl
     exact at_end2 rfl rfl rfl [.own (.slice none 0 0) 3 1 []] ⟨none, 0, by rw [e1, e2]; rfl, by rw [e1]; rfl⟩ (fun w hw => by
      have := hw.upd_same (.there .del)
      exact this)
    ·have hld : l = decL s := by
      by_cases he : endE s p x = 0
      ·exact (hE.1 he).2
      ·have := hE.2 he
       rw [← hq] at this; cases this
     have e1 : readL s = l := by rw [readL, ← hq, hld]; rfl
     have e2 : readE s = 0 := by rw [readE, ← hq]; rfl
     repeat refine x_ ?_
     refine m_ ?_
     refine a_ ?_
     refine a_ ?_
     repeat refine n_ ?_
     refine g_ret ?_
     exact at_end2 rfl rfl rfl [.own (.slice a l.length c) 3 1 (intsV l)] ⟨a, c, by rw [e1, e2], by rw [e1]⟩ i_
set_option maxHeartbeats 2000000 in
theorem rRead_ct (s : List UInt8) (hs : s.length ≤ 1000000000000) : Ct Tryz.prog 47 [B s] (fun _ => True) [] (RdP s) := by
 refine ct_enter 29 Tryz.func47 rfl rfl rfl ?_
 intro F _
 repeat refine x_ ?_
 refine a_ ?_
 refine a_ ?_
 repeat refine x_ ?_
 refine a_ ?_
 repeat refine x_ ?_
 refine a_ ?_
 repeat refine n_ ?_
 refine g_own_nil 3 1 ?_
 refine g_loop (ι := Nat × Option Addr × Nat) (fun i => i.1 ≤ s.length - 1) (fun i => [(0, B s), (4, .slice i.2.1 i.1 i.2.2), (5, .int .i64 ((i.1 : Nat) + 1))]) (fun i => [.own (.slice i.2.1 i.1 i.2.2) 3 1 (intsV ((decL s).take i.1))]) (fun i => s.length - i.1) (0, none, 0) (by simp) ?_ ?_ ?_
 ·(repeat (first | exact Sub.nil _ | refine Sub.cons rfl ?_))
 ·intro w hw; exact hw
 ·rintro ⟨k, a, c⟩ hk
  simp only at hk
  have hkk : (k, a, c).fst ≤ 1000000000000 := by show k ≤ _; omega
  repeat refine x_ ?_
  refine m_ ?_
  refine m_ ?_
  refine f_ (s_len_str rfl) ?_
  refine f_ (s_lss rfl rfl) ?_
  repeat refine n_ ?_
  refine g_cond rfl (fun h => ?_) (fun h => ?_)
  ·have hk' : 1 + k < s.length := by simp at h; omega
   obtain ⟨x, hx⟩ : ∃ x, x = s.getD (1 + k) 0 := ⟨_, rfl⟩
   have hx256 := x.toNat_lt
   have e : intsV ((decL s).take (k + 1)) = intsV ((decL s).take k) ++ intsV [((x.toNat : Nat) : Int)] := by rw [dec_take hk', intsV_append, hx]
   repeat refine x_ ?_
   refine m_ ?_
   refine m_ ?_
   refine m_ ?_
   refine f_ ((s_index_str rfl rfl (by omega)).eq (v' := .int .u8 ((x.toNat : Nat))) (by rw [hx]; congr 5; omega)) ?_
   refine f_ (s_conv_keep_i64 rfl (by omega)) ?_
   refine gl_buildSliceU rfl rfl rfl rfl rfl rfl (xs := intsV [((x.toNat : Nat) : Int)]) rfl rfl ?_; intro a5 ha5
   refine gl_append rfl rfl (fun a' c' => z_5) (fun w hw => (hw.ownN .del).2.2.1) rfl rfl rfl (intsV_one _) (by show (_ + 1) * 8 ≤ _; omega) (by omega) rfl ?_; intro a6 c6 hc6
   refine a_ ?_
   repeat refine x_ ?_
   refine m_ ?_
   refine f_ (s_add_i64 rfl rfl (by omega)) ?_
   refine a_ ?_
   repeat refine n_ ?_
   refine at_next (k + 1, a6, c6) (by simp only; omega) (by simp only; omega) ?_ ?_
   ·(repeat (first | exact Sub.nil _ | refine Sub.cons rfl ?_))
   ·intro w hw
    simp only
    rw [e]
    exact hw.drop
  ·have hkl : s.length - 1 = k := by simp at h; omega
   have hlen : (decL s).length = k := by simp [decL]; omega
   have htk : (decL s).take k = decL s := List.take_of_length_le (by omega)
   repeat refine y_ ?_
   obtain ⟨q1, hq1⟩ : ∃ q, q = decide ((s.length : Int) < 2) := ⟨_, rfl⟩
   obtain ⟨q2, hq2⟩ : ∃ q, q = decide (textL (decL s) = s) := ⟨_, rfl⟩
   have hok : okR s = (!q1 && q2) := by
    rw [okR, hq1, hq2]
    congr 1
    rw [← decide_not]
    exact decide_eq_decide.2 (by omega)
   refine g_cutK [(4, .slice a k c), (27, .bool (q1 || !q2))] [.own (.slice a k c) 3 1 (intsV (decL s))] ?_ ?_
   ·cases q1
    all_goals (
     repeat refine x_ ?_
     refine m_ ?_
     refine f_ (s_len_str rfl) ?_
     refine f_ ((s_lss rfl rfl).eb hq1) ?_
     refine m_ ?_
     (first | refine gl_guard_no rfl rfl rfl rfl rfl rfl rfl ?_ | (refine v_ ?_; refine m_ ?_))
     (first | refine gl_guard_no rfl rfl rfl rfl rfl rfl rfl ?_ | (refine v_ ?_; refine gl_callp (vs := [.slice a (decL s).length c]) (by rw [hlen]; rfl) (rText_ct (decL s) a c (by omega)) (fun h hh ⟨bs, hb⟩ => by have h9 := Sat.rd hb .del; rwa [htk] at h9) rfl ?_))
     (first | refine gl_guard_no rfl rfl rfl rfl rfl rfl rfl ?_ | (refine v_ ?_; refine m_ ?_))
     (first | refine gl_guard_no rfl rfl rfl rfl rfl rfl rfl ?_ | (refine v_ ?_; refine f_ ((s_neq_str rfl rfl).eq (congrArg (fun q => Value.bool (!q)) hq2.symm)) ?_))
     refine f_ z_6 ?_
     refine gl_nil ?_
     repeat refine y_ ?_)
    all_goals exact at_cut j_ (fun w hw => by rw [htk] at hw; exact hw)
   ·repeat refine y_ ?_
    refine g_cond rfl (fun h2 => ?_) (fun h2 => ?_)
    ·have hno : okR s = false := by rw [hok]; cases q1 <;> cases q2 <;> simp_all
     have e1 : readL s = [] := by rw [readL, hno]; rfl
     have e2 : readE s = 4 := by rw [readE, hno]; rfl
     repeat refine x_ ?_
     refine a_ ?_
     refine a_ ?_
     repeat refine n_ ?_
     refine g_ret ?_
     refine g_end_own 3 1 ?_
     exact at_end2 rfl rfl rfl [.own (.slice none 0 0) 3 1 []] ⟨none, 0, by rw [e1, e2]; rfl, by rw [e1]; rfl⟩ (fun w hw => hw.upd_same (.there .del))
    ·have hyes : okR s = true := by rw [hok]; cases q1 <;> cases q2 <;> simp_all
     have e1 : readL s = decL s := by rw [readL, hyes]; rfl
     have e2 : readE s = 0 := by rw [readE, hyes]; rfl
     repeat refine x_ ?_
     refine m_ ?_
     refine a_ ?_
     refine a_ ?_
     repeat refine n_ ?_
     refine g_ret ?_
     exact at_end2 rfl rfl rfl [.own (.slice a k c) 3 1 (intsV (decL s))] ⟨a, c, by rw [e1, e2, hlen], by rw [e1, hlen]⟩ i_
theorem read_le (s : List UInt8) : (readL s).length ≤ 5 := by
 unfold readL
 split
 ·rename_i h
  have hg := good_of_ok h
  have h1 := hg.cnt
  have h2 := hg.small 0 hg.pos
  simp [decL]; omega
 ·simp
theorem textL_le (l : List Int) (n : Nat) (hn : 6 ≤ n) : (textL l).length ≤ n := by
 unfold textL
 split
 ·rename_i hr
  have := right_len hr
  simp; omega
 ·simp
end Go.Proofs.YtodcghipfolejaaGreat
namespace Go.Proofs.YtodcghipfolejaaGreat
open Go Go.Sl
theorem hp_left {F : Snap} {w : World} {A R : List As} (h : Hp F w (A ++ R)) : Hp F w A := by
 obtain ⟨bs, hs, hn, hf⟩ := h.own
 obtain ⟨ba, bb, rfl, ha, hb⟩ := Sat.split hs
 exact ⟨h.os, h.tape, h.output, h.keep, ba, ha, (List.nodup_append.1 hn).1, fun b hb => hf b (by simp [hb])⟩
abbrev Ent := Int × Int × List UInt8
abbrev E0 : Ent := (0, 0, [])
abbrev entC (e : Ent) : List Value := [.int .u64 e.1, .int .i64 e.2.1, B e.2.2]
abbrev entV (e : Ent) : Value := .agg #[.int .u64 e.1, .int .i64 e.2.1, B e.2.2]
def enV (l : List Ent) : List Value := l.flatMap entC
theorem enV_length (l : List Ent) : (enV l).length = l.length * 3 := by
 induction l with
 | nil => rfl
 | cons p l ih => simp only [enV, List.flatMap_cons, List.length_append, List.length_cons, List.length_nil] at *; omega
theorem enV_append (a b : List Ent) : enV (a ++ b) = enV a ++ enV b := by simp [enV]
theorem enV_one (l : List Ent) : ∀ q ∈ enV l, q.oneCell' = true := fun q hq => by
 simp only [enV, List.mem_flatMap] at hq; obtain ⟨p, _, hq⟩ := hq
 simp at hq; rcases hq with rfl | rfl | rfl <;> rfl
theorem enV_get : ∀ (l : List Ent) (i : Nat), i < l.length → ∀ j u, (entC (l.getD i E0))[j]? = some u → (enV l)[3 * i + j]? = some u
 | p :: l, 0, _, j, u, h => by
  have hj : j < 3 := by have := (List.getElem?_eq_some_iff.1 h).1; simpa using this
  rw [enV, List.flatMap_cons, List.getElem?_append_left (by simpa using hj)]
  simpa using h
 | p :: l, i + 1, hi, j, u, h => by
  have := enV_get l i (by simpa using hi) j u (by simpa using h)
  rw [enV, List.flatMap_cons, List.getElem?_append_right (by simp; omega)]
  have e : 3 * (i + 1) + j - (entC p).length = 3 * i + j := by simp; omega
  rw [e]; exact this
theorem enV_take (l : List Ent) (n : Nat) : enV (l.take n) = (enV l).take (n * 3) := by
 induction l generalizing n with
 | nil => simp [enV]
 | cons p l ih =>
  cases n with
  | zero => simp [enV]
  | succ n =>
   have e : (n + 1) * 3 = (entC p).length + n * 3 := by simp; omega
   have h1 : enV (p :: l) = entC p ++ enV l := rfl
   have h2 : enV ((p :: l).take (n + 1)) = entC p ++ enV (l.take n) := rfl
   rw [h2, h1, ih, e, List.take_length_add_append]
theorem enV_drop (l : List Ent) (n : Nat) : enV (l.drop n) = (enV l).drop (n * 3) := by
 induction l generalizing n with
 | nil => simp [enV]
 | cons p l ih =>
  cases n with
  | zero => simp [enV]
  | succ n =>
   have e : (n + 1) * 3 = (entC p).length + n * 3 := by simp; omega
   have h1 : enV (p :: l) = entC p ++ enV l := rfl
   have h2 : enV ((p :: l).drop (n + 1)) = enV (l.drop n) := rfl
   rw [h2, h1, ih, e, List.drop_length_add_append]
structure LM where
 base : Int
 bt : Int
 conf : List Int
 l : List Ent
 ca : Option Addr
 cc : Nat
 la : Option Addr
 lc : Nat
abbrev LM.v (g : LM) : Value := .agg #[.int .u64 g.base, .int .u64 g.bt, .slice g.ca g.conf.length g.cc, .slice g.la g.l.length g.lc]
def LM.ok (g : LM) (h : Heap) : Prop := RdS h g.ca (intsV g.conf) ∧ RdS h g.la (enV g.l)
theorem LM.ok.le {g : LM} {h h' : Heap} (a : g.ok h) (b : Heap.le h h') : g.ok h' := ⟨a.1.le b, a.2.le b⟩
structure LM.fit (g : LM) : Prop where
 lo : 0 ≤ g.base
 hi : g.base ≤ 4611686018428387904
 len : g.l.length ≤ 1000000
 cl : g.conf.length ≤ 1000000
 cap : g.l.length ≤ g.lc
def hasL (g : LM) (i : Int) : Bool := decide (g.base ≤ i) && decide (i - g.base ≤ (g.l.length : Int))
def termV (g : LM) (i : Int) : Int := if hasL g i = true then (if i = g.base then g.bt else (g.l.getD (i - g.base - 1).toNat E0).1) else 0
def lastI (g : LM) : Int := g.base + (g.l.length : Int)
def lastT (g : LM) : Int := if g.l.length = 0 then g.bt else (g.l.getD (g.l.length - 1) E0).1
theorem last_term (g : LM) (h : 0 ≤ g.base) : termV g (lastI g) = lastT g ∧ hasL g (lastI g) = true := by
 have h1 : hasL g (lastI g) = true := by
  simp only [hasL, Bool.and_eq_true, decide_eq_true_eq]
  unfold lastI
  omega
 refine ⟨?_, h1⟩
 rw [termV, if_pos h1, lastT, lastI]
 by_cases h2 : g.l.length = 0
 ·rw [if_pos (by omega), if_pos h2]
 ·rw [if_neg (by omega), if_neg h2]
  congr 2; omega
def sliceL (g : LM) (frm : Int) (most : Int) : List Ent := if g.base < frm ∧ frm - g.base ≤ (g.l.length : Int) ∧ 1 ≤ most then (g.l.drop (frm - g.base - 1).toNat).take most.toNat else []
theorem slice_le (g : LM) (frm most : Int) : (sliceL g frm most).length ≤ g.l.length := by
 unfold sliceL
 split
 ·rw [List.length_take, List.length_drop]; omega
 ·simp
def isC (e : Ent) : Bool := decide (e.2.1 = 2) && okR e.2.2
def confN (g : LM) : Nat → List Int × Int
 | 0 => (g.conf, g.base)
 | n + 1 => if isC (g.l.getD n E0) = true then (readL (g.l.getD n E0).2.2, g.base + (n : Int) + 1) else confN g n
def confAt (g : LM) (i : Int) : List Int × Int := confN g (min g.l.length (i - g.base).toNat)
theorem confN_le (g : LM) (hc : g.conf.length ≤ 1000000) : ∀ n, (confN g n).1.length ≤ 1000000
 | 0 => hc
 | n + 1 => by
  rw [confN]
  split
  ·have := read_le (g.l.getD n E0).2.2
   simp only; omega
  ·exact confN_le g hc n
def same (g : LM) (prev : Int) (l : List Ent) (k : Nat) : Bool := hasL g (prev + 1 + (k : Int)) && decide (termV g (prev + 1 + (k : Int)) = (l.getD k E0).1)
def firstD (g : LM) (prev : Int) (l : List Ent) : Nat := (List.range l.length).findIdx fun k => !same g prev l k
theorem firstD_end {g : LM} {prev : Int} {l : List Ent} (h : ∀ k, k < l.length → same g prev l k = true) : firstD g prev l = l.length := by
 have h1 := (List.findIdx_eq_length (p := fun k => !same g prev l k) (xs := List.range l.length)).2 (fun k hk => by simp [h k (by simpa using hk)])
 rw [List.length_range] at h1
 exact h1
theorem firstD_at {g : LM} {prev : Int} {l : List Ent} {k : Nat} (hk : k < l.length) (h : ∀ j, j < k → same g prev l j = true) (hn : same g prev l k = false) : firstD g prev l = k := by
 unfold firstD
 rw [List.findIdx_eq (by simpa using hk)]
 refine ⟨by simp [hn], fun j hj => by simp [h j hj]⟩
theorem firstD_le (g : LM) (prev : Int) (l : List Ent) : firstD g prev l ≤ l.length := by
 have := List.findIdx_le_length (xs := List.range l.length) (p := fun k => !same g prev l k)
 simpa [firstD] using this
structure Mrg where
 l : List Ent
 at_ : Int
 ok : Bool
def mrgB (g : LM) (prev term : Int) (l : List Ent) : Mrg :=
 if (hasL g prev && decide (termV g prev = term)) = false then ⟨g.l, 0, false⟩
 else if firstD g prev l = l.length then ⟨g.l, 0, true⟩
 else ⟨g.l.take ((prev - g.base).toNat + firstD g prev l) ++ l.drop (firstD g prev l), prev + 1 + (firstD g prev l : Nat), true⟩
def mrgL (g : LM) (prev term : Int) (l : List Ent) : Mrg :=
 if prev < g.base then mrgB g g.base g.bt (l.drop (g.base - prev).toNat) else mrgB g prev term l
end Go.Proofs.YtodcghipfolejaaGreat
namespace Go.Proofs.YtodcghipfolejaaGreat
open Go Go.Sl
theorem rdE_some {h : Heap} {a : Option Addr} {l : List Ent} {i : Nat} (r : RdS h a (enV l)) (hi : i < l.length) : ∃ ad, a = some ad := by
 obtain ⟨ad, e, _⟩ := r (by intro e; have := congrArg List.length e; rw [enV_length] at this; simp at this; omega)
 exact ⟨ad, e⟩
section
variable {F : Snap} {w : World} {H H' : List As} {ys : List As} {a : Option Addr} {l : List Ent} {n c : Nat} {te : TypeId} {q i : Nat}
theorem rdE (hw : Hp F w H) (r : RdS F.heap a (enV l)) (h : q = 3 * i) (hi : i < l.length) : PeekC (hp w) (addO a q) (entC (l.getD i E0)) :=
 peek_rd hw r (by simp) (fun j u hu => by subst h; exact enV_get l i hi j u hu)
theorem rdE0 (hw : Hp F w H) (r : RdS F.heap a (enV l)) (h : q = 3 * i) (hi : i < l.length) : PeekC (hp w) (addO a q) [.int .u64 (l.getD i E0).1] :=
 peek_rd hw r (by simp) (fun j u hu => by
  subst h
  match j, hu with
  | 0, hu => simp at hu; subst hu; exact enV_get l i hi 0 _ rfl)
theorem rdE1 (hw : Hp F w H) (r : RdS F.heap a (enV l)) (h : q = 3 * i + 1) (hi : i < l.length) : PeekC (hp w) (addO a q) [.int .i64 (l.getD i E0).2.1] :=
 peek_rd hw r (by simp) (fun j u hu => by
  subst h
  match j, hu with
  | 0, hu => simp at hu; subst hu; exact enV_get l i hi 1 _ rfl)
theorem rdE2 (hw : Hp F w H) (r : RdS F.heap a (enV l)) (h : q = 3 * i + 2) (hi : i < l.length) : PeekC (hp w) (addO a q) [B (l.getD i E0).2.2] :=
 peek_rd hw r (by simp) (fun j u hu => by
  subst h
  match j, hu with
  | 0, hu => simp at hu; subst hu; exact enV_get l i hi 2 _ rfl)
theorem rdE_own (hw : Hp F w H) (u : Upd H (.own (.slice a n c) te 3 (enV l)) ys H') (h : q = 3 * i) (hi : i < l.length) : PeekC (hp w) (addO a q) (entC (l.getD i E0)) :=
 peek_own hw u (by simp) (fun j u hu => by subst h; exact enV_get l i hi j u hu)
end
def RdE2 (a b : Option Addr) (l m : List Ent) (h : Heap) : Prop := RdS h a (enV l) ∧ RdS h b (enV m)
theorem ent_eq (x y : Ent) : (decide (x.1 = y.1) && (decide (x.2.1 = y.2.1) && (decide (x.2.2 = y.2.2) && true))) = decide (x = y) := by
 rw [Bool.eq_iff_iff]
 simp only [Bool.and_eq_true, decide_eq_true_eq, and_true]
 constructor
 ·rintro ⟨h1, h2, h3⟩
  exact Prod.ext h1 (Prod.ext h2 h3)
 ·rintro rfl; exact ⟨rfl, rfl, rfl⟩
theorem same_ents {a b : List Ent} (h : a.length = b.length) (hk : ∀ i, i < a.length → a.getD i E0 = b.getD i E0) : a = b := by
 apply List.ext_getElem h
 intro i h1 h2
 have := hk i h1
 simpa [h1, h2] using this
theorem SameInts_ct (l m : List Int) (a b : Option Addr) (c d : Nat) (hl : l.length ≤ 4611686018427387903) : Pu Tryz.prog 12 [.slice a l.length c, .slice b m.length d] (Rd2 a b l m) (.bool (decide (l = m))) := by
 refine ct_enter 26 Tryz.func12 rfl rfl rfl ?_
 intro F hr
 have hrd := hr.1
 have hrm := hr.2
 repeat refine x_ ?_
 refine a_ ?_
 repeat refine x_ ?_
 refine m_ ?_
 refine f_ (s_len_sl rfl) ?_
 refine m_ ?_
 refine f_ (s_len_sl rfl) ?_
 refine f_ (s_neq rfl rfl) ?_
 repeat refine n_ ?_
 refine g_cond rfl (fun h => ?_) (fun h => ?_)
 ·have hne : l ≠ m := by rintro rfl; simp at h
  rw [decide_eq_false hne]
  repeat refine x_ ?_
  refine a_ ?_
  repeat refine n_ ?_
  refine g_ret ?_
  exact at_end1 rfl rfl [] ⟨rfl, rfl⟩ (fun _ h => h)
 ·have hlen : l.length = m.length := by simp at h; omega
  repeat refine x_ ?_
  refine a_ ?_
  repeat refine n_ ?_
  refine g_loop (ι := Nat) (fun k => k ≤ l.length ∧ ∀ i, i < k → l.getD i 0 = m.getD i 0) (fun k => [(0, .slice a l.length c), (1, .slice b m.length d), (5, .int .i64 (k : Nat))]) (fun k => []) (fun k => l.length - k) 0 ⟨by omega, fun j hj => absurd hj (by omega)⟩ ?_ ?_ ?_
  ·(repeat (first | exact Sub.nil _ | refine Sub.cons rfl ?_))
  ·intro w hw; exact hw
  ·intro k hk
   obtain ⟨hk, hok⟩ := hk
   repeat refine x_ ?_
   refine m_ ?_
   refine m_ ?_
   refine f_ (s_len_sl rfl) ?_
   refine f_ (s_lss rfl rfl) ?_
   repeat refine n_ ?_
   refine g_cond rfl (fun h => ?_) (fun h => ?_)
   ·have hk' : k < l.length := by simp at h; omega
    have hsome := rdI_some hrd hk'
    have hsome2 := rdI_some hrm (i := k) (by omega)
    repeat refine y_ ?_
    refine g_draw0 ([3, 7], [0, 0, 3, 7, 0, 0, 48, 112, 255], []) 9 rfl ?_
    refine w_ 0 rfl (s_move rfl) ?_
    refine w_ 1 rfl (s_move rfl) ?_
    refine w_ 2 rfl (s_indexAddr rfl (by assumption) rfl (by omega)) ?_
    refine ga_readF 3 rfl (s_load1 rfl (fun w hw => rdI hw hrd (i := k) (by omega) (by omega))) z_15 rfl rfl rfl z_4 ?_
    refine w_ 4 rfl (s_move rfl) ?_
    refine w_ 5 rfl (s_move rfl) ?_
    refine w_ 6 rfl (s_indexAddr rfl (by assumption) rfl (by omega)) ?_
    refine ga_readF 7 rfl (s_load1 rfl (fun w hw => rdI hw hrm (i := k) (by omega) (by omega))) z_15 rfl rfl rfl z_4 ?_
    refine w_ 8 rfl (s_neq rfl rfl) ?_
    refine ga_done z_4 ?_
    repeat refine y_ ?_
    refine g_cond rfl (fun h2 => ?_) (fun h2 => ?_)
    ·have hne : l ≠ m := by rintro rfl; simp at h2
     rw [decide_eq_false hne]
     repeat refine x_ ?_
     refine a_ ?_
     repeat refine n_ ?_
     refine g_ret ?_
     exact at_end1 rfl rfl [] ⟨rfl, rfl⟩ (fun _ h => h)
    ·have h3 : l.getD k 0 = m.getD k 0 := by rw [Bool.not_eq_false', decide_eq_true_eq] at h2; exact h2
     repeat refine x_ ?_
     refine m_ ?_
     refine f_ (s_add_i64 rfl rfl (by omega)) ?_
     refine a_ ?_
     repeat refine n_ ?_
     refine at_next (k + 1) ⟨by omega, fun j hj => ?_⟩ (by omega) ?_ ?_
     ·rcases Nat.lt_succ_iff_lt_or_eq.1 hj with h4 | rfl
      ·exact hok j h4
      ·exact h3
     ·(repeat (first | exact Sub.nil _ | refine Sub.cons rfl ?_))
     ·intro w hw; exact hw
   ·have hkl : k = l.length := by simp at h; omega
    subst hkl
    rw [decide_eq_true (same_cases hlen hok)]
    repeat refine x_ ?_
    refine a_ ?_
    repeat refine n_ ?_
    refine g_ret ?_
    exact at_end1 rfl rfl [] ⟨rfl, rfl⟩ (fun _ h => h)
theorem SameEntries_ct (l m : List Ent) (a b : Option Addr) (c d : Nat) (hl : l.length ≤ 4611686018427387903) : Pu Tryz.prog 85 [.slice a l.length c, .slice b m.length d] (RdE2 a b l m) (.bool (decide (l = m))) := by
 refine ct_enter 26 Tryz.func85 rfl rfl rfl ?_
 intro F hr
 have hrd := hr.1
 have hrm := hr.2
 repeat refine x_ ?_
 refine a_ ?_
 repeat refine x_ ?_
 refine m_ ?_
 refine f_ (s_len_sl rfl) ?_
 refine m_ ?_
 refine f_ (s_len_sl rfl) ?_
 refine f_ (s_neq rfl rfl) ?_
 repeat refine n_ ?_
 refine g_cond rfl (fun h => ?_) (fun h => ?_)
 ·have hne : l ≠ m := by rintro rfl; simp at h
  rw [decide_eq_false hne]
  repeat refine x_ ?_
  refine a_ ?_
  repeat refine n_ ?_
  refine g_ret ?_
  exact at_end1 rfl rfl [] ⟨rfl, rfl⟩ (fun _ h => h)
 ·have hlen : l.length = m.length := by simp at h; omega
  repeat refine x_ ?_
  refine a_ ?_
  repeat refine n_ ?_
  refine g_loop (ι := Nat) (fun k => k ≤ l.length ∧ ∀ i, i < k → l.getD i E0 = m.getD i E0) (fun k => [(0, .slice a l.length c), (1, .slice b m.length d), (5, .int .i64 (k : Nat))]) (fun k => []) (fun k => l.length - k) 0 ⟨by omega, fun j hj => absurd hj (by omega)⟩ ?_ ?_ ?_
  ·(repeat (first | exact Sub.nil _ | refine Sub.cons rfl ?_))
  ·intro w hw; exact hw
  ·intro k hk
   obtain ⟨hk, hok⟩ := hk
   repeat refine x_ ?_
   refine m_ ?_
   refine m_ ?_
   refine f_ (s_len_sl rfl) ?_
   refine f_ (s_lss rfl rfl) ?_
   repeat refine n_ ?_
   refine g_cond rfl (fun h => ?_) (fun h => ?_)
   ·have hk' : k < l.length := by simp at h; omega
    have hsome := rdE_some hrd hk'
    have hsome2 := rdE_some hrm (i := k) (by omega)
    repeat refine y_ ?_
    refine g_draw0 ([3, 7], [0, 0, 3, 7, 0, 0, 48, 112, 255], []) 9 rfl ?_
    refine w_ 0 rfl (s_move rfl) ?_
    refine w_ 1 rfl (s_move rfl) ?_
    refine w_ 2 rfl (s_indexAddr rfl (by assumption) rfl (by omega)) ?_
    refine ga_readF 3 rfl (s_loadN rfl (fun w hw => rdE hw hrd (i := k) (by omega) hk') rfl) z_15 rfl rfl rfl z_4 ?_
    refine w_ 4 rfl (s_move rfl) ?_
    refine w_ 5 rfl (s_move rfl) ?_
    refine w_ 6 rfl (s_indexAddr rfl (by assumption) rfl (by omega)) ?_
    refine ga_readF 7 rfl (s_loadN rfl (fun w hw => rdE hw hrm (i := k) (by omega) (by omega)) rfl) z_15 rfl rfl rfl z_4 ?_
    refine w_ 8 rfl ((s_neq_struct rfl rfl (by exact EqF.int (by decide) rfl rfl (EqF.int (by decide) rfl rfl (EqF.str (by decide) rfl rfl EqF.nil)))).eq (v' := .bool (!decide (l.getD k E0 = m.getD k E0))) (by rw [ent_eq])) ?_
    refine ga_done z_4 ?_
    repeat refine y_ ?_
    refine g_cond rfl (fun h2 => ?_) (fun h2 => ?_)
    ·have hne : l ≠ m := by rintro rfl; simp at h2
     rw [decide_eq_false hne]
     repeat refine x_ ?_
     refine a_ ?_
     repeat refine n_ ?_
     refine g_ret ?_
     exact at_end1 rfl rfl [] ⟨rfl, rfl⟩ (fun _ h => h)
    ·have h3 : l.getD k E0 = m.getD k E0 := by rw [Bool.not_eq_false', decide_eq_true_eq] at h2; exact h2
     repeat refine x_ ?_
     refine m_ ?_
     refine f_ (s_add_i64 rfl rfl (by omega)) ?_
     refine a_ ?_
     repeat refine n_ ?_
     refine at_next (k + 1) ⟨by omega, fun j hj => ?_⟩ (by omega) ?_ ?_
     ·rcases Nat.lt_succ_iff_lt_or_eq.1 hj with h4 | rfl
      ·exact hok j h4
      ·exact h3
     ·(repeat (first | exact Sub.nil _ | refine Sub.cons rfl ?_))
     ·intro w hw; exact hw
   ·have hkl : k = l.length := by simp at h; omega
    subst hkl
    rw [decide_eq_true (same_ents hlen hok)]
    repeat refine x_ ?_
    refine a_ ?_
    repeat refine n_ ?_
    refine g_ret ?_
    exact at_end1 rfl rfl [] ⟨rfl, rfl⟩ (fun _ h => h)
def sameLg (g k : LM) : Bool := decide (g.base = k.base) && (decide (g.bt = k.bt) && (decide (g.conf = k.conf) && decide (g.l = k.l)))
theorem SameLogs_ct (g k : LM) (hc : g.conf.length ≤ 4611686018427387903) (hl : g.l.length ≤ 4611686018427387903) : Pu Tryz.prog 43 [g.v, k.v] (fun h => g.ok h ∧ k.ok h) (.bool (sameLg g k)) := by
 refine ct_enter 31 Tryz.func43 rfl rfl rfl ?_
 intro F hr
 obtain ⟨⟨h1, h2⟩, h3, h4⟩ := hr
 repeat refine x_ ?_
 refine gl_boxA rfl rfl ?_; intro g2
 refine gl_boxA rfl rfl ?_; intro g3
 refine a_ ?_
 repeat refine n_ ?_
 obtain ⟨q1, hq1⟩ : ∃ q, q = decide (g.base = k.base) := ⟨_, rfl⟩
 obtain ⟨q2, hq2⟩ : ∃ q, q = decide (g.bt = k.bt) := ⟨_, rfl⟩
 obtain ⟨q3, hq3⟩ : ∃ q, q = decide (g.conf = k.conf) := ⟨_, rfl⟩
 obtain ⟨q4, hq4⟩ : ∃ q, q = decide (g.l = k.l) := ⟨_, rfl⟩
 have e : sameLg g k = (q1 && (q2 && (q3 && q4))) := by rw [sameLg, hq1, hq2, hq3, hq4]
 rw [e]
 cases q1 <;> cases q2 <;> cases q3
 all_goals (
  repeat refine x_ ?_
  refine f_ z_1 ?_
  refine r_ z_10 ?_
  refine f_ z_1 ?_
  refine r_ z_10 ?_
  refine f_ ((s_eql rfl rfl).eb hq1) ?_
  refine m_ ?_
  (first | refine gl_guard_no rfl rfl rfl rfl rfl rfl rfl ?_ | (refine v_ ?_; refine f_ z_1 ?_))
  (first | refine gl_guard_no rfl rfl rfl rfl rfl rfl rfl ?_ | (refine v_ ?_; refine r_ z_10 ?_))
  (first | refine gl_guard_no rfl rfl rfl rfl rfl rfl rfl ?_ | (refine v_ ?_; refine f_ z_1 ?_))
  (first | refine gl_guard_no rfl rfl rfl rfl rfl rfl rfl ?_ | (refine v_ ?_; refine r_ z_10 ?_))
  (first | refine gl_guard_no rfl rfl rfl rfl rfl rfl rfl ?_ | (refine v_ ?_; refine f_ ((s_eql rfl rfl).eb hq2) ?_))
  refine f_ z_6 ?_
  refine m_ ?_
  (first | refine gl_guard_no rfl rfl rfl rfl rfl rfl rfl ?_ | (refine v_ ?_; refine f_ z_1 ?_))
  (first | refine gl_guard_no rfl rfl rfl rfl rfl rfl rfl ?_ | (refine v_ ?_; refine r_ z_10 ?_))
  (first | refine gl_guard_no rfl rfl rfl rfl rfl rfl rfl ?_ | (refine v_ ?_; refine f_ z_1 ?_))
  (first | refine gl_guard_no rfl rfl rfl rfl rfl rfl rfl ?_ | (refine v_ ?_; refine r_ z_10 ?_))
  (first | refine gl_guard_no rfl rfl rfl rfl rfl rfl rfl ?_ | (refine v_ ?_; refine gl_callp rfl (SameInts_ct g.conf k.conf _ _ _ _ hc) (fun h hh _ => ⟨h1.le hh, h3.le hh⟩) rfl ?_; rw [← hq3]))
  refine f_ z_6 ?_
  refine m_ ?_
  (first | refine gl_guard_no rfl rfl rfl rfl rfl rfl rfl ?_ | (refine v_ ?_; refine f_ z_1 ?_))
  (first | refine gl_guard_no rfl rfl rfl rfl rfl rfl rfl ?_ | (refine v_ ?_; refine r_ z_10 ?_))
  (first | refine gl_guard_no rfl rfl rfl rfl rfl rfl rfl ?_ | (refine v_ ?_; refine f_ z_1 ?_))
  (first | refine gl_guard_no rfl rfl rfl rfl rfl rfl rfl ?_ | (refine v_ ?_; refine r_ z_10 ?_))
  (first | refine gl_guard_no rfl rfl rfl rfl rfl rfl rfl ?_ | (refine v_ ?_; refine gl_callp rfl (SameEntries_ct g.l k.l _ _ _ _ hl) (fun h hh _ => ⟨h2.le hh, h4.le hh⟩) rfl ?_; rw [← hq4]))
  refine f_ z_6 ?_
  refine a_ ?_
  refine gl_nil ?_
  repeat refine y_ ?_)
 all_goals (
  refine g_ret ?_
  exact at_end1 rfl rfl [] ⟨rfl, rfl⟩ (fun _ h => h.dropAll))
theorem CloneI_ct (l : List Int) (a : Option Addr) (c : Nat) (hl : l.length ≤ 1000000000000) : Ct Tryz.prog 50 [.slice a l.length c] (fun h => RdS h a (intsV l)) [] (LsP l) := by
 refine ct_enter 8 Tryz.func50 rfl rfl rfl ?_
 intro F hrd
 repeat refine x_ ?_
 refine a_ ?_
 repeat refine x_ ?_
 refine m_ ?_
 refine f_ (s_eql_slnil rfl rfl) ?_
 repeat refine n_ ?_
 cases a with
 | none =>
  obtain rfl : l = [] := by
   cases l with
   | nil => rfl
   | cons x r => obtain ⟨ad, h⟩ := rdI_some (i := 0) hrd (by simp); cases h
  repeat refine x_ ?_
  refine a_ ?_
  repeat refine n_ ?_
  refine g_ret ?_
  refine g_end_own 3 1 ?_
  exact at_end1 rfl rfl [.own (.slice none 0 0) 3 1 []] ⟨none, 0, rfl, rfl⟩ (fun _ h => h)
 | some ad =>
  repeat refine x_ ?_
  refine gl_buildSlice0 rfl ?_; intro a5
  refine m_ ?_
  refine gl_append rfl rfl (fun a' c' => .here) (fun w hw => hrd.le hw.keep) (by rw [intsV_length]; omega) rfl rfl (intsV_one l) (by show (_ + _) * 8 ≤ _; omega) (by omega) rfl ?_; intro a2 c2 hc2
  refine a_ ?_
  repeat refine n_ ?_
  refine g_ret ?_
  rw [Nat.zero_add, List.nil_append]
  exact at_end1 rfl rfl _ ⟨a2, c2, rfl, rfl⟩ (fun _ h => h)
def EnP (r : List Ent) (v : Value) (A : List As) : Prop := ∃ a c, v = .slice a r.length c ∧ A = [.own (.slice a r.length c) 51 3 (enV r)]
theorem CloneE_ct (l : List Ent) (a : Option Addr) (c : Nat) (hl : l.length ≤ 1000000000000) : Ct Tryz.prog 51 [.slice a l.length c] (fun h => RdS h a (enV l)) [] (EnP l) := by
 refine ct_enter 8 Tryz.func51 rfl rfl rfl ?_
 intro F hrd
 repeat refine x_ ?_
 refine a_ ?_
 repeat refine x_ ?_
 refine m_ ?_
 refine f_ (s_eql_slnil rfl rfl) ?_
 repeat refine n_ ?_
 cases a with
 | none =>
  obtain rfl : l = [] := by
   cases l with
   | nil => rfl
   | cons x r => obtain ⟨ad, h⟩ := rdE_some (i := 0) hrd (by simp); cases h
  repeat refine x_ ?_
  refine a_ ?_
  repeat refine n_ ?_
  refine g_ret ?_
  refine g_end_own 51 3 ?_
  exact at_end1 rfl rfl [.own (.slice none 0 0) 51 3 []] ⟨none, 0, rfl, rfl⟩ (fun _ h => h)
 | some ad =>
  repeat refine x_ ?_
  refine gl_buildSlice0 rfl ?_; intro a5
  refine m_ ?_
  refine gl_append rfl rfl (fun a' c' => .here) (fun w hw => hrd.le hw.keep) (enV_length l) rfl rfl (enV_one l) (by show (_ + _) * 32 ≤ _; omega) (by omega) rfl ?_; intro a2 c2 hc2
  refine a_ ?_
  repeat refine n_ ?_
  refine g_ret ?_
  rw [Nat.zero_add, List.nil_append]
  exact at_end1 rfl rfl _ ⟨a2, c2, rfl, rfl⟩ (fun _ h => h)
theorem end_ct (g : LM) (hf : g.fit) : Pu Tryz.prog 46 [g.v] (fun _ => True) (.int .u64 (lastI g)) := by
 have h1 := hf.lo
 have h2 := hf.hi
 have h3 := hf.len
 refine ct_enter 10 Tryz.func46 rfl rfl rfl ?_
 intro F _
 repeat refine x_ ?_
 refine gl_boxA rfl rfl ?_; intro g1
 refine a_ ?_
 repeat refine x_ ?_
 refine f_ z_1 ?_
 refine r_ z_10 ?_
 refine f_ z_1 ?_
 refine r_ z_10 ?_
 refine f_ (s_len_sl rfl) ?_
 refine f_ (s_conv_keep_u64 rfl (by omega)) ?_
 refine f_ (s_add_u64 rfl rfl (by omega)) ?_
 refine a_ ?_
 repeat refine n_ ?_
 refine g_ret ?_
 exact at_end1 rfl rfl [] ⟨rfl, rfl⟩ (fun _ h => h.dropAll)
theorem rLast_ct (g : LM) (hf : g.fit) : Pu Tryz.prog 21 [g.v] (fun _ => True) (.int .u64 (lastI g)) := by
 have h1 := hf.lo
 have h2 := hf.hi
 have h3 := hf.len
 refine ct_enter 10 Tryz.func21 rfl rfl rfl ?_
 intro F _
 repeat refine x_ ?_
 refine gl_boxA rfl rfl ?_; intro g1
 refine a_ ?_
 repeat refine x_ ?_
 refine f_ z_1 ?_
 refine r_ z_10 ?_
 refine f_ z_1 ?_
 refine r_ z_10 ?_
 refine f_ (s_len_sl rfl) ?_
 refine f_ (s_conv_keep_u64 rfl (by omega)) ?_
 refine f_ (s_add_u64 rfl rfl (by omega)) ?_
 refine a_ ?_
 repeat refine n_ ?_
 refine g_ret ?_
 exact at_end1 rfl rfl [] ⟨rfl, rfl⟩ (fun _ h => h.dropAll)
set_option maxHeartbeats 2000000 in
theorem Term_ct (g : LM) (i : Int) (hf : g.fit) (hi : 0 ≤ i ∧ i ≤ 18446744073709551615) : Pu Tryz.prog 102 [g.v, .int .u64 i] (fun h => RdS h g.la (enV g.l)) (.tuple #[.int .u64 (termV g i), .bool (hasL g i)]) := by
 have h1 := hf.lo
 have h2 := hf.hi
 have h3 := hf.len
 refine ct_enter 39 Tryz.func102 rfl rfl rfl ?_
 intro F hrd
 repeat refine x_ ?_
 refine gl_boxA rfl rfl ?_; intro g2
 refine a_ ?_
 refine a_ ?_
 repeat refine n_ ?_
 by_cases hb : i = g.base
 ·have e1 : hasL g i = true := by simp only [hasL, Bool.and_eq_true, decide_eq_true_eq]; omega
  rw [termV, e1, if_pos rfl, if_pos hb]
  repeat refine x_ ?_
  refine m_ ?_
  refine f_ z_1 ?_
  refine r_ z_10 ?_
  refine f_ ((s_eql rfl rfl).eq (v' := .bool true) (congrArg Value.bool (decide_eq_true hb))) ?_
  refine a_ ?_
  repeat refine x_ ?_
  refine f_ z_1 ?_
  refine r_ z_10 ?_
  refine a_ ?_
  refine a_ ?_
  repeat refine n_ ?_
  refine g_ret ?_
  exact at_end2 rfl rfl rfl [] ⟨rfl, rfl⟩ (fun _ h => h.dropAll)
 ·repeat refine y_ ?_
  refine g_region ?_
  refine m_ ?_
  refine f_ z_1 ?_
  refine r_ z_10 ?_
  refine f_ ((s_eql rfl rfl).eq (v' := .bool false) (congrArg Value.bool (decide_eq_false hb))) ?_
  refine a_ ?_
  repeat refine n_ ?_
  by_cases hlt : i < g.base
  ·have e1 : hasL g i = false := by simp only [hasL, Bool.and_eq_false_iff, decide_eq_false_iff_not]; omega
   rw [termV, e1, if_neg (by simp)]
   repeat refine x_ ?_
   refine m_ ?_
   refine f_ z_1 ?_
   refine r_ z_10 ?_
   refine f_ ((s_lss rfl rfl).eq (v' := .bool true) (congrArg Value.bool (decide_eq_true hlt))) ?_
   refine m_ ?_
   (refine gl_guard_no rfl rfl rfl rfl rfl rfl rfl ?_)
   (refine gl_guard_no rfl rfl rfl rfl rfl rfl rfl ?_)
   (refine gl_guard_no rfl rfl rfl rfl rfl rfl rfl ?_)
   (refine gl_guard_no rfl rfl rfl rfl rfl rfl rfl ?_)
   (refine gl_guard_no rfl rfl rfl rfl rfl rfl rfl ?_)
   (refine gl_guard_no rfl rfl rfl rfl rfl rfl rfl ?_)
   (refine gl_guard_no rfl rfl rfl rfl rfl rfl rfl ?_)
   (refine gl_guard_no rfl rfl rfl rfl rfl rfl rfl ?_)
   (refine gl_guard_no rfl rfl rfl rfl rfl rfl rfl ?_)
   refine f_ z_13 ?_
   refine a_ ?_
   repeat refine x_ ?_
   refine a_ ?_
   refine a_ ?_
   repeat refine n_ ?_
   refine g_ret ?_
   exact at_end2 rfl rfl rfl [] ⟨rfl, rfl⟩ (fun _ h => h.dropAll)
  ·by_cases hgt : (g.l.length : Int) < i - g.base
   ·have e1 : hasL g i = false := by simp only [hasL, Bool.and_eq_false_iff, decide_eq_false_iff_not]; omega
    rw [termV, e1, if_neg (by simp)]
    repeat refine x_ ?_
    refine m_ ?_
    refine f_ z_1 ?_
    refine r_ z_10 ?_
    refine f_ ((s_lss rfl rfl).eq (v' := .bool false) (congrArg Value.bool (decide_eq_false hlt))) ?_
    refine m_ ?_
    (refine v_ ?_; refine m_ ?_)
    (refine v_ ?_; refine f_ z_1 ?_)
    (refine v_ ?_; refine r_ z_10 ?_)
    (refine v_ ?_; refine f_ (s_sub_u64 rfl rfl (by omega)) ?_)
    (refine v_ ?_; refine f_ z_1 ?_)
    (refine v_ ?_; refine r_ z_10 ?_)
    (refine v_ ?_; refine f_ (s_len_sl rfl) ?_)
    (refine v_ ?_; refine f_ (s_conv_keep_u64 rfl (by omega)) ?_)
    (refine v_ ?_; refine f_ ((s_gtr rfl rfl).eq (v' := .bool true) (congrArg Value.bool (decide_eq_true hgt))) ?_)
    refine f_ z_12 ?_
    refine a_ ?_
    repeat refine x_ ?_
    refine a_ ?_
    refine a_ ?_
    repeat refine n_ ?_
    refine g_ret ?_
    exact at_end2 rfl rfl rfl [] ⟨rfl, rfl⟩ (fun _ h => h.dropAll)
   ·have e1 : hasL g i = true := by simp only [hasL, Bool.and_eq_true, decide_eq_true_eq]; omega
    rw [termV, e1, if_pos rfl, if_neg hb]
    repeat refine x_ ?_
    refine m_ ?_
    refine f_ z_1 ?_
    refine r_ z_10 ?_
    refine f_ ((s_lss rfl rfl).eq (v' := .bool false) (congrArg Value.bool (decide_eq_false hlt))) ?_
    refine m_ ?_
    (refine v_ ?_; refine m_ ?_)
    (refine v_ ?_; refine f_ z_1 ?_)
    (refine v_ ?_; refine r_ z_10 ?_)
    (refine v_ ?_; refine f_ (s_sub_u64 rfl rfl (by omega)) ?_)
    (refine v_ ?_; refine f_ z_1 ?_)
    (refine v_ ?_; refine r_ z_10 ?_)
    (refine v_ ?_; refine f_ (s_len_sl rfl) ?_)
    (refine v_ ?_; refine f_ (s_conv_keep_u64 rfl (by omega)) ?_)
    (refine v_ ?_; refine f_ ((s_gtr rfl rfl).eq (v' := .bool false) (congrArg Value.bool (decide_eq_false hgt))) ?_)
    refine f_ z_12 ?_
    refine a_ ?_
    repeat refine n_ ?_
    have hk : (i - g.base - 1).toNat < g.l.length := by omega
    have hsome := rdE_some hrd hk
    repeat refine x_ ?_
    refine f_ z_1 ?_
    refine r_ z_10 ?_
    refine m_ ?_
    refine f_ z_1 ?_
    refine r_ z_10 ?_
    refine f_ (s_sub_u64 rfl rfl (by omega)) ?_
    refine f_ (s_sub_u64 rfl rfl (by omega)) ?_
    refine f_ (s_indexAddr rfl (by assumption) rfl (by omega)) ?_
    refine f_ z_8 ?_
    refine r_ (s_load1 rfl (fun w hw => rdE0 hw hrd (i := (i - g.base - 1).toNat) (by omega) hk)) ?_
    refine a_ ?_
    refine a_ ?_
    repeat refine n_ ?_
    refine g_ret ?_
    exact at_end2 rfl rfl rfl [] ⟨rfl, rfl⟩ (fun _ h => h.dropAll)
end Go.Proofs.YtodcghipfolejaaGreat
namespace Go.Proofs.YtodcghipfolejaaGreat
open Go Go.Sl
theorem Last_ct (g : LM) (hf : g.fit) : Pu Tryz.prog 93 [g.v] (fun h => RdS h g.la (enV g.l)) (.tuple #[.int .u64 (lastI g), .int .u64 (lastT g)]) := by
 have h1 := hf.lo
 have h2 := hf.hi
 have h3 := hf.len
 refine ct_enter 23 Tryz.func93 rfl rfl rfl ?_
 intro F hrd
 repeat refine x_ ?_
 refine gl_boxA rfl rfl ?_; intro g1
 refine a_ ?_
 refine a_ ?_
 repeat refine x_ ?_
 refine f_ z_1 ?_
 refine r_ z_10 ?_
 refine f_ (s_len_sl rfl) ?_
 refine a_ ?_
 repeat refine x_ ?_
 refine m_ ?_
 refine f_ (s_gtr rfl rfl) ?_
 repeat refine n_ ?_
 refine g_cond rfl (fun h => ?_) (fun h => ?_)
 ·have h4 : 0 < g.l.length := by simp at h; omega
  have hk : g.l.length - 1 < g.l.length := by omega
  have hsome := rdE_some hrd hk
  have e : lastT g = (g.l.getD (g.l.length - 1) E0).1 := by rw [lastT, if_neg (by omega)]
  rw [e]
  repeat refine y_ ?_
  refine g_draw0 ([0, 3, 8], [0, 1, 0, 4, 0, 16, 60, 124, 252, 3, 1023], [1]) 11 rfl ?_
  (refine ga_read 0 rfl z_2 (s_load_blkW rfl .del z_7) rfl rfl rfl z_4 ?_)
  refine w_ 2 rfl z_1 ?_
  (refine ga_read 3 rfl z_2 (s_load_blk rfl .del z_7) rfl rfl rfl z_4 ?_)
  refine w_ 4 rfl (s_move rfl) ?_
  refine w_ 5 rfl (s_sub_i64 rfl rfl (by omega)) ?_
  refine w_ 6 rfl (s_indexAddr rfl (by assumption) rfl (by omega)) ?_
  refine w_ 7 rfl z_8 ?_
  refine ga_readF 8 rfl (s_load1 rfl (fun w hw => rdE0 hw hrd (i := g.l.length - 1) (by omega) hk)) z_15 rfl rfl rfl z_4 ?_
  refine ga_one 1 rfl z_4 ?_
  refine gl_callp rfl (end_ct g hf) (fun _ _ _ => trivial) rfl ?_
  refine gl_nil ?_
  refine at_ga (.inr (by exact keeps_of z_15)) ?_
  refine w_ 9 rfl (s_assign rfl) ?_
  refine w_ 10 rfl (s_assign rfl) ?_
  refine ga_done z_4 ?_
  repeat refine y_ ?_
  refine g_ret ?_
  exact at_end2 rfl rfl rfl [] ⟨rfl, rfl⟩ (fun _ h => h.dropAll)
 ·have h4 : g.l.length = 0 := by simp at h; rw [h]; rfl
  have e : lastT g = g.bt := by rw [lastT, if_pos h4]
  have e2 : lastI g = g.base := by rw [lastI, h4]; simp
  rw [e, e2]
  repeat refine y_ ?_
  refine g_draw0 ([1, 3], [0, 1, 0, 4, 3, 31], []) 6 rfl ?_
  refine w_ 0 rfl z_1 ?_
  (refine ga_read 1 rfl z_2 (s_load_blk rfl .del z_7) rfl rfl rfl z_4 ?_)
  refine w_ 2 rfl z_1 ?_
  (refine ga_read 3 rfl z_2 (s_load_blk rfl .del z_7) rfl rfl rfl z_4 ?_)
  refine w_ 4 rfl (s_assign rfl) ?_
  refine w_ 5 rfl (s_assign rfl) ?_
  refine ga_done z_4 ?_
  repeat refine y_ ?_
  refine g_ret ?_
  exact at_end2 rfl rfl rfl [] ⟨rfl, rfl⟩ (fun _ h => h.dropAll)
set_option maxHeartbeats 2000000 in
theorem Slice_ct (g : LM) (frm most : Int) (hf : g.fit) (hi : 0 ≤ frm ∧ frm ≤ 18446744073709551615) (hm : -9223372036854775808 ≤ most ∧ most ≤ 9223372036854775807) : Ct Tryz.prog 118 [g.v, .int .u64 frm, .int .i64 most] (fun h => RdS h g.la (enV g.l)) [] (EnP (sliceL g frm most)) := by
 have h1 := hf.lo
 have h2 := hf.hi
 have h3 := hf.len
 have h4 := hf.cap
 refine ct_enter 42 Tryz.func118 rfl rfl rfl ?_
 intro F hrd
 repeat refine x_ ?_
 refine gl_boxA rfl rfl ?_; intro g3
 refine a_ ?_
 repeat refine n_ ?_
 by_cases hs : g.base < frm ∧ frm - g.base ≤ (g.l.length : Int) ∧ 1 ≤ most
 ·obtain ⟨s1, s2, s3⟩ := hs
  repeat refine x_ ?_
  refine m_ ?_
  refine f_ z_1 ?_
  refine r_ z_10 ?_
  refine f_ ((s_leq rfl rfl).eq (v' := .bool false) (congrArg Value.bool (decide_eq_false (by omega)))) ?_
  refine m_ ?_
  (refine v_ ?_; refine m_ ?_)
  (refine v_ ?_; refine f_ z_1 ?_)
  (refine v_ ?_; refine r_ z_10 ?_)
  (refine v_ ?_; refine f_ (s_sub_u64 rfl rfl (by omega)) ?_)
  (refine v_ ?_; refine f_ z_1 ?_)
  (refine v_ ?_; refine r_ z_10 ?_)
  (refine v_ ?_; refine f_ (s_len_sl rfl) ?_)
  (refine v_ ?_; refine f_ (s_conv_keep_u64 rfl (by omega)) ?_)
  (refine v_ ?_; refine f_ ((s_gtr rfl rfl).eq (v' := .bool false) (congrArg Value.bool (decide_eq_false (by omega)))) ?_)
  refine f_ z_12 ?_
  refine m_ ?_
  (refine v_ ?_; refine m_ ?_)
  (refine v_ ?_; refine f_ ((s_lss rfl rfl).eq (v' := .bool false) (congrArg Value.bool (decide_eq_false (by omega)))) ?_)
  refine f_ z_12 ?_
  repeat refine n_ ?_
  obtain ⟨k, hk⟩ : ∃ k, k = (frm - g.base - 1).toNat := ⟨_, rfl⟩
  obtain ⟨m, hm⟩ : ∃ m, m = min most.toNat (g.l.length - k) := ⟨_, rfl⟩
  have er : sliceL g frm most = (g.l.drop k).take m := by
   rw [sliceL, if_pos ⟨s1, s2, s3⟩, ← hk, hm, ← List.take_take]
   congr 1
   rw [List.take_of_length_le (by rw [List.length_drop]; omega)]
  have el : (sliceL g frm most).length = m := by rw [er, List.length_take, List.length_drop]; omega
  have hcut := (hrd.cut (sz := 3) (enV_length g.l) h4 k g.l.length (by omega) (Nat.le_refl _))
  have hx : ((enV g.l).drop (k * 3)).take ((g.l.length - k) * 3) = enV (g.l.drop k) := by
   rw [List.take_of_length_le (by rw [List.length_drop, enV_length]; omega), enV_drop]
  rw [hx] at hcut
  have hcut2 := hcut.cut (sz := 3) (by rw [enV_length, List.length_drop]) (n := g.l.length - k) (c := g.lc - k) (by omega) 0 m (by omega) (by omega)
  rw [Nat.zero_mul, List.drop_zero, Nat.sub_zero, ← enV_take, ← er] at hcut2
  repeat refine x_ ?_
  refine f_ z_1 ?_
  refine r_ z_10 ?_
  refine m_ ?_
  refine f_ z_1 ?_
  refine r_ z_10 ?_
  refine f_ (s_sub_u64 rfl rfl (by omega)) ?_
  refine f_ (s_sub_u64 rfl rfl (by omega)) ?_
  refine f_ ((s_slice_sl rfl rfl rfl (by omega)).eq (v' := .slice (cutA g.la g.lc k 3) (g.l.length - k) (g.lc - k)) (by rw [hk]; rfl)) ?_
  refine a_ ?_
  repeat refine x_ ?_
  refine m_ ?_
  refine m_ ?_
  refine m_ ?_
  refine f_ (s_len_sl rfl) ?_
  refine f_ (s_min2 rfl rfl) ?_
  refine f_ ((s_slice_sl rfl rfl rfl (by omega)).eq (v' := .slice (cutA (cutA g.la g.lc k 3) (g.lc - k) 0 3) (sliceL g frm most).length (g.lc - k)) (by rw [el, hm]; congr 1; omega)) ?_
  refine gl_call _ rfl (CloneE_ct _ _ _ (by omega)) i_ (fun h hh _ => hcut2.le hh) rfl ?_; rintro v A ⟨a6, c6, rfl, rfl⟩
  refine a_ ?_
  repeat refine n_ ?_
  refine g_ret ?_
  exact at_end1 rfl rfl [.own (.slice a6 (sliceL g frm most).length c6) 51 3 (enV (sliceL g frm most))] ⟨a6, c6, rfl, rfl⟩ (fun w hw => hp_left hw)
 ·rw [sliceL, if_neg hs]
  obtain ⟨q1, hq1⟩ : ∃ q, q = decide (frm ≤ g.base) := ⟨_, rfl⟩
  obtain ⟨q2, hq2⟩ : ∃ q, q = decide ((g.l.length : Int) < frm - g.base) := ⟨_, rfl⟩
  refine g_cutK [(26, .bool true)] [] ?_ ?_
  ·cases q1 <;> cases q2
   all_goals (
    repeat refine x_ ?_
    refine m_ ?_
    refine f_ z_1 ?_
    refine r_ z_10 ?_
    refine f_ ((s_leq rfl rfl).eb hq1) ?_
    refine m_ ?_
    (first | refine gl_guard_no rfl rfl rfl rfl rfl rfl rfl ?_ | (refine v_ ?_; refine m_ ?_))
    (first | refine gl_guard_no rfl rfl rfl rfl rfl rfl rfl ?_ | (refine v_ ?_; refine f_ z_1 ?_))
    (first | refine gl_guard_no rfl rfl rfl rfl rfl rfl rfl ?_ | (refine v_ ?_; refine r_ z_10 ?_))
    (first | refine gl_guard_no rfl rfl rfl rfl rfl rfl rfl ?_ | (refine v_ ?_; refine f_ (s_sub_u64 rfl rfl (by have := of_decide_eq_false hq1.symm; omega)) ?_))
    (first | refine gl_guard_no rfl rfl rfl rfl rfl rfl rfl ?_ | (refine v_ ?_; refine f_ z_1 ?_))
    (first | refine gl_guard_no rfl rfl rfl rfl rfl rfl rfl ?_ | (refine v_ ?_; refine r_ z_10 ?_))
    (first | refine gl_guard_no rfl rfl rfl rfl rfl rfl rfl ?_ | (refine v_ ?_; refine f_ (s_len_sl rfl) ?_))
    (first | refine gl_guard_no rfl rfl rfl rfl rfl rfl rfl ?_ | (refine v_ ?_; refine f_ (s_conv_keep_u64 rfl (by omega)) ?_))
    (first | refine gl_guard_no rfl rfl rfl rfl rfl rfl rfl ?_ | (refine v_ ?_; refine f_ ((s_gtr rfl rfl).eb hq2) ?_))
    refine f_ z_6 ?_
    refine m_ ?_
    (first | refine gl_guard_no rfl rfl rfl rfl rfl rfl rfl ?_ | (refine v_ ?_; refine m_ ?_))
    (first | refine gl_guard_no rfl rfl rfl rfl rfl rfl rfl ?_ | (refine v_ ?_; refine f_ ((s_lss rfl rfl).eq (v' := .bool true) (congrArg Value.bool (decide_eq_true (by have := of_decide_eq_false hq1.symm; have := of_decide_eq_false hq2.symm; omega)))) ?_))
    refine f_ z_6 ?_
    refine gl_nil ?_
    repeat refine y_ ?_)
   all_goals exact at_cut j_ (fun w hw => hw.dropAll)
  ·repeat refine y_ ?_
   repeat refine x_ ?_
   refine a_ ?_
   repeat refine n_ ?_
   refine g_ret ?_
   refine g_end_own 51 3 ?_
   exact at_end1 rfl rfl [.own (.slice none 0 0) 51 3 []] ⟨none, 0, rfl, rfl⟩ (fun _ h => h)
def hasE (g : LM) (i : Int) : Bool := decide (g.base < i) && decide (i - g.base ≤ (g.l.length : Int))
def entAt (g : LM) (i : Int) : Ent := if hasE g i = true then g.l.getD (i - g.base - 1).toNat E0 else E0
theorem hasL_eq (g : LM) (i : Int) : hasL g i = (decide (i = g.base) || hasE g i) := by
 rw [Bool.eq_iff_iff]
 simp only [hasL, hasE, Bool.and_eq_true, Bool.or_eq_true, decide_eq_true_eq]
 omega
def EntP (g : LM) (i : Int) (v : Value) (A : List As) : Prop := v = .tuple #[entV (entAt g i), .bool (hasE g i)] ∧ A = []
set_option maxRecDepth 4000 in
set_option maxHeartbeats 2000000 in
theorem Entry_ct (g : LM) (i : Int) (hf : g.fit) (hi : 0 ≤ i ∧ i ≤ 18446744073709551615) : Ct Tryz.prog 23 [g.v, .int .u64 i] (fun h => RdS h g.la (enV g.l)) [] (EntP g i) := by
 have h1 := hf.lo
 have h2 := hf.hi
 have h3 := hf.len
 refine ct_enter 28 Tryz.func23 rfl rfl rfl ?_
 intro F hrd
 repeat refine x_ ?_
 refine gl_boxA rfl rfl ?_; intro g2
 refine gl_allocA rfl ?_; intro g4
 refine a_ ?_
 repeat refine x_ ?_
 refine a_ ?_
 repeat refine n_ ?_
 refine g_loop (ι := Nat) (fun k => k ≤ g.l.length ∧ ∀ j, j < k → g.base + 1 + (j : Int) ≠ i) (fun k => [(1, .int .u64 i), (2, Ptr g2), (4, Ptr g4), (6, .int .i64 (k : Nat))]) (fun k => [.blk g4 (.cells #[.int .u64 0, .int .i64 0, B []] 51), .blk g2 (.cells #[.int .u64 g.base, .int .u64 g.bt, .slice g.ca g.conf.length g.cc, .slice g.la g.l.length g.lc] 46)]) (fun k => g.l.length - k) 0 ⟨by omega, fun j hj => absurd hj (by omega)⟩ ?_ ?_ ?_
 ·(repeat (first | exact Sub.nil _ | refine Sub.cons rfl ?_))
 ·intro w hw; exact hw
 ·rintro k ⟨hk, hno⟩
  repeat refine x_ ?_
  refine m_ ?_
  refine f_ z_1 ?_
  refine r_ z_10 ?_
  refine f_ (s_len_sl rfl) ?_
  refine f_ (s_lss rfl rfl) ?_
  repeat refine n_ ?_
  refine g_cond rfl (fun h => ?_) (fun h => ?_)
  ·have hk' : k < g.l.length := by simp at h; omega
   have hsome := rdE_some hrd hk'
   repeat refine x_ ?_
   refine f_ z_1 ?_
   refine r_ z_10 ?_
   refine f_ (s_add_u64 rfl rfl (by omega)) ?_
   refine m_ ?_
   refine f_ (s_conv_keep_u64 rfl (by omega)) ?_
   refine f_ (s_add_u64 rfl rfl (by omega)) ?_
   refine m_ ?_
   refine f_ (s_eql rfl rfl) ?_
   repeat refine n_ ?_
   refine g_cond rfl (fun h2 => ?_) (fun h2 => ?_)
   ·have h3 : g.base + 1 + (k : Int) = i := of_decide_eq_true h2
    have e1 : hasE g i = true := by simp only [hasE, Bool.and_eq_true, decide_eq_true_eq]; omega
    have e2 : entAt g i = g.l.getD k E0 := by rw [entAt, if_pos e1]; congr 1; omega
    repeat refine x_ ?_
    refine f_ z_1 ?_
    refine r_ z_10 ?_
    refine m_ ?_
    refine f_ (s_indexAddr rfl (by assumption) rfl (by omega)) ?_
    refine r_ (s_loadN rfl (fun w hw => rdE hw hrd (i := k) (by omega) hk') rfl) ?_
    (refine gl_store_blkW rfl rfl z_5 z_7 z_7 z_3 ?_)
    refine a_ ?_
    repeat refine n_ ?_
    refine g_ret ?_
    exact at_endB1 rfl rfl rfl z_2 rfl [] ⟨by rw [e1, e2], rfl⟩ (fun _ h => h.dropAll)
   ·have h3 : ¬ g.base + 1 + (k : Int) = i := of_decide_eq_false h2
    repeat refine x_ ?_
    refine m_ ?_
    refine f_ (s_add_i64 rfl rfl (by omega)) ?_
    refine a_ ?_
    repeat refine n_ ?_
    refine at_next (k + 1) ⟨by omega, fun j hj => ?_⟩ (by omega) ?_ ?_
    ·rcases Nat.lt_succ_iff_lt_or_eq.1 hj with h4 | rfl
     ·exact hno j h4
     ·exact h3
    ·(repeat (first | exact Sub.nil _ | refine Sub.cons rfl ?_))
    ·intro w hw; exact hw
  ·have hkl : k = g.l.length := by simp at h; omega
   have e1 : hasE g i = false := by
    apply Bool.eq_false_iff.2
    intro hb
    simp only [hasE, Bool.and_eq_true, decide_eq_true_eq] at hb
    exact hno (i - g.base - 1).toNat (by omega) (by omega)
   have e2 : entAt g i = E0 := by rw [entAt, if_neg (by rw [e1]; simp)]
   repeat refine x_ ?_
   refine f_ (s_build rfl (v := entV E0) (run_build_struct (places := [(0, 1), (1, 1), (2, 1)]) rfl (by intro f hf; simp at hf; rcases hf with rfl | rfl | rfl <;> rfl) rfl)) ?_
   (refine gl_store_blkW rfl rfl z_5 z_7 z_7 z_3 ?_)
   refine a_ ?_
   repeat refine n_ ?_
   refine g_ret ?_
   exact at_endB1 rfl rfl rfl z_2 rfl [] ⟨by rw [e1, e2], rfl⟩ (fun _ h => h.dropAll)
theorem rTerm_ct (g : LM) (i : Int) (hf : g.fit) (hi : 0 ≤ i ∧ i ≤ 18446744073709551615) : Pu Tryz.prog 80 [g.v, .int .u64 i] (fun h => RdS h g.la (enV g.l)) (.tuple #[.int .u64 (termV g i), .bool (hasL g i)]) := by
 have h1 := hf.lo
 have h2 := hf.hi
 have h3 := hf.len
 refine ct_enter 23 Tryz.func80 rfl rfl rfl ?_
 intro F hrd
 repeat refine x_ ?_
 refine gl_boxA rfl rfl ?_; intro g2
 refine a_ ?_
 refine a_ ?_
 repeat refine n_ ?_
 by_cases hb : i = g.base
 ·have e1 : hasL g i = true := by simp only [hasL, Bool.and_eq_true, decide_eq_true_eq]; omega
  rw [termV, e1, if_pos rfl, if_pos hb]
  repeat refine x_ ?_
  refine m_ ?_
  refine f_ z_1 ?_
  refine r_ z_10 ?_
  refine f_ ((s_eql rfl rfl).eq (v' := .bool true) (congrArg Value.bool (decide_eq_true hb))) ?_
  repeat refine x_ ?_
  refine f_ z_1 ?_
  refine r_ z_10 ?_
  refine a_ ?_
  refine a_ ?_
  repeat refine n_ ?_
  refine g_ret ?_
  exact at_end2 rfl rfl rfl [] ⟨rfl, rfl⟩ (fun _ h => h.dropAll)
 ·have e1 : hasL g i = hasE g i := by rw [hasL_eq, decide_eq_false hb]; rfl
  have e2 : termV g i = (entAt g i).1 := by
   rw [termV, entAt, e1, if_neg hb]
   cases hasE g i <;> rfl
  rw [e1, e2]
  repeat refine x_ ?_
  refine m_ ?_
  refine f_ z_1 ?_
  refine r_ z_10 ?_
  refine f_ ((s_eql rfl rfl).eq (v' := .bool false) (congrArg Value.bool (decide_eq_false hb))) ?_
  repeat refine x_ ?_
  refine r_ z_14 ?_
  refine m_ ?_
  refine gl_call _ rfl (Entry_ct g i hf hi) i_ (fun h hh _ => hrd.le hh) rfl ?_; rintro v A ⟨rfl, rfl⟩
  refine m_ ?_
  refine f_ (s_extract rfl rfl) ?_
  refine f_ (s_extract rfl rfl) ?_
  refine gl_allocA rfl ?_; intro g6
  (refine gl_store_blkW rfl rfl z_5 z_7 z_7 z_3 ?_)
  refine a_ ?_
  repeat refine x_ ?_
  refine f_ z_1 ?_
  refine r_ z_10 ?_
  refine m_ ?_
  refine a_ ?_
  refine a_ ?_
  repeat refine n_ ?_
  refine g_ret ?_
  exact at_end2 rfl rfl rfl [] ⟨rfl, rfl⟩ (fun _ h => h.dropAll)
theorem ent_at {g : LM} {frm : Int} {k : Nat} (h : hasE g (frm + (k : Int)) = true) (hb : g.base < frm) : entAt g (frm + (k : Int)) = g.l.getD ((frm - g.base - 1).toNat + k) E0 := by
 rw [entAt, if_pos h]; congr 1; omega
set_option maxHeartbeats 2000000 in
theorem rSlice_ct (g : LM) (frm most : Int) (hf : g.fit) (hi : 0 ≤ frm ∧ frm ≤ 18446744073709551615) (hm : -9223372036854775808 ≤ most ∧ most ≤ 9223372036854775807) : Ct Tryz.prog 128 [g.v, .int .u64 frm, .int .i64 most] (fun h => RdS h g.la (enV g.l)) [] (EnP (sliceL g frm most)) := by
 have h1 := hf.lo
 have h2 := hf.hi
 have h3 := hf.len
 have hsl := slice_le g frm most
 refine ct_enter 32 Tryz.func128 rfl rfl rfl ?_
 intro F hrd
 repeat refine x_ ?_
 refine gl_boxA rfl rfl ?_; intro g3
 refine a_ ?_
 repeat refine x_ ?_
 refine a_ ?_
 repeat refine n_ ?_
 refine g_own_nil 51 3 ?_
 repeat refine x_ ?_
 refine m_ ?_
 refine a_ ?_
 repeat refine n_ ?_
 refine g_loop (ι := Nat × Option Addr × Nat × Int) (fun i => i.1 ≤ (sliceL g frm most).length ∧ i.2.2.2 = frm + (i.1 : Nat)) (fun i => [(2, .int .i64 most), (3, Ptr g3), (7, .slice i.2.1 i.1 i.2.2.1), (8, .int .u64 i.2.2.2)]) (fun i => [.own (.slice i.2.1 i.1 i.2.2.1) 51 3 (enV ((sliceL g frm most).take i.1)), .blk g3 (.cells #[.int .u64 g.base, .int .u64 g.bt, .slice g.ca g.conf.length g.cc, .slice g.la g.l.length g.lc] 46)]) (fun i => g.l.length - i.1) (0, none, 0, frm) (by simp) ?_ ?_ ?_
 ·(repeat (first | exact Sub.nil _ | refine Sub.cons rfl ?_))
 ·intro w hw; exact hw
 ·rintro ⟨k, a, c, f⟩ ⟨hk, hf0⟩
  simp only at hk hf0
  subst hf0
  have hkk : (k, a, c, frm + (k : Int)).fst ≤ 1000000 := by show k ≤ _; omega
  repeat refine x_ ?_
  refine m_ ?_
  refine f_ (s_len_sl rfl) ?_
  refine m_ ?_
  refine f_ (s_lss rfl rfl) ?_
  repeat refine n_ ?_
  refine g_cond rfl (fun h => ?_) (fun h => ?_)
  ·have hk' : (k : Int) < most := of_decide_eq_true h
   have hfk : frm + (k : Int) ≤ 18446744073709551615 := by
    by_cases hs : g.base < frm ∧ frm - g.base ≤ (g.l.length : Int) ∧ 1 ≤ most
    ·omega
    ·have : k = 0 := by rw [sliceL, if_neg hs] at hk; simpa using hk
     omega
   repeat refine x_ ?_
   refine r_ z_14 ?_
   refine m_ ?_
   refine gl_call _ rfl (Entry_ct g _ hf (by show 0 ≤ frm + (k : Int) ∧ frm + (k : Int) ≤ _; omega)) i_ (fun h hh _ => hrd.le hh) rfl ?_; rintro v A ⟨rfl, rfl⟩
   refine m_ ?_
   refine f_ (s_extract rfl rfl) ?_
   refine f_ (s_extract rfl rfl) ?_
   refine gl_allocA rfl ?_; intro g9
   (refine gl_store_blkW rfl rfl z_5 z_7 z_7 z_3 ?_)
   refine a_ ?_
   repeat refine n_ ?_
   obtain ⟨q, hq⟩ : ∃ q, q = hasE g (frm + (k : Int)) := ⟨_, rfl⟩
   obtain ⟨e, he⟩ : ∃ e, e = entAt g (frm + (k : Int)) := ⟨_, rfl⟩
   have hqq : hasE g (k, a, c, frm + (k : Int)).2.2.2 = q := hq.symm
   have hee : entAt g (k, a, c, frm + (k : Int)).2.2.2 = e := he.symm
   rw [hqq, hee]
   cases q
   ·have hend : sliceL g frm most = (sliceL g frm most).take k := by
     refine (List.take_of_length_le ?_).symm
     by_cases hs : g.base < frm ∧ frm - g.base ≤ (g.l.length : Int) ∧ 1 ≤ most
     ·rw [sliceL, if_pos hs, List.length_take, List.length_drop]
      have := Bool.eq_false_iff.1 hq.symm
      simp only [hasE, Bool.and_eq_true, decide_eq_true_eq, ne_eq, not_and] at this
      have := this (by omega)
      omega
     ·rw [sliceL, if_neg hs]; simp
    have hkl : k = (sliceL g frm most).length := by
     have := congrArg List.length hend
     rw [List.length_take] at this; omega
    repeat refine x_ ?_
    refine m_ ?_
    refine f_ (s_not rfl) ?_
    repeat refine x_ ?_
    refine m_ ?_
    refine a_ ?_
    repeat refine n_ ?_
    refine g_ret ?_
    refine at_end1 rfl rfl [.own (.slice a k c) 51 3 (enV ((sliceL g frm most).take k))] ⟨a, c, by rw [← hkl], by rw [← hkl, ← hend]⟩ (fun w hw => ?_)
    exact hp_left (R := [_]) (hw.drop.perm (.refl _))
   ·have hb : g.base < frm := by
     have := hq.symm
     simp only [hasE, Bool.and_eq_true, decide_eq_true_eq] at this
     by_cases hs : g.base < frm ∧ frm - g.base ≤ (g.l.length : Int) ∧ 1 ≤ most
     ·exact hs.1
     ·have h0 : k = 0 := by rw [sliceL, if_neg hs] at hk; simpa using hk
      omega
    have hin := hq.symm
    simp only [hasE, Bool.and_eq_true, decide_eq_true_eq] at hin
    have hlt : k < (sliceL g frm most).length := by
     rw [sliceL, if_pos ⟨hb, by omega, by omega⟩, List.length_take, List.length_drop]
     omega
    have hget : (sliceL g frm most)[k] = e := by
     rw [he, ent_at hq.symm hb]
     have hs : sliceL g frm most = (g.l.drop (frm - g.base - 1).toNat).take most.toNat := by rw [sliceL, if_pos ⟨hb, by omega, by omega⟩]
     simp only [hs, List.getElem_take, List.getElem_drop]
     have hlt2 : (frm - g.base - 1).toNat + k < g.l.length := by omega
     rw [List.getD_eq_getElem?_getD, List.getElem?_eq_getElem hlt2]
     rfl
    have ee : enV ((sliceL g frm most).take (k + 1)) = enV ((sliceL g frm most).take k) ++ enV [e] := by
     rw [List.take_succ_eq_append_getElem hlt, enV_append, hget]
    repeat refine x_ ?_
    refine m_ ?_
    refine f_ (s_not rfl) ?_
    repeat refine x_ ?_
    refine m_ ?_
    refine r_ z_14 ?_
    refine gl_buildSliceU rfl rfl rfl rfl rfl rfl (xs := enV [e]) rfl rfl ?_; intro a29 ha29
    refine gl_append rfl rfl (fun a' c' => z_5) (fun w hw => (hw.ownN .del).2.2.1) rfl rfl rfl (enV_one _) (by show (_ + 1) * 32 ≤ _; omega) (by omega) rfl ?_; intro a30 c30 hc30
    refine a_ ?_
    repeat refine x_ ?_
    refine m_ ?_
    refine f_ (s_add_u64 rfl rfl (by show 0 ≤ frm + (k : Int) + 1 ∧ frm + (k : Int) + 1 ≤ _; omega)) ?_
    refine a_ ?_
    repeat refine n_ ?_
    refine at_next (k + 1, a30, c30, frm + (k : Int) + 1) (by simp only; omega) (by simp only; omega) ?_ ?_
    ·(repeat (first | exact Sub.nil _ | refine Sub.cons rfl ?_))
    ·intro w hw
     simp only
     rw [ee]
     exact hw.drop.drop
  ·have hk' : most ≤ (k : Int) := by have := of_decide_eq_false h; show most ≤ (k : Int); omega
   have hkl : k = (sliceL g frm most).length := by
    by_cases hs : g.base < frm ∧ frm - g.base ≤ (g.l.length : Int) ∧ 1 ≤ most
    ·have : (sliceL g frm most).length ≤ most.toNat := by rw [sliceL, if_pos hs, List.length_take]; omega
     omega
    ·rw [sliceL, if_neg hs] at hk ⊢; simpa using hk
   repeat refine x_ ?_
   refine m_ ?_
   refine a_ ?_
   repeat refine n_ ?_
   refine g_ret ?_
   refine at_end1 rfl rfl [.own (.slice a k c) 51 3 (enV ((sliceL g frm most).take k))] ⟨a, c, by rw [← hkl], by rw [← hkl, List.take_of_length_le (by omega)]⟩ (fun w hw => ?_)
   exact hp_left (R := [_]) hw
end Go.Proofs.YtodcghipfolejaaGreat
namespace Go.Proofs.YtodcghipfolejaaGreat
open Go Go.Sl
def newerL (g : LM) (i term : Int) : Bool := decide (lastT g < term) || (decide (term = lastT g) && decide (lastI g ≤ i))
theorem Newer_ct (g : LM) (i term : Int) (hf : g.fit) : Pu Tryz.prog 95 [g.v, .int .u64 i, .int .u64 term] (fun h => RdS h g.la (enV g.l)) (.bool (newerL g i term)) := by
 refine ct_enter 27 Tryz.func95 rfl rfl rfl ?_
 intro F hrd
 repeat refine x_ ?_
 refine gl_boxA rfl rfl ?_; intro g3
 refine a_ ?_
 repeat refine x_ ?_
 refine r_ z_14 ?_
 refine gl_callp rfl (Last_ct g hf) (fun h hh _ => hrd.le hh) rfl ?_
 refine m_ ?_
 refine f_ (s_extract rfl rfl) ?_
 refine f_ (s_extract rfl rfl) ?_
 refine a_ ?_
 refine a_ ?_
 repeat refine n_ ?_
 obtain ⟨q1, hq1⟩ : ∃ q, q = decide (lastT g < term) := ⟨_, rfl⟩
 obtain ⟨q2, hq2⟩ : ∃ q, q = decide (term = lastT g) := ⟨_, rfl⟩
 obtain ⟨q3, hq3⟩ : ∃ q, q = decide (lastI g ≤ i) := ⟨_, rfl⟩
 have e : newerL g i term = (q1 || (q2 && q3)) := by rw [newerL, hq1, hq2, hq3]
 rw [e]
 cases q1 <;> cases q2
 all_goals (
  repeat refine x_ ?_
  refine m_ ?_
  refine m_ ?_
  refine f_ ((s_gtr rfl rfl).eb hq1) ?_
  refine m_ ?_
  (first | refine gl_guard_no rfl rfl rfl rfl rfl rfl rfl ?_ | (refine v_ ?_; refine m_ ?_))
  (first | refine gl_guard_no rfl rfl rfl rfl rfl rfl rfl ?_ | (refine v_ ?_; refine m_ ?_))
  (first | refine gl_guard_no rfl rfl rfl rfl rfl rfl rfl ?_ | (refine v_ ?_; refine f_ ((s_eql rfl rfl).eb hq2) ?_))
  (first | refine gl_guard_no rfl rfl rfl rfl rfl rfl rfl ?_ | (refine v_ ?_; refine m_ ?_))
  (first|refine u_ ?_|(refine v_ ?_; refine m_ ?_))
  (first|refine u_ ?_|(refine v_ ?_; refine m_ ?_))
  (first|refine u_ ?_|(refine v_ ?_; refine f_ ((s_geq rfl rfl).eb hq3) ?_))
  (first | refine gl_guard_no rfl rfl rfl rfl rfl rfl rfl ?_ | (refine v_ ?_; refine f_ z_6 ?_))
  refine f_ z_6 ?_
  refine a_ ?_
  refine gl_nil ?_
  repeat refine y_ ?_)
 all_goals (
  refine g_ret ?_
  exact at_end1 rfl rfl [] ⟨rfl, rfl⟩ (fun _ h => h.dropAll))
theorem rNewer_ct (g : LM) (i term : Int) (hf : g.fit) : Pu Tryz.prog 73 [g.v, .int .u64 i, .int .u64 term] (fun h => RdS h g.la (enV g.l)) (.bool (newerL g i term)) := by
 have h1 := hf.lo
 have h2 := hf.hi
 have h3 := hf.len
 have hlt := last_term g hf.lo
 refine ct_enter 26 Tryz.func73 rfl rfl rfl ?_
 intro F hrd
 repeat refine x_ ?_
 refine gl_boxA rfl rfl ?_; intro g3
 refine a_ ?_
 repeat refine n_ ?_
 refine g_draw0 ([0, 1], [0, 0, 2, 7, 15, 31, 31, 63, 255], [2, 3]) 9 rfl ?_
 (refine ga_read 0 rfl z_2 (s_load_blkW rfl .del z_7) rfl rfl rfl z_4 ?_)
 (refine ga_read 1 rfl z_2 (s_load_blkW rfl .del z_7) rfl rfl rfl z_4 ?_)
 refine ga_one 2 rfl z_4 ?_
 refine gl_callp rfl (rLast_ct g hf) (fun _ _ _ => trivial) rfl ?_
 refine gl_nil ?_
 refine at_ga (.inr (by exact keeps_of z_15)) ?_
 refine ga_one 3 rfl z_4 ?_
 refine gl_callp rfl (rTerm_ct g _ hf (by unfold lastI; omega)) (fun h hh _ => hrd.le hh) rfl ?_
 refine gl_nil ?_
 refine at_ga (.inl z_4) ?_
 refine w_ 4 rfl (s_move rfl) ?_
 refine w_ 5 rfl (s_extract rfl rfl) ?_
 refine w_ 6 rfl (s_extract rfl rfl) ?_
 refine w_ 7 rfl (s_assign rfl) ?_
 refine w_ 8 rfl (s_assign rfl) ?_
 refine ga_done z_4 ?_
 repeat refine y_ ?_
 rw [hlt.1, hlt.2]
 obtain ⟨q2, hq2⟩ : ∃ q, q = decide (term = lastT g) := ⟨_, rfl⟩
 repeat refine x_ ?_
 refine m_ ?_
 refine m_ ?_
 refine f_ ((s_neq rfl rfl).eq (congrArg (fun q => Value.bool (!q)) hq2.symm)) ?_
 repeat refine n_ ?_
 cases q2
 ·have hne := of_decide_eq_false hq2.symm
  have e : newerL g i term = decide (lastT g < term) := by rw [newerL, ← hq2]; simp
  rw [e]
  repeat refine x_ ?_
  refine m_ ?_
  refine m_ ?_
  refine f_ (s_gtr rfl rfl) ?_
  refine a_ ?_
  repeat refine n_ ?_
  refine g_ret ?_
  exact at_end1 rfl rfl [] ⟨rfl, rfl⟩ (fun _ h => h.dropAll)
 ·have heq := of_decide_eq_true hq2.symm
  have e : newerL g i term = decide (lastI g ≤ i) := by rw [newerL, ← hq2, decide_eq_false (by omega)]; simp
  rw [e]
  repeat refine x_ ?_
  refine m_ ?_
  refine r_ z_14 ?_
  refine gl_callp rfl (rLast_ct g hf) (fun _ _ _ => trivial) rfl ?_
  refine f_ (s_geq rfl rfl) ?_
  refine a_ ?_
  repeat refine n_ ?_
  refine g_ret ?_
  exact at_end1 rfl rfl [] ⟨rfl, rfl⟩ (fun _ h => h.dropAll)
abbrev OwnL (la : Option Addr) (l : List Ent) (lc : Nat) : As := .own (.slice la l.length lc) 51 3 (enV l)
abbrev OwnC (ca : Option Addr) (c : List Int) (cc : Nat) : As := .own (.slice ca c.length cc) 3 1 (intsV c)
abbrev OwnG (g : LM) : List As := [OwnL g.la g.l g.lc, OwnC g.ca g.conf g.cc]
def LgP (base bt : Int) (conf : List Int) (l : List Ent) (v : Value) (A : List As) : Prop := ∃ ca cc la lc, v = LM.v ⟨base, bt, conf, l, ca, cc, la, lc⟩ ∧ A = OwnG ⟨base, bt, conf, l, ca, cc, la, lc⟩
theorem clone_ct (g : LM) (hc : g.conf.length ≤ 1000000000000) (hl : g.l.length ≤ 1000000000000) : Ct Tryz.prog 104 [g.v] g.ok [] (LgP g.base g.bt g.conf g.l) := by
 refine ct_enter 12 Tryz.func104 rfl rfl rfl ?_
 intro F hr
 obtain ⟨hrc, hrd⟩ := hr
 repeat refine x_ ?_
 refine gl_boxA rfl rfl ?_; intro g1
 refine gl_allocA rfl ?_; intro g2
 repeat refine x_ ?_
 refine f_ z_1 ?_
 refine r_ z_10 ?_
 refine gl_call _ rfl (CloneI_ct _ _ _ hc) i_ (fun h hh _ => hrc.le hh) rfl ?_; rintro v A ⟨ca, cc, rfl, rfl⟩
 refine f_ z_1 ?_
 (refine gl_store_blkC (pre := [_, _]) (post := [_]) rfl rfl z_5 z_7 z_7 z_7 ?_)
 repeat refine x_ ?_
 refine f_ z_1 ?_
 refine r_ z_10 ?_
 refine gl_call _ rfl (CloneE_ct _ _ _ hl) i_ (fun h hh _ => hrd.le hh) rfl ?_; rintro v A ⟨la, lc, rfl, rfl⟩
 refine f_ z_1 ?_
 (refine gl_store_blkC (pre := [_, _, _]) (post := []) rfl rfl z_5 z_7 z_7 z_7 ?_)
 repeat refine x_ ?_
 refine r_ z_14 ?_
 (refine gl_store_blkW rfl rfl z_5 z_7 z_7 z_3 ?_)
 repeat refine n_ ?_
 refine g_ret ?_
 exact at_endB rfl rfl z_2 rfl _ ⟨ca, cc, la, lc, rfl, rfl⟩ (fun w hw => Hp.left (A := OwnG ⟨g.base, g.bt, g.conf, g.l, ca, cc, la, lc⟩) hw)
end Go.Proofs.YtodcghipfolejaaGreat
namespace Go.Proofs.YtodcghipfolejaaGreat
open Go Go.Sl
def instL (g : LM) (i term : Int) : List Ent := if (hasL g i && decide (termV g i = term)) = true then g.l.drop (i - g.base).toNat else []
set_option maxRecDepth 4000 in
theorem Install_ct (g : LM) (i term : Int) (conf : List Int) (ca : Option Addr) (cc : Nat) (hf : g.fit) (hi : 0 ≤ i ∧ i ≤ 18446744073709551615) (hc : conf.length ≤ 1000000000000) : Ct Tryz.prog 123 [g.v, .int .u64 i, .int .u64 term, .slice ca conf.length cc] (fun h => RdS h g.la (enV g.l) ∧ RdS h ca (intsV conf)) [] (LgP i term conf (instL g i term)) := by
 have h1 := hf.lo
 have h2 := hf.hi
 have h3 := hf.len
 have h4 := hf.cap
 refine ct_enter 39 Tryz.func123 rfl rfl rfl ?_
 intro F hr
 obtain ⟨hrd, hrc⟩ := hr
 repeat refine x_ ?_
 refine gl_boxA rfl rfl ?_; intro g4
 refine gl_allocA rfl ?_; intro g8
 repeat refine x_ ?_
 refine m_ ?_
 refine m_ ?_
 refine m_ ?_
 refine gl_call _ rfl (CloneI_ct conf ca cc hc) i_ (fun h hh _ => hrc.le hh) rfl ?_; rintro v A ⟨c1, d1, rfl, rfl⟩
 refine f_ (s_build rfl (v := .agg #[.int .u64 i, .int .u64 term, .slice c1 conf.length d1, .slice none 0 0]) (run_build_struct (places := [(0, 1), (1, 1), (2, 1), (3, 1)]) rfl (by intro f hf; simp at hf; rcases hf with rfl | rfl | rfl | rfl <;> rfl) rfl)) ?_
 refine gl_allocA rfl ?_; intro g9
 (refine gl_store_blkW rfl rfl z_5 z_7 z_7 z_3 ?_)
 repeat refine x_ ?_
 refine r_ z_14 ?_
 refine m_ ?_
 refine gl_callp rfl (Term_ct g i hf hi) (fun h hh _ => hrd.le hh) rfl ?_
 refine m_ ?_
 refine f_ (s_extract rfl rfl) ?_
 refine f_ (s_extract rfl rfl) ?_
 refine a_ ?_
 refine a_ ?_
 repeat refine n_ ?_
 obtain ⟨q1, hq1⟩ : ∃ q, q = hasL g i := ⟨_, rfl⟩
 obtain ⟨q2, hq2⟩ : ∃ q, q = decide (termV g i = term) := ⟨_, rfl⟩
 have el : instL g i term = if (q1 && q2) = true then g.l.drop (i - g.base).toNat else [] := by rw [instL, hq1, hq2]
 rw [← hq1, el]
 refine g_cutK [(4, Ptr g4), (8, Ptr g8), (9, Ptr g9), (1, .int .u64 i), (28, .bool (q1 && q2))] [.blk g9 (.cells #[.int .u64 i, .int .u64 term, .slice c1 conf.length d1, .slice none 0 0] 46), .own (.slice c1 conf.length d1) 3 1 (intsV conf), .blk g8 (.cells #[.int .u64 0, .int .u64 0, .slice none 0 0, .slice none 0 0] 46), .blk g4 (.cells #[.int .u64 g.base, .int .u64 g.bt, .slice g.ca g.conf.length g.cc, .slice g.la g.l.length g.lc] 46)] ?_ ?_
 ·cases q1
  all_goals (
   repeat refine x_ ?_
   refine m_ ?_
   refine m_ ?_
   (first | refine gl_guard_no rfl rfl rfl rfl rfl rfl rfl ?_ | (refine v_ ?_; refine m_ ?_))
   (first | refine gl_guard_no rfl rfl rfl rfl rfl rfl rfl ?_ | (refine v_ ?_; refine m_ ?_))
   (first | refine gl_guard_no rfl rfl rfl rfl rfl rfl rfl ?_ | (refine v_ ?_; refine f_ ((s_eql rfl rfl).eb hq2) ?_))
   refine f_ z_6 ?_
   refine gl_nil ?_
   repeat refine y_ ?_)
  all_goals exact at_cut j_ i_
 ·repeat refine y_ ?_
  refine g_cond rfl (fun h => ?_) (fun h => ?_)
  ·have hh : hasL g i = true := by rw [← hq1]; cases q1 <;> simp_all
   simp only [hasL, Bool.and_eq_true, decide_eq_true_eq] at hh
   rw [if_pos h]
   obtain ⟨k, hk⟩ : ∃ k, k = (i - g.base).toNat := ⟨_, rfl⟩
   have hcut := (hrd.cut (sz := 3) (enV_length g.l) h4 k g.l.length (by omega) (Nat.le_refl _))
   have hx : ((enV g.l).drop (k * 3)).take ((g.l.length - k) * 3) = enV (g.l.drop k) := by
    rw [List.take_of_length_le (by rw [List.length_drop, enV_length]; omega), enV_drop]
   rw [hx] at hcut
   have hlen : (g.l.drop k).length = g.l.length - k := by rw [List.length_drop]
   repeat refine x_ ?_
   refine f_ z_1 ?_
   refine r_ z_10 ?_
   refine m_ ?_
   refine f_ z_1 ?_
   refine r_ z_10 ?_
   refine f_ (s_sub_u64 rfl rfl (by omega)) ?_
   refine f_ ((s_slice_sl rfl rfl rfl (by omega)).eq (v' := .slice (cutA g.la g.lc k 3) (g.l.drop k).length (g.lc - k)) (by rw [hlen, hk]; rfl)) ?_
   refine gl_call _ rfl (CloneE_ct (g.l.drop k) _ _ (by omega)) i_ (fun h hh _ => hcut.le hh) rfl ?_; rintro v A ⟨a7, c7, rfl, rfl⟩
   refine f_ z_1 ?_
   (refine gl_store_blkC (pre := [_, _, _]) (post := []) rfl rfl z_5 z_7 z_7 z_7 ?_)
   repeat refine x_ ?_
   refine r_ z_14 ?_
   (refine gl_store_blkW rfl rfl z_5 z_7 z_7 z_3 ?_)
   repeat refine n_ ?_
   refine g_ret ?_
   rw [← hk]
   exact at_endB rfl rfl z_2 rfl _ ⟨c1, d1, a7, c7, rfl, rfl⟩ (fun w hw => Hp.left (A := OwnG ⟨i, term, conf, g.l.drop k, c1, d1, a7, c7⟩) (R := [_, _, _]) ((hw.perm (.cons _ (.swap _ _ _)))))
  ·rw [if_neg (by rw [h]; simp)]
   repeat refine x_ ?_
   refine r_ z_14 ?_
   (refine gl_store_blkW rfl rfl z_5 z_7 z_7 z_3 ?_)
   repeat refine n_ ?_
   refine g_ret ?_
   exact at_endB rfl rfl z_2 rfl _ ⟨c1, d1, none, 0, rfl, rfl⟩ (fun w hw => Hp.left (A := OwnG ⟨i, term, conf, [], c1, d1, none, 0⟩) (R := [_, _, _]) ((hw.front (.there .del)).addNil 51 3))
def InsP (i term : Int) (conf : List Int) (ca : Option Addr) (cc : Nat) (l : List Ent) (v : Value) (A : List As) : Prop := ∃ la lc, v = LM.v ⟨i, term, conf, l, ca, cc, la, lc⟩ ∧ A = [OwnL la l lc]
theorem inst_slice (g : LM) (i : Int) (h : hasL g i = true) : sliceL g (i + 1) (g.l.length : Int) = g.l.drop (i - g.base).toNat := by
 simp only [hasL, Bool.and_eq_true, decide_eq_true_eq] at h
 unfold sliceL
 have e : (i + 1 - g.base - 1).toNat = (i - g.base).toNat := by omega
 by_cases hl : i - g.base = (g.l.length : Int)
 ·rw [if_neg (by omega), List.drop_of_length_le (by omega)]
 ·rw [if_pos (by omega), e, List.take_of_length_le (by rw [List.length_drop]; omega)]
set_option maxRecDepth 4000 in
theorem rInstall_ct (g : LM) (i term : Int) (conf : List Int) (ca : Option Addr) (cc : Nat) (hf : g.fit) (hi : 0 ≤ i ∧ i ≤ 18446744073709551615) : Ct Tryz.prog 108 [g.v, .int .u64 i, .int .u64 term, .slice ca conf.length cc] (fun h => RdS h g.la (enV g.l)) [] (InsP i term conf ca cc (instL g i term)) := by
 have h1 := hf.lo
 have h2 := hf.hi
 have h3 := hf.len
 have h4 := hf.cap
 refine ct_enter 37 Tryz.func108 rfl rfl rfl ?_
 intro F hrd
 repeat refine x_ ?_
 refine gl_boxA rfl rfl ?_; intro g4
 refine gl_allocA rfl ?_; intro g8
 repeat refine x_ ?_
 refine m_ ?_
 refine m_ ?_
 refine m_ ?_
 refine f_ (s_build rfl (v := .agg #[.int .u64 i, .int .u64 term, .slice ca conf.length cc, .slice none 0 0]) (run_build_struct (places := [(0, 1), (1, 1), (2, 1), (3, 1)]) rfl (by intro f hf; simp at hf; rcases hf with rfl | rfl | rfl | rfl <;> rfl) rfl)) ?_
 refine gl_allocA rfl ?_; intro g9
 (refine gl_store_blkW rfl rfl z_5 z_7 z_7 z_3 ?_)
 repeat refine x_ ?_
 refine r_ z_14 ?_
 refine m_ ?_
 refine gl_callp rfl (rTerm_ct g i hf hi) (fun h hh _ => hrd.le hh) rfl ?_
 refine m_ ?_
 refine f_ (s_extract rfl rfl) ?_
 refine f_ (s_extract rfl rfl) ?_
 refine a_ ?_
 refine a_ ?_
 repeat refine n_ ?_
 obtain ⟨q1, hq1⟩ : ∃ q, q = hasL g i := ⟨_, rfl⟩
 obtain ⟨q2, hq2⟩ : ∃ q, q = decide (termV g i = term) := ⟨_, rfl⟩
 have el : instL g i term = if (q1 && q2) = true then g.l.drop (i - g.base).toNat else [] := by rw [instL, hq1, hq2]
 rw [← hq1, el]
 refine g_cutK [(4, Ptr g4), (8, Ptr g8), (9, Ptr g9), (1, .int .u64 i), (27, .bool (q1 && q2))] [.blk g9 (.cells #[.int .u64 i, .int .u64 term, .slice ca conf.length cc, .slice none 0 0] 46), .blk g8 (.cells #[.int .u64 0, .int .u64 0, .slice none 0 0, .slice none 0 0] 46), .blk g4 (.cells #[.int .u64 g.base, .int .u64 g.bt, .slice g.ca g.conf.length g.cc, .slice g.la g.l.length g.lc] 46)] ?_ ?_
 ·cases q1
  all_goals (
   repeat refine x_ ?_
   refine m_ ?_
   refine m_ ?_
   (first | refine gl_guard_no rfl rfl rfl rfl rfl rfl rfl ?_ | (refine v_ ?_; refine m_ ?_))
   (first | refine gl_guard_no rfl rfl rfl rfl rfl rfl rfl ?_ | (refine v_ ?_; refine m_ ?_))
   (first | refine gl_guard_no rfl rfl rfl rfl rfl rfl rfl ?_ | (refine v_ ?_; refine f_ ((s_eql rfl rfl).eb hq2) ?_))
   refine f_ z_6 ?_
   refine gl_nil ?_
   repeat refine y_ ?_)
  all_goals exact at_cut j_ i_
 ·repeat refine y_ ?_
  refine g_cond rfl (fun h => ?_) (fun h => ?_)
  ·have hh : hasL g i = true := by rw [← hq1]; cases q1 <;> simp_all
   have hsl := inst_slice g i hh
   simp only [hasL, Bool.and_eq_true, decide_eq_true_eq] at hh
   rw [if_pos h, ← hsl]
   repeat refine x_ ?_
   refine r_ z_14 ?_
   refine m_ ?_
   refine f_ (s_add_u64 rfl rfl (by omega)) ?_
   refine f_ z_1 ?_
   refine r_ z_10 ?_
   refine f_ (s_len_sl rfl) ?_
   refine gl_call _ rfl (rSlice_ct g (i + 1) (g.l.length : Int) hf (by omega) (by omega)) i_ (fun h hh _ => hrd.le hh) rfl ?_; rintro v A ⟨a7, c7, rfl, rfl⟩
   refine f_ z_1 ?_
   (refine gl_store_blkC (pre := [_, _, _]) (post := []) rfl rfl z_5 z_7 z_7 z_7 ?_)
   repeat refine x_ ?_
   refine r_ z_14 ?_
   (refine gl_store_blkW rfl rfl z_5 z_7 z_7 z_3 ?_)
   repeat refine n_ ?_
   refine g_ret ?_
   exact at_endB rfl rfl z_2 rfl _ ⟨a7, c7, rfl, rfl⟩ (fun w hw => Hp.left (R := [_, _, _]) hw)
  ·rw [if_neg (by rw [h]; simp)]
   repeat refine x_ ?_
   refine r_ z_14 ?_
   (refine gl_store_blkW rfl rfl z_5 z_7 z_7 z_3 ?_)
   repeat refine n_ ?_
   refine g_ret ?_
   exact at_endB rfl rfl z_2 rfl _ ⟨none, 0, rfl, rfl⟩ (fun w hw => hw.dropAll.addNil 51 3)
def RefP (g : LM) (r : Mrg) (v : Value) (A : List As) : Prop := (r.l = g.l ∧ v = .tuple #[g.v, .int .u64 r.at_, .bool r.ok] ∧ A = []) ∨ (∃ la lc, v = .tuple #[LM.v { g with l := r.l, la := la, lc := lc }, .int .u64 r.at_, .bool r.ok] ∧ A = [OwnL la r.l lc])
theorem take_succ_ent {l : List Ent} {k : Nat} (h : k < l.length) : enV (l.take (k + 1)) = enV (l.take k) ++ enV [l.getD k E0] := by
 rw [List.take_succ_eq_append_getElem h, enV_append]; simp [h]
structure BehI (g : LM) (prev : Int) (l : List Ent) (k : Nat) (at_ : Int) (out : List Ent) : Prop where
 zero : at_ = 0 → (∀ j, j < k → same g prev l j = true) ∧ out = g.l.take ((prev - g.base).toNat + k) ∧ (prev - g.base).toNat + k ≤ g.l.length
 some : at_ ≠ 0 → ∃ k0, k0 < k ∧ at_ = prev + 1 + (k0 : Int) ∧ firstD g prev l = k0 ∧ out = g.l.take ((prev - g.base).toNat + k0) ++ (l.drop k0).take (k - k0)
end Go.Proofs.YtodcghipfolejaaGreat
