import Derived.Test.YtgllpcggdcknaaaGreatDoorCx7
import Derived.WideLaws
set_option linter.unusedVariables false
set_option linter.unusedSimpArgs false
namespace Go.Proofs.YtgllpcggdcknaaaGreatDoor.Rp
open Go Go.Sl
theorem itemR_ct (k : Nat) (hk : 1 ≤ k ∧ k ≤ 12) : Pu Tryz.prog 85 [.int .i64 (k : Nat)] (fun _ => True) (B (itemA k)) := by
 have hl : k - 1 < itemW.length := by have : itemW.length = 12 := rfl; omega
 refine ct_enter 8 Tryz.func85 rfl rfl rfl ?_
 intro F _
 repeat refine x_ ?_
 refine a_ ?_
 repeat refine x_ ?_
 refine gl_buildSliceU rfl rfl rfl rfl rfl rfl (xs := fV itemW) rfl rfl ?_; rintro a3 ⟨ad3, rfl⟩
 refine m_ ?_
 refine f_ (s_sub_i64 rfl rfl (by omega)) ?_
 refine f_ ((s_indexAddr rfl ⟨ad3, rfl⟩ rfl (by omega))) ?_
 refine r_ (s_load1 rfl (fun w hw => rdB_own hw z_3 (i := k - 1) (by omega) hl)) ?_
 refine a_ ?_
 repeat refine n_ ?_
 refine g_ret ?_
 exact at_end1 rfl rfl [] ⟨rfl, rfl⟩ (fun _ h => h.dropAll)
theorem uqL_le : ∀ (n : Nat) (s b : Bs) (i : Nat) (t : Bs) (m : Nat), s.length ≤ n → uqL b i s = some (t, m) → m ≤ i + s.length
 | _, [], _, _, _, _, _, h => by simp [uqL] at h
 | 0, c :: s, _, _, _, _, hn, _ => by simp at hn
 | n + 1, c :: s, b, i, t, m, hn, h => by
  simp only [List.length_cons] at hn ⊢
  rw [uqL_cons] at h
  split at h
  ·cases h
  split at h
  ·simp at h; omega
  split at h
  ·split at h
   ·cases h
   ·next d t' =>
    split at h
    ·simp only [List.length_cons] at hn ⊢
     have := uqL_le n t' _ _ t m (by omega) h
     omega
    ·cases h
  split at h
  ·have := uqL_le n s _ _ t m (by omega) h
   omega
  ·cases h
theorem uqS_le {s : Bs} : ((uqS s).getD ([], 0)).2 ≤ s.length := by
 cases h : uqS s with
 | none => simp
 | some q =>
  obtain ⟨t, m⟩ := q
  cases s with
  | nil => cases h
  | cons c v =>
   unfold uqS at h
   simp only at h
   split at h
   ·have := uqL_le v.length v [] 1 t m (Nat.le_refl _) h
    simp
    omega
   ·cases h
theorem cut_take {s : Bs} {p q : Nat} (h : p ≤ q) : (s.drop p).take (q - p) = cutS s p q := by
 unfold cutS
 rw [List.drop_take]
theorem to_ge (s : Bs) (p : Nat) (stops : Bs) : p ≤ toS s p stops := by unfold toS; omega
theorem to_le {s : Bs} {p : Nat} {stops : Bs} (h : p ≤ s.length) : toS s p stops ≤ s.length := by
 unfold toS stopW
 have h1 := congrArg List.length (takeWhile_split (fun c => !stops.contains c) (s.drop p))
 rw [List.length_append, List.length_drop] at h1
 omega
theorem boxAt_ct (s : Bs) (p : Nat) (hs : s.length ≤ 1000000000000) (hp : p ≤ s.length) : Pu Tryz.prog 63 [B s, .int .i64 (p : Nat)] (fun _ => True) (.tuple #[B (boxR s p).1, .int .i64 ((boxR s p).2 : Nat)]) := by
 have hge := to_ge s p [32, 13]
 have hle := to_le (stops := [32, 13]) hp
 refine ct_enter 33 Tryz.func63 rfl rfl rfl ?_
 intro F _
 repeat refine x_ ?_
 refine a_ ?_
 refine a_ ?_
 repeat refine x_ ?_
 refine m_ ?_
 refine m_ ?_
 refine gl_callp rfl (begins_ct s p [34] (by omega) (by omega) (by decide)) (fun _ _ _ => trivial) rfl ?_
 repeat refine n_ ?_
 refine g_cond rfl (fun h => ?_) (fun h => ?_)
 ·have hu := uqS_le (s := s.drop p)
  rw [List.length_drop] at hu
  unfold boxR
  rw [if_pos h]
  repeat refine x_ ?_
  refine m_ ?_
  refine m_ ?_
  refine f_ ((s_slice_str rfl rfl rfl (by omega)).eq (v' := B (s.drop p)) (by rw [List.take_of_length_le (by rw [List.length_drop]; omega), Int.toNat_natCast])) ?_
  refine gl_callp rfl (UnquoteR_ct (s.drop p) (by unfold big; rw [List.length_drop]; omega)) (fun _ _ _ => trivial) rfl ?_
  refine m_ ?_
  refine f_ (s_extract rfl rfl) ?_
  refine f_ (s_extract rfl rfl) ?_
  refine f_ (s_extract rfl rfl) ?_
  refine a_ ?_
  refine a_ ?_
  refine a_ ?_
  repeat refine x_ ?_
  refine m_ ?_
  refine m_ ?_
  refine m_ ?_
  refine f_ (s_add_i64 rfl rfl (by omega)) ?_
  refine a_ ?_
  refine a_ ?_
  repeat refine n_ ?_
  refine g_ret ?_
  exact at_end2 rfl rfl rfl [] ⟨rfl, rfl⟩ (fun _ h => h)
 ·unfold boxR
  rw [if_neg (by rw [h]; simp)]
  repeat refine x_ ?_
  refine m_ ?_
  refine m_ ?_
  refine gl_callp rfl (to_ct s p [32, 13] (by omega) (by omega) (by decide)) (fun _ _ _ => trivial) rfl ?_
  refine a_ ?_
  repeat refine x_ ?_
  refine m_ ?_
  refine m_ ?_
  refine m_ ?_
  refine f_ ((s_slice_str rfl rfl rfl (by omega)).eq (v' := B (cutS s p (toS s p [32, 13]))) (by simp only [Int.toNat_natCast]; rw [cut_take hge])) ?_
  refine m_ ?_
  refine a_ ?_
  refine a_ ?_
  repeat refine n_ ?_
  refine g_ret ?_
  exact at_end2 rfl rfl rfl [] ⟨rfl, rfl⟩ (fun _ h => h)
end Go.Proofs.YtgllpcggdcknaaaGreatDoor.Rp
namespace Go.Proofs.YtgllpcggdcknaaaGreatDoor.Rp
open Go Go.Sl
theorem getB_ext {l m : List Bs} (hlen : l.length = m.length) (h : ∀ i, i < l.length → l.getD i [] = m.getD i []) : l = m := by
 apply List.ext_getElem hlen
 intro i h1 h2
 have := h i h1
 rw [List.getD_eq_getElem?_getD, List.getD_eq_getElem?_getD, List.getElem?_eq_getElem h1, List.getElem?_eq_getElem h2] at this
 exact this
theorem SameF_ct (l m : List Bs) (a b : Option Addr) (c d : Nat) (hl : l.length ≤ 1000000000000) : Pu Tryz.prog 18 [.slice a l.length c, .slice b m.length d] (fun h => RdS h a (fV l) ∧ RdS h b (fV m)) (.bool (decide (l = m))) := by
 refine ct_enter 26 Tryz.func18 rfl rfl rfl ?_
 intro F hr
 have hrd := hr.1
 have hrm := hr.2
 repeat refine x_ ?_
 refine a_ ?_
 repeat refine x_ ?_
 refine m_ ?_
 refine f_ (s_len_sl rfl) ?_
 refine m_ ?_
 refine f_ (s_len_sl rfl) ?_
 refine f_ (s_neq rfl rfl) ?_
 repeat refine n_ ?_
 refine g_cond rfl (fun h => ?_) (fun h => ?_)
 ·have hne : l ≠ m := by rintro rfl; simp at h
  rw [decide_eq_false hne]
  repeat refine x_ ?_
  refine a_ ?_
  repeat refine n_ ?_
  refine g_ret ?_
  exact at_end1 rfl rfl [] ⟨rfl, rfl⟩ (fun _ h => h)
 ·have hlen : l.length = m.length := by simp at h; omega
  repeat refine x_ ?_
  refine a_ ?_
  repeat refine n_ ?_
  refine g_loop (ι := Nat) (fun k => k ≤ l.length ∧ ∀ i, i < k → l.getD i [] = m.getD i []) (fun k => [(0, .slice a l.length c), (1, .slice b m.length d), (5, .int .i64 (k : Nat))]) (fun k => []) (fun k => l.length - k) 0 ⟨by omega, fun i h => by omega⟩ ?_ ?_ ?_
  ·(repeat (first | exact Sub.nil _ | refine Sub.cons rfl ?_))
  ·intro w hw; exact hw
  ·intro k hk
   obtain ⟨hk, hok⟩ := hk
   repeat refine x_ ?_
   refine m_ ?_
   refine m_ ?_
   refine f_ (s_len_sl rfl) ?_
   refine f_ (s_lss rfl rfl) ?_
   repeat refine n_ ?_
   refine g_cond rfl (fun h => ?_) (fun h => ?_)
   ·have hk' : k < l.length := by simp at h; omega
    have hsome := rdB_some hrd hk'
    have hsome2 := rdB_some hrm (i := k) (by omega)
    repeat refine y_ ?_
    refine g_draw0 ([3, 7], [0, 0, 3, 7, 0, 0, 48, 112, 255], []) 9 rfl ?_
    refine w_ 0 rfl (s_move rfl) ?_
    refine w_ 1 rfl (s_move rfl) ?_
    refine w_ 2 rfl (s_indexAddr rfl (by assumption) rfl (by omega)) ?_
    refine ga_readF 3 rfl (s_load1 rfl (fun w hw => rdB hw hrd (i := k) (by omega) (by omega))) z_10 rfl rfl rfl z_6 ?_
    refine w_ 4 rfl (s_move rfl) ?_
    refine w_ 5 rfl (s_move rfl) ?_
    refine w_ 6 rfl (s_indexAddr rfl (by assumption) rfl (by omega)) ?_
    refine ga_readF 7 rfl (s_load1 rfl (fun w hw => rdB hw hrm (i := k) (by omega) (by omega))) z_10 rfl rfl rfl z_6 ?_
    refine w_ 8 rfl (s_neq_str rfl rfl) ?_
    refine ga_done z_6 ?_
    repeat refine y_ ?_
    refine g_cond rfl (fun h2 => ?_) (fun h2 => ?_)
    ·have hne : l ≠ m := by rintro rfl; simp at h2
     rw [decide_eq_false hne]
     repeat refine x_ ?_
     refine a_ ?_
     repeat refine n_ ?_
     refine g_ret ?_
     exact at_end1 rfl rfl [] ⟨rfl, rfl⟩ (fun _ h => h)
    ·have h3 : l.getD k [] = m.getD k [] := by simpa using h2
     repeat refine x_ ?_
     refine m_ ?_
     refine f_ (s_add_i64 rfl rfl (by omega)) ?_
     refine a_ ?_
     repeat refine n_ ?_
     refine at_next (k + 1) ⟨by omega, fun i hi => ?_⟩ (by omega) ?_ ?_
     ·rcases Nat.lt_succ_iff_lt_or_eq.1 hi with h4 | rfl
      ·exact hok i h4
      ·exact h3
     ·(repeat (first | exact Sub.nil _ | refine Sub.cons rfl ?_))
     ·intro w hw; exact hw
   ·have hkl : k = l.length := by simp at h; omega
    have e : l = m := getB_ext hlen fun i hi => hok i (by omega)
    rw [decide_eq_true e]
    repeat refine x_ ?_
    refine a_ ?_
    repeat refine n_ ?_
    refine g_ret ?_
    exact at_end1 rfl rfl [] ⟨rfl, rfl⟩ (fun _ h => h)
end Go.Proofs.YtgllpcggdcknaaaGreatDoor.Rp
namespace Go.Proofs.YtgllpcggdcknaaaGreatDoor.Rp
open Go Go.Sl
structure VM where
 v : RV
 a : Option Addr
 c : Nat
abbrev VM0 : VM := ⟨V0, none, 0⟩
abbrev vmC (x : VM) : List Value := [.int .i64 x.v.kind, .int .u64 (x.v.n : Nat), .slice x.a x.v.flags.length x.c, B x.v.text, .bool x.v.part, .int .u64 (x.v.fr : Nat)]
abbrev vmA (x : VM) : Value := .agg #[.int .i64 x.v.kind, .int .u64 (x.v.n : Nat), .slice x.a x.v.flags.length x.c, B x.v.text, .bool x.v.part, .int .u64 (x.v.fr : Nat)]
abbrev vmV (l : List VM) : List Value := l.flatMap vmC
theorem vmC_len : ∀ x, (vmC x).length = 6 := fun _ => rfl
theorem vmC_one : ∀ x, ∀ q ∈ vmC x, q.oneCell' = true := fun x q hq => by simp at hq; rcases hq with rfl | rfl | rfl | rfl | rfl | rfl <;> rfl
theorem vmV_one (l : List VM) : ∀ q ∈ vmV l, q.oneCell' = true := rec_one (C := vmC) vmC_one l
theorem vmV_append (a b : List VM) : vmV (a ++ b) = vmV a ++ vmV b := List.flatMap_append
def nV (l : List Nat) : List Value := l.map fun n => .int .u64 (n : Nat)
theorem nV_len (l : List Nat) : (nV l).length = l.length := by simp [nV]
theorem nV_one (l : List Nat) : ∀ q ∈ nV l, q.oneCell' = true := fun q hq => by
 obtain ⟨x, _, rfl⟩ := List.mem_map.mp hq
 rfl
theorem nV_append (a b : List Nat) : nV (a ++ b) = nV a ++ nV b := by simp [nV]
structure RL where
 na : Option Addr
 nc : Nat
 fa : Option Addr
 fc : Nat
 va : Option Addr
 vc : Nat
 vs : List VM
abbrev L0 : RL := ⟨none, 0, none, 0, none, 0, []⟩
abbrev rrC (r : RR) (x : RL) : List Value := [.int .i64 r.kind, B r.tag, B r.code, B r.text, .int .u64 (r.n : Nat), .slice x.na r.nums.length x.nc, .int .u64 (r.mod : Nat), .slice x.fa r.flags.length x.fc, B r.box, .slice x.va x.vs.length x.vc]
abbrev rrA (r : RR) (x : RL) : Value := .agg #[.int .i64 r.kind, B r.tag, B r.code, B r.text, .int .u64 (r.n : Nat), .slice x.na r.nums.length x.nc, .int .u64 (r.mod : Nat), .slice x.fa r.flags.length x.fc, B r.box, .slice x.va x.vs.length x.vc]
structure RRd (r : RR) (x : RL) (h : Heap) : Prop where
 vals : r.values = x.vs.map VM.v
 nums : RdS h x.na (nV r.nums)
 flags : RdS h x.fa (fV r.flags)
 vs : RdS h x.va (vmV x.vs)
 fs : ∀ m ∈ x.vs, RdS h m.a (fV m.v.flags)
theorem RRd.le {r : RR} {x : RL} {h h' : Heap} (k : RRd r x h) (hl : Heap.le h h') : RRd r x h' := ⟨k.vals, k.nums.le hl, k.flags.le hl, k.vs.le hl, fun m hm => (k.fs m hm).le hl⟩
def vsH (l : List VM) : List As := l.map fun m => OwnS m.a m.v.flags m.c
def rrH (r : RR) (x : RL) : List As := .own (.slice x.na r.nums.length x.nc) 22 1 (nV r.nums) :: OwnS x.fa r.flags x.fc :: .own (.slice x.va x.vs.length x.vc) 46 6 (vmV x.vs) :: vsH x.vs
theorem vsH_append (a b : List VM) : vsH (a ++ b) = vsH a ++ vsH b := by simp [vsH]
theorem rd_of_own {h : Heap} {bs : List Nat} {a : Option Addr} {n c sz : Nat} {t : TypeId} {xs : List Value} {H : List As} (hs : Sat h H bs) (hm : As.own (.slice a n c) t sz xs ∈ H) : RdS h a xs := by
 obtain ⟨A, C, rfl⟩ := List.append_of_mem hm
 obtain ⟨ba, bb, rfl, _, h2⟩ := Sat.split hs
 exact Sat.rd h2 .del
theorem RRd.of_own {r : RR} {x : RL} {h : Heap} {bs : List Nat} {H : List As} (hv : r.values = x.vs.map VM.v) (hs : Sat h H bs) (hm : ∀ y ∈ rrH r x, y ∈ H) : RRd r x h :=
 ⟨hv, rd_of_own hs (hm _ (.head _)), rd_of_own hs (hm _ (.tail _ (.head _))), rd_of_own hs (hm _ (.tail _ (.tail _ (.head _)))), fun m hm' => rd_of_own hs (hm _ (.tail _ (.tail _ (.tail _ (List.mem_map.mpr ⟨m, hm', rfl⟩)))))⟩
end Go.Proofs.YtgllpcggdcknaaaGreatDoor.Rp
namespace Go.Proofs.YtgllpcggdcknaaaGreatDoor.Rp
open Go Go.Sl
theorem chain_at : ∀ {l : List Bs}, chain l = true → ∀ j, 0 < j → j < l.length → lessS (l.getD (j - 1) []) (l.getD j []) = true
 | [], _, j, _, h => by simp at h
 | [a], _, j, h0, h => by simp at h; omega
 | a :: b :: t, hc, j, h0, h => by
  simp only [chain, Bool.and_eq_true] at hc
  rcases Nat.lt_or_ge j 2 with hj | hj
  ·have : j = 1 := by omega
   subst this
   exact hc.1
  ·have := chain_at hc.2 (j - 1) (by omega) (by simp only [List.length_cons] at h ⊢; omega)
   obtain ⟨i, rfl⟩ : ∃ i, j = i + 2 := ⟨j - 2, by omega⟩
   exact this
theorem chain_of : ∀ {l : List Bs}, (∀ j, 0 < j → j < l.length → lessS (l.getD (j - 1) []) (l.getD j []) = true) → chain l = true
 | [], _ => rfl
 | [a], _ => rfl
 | a :: b :: t, h => by
  simp only [chain, Bool.and_eq_true]
  refine ⟨h 1 (by omega) z_7, chain_of fun j h0 hj => ?_⟩
  have := h (j + 1) (by omega) (by simp only [List.length_cons] at hj ⊢; omega)
  obtain ⟨i, rfl⟩ : ∃ i, j = i + 1 := ⟨j - 1, by omega⟩
  exact this
theorem right_no {l : List Bs} {k : Nat} (hk : k < l.length) (h : canonS (l.getD k []) ≠ some (l.getD k []) ∨ 0 < k ∧ lessS (l.getD (k - 1) []) (l.getD k []) = false) : rightS l = false := by
 cases e : rightS l with
 | false => rfl
 | true =>
  exfalso
  unfold rightS at e
  simp only [Bool.and_eq_true, List.all_eq_true, decide_eq_true_eq] at e
  rcases h with h | ⟨h0, h⟩
  ·exact h (e.1.1 _ (getB_mem hk))
  ·have := chain_at e.1.2 k h0 hk
   rw [h] at this
   cases this
theorem RightR_ct (l : List Bs) (a : Option Addr) (c : Nat) (hl : l.length ≤ big) (hb : ∀ f ∈ l, f.length ≤ big) : Pu Tryz.prog 45 [.slice a l.length c] (fun h => RdS h a (fV l)) (.bool (rightS l)) := by
 have hl' := hl
 unfold big at hl
 refine ct_enter 50 Tryz.func45 rfl rfl rfl ?_
 intro F hrd
 repeat refine x_ ?_
 refine a_ ?_
 repeat refine x_ ?_
 refine a_ ?_
 repeat refine n_ ?_
 refine g_loop (ι := Nat) (fun k => k ≤ l.length ∧ ∀ j, j < k → canonS (l.getD j []) = some (l.getD j []) ∧ (0 < j → lessS (l.getD (j - 1) []) (l.getD j []) = true)) (fun k => [(0, .slice a l.length c), (3, .int .i64 (k : Nat))]) (fun _ => []) (fun k => l.length - k) 0 ⟨by omega, fun j h => by omega⟩ ?_ ?_ ?_
 ·(repeat (first | exact Sub.nil _ | refine Sub.cons rfl ?_))
 ·intro w hw; exact hw
 ·rintro k ⟨hk, hno⟩
  repeat refine x_ ?_
  refine m_ ?_
  refine m_ ?_
  refine f_ (s_len_sl rfl) ?_
  refine f_ (s_lss rfl rfl) ?_
  repeat refine n_ ?_
  refine g_cond rfl (fun h => ?_) (fun h => ?_)
  ·have hk' : k < l.length := by simp at h; omega
   have hsome := rdB_some hrd hk'
   have hbk := hb _ (getB_mem hk')
   repeat refine x_ ?_
   refine m_ ?_
   refine m_ ?_
   refine f_ (s_indexAddr rfl (by assumption) rfl (by omega)) ?_
   refine r_ (s_load1 rfl (fun w hw => rdB hw hrd (i := k) (by omega) hk')) ?_
   refine gl_callp rfl (CanonR_ct (l.getD k []) hbk) (fun _ _ _ => trivial) rfl ?_
   refine m_ ?_
   refine f_ (s_extract rfl rfl) ?_
   refine f_ (s_extract rfl rfl) ?_
   refine a_ ?_
   refine a_ ?_
   repeat refine n_ ?_
   obtain ⟨q0, hq0⟩ : ∃ q, q = (canonS (l.getD k [])).isSome := ⟨_, rfl⟩
   obtain ⟨x, hx⟩ : ∃ x, x = (canonS (l.getD k [])).getD [] := ⟨_, rfl⟩
   obtain ⟨q1, hq1⟩ : ∃ q, q = decide (x = l.getD k []) := ⟨_, rfl⟩
   obtain ⟨q2, hq2⟩ : ∃ q, q = decide ((0 : Int) < (k : Nat)) := ⟨_, rfl⟩
   rw [← hq0, ← hx]
   repeat refine y_ ?_
   refine g_cutK [(0, .slice a l.length c), (3, .int .i64 (k : Nat)), (46, .bool (!q0 || (!q1 || (q2 && !lessS (l.getD (k - 1) []) (l.getD k [])))))] [] ?_ ?_
   ·cases q0 <;> cases q1 <;> cases q2
    all_goals (
     repeat refine y_ ?_
     refine g_draw0 ([7, 18, 22], [0, 1, 3, 7, 7, 7, 55, 119, 255, 511, 1023, 2047, 4095, 8191, 16383, 16383, 49151, 131071, 262143, 16383, 16383, 1589247, 3686399, 8388607, 16777215, 33554431, 67108863], []) 27 rfl ?_
     refine w_ 0 rfl (s_move rfl) ?_
     refine w_ 1 rfl (s_not rfl) ?_
     refine w_ 2 rfl (s_move rfl) ?_
     (first | refine s_ 3 ?_ | refine ga_free_g 3 rfl (s_move rfl) rfl rfl rfl rfl rfl rfl z_6 ?_)
     (first | refine s_ 4 ?_ | refine ga_free_g 4 rfl (s_move rfl) rfl rfl rfl rfl rfl rfl z_6 ?_)
     (first | refine s_ 5 ?_ | refine ga_free_g 5 rfl (s_move rfl) rfl rfl rfl rfl rfl rfl z_6 ?_)
     (first | refine s_ 6 ?_ | refine ga_free_g 6 rfl (s_indexAddr rfl (by assumption) rfl (by omega)) rfl rfl rfl rfl rfl rfl z_6 ?_)
     (first | refine s_ 7 ?_ | refine ga_readF_g 7 rfl (s_load1 rfl (fun w hw => rdB hw hrd (i := k) (by omega) (by omega))) z_10 rfl rfl rfl rfl rfl rfl z_6 ?_)
     (first | refine s_ 8 ?_ | refine ga_free_g 8 rfl ((s_neq_str rfl rfl).eq (congrArg (fun b => Value.bool (!b)) hq1.symm)) rfl rfl rfl rfl rfl rfl z_6 ?_)
     refine w_ 9 rfl z_4 ?_
     refine w_ 10 rfl (s_move rfl) ?_
     (first | refine s_ 11 ?_ | refine ga_free_g 11 rfl (s_move rfl) rfl rfl rfl rfl rfl rfl z_6 ?_)
     (first | refine s_ 12 ?_ | refine ga_free_g 12 rfl ((s_gtr rfl rfl).eb hq2) rfl rfl rfl rfl rfl rfl z_6 ?_)
     (first | refine s_ 13 ?_ | refine ga_free_g 13 rfl (s_move rfl) rfl rfl rfl rfl rfl rfl z_6 ?_)
     (first | refine s_ 14 ?_ | refine t_ 14 ?_ | refine ga_free_g 14 rfl (s_move rfl) rfl rfl rfl rfl rfl rfl z_6 ?_)
     (first | refine s_ 15 ?_ | refine t_ 15 ?_ | refine ga_free_g 15 rfl (s_move rfl) rfl rfl rfl rfl rfl rfl z_6 ?_)
     (first | refine s_ 16 ?_ | refine t_ 16 ?_ | refine ga_free_g 16 rfl (s_sub_i64 rfl rfl (by omega)) rfl rfl rfl rfl rfl rfl z_6 ?_)
     (first | refine s_ 17 ?_ | refine t_ 17 ?_ | refine ga_free_g 17 rfl (s_indexAddr rfl hsome rfl (by simp at hq2; omega)) rfl rfl rfl rfl rfl rfl z_6 ?_)
     (first | refine s_ 18 ?_ | refine t_ 18 ?_ | refine ga_readF_g 18 rfl (s_load1 rfl (fun w hw => rdB hw hrd (i := k - 1) (by simp at hq2; omega) (by omega))) z_10 rfl rfl rfl rfl rfl rfl z_6 ?_)
     (first | refine s_ 19 ?_ | refine t_ 19 ?_ | refine ga_free_g 19 rfl (s_move rfl) rfl rfl rfl rfl rfl rfl z_6 ?_)
     (first | refine s_ 20 ?_ | refine t_ 20 ?_ | refine ga_free_g 20 rfl (s_move rfl) rfl rfl rfl rfl rfl rfl z_6 ?_)
     (first | refine s_ 21 ?_ | refine t_ 21 ?_ | refine ga_free_g 21 rfl (s_indexAddr rfl (by assumption) rfl (by omega)) rfl rfl rfl rfl rfl rfl z_6 ?_)
     (first | refine s_ 22 ?_ | refine t_ 22 ?_ | refine ga_readF_g 22 rfl (s_load1 rfl (fun w hw => rdB hw hrd (i := k) (by omega) (by omega))) z_10 rfl rfl rfl rfl rfl rfl z_6 ?_)
     refine ga_one 23 rfl z_6 ?_
     (first|refine u_ ?_|(refine v_ ?_; refine gl_callp rfl (less_ct _ _) (fun h hh hb => by first | trivial | (first | exact RdS.le (by assumption) hh | (obtain ⟨bs, hb⟩ := hb; exact Sat.rd hb (z_3))) | (refine ⟨?_, ?_⟩ <;> (first | exact RdS.le (by assumption) hh | (obtain ⟨bs, hb⟩ := hb; exact Sat.rd hb (z_3)))) | (refine ⟨?_, ?_, ?_⟩ <;> (first | exact RdS.le (by assumption) hh | (obtain ⟨bs, hb⟩ := hb; exact Sat.rd hb (z_3))))) rfl ?_))
     refine gl_nil ?_
     refine at_ga (.inl z_6) ?_
     (first | refine s_ 24 ?_ | refine t_ 24 ?_ | refine ga_free_g 24 rfl (s_not rfl) rfl rfl rfl rfl rfl rfl z_6 ?_)
     (first | refine s_ 25 ?_ | refine ga_free_g 25 rfl z_4 rfl rfl rfl rfl rfl rfl z_6 ?_)
     refine w_ 26 rfl z_4 ?_
     refine ga_done z_6 ?_
     repeat refine y_ ?_)
    all_goals exact at_cut j_ i_
   ·have hcan : q0 = true → q1 = true → canonS (l.getD k []) = some (l.getD k []) := fun a0 a1 => by
     obtain ⟨y, hy⟩ := Option.isSome_iff_exists.mp (hq0.symm.trans a0)
     have : x = l.getD k [] := of_decide_eq_true (hq1.symm.trans a1)
     rw [hy] at hx
     rw [hy, ← this, hx]
     rfl
    repeat refine y_ ?_
    refine g_cond rfl (fun h2 => ?_) (fun h2 => ?_)
    ·have e : rightS l = false := by
      refine right_no hk' ?_
      cases q0 with
      | false => exact .inl fun e => by rw [e] at hq0; cases hq0
      | true =>
       cases q1 with
       | false => exact .inl fun e => by rw [e] at hx; exact of_decide_eq_false hq1.symm hx
       | true =>
        cases q2 with
        | false => cases h2
        | true => exact .inr ⟨by have := of_decide_eq_true hq2.symm; omega, by simpa using h2⟩
     rw [e]
     repeat refine x_ ?_
     refine a_ ?_
     repeat refine n_ ?_
     refine g_ret ?_
     exact at_end1 rfl rfl [] ⟨rfl, rfl⟩ (fun _ h => h)
    ·have h3 : q0 = true ∧ q1 = true ∧ (q2 = true → lessS (l.getD (k - 1) []) (l.getD k []) = true) := by
      cases q0 with
      | false => cases h2
      | true =>
       cases q1 with
       | false => cases h2
       | true =>
        refine ⟨rfl, rfl, fun e => ?_⟩
        rw [e] at h2
        simpa using h2
     repeat refine x_ ?_
     refine m_ ?_
     refine f_ (s_add_i64 rfl rfl (by omega)) ?_
     refine a_ ?_
     repeat refine n_ ?_
     refine at_next (k + 1) ⟨by omega, fun j hj => ?_⟩ (by omega) ?_ ?_
     ·rcases Nat.lt_succ_iff_lt_or_eq.1 hj with h4 | rfl
      ·exact hno j h4
      ·exact ⟨hcan h3.1 h3.2.1, fun h0 => h3.2.2 (hq2.trans (decide_eq_true (by omega)))⟩
     ·(repeat (first | exact Sub.nil _ | refine Sub.cons rfl ?_))
     ·intro w hw; exact hw
  ·have hkl : k = l.length := by simp at h; omega
   have e : rightS l = decide ((l.length : Int) ≤ 16) := by
    unfold rightS
    rw [chain_of fun j h0 hj => (hno j (by omega)).2 h0]
    have : (l.all fun f => decide (canonS f = some f)) = true := by
     refine List.all_eq_true.mpr fun f hf => ?_
     obtain ⟨j, hj, rfl⟩ := List.getElem_of_mem hf
     have := (hno j (by omega)).1
     rw [List.getD_eq_getElem?_getD, List.getElem?_eq_getElem hj] at this
     exact decide_eq_true this
    rw [this, Bool.true_and, Bool.true_and]
    exact decide_eq_decide.mpr (by omega)
   rw [e]
   repeat refine x_ ?_
   refine m_ ?_
   refine f_ (s_len_sl rfl) ?_
   refine f_ (s_leq rfl rfl) ?_
   refine a_ ?_
   repeat refine n_ ?_
   refine g_ret ?_
   exact at_end1 rfl rfl [] ⟨rfl, rfl⟩ (fun _ h => h)
end Go.Proofs.YtgllpcggdcknaaaGreatDoor.Rp
namespace Go.Proofs.YtgllpcggdcknaaaGreatDoor.Rp
open Go Go.Sl
theorem a3_0 {a0 a1 a2 : Value} : (#[a0, a1, a2] : Array Value)[0]? = some a0 := rfl
theorem a3_1 {a0 a1 a2 : Value} : (#[a0, a1, a2] : Array Value)[1]? = some a1 := rfl
theorem a3_2 {a0 a1 a2 : Value} : (#[a0, a1, a2] : Array Value)[2]? = some a2 := rfl
theorem a6_0 {a0 a1 a2 a3 a4 a5 : Value} : (#[a0, a1, a2, a3, a4, a5] : Array Value)[0]? = some a0 := rfl
theorem a6_1 {a0 a1 a2 a3 a4 a5 : Value} : (#[a0, a1, a2, a3, a4, a5] : Array Value)[1]? = some a1 := rfl
theorem a6_2 {a0 a1 a2 a3 a4 a5 : Value} : (#[a0, a1, a2, a3, a4, a5] : Array Value)[2]? = some a2 := rfl
theorem a6_3 {a0 a1 a2 a3 a4 a5 : Value} : (#[a0, a1, a2, a3, a4, a5] : Array Value)[3]? = some a3 := rfl
theorem a6_4 {a0 a1 a2 a3 a4 a5 : Value} : (#[a0, a1, a2, a3, a4, a5] : Array Value)[4]? = some a4 := rfl
theorem a6_5 {a0 a1 a2 a3 a4 a5 : Value} : (#[a0, a1, a2, a3, a4, a5] : Array Value)[5]? = some a5 := rfl
theorem a10_0 {a0 a1 a2 a3 a4 a5 a6 a7 a8 a9 : Value} : (#[a0, a1, a2, a3, a4, a5, a6, a7, a8, a9] : Array Value)[0]? = some a0 := rfl
theorem a10_1 {a0 a1 a2 a3 a4 a5 a6 a7 a8 a9 : Value} : (#[a0, a1, a2, a3, a4, a5, a6, a7, a8, a9] : Array Value)[1]? = some a1 := rfl
theorem a10_2 {a0 a1 a2 a3 a4 a5 a6 a7 a8 a9 : Value} : (#[a0, a1, a2, a3, a4, a5, a6, a7, a8, a9] : Array Value)[2]? = some a2 := rfl
theorem a10_3 {a0 a1 a2 a3 a4 a5 a6 a7 a8 a9 : Value} : (#[a0, a1, a2, a3, a4, a5, a6, a7, a8, a9] : Array Value)[3]? = some a3 := rfl
theorem a10_4 {a0 a1 a2 a3 a4 a5 a6 a7 a8 a9 : Value} : (#[a0, a1, a2, a3, a4, a5, a6, a7, a8, a9] : Array Value)[4]? = some a4 := rfl
theorem a10_5 {a0 a1 a2 a3 a4 a5 a6 a7 a8 a9 : Value} : (#[a0, a1, a2, a3, a4, a5, a6, a7, a8, a9] : Array Value)[5]? = some a5 := rfl
theorem a10_6 {a0 a1 a2 a3 a4 a5 a6 a7 a8 a9 : Value} : (#[a0, a1, a2, a3, a4, a5, a6, a7, a8, a9] : Array Value)[6]? = some a6 := rfl
theorem a10_7 {a0 a1 a2 a3 a4 a5 a6 a7 a8 a9 : Value} : (#[a0, a1, a2, a3, a4, a5, a6, a7, a8, a9] : Array Value)[7]? = some a7 := rfl
theorem a10_8 {a0 a1 a2 a3 a4 a5 a6 a7 a8 a9 : Value} : (#[a0, a1, a2, a3, a4, a5, a6, a7, a8, a9] : Array Value)[8]? = some a8 := rfl
theorem a10_9 {a0 a1 a2 a3 a4 a5 a6 a7 a8 a9 : Value} : (#[a0, a1, a2, a3, a4, a5, a6, a7, a8, a9] : Array Value)[9]? = some a9 := rfl
class HBld (P : Program) (t : TypeId) (fs : outParam (Array Field)) (places : outParam (List (Nat × Nat))) : Prop where
 hu : P.underlying t = some (.struct fs)
 hp : fs.toList.map (fun f => (f.offset, P.cellsOf f.type)) = places
 hin : (fs.toList.all fun f => (P.info? f.type).isSome) = true
theorem s_bld {P : Program} {L : Lcs} {dst : Option Tmp} {ty t : TypeId} {pos : String} {af : Array Edge} {gd : Option (Nat × Bool)} {fs : Array Field} {places : List (Nat × Nat)} {z : Value} {ps : List (Nat × Operand)} {vs : List (Nat × Value)} {cells : Array Value} [hb : HBld P t fs places] [hz : HZ P t z] (hx : evP L ps = some vs) (hfill : Instr.fill (places[·]?) z.cells vs = some cells) : OpF P ⟨dst, .build t ps.toArray, ty, pos, af, gd⟩ L (.agg cells) :=
 have : HU P t (.struct fs) := ⟨hb.hu⟩
 s_build hx (run_build_struct (fs := fs) hb.hp (fun f hf => List.all_eq_true.1 hb.hin f hf) hfill)
instance : HBld Tryz.prog 27 #[{ name := "Kind", type := 3, offset := 0, embedded := false, tag := "", pkgPath := "", byteOffset := 0 }, { name := "Tag", type := 9, offset := 1, embedded := false, tag := "", pkgPath := "", byteOffset := 8 }, { name := "Code", type := 9, offset := 2, embedded := false, tag := "", pkgPath := "", byteOffset := 24 }, { name := "Text", type := 9, offset := 3, embedded := false, tag := "", pkgPath := "", byteOffset := 40 }, { name := "N", type := 22, offset := 4, embedded := false, tag := "", pkgPath := "", byteOffset := 56 }, { name := "Nums", type := 23, offset := 5, embedded := false, tag := "", pkgPath := "", byteOffset := 64 }, { name := "Mod", type := 22, offset := 6, embedded := false, tag := "", pkgPath := "", byteOffset := 88 }, { name := "Flags", type := 24, offset := 7, embedded := false, tag := "", pkgPath := "", byteOffset := 96 }, { name := "Box", type := 9, offset := 8, embedded := false, tag := "", pkgPath := "", byteOffset := 120 }, { name := "Values", type := 25, offset := 9, embedded := false, tag := "", pkgPath := "", byteOffset := 136 }] [(0, 1), (1, 1), (2, 1), (3, 1), (4, 1), (5, 1), (6, 1), (7, 1), (8, 1), (9, 1)] := ⟨Tryz.underlying27, by kernel_rfl, by kernel_rfl⟩
instance : HBld Tryz.prog 46 #[{ name := "Kind", type := 3, offset := 0, embedded := false, tag := "", pkgPath := "", byteOffset := 0 }, { name := "N", type := 22, offset := 1, embedded := false, tag := "", pkgPath := "", byteOffset := 8 }, { name := "Flags", type := 24, offset := 2, embedded := false, tag := "", pkgPath := "", byteOffset := 16 }, { name := "Text", type := 9, offset := 3, embedded := false, tag := "", pkgPath := "", byteOffset := 40 }, { name := "Part", type := 4, offset := 4, embedded := false, tag := "", pkgPath := "", byteOffset := 56 }, { name := "From", type := 22, offset := 5, embedded := false, tag := "", pkgPath := "", byteOffset := 64 }] [(0, 1), (1, 1), (2, 1), (3, 1), (4, 1), (5, 1)] := ⟨Tryz.underlying46, by kernel_rfl, by kernel_rfl⟩
end Go.Proofs.YtgllpcggdcknaaaGreatDoor.Rp
namespace Go.Proofs.YtgllpcggdcknaaaGreatDoor.Rp
open Go Go.Sl Go.RowKit
section
variable {P : Program} {L : Lcs} {N : Nat} {dst : Option Tmp} {t : TypeId} {x : Operand} {ty : TypeId} {pos : String} {af : Array Edge} {gd : Option (Nat × Bool)}
theorem s_slice_arrH {b len e m' : Nat} {hi : Operand} {kk : IntKind} {j : Nat} [hu : HU P t (.array len e)] [hs : HS P e m'] (hx : ev L x = some (.pointer (some ⟨b, 0, none⟩))) (hhi : ev L hi = some (.int kk j)) (hr : j ≤ len) : OpF P ⟨dst, .slice t x none (some hi) none, ty, pos, af, gd⟩ L (.slice (some ⟨b, 0, none⟩) j len) := by
 unfold OpF
 intro ρ w hf
 have e1 : (⟨b, 0, none⟩ : Addr).add (0 * m') = ⟨b, 0, none⟩ := by simp [Addr.add]
 have e2 : ¬ max (j : Int) 0 < 0 := by omega
 simp [execOp, Instr.sliceAt, Instr.sureAddr, Instr.sliceBounds, Instr.sliceBound, asIntOf, hf _ _ hx, hf _ _ hhi, run_underlying hu.h, hs.h, Addr.add, hr]
end
abbrev encB : UInt8 → Value := fun b => Value.int .u8 (b.toNat : Int)
theorem fb10_ct (u b : Nat) (h1 : 1 ≤ u) (hu : u < 18446744073709551616) : Ct Tryz.prog 114 [.slice (some ⟨b, 0, none⟩) (Lib.nDigits u) 24, .int .u64 (u : Nat)] (fun _ => True) [.blk b (.cells (Array.replicate 24 (.int .u8 0)) 118)]
  (fun v A => v = .tuple #[] ∧ ∃ cs : Array Value, (∀ (j : Nat) (hj : j < (digS u).length), cs[j]? = some (.int .u8 ((digS u)[j].toNat : Nat))) ∧ A = [.blk b (.cells cs 118)]) := by
 intro w bs hsat hnd _
 obtain ⟨b1, b2, rfl, ⟨rfl, hb⟩, rfl⟩ := hsat
 have hb' : w.heap[b]? = some (.cells (Array.replicate 24 (.int .u8 0)) 118) := hb
 have hl24 : Lib.nDigits u ≤ 24 := by
  have := digS_len64 (n := u) (by omega)
  rw [← dec_dig, Lib.decDigits_length] at this
  omega
 have hH : Sort.Holds encB w b 0 (Array.replicate (Lib.nDigits u) (0 : UInt8)) := fun j hj => by
  have hj' : j < Lib.nDigits u := by simpa using hj
  constructor
  ·simp [World.cell?, hb', getElem!_pos, hj', show j < 24 by omega]
  ·simp [World.frozen?, hb']
 have hs : (Array.replicate (Lib.nDigits u) (0 : UInt8)).size = Lib.nDigits u := by simp
 have hu10 : u < 10 ^ (Array.replicate (Lib.nDigits u) (0 : UInt8)).size := by
  rw [hs]
  exact Lib.lt_pow_nDigits u
 have hc := Tryz.internal_strconv_formatBase10 b 0 24 u (Array.replicate (Lib.nDigits u) (0 : UInt8)) w hH hu10 hu (by rw [hs]; omega)
 rw [hs] at hc
 refine hc.mono ?_
 rintro e w' ⟨rfl, n, v', dk, rfl, hI⟩
 have hh : ((Sort.putRow encB w b 0 dk).drewN n).heap[b]? = some (.cells (Sort.putCells encB 0 dk (Array.replicate 24 (.int .u8 0))) 118) := by
  show (Sort.mapBlock w b _).heap[b]? = _
  unfold Sort.mapBlock
  simp [Array.getElem?_modify, hb', Sort.onCells]
 refine ⟨.tuple #[], [.blk b (.cells (Sort.putCells encB 0 dk (Array.replicate 24 (.int .u8 0))) 118)], rfl, ⟨rfl, _, fun j hj => ?_, rfl⟩, rfl, rfl, rfl, fun b' o hbo => ?_, [b], ⟨[b], [], rfl, ⟨rfl, hh⟩, rfl⟩, by simp, fun b' hb2 => ?_⟩
 ·have hj2 : j < (Lib.decDigits u).length := by rw [dec_dig]; exact hj
  have hj3 : j < Lib.nDigits u := by rw [Lib.decDigits_length] at hj2; exact hj2
  have hr := Lib.row_is_numeral hI j hj2
  have he : (digS u)[j] = (Lib.decDigits u)[j] := by congr 1; exact (dec_dig u).symm
  rw [he, hr]
  have hsz := hI.size
  simp [Sort.putCells, show j < 24 by omega, show j < dk.size by omega]
 ·have hne : b' ≠ b := by
   rintro rfl
   simp [snapBut, hpBut] at hbo
  have h2 : w.heap[b']? = some o := hpBut_le w _ b' o hbo
  show (Sort.mapBlock w b _).heap[b']? = _
  unfold Sort.mapBlock
  rw [Array.getElem?_modify, if_neg (fun h => hne h.symm)]
  exact h2
 ·simp at hb2
  subst hb2
  simp [snapBut, hpBut]
theorem bytes_at {l : Bs} {cs : Array Value} (h : ∀ (j : Nat) (hj : j < l.length), cs[j]? = some (.int .u8 (l[j].toNat : Nat))) : ∀ (j : Nat) (u : Value), (bytesV l)[j]? = some u → cs[j]? = some u := fun j u hu => by
 obtain ⟨hj, rfl⟩ := List.getElem?_eq_some_iff.1 hu
 have hj2 : j < l.length := by simpa [bytesV] using hj
 rw [h j hj2]
 simp [bytesV]
theorem FormatUint_ct (n : Nat) (h : n < 18446744073709551616) : Pu Tryz.prog 98 [.int .u64 (n : Nat), .int .i64 10] Gl (B (digS n)) := by
 refine ct_enter 32 Tryz.func98 rfl rfl rfl ?_
 intro F hg
 repeat refine x_ ?_
 refine a_ ?_
 repeat refine x_ ?_
 refine m_ ?_
 refine f_ (s_eql rfl rfl) ?_
 repeat refine x_ ?_
 refine m_ ?_
 refine f_ ((s_lss rfl rfl).eq (v' := .bool (decide (n < 100))) (congrArg Value.bool (decide_eq_decide.mpr (by omega)))) ?_
 repeat refine n_ ?_
 refine g_cond rfl (fun h1 => ?_) (fun h1 => ?_)
 ·have h2 := of_decide_eq_true h1
  repeat refine x_ ?_
  refine m_ ?_
  refine f_ (s_conv_keep_i64 rfl (by omega)) ?_
  refine gl_callp rfl (small_ct n h2) (fun _ _ _ => trivial) rfl ?_
  refine a_ ?_
  repeat refine n_ ?_
  refine g_ret ?_
  exact at_end1 rfl rfl [] ⟨rfl, rfl⟩ (fun _ h => h)
 ·have h2 := of_decide_eq_false h1
  have hdl : (digS n).length = Lib.nDigits n := by rw [← dec_dig, Lib.decDigits_length]
  have hd20 := digS_len64 (n := n) (by omega)
  repeat refine x_ ?_
  refine gl_allocA rfl ?_; intro g5
  repeat refine x_ ?_
  refine m_ ?_
  refine gl_callp rfl (numDigits_ct n (by omega) h) (fun h hh hb => hg.le hh) rfl ?_
  refine a_ ?_
  repeat refine x_ ?_
  refine m_ ?_
  refine f_ (s_slice_arrH rfl rfl (by omega)) ?_
  refine m_ ?_
  refine gl_call _ rfl (fb10_ct n g5 (by omega) h) i_ (fun _ _ _ => trivial) rfl ?_; rintro v A ⟨rfl, cs, hcs, rfl⟩
  repeat refine x_ ?_
  refine m_ ?_
  refine f_ (s_slice_arrH rfl rfl (by omega)) ?_
  refine r_ (s_string (l := digS n) rfl (by omega) (fun w hw => hw.rdBlk z_3 _ (bytes_at hcs))) ?_
  refine a_ ?_
  repeat refine n_ ?_
  refine g_ret ?_
  exact at_end1 rfl rfl [] ⟨rfl, rfl⟩ (fun _ h => h.dropAll)
theorem sFormatUint_ct (n : Nat) (h : n < 18446744073709551616) : Pu Tryz.prog 67 [.int .u64 (n : Nat), .int .i64 10] Gl (B (digS n)) := by
 refine ct_enter 8 Tryz.func67 rfl rfl rfl ?_
 intro F hg
 repeat refine x_ ?_
 refine a_ ?_
 repeat refine x_ ?_
 refine m_ ?_
 refine m_ ?_
 refine gl_callp rfl (FormatUint_ct n h) (fun h hh hb => hg.le hh) rfl ?_
 refine a_ ?_
 repeat refine n_ ?_
 refine g_ret ?_
 exact at_end1 rfl rfl [] ⟨rfl, rfl⟩ (fun _ h => h)
theorem Digits_ct (n : Nat) (h : n < 18446744073709551616) : Pu Tryz.prog 30 [.int .u64 (n : Nat)] Gl (B (digS n)) := by
 refine ct_enter 5 Tryz.func30 rfl rfl rfl ?_
 intro F hg
 repeat refine x_ ?_
 refine a_ ?_
 repeat refine x_ ?_
 refine m_ ?_
 refine gl_callp rfl (sFormatUint_ct n h) (fun h hh hb => hg.le hh) rfl ?_
 refine a_ ?_
 repeat refine n_ ?_
 refine g_ret ?_
 exact at_end1 rfl rfl [] ⟨rfl, rfl⟩ (fun _ h => h)
end Go.Proofs.YtgllpcggdcknaaaGreatDoor.Rp
namespace Go.Proofs.YtgllpcggdcknaaaGreatDoor.Rp
open Go Go.Sl Go.RowKit
theorem lower_ct (c : Int) : Pu Tryz.prog 140 [.int .u8 c] (fun _ => True) (.int .u8 (bits .or .u8 c 32)) := pu_same fun w _ => Tryz.internal_strconv_lower c w
theorem valK_ge : ∀ (t : Bs) (a : Nat), a ≤ valK a t
 | [], a => by rw [valK_nil]; exact Nat.le_refl _
 | c :: t, a => by
  rw [valK_cons]
  have := valK_ge t (stepV a c)
  unfold stepV at this ⊢
  omega
theorem val_mono (s : Bs) (k : Nat) : valK 0 (s.take k) ≤ valK 0 s := by
 have : valK 0 s = valK (valK 0 (s.take k)) (s.drop k) := by rw [← valK_append, List.take_append_drop]
 rw [this]
 exact valK_ge _ _
theorem num_great {s : Bs} {k : Nat} (h : great < valK 0 (s.take k)) : numS s = none := by
 have := val_mono s k
 unfold numS
 exact if_neg fun hh => by omega
structure IsNum (s : Bs) : Prop where
 ne : s ≠ []
 dig : ∀ j, j < s.length → isDig (s.getD j 0) = true
 le : valK 0 s ≤ great
def UP (s : Bs) (v : Value) (A : List As) : Prop := A = [] ∧ ((v = .tuple #[.int .u64 (valK 0 s : Nat), .nilIface] ∧ IsNum s) ∨ ∃ (n k : Int), v = .tuple #[.int .u64 n, .iface 144 (.int .i64 k)] ∧ (k = 1 ∨ k = 2) ∧ numS s = none)
theorem bytesV_len (l : Bs) : (bytesV l).length = l.length := by simp [bytesV]
theorem rdC_own {F : Snap} {w : World} {H H' : List As} {ys : List As} {a : Option Addr} {n c : Nat} {te : TypeId} {l : Bs} (hw : Hp F w H) (u : Upd H (.own (.slice a n c) te 1 (bytesV l)) ys H') {q i : Nat} (h : q = i) (hi : i < l.length) : PeekC (hp w) (addO a q) [U8 (l.getD i 0)] :=
 peek_own hw u z_7 (fun j u hu => by
  match j, hu with
  | 0, hu =>
   simp at hu; subst hu h
   simp [bytesV, hi])
set_option maxRecDepth 8000 in
set_option maxHeartbeats 1000000 in
theorem ParseUintI_ct (s : Bs) (hs : s.length ≤ 9223372036854775806) : Ct Tryz.prog 122 [B s, .int .i64 10, .int .i64 63] (fun _ => True) [] (UP s) := by
 refine ct_enter 172 Tryz.func122 rfl rfl rfl ?_
 intro F _
 repeat refine x_ ?_
 refine a_ ?_
 refine a_ ?_
 repeat refine x_ ?_
 refine m_ ?_
 refine f_ ((s_eql_str rfl rfl).eq (v' := .bool (decide (s = []))) rfl) ?_
 repeat refine n_ ?_
 refine g_cond rfl (fun h => ?_) (fun h => ?_)
 ·have h0 := of_decide_eq_true h
  repeat refine x_ ?_
  refine f_ (s_makeIface z_7 rfl) ?_
  refine a_ ?_
  refine a_ ?_
  repeat refine n_ ?_
  refine g_ret ?_
  exact at_end2 rfl rfl rfl [] ⟨rfl, .inr ⟨0, 2, rfl, .inr rfl, by rw [h0]; exact numS_nil⟩⟩ (fun w hw => hw.dropAll)
 have hne := of_decide_eq_false h
 repeat refine x_ ?_
 refine m_ ?_
 refine f_ (s_eql rfl rfl) ?_
 refine a_ ?_
 repeat refine x_ ?_
 refine m_ ?_
 refine a_ ?_
 repeat refine x_ ?_
 refine m_ ?_
 refine f_ (s_leq rfl rfl) ?_
 refine m_ ?_
 (refine v_ ?_; refine m_ ?_)
 (refine v_ ?_; refine f_ (s_leq rfl rfl) ?_)
 refine f_ z_9 ?_
 refine a_ ?_
 repeat refine x_ ?_
 refine m_ ?_
 refine f_ (s_eql rfl rfl) ?_
 repeat refine x_ ?_
 refine m_ ?_
 refine f_ (s_lss rfl rfl) ?_
 refine m_ ?_
 (refine v_ ?_; refine m_ ?_)
 (refine v_ ?_; refine f_ (s_gtr rfl rfl) ?_)
 refine f_ (by exact s_pick_f rfl rfl) ?_
 repeat refine x_ ?_
 refine a_ ?_
 repeat refine x_ ?_
 refine m_ ?_
 repeat refine x_ ?_
 refine f_ (s_eql rfl rfl) ?_
 refine a_ ?_
 repeat refine x_ ?_
 refine a_ ?_
 repeat refine x_ ?_
 refine m_ ?_
 refine f_ (s_conv_keep_u64 rfl (by omega)) ?_
 refine f_ ((s_shl rfl rfl (by omega)).eq (v' := .int .u64 9223372036854775808) (by congr 1)) ?_
 refine f_ (s_sub_u64 rfl rfl (by omega)) ?_
 refine a_ ?_
 repeat refine x_ ?_
 refine a_ ?_
 repeat refine x_ ?_
 refine a_ ?_
 repeat refine x_ ?_
 refine m_ ?_
 refine gl_bytes rfl rfl ?_; intro a99 c99 hc99
 refine f_ (s_len_sl rfl) ?_
 refine m_ ?_
 repeat refine n_ ?_
 refine g_loop (ι := Nat) (fun k => k ≤ s.length ∧ (∀ j, j < k → isDig (s.getD j 0) = true) ∧ valK 0 (s.take k) ≤ great) (fun k => [(0, B s), (1, .int .i64 10), (8, .bool false), (10, .int .u64 1844674407370955162), (11, .int .u64 9223372036854775807), (12, .bool false), (13, .int .u64 (valK 0 (s.take k) : Nat)), (99, .slice a99 s.length c99), (100, .int .i64 (s.length : Nat)), (101, .int .i64 (k : Nat))]) (fun _ => [.own (.slice a99 s.length c99) 5 1 (bytesV s)]) (fun k => s.length - k) 0 ⟨by omega, fun j h => by omega, by simp [valK_nil]⟩ ?_ ?_ ?_
 ·(repeat (first | exact Sub.nil _ | refine Sub.cons rfl ?_))
 ·intro w hw; exact hw
 rintro k ⟨hk, hdg, hle⟩
 repeat refine x_ ?_
 refine f_ (s_lss rfl rfl) ?_
 repeat refine n_ ?_
 refine g_cond rfl (fun h => ?_) (fun h => ?_)
 ·have hk' : k < s.length := by simp at h; omega
  obtain ⟨c, hc⟩ : ∃ c, c = s.getD k 0 := ⟨_, rfl⟩
  have hc255 : c.toNat < 256 := c.toNat_lt
  have hsome : ∃ ad, a99 = some ad ∨ True := ⟨⟨0, 0, none⟩, .inr trivial⟩
  repeat refine x_ ?_
  refine r_ (s_indexAddr_own rfl z_3 rfl (by omega)) ?_
  refine r_ ((s_load1 rfl (fun w hw => rdC_own hw z_3 (i := k) (by omega) hk')).eq (v' := U8 c) (by rw [hc])) ?_
  refine a_ ?_
  repeat refine x_ ?_
  refine a_ ?_
  repeat refine n_ ?_
  obtain ⟨u0, hu0⟩ : ∃ b, b = decide ((c.toNat : Int) = 95) := ⟨_, rfl⟩
  repeat refine y_ ?_
  refine g_cutK [(0, B s), (1, .int .i64 10), (8, .bool false), (10, .int .u64 1844674407370955162), (11, .int .u64 9223372036854775807), (12, .bool false), (13, .int .u64 (valK 0 (s.take k) : Nat)), (15, U8 c), (99, .slice a99 s.length c99), (100, .int .i64 (s.length : Nat)), (101, .int .i64 (k : Nat)), (106, .bool false)] [.own (.slice a99 s.length c99) 5 1 (bytesV s)] ?_ ?_
  ·cases u0
   all_goals (
    repeat refine x_ ?_
    refine m_ ?_
    refine f_ ((s_eql rfl rfl).eb hu0) ?_
    refine m_ ?_
    (first | refine gl_guard_no rfl rfl rfl rfl rfl rfl rfl ?_ | (refine v_ ?_; refine m_ ?_))
    refine f_ z_4 ?_
    refine a_ ?_
    refine gl_nil ?_
    repeat refine y_ ?_)
   all_goals exact at_cut j_ i_
  repeat refine y_ ?_
  obtain ⟨d1, hd1⟩ : ∃ b, b = decide ((48 : Int) ≤ c.toNat) := ⟨_, rfl⟩
  obtain ⟨d2, hd2⟩ : ∃ b, b = decide ((c.toNat : Int) ≤ 57) := ⟨_, rfl⟩
  have hdd : isDig c = (d1 && d2) := by
   unfold isDig
   rw [hd1, hd2]
   congr 1
   ·exact decide_eq_decide.mpr (by omega)
   ·exact decide_eq_decide.mpr (by omega)
  refine g_cutK [(0, B s), (1, .int .i64 10), (8, .bool false), (10, .int .u64 1844674407370955162), (11, .int .u64 9223372036854775807), (12, .bool false), (13, .int .u64 (valK 0 (s.take k) : Nat)), (15, U8 c), (99, .slice a99 s.length c99), (100, .int .i64 (s.length : Nat)), (101, .int .i64 (k : Nat)), (112, .bool (d1 && d2))] [.own (.slice a99 s.length c99) 5 1 (bytesV s)] ?_ ?_
  ·cases d1
   all_goals (
    repeat refine x_ ?_
    refine m_ ?_
    refine f_ ((s_leq rfl rfl).eb hd1) ?_
    refine m_ ?_
    (first | refine gl_guard_no rfl rfl rfl rfl rfl rfl rfl ?_ | (refine v_ ?_; refine m_ ?_))
    (first | refine gl_guard_no rfl rfl rfl rfl rfl rfl rfl ?_ | (refine v_ ?_; refine f_ ((s_leq rfl rfl).eb hd2) ?_))
    refine f_ z_4 ?_
    refine a_ ?_
    refine gl_nil ?_
    repeat refine y_ ?_)
   all_goals exact at_cut j_ i_
  repeat refine y_ ?_
  refine g_cond rfl (fun h2 => ?_) (fun h2 => ?_)
  ·have hdc : isDig c = true := hdd.trans h2
   have hdc2 : 48 ≤ c.toNat ∧ c.toNat ≤ 57 := by
    unfold isDig at hdc
    simp only [Bool.and_eq_true, decide_eq_true_eq] at hdc
    exact hdc
   have hdk : ∀ j, j < k + 1 → isDig (s.getD j 0) = true := fun j hj => by
    rcases Nat.lt_succ_iff_lt_or_eq.1 hj with h4 | rfl
    ·exact hdg j h4
    ·rw [← hc]; exact hdc
   have hvt := val_take hk'
   rw [← hc] at hvt
   obtain ⟨n, hn⟩ : ∃ n, n = valK 0 (s.take k) := ⟨_, rfl⟩
   rw [← hn] at hvt hle ⊢
   unfold great at hle
   repeat refine x_ ?_
   refine m_ ?_
   refine f_ ((s_sub_in rfl rfl (z := ((c.toNat - 48 : Nat) : Int)) (by rw [IntKind.wrap_u8]; omega))) ?_
   refine a_ ?_
   repeat refine x_ ?_
   refine m_ ?_
   refine m_ ?_
   refine f_ (s_conv_keep_u8 rfl (by omega)) ?_
   refine f_ ((s_geq rfl rfl).eq (v' := .bool false) (congrArg Value.bool (decide_eq_false (by omega)))) ?_
   repeat refine x_ ?_
   refine m_ ?_
   refine m_ ?_
   refine f_ ((s_geq rfl rfl).eq (v' := .bool (decide (1844674407370955162 ≤ n))) (congrArg Value.bool (decide_eq_decide.mpr (by omega)))) ?_
   repeat refine n_ ?_
   refine g_cond rfl (fun h3 => ?_) (fun h3 => ?_)
   ·have h4 := of_decide_eq_true h3
    have hnone : numS s = none := num_great (k := k + 1) (by rw [hvt]; unfold great; omega)
    repeat refine x_ ?_
    refine m_ ?_
    refine f_ (s_makeIface z_7 rfl) ?_
    refine a_ ?_
    refine a_ ?_
    repeat refine n_ ?_
    refine g_ret ?_
    exact at_end2 rfl rfl rfl [] ⟨rfl, .inr ⟨9223372036854775807, 1, rfl, .inl rfl, hnone⟩⟩ (fun w hw => hw.dropAll)
   have h4 := of_decide_eq_false h3
   obtain ⟨z, hz⟩ : ∃ z : Nat, z = (n * 10 + (c.toNat - 48)) % 18446744073709551616 := ⟨_, rfl⟩
   repeat refine x_ ?_
   refine m_ ?_
   refine m_ ?_
   refine f_ (s_conv_keep_u64 rfl (by omega)) ?_
   refine f_ ((s_mul_u64 rfl rfl (by omega)).eq (v' := .int .u64 ((n * 10 : Nat) : Int)) (by congr 1)) ?_
   refine a_ ?_
   repeat refine x_ ?_
   refine m_ ?_
   refine m_ ?_
   refine f_ (s_conv_keep_u64 rfl (by omega)) ?_
   refine f_ ((s_add_in rfl rfl (z := ((z : Nat) : Int)) (by rw [IntKind.wrap_u64]; omega))) ?_
   refine a_ ?_
   repeat refine n_ ?_
   obtain ⟨e1, he1⟩ : ∃ b, b = decide ((z : Int) < ((n * 10 : Nat) : Int)) := ⟨_, rfl⟩
   obtain ⟨e2, he2⟩ : ∃ b, b = decide ((z : Int) > 9223372036854775807) := ⟨_, rfl⟩
   have hee : (e1 || e2) = true ↔ 9223372036854775807 < n * 10 + (c.toNat - 48) := by
    rw [Bool.or_eq_true, he1, he2, decide_eq_true_eq, decide_eq_true_eq]
    omega
   repeat refine y_ ?_
   refine g_cutK [(0, B s), (1, .int .i64 10), (8, .bool false), (10, .int .u64 1844674407370955162), (11, .int .u64 9223372036854775807), (12, .bool false), (17, .int .u64 (z : Nat)), (99, .slice a99 s.length c99), (100, .int .i64 (s.length : Nat)), (101, .int .i64 (k : Nat)), (159, .bool (e1 || e2))] [.own (.slice a99 s.length c99) 5 1 (bytesV s)] ?_ ?_
   ·cases e1
    all_goals (
     repeat refine x_ ?_
     refine m_ ?_
     refine m_ ?_
     refine f_ ((s_lss rfl rfl).eb he1) ?_
     refine m_ ?_
     (first | refine gl_guard_no rfl rfl rfl rfl rfl rfl rfl ?_ | (refine v_ ?_; refine m_ ?_))
     (first | refine gl_guard_no rfl rfl rfl rfl rfl rfl rfl ?_ | (refine v_ ?_; refine m_ ?_))
     (first | refine gl_guard_no rfl rfl rfl rfl rfl rfl rfl ?_ | (refine v_ ?_; refine f_ ((s_gtr rfl rfl).eb he2) ?_))
     refine f_ z_4 ?_
     refine gl_nil ?_
     repeat refine y_ ?_)
    all_goals exact at_cut j_ i_
   repeat refine y_ ?_
   refine g_cond rfl (fun h5 => ?_) (fun h5 => ?_)
   ·have h6 := hee.1 h5
    have hnone : numS s = none := num_great (k := k + 1) (by rw [hvt]; unfold great; omega)
    repeat refine x_ ?_
    refine m_ ?_
    refine f_ (s_makeIface z_7 rfl) ?_
    refine a_ ?_
    refine a_ ?_
    repeat refine n_ ?_
    refine g_ret ?_
    exact at_end2 rfl rfl rfl [] ⟨rfl, .inr ⟨9223372036854775807, 1, rfl, .inl rfl, hnone⟩⟩ (fun w hw => hw.dropAll)
   ·have h6 : ¬9223372036854775807 < n * 10 + (c.toNat - 48) := fun x => by rw [hee.2 x] at h5; cases h5
    have hzv : z = valK 0 (s.take (k + 1)) := by rw [hvt, hz]; omega
    repeat refine x_ ?_
    refine m_ ?_
    refine a_ ?_
    repeat refine x_ ?_
    refine f_ (s_add_i64 rfl rfl (by omega)) ?_
    refine m_ ?_
    repeat refine n_ ?_
    refine at_next (k + 1) ⟨by omega, hdk, by rw [← hzv, hz]; unfold great; omega⟩ (by omega) ?_ ?_
    ·rw [← hzv]
     (repeat (first | exact Sub.nil _ | refine Sub.cons rfl ?_))
    ·intro w hw; exact hw
  ·have hdc : isDig c = false := hdd.trans h2
   have hnone : numS s = none := num_digit hk' (by rw [← hc]; exact hdc)
   obtain ⟨m, hm⟩ : ∃ m, m = bits .or .u8 (c.toNat : Nat) 32 := ⟨_, rfl⟩
   obtain ⟨l1, hl1⟩ : ∃ b, b = decide ((97 : Int) ≤ m) := ⟨_, rfl⟩
   obtain ⟨l2, hl2⟩ : ∃ b, b = decide (m ≤ 122) := ⟨_, rfl⟩
   have hlw := lower_ct (c.toNat : Nat)
   rw [← hm] at hlw
   repeat refine y_ ?_
   refine g_cutK [(0, B s), (1, .int .i64 10), (15, U8 c), (101, .int .i64 (k : Nat)), (121, .bool (l1 && l2))] [.own (.slice a99 s.length c99) 5 1 (bytesV s)] ?_ ?_
   ·cases l1
    all_goals (
     repeat refine x_ ?_
     refine m_ ?_
     refine gl_callp rfl hlw (fun _ _ _ => trivial) rfl ?_
     refine f_ ((s_leq rfl rfl).eb hl1) ?_
     refine m_ ?_
     (first | refine gl_guard_no rfl rfl rfl rfl rfl rfl rfl ?_ | (refine v_ ?_; refine m_ ?_))
     (first | refine gl_guard_no rfl rfl rfl rfl rfl rfl rfl ?_ | (refine v_ ?_; refine gl_callp rfl hlw (fun _ _ _ => trivial) rfl ?_))
     (first | refine gl_guard_no rfl rfl rfl rfl rfl rfl rfl ?_ | (refine v_ ?_; refine f_ ((s_leq rfl rfl).eb hl2) ?_))
     refine f_ z_4 ?_
     refine a_ ?_
     refine gl_nil ?_
     repeat refine y_ ?_)
    all_goals exact at_cut j_ i_
   repeat refine y_ ?_
   refine g_cond rfl (fun h3 => ?_) (fun h3 => ?_)
   ·have hm2 : 97 ≤ m ∧ m ≤ 122 := by
     simp only [Bool.and_eq_true] at h3
     exact ⟨of_decide_eq_true (hl1.symm.trans h3.1), of_decide_eq_true (hl2.symm.trans h3.2)⟩
    repeat refine x_ ?_
    refine m_ ?_
    refine gl_callp rfl hlw (fun _ _ _ => trivial) rfl ?_
    refine f_ ((s_sub_in rfl rfl (z := m - 97) (by rw [IntKind.wrap_u8]; omega))) ?_
    refine f_ ((s_add_in rfl rfl (z := m - 97 + 10) (by rw [IntKind.wrap_u8]; omega))) ?_
    refine a_ ?_
    repeat refine x_ ?_
    refine m_ ?_
    refine m_ ?_
    refine f_ (s_conv_keep_u8 rfl (by omega)) ?_
    refine f_ ((s_geq rfl rfl).eq (v' := .bool true) (congrArg Value.bool (decide_eq_true (by omega)))) ?_
    repeat refine x_ ?_
    refine f_ (s_makeIface z_7 rfl) ?_
    refine a_ ?_
    refine a_ ?_
    repeat refine n_ ?_
    refine g_ret ?_
    exact at_end2 rfl rfl rfl [] ⟨rfl, .inr ⟨0, 2, rfl, .inr rfl, hnone⟩⟩ (fun w hw => hw.dropAll)
   ·repeat refine y_ ?_
    repeat refine x_ ?_
    refine f_ (s_makeIface z_7 rfl) ?_
    refine a_ ?_
    refine a_ ?_
    repeat refine n_ ?_
    refine g_ret ?_
    exact at_end2 rfl rfl rfl [] ⟨rfl, .inr ⟨0, 2, rfl, .inr rfl, hnone⟩⟩ (fun w hw => hw.dropAll)
 ·have hkl : k = s.length := by simp at h; omega
  subst hkl
  rw [List.take_length] at hle
  rw [List.take_length]
  repeat refine x_ ?_
  refine m_ ?_
  refine m_ ?_
  (refine gl_guard_no rfl rfl rfl rfl rfl rfl rfl ?_)
  (refine gl_guard_no rfl rfl rfl rfl rfl rfl rfl ?_)
  (refine gl_guard_no rfl rfl rfl rfl rfl rfl rfl ?_)
  refine f_ (by exact s_pick_f rfl rfl) ?_
  repeat refine x_ ?_
  refine m_ ?_
  refine a_ ?_
  refine a_ ?_
  repeat refine n_ ?_
  refine g_ret ?_
  exact at_end2 rfl rfl rfl [] ⟨rfl, .inl ⟨rfl, hne, hdg, hle⟩⟩ (fun w hw => hw.dropAll)
end Go.Proofs.YtgllpcggdcknaaaGreatDoor.Rp
namespace Go.Proofs.YtgllpcggdcknaaaGreatDoor.Rp
open Go Go.Sl Go.RowKit
section
variable {P : Program} {L : Lcs} {dst : Option Tmp} {t t' : TypeId} {x y : Operand} {ty : TypeId} {pos : String} {af : Array Edge} {gd : Option (Nat × Bool)}
theorem s_neq_ifnil {ms : Array (String × TypeId)} {u : TypeId} {v : Value} [hu : HU P t (.interface ms)] (hx : ev L x = some (.iface u v)) (hy : ev L y = some .nilIface) : OpF P ⟨dst, .binOp .neq t x y t', ty, pos, af, gd⟩ L (.bool true) := by
 have hm : P.underlying t = some (.interface (P.methodsAt t)) := by unfold Program.methodsAt; rw [hu.h]
 exact s_bin hx hy (fun w => by
  rw [eqGuard_at_iface]
  exact run_neq_held_nil w t u v hm)
theorem s_neq_nilnil {ms : Array (String × TypeId)} {c : Value} [hu : HU P t (.interface ms)] (hx : ev L x = some .nilIface) (hy : ev L (.const c) = some .nilIface) : OpF P ⟨dst, .binOp .neq t x (.const c) t', ty, pos, af, gd⟩ L (.bool false) := by
 have hm : P.underlying t = some (.interface (P.methodsAt t)) := by unfold Program.methodsAt; rw [hu.h]
 exact s_bin hx hy (fun w => by
  rw [eqGuard_nil_constR]
  exact run_neq_nil_nil w t hm)
end
theorem cell0 {w : World} {b : Nat} {v : Value} {t : TypeId} {fr : Nat × Nat} (h : hp w b = some (.cells #[v] t fr)) : w.cell? ⟨b, 0, none⟩ = some v := by
 have h' : w.heap[b]? = some (.cells #[v] t fr) := h
 simp [World.cell?, h']
def ErrP (v : Value) (A : List As) : Prop := A = [] ∧ ∃ N : Nat, v = .iface 146 (.pointer (some ⟨N, 0, none⟩))
theorem ct_below {P : Program} {f : FuncId} {args : List Value} {Pre : Heap → Prop} {Q : Value → Prop}
  (h : ∀ w, Pre (hp w) → Calls P f args.toArray w fun e w' => ∃ v, e = .returned v ∧ Q v ∧ Below w.heap.size w w') : Ct P f args Pre [] (fun v A => A = [] ∧ Q v) := by
 intro w bs hsat hnd hpre
 have hb : bs = [] := hsat
 subst hb
 rw [hpBut_nil] at hpre
 refine (h w hpre).mono ?_
 rintro e w' ⟨v, rfl, hq, hbel⟩
 refine ⟨v, [], rfl, ⟨rfl, hq⟩, hbel.os, hbel.tape, hbel.output, fun b o hbo => ?_, [], rfl, List.nodup_nil, by simp⟩
 have h3 : w.heap[b]? = some o := hpBut_le w [] b o hbo
 have h4 : b < w.heap.size := (Array.getElem?_eq_some_iff.1 h3).1
 show w'.heap[b]? = _
 rw [hbel.block b h4]; exact h3
theorem toError_ct (fn s : Bs) (base bits k : Int) (hs : s.length ≤ 281474976710656) (hk : k = 1 ∨ k = 2) : Ct Tryz.prog 123 [B fn, B s, .int .i64 base, .int .i64 bits, .iface 144 (.int .i64 k)] Gl [] ErrP := by
 refine ct_below fun w hg => ?_
 rcases hk with rfl | rfl
 ·obtain ⟨e, t, fr, h3, he⟩ := hg.rng
  refine (Tryz.strconv_toError_range ⟨fn.toArray⟩ ⟨s.toArray⟩ base bits e w (by simpa [ByteArray.size] using hs) (cell0 h3) he).mono ?_
  rintro e w' ⟨N, rfl, _, _, hb⟩
  exact ⟨_, rfl, ⟨N, rfl⟩, hb⟩
 ·obtain ⟨e, t, fr, h3, he⟩ := hg.syn
  refine (Tryz.strconv_toError_syntax ⟨fn.toArray⟩ ⟨s.toArray⟩ base bits e w (by simpa [ByteArray.size] using hs) (cell0 h3) he).mono ?_
  rintro e w' ⟨N, rfl, _, _, hb⟩
  exact ⟨_, rfl, ⟨N, rfl⟩, hb⟩
def UP2 (s : Bs) (v : Value) (A : List As) : Prop := A = [] ∧ ((v = .tuple #[.int .u64 (valK 0 s : Nat), .nilIface] ∧ IsNum s) ∨ ∃ (n : Int) (N : Nat), v = .tuple #[.int .u64 n, .iface 146 (.pointer (some ⟨N, 0, none⟩))] ∧ numS s = none)
theorem ParseUint_ct (s : Bs) (hs : s.length ≤ 281474976710656) : Ct Tryz.prog 110 [B s, .int .i64 10, .int .i64 63] Gl [] (UP2 s) := by
 refine ct_enter 26 Tryz.func110 rfl rfl rfl ?_
 intro F hg
 repeat refine x_ ?_
 refine a_ ?_
 refine a_ ?_
 repeat refine x_ ?_
 refine m_ ?_
 refine m_ ?_
 refine m_ ?_
 refine gl_call _ rfl (ParseUintI_ct s (by omega)) i_ (fun _ _ _ => trivial) rfl ?_
 rintro v A ⟨rfl, ⟨rfl, hnum⟩ | ⟨n, k, rfl, hk, hnone⟩⟩
 ·skip
  refine m_ ?_
  refine f_ (s_extract rfl rfl) ?_
  refine f_ (s_extract rfl rfl) ?_
  refine a_ ?_
  refine a_ ?_
  repeat refine x_ ?_
  refine m_ ?_
  refine f_ (s_neq_nilnil rfl rfl) ?_
  repeat refine x_ ?_
  refine m_ ?_
  refine a_ ?_
  refine a_ ?_
  repeat refine n_ ?_
  refine g_ret ?_
  exact at_end2 rfl rfl rfl [] ⟨rfl, .inl ⟨rfl, hnum⟩⟩ i_
 ·skip
  refine m_ ?_
  refine f_ (s_extract rfl rfl) ?_
  refine f_ (s_extract rfl rfl) ?_
  refine a_ ?_
  refine a_ ?_
  repeat refine x_ ?_
  refine m_ ?_
  refine f_ (s_neq_ifnil rfl rfl) ?_
  repeat refine x_ ?_
  refine m_ ?_
  refine m_ ?_
  refine m_ ?_
  refine m_ ?_
  refine m_ ?_
  refine gl_call _ rfl (toError_ct _ s 10 63 k hs hk) i_ (fun h hh hb => hg.le hh) rfl ?_; rintro v A ⟨rfl, N, rfl⟩
  refine a_ ?_
  refine a_ ?_
  repeat refine n_ ?_
  refine g_ret ?_
  exact at_end2 rfl rfl rfl [] ⟨rfl, .inr ⟨n, N, rfl, hnone⟩⟩ i_
theorem numS_of {s : Bs} (h : IsNum s) : numS s = if digS (valK 0 s) = s then some (valK 0 s) else none := by
 unfold numS
 by_cases h1 : digS (valK 0 s) = s
 ·rw [if_pos ⟨h1, h.le⟩, if_pos h1]
 ·rw [if_neg (fun x => h1 x.1), if_neg h1]
theorem NumberW_ct (s : Bs) (hs : s.length ≤ 281474976710656) : Pu Tryz.prog 91 [B s] Gl (numV (numS s)) := by
 refine ct_enter 20 Tryz.func91 rfl rfl rfl ?_
 intro F hg
 repeat refine x_ ?_
 refine a_ ?_
 refine a_ ?_
 repeat refine x_ ?_
 refine m_ ?_
 refine gl_call _ rfl (ParseUint_ct s hs) i_ (fun h hh hb => hg.le hh) rfl ?_
 rintro v A ⟨rfl, ⟨rfl, hnum⟩ | ⟨n, N, rfl, hnone⟩⟩
 ·skip
  refine m_ ?_
  refine f_ (s_extract rfl rfl) ?_
  refine f_ (s_extract rfl rfl) ?_
  refine a_ ?_
  refine a_ ?_
  refine gl_nil ?_
  rw [numS_of hnum]
  have hv : valK 0 s < 18446744073709551616 := by have := hnum.le; unfold great at this; omega
  repeat refine x_ ?_
  refine m_ ?_
  refine f_ (s_neq_nilnil rfl rfl) ?_
  refine m_ ?_
  (refine v_ ?_; refine m_ ?_)
  (refine v_ ?_; refine gl_callp rfl (Digits_ct (valK 0 s) hv) (fun h hh hb => hg.le hh) rfl ?_)
  (refine v_ ?_; refine m_ ?_)
  (refine v_ ?_; refine f_ ((s_neq_str rfl rfl).eq (v' := .bool (!decide (digS (valK 0 s) = s))) rfl) ?_)
  refine f_ (by exact s_pick_f rfl rfl) ?_
  repeat refine n_ ?_
  refine g_cond rfl (fun h => ?_) (fun h => ?_)
  ·rw [if_neg (by simpa using h)]
   repeat refine x_ ?_
   refine a_ ?_
   refine a_ ?_
   repeat refine n_ ?_
   refine g_ret ?_
   exact at_end2 rfl rfl rfl [] ⟨rfl, rfl⟩ i_
  ·rw [if_pos (by simpa using h)]
   repeat refine x_ ?_
   refine m_ ?_
   refine a_ ?_
   refine a_ ?_
   repeat refine n_ ?_
   refine g_ret ?_
   exact at_end2 rfl rfl rfl [] ⟨rfl, rfl⟩ i_
 ·skip
  refine m_ ?_
  refine f_ (s_extract rfl rfl) ?_
  refine f_ (s_extract rfl rfl) ?_
  refine a_ ?_
  refine a_ ?_
  refine gl_nil ?_
  rw [hnone]
  repeat refine x_ ?_
  refine m_ ?_
  refine f_ (s_neq_ifnil rfl rfl) ?_
  refine m_ ?_
  (refine gl_guard_no rfl rfl rfl rfl rfl rfl rfl ?_)
  (refine gl_guard_no rfl rfl rfl rfl rfl rfl rfl ?_)
  (refine gl_guard_no rfl rfl rfl rfl rfl rfl rfl ?_)
  (refine gl_guard_no rfl rfl rfl rfl rfl rfl rfl ?_)
  refine f_ z_9 ?_
  repeat refine x_ ?_
  refine a_ ?_
  refine a_ ?_
  repeat refine n_ ?_
  refine g_ret ?_
  exact at_end2 rfl rfl rfl [] ⟨rfl, rfl⟩ i_
end Go.Proofs.YtgllpcggdcknaaaGreatDoor.Rp
namespace Go.Proofs.YtgllpcggdcknaaaGreatDoor.Rp
open Go Go.Sl Go.RowKit
theorem quotableW_ct (c : UInt8) : Pu Tryz.prog 99 [U8 c] (fun _ => True) (.bool (quotable c)) := by
 obtain ⟨q1, h1⟩ : ∃ q, q = decide ((c.toNat : Int) > 0) := ⟨_, rfl⟩
 obtain ⟨q2, h2⟩ : ∃ q, q = decide ((c.toNat : Int) < 128) := ⟨_, rfl⟩
 obtain ⟨q3, h3⟩ : ∃ q, q = !decide (c = 10) := ⟨_, rfl⟩
 obtain ⟨q4, h4⟩ : ∃ q, q = !decide (c = 13) := ⟨_, rfl⟩
 have e : quotable c = (q1 && q2 && q3 && q4) := by
  rw [h1, h2, h3, h4]
  unfold quotable
  have e1 : decide (0 < c.toNat) = decide ((c.toNat : Int) > 0) := decide_eq_decide.mpr (by omega)
  have e2 : decide (c.toNat < 128) = decide ((c.toNat : Int) < 128) := decide_eq_decide.mpr (by omega)
  rw [e1, e2]
  by_cases a : c = 10 <;> by_cases b : c = 13 <;> simp [a, b]
 rw [e]
 clear e
 refine ct_enter 17 Tryz.func99 rfl rfl rfl ?_
 intro F _
 repeat refine x_ ?_
 refine a_ ?_
 repeat refine n_ ?_
 cases q1 <;> cases q2 <;> cases q3
 all_goals (
  repeat refine x_ ?_
  refine m_ ?_
  refine f_ ((s_gtr rfl rfl).eb h1) ?_
  refine m_ ?_
  (first | refine gl_guard_no rfl rfl rfl rfl rfl rfl rfl ?_ | (refine v_ ?_; refine m_ ?_))
  (first | refine gl_guard_no rfl rfl rfl rfl rfl rfl rfl ?_ | (refine v_ ?_; refine f_ ((s_lss rfl rfl).eb h2) ?_))
  refine f_ z_4 ?_
  refine m_ ?_
  (first | refine gl_guard_no rfl rfl rfl rfl rfl rfl rfl ?_ | (refine v_ ?_; refine m_ ?_))
  (first | refine gl_guard_no rfl rfl rfl rfl rfl rfl rfl ?_ | (refine v_ ?_; refine f_ ((s_neq rfl rfl).eq ((congrArg (fun b => Value.bool (!b)) (u8_eq (b := 10))).trans (congrArg Value.bool h3.symm))) ?_))
  refine f_ z_4 ?_
  refine m_ ?_
  (first | refine gl_guard_no rfl rfl rfl rfl rfl rfl rfl ?_ | (refine v_ ?_; refine m_ ?_))
  (first | refine gl_guard_no rfl rfl rfl rfl rfl rfl rfl ?_ | (refine v_ ?_; refine f_ ((s_neq rfl rfl).eq ((congrArg (fun b => Value.bool (!b)) (u8_eq (b := 13))).trans (congrArg Value.bool h4.symm))) ?_))
  refine f_ z_4 ?_
  refine a_ ?_
  refine gl_nil ?_
  repeat refine y_ ?_)
 all_goals (refine g_ret ?_; exact at_end1 rfl rfl [] ⟨rfl, rfl⟩ (fun _ h => h))
theorem idx_lt (s : Bs) (c : UInt8) : decide (Lib.indexByte s c < 0) = !s.contains c := by
 rw [indexByte_eq]
 cases s.contains c with
 | true => simp
 | false => simp
theorem atomB_ct (c : UInt8) : Pu Tryz.prog 58 [U8 c] (fun _ => True) (.bool (isAtom c)) := by
 obtain ⟨q1, h1⟩ : ∃ q, q = decide ((c.toNat : Int) > 32) := ⟨_, rfl⟩
 obtain ⟨q2, h2⟩ : ∃ q, q = decide ((c.toNat : Int) < 127) := ⟨_, rfl⟩
 obtain ⟨q3, h3⟩ : ∃ q, q = !([40, 41, 123, 37, 42, 34, 92, 93] : Bs).contains c := ⟨_, rfl⟩
 have e : isAtom c = (q1 && q2 && q3) := by
  rw [h1, h2, h3]
  unfold isAtom
  have e1 : decide (33 ≤ c.toNat) = decide ((c.toNat : Int) > 32) := decide_eq_decide.mpr (by omega)
  have e2 : decide (c.toNat ≤ 126) = decide ((c.toNat : Int) < 127) := decide_eq_decide.mpr (by omega)
  rw [e1, e2]
 rw [e]
 clear e
 refine ct_enter 14 Tryz.func58 rfl rfl rfl ?_
 intro F _
 repeat refine x_ ?_
 refine a_ ?_
 repeat refine n_ ?_
 cases q1 <;> cases q2
 all_goals (
  repeat refine x_ ?_
  refine m_ ?_
  refine f_ ((s_gtr rfl rfl).eb h1) ?_
  refine m_ ?_
  (first | refine gl_guard_no rfl rfl rfl rfl rfl rfl rfl ?_ | (refine v_ ?_; refine m_ ?_))
  (first | refine gl_guard_no rfl rfl rfl rfl rfl rfl rfl ?_ | (refine v_ ?_; refine f_ ((s_lss rfl rfl).eb h2) ?_))
  refine f_ z_4 ?_
  refine m_ ?_
  (first | refine gl_guard_no rfl rfl rfl rfl rfl rfl rfl ?_ | (refine v_ ?_; refine m_ ?_))
  (first | refine gl_guard_no rfl rfl rfl rfl rfl rfl rfl ?_ | (refine v_ ?_; refine gl_callp rfl (IndexByte_ct [40, 41, 123, 37, 42, 34, 92, 93] c) (fun _ _ _ => trivial) rfl ?_))
  (first | refine gl_guard_no rfl rfl rfl rfl rfl rfl rfl ?_ | (refine v_ ?_; refine f_ ((s_lss rfl rfl).eq (congrArg Value.bool ((idx_lt _ c).trans h3.symm))) ?_))
  refine f_ z_4 ?_
  refine a_ ?_
  refine gl_nil ?_
  repeat refine y_ ?_)
 all_goals (refine g_ret ?_; exact at_end1 rfl rfl [] ⟨rfl, rfl⟩ (fun _ h => h))
theorem boxB_ct (c : UInt8) : Pu Tryz.prog 109 [U8 c] (fun _ => True) (.bool (boxC c)) := by
 obtain ⟨q1, h1⟩ : ∃ q, q = decide ((c.toNat : Int) ≥ 32) := ⟨_, rfl⟩
 obtain ⟨q2, h2⟩ : ∃ q, q = decide ((c.toNat : Int) < 127) := ⟨_, rfl⟩
 obtain ⟨q3, h3⟩ : ∃ q, q = !([37, 42, 34, 92] : Bs).contains c := ⟨_, rfl⟩
 have e : boxC c = (q1 && q2 && q3) := by
  rw [h1, h2, h3]
  unfold boxC
  have e1 : decide (32 ≤ c.toNat) = decide ((c.toNat : Int) ≥ 32) := decide_eq_decide.mpr (by omega)
  have e2 : decide (c.toNat ≤ 126) = decide ((c.toNat : Int) < 127) := decide_eq_decide.mpr (by omega)
  rw [e1, e2]
 rw [e]
 clear e
 refine ct_enter 14 Tryz.func109 rfl rfl rfl ?_
 intro F _
 repeat refine x_ ?_
 refine a_ ?_
 repeat refine n_ ?_
 cases q1 <;> cases q2
 all_goals (
  repeat refine x_ ?_
  refine m_ ?_
  refine f_ ((s_geq rfl rfl).eb h1) ?_
  refine m_ ?_
  (first | refine gl_guard_no rfl rfl rfl rfl rfl rfl rfl ?_ | (refine v_ ?_; refine m_ ?_))
  (first | refine gl_guard_no rfl rfl rfl rfl rfl rfl rfl ?_ | (refine v_ ?_; refine f_ ((s_lss rfl rfl).eb h2) ?_))
  refine f_ z_4 ?_
  refine m_ ?_
  (first | refine gl_guard_no rfl rfl rfl rfl rfl rfl rfl ?_ | (refine v_ ?_; refine m_ ?_))
  (first | refine gl_guard_no rfl rfl rfl rfl rfl rfl rfl ?_ | (refine v_ ?_; refine gl_callp rfl (IndexByte_ct [37, 42, 34, 92] c) (fun _ _ _ => trivial) rfl ?_))
  (first | refine gl_guard_no rfl rfl rfl rfl rfl rfl rfl ?_ | (refine v_ ?_; refine f_ ((s_lss rfl rfl).eq (congrArg Value.bool ((idx_lt _ c).trans h3.symm))) ?_))
  refine f_ z_4 ?_
  refine a_ ?_
  refine gl_nil ?_
  repeat refine y_ ?_)
 all_goals (refine g_ret ?_; exact at_end1 rfl rfl [] ⟨rfl, rfl⟩ (fun _ h => h))
theorem all_ct (f : FuncId) (p : UInt8 → Bool) (hp : ∀ c, Pu Tryz.prog f [U8 c] (fun _ => True) (.bool (p c))) [hF : HF Tryz.prog f] (s : Bs) (hs : s.length ≤ 9223372036854775806) : Pu Tryz.prog 57 [B s, .func (.func f) #[] #[]] (fun _ => True) (.bool (s.all p && !s.isEmpty)) := by
 refine ct_enter 20 Tryz.func57 rfl rfl rfl ?_
 intro F _
 repeat refine x_ ?_
 refine a_ ?_
 repeat refine x_ ?_
 refine m_ ?_
 refine f_ (s_len_str rfl) ?_
 refine m_ ?_
 repeat refine n_ ?_
 refine g_loop (ι := Nat) (fun k => k ≤ s.length ∧ ∀ j, j < k → p (s.getD j 0) = true) (fun k => [(0, B s), (1, .func (.func f) #[] #[]), (7, .int .i64 (s.length : Nat)), (8, .int .i64 (k : Nat))]) (fun _ => []) (fun k => s.length - k) 0 ⟨by omega, fun j h => by omega⟩ ?_ ?_ ?_
 ·(repeat (first | exact Sub.nil _ | refine Sub.cons rfl ?_))
 ·intro w hw; exact hw
 rintro k ⟨hk, hno⟩
 repeat refine x_ ?_
 refine f_ (s_lss rfl rfl) ?_
 repeat refine n_ ?_
 refine g_cond rfl (fun h => ?_) (fun h => ?_)
 ·have hk' : k < s.length := by simp at h; omega
  repeat refine x_ ?_
  refine m_ ?_
  refine a_ ?_
  repeat refine x_ ?_
  refine m_ ?_
  refine m_ ?_
  refine m_ ?_
  refine f_ ((s_index_str rfl rfl (by omega)).eq (v' := U8 (s.getD k 0)) (by simp only [Int.toNat_natCast])) ?_
  refine gl_callv [] rfl rfl (ps := []) (qs := []) rfl (hp (s.getD k 0)) i_ (fun _ _ _ => trivial) rfl ?_; rintro v A ⟨rfl, rfl⟩
  refine f_ (s_not rfl) ?_
  repeat refine n_ ?_
  refine g_cond rfl (fun h2 => ?_) (fun h2 => ?_)
  ·have h3 : p (s.getD k 0) = false := by simpa using h2
   rw [all_no hk' h3, Bool.false_and]
   repeat refine x_ ?_
   refine a_ ?_
   repeat refine n_ ?_
   refine g_ret ?_
   exact at_end1 rfl rfl [] ⟨rfl, rfl⟩ (fun _ h => h)
  ·have h3 : p (s.getD k 0) = true := by simpa using h2
   repeat refine x_ ?_
   refine f_ (s_add_i64 rfl rfl (by omega)) ?_
   refine m_ ?_
   repeat refine n_ ?_
   refine at_next (k + 1) ⟨by omega, fun j hj => ?_⟩ (by omega) ?_ ?_
   ·rcases Nat.lt_succ_iff_lt_or_eq.1 hj with h4 | rfl
    ·exact hno j h4
    ·exact h3
   ·(repeat (first | exact Sub.nil _ | refine Sub.cons rfl ?_))
   ·intro w hw; exact hw
 ·have hkl : k = s.length := by simp at h; omega
  subst hkl
  rw [all_yes hno, Bool.true_and]
  repeat refine x_ ?_
  refine m_ ?_
  refine f_ ((s_neq_str rfl rfl).eq (v' := .bool (!s.isEmpty)) (by cases s <;> simp)) ?_
  refine a_ ?_
  repeat refine n_ ?_
  refine g_ret ?_
  exact at_end1 rfl rfl [] ⟨rfl, rfl⟩ (fun _ h => h)
theorem AtomW_ct (s : Bs) (hs : s.length ≤ 9223372036854775806) : Pu Tryz.prog 24 [B s] (fun _ => True) (.bool (atomS s)) := by
 refine ct_enter 5 Tryz.func24 rfl rfl rfl ?_
 intro F _
 repeat refine x_ ?_
 refine a_ ?_
 repeat refine x_ ?_
 refine m_ ?_
 refine gl_callp rfl (all_ct 58 isAtom atomB_ct s hs) (fun _ _ _ => trivial) rfl ?_
 refine a_ ?_
 repeat refine n_ ?_
 refine g_ret ?_
 exact at_end1 rfl rfl [] ⟨rfl, rfl⟩ (fun _ h => h)
theorem bytesV_append (a b : Bs) : bytesV (a ++ b) = bytesV a ++ bytesV b := by simp [bytesV]
theorem putx_byte {a r : Bs} {d c : UInt8} : putx (bytesV (a ++ d :: r)) a.length [U8 c] = bytesV (a ++ c :: r) := by
 unfold putx
 rw [bytesV_append, bytesV_append]
 have hl : (bytesV a).length = a.length := bytesV_len a
 rw [List.take_left' hl, List.length_singleton, ← hl, List.drop_length_add_append]
 simp [bytesV]
theorem map_step (f : UInt8 → UInt8) {s : Bs} {k : Nat} (hk : k < s.length) : (s.take (k + 1)).map f ++ s.drop (k + 1) = (s.take k).map f ++ f (s.getD k 0) :: s.drop (k + 1) := by
 rw [take_succ_map f hk]
 simp
theorem UpperW_ct (s : Bs) (hl : s.length ≤ 9223372036854775806) : Pu Tryz.prog 68 [B s] (fun _ => True) (B (upS s)) := by
 refine ct_enter 29 Tryz.func68 rfl rfl rfl ?_
 intro F _
 repeat refine x_ ?_
 refine a_ ?_
 repeat refine x_ ?_
 refine m_ ?_
 refine gl_bytes rfl rfl ?_; intro a1 c1 hc1
 refine a_ ?_
 repeat refine x_ ?_
 refine m_ ?_
 refine f_ (s_len_sl rfl) ?_
 refine m_ ?_
 repeat refine n_ ?_
 refine g_loop (ι := Nat) (fun k => k ≤ s.length) (fun k => [(3, .slice a1 s.length c1), (8, .slice a1 s.length c1), (9, .int .i64 (s.length : Nat)), (10, .int .i64 (k : Nat))]) (fun k => [.own (.slice a1 s.length c1) 5 1 (bytesV (upS (s.take k) ++ s.drop k))]) (fun k => s.length - k) 0 (by omega) ?_ ?_ ?_
 ·(repeat (first | exact Sub.nil _ | refine Sub.cons rfl ?_))
 ·intro w hw; exact hw
 rintro k hk
 repeat refine x_ ?_
 refine f_ (s_lss rfl rfl) ?_
 repeat refine n_ ?_
 refine g_cond rfl (fun h => ?_) (fun h => ?_)
 ·have hk' : k < s.length := by simp at h; omega
  have hst := map_step upC hk'
  have hdr := drop_get hk'
  have hul : (upS (s.take k)).length = k := by unfold upS; rw [List.length_map, List.length_take]; omega
  obtain ⟨c, hc⟩ : ∃ c, c = s.getD k 0 := ⟨_, rfl⟩
  rw [← hc] at hst hdr
  have hge : (upS (s.take k) ++ s.drop k).getD k 0 = c := by
   rw [List.getD_eq_getElem?_getD, List.getElem?_append_right (by omega), hul, Nat.sub_self, hdr]
   rfl
  have htl : (upS (s.take k) ++ s.drop k).length = s.length := by rw [List.length_append, hul, List.length_drop]; omega
  have hc255 := c.toNat_lt
  repeat refine x_ ?_
  refine m_ ?_
  refine r_ (s_indexAddr_own rfl z_3 rfl (by omega)) ?_
  refine r_ ((s_load1 rfl (fun w hw => rdC_own hw z_3 (i := k) (by omega) (by omega))).eq (v' := U8 c) (by rw [hge])) ?_
  refine a_ ?_
  refine a_ ?_
  repeat refine n_ ?_
  obtain ⟨q1, h1⟩ : ∃ q, q = decide ((c.toNat : Int) ≥ 97) := ⟨_, rfl⟩
  obtain ⟨q2, h2⟩ : ∃ q, q = decide ((c.toNat : Int) ≤ 122) := ⟨_, rfl⟩
  repeat refine y_ ?_
  refine g_cutK [(3, .slice a1 s.length c1), (4, .int .i64 (k : Nat)), (5, U8 c), (8, .slice a1 s.length c1), (9, .int .i64 (s.length : Nat)), (10, .int .i64 (k : Nat)), (20, .bool (q1 && q2))] [.own (.slice a1 s.length c1) 5 1 (bytesV (upS (s.take k) ++ s.drop k))] ?_ ?_
  ·cases q1
   all_goals (
    repeat refine x_ ?_
    refine m_ ?_
    refine f_ ((s_geq rfl rfl).eb h1) ?_
    refine m_ ?_
    (first | refine gl_guard_no rfl rfl rfl rfl rfl rfl rfl ?_ | (refine v_ ?_; refine m_ ?_))
    (first | refine gl_guard_no rfl rfl rfl rfl rfl rfl rfl ?_ | (refine v_ ?_; refine f_ ((s_leq rfl rfl).eb h2) ?_))
    refine f_ z_4 ?_
    refine gl_nil ?_
    repeat refine y_ ?_)
   all_goals exact at_cut j_ i_
  repeat refine y_ ?_
  refine g_cond rfl (fun h3 => ?_) (fun h3 => ?_)
  ·have hcc : 97 ≤ c.toNat ∧ c.toNat ≤ 122 := by
    simp only [Bool.and_eq_true] at h3
    have a := of_decide_eq_true (h1.symm.trans h3.1)
    have b := of_decide_eq_true (h2.symm.trans h3.2)
    omega
   have hup : upC c = c - 32 := by unfold upC; rw [if_pos hcc]
   have hsub : (c.toNat : Int) - 32 = ((c - 32).toNat : Nat) := by
    rw [UInt8.toNat_sub]
    simp
    omega
   repeat refine x_ ?_
   refine m_ ?_
   refine m_ ?_
   refine m_ ?_
   refine f_ ((s_sub_in rfl rfl (z := ((c - 32).toNat : Nat)) (by rw [IntKind.wrap_u8]; omega))) ?_
   refine r_ (s_indexAddr_own rfl z_3 rfl (by omega)) ?_
   refine gl_store_own (q := k * 1) rfl rfl z_5 z_8 (by decide) z_2 (by rw [bytesV_len, htl]; omega) ?_
   repeat refine x_ ?_
   refine f_ (s_add_i64 rfl rfl (by omega)) ?_
   refine m_ ?_
   repeat refine n_ ?_
   refine at_next (k + 1) (by omega) (by omega) ?_ ?_
   ·(repeat (first | exact Sub.nil _ | refine Sub.cons rfl ?_))
   ·intro w hw
    have e : putx (bytesV (upS (s.take k) ++ s.drop k)) (k * 1) [U8 (c - 32)] = bytesV (upS (s.take (k + 1)) ++ s.drop (k + 1)) := by
     have h5 : upS (s.take (k + 1)) ++ s.drop (k + 1) = upS (s.take k) ++ (c - 32) :: s.drop (k + 1) := by rw [← hup]; exact hst
     rw [h5, hdr, Nat.mul_one]
     have h6 := putx_byte (a := upS (s.take k)) (r := s.drop (k + 1)) (d := c) (c := c - 32)
     rwa [hul] at h6
    rw [← e]
    exact hw
  ·have hup : upC c = c := by
    unfold upC
    refine if_neg fun hh => ?_
    have a : q1 = true := h1.trans (decide_eq_true (by omega))
    have b : q2 = true := h2.trans (decide_eq_true (by omega))
    rw [a, b] at h3
    cases h3
   repeat refine x_ ?_
   refine f_ (s_add_i64 rfl rfl (by omega)) ?_
   refine m_ ?_
   repeat refine n_ ?_
   refine at_next (k + 1) (by omega) (by omega) ?_ ?_
   ·(repeat (first | exact Sub.nil _ | refine Sub.cons rfl ?_))
   ·intro w hw
    have e : upS (s.take k) ++ s.drop k = upS (s.take (k + 1)) ++ s.drop (k + 1) := by
     have h5 : upS (s.take (k + 1)) ++ s.drop (k + 1) = upS (s.take k) ++ upC c :: s.drop (k + 1) := hst
     rw [h5, hup, hdr]
    rw [← e]
    exact hw
 ·have hkl : k = s.length := by simp at h; omega
  subst hkl
  repeat refine x_ ?_
  refine m_ ?_
  refine r_ (s_string (l := upS s) rfl (by simp [upS]) (fun w hw => by have h5 := (hw.ownN .del).2.2.1; rwa [List.take_length, List.drop_length, List.append_nil] at h5)) ?_
  refine a_ ?_
  repeat refine n_ ?_
  refine g_ret ?_
  exact at_end1 rfl rfl [] ⟨rfl, rfl⟩ (fun _ h => h.dropAll)
theorem Itoa_ct (n : Nat) (h : n ≤ 9223372036854775807) : Pu Tryz.prog 100 [.int .i64 (n : Nat)] Gl (B (digS n)) := pu_below fun w hg => by
 refine (Tryz.strconv_Itoa (n : Nat) (by omega) (by omega) w hg.tabIs).mono ?_
 rintro e w' ⟨rfl, k, os, rfl⟩
 refine ⟨?_, ?_⟩
 ·rw [Lib.itoa_nonneg, dec_dig]
 ·exact ⟨rfl, rfl, rfl, by show w.heap.size ≤ (w.heap ++ os).size; simp, fun k hk => by show (w.heap ++ os)[k]? = _; rw [Array.getElem?_append_left hk]⟩
theorem LiteralW_ct (s : Bs) (hl : s.length ≤ big) : Pu Tryz.prog 70 [B s] Gl (B (literalS s)) := by
 have hl' := hl
 unfold big at hl
 have hd := digS_len64 (n := s.length) (by omega)
 refine ct_enter 10 Tryz.func70 rfl rfl rfl ?_
 intro F hg
 repeat refine x_ ?_
 refine a_ ?_
 repeat refine x_ ?_
 refine m_ ?_
 refine f_ (s_len_str rfl) ?_
 refine gl_callp rfl (Itoa_ct s.length (by omega)) (fun h hh hb => hg.le hh) rfl ?_
 refine f_ (s_add_str rfl rfl (by simp only [List.length_cons, List.length_nil]; omega)) ?_
 refine f_ (s_add_str rfl rfl (by simp only [List.length_append, List.length_cons, List.length_nil]; omega)) ?_
 refine m_ ?_
 refine f_ ((s_add_str rfl rfl (by simp only [List.length_append, List.length_cons, List.length_nil]; omega)).eq (v' := B (literalS s)) (by simp [literalS])) ?_
 refine a_ ?_
 repeat refine n_ ?_
 refine g_ret ?_
 exact at_end1 rfl rfl [] ⟨rfl, rfl⟩ (fun _ h => h)
end Go.Proofs.YtgllpcggdcknaaaGreatDoor.Rp
