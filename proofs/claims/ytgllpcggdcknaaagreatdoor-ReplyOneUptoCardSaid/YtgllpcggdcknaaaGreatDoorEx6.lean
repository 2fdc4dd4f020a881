import Derived.Test.YtgllpcggdcknaaaGreatDoorEx5
import Derived.WideLaws
set_option linter.unusedVariables false
set_option linter.unusedSimpArgs false
namespace Go.Proofs.YtgllpcggdcknaaaGreatDoor.Rp
open Go Go.Sl
def fV (l : List Bs) : List Value := l.map fun f => B f
theorem fV_len (l : List Bs) : (fV l).length = l.length := by simp [fV]
theorem fV_one (l : List Bs) : ∀ q ∈ fV l, q.oneCell' = true := fun q hq => by
 obtain ⟨x, _, rfl⟩ := List.mem_map.mp hq
 rfl
theorem fV_append (a b : List Bs) : fV (a ++ b) = fV a ++ fV b := by simp [fV]
abbrev OwnS (a : Option Addr) (l : List Bs) (c : Nat) : As := .own (.slice a l.length c) 9 1 (fV l)
theorem rdB_some {h : Heap} {a : Option Addr} {l : List Bs} {i : Nat} (r : RdS h a (fV l)) (hi : i < l.length) : ∃ ad, a = some ad := by
 obtain ⟨ad, e, _⟩ := r (by intro e; have := congrArg List.length e; rw [fV_len] at this; simp at this; subst this; simp at hi)
 exact ⟨ad, e⟩
theorem rdB {F : Snap} {w : World} {H : List As} {a : Option Addr} {l : List Bs} (hw : Hp F w H) (r : RdS F.heap a (fV l)) {q i : Nat} (h : q = i) (hi : i < l.length) : PeekC (hp w) (addO a q) [B (l.getD i [])] :=
 peek_rd hw r z_7 (fun j u hu => by
  match j, hu with
  | 0, hu =>
   simp at hu; subst hu h
   simp [fV, hi])
theorem rdB_own {F : Snap} {w : World} {H H' : List As} {ys : List As} {a : Option Addr} {n c : Nat} {te : TypeId} {l : List Bs} (hw : Hp F w H) (u : Upd H (.own (.slice a n c) te 1 (fV l)) ys H') {q i : Nat} (h : q = i) (hi : i < l.length) : PeekC (hp w) (addO a q) [B (l.getD i [])] :=
 peek_own hw u z_7 (fun j u hu => by
  match j, hu with
  | 0, hu =>
   simp at hu; subst hu h
   simp [fV, hi])
theorem ins_len (f : Bs) : ∀ l : List Bs, (insS f l).length = l.length + 1
 | [] => rfl
 | x :: t => by
  rw [insS]
  split
  ·simp
  ·simp [ins_len f t]
theorem takeB {l : List Bs} {k : Nat} (hk : k < l.length) : l.take (k + 1) = l.take k ++ [l.getD k []] := by
 rw [List.take_succ_eq_append_getElem hk, List.getD_eq_getElem?_getD, List.getElem?_eq_getElem hk]
 rfl
end Go.Proofs.YtgllpcggdcknaaaGreatDoor.Rp
namespace Go.Proofs.YtgllpcggdcknaaaGreatDoor.Rp
open Go Go.Sl
theorem canonL_snoc {x c : Bs} (hx : canonS x = some c) : ∀ {l cs : List Bs}, canonL l = some cs → canonL (l ++ [x]) = some (cs ++ [c])
 | [], cs, h => by
  simp [canonL] at h
  subst h
  simp [canonL, hx]
 | s :: t, cs, h => by
  rw [canonL] at h
  split at h
  ·next d l hd hl =>
   cases h
   rw [List.cons_append, canonL, hd, canonL_snoc hx hl]
   rfl
  ·cases h
theorem canonL_bad {x : Bs} (hx : canonS x = none) : ∀ {l : List Bs}, x ∈ l → canonL l = none
 | [], h => by simp at h
 | s :: t, h => by
  rw [canonL]
  rcases List.mem_cons.mp h with rfl | h
  ·rw [hx]
  ·rw [canonL_bad hx h]
   cases canonS s <;> rfl
theorem canonL_len : ∀ {l cs : List Bs}, canonL l = some cs → cs.length = l.length
 | [], cs, h => by simp [canonL] at h; subst h; rfl
 | s :: t, cs, h => by
  rw [canonL] at h
  split at h
  ·next d l hd hl =>
   cases h
   simp [canonL_len hl]
  ·cases h
theorem with_len (l : List Bs) (f : Bs) : (withS l f).length ≤ l.length + 1 := by
 unfold withS
 split
 ·omega
 ·rw [ins_len]; omega
theorem set_len (l : List Bs) : (setS l).length ≤ l.length := by
 have : ∀ (l acc : List Bs), (l.foldl withS acc).length ≤ acc.length + l.length := by
  intro l
  induction l with
  | nil => intro acc; simp
  | cons f t ih =>
   intro acc
   have h1 := ih (withS acc f)
   have h2 := with_len acc f
   simp only [List.foldl_cons, List.length_cons]
   omega
 have := this l []
 simpa [setS] using this
theorem getB_mem {l : List Bs} {k : Nat} (hk : k < l.length) : l.getD k [] ∈ l := by
 rw [List.getD_eq_getElem?_getD, List.getElem?_eq_getElem hk]
 exact List.getElem_mem hk
def MakeP (m : List Bs × Int) (v : Value) (A : List As) : Prop := ∃ a c, v = .tuple #[.slice a m.1.length c, .int .i64 m.2] ∧ A = [OwnS a m.1 c]
end Go.Proofs.YtgllpcggdcknaaaGreatDoor.Rp
namespace Go.Proofs.YtgllpcggdcknaaaGreatDoor.Rp
open Go Go.Sl
def ParseP (q : List Bs × Nat × Int) (v : Value) (A : List As) : Prop := ∃ a c, v = .tuple #[.slice a q.1.length c, .int .i64 (q.2.1 : Nat), .int .i64 q.2.2] ∧ A = [OwnS a q.1 c]
end Go.Proofs.YtgllpcggdcknaaaGreatDoor.Rp
namespace Go.Proofs.YtgllpcggdcknaaaGreatDoor.Rp
open Go Go.Sl
theorem cut_word {s : Bs} {p j : Nat} (h : p ≤ j) : (s.drop ((p : Nat) : Int).toNat).take (((j : Nat) : Int).toNat - ((p : Nat) : Int).toNat) = (s.drop p).take (j - p) := by simp only [Int.toNat_natCast]
end Go.Proofs.YtgllpcggdcknaaaGreatDoor.Rp
namespace Go.Proofs.YtgllpcggdcknaaaGreatDoor.Rp
open Go Go.Sl
theorem pre_take (w t : Bs) : w.isPrefixOf t = (decide (w.length ≤ t.length) && decide (t.take w.length = w)) := by
 rw [Bool.eq_iff_iff, List.isPrefixOf_iff_prefix, List.prefix_iff_eq_take]
 simp only [Bool.and_eq_true, decide_eq_true_eq]
 constructor
 ·intro h
  refine ⟨?_, h.symm⟩
  have := congrArg List.length h
  rw [List.length_take] at this
  omega
 ·rintro ⟨_, h⟩
  exact h.symm
theorem run_end {f : UInt8 → Bool} {s : Bs} {p j : Nat} (h1 : p ≤ j) (h2 : j ≤ s.length ∨ j = p) (hno : ∀ i, p ≤ i → i < j → f (s.getD i 0) = true) (he : j < s.length → f (s.getD j 0) = false) :
  (s.drop p).takeWhile f = (s.drop p).take (j - p) ∧ j = p + ((s.drop p).takeWhile f).length := by
 have e : s.drop p = (s.drop p).take (j - p) ++ s.drop j := by
  have := (List.take_append_drop (j - p) (s.drop p)).symm
  rw [List.drop_drop, show p + (j - p) = j by omega] at this
  exact this
 have hw : (s.drop p).takeWhile f = (s.drop p).take (j - p) := by
  rw [e]
  rw [takeWhile_of f _ _ (fun c hc => ?_) (fun c hc => ?_)]
  ·rw [← e]
  ·obtain ⟨i, hi, rfl⟩ := List.getElem_of_mem hc
   rw [List.length_take, List.length_drop] at hi
   have := hno (p + i) (by omega) (by omega)
   rw [List.getD_eq_getElem?_getD, List.getElem?_eq_getElem (by omega)] at this
   simpa using this
  ·by_cases hj : j < s.length
   ·rw [drop_get hj] at hc
    simp at hc
    subst hc
    exact he hj
   ·rw [List.drop_of_length_le (by omega)] at hc
    simp at hc
 refine ⟨hw, ?_⟩
 rw [hw, List.length_take, List.length_drop]
 omega
end Go.Proofs.YtgllpcggdcknaaaGreatDoor.Rp
namespace Go.Proofs.YtgllpcggdcknaaaGreatDoor.Rp
open Go Go.Sl
theorem uqL_le : ∀ (n : Nat) (s b : Bs) (i : Nat) (t : Bs) (m : Nat), s.length ≤ n → uqL b i s = some (t, m) → m ≤ i + s.length
 | _, [], _, _, _, _, _, h => by simp [uqL] at h
 | 0, c :: s, _, _, _, _, hn, _ => by simp at hn
 | n + 1, c :: s, b, i, t, m, hn, h => by
  simp only [List.length_cons] at hn ⊢
  rw [uqL_cons] at h
  split at h
  ·cases h
  split at h
  ·simp at h; omega
  split at h
  ·split at h
   ·cases h
   ·next d t' =>
    split at h
    ·simp only [List.length_cons] at hn ⊢
     have := uqL_le n t' _ _ t m (by omega) h
     omega
    ·cases h
  split at h
  ·have := uqL_le n s _ _ t m (by omega) h
   omega
  ·cases h
theorem uqS_le {s : Bs} : ((uqS s).getD ([], 0)).2 ≤ s.length := by
 cases h : uqS s with
 | none => simp
 | some q =>
  obtain ⟨t, m⟩ := q
  cases s with
  | nil => cases h
  | cons c v =>
   unfold uqS at h
   simp only at h
   split at h
   ·have := uqL_le v.length v [] 1 t m (Nat.le_refl _) h
    simp
    omega
   ·cases h
theorem to_le {s : Bs} {p : Nat} {stops : Bs} (h : p ≤ s.length) : toS s p stops ≤ s.length := by
 unfold toS stopW
 have h1 := congrArg List.length (takeWhile_split (fun c => !stops.contains c) (s.drop p))
 rw [List.length_append, List.length_drop] at h1
 omega
end Go.Proofs.YtgllpcggdcknaaaGreatDoor.Rp
namespace Go.Proofs.YtgllpcggdcknaaaGreatDoor.Rp
open Go Go.Sl
theorem getB_ext {l m : List Bs} (hlen : l.length = m.length) (h : ∀ i, i < l.length → l.getD i [] = m.getD i []) : l = m := by
 apply List.ext_getElem hlen
 intro i h1 h2
 have := h i h1
 rw [List.getD_eq_getElem?_getD, List.getD_eq_getElem?_getD, List.getElem?_eq_getElem h1, List.getElem?_eq_getElem h2] at this
 exact this
theorem SameF_ct (l m : List Bs) (a b : Option Addr) (c d : Nat) (hl : l.length ≤ 1000000000000) : Pu Tryz.prog 18 [.slice a l.length c, .slice b m.length d] (fun h => RdS h a (fV l) ∧ RdS h b (fV m)) (.bool (decide (l = m))) := by
 refine ct_enter 26 Tryz.func18 rfl rfl rfl ?_
 intro F hr
 have hrd := hr.1
 have hrm := hr.2
 repeat refine x_ ?_
 refine a_ ?_
 repeat refine x_ ?_
 refine m_ ?_
 refine f_ (s_len_sl rfl) ?_
 refine m_ ?_
 refine f_ (s_len_sl rfl) ?_
 refine f_ (s_neq rfl rfl) ?_
 repeat refine n_ ?_
 refine g_cond rfl (fun h => ?_) (fun h => ?_)
 ·have hne : l ≠ m := by rintro rfl; simp at h
  rw [decide_eq_false hne]
  repeat refine x_ ?_
  refine a_ ?_
  repeat refine n_ ?_
  refine g_ret ?_
  exact at_end1 rfl rfl [] ⟨rfl, rfl⟩ (fun _ h => h)
 ·have hlen : l.length = m.length := by simp at h; omega
  repeat refine x_ ?_
  refine a_ ?_
  repeat refine n_ ?_
  refine g_loop (ι := Nat) (fun k => k ≤ l.length ∧ ∀ i, i < k → l.getD i [] = m.getD i []) (fun k => [(0, .slice a l.length c), (1, .slice b m.length d), (5, .int .i64 (k : Nat))]) (fun k => []) (fun k => l.length - k) 0 ⟨by omega, fun i h => by omega⟩ ?_ ?_ ?_
  ·(repeat (first | exact Sub.nil _ | refine Sub.cons rfl ?_))
  ·intro w hw; exact hw
  ·intro k hk
   obtain ⟨hk, hok⟩ := hk
   repeat refine x_ ?_
   refine m_ ?_
   refine m_ ?_
   refine f_ (s_len_sl rfl) ?_
   refine f_ (s_lss rfl rfl) ?_
   repeat refine n_ ?_
   refine g_cond rfl (fun h => ?_) (fun h => ?_)
   ·have hk' : k < l.length := by simp at h; omega
    have hsome := rdB_some hrd hk'
    have hsome2 := rdB_some hrm (i := k) (by omega)
    repeat refine y_ ?_
    refine g_draw0 ([3, 7], [0, 0, 3, 7, 0, 0, 48, 112, 255], []) 9 rfl ?_
    refine w_ 0 rfl (s_move rfl) ?_
    refine w_ 1 rfl (s_move rfl) ?_
    refine w_ 2 rfl (s_indexAddr rfl (by assumption) rfl (by omega)) ?_
    refine ga_readF 3 rfl (s_load1 rfl (fun w hw => rdB hw hrd (i := k) (by omega) (by omega))) (by (exact fun _ h => h)) rfl rfl rfl z_6 ?_
    refine w_ 4 rfl (s_move rfl) ?_
    refine w_ 5 rfl (s_move rfl) ?_
    refine w_ 6 rfl (s_indexAddr rfl (by assumption) rfl (by omega)) ?_
    refine ga_readF 7 rfl (s_load1 rfl (fun w hw => rdB hw hrm (i := k) (by omega) (by omega))) (by (exact fun _ h => h)) rfl rfl rfl z_6 ?_
    refine w_ 8 rfl (s_neq_str rfl rfl) ?_
    refine ga_done z_6 ?_
    repeat refine y_ ?_
    refine g_cond rfl (fun h2 => ?_) (fun h2 => ?_)
    ·have hne : l ≠ m := by rintro rfl; simp at h2
     rw [decide_eq_false hne]
     repeat refine x_ ?_
     refine a_ ?_
     repeat refine n_ ?_
     refine g_ret ?_
     exact at_end1 rfl rfl [] ⟨rfl, rfl⟩ (fun _ h => h)
    ·have h3 : l.getD k [] = m.getD k [] := by simpa using h2
     repeat refine x_ ?_
     refine m_ ?_
     refine f_ (s_add_i64 rfl rfl (by omega)) ?_
     refine a_ ?_
     repeat refine n_ ?_
     refine at_next (k + 1) ⟨by omega, fun i hi => ?_⟩ (by omega) ?_ ?_
     ·rcases Nat.lt_succ_iff_lt_or_eq.1 hi with h4 | rfl
      ·exact hok i h4
      ·exact h3
     ·(repeat (first | exact Sub.nil _ | refine Sub.cons rfl ?_))
     ·intro w hw; exact hw
   ·have hkl : k = l.length := by simp at h; omega
    have e : l = m := getB_ext hlen fun i hi => hok i (by omega)
    rw [decide_eq_true e]
    repeat refine x_ ?_
    refine a_ ?_
    repeat refine n_ ?_
    refine g_ret ?_
    exact at_end1 rfl rfl [] ⟨rfl, rfl⟩ (fun _ h => h)
end Go.Proofs.YtgllpcggdcknaaaGreatDoor.Rp
namespace Go.Proofs.YtgllpcggdcknaaaGreatDoor.Rp
open Go Go.Sl
structure VM where
 v : RV
 a : Option Addr
 c : Nat
abbrev VM0 : VM := ⟨V0, none, 0⟩
abbrev vmC (x : VM) : List Value := [.int .i64 x.v.kind, .int .u64 (x.v.n : Nat), .slice x.a x.v.flags.length x.c, B x.v.text, .bool x.v.part, .int .u64 (x.v.fr : Nat)]
abbrev vmA (x : VM) : Value := .agg #[.int .i64 x.v.kind, .int .u64 (x.v.n : Nat), .slice x.a x.v.flags.length x.c, B x.v.text, .bool x.v.part, .int .u64 (x.v.fr : Nat)]
abbrev vmV (l : List VM) : List Value := l.flatMap vmC
theorem vmC_len : ∀ x, (vmC x).length = 6 := fun _ => rfl
theorem vmC_one : ∀ x, ∀ q ∈ vmC x, q.oneCell' = true := fun x q hq => by simp at hq; rcases hq with rfl | rfl | rfl | rfl | rfl | rfl <;> rfl
theorem vmV_one (l : List VM) : ∀ q ∈ vmV l, q.oneCell' = true := rec_one (C := vmC) vmC_one l
theorem vmV_append (a b : List VM) : vmV (a ++ b) = vmV a ++ vmV b := List.flatMap_append
def nV (l : List Nat) : List Value := l.map fun n => .int .u64 (n : Nat)
theorem nV_len (l : List Nat) : (nV l).length = l.length := by simp [nV]
theorem nV_one (l : List Nat) : ∀ q ∈ nV l, q.oneCell' = true := fun q hq => by
 obtain ⟨x, _, rfl⟩ := List.mem_map.mp hq
 rfl
theorem nV_append (a b : List Nat) : nV (a ++ b) = nV a ++ nV b := by simp [nV]
structure RL where
 na : Option Addr
 nc : Nat
 fa : Option Addr
 fc : Nat
 va : Option Addr
 vc : Nat
 vs : List VM
abbrev L0 : RL := ⟨none, 0, none, 0, none, 0, []⟩
abbrev rrC (r : RR) (x : RL) : List Value := [.int .i64 r.kind, B r.tag, B r.code, B r.text, .int .u64 (r.n : Nat), .slice x.na r.nums.length x.nc, .int .u64 (r.mod : Nat), .slice x.fa r.flags.length x.fc, B r.box, .slice x.va x.vs.length x.vc]
abbrev rrA (r : RR) (x : RL) : Value := .agg #[.int .i64 r.kind, B r.tag, B r.code, B r.text, .int .u64 (r.n : Nat), .slice x.na r.nums.length x.nc, .int .u64 (r.mod : Nat), .slice x.fa r.flags.length x.fc, B r.box, .slice x.va x.vs.length x.vc]
structure RRd (r : RR) (x : RL) (h : Heap) : Prop where
 vals : r.values = x.vs.map VM.v
 nums : RdS h x.na (nV r.nums)
 flags : RdS h x.fa (fV r.flags)
 vs : RdS h x.va (vmV x.vs)
 fs : ∀ m ∈ x.vs, RdS h m.a (fV m.v.flags)
theorem RRd.le {r : RR} {x : RL} {h h' : Heap} (k : RRd r x h) (hl : Heap.le h h') : RRd r x h' := ⟨k.vals, k.nums.le hl, k.flags.le hl, k.vs.le hl, fun m hm => (k.fs m hm).le hl⟩
def vsH (l : List VM) : List As := l.map fun m => OwnS m.a m.v.flags m.c
def rrH (r : RR) (x : RL) : List As := .own (.slice x.na r.nums.length x.nc) 22 1 (nV r.nums) :: OwnS x.fa r.flags x.fc :: .own (.slice x.va x.vs.length x.vc) 46 6 (vmV x.vs) :: vsH x.vs
theorem vsH_append (a b : List VM) : vsH (a ++ b) = vsH a ++ vsH b := by simp [vsH]
theorem rd_of_own {h : Heap} {bs : List Nat} {a : Option Addr} {n c sz : Nat} {t : TypeId} {xs : List Value} {H : List As} (hs : Sat h H bs) (hm : As.own (.slice a n c) t sz xs ∈ H) : RdS h a xs := by
 obtain ⟨A, C, rfl⟩ := List.append_of_mem hm
 obtain ⟨ba, bb, rfl, _, h2⟩ := Sat.split hs
 exact Sat.rd h2 .del
theorem RRd.of_own {r : RR} {x : RL} {h : Heap} {bs : List Nat} {H : List As} (hv : r.values = x.vs.map VM.v) (hs : Sat h H bs) (hm : ∀ y ∈ rrH r x, y ∈ H) : RRd r x h :=
 ⟨hv, rd_of_own hs (hm _ (.head _)), rd_of_own hs (hm _ (.tail _ (.head _))), rd_of_own hs (hm _ (.tail _ (.tail _ (.head _)))), fun m hm' => rd_of_own hs (hm _ (.tail _ (.tail _ (.tail _ (List.mem_map.mpr ⟨m, hm', rfl⟩)))))⟩
end Go.Proofs.YtgllpcggdcknaaaGreatDoor.Rp
namespace Go.Proofs.YtgllpcggdcknaaaGreatDoor.Rp
open Go Go.Sl
theorem a3_0 {a0 a1 a2 : Value} : (#[a0, a1, a2] : Array Value)[0]? = some a0 := rfl
theorem a3_1 {a0 a1 a2 : Value} : (#[a0, a1, a2] : Array Value)[1]? = some a1 := rfl
theorem a3_2 {a0 a1 a2 : Value} : (#[a0, a1, a2] : Array Value)[2]? = some a2 := rfl
theorem a6_0 {a0 a1 a2 a3 a4 a5 : Value} : (#[a0, a1, a2, a3, a4, a5] : Array Value)[0]? = some a0 := rfl
theorem a6_1 {a0 a1 a2 a3 a4 a5 : Value} : (#[a0, a1, a2, a3, a4, a5] : Array Value)[1]? = some a1 := rfl
theorem a6_2 {a0 a1 a2 a3 a4 a5 : Value} : (#[a0, a1, a2, a3, a4, a5] : Array Value)[2]? = some a2 := rfl
theorem a6_3 {a0 a1 a2 a3 a4 a5 : Value} : (#[a0, a1, a2, a3, a4, a5] : Array Value)[3]? = some a3 := rfl
theorem a6_4 {a0 a1 a2 a3 a4 a5 : Value} : (#[a0, a1, a2, a3, a4, a5] : Array Value)[4]? = some a4 := rfl
theorem a6_5 {a0 a1 a2 a3 a4 a5 : Value} : (#[a0, a1, a2, a3, a4, a5] : Array Value)[5]? = some a5 := rfl
theorem a10_0 {a0 a1 a2 a3 a4 a5 a6 a7 a8 a9 : Value} : (#[a0, a1, a2, a3, a4, a5, a6, a7, a8, a9] : Array Value)[0]? = some a0 := rfl
theorem a10_1 {a0 a1 a2 a3 a4 a5 a6 a7 a8 a9 : Value} : (#[a0, a1, a2, a3, a4, a5, a6, a7, a8, a9] : Array Value)[1]? = some a1 := rfl
theorem a10_2 {a0 a1 a2 a3 a4 a5 a6 a7 a8 a9 : Value} : (#[a0, a1, a2, a3, a4, a5, a6, a7, a8, a9] : Array Value)[2]? = some a2 := rfl
theorem a10_3 {a0 a1 a2 a3 a4 a5 a6 a7 a8 a9 : Value} : (#[a0, a1, a2, a3, a4, a5, a6, a7, a8, a9] : Array Value)[3]? = some a3 := rfl
theorem a10_4 {a0 a1 a2 a3 a4 a5 a6 a7 a8 a9 : Value} : (#[a0, a1, a2, a3, a4, a5, a6, a7, a8, a9] : Array Value)[4]? = some a4 := rfl
theorem a10_5 {a0 a1 a2 a3 a4 a5 a6 a7 a8 a9 : Value} : (#[a0, a1, a2, a3, a4, a5, a6, a7, a8, a9] : Array Value)[5]? = some a5 := rfl
theorem a10_6 {a0 a1 a2 a3 a4 a5 a6 a7 a8 a9 : Value} : (#[a0, a1, a2, a3, a4, a5, a6, a7, a8, a9] : Array Value)[6]? = some a6 := rfl
theorem a10_7 {a0 a1 a2 a3 a4 a5 a6 a7 a8 a9 : Value} : (#[a0, a1, a2, a3, a4, a5, a6, a7, a8, a9] : Array Value)[7]? = some a7 := rfl
theorem a10_8 {a0 a1 a2 a3 a4 a5 a6 a7 a8 a9 : Value} : (#[a0, a1, a2, a3, a4, a5, a6, a7, a8, a9] : Array Value)[8]? = some a8 := rfl
theorem a10_9 {a0 a1 a2 a3 a4 a5 a6 a7 a8 a9 : Value} : (#[a0, a1, a2, a3, a4, a5, a6, a7, a8, a9] : Array Value)[9]? = some a9 := rfl
class HBld (P : Program) (t : TypeId) (fs : outParam (Array Field)) (places : outParam (List (Nat × Nat))) : Prop where
 hu : P.underlying t = some (.struct fs)
 hp : fs.toList.map (fun f => (f.offset, P.cellsOf f.type)) = places
 hin : (fs.toList.all fun f => (P.info? f.type).isSome) = true
theorem s_bld {P : Program} {L : Lcs} {dst : Option Tmp} {ty t : TypeId} {pos : String} {af : Array Edge} {gd : Option (Nat × Bool)} {fs : Array Field} {places : List (Nat × Nat)} {z : Value} {ps : List (Nat × Operand)} {vs : List (Nat × Value)} {cells : Array Value} [hb : HBld P t fs places] [hz : HZ P t z] (hx : evP L ps = some vs) (hfill : Instr.fill (places[·]?) z.cells vs = some cells) : OpF P ⟨dst, .build t ps.toArray, ty, pos, af, gd⟩ L (.agg cells) :=
 have : HU P t (.struct fs) := ⟨hb.hu⟩
 s_build hx (run_build_struct (fs := fs) hb.hp (fun f hf => List.all_eq_true.1 hb.hin f hf) hfill)
instance : HBld Tryz.prog 27 #[{ name := "Kind", type := 3, offset := 0, embedded := false, tag := "", pkgPath := "", byteOffset := 0 }, { name := "Tag", type := 9, offset := 1, embedded := false, tag := "", pkgPath := "", byteOffset := 8 }, { name := "Code", type := 9, offset := 2, embedded := false, tag := "", pkgPath := "", byteOffset := 24 }, { name := "Text", type := 9, offset := 3, embedded := false, tag := "", pkgPath := "", byteOffset := 40 }, { name := "N", type := 22, offset := 4, embedded := false, tag := "", pkgPath := "", byteOffset := 56 }, { name := "Nums", type := 23, offset := 5, embedded := false, tag := "", pkgPath := "", byteOffset := 64 }, { name := "Mod", type := 22, offset := 6, embedded := false, tag := "", pkgPath := "", byteOffset := 88 }, { name := "Flags", type := 24, offset := 7, embedded := false, tag := "", pkgPath := "", byteOffset := 96 }, { name := "Box", type := 9, offset := 8, embedded := false, tag := "", pkgPath := "", byteOffset := 120 }, { name := "Values", type := 25, offset := 9, embedded := false, tag := "", pkgPath := "", byteOffset := 136 }] [(0, 1), (1, 1), (2, 1), (3, 1), (4, 1), (5, 1), (6, 1), (7, 1), (8, 1), (9, 1)] := ⟨Tryz.underlying27, by kernel_rfl, by kernel_rfl⟩
instance : HBld Tryz.prog 46 #[{ name := "Kind", type := 3, offset := 0, embedded := false, tag := "", pkgPath := "", byteOffset := 0 }, { name := "N", type := 22, offset := 1, embedded := false, tag := "", pkgPath := "", byteOffset := 8 }, { name := "Flags", type := 24, offset := 2, embedded := false, tag := "", pkgPath := "", byteOffset := 16 }, { name := "Text", type := 9, offset := 3, embedded := false, tag := "", pkgPath := "", byteOffset := 40 }, { name := "Part", type := 4, offset := 4, embedded := false, tag := "", pkgPath := "", byteOffset := 56 }, { name := "From", type := 22, offset := 5, embedded := false, tag := "", pkgPath := "", byteOffset := 64 }] [(0, 1), (1, 1), (2, 1), (3, 1), (4, 1), (5, 1)] := ⟨Tryz.underlying46, by kernel_rfl, by kernel_rfl⟩
end Go.Proofs.YtgllpcggdcknaaaGreatDoor.Rp
namespace Go.Proofs.YtgllpcggdcknaaaGreatDoor.Rp
open Go Go.Sl Go.RowKit
section
variable {P : Program} {L : Lcs} {N : Nat} {dst : Option Tmp} {t : TypeId} {x : Operand} {ty : TypeId} {pos : String} {af : Array Edge} {gd : Option (Nat × Bool)}
theorem s_slice_arrH {b len e m' : Nat} {hi : Operand} {kk : IntKind} {j : Nat} [hu : HU P t (.array len e)] [hs : HS P e m'] (hx : ev L x = some (.pointer (some ⟨b, 0, none⟩))) (hhi : ev L hi = some (.int kk j)) (hr : j ≤ len) : OpF P ⟨dst, .slice t x none (some hi) none, ty, pos, af, gd⟩ L (.slice (some ⟨b, 0, none⟩) j len) := by
 unfold OpF
 intro ρ w hf
 have e1 : (⟨b, 0, none⟩ : Addr).add (0 * m') = ⟨b, 0, none⟩ := by simp [Addr.add]
 have e2 : ¬ max (j : Int) 0 < 0 := by omega
 simp [execOp, Instr.sliceAt, Instr.sureAddr, Instr.sliceBounds, Instr.sliceBound, asIntOf, hf _ _ hx, hf _ _ hhi, run_underlying hu.h, hs.h, Addr.add, hr]
end
abbrev encB : UInt8 → Value := fun b => Value.int .u8 (b.toNat : Int)
theorem fb10_ct (u b : Nat) (h1 : 1 ≤ u) (hu : u < 18446744073709551616) : Ct Tryz.prog 114 [.slice (some ⟨b, 0, none⟩) (Lib.nDigits u) 24, .int .u64 (u : Nat)] (fun _ => True) [.blk b (.cells (Array.replicate 24 (.int .u8 0)) 118)]
  (fun v A => v = .tuple #[] ∧ ∃ cs : Array Value, (∀ (j : Nat) (hj : j < (digS u).length), cs[j]? = some (.int .u8 ((digS u)[j].toNat : Nat))) ∧ A = [.blk b (.cells cs 118)]) := by
 intro w bs hsat hnd _
 obtain ⟨b1, b2, rfl, ⟨rfl, hb⟩, rfl⟩ := hsat
 have hb' : w.heap[b]? = some (.cells (Array.replicate 24 (.int .u8 0)) 118) := hb
 have hl24 : Lib.nDigits u ≤ 24 := by
  have := digS_len64 (n := u) (by omega)
  rw [← dec_dig, Lib.decDigits_length] at this
  omega
 have hH : Sort.Holds encB w b 0 (Array.replicate (Lib.nDigits u) (0 : UInt8)) := fun j hj => by
  have hj' : j < Lib.nDigits u := by simpa using hj
  constructor
  ·simp [World.cell?, hb', getElem!_pos, hj', show j < 24 by omega]
  ·simp [World.frozen?, hb']
 have hs : (Array.replicate (Lib.nDigits u) (0 : UInt8)).size = Lib.nDigits u := by simp
 have hu10 : u < 10 ^ (Array.replicate (Lib.nDigits u) (0 : UInt8)).size := by
  rw [hs]
  exact Lib.lt_pow_nDigits u
 have hc := Tryz.internal_strconv_formatBase10 b 0 24 u (Array.replicate (Lib.nDigits u) (0 : UInt8)) w hH hu10 hu (by rw [hs]; omega)
 rw [hs] at hc
 refine hc.mono ?_
 rintro e w' ⟨rfl, n, v', dk, rfl, hI⟩
 have hh : ((Sort.putRow encB w b 0 dk).drewN n).heap[b]? = some (.cells (Sort.putCells encB 0 dk (Array.replicate 24 (.int .u8 0))) 118) := by
  show (Sort.mapBlock w b _).heap[b]? = _
  unfold Sort.mapBlock
  simp [Array.getElem?_modify, hb', Sort.onCells]
 refine ⟨.tuple #[], [.blk b (.cells (Sort.putCells encB 0 dk (Array.replicate 24 (.int .u8 0))) 118)], rfl, ⟨rfl, _, fun j hj => ?_, rfl⟩, rfl, rfl, rfl, fun b' o hbo => ?_, [b], ⟨[b], [], rfl, ⟨rfl, hh⟩, rfl⟩, by simp, fun b' hb2 => ?_⟩
 ·have hj2 : j < (Lib.decDigits u).length := by rw [dec_dig]; exact hj
  have hj3 : j < Lib.nDigits u := by rw [Lib.decDigits_length] at hj2; exact hj2
  have hr := Lib.row_is_numeral hI j hj2
  have he : (digS u)[j] = (Lib.decDigits u)[j] := by congr 1; exact (dec_dig u).symm
  rw [he, hr]
  have hsz := hI.size
  simp [Sort.putCells, show j < 24 by omega, show j < dk.size by omega]
 ·have hne : b' ≠ b := by
   rintro rfl
   simp [snapBut, hpBut] at hbo
  have h2 : w.heap[b']? = some o := hpBut_le w _ b' o hbo
  show (Sort.mapBlock w b _).heap[b']? = _
  unfold Sort.mapBlock
  rw [Array.getElem?_modify, if_neg (fun h => hne h.symm)]
  exact h2
 ·simp at hb2
  subst hb2
  simp [snapBut, hpBut]
theorem bytes_at {l : Bs} {cs : Array Value} (h : ∀ (j : Nat) (hj : j < l.length), cs[j]? = some (.int .u8 (l[j].toNat : Nat))) : ∀ (j : Nat) (u : Value), (bytesV l)[j]? = some u → cs[j]? = some u := fun j u hu => by
 obtain ⟨hj, rfl⟩ := List.getElem?_eq_some_iff.1 hu
 have hj2 : j < l.length := by simpa [bytesV] using hj
 rw [h j hj2]
 simp [bytesV]
theorem FormatUint_ct (n : Nat) (h : n < 18446744073709551616) : Pu Tryz.prog 98 [.int .u64 (n : Nat), .int .i64 10] Gl (B (digS n)) := by
 refine ct_enter 32 Tryz.func98 rfl rfl rfl ?_
 intro F hg
 repeat refine x_ ?_
 refine a_ ?_
 repeat refine x_ ?_
 refine m_ ?_
 refine f_ (s_eql rfl rfl) ?_
 repeat refine x_ ?_
 refine m_ ?_
 refine f_ ((s_lss rfl rfl).eq (v' := .bool (decide (n < 100))) (congrArg Value.bool (decide_eq_decide.mpr (by omega)))) ?_
 repeat refine n_ ?_
 refine g_cond rfl (fun h1 => ?_) (fun h1 => ?_)
 ·have h2 := of_decide_eq_true h1
  repeat refine x_ ?_
  refine m_ ?_
  refine f_ (s_conv_keep_i64 rfl (by omega)) ?_
  refine gl_callp rfl (small_ct n h2) (fun _ _ _ => trivial) rfl ?_
  refine a_ ?_
  repeat refine n_ ?_
  refine g_ret ?_
  exact at_end1 rfl rfl [] ⟨rfl, rfl⟩ (fun _ h => h)
 ·have h2 := of_decide_eq_false h1
  have hdl : (digS n).length = Lib.nDigits n := by rw [← dec_dig, Lib.decDigits_length]
  have hd20 := digS_len64 (n := n) (by omega)
  repeat refine x_ ?_
  refine gl_allocA rfl ?_; intro g5
  repeat refine x_ ?_
  refine m_ ?_
  refine gl_callp rfl (numDigits_ct n (by omega) h) (fun h hh hb => hg.le hh) rfl ?_
  refine a_ ?_
  repeat refine x_ ?_
  refine m_ ?_
  refine f_ (s_slice_arrH rfl rfl (by omega)) ?_
  refine m_ ?_
  refine gl_call _ rfl (fb10_ct n g5 (by omega) h) i_ (fun _ _ _ => trivial) rfl ?_; rintro v A ⟨rfl, cs, hcs, rfl⟩
  repeat refine x_ ?_
  refine m_ ?_
  refine f_ (s_slice_arrH rfl rfl (by omega)) ?_
  refine r_ (s_string (l := digS n) rfl (by omega) (fun w hw => hw.rdBlk z_3 _ (bytes_at hcs))) ?_
  refine a_ ?_
  repeat refine n_ ?_
  refine g_ret ?_
  exact at_end1 rfl rfl [] ⟨rfl, rfl⟩ (fun _ h => h.dropAll)
theorem sFormatUint_ct (n : Nat) (h : n < 18446744073709551616) : Pu Tryz.prog 67 [.int .u64 (n : Nat), .int .i64 10] Gl (B (digS n)) := by
 refine ct_enter 8 Tryz.func67 rfl rfl rfl ?_
 intro F hg
 repeat refine x_ ?_
 refine a_ ?_
 repeat refine x_ ?_
 refine m_ ?_
 refine m_ ?_
 refine gl_callp rfl (FormatUint_ct n h) (fun h hh hb => hg.le hh) rfl ?_
 refine a_ ?_
 repeat refine n_ ?_
 refine g_ret ?_
 exact at_end1 rfl rfl [] ⟨rfl, rfl⟩ (fun _ h => h)
theorem Digits_ct (n : Nat) (h : n < 18446744073709551616) : Pu Tryz.prog 30 [.int .u64 (n : Nat)] Gl (B (digS n)) := by
 refine ct_enter 5 Tryz.func30 rfl rfl rfl ?_
 intro F hg
 repeat refine x_ ?_
 refine a_ ?_
 repeat refine x_ ?_
 refine m_ ?_
 refine gl_callp rfl (sFormatUint_ct n h) (fun h hh hb => hg.le hh) rfl ?_
 refine a_ ?_
 repeat refine n_ ?_
 refine g_ret ?_
 exact at_end1 rfl rfl [] ⟨rfl, rfl⟩ (fun _ h => h)
end Go.Proofs.YtgllpcggdcknaaaGreatDoor.Rp
namespace Go.Proofs.YtgllpcggdcknaaaGreatDoor.Rp
open Go Go.Sl Go.RowKit
theorem lower_ct (c : Int) : Pu Tryz.prog 140 [.int .u8 c] (fun _ => True) (.int .u8 (bits .or .u8 c 32)) := pu_same fun w _ => Tryz.internal_strconv_lower c w
theorem valK_ge : ∀ (t : Bs) (a : Nat), a ≤ valK a t
 | [], a => by rw [valK_nil]; exact Nat.le_refl _
 | c :: t, a => by
  rw [valK_cons]
  have := valK_ge t (stepV a c)
  unfold stepV at this ⊢
  omega
theorem val_mono (s : Bs) (k : Nat) : valK 0 (s.take k) ≤ valK 0 s := by
 have : valK 0 s = valK (valK 0 (s.take k)) (s.drop k) := by rw [← valK_append, List.take_append_drop]
 rw [this]
 exact valK_ge _ _
theorem num_great {s : Bs} {k : Nat} (h : great < valK 0 (s.take k)) : numS s = none := by
 have := val_mono s k
 unfold numS
 exact if_neg fun hh => by omega
structure IsNum (s : Bs) : Prop where
 ne : s ≠ []
 dig : ∀ j, j < s.length → isDig (s.getD j 0) = true
 le : valK 0 s ≤ great
def UP (s : Bs) (v : Value) (A : List As) : Prop := A = [] ∧ ((v = .tuple #[.int .u64 (valK 0 s : Nat), .nilIface] ∧ IsNum s) ∨ ∃ (n k : Int), v = .tuple #[.int .u64 n, .iface 144 (.int .i64 k)] ∧ (k = 1 ∨ k = 2) ∧ numS s = none)
theorem bytesV_len (l : Bs) : (bytesV l).length = l.length := by simp [bytesV]
theorem rdC_own {F : Snap} {w : World} {H H' : List As} {ys : List As} {a : Option Addr} {n c : Nat} {te : TypeId} {l : Bs} (hw : Hp F w H) (u : Upd H (.own (.slice a n c) te 1 (bytesV l)) ys H') {q i : Nat} (h : q = i) (hi : i < l.length) : PeekC (hp w) (addO a q) [U8 (l.getD i 0)] :=
 peek_own hw u z_7 (fun j u hu => by
  match j, hu with
  | 0, hu =>
   simp at hu; subst hu h
   simp [bytesV, hi])
set_option maxRecDepth 8000 in
set_option maxHeartbeats 1000000 in
theorem ParseUintI_ct (s : Bs) (hs : s.length ≤ 9223372036854775806) : Ct Tryz.prog 122 [B s, .int .i64 10, .int .i64 63] (fun _ => True) [] (UP s) := by
 refine ct_enter 172 Tryz.func122 rfl rfl rfl ?_
 intro F _
 repeat refine x_ ?_
 refine a_ ?_
 refine a_ ?_
 repeat refine x_ ?_
 refine m_ ?_
 refine f_ ((s_eql_str rfl rfl).eq (v' := .bool (decide (s = []))) rfl) ?_
 repeat refine n_ ?_
 refine g_cond rfl (fun h => ?_) (fun h => ?_)
 ·have h0 := of_decide_eq_true h
  repeat refine x_ ?_
  refine f_ (s_makeIface z_7 rfl) ?_
  refine a_ ?_
  refine a_ ?_
  repeat refine n_ ?_
  refine g_ret ?_
  exact at_end2 rfl rfl rfl [] ⟨rfl, .inr ⟨0, 2, rfl, .inr rfl, by rw [h0]; exact numS_nil⟩⟩ (fun w hw => hw.dropAll)
 have hne := of_decide_eq_false h
 repeat refine x_ ?_
 refine m_ ?_
 refine f_ (s_eql rfl rfl) ?_
 refine a_ ?_
 repeat refine x_ ?_
 refine m_ ?_
 refine a_ ?_
 repeat refine x_ ?_
 refine m_ ?_
 refine f_ (s_leq rfl rfl) ?_
 refine m_ ?_
 (refine v_ ?_; refine m_ ?_)
 (refine v_ ?_; refine f_ (s_leq rfl rfl) ?_)
 refine f_ (by exact s_pick_t rfl rfl) ?_
 refine a_ ?_
 repeat refine x_ ?_
 refine m_ ?_
 refine f_ (s_eql rfl rfl) ?_
 repeat refine x_ ?_
 refine m_ ?_
 refine f_ (s_lss rfl rfl) ?_
 refine m_ ?_
 (refine v_ ?_; refine m_ ?_)
 (refine v_ ?_; refine f_ (s_gtr rfl rfl) ?_)
 refine f_ (by exact s_pick_f rfl rfl) ?_
 repeat refine x_ ?_
 refine a_ ?_
 repeat refine x_ ?_
 refine m_ ?_
 repeat refine x_ ?_
 refine f_ (s_eql rfl rfl) ?_
 refine a_ ?_
 repeat refine x_ ?_
 refine a_ ?_
 repeat refine x_ ?_
 refine m_ ?_
 refine f_ (s_conv_keep_u64 rfl (by omega)) ?_
 refine f_ ((s_shl rfl rfl (by omega)).eq (v' := .int .u64 9223372036854775808) (by congr 1)) ?_
 refine f_ (s_sub_u64 rfl rfl (by omega)) ?_
 refine a_ ?_
 repeat refine x_ ?_
 refine a_ ?_
 repeat refine x_ ?_
 refine a_ ?_
 repeat refine x_ ?_
 refine m_ ?_
 refine gl_bytes rfl rfl ?_; intro a99 c99 hc99
 refine f_ (s_len_sl rfl) ?_
 refine m_ ?_
 repeat refine n_ ?_
 refine g_loop (ι := Nat) (fun k => k ≤ s.length ∧ (∀ j, j < k → isDig (s.getD j 0) = true) ∧ valK 0 (s.take k) ≤ great) (fun k => [(0, B s), (1, .int .i64 10), (8, .bool false), (10, .int .u64 1844674407370955162), (11, .int .u64 9223372036854775807), (12, .bool false), (13, .int .u64 (valK 0 (s.take k) : Nat)), (99, .slice a99 s.length c99), (100, .int .i64 (s.length : Nat)), (101, .int .i64 (k : Nat))]) (fun _ => [.own (.slice a99 s.length c99) 5 1 (bytesV s)]) (fun k => s.length - k) 0 ⟨by omega, fun j h => by omega, by simp [valK_nil]⟩ ?_ ?_ ?_
 ·(repeat (first | exact Sub.nil _ | refine Sub.cons rfl ?_))
 ·intro w hw; exact hw
 rintro k ⟨hk, hdg, hle⟩
 repeat refine x_ ?_
 refine f_ (s_lss rfl rfl) ?_
 repeat refine n_ ?_
 refine g_cond rfl (fun h => ?_) (fun h => ?_)
 ·have hk' : k < s.length := by simp at h; omega
  obtain ⟨c, hc⟩ : ∃ c, c = s.getD k 0 := ⟨_, rfl⟩
  have hc255 : c.toNat < 256 := c.toNat_lt
  have hsome : ∃ ad, a99 = some ad ∨ True := ⟨⟨0, 0, none⟩, .inr trivial⟩
  repeat refine x_ ?_
  refine r_ (s_indexAddr_own rfl z_3 rfl (by omega)) ?_
  refine r_ ((s_load1 rfl (fun w hw => rdC_own hw z_3 (i := k) (by omega) hk')).eq (v' := U8 c) (by rw [hc])) ?_
  refine a_ ?_
  repeat refine x_ ?_
  refine a_ ?_
  repeat refine n_ ?_
  obtain ⟨u0, hu0⟩ : ∃ b, b = decide ((c.toNat : Int) = 95) := ⟨_, rfl⟩
  repeat refine y_ ?_
  refine g_cutK [(0, B s), (1, .int .i64 10), (8, .bool false), (10, .int .u64 1844674407370955162), (11, .int .u64 9223372036854775807), (12, .bool false), (13, .int .u64 (valK 0 (s.take k) : Nat)), (15, U8 c), (99, .slice a99 s.length c99), (100, .int .i64 (s.length : Nat)), (101, .int .i64 (k : Nat)), (106, .bool false)] [.own (.slice a99 s.length c99) 5 1 (bytesV s)] ?_ ?_
  ·cases u0
   all_goals (
    repeat refine x_ ?_
    refine m_ ?_
    refine f_ ((s_eql rfl rfl).eb hu0) ?_
    refine m_ ?_
    (first | refine gl_guard_no rfl rfl rfl rfl rfl rfl rfl ?_ | (refine v_ ?_; refine m_ ?_))
    refine f_ z_4 ?_
    refine a_ ?_
    refine gl_nil ?_
    repeat refine y_ ?_)
   all_goals exact at_cut j_ i_
  repeat refine y_ ?_
  obtain ⟨d1, hd1⟩ : ∃ b, b = decide ((48 : Int) ≤ c.toNat) := ⟨_, rfl⟩
  obtain ⟨d2, hd2⟩ : ∃ b, b = decide ((c.toNat : Int) ≤ 57) := ⟨_, rfl⟩
  have hdd : isDig c = (d1 && d2) := by
   unfold isDig
   rw [hd1, hd2]
   congr 1
   ·exact decide_eq_decide.mpr (by omega)
   ·exact decide_eq_decide.mpr (by omega)
  refine g_cutK [(0, B s), (1, .int .i64 10), (8, .bool false), (10, .int .u64 1844674407370955162), (11, .int .u64 9223372036854775807), (12, .bool false), (13, .int .u64 (valK 0 (s.take k) : Nat)), (15, U8 c), (99, .slice a99 s.length c99), (100, .int .i64 (s.length : Nat)), (101, .int .i64 (k : Nat)), (112, .bool (d1 && d2))] [.own (.slice a99 s.length c99) 5 1 (bytesV s)] ?_ ?_
  ·cases d1
   all_goals (
    repeat refine x_ ?_
    refine m_ ?_
    refine f_ ((s_leq rfl rfl).eb hd1) ?_
    refine m_ ?_
    (first | refine gl_guard_no rfl rfl rfl rfl rfl rfl rfl ?_ | (refine v_ ?_; refine m_ ?_))
    (first | refine gl_guard_no rfl rfl rfl rfl rfl rfl rfl ?_ | (refine v_ ?_; refine f_ ((s_leq rfl rfl).eb hd2) ?_))
    refine f_ z_4 ?_
    refine a_ ?_
    refine gl_nil ?_
    repeat refine y_ ?_)
   all_goals exact at_cut j_ i_
  repeat refine y_ ?_
  refine g_cond rfl (fun h2 => ?_) (fun h2 => ?_)
  ·have hdc : isDig c = true := hdd.trans h2
   have hdc2 : 48 ≤ c.toNat ∧ c.toNat ≤ 57 := by
    unfold isDig at hdc
    simp only [Bool.and_eq_true, decide_eq_true_eq] at hdc
    exact hdc
   have hdk : ∀ j, j < k + 1 → isDig (s.getD j 0) = true := fun j hj => by
    rcases Nat.lt_succ_iff_lt_or_eq.1 hj with h4 | rfl
    ·exact hdg j h4
    ·rw [← hc]; exact hdc
   have hvt := val_take hk'
   rw [← hc] at hvt
   obtain ⟨n, hn⟩ : ∃ n, n = valK 0 (s.take k) := ⟨_, rfl⟩
   rw [← hn] at hvt hle ⊢
   unfold great at hle
   repeat refine x_ ?_
   refine m_ ?_
   refine f_ ((s_sub_in rfl rfl (z := ((c.toNat - 48 : Nat) : Int)) (by rw [IntKind.wrap_u8]; omega))) ?_
   refine a_ ?_
   repeat refine x_ ?_
   refine m_ ?_
   refine m_ ?_
   refine f_ (s_conv_keep_u8 rfl (by omega)) ?_
   refine f_ ((s_geq rfl rfl).eq (v' := .bool false) (congrArg Value.bool (decide_eq_false (by omega)))) ?_
   repeat refine x_ ?_
   refine m_ ?_
   refine m_ ?_
   refine f_ ((s_geq rfl rfl).eq (v' := .bool (decide (1844674407370955162 ≤ n))) (congrArg Value.bool (decide_eq_decide.mpr (by omega)))) ?_
   repeat refine n_ ?_
   refine g_cond rfl (fun h3 => ?_) (fun h3 => ?_)
   ·have h4 := of_decide_eq_true h3
    have hnone : numS s = none := num_great (k := k + 1) (by rw [hvt]; unfold great; omega)
    repeat refine x_ ?_
    refine m_ ?_
    refine f_ (s_makeIface z_7 rfl) ?_
    refine a_ ?_
    refine a_ ?_
    repeat refine n_ ?_
    refine g_ret ?_
    exact at_end2 rfl rfl rfl [] ⟨rfl, .inr ⟨9223372036854775807, 1, rfl, .inl rfl, hnone⟩⟩ (fun w hw => hw.dropAll)
   have h4 := of_decide_eq_false h3
   obtain ⟨z, hz⟩ : ∃ z : Nat, z = (n * 10 + (c.toNat - 48)) % 18446744073709551616 := ⟨_, rfl⟩
   repeat refine x_ ?_
   refine m_ ?_
   refine m_ ?_
   refine f_ (s_conv_keep_u64 rfl (by omega)) ?_
   refine f_ ((s_mul_u64 rfl rfl (by omega)).eq (v' := .int .u64 ((n * 10 : Nat) : Int)) (by congr 1)) ?_
   refine a_ ?_
   repeat refine x_ ?_
   refine m_ ?_
   refine m_ ?_
   refine f_ (s_conv_keep_u64 rfl (by omega)) ?_
   refine f_ ((s_add_in rfl rfl (z := ((z : Nat) : Int)) (by rw [IntKind.wrap_u64]; omega))) ?_
   refine a_ ?_
   repeat refine n_ ?_
   obtain ⟨e1, he1⟩ : ∃ b, b = decide ((z : Int) < ((n * 10 : Nat) : Int)) := ⟨_, rfl⟩
   obtain ⟨e2, he2⟩ : ∃ b, b = decide ((z : Int) > 9223372036854775807) := ⟨_, rfl⟩
   have hee : (e1 || e2) = true ↔ 9223372036854775807 < n * 10 + (c.toNat - 48) := by
    rw [Bool.or_eq_true, he1, he2, decide_eq_true_eq, decide_eq_true_eq]
    omega
   repeat refine y_ ?_
   refine g_cutK [(0, B s), (1, .int .i64 10), (8, .bool false), (10, .int .u64 1844674407370955162), (11, .int .u64 9223372036854775807), (12, .bool false), (17, .int .u64 (z : Nat)), (99, .slice a99 s.length c99), (100, .int .i64 (s.length : Nat)), (101, .int .i64 (k : Nat)), (159, .bool (e1 || e2))] [.own (.slice a99 s.length c99) 5 1 (bytesV s)] ?_ ?_
   ·cases e1
    all_goals (
     repeat refine x_ ?_
     refine m_ ?_
     refine m_ ?_
     refine f_ ((s_lss rfl rfl).eb he1) ?_
     refine m_ ?_
     (first | refine gl_guard_no rfl rfl rfl rfl rfl rfl rfl ?_ | (refine v_ ?_; refine m_ ?_))
     (first | refine gl_guard_no rfl rfl rfl rfl rfl rfl rfl ?_ | (refine v_ ?_; refine m_ ?_))
     (first | refine gl_guard_no rfl rfl rfl rfl rfl rfl rfl ?_ | (refine v_ ?_; refine f_ ((s_gtr rfl rfl).eb he2) ?_))
     refine f_ z_4 ?_
     refine gl_nil ?_
     repeat refine y_ ?_)
    all_goals exact at_cut j_ i_
   repeat refine y_ ?_
   refine g_cond rfl (fun h5 => ?_) (fun h5 => ?_)
   ·have h6 := hee.1 h5
    have hnone : numS s = none := num_great (k := k + 1) (by rw [hvt]; unfold great; omega)
    repeat refine x_ ?_
    refine m_ ?_
    refine f_ (s_makeIface z_7 rfl) ?_
    refine a_ ?_
    refine a_ ?_
    repeat refine n_ ?_
    refine g_ret ?_
    exact at_end2 rfl rfl rfl [] ⟨rfl, .inr ⟨9223372036854775807, 1, rfl, .inl rfl, hnone⟩⟩ (fun w hw => hw.dropAll)
   ·have h6 : ¬9223372036854775807 < n * 10 + (c.toNat - 48) := fun x => by rw [hee.2 x] at h5; cases h5
    have hzv : z = valK 0 (s.take (k + 1)) := by rw [hvt, hz]; omega
    repeat refine x_ ?_
    refine m_ ?_
    refine a_ ?_
    repeat refine x_ ?_
    refine f_ (s_add_i64 rfl rfl (by omega)) ?_
    refine m_ ?_
    repeat refine n_ ?_
    refine at_next (k + 1) ⟨by omega, hdk, by rw [← hzv, hz]; unfold great; omega⟩ (by omega) ?_ ?_
    ·rw [← hzv]
     (repeat (first | exact Sub.nil _ | refine Sub.cons rfl ?_))
    ·intro w hw; exact hw
  ·have hdc : isDig c = false := hdd.trans h2
   have hnone : numS s = none := num_digit hk' (by rw [← hc]; exact hdc)
   obtain ⟨m, hm⟩ : ∃ m, m = bits .or .u8 (c.toNat : Nat) 32 := ⟨_, rfl⟩
   obtain ⟨l1, hl1⟩ : ∃ b, b = decide ((97 : Int) ≤ m) := ⟨_, rfl⟩
   obtain ⟨l2, hl2⟩ : ∃ b, b = decide (m ≤ 122) := ⟨_, rfl⟩
   have hlw := lower_ct (c.toNat : Nat)
   rw [← hm] at hlw
   repeat refine y_ ?_
   refine g_cutK [(0, B s), (1, .int .i64 10), (15, U8 c), (101, .int .i64 (k : Nat)), (121, .bool (l1 && l2))] [.own (.slice a99 s.length c99) 5 1 (bytesV s)] ?_ ?_
   ·cases l1
    all_goals (
     repeat refine x_ ?_
     refine m_ ?_
     refine gl_callp rfl hlw (fun _ _ _ => trivial) rfl ?_
     refine f_ ((s_leq rfl rfl).eb hl1) ?_
     refine m_ ?_
     (first | refine gl_guard_no rfl rfl rfl rfl rfl rfl rfl ?_ | (refine v_ ?_; refine m_ ?_))
     (first | refine gl_guard_no rfl rfl rfl rfl rfl rfl rfl ?_ | (refine v_ ?_; refine gl_callp rfl hlw (fun _ _ _ => trivial) rfl ?_))
     (first | refine gl_guard_no rfl rfl rfl rfl rfl rfl rfl ?_ | (refine v_ ?_; refine f_ ((s_leq rfl rfl).eb hl2) ?_))
     refine f_ z_4 ?_
     refine a_ ?_
     refine gl_nil ?_
     repeat refine y_ ?_)
    all_goals exact at_cut j_ i_
   repeat refine y_ ?_
   refine g_cond rfl (fun h3 => ?_) (fun h3 => ?_)
   ·have hm2 : 97 ≤ m ∧ m ≤ 122 := by
     simp only [Bool.and_eq_true] at h3
     exact ⟨of_decide_eq_true (hl1.symm.trans h3.1), of_decide_eq_true (hl2.symm.trans h3.2)⟩
    repeat refine x_ ?_
    refine m_ ?_
    refine gl_callp rfl hlw (fun _ _ _ => trivial) rfl ?_
    refine f_ ((s_sub_in rfl rfl (z := m - 97) (by rw [IntKind.wrap_u8]; omega))) ?_
    refine f_ ((s_add_in rfl rfl (z := m - 97 + 10) (by rw [IntKind.wrap_u8]; omega))) ?_
    refine a_ ?_
    repeat refine x_ ?_
    refine m_ ?_
    refine m_ ?_
    refine f_ (s_conv_keep_u8 rfl (by omega)) ?_
    refine f_ ((s_geq rfl rfl).eq (v' := .bool true) (congrArg Value.bool (decide_eq_true (by omega)))) ?_
    repeat refine x_ ?_
    refine f_ (s_makeIface z_7 rfl) ?_
    refine a_ ?_
    refine a_ ?_
    repeat refine n_ ?_
    refine g_ret ?_
    exact at_end2 rfl rfl rfl [] ⟨rfl, .inr ⟨0, 2, rfl, .inr rfl, hnone⟩⟩ (fun w hw => hw.dropAll)
   ·repeat refine y_ ?_
    repeat refine x_ ?_
    refine f_ (s_makeIface z_7 rfl) ?_
    refine a_ ?_
    refine a_ ?_
    repeat refine n_ ?_
    refine g_ret ?_
    exact at_end2 rfl rfl rfl [] ⟨rfl, .inr ⟨0, 2, rfl, .inr rfl, hnone⟩⟩ (fun w hw => hw.dropAll)
 ·have hkl : k = s.length := by simp at h; omega
  subst hkl
  rw [List.take_length] at hle
  rw [List.take_length]
  repeat refine x_ ?_
  refine m_ ?_
  refine m_ ?_
  (refine gl_guard_no rfl rfl rfl rfl rfl rfl rfl ?_)
  (refine gl_guard_no rfl rfl rfl rfl rfl rfl rfl ?_)
  (refine gl_guard_no rfl rfl rfl rfl rfl rfl rfl ?_)
  refine f_ (by exact s_pick_f rfl rfl) ?_
  repeat refine x_ ?_
  refine m_ ?_
  refine a_ ?_
  refine a_ ?_
  repeat refine n_ ?_
  refine g_ret ?_
  exact at_end2 rfl rfl rfl [] ⟨rfl, .inl ⟨rfl, hne, hdg, hle⟩⟩ (fun w hw => hw.dropAll)
end Go.Proofs.YtgllpcggdcknaaaGreatDoor.Rp
namespace Go.Proofs.YtgllpcggdcknaaaGreatDoor.Rp
open Go Go.Sl Go.RowKit
section
variable {P : Program} {L : Lcs} {dst : Option Tmp} {t t' : TypeId} {x y : Operand} {ty : TypeId} {pos : String} {af : Array Edge} {gd : Option (Nat × Bool)}
theorem s_neq_ifnil {ms : Array (String × TypeId)} {u : TypeId} {v : Value} [hu : HU P t (.interface ms)] (hx : ev L x = some (.iface u v)) (hy : ev L y = some .nilIface) : OpF P ⟨dst, .binOp .neq t x y t', ty, pos, af, gd⟩ L (.bool true) := by
 have hm : P.underlying t = some (.interface (P.methodsAt t)) := by unfold Program.methodsAt; rw [hu.h]
 exact s_bin hx hy (fun w => by
  rw [eqGuard_at_iface]
  exact run_neq_held_nil w t u v hm)
theorem s_neq_nilnil {ms : Array (String × TypeId)} {c : Value} [hu : HU P t (.interface ms)] (hx : ev L x = some .nilIface) (hy : ev L (.const c) = some .nilIface) : OpF P ⟨dst, .binOp .neq t x (.const c) t', ty, pos, af, gd⟩ L (.bool false) := by
 have hm : P.underlying t = some (.interface (P.methodsAt t)) := by unfold Program.methodsAt; rw [hu.h]
 exact s_bin hx hy (fun w => by
  rw [eqGuard_nil_constR]
  exact run_neq_nil_nil w t hm)
end
theorem cell0 {w : World} {b : Nat} {v : Value} {t : TypeId} {fr : Nat × Nat} (h : hp w b = some (.cells #[v] t fr)) : w.cell? ⟨b, 0, none⟩ = some v := by
 have h' : w.heap[b]? = some (.cells #[v] t fr) := h
 simp [World.cell?, h']
def ErrP (v : Value) (A : List As) : Prop := A = [] ∧ ∃ N : Nat, v = .iface 146 (.pointer (some ⟨N, 0, none⟩))
theorem ct_below {P : Program} {f : FuncId} {args : List Value} {Pre : Heap → Prop} {Q : Value → Prop}
  (h : ∀ w, Pre (hp w) → Calls P f args.toArray w fun e w' => ∃ v, e = .returned v ∧ Q v ∧ Below w.heap.size w w') : Ct P f args Pre [] (fun v A => A = [] ∧ Q v) := by
 intro w bs hsat hnd hpre
 have hb : bs = [] := hsat
 subst hb
 rw [hpBut_nil] at hpre
 refine (h w hpre).mono ?_
 rintro e w' ⟨v, rfl, hq, hbel⟩
 refine ⟨v, [], rfl, ⟨rfl, hq⟩, hbel.os, hbel.tape, hbel.output, fun b o hbo => ?_, [], rfl, List.nodup_nil, by simp⟩
 have h3 : w.heap[b]? = some o := hpBut_le w [] b o hbo
 have h4 : b < w.heap.size := (Array.getElem?_eq_some_iff.1 h3).1
 show w'.heap[b]? = _
 rw [hbel.block b h4]; exact h3
theorem toError_ct (fn s : Bs) (base bits k : Int) (hs : s.length ≤ 281474976710656) (hk : k = 1 ∨ k = 2) : Ct Tryz.prog 123 [B fn, B s, .int .i64 base, .int .i64 bits, .iface 144 (.int .i64 k)] Gl [] ErrP := by
 refine ct_below fun w hg => ?_
 rcases hk with rfl | rfl
 ·obtain ⟨e, t, fr, h3, he⟩ := hg.rng
  refine (Tryz.strconv_toError_range ⟨fn.toArray⟩ ⟨s.toArray⟩ base bits e w (by simpa [ByteArray.size] using hs) (cell0 h3) he).mono ?_
  rintro e w' ⟨N, rfl, _, _, hb⟩
  exact ⟨_, rfl, ⟨N, rfl⟩, hb⟩
 ·obtain ⟨e, t, fr, h3, he⟩ := hg.syn
  refine (Tryz.strconv_toError_syntax ⟨fn.toArray⟩ ⟨s.toArray⟩ base bits e w (by simpa [ByteArray.size] using hs) (cell0 h3) he).mono ?_
  rintro e w' ⟨N, rfl, _, _, hb⟩
  exact ⟨_, rfl, ⟨N, rfl⟩, hb⟩
def UP2 (s : Bs) (v : Value) (A : List As) : Prop := A = [] ∧ ((v = .tuple #[.int .u64 (valK 0 s : Nat), .nilIface] ∧ IsNum s) ∨ ∃ (n : Int) (N : Nat), v = .tuple #[.int .u64 n, .iface 146 (.pointer (some ⟨N, 0, none⟩))] ∧ numS s = none)
theorem ParseUint_ct (s : Bs) (hs : s.length ≤ 281474976710656) : Ct Tryz.prog 110 [B s, .int .i64 10, .int .i64 63] Gl [] (UP2 s) := by
 refine ct_enter 26 Tryz.func110 rfl rfl rfl ?_
 intro F hg
 repeat refine x_ ?_
 refine a_ ?_
 refine a_ ?_
 repeat refine x_ ?_
 refine m_ ?_
 refine m_ ?_
 refine m_ ?_
 refine gl_call _ rfl (ParseUintI_ct s (by omega)) i_ (fun _ _ _ => trivial) rfl ?_
 rintro v A ⟨rfl, ⟨rfl, hnum⟩ | ⟨n, k, rfl, hk, hnone⟩⟩
 ·skip
  refine m_ ?_
  refine f_ (s_extract rfl rfl) ?_
  refine f_ (s_extract rfl rfl) ?_
  refine a_ ?_
  refine a_ ?_
  repeat refine x_ ?_
  refine m_ ?_
  refine f_ (s_neq_nilnil rfl rfl) ?_
  repeat refine x_ ?_
  refine m_ ?_
  refine a_ ?_
  refine a_ ?_
  repeat refine n_ ?_
  refine g_ret ?_
  exact at_end2 rfl rfl rfl [] ⟨rfl, .inl ⟨rfl, hnum⟩⟩ i_
 ·skip
  refine m_ ?_
  refine f_ (s_extract rfl rfl) ?_
  refine f_ (s_extract rfl rfl) ?_
  refine a_ ?_
  refine a_ ?_
  repeat refine x_ ?_
  refine m_ ?_
  refine f_ (s_neq_ifnil rfl rfl) ?_
  repeat refine x_ ?_
  refine m_ ?_
  refine m_ ?_
  refine m_ ?_
  refine m_ ?_
  refine m_ ?_
  refine gl_call _ rfl (toError_ct _ s 10 63 k hs hk) i_ (fun h hh hb => hg.le hh) rfl ?_; rintro v A ⟨rfl, N, rfl⟩
  refine a_ ?_
  refine a_ ?_
  repeat refine n_ ?_
  refine g_ret ?_
  exact at_end2 rfl rfl rfl [] ⟨rfl, .inr ⟨n, N, rfl, hnone⟩⟩ i_
theorem numS_of {s : Bs} (h : IsNum s) : numS s = if digS (valK 0 s) = s then some (valK 0 s) else none := by
 unfold numS
 by_cases h1 : digS (valK 0 s) = s
 ·rw [if_pos ⟨h1, h.le⟩, if_pos h1]
 ·rw [if_neg (fun x => h1 x.1), if_neg h1]
theorem NumberW_ct (s : Bs) (hs : s.length ≤ 281474976710656) : Pu Tryz.prog 91 [B s] Gl (numV (numS s)) := by
 refine ct_enter 20 Tryz.func91 rfl rfl rfl ?_
 intro F hg
 repeat refine x_ ?_
 refine a_ ?_
 refine a_ ?_
 repeat refine x_ ?_
 refine m_ ?_
 refine gl_call _ rfl (ParseUint_ct s hs) i_ (fun h hh hb => hg.le hh) rfl ?_
 rintro v A ⟨rfl, ⟨rfl, hnum⟩ | ⟨n, N, rfl, hnone⟩⟩
 ·skip
  refine m_ ?_
  refine f_ (s_extract rfl rfl) ?_
  refine f_ (s_extract rfl rfl) ?_
  refine a_ ?_
  refine a_ ?_
  refine gl_nil ?_
  rw [numS_of hnum]
  have hv : valK 0 s < 18446744073709551616 := by have := hnum.le; unfold great at this; omega
  repeat refine x_ ?_
  refine m_ ?_
  refine f_ (s_neq_nilnil rfl rfl) ?_
  refine m_ ?_
  (refine v_ ?_; refine m_ ?_)
  (refine v_ ?_; refine gl_callp rfl (Digits_ct (valK 0 s) hv) (fun h hh hb => hg.le hh) rfl ?_)
  (refine v_ ?_; refine m_ ?_)
  (refine v_ ?_; refine f_ ((s_neq_str rfl rfl).eq (v' := .bool (!decide (digS (valK 0 s) = s))) rfl) ?_)
  refine f_ (by exact s_pick_f rfl rfl) ?_
  repeat refine n_ ?_
  refine g_cond rfl (fun h => ?_) (fun h => ?_)
  ·rw [if_neg (by simpa using h)]
   repeat refine x_ ?_
   refine a_ ?_
   refine a_ ?_
   repeat refine n_ ?_
   refine g_ret ?_
   exact at_end2 rfl rfl rfl [] ⟨rfl, rfl⟩ i_
  ·rw [if_pos (by simpa using h)]
   repeat refine x_ ?_
   refine m_ ?_
   refine a_ ?_
   refine a_ ?_
   repeat refine n_ ?_
   refine g_ret ?_
   exact at_end2 rfl rfl rfl [] ⟨rfl, rfl⟩ i_
 ·skip
  refine m_ ?_
  refine f_ (s_extract rfl rfl) ?_
  refine f_ (s_extract rfl rfl) ?_
  refine a_ ?_
  refine a_ ?_
  refine gl_nil ?_
  rw [hnone]
  repeat refine x_ ?_
  refine m_ ?_
  refine f_ (s_neq_ifnil rfl rfl) ?_
  refine m_ ?_
  (refine gl_guard_no rfl rfl rfl rfl rfl rfl rfl ?_)
  (refine gl_guard_no rfl rfl rfl rfl rfl rfl rfl ?_)
  (refine gl_guard_no rfl rfl rfl rfl rfl rfl rfl ?_)
  (refine gl_guard_no rfl rfl rfl rfl rfl rfl rfl ?_)
  refine f_ (by exact s_pick_t rfl rfl) ?_
  repeat refine x_ ?_
  refine a_ ?_
  refine a_ ?_
  repeat refine n_ ?_
  refine g_ret ?_
  exact at_end2 rfl rfl rfl [] ⟨rfl, rfl⟩ i_
end Go.Proofs.YtgllpcggdcknaaaGreatDoor.Rp
namespace Go.Proofs.YtgllpcggdcknaaaGreatDoor.Rp
open Go Go.Sl Go.RowKit
theorem quotableW_ct (c : UInt8) : Pu Tryz.prog 99 [U8 c] (fun _ => True) (.bool (quotable c)) := by
 obtain ⟨q1, h1⟩ : ∃ q, q = decide ((c.toNat : Int) > 0) := ⟨_, rfl⟩
 obtain ⟨q2, h2⟩ : ∃ q, q = decide ((c.toNat : Int) < 128) := ⟨_, rfl⟩
 obtain ⟨q3, h3⟩ : ∃ q, q = !decide (c = 10) := ⟨_, rfl⟩
 obtain ⟨q4, h4⟩ : ∃ q, q = !decide (c = 13) := ⟨_, rfl⟩
 have e : quotable c = (q1 && q2 && q3 && q4) := by
  rw [h1, h2, h3, h4]
  unfold quotable
  have e1 : decide (0 < c.toNat) = decide ((c.toNat : Int) > 0) := decide_eq_decide.mpr (by omega)
  have e2 : decide (c.toNat < 128) = decide ((c.toNat : Int) < 128) := decide_eq_decide.mpr (by omega)
  rw [e1, e2]
  by_cases a : c = 10 <;> by_cases b : c = 13 <;> simp [a, b]
 rw [e]
 clear e
 refine ct_enter 17 Tryz.func99 rfl rfl rfl ?_
 intro F _
 repeat refine x_ ?_
 refine a_ ?_
 repeat refine n_ ?_
 cases q1 <;> cases q2 <;> cases q3
 all_goals (
  repeat refine x_ ?_
  refine m_ ?_
  refine f_ ((s_gtr rfl rfl).eb h1) ?_
  refine m_ ?_
  (first | refine gl_guard_no rfl rfl rfl rfl rfl rfl rfl ?_ | (refine v_ ?_; refine m_ ?_))
  (first | refine gl_guard_no rfl rfl rfl rfl rfl rfl rfl ?_ | (refine v_ ?_; refine f_ ((s_lss rfl rfl).eb h2) ?_))
  refine f_ z_4 ?_
  refine m_ ?_
  (first | refine gl_guard_no rfl rfl rfl rfl rfl rfl rfl ?_ | (refine v_ ?_; refine m_ ?_))
  (first | refine gl_guard_no rfl rfl rfl rfl rfl rfl rfl ?_ | (refine v_ ?_; refine f_ ((s_neq rfl rfl).eq ((congrArg (fun b => Value.bool (!b)) (u8_eq (b := 10))).trans (congrArg Value.bool h3.symm))) ?_))
  refine f_ z_4 ?_
  refine m_ ?_
  (first | refine gl_guard_no rfl rfl rfl rfl rfl rfl rfl ?_ | (refine v_ ?_; refine m_ ?_))
  (first | refine gl_guard_no rfl rfl rfl rfl rfl rfl rfl ?_ | (refine v_ ?_; refine f_ ((s_neq rfl rfl).eq ((congrArg (fun b => Value.bool (!b)) (u8_eq (b := 13))).trans (congrArg Value.bool h4.symm))) ?_))
  refine f_ z_4 ?_
  refine a_ ?_
  refine gl_nil ?_
  repeat refine y_ ?_)
 all_goals (refine g_ret ?_; exact at_end1 rfl rfl [] ⟨rfl, rfl⟩ (fun _ h => h))
theorem idx_lt (s : Bs) (c : UInt8) : decide (Lib.indexByte s c < 0) = !s.contains c := by
 rw [indexByte_eq]
 cases s.contains c with
 | true => simp
 | false => simp
theorem atomB_ct (c : UInt8) : Pu Tryz.prog 58 [U8 c] (fun _ => True) (.bool (isAtom c)) := by
 obtain ⟨q1, h1⟩ : ∃ q, q = decide ((c.toNat : Int) > 32) := ⟨_, rfl⟩
 obtain ⟨q2, h2⟩ : ∃ q, q = decide ((c.toNat : Int) < 127) := ⟨_, rfl⟩
 obtain ⟨q3, h3⟩ : ∃ q, q = !([40, 41, 123, 37, 42, 34, 92, 93] : Bs).contains c := ⟨_, rfl⟩
 have e : isAtom c = (q1 && q2 && q3) := by
  rw [h1, h2, h3]
  unfold isAtom
  have e1 : decide (33 ≤ c.toNat) = decide ((c.toNat : Int) > 32) := decide_eq_decide.mpr (by omega)
  have e2 : decide (c.toNat ≤ 126) = decide ((c.toNat : Int) < 127) := decide_eq_decide.mpr (by omega)
  rw [e1, e2]
 rw [e]
 clear e
 refine ct_enter 14 Tryz.func58 rfl rfl rfl ?_
 intro F _
 repeat refine x_ ?_
 refine a_ ?_
 repeat refine n_ ?_
 cases q1 <;> cases q2
 all_goals (
  repeat refine x_ ?_
  refine m_ ?_
  refine f_ ((s_gtr rfl rfl).eb h1) ?_
  refine m_ ?_
  (first | refine gl_guard_no rfl rfl rfl rfl rfl rfl rfl ?_ | (refine v_ ?_; refine m_ ?_))
  (first | refine gl_guard_no rfl rfl rfl rfl rfl rfl rfl ?_ | (refine v_ ?_; refine f_ ((s_lss rfl rfl).eb h2) ?_))
  refine f_ z_4 ?_
  refine m_ ?_
  (first | refine gl_guard_no rfl rfl rfl rfl rfl rfl rfl ?_ | (refine v_ ?_; refine m_ ?_))
  (first | refine gl_guard_no rfl rfl rfl rfl rfl rfl rfl ?_ | (refine v_ ?_; refine gl_callp rfl (IndexByte_ct [40, 41, 123, 37, 42, 34, 92, 93] c) (fun _ _ _ => trivial) rfl ?_))
  (first | refine gl_guard_no rfl rfl rfl rfl rfl rfl rfl ?_ | (refine v_ ?_; refine f_ ((s_lss rfl rfl).eq (congrArg Value.bool ((idx_lt _ c).trans h3.symm))) ?_))
  refine f_ z_4 ?_
  refine a_ ?_
  refine gl_nil ?_
  repeat refine y_ ?_)
 all_goals (refine g_ret ?_; exact at_end1 rfl rfl [] ⟨rfl, rfl⟩ (fun _ h => h))
theorem boxB_ct (c : UInt8) : Pu Tryz.prog 109 [U8 c] (fun _ => True) (.bool (boxC c)) := by
 obtain ⟨q1, h1⟩ : ∃ q, q = decide ((c.toNat : Int) ≥ 32) := ⟨_, rfl⟩
 obtain ⟨q2, h2⟩ : ∃ q, q = decide ((c.toNat : Int) < 127) := ⟨_, rfl⟩
 obtain ⟨q3, h3⟩ : ∃ q, q = !([37, 42, 34, 92] : Bs).contains c := ⟨_, rfl⟩
 have e : boxC c = (q1 && q2 && q3) := by
  rw [h1, h2, h3]
  unfold boxC
  have e1 : decide (32 ≤ c.toNat) = decide ((c.toNat : Int) ≥ 32) := decide_eq_decide.mpr (by omega)
  have e2 : decide (c.toNat ≤ 126) = decide ((c.toNat : Int) < 127) := decide_eq_decide.mpr (by omega)
  rw [e1, e2]
 rw [e]
 clear e
 refine ct_enter 14 Tryz.func109 rfl rfl rfl ?_
 intro F _
 repeat refine x_ ?_
 refine a_ ?_
 repeat refine n_ ?_
 cases q1 <;> cases q2
 all_goals (
  repeat refine x_ ?_
  refine m_ ?_
  refine f_ ((s_geq rfl rfl).eb h1) ?_
  refine m_ ?_
  (first | refine gl_guard_no rfl rfl rfl rfl rfl rfl rfl ?_ | (refine v_ ?_; refine m_ ?_))
  (first | refine gl_guard_no rfl rfl rfl rfl rfl rfl rfl ?_ | (refine v_ ?_; refine f_ ((s_lss rfl rfl).eb h2) ?_))
  refine f_ z_4 ?_
  refine m_ ?_
  (first | refine gl_guard_no rfl rfl rfl rfl rfl rfl rfl ?_ | (refine v_ ?_; refine m_ ?_))
  (first | refine gl_guard_no rfl rfl rfl rfl rfl rfl rfl ?_ | (refine v_ ?_; refine gl_callp rfl (IndexByte_ct [37, 42, 34, 92] c) (fun _ _ _ => trivial) rfl ?_))
  (first | refine gl_guard_no rfl rfl rfl rfl rfl rfl rfl ?_ | (refine v_ ?_; refine f_ ((s_lss rfl rfl).eq (congrArg Value.bool ((idx_lt _ c).trans h3.symm))) ?_))
  refine f_ z_4 ?_
  refine a_ ?_
  refine gl_nil ?_
  repeat refine y_ ?_)
 all_goals (refine g_ret ?_; exact at_end1 rfl rfl [] ⟨rfl, rfl⟩ (fun _ h => h))
theorem all_ct (f : FuncId) (p : UInt8 → Bool) (hp : ∀ c, Pu Tryz.prog f [U8 c] (fun _ => True) (.bool (p c))) [hF : HF Tryz.prog f] (s : Bs) (hs : s.length ≤ 9223372036854775806) : Pu Tryz.prog 57 [B s, .func (.func f) #[] #[]] (fun _ => True) (.bool (s.all p && !s.isEmpty)) := by
 refine ct_enter 20 Tryz.func57 rfl rfl rfl ?_
 intro F _
 repeat refine x_ ?_
 refine a_ ?_
 repeat refine x_ ?_
 refine m_ ?_
 refine f_ (s_len_str rfl) ?_
 refine m_ ?_
 repeat refine n_ ?_
 refine g_loop (ι := Nat) (fun k => k ≤ s.length ∧ ∀ j, j < k → p (s.getD j 0) = true) (fun k => [(0, B s), (1, .func (.func f) #[] #[]), (7, .int .i64 (s.length : Nat)), (8, .int .i64 (k : Nat))]) (fun _ => []) (fun k => s.length - k) 0 ⟨by omega, fun j h => by omega⟩ ?_ ?_ ?_
 ·(repeat (first | exact Sub.nil _ | refine Sub.cons rfl ?_))
 ·intro w hw; exact hw
 rintro k ⟨hk, hno⟩
 repeat refine x_ ?_
 refine f_ (s_lss rfl rfl) ?_
 repeat refine n_ ?_
 refine g_cond rfl (fun h => ?_) (fun h => ?_)
 ·have hk' : k < s.length := by simp at h; omega
  repeat refine x_ ?_
  refine m_ ?_
  refine a_ ?_
  repeat refine x_ ?_
  refine m_ ?_
  refine m_ ?_
  refine m_ ?_
  refine f_ ((s_index_str rfl rfl (by omega)).eq (v' := U8 (s.getD k 0)) (by simp only [Int.toNat_natCast])) ?_
  refine gl_callv [] rfl rfl (ps := []) (qs := []) rfl (hp (s.getD k 0)) i_ (fun _ _ _ => trivial) rfl ?_; rintro v A ⟨rfl, rfl⟩
  refine f_ (s_not rfl) ?_
  repeat refine n_ ?_
  refine g_cond rfl (fun h2 => ?_) (fun h2 => ?_)
  ·have h3 : p (s.getD k 0) = false := by simpa using h2
   rw [all_no hk' h3, Bool.false_and]
   repeat refine x_ ?_
   refine a_ ?_
   repeat refine n_ ?_
   refine g_ret ?_
   exact at_end1 rfl rfl [] ⟨rfl, rfl⟩ (fun _ h => h)
  ·have h3 : p (s.getD k 0) = true := by simpa using h2
   repeat refine x_ ?_
   refine f_ (s_add_i64 rfl rfl (by omega)) ?_
   refine m_ ?_
   repeat refine n_ ?_
   refine at_next (k + 1) ⟨by omega, fun j hj => ?_⟩ (by omega) ?_ ?_
   ·rcases Nat.lt_succ_iff_lt_or_eq.1 hj with h4 | rfl
    ·exact hno j h4
    ·exact h3
   ·(repeat (first | exact Sub.nil _ | refine Sub.cons rfl ?_))
   ·intro w hw; exact hw
 ·have hkl : k = s.length := by simp at h; omega
  subst hkl
  rw [all_yes hno, Bool.true_and]
  repeat refine x_ ?_
  refine m_ ?_
  refine f_ ((s_neq_str rfl rfl).eq (v' := .bool (!s.isEmpty)) (by cases s <;> simp)) ?_
  refine a_ ?_
  repeat refine n_ ?_
  refine g_ret ?_
  exact at_end1 rfl rfl [] ⟨rfl, rfl⟩ (fun _ h => h)
theorem AtomW_ct (s : Bs) (hs : s.length ≤ 9223372036854775806) : Pu Tryz.prog 24 [B s] (fun _ => True) (.bool (atomS s)) := by
 refine ct_enter 5 Tryz.func24 rfl rfl rfl ?_
 intro F _
 repeat refine x_ ?_
 refine a_ ?_
 repeat refine x_ ?_
 refine m_ ?_
 refine gl_callp rfl (all_ct 58 isAtom atomB_ct s hs) (fun _ _ _ => trivial) rfl ?_
 refine a_ ?_
 repeat refine n_ ?_
 refine g_ret ?_
 exact at_end1 rfl rfl [] ⟨rfl, rfl⟩ (fun _ h => h)
theorem bytesV_append (a b : Bs) : bytesV (a ++ b) = bytesV a ++ bytesV b := by simp [bytesV]
theorem putx_byte {a r : Bs} {d c : UInt8} : putx (bytesV (a ++ d :: r)) a.length [U8 c] = bytesV (a ++ c :: r) := by
 unfold putx
 rw [bytesV_append, bytesV_append]
 have hl : (bytesV a).length = a.length := bytesV_len a
 rw [List.take_left' hl, List.length_singleton, ← hl, List.drop_length_add_append]
 simp [bytesV]
theorem map_step (f : UInt8 → UInt8) {s : Bs} {k : Nat} (hk : k < s.length) : (s.take (k + 1)).map f ++ s.drop (k + 1) = (s.take k).map f ++ f (s.getD k 0) :: s.drop (k + 1) := by
 rw [take_succ_map f hk]
 simp
theorem UpperW_ct (s : Bs) (hl : s.length ≤ 9223372036854775806) : Pu Tryz.prog 68 [B s] (fun _ => True) (B (upS s)) := by
 refine ct_enter 29 Tryz.func68 rfl rfl rfl ?_
 intro F _
 repeat refine x_ ?_
 refine a_ ?_
 repeat refine x_ ?_
 refine m_ ?_
 refine gl_bytes rfl rfl ?_; intro a1 c1 hc1
 refine a_ ?_
 repeat refine x_ ?_
 refine m_ ?_
 refine f_ (s_len_sl rfl) ?_
 refine m_ ?_
 repeat refine n_ ?_
 refine g_loop (ι := Nat) (fun k => k ≤ s.length) (fun k => [(3, .slice a1 s.length c1), (8, .slice a1 s.length c1), (9, .int .i64 (s.length : Nat)), (10, .int .i64 (k : Nat))]) (fun k => [.own (.slice a1 s.length c1) 5 1 (bytesV (upS (s.take k) ++ s.drop k))]) (fun k => s.length - k) 0 (by omega) ?_ ?_ ?_
 ·(repeat (first | exact Sub.nil _ | refine Sub.cons rfl ?_))
 ·intro w hw; exact hw
 rintro k hk
 repeat refine x_ ?_
 refine f_ (s_lss rfl rfl) ?_
 repeat refine n_ ?_
 refine g_cond rfl (fun h => ?_) (fun h => ?_)
 ·have hk' : k < s.length := by simp at h; omega
  have hst := map_step upC hk'
  have hdr := drop_get hk'
  have hul : (upS (s.take k)).length = k := by unfold upS; rw [List.length_map, List.length_take]; omega
  obtain ⟨c, hc⟩ : ∃ c, c = s.getD k 0 := ⟨_, rfl⟩
  rw [← hc] at hst hdr
  have hge : (upS (s.take k) ++ s.drop k).getD k 0 = c := by
   rw [List.getD_eq_getElem?_getD, List.getElem?_append_right (by omega), hul, Nat.sub_self, hdr]
   rfl
  have htl : (upS (s.take k) ++ s.drop k).length = s.length := by rw [List.length_append, hul, List.length_drop]; omega
  have hc255 := c.toNat_lt
  repeat refine x_ ?_
  refine m_ ?_
  refine r_ (s_indexAddr_own rfl z_3 rfl (by omega)) ?_
  refine r_ ((s_load1 rfl (fun w hw => rdC_own hw z_3 (i := k) (by omega) (by omega))).eq (v' := U8 c) (by rw [hge])) ?_
  refine a_ ?_
  refine a_ ?_
  repeat refine n_ ?_
  obtain ⟨q1, h1⟩ : ∃ q, q = decide ((c.toNat : Int) ≥ 97) := ⟨_, rfl⟩
  obtain ⟨q2, h2⟩ : ∃ q, q = decide ((c.toNat : Int) ≤ 122) := ⟨_, rfl⟩
  repeat refine y_ ?_
  refine g_cutK [(3, .slice a1 s.length c1), (4, .int .i64 (k : Nat)), (5, U8 c), (8, .slice a1 s.length c1), (9, .int .i64 (s.length : Nat)), (10, .int .i64 (k : Nat)), (20, .bool (q1 && q2))] [.own (.slice a1 s.length c1) 5 1 (bytesV (upS (s.take k) ++ s.drop k))] ?_ ?_
  ·cases q1
   all_goals (
    repeat refine x_ ?_
    refine m_ ?_
    refine f_ ((s_geq rfl rfl).eb h1) ?_
    refine m_ ?_
    (first | refine gl_guard_no rfl rfl rfl rfl rfl rfl rfl ?_ | (refine v_ ?_; refine m_ ?_))
    (first | refine gl_guard_no rfl rfl rfl rfl rfl rfl rfl ?_ | (refine v_ ?_; refine f_ ((s_leq rfl rfl).eb h2) ?_))
    refine f_ z_4 ?_
    refine gl_nil ?_
    repeat refine y_ ?_)
   all_goals exact at_cut j_ i_
  repeat refine y_ ?_
  refine g_cond rfl (fun h3 => ?_) (fun h3 => ?_)
  ·have hcc : 97 ≤ c.toNat ∧ c.toNat ≤ 122 := by
    simp only [Bool.and_eq_true] at h3
    have a := of_decide_eq_true (h1.symm.trans h3.1)
    have b := of_decide_eq_true (h2.symm.trans h3.2)
    omega
   have hup : upC c = c - 32 := by unfold upC; rw [if_pos hcc]
   have hsub : (c.toNat : Int) - 32 = ((c - 32).toNat : Nat) := by
    rw [UInt8.toNat_sub]
    simp
    omega
   repeat refine x_ ?_
   refine m_ ?_
   refine m_ ?_
   refine m_ ?_
   refine f_ ((s_sub_in rfl rfl (z := ((c - 32).toNat : Nat)) (by rw [IntKind.wrap_u8]; omega))) ?_
   refine r_ (s_indexAddr_own rfl z_3 rfl (by omega)) ?_
   refine gl_store_own (q := k * 1) rfl rfl z_5 z_8 (by decide) z_2 (by rw [bytesV_len, htl]; omega) ?_
   repeat refine x_ ?_
   refine f_ (s_add_i64 rfl rfl (by omega)) ?_
   refine m_ ?_
   repeat refine n_ ?_
   refine at_next (k + 1) (by omega) (by omega) ?_ ?_
   ·(repeat (first | exact Sub.nil _ | refine Sub.cons rfl ?_))
   ·intro w hw
    have e : putx (bytesV (upS (s.take k) ++ s.drop k)) (k * 1) [U8 (c - 32)] = bytesV (upS (s.take (k + 1)) ++ s.drop (k + 1)) := by
     have h5 : upS (s.take (k + 1)) ++ s.drop (k + 1) = upS (s.take k) ++ (c - 32) :: s.drop (k + 1) := by rw [← hup]; exact hst
     rw [h5, hdr, Nat.mul_one]
     have h6 := putx_byte (a := upS (s.take k)) (r := s.drop (k + 1)) (d := c) (c := c - 32)
     rwa [hul] at h6
    rw [← e]
    exact hw
  ·have hup : upC c = c := by
    unfold upC
    refine if_neg fun hh => ?_
    have a : q1 = true := h1.trans (decide_eq_true (by omega))
    have b : q2 = true := h2.trans (decide_eq_true (by omega))
    rw [a, b] at h3
    cases h3
   repeat refine x_ ?_
   refine f_ (s_add_i64 rfl rfl (by omega)) ?_
   refine m_ ?_
   repeat refine n_ ?_
   refine at_next (k + 1) (by omega) (by omega) ?_ ?_
   ·(repeat (first | exact Sub.nil _ | refine Sub.cons rfl ?_))
   ·intro w hw
    have e : upS (s.take k) ++ s.drop k = upS (s.take (k + 1)) ++ s.drop (k + 1) := by
     have h5 : upS (s.take (k + 1)) ++ s.drop (k + 1) = upS (s.take k) ++ upC c :: s.drop (k + 1) := hst
     rw [h5, hup, hdr]
    rw [← e]
    exact hw
 ·have hkl : k = s.length := by simp at h; omega
  subst hkl
  repeat refine x_ ?_
  refine m_ ?_
  refine r_ (s_string (l := upS s) rfl (by simp [upS]) (fun w hw => by have h5 := (hw.ownN .del).2.2.1; rwa [List.take_length, List.drop_length, List.append_nil] at h5)) ?_
  refine a_ ?_
  repeat refine n_ ?_
  refine g_ret ?_
  exact at_end1 rfl rfl [] ⟨rfl, rfl⟩ (fun _ h => h.dropAll)
theorem Itoa_ct (n : Nat) (h : n ≤ 9223372036854775807) : Pu Tryz.prog 100 [.int .i64 (n : Nat)] Gl (B (digS n)) := pu_below fun w hg => by
 refine (Tryz.strconv_Itoa (n : Nat) (by omega) (by omega) w hg.tabIs).mono ?_
 rintro e w' ⟨rfl, k, os, rfl⟩
 refine ⟨?_, ?_⟩
 ·rw [Lib.itoa_nonneg, dec_dig]
 ·exact ⟨rfl, rfl, rfl, by show w.heap.size ≤ (w.heap ++ os).size; simp, fun k hk => by show (w.heap ++ os)[k]? = _; rw [Array.getElem?_append_left hk]⟩
theorem LiteralW_ct (s : Bs) (hl : s.length ≤ big) : Pu Tryz.prog 70 [B s] Gl (B (literalS s)) := by
 have hl' := hl
 unfold big at hl
 have hd := digS_len64 (n := s.length) (by omega)
 refine ct_enter 10 Tryz.func70 rfl rfl rfl ?_
 intro F hg
 repeat refine x_ ?_
 refine a_ ?_
 repeat refine x_ ?_
 refine m_ ?_
 refine f_ (s_len_str rfl) ?_
 refine gl_callp rfl (Itoa_ct s.length (by omega)) (fun h hh hb => hg.le hh) rfl ?_
 refine f_ (s_add_str rfl rfl (by simp only [List.length_cons, List.length_nil]; omega)) ?_
 refine f_ (s_add_str rfl rfl (by simp only [List.length_append, List.length_cons, List.length_nil]; omega)) ?_
 refine m_ ?_
 refine f_ ((s_add_str rfl rfl (by simp only [List.length_append, List.length_cons, List.length_nil]; omega)).eq (v' := B (literalS s)) (by simp [literalS])) ?_
 refine a_ ?_
 repeat refine n_ ?_
 refine g_ret ?_
 exact at_end1 rfl rfl [] ⟨rfl, rfl⟩ (fun _ h => h)
end Go.Proofs.YtgllpcggdcknaaaGreatDoor.Rp
namespace Go.Proofs.YtgllpcggdcknaaaGreatDoor.Rp
open Go Go.Sl Go.RowKit
theorem bytesV_one (l : Bs) : ∀ q ∈ bytesV l, q.oneCell' = true := fun q hq => by
 obtain ⟨x, _, rfl⟩ := List.mem_map.mp hq
 rfl
set_option maxRecDepth 8000 in
theorem QuoteW_ct (s : Bs) (hl : s.length ≤ 9223372036854775806) : Pu Tryz.prog 69 [B s] (fun _ => True) (optV (quoteS s)) := by
 obtain ⟨q1, h1⟩ : ∃ q, q = decide ((s.length : Int) > 512) := ⟨_, rfl⟩
 obtain ⟨q2, h2⟩ : ∃ q, q = decide (s = []) := ⟨_, rfl⟩
 obtain ⟨q3, h3⟩ : ∃ q, q = (s.all quotable && !s.isEmpty) := ⟨_, rfl⟩
 have hq : (s.length ≤ 512 ∧ s.all quotable = true) ↔ (q1 || (!q2 && !q3)) = false := by
  rw [Bool.or_eq_false_iff, h1, decide_eq_false_iff_not]
  cases s with
  | nil => simp [h2]
  | cons c t =>
   rw [h2, h3]
   simp
   omega
 refine ct_enter 48 Tryz.func69 rfl rfl rfl ?_
 intro F _
 repeat refine x_ ?_
 refine a_ ?_
 refine a_ ?_
 repeat refine n_ ?_
 refine g_cutK [(0, B s), (17, .bool (q1 || (!q2 && !q3)))] [] ?_ ?_
 ·cases q1 <;> cases q2
  all_goals (
   repeat refine x_ ?_
   refine m_ ?_
   refine f_ (s_len_str rfl) ?_
   refine f_ ((s_gtr rfl rfl).eb h1) ?_
   refine m_ ?_
   (first | refine gl_guard_no rfl rfl rfl rfl rfl rfl rfl ?_ | (refine v_ ?_; refine m_ ?_))
   (first | refine gl_guard_no rfl rfl rfl rfl rfl rfl rfl ?_ | (refine v_ ?_; refine f_ ((s_neq_str rfl rfl).eq (congrArg (fun b => Value.bool (!b)) h2.symm)) ?_))
   (first | refine gl_guard_no rfl rfl rfl rfl rfl rfl rfl ?_ | (refine v_ ?_; refine m_ ?_))
   (first|refine u_ ?_|(refine v_ ?_; refine m_ ?_))
   (first|refine u_ ?_|(refine v_ ?_; refine gl_callp rfl (all_ct 99 quotable quotableW_ct s hl) (fun _ _ _ => trivial) rfl ?_; rw [← h3]))
   (first|refine u_ ?_|(refine v_ ?_; refine f_ (s_not rfl) ?_))
   (first | refine gl_guard_no rfl rfl rfl rfl rfl rfl rfl ?_ | (refine v_ ?_; refine f_ z_4 ?_))
   refine f_ z_4 ?_
   refine gl_nil ?_
   repeat refine y_ ?_)
  all_goals exact at_cut j_ i_
 repeat refine y_ ?_
 refine g_cond rfl (fun h => ?_) (fun h => ?_)
 ·have e : quoteS s = none := by
   unfold quoteS
   exact if_neg (fun k => by rw [hq.1 k] at h; cases h)
  rw [e]
  repeat refine x_ ?_
  refine a_ ?_
  refine a_ ?_
  repeat refine n_ ?_
  refine g_ret ?_
  exact at_end2 rfl rfl rfl [] ⟨rfl, rfl⟩ (fun _ h => h)
 have hqq := hq.2 h
 have e : quoteS s = some (34 :: s.flatMap escC ++ [34]) := by unfold quoteS; exact if_pos hqq
 have hlen := esc_len s
 rw [e]
 repeat refine x_ ?_
 refine gl_buildSliceU rfl rfl rfl rfl rfl rfl (xs := bytesV [34]) rfl rfl ?_; intro a18 ha18
 refine a_ ?_
 repeat refine x_ ?_
 refine m_ ?_
 refine f_ (s_len_str rfl) ?_
 refine m_ ?_
 repeat refine n_ ?_
 refine g_loop (ι := Nat × Option Addr × Nat) (fun i => i.1 ≤ s.length) (fun i => [(0, B s), (4, .slice i.2.1 (34 :: (s.take i.1).flatMap escC).length i.2.2), (20, .int .i64 (s.length : Nat)), (21, .int .i64 (i.1 : Nat))]) (fun i => [.own (.slice i.2.1 (34 :: (s.take i.1).flatMap escC).length i.2.2) 5 1 (bytesV (34 :: (s.take i.1).flatMap escC))]) (fun i => s.length - i.1) (0, a18, 1) z_7 ?_ ?_ ?_
 ·(repeat (first | exact Sub.nil _ | refine Sub.cons rfl ?_))
 ·intro w hw; exact hw
 rintro ⟨k, a, c⟩ hk
 simp only at hk
 obtain ⟨b, hb⟩ : ∃ b, b = 34 :: (s.take k).flatMap escC := ⟨_, rfl⟩
 have hbl : b.length ≤ 2000 := by
  have := esc_len (s.take k)
  rw [List.length_take] at this
  rw [hb, List.length_cons]
  omega
 refine G.weaken (L' := [(0, B s), (4, .slice a b.length c), (20, .int .i64 (s.length : Nat)), (21, .int .i64 (k : Nat))]) (H' := [.own (.slice a b.length c) 5 1 (bytesV b)]) ?_ (by rw [hb]; (repeat (first | exact Sub.nil _ | refine Sub.cons rfl ?_))) (fun w hw => by rw [hb]; exact hw)
 repeat refine x_ ?_
 refine f_ (s_lss rfl rfl) ?_
 repeat refine n_ ?_
 refine g_cond rfl (fun h => ?_) (fun h => ?_)
 ·have hk' : k < s.length := by simp at h; omega
  have hf := flat_snoc hk'
  obtain ⟨d, hd⟩ : ∃ d, d = s.getD k 0 := ⟨_, rfl⟩
  rw [← hd] at hf
  have hf2 : 34 :: (s.take (k + 1)).flatMap escC = b ++ escC d := by rw [hf, hb]; rfl
  obtain ⟨p1, hp1⟩ : ∃ q, q = decide (d = 34) := ⟨_, rfl⟩
  obtain ⟨p2, hp2⟩ : ∃ q, q = decide (d = 92) := ⟨_, rfl⟩
  repeat refine x_ ?_
  refine m_ ?_
  refine a_ ?_
  repeat refine n_ ?_
  refine g_cutK [(0, B s), (4, .slice a b.length c), (5, .int .i64 (k : Nat)), (20, .int .i64 (s.length : Nat)), (21, .int .i64 (k : Nat)), (33, .bool (p1 || p2))] [.own (.slice a b.length c) 5 1 (bytesV b)] ?_ ?_
  ·cases p1
   all_goals (
    repeat refine x_ ?_
    refine m_ ?_
    refine m_ ?_
    refine f_ ((s_index_str rfl rfl (by omega)).eq (v' := U8 d) (by rw [hd]; simp only [Int.toNat_natCast])) ?_
    refine f_ ((s_eql rfl rfl).eq ((congrArg Value.bool (u8_eq (b := 34))).trans (congrArg Value.bool hp1.symm))) ?_
    refine m_ ?_
    (first | refine gl_guard_no rfl rfl rfl rfl rfl rfl rfl ?_ | (refine v_ ?_; refine m_ ?_))
    (first | refine gl_guard_no rfl rfl rfl rfl rfl rfl rfl ?_ | (refine v_ ?_; refine m_ ?_))
    (first | refine gl_guard_no rfl rfl rfl rfl rfl rfl rfl ?_ | (refine v_ ?_; refine f_ ((s_index_str rfl rfl (by omega)).eq (v' := U8 d) (by rw [hd]; simp only [Int.toNat_natCast])) ?_))
    (first | refine gl_guard_no rfl rfl rfl rfl rfl rfl rfl ?_ | (refine v_ ?_; refine f_ ((s_eql rfl rfl).eq ((congrArg Value.bool (u8_eq (b := 92))).trans (congrArg Value.bool hp2.symm))) ?_))
    refine f_ z_4 ?_
    refine gl_nil ?_
    repeat refine y_ ?_)
   all_goals exact at_cut j_ i_
  have hesc : escC d = if (p1 || p2) = true then [92, d] else [d] := by
   rw [hp1, hp2]
   unfold escC
   by_cases x : d = 34 <;> by_cases y : d = 92 <;> simp [x, y]
  repeat refine y_ ?_
  refine g_cond rfl (fun h4 => ?_) (fun h4 => ?_)
  ·rw [if_pos h4] at hesc
   repeat refine x_ ?_
   refine m_ ?_
   refine gl_buildSliceU rfl rfl rfl rfl rfl rfl (xs := bytesV [92]) rfl rfl ?_; intro a35 ha35
   refine gl_append rfl rfl (fun a' c' => .there .here) (fun w hw => (hw.ownN z_3).2.2.1) rfl rfl rfl (bytesV_one _) (by show (b.length + 1) * 1 ≤ _; omega) (by omega) rfl ?_; intro a5 c5 hc5
   refine a_ ?_
   repeat refine n_ ?_
   rw [show bytesV b ++ bytesV [92] = bytesV (b ++ [92]) from (bytesV_append _ _).symm]
   repeat refine x_ ?_
   refine m_ ?_
   refine m_ ?_
   refine m_ ?_
   refine f_ ((s_index_str rfl rfl (by omega)).eq (v' := U8 d) (by rw [hd]; simp only [Int.toNat_natCast])) ?_
   refine gl_buildSliceU rfl rfl rfl rfl rfl rfl (xs := bytesV [d]) rfl rfl ?_; intro a41 ha41
   refine gl_append rfl rfl (fun a' c' => .there (.there .here)) (fun w hw => (hw.ownN z_3).2.2.1) rfl rfl rfl (bytesV_one _) (by show (b.length + 1 + 1) * 1 ≤ _; omega) (by omega) rfl ?_; intro a6 c6 hc6
   refine a_ ?_
   repeat refine x_ ?_
   refine f_ (s_add_i64 rfl rfl (by omega)) ?_
   refine m_ ?_
   repeat refine n_ ?_
   refine at_next (k + 1, a6, c6) (by simp only; omega) (by simp only; omega) ?_ ?_
   ·simp only
    rw [hf2, hesc, List.length_append]
    (repeat (first | exact Sub.nil _ | refine Sub.cons rfl ?_))
   ·intro w hw
    simp only
    rw [hf2, hesc, List.length_append, show b ++ [92, d] = (b ++ [92]) ++ [d] by simp, bytesV_append (b ++ [92])]
    exact hw.drop.drop
  ·rw [if_neg (by rw [h4]; simp)] at hesc
   repeat refine x_ ?_
   refine m_ ?_
   refine m_ ?_
   refine m_ ?_
   refine f_ ((s_index_str rfl rfl (by omega)).eq (v' := U8 d) (by rw [hd]; simp only [Int.toNat_natCast])) ?_
   refine gl_buildSliceU rfl rfl rfl rfl rfl rfl (xs := bytesV [d]) rfl rfl ?_; intro a41 ha41
   refine gl_append rfl rfl (fun a' c' => .there .here) (fun w hw => (hw.ownN z_3).2.2.1) rfl rfl rfl (bytesV_one _) (by show (b.length + 1) * 1 ≤ _; omega) (by omega) rfl ?_; intro a6 c6 hc6
   refine a_ ?_
   repeat refine x_ ?_
   refine f_ (s_add_i64 rfl rfl (by omega)) ?_
   refine m_ ?_
   repeat refine n_ ?_
   refine at_next (k + 1, a6, c6) (by simp only; omega) (by simp only; omega) ?_ ?_
   ·simp only
    rw [hf2, hesc, List.length_append]
    (repeat (first | exact Sub.nil _ | refine Sub.cons rfl ?_))
   ·intro w hw
    simp only
    rw [hf2, hesc, List.length_append, bytesV_append]
    exact hw.drop
 ·have hkl : k = s.length := by simp at h; omega
  rw [hkl, List.take_length] at hb
  repeat refine x_ ?_
  refine m_ ?_
  refine gl_buildSliceU rfl rfl rfl rfl rfl rfl (xs := bytesV [34]) rfl rfl ?_; intro a45 ha45
  refine gl_append rfl rfl (fun a' c' => .there .here) (fun w hw => (hw.ownN z_3).2.2.1) rfl rfl rfl (bytesV_one _) (by show (b.length + 1) * 1 ≤ _; omega) (by omega) rfl ?_; intro a5 c5 hc5
  refine r_ (s_string (l := 34 :: s.flatMap escC ++ [34]) rfl (by rw [← hb, List.length_append]; rfl) (fun w hw => by have h5 := (hw.ownN (.there .del)).2.2.1; rwa [← bytesV_append, hb] at h5)) ?_
  refine a_ ?_
  refine a_ ?_
  repeat refine n_ ?_
  refine g_ret ?_
  exact at_end2 rfl rfl rfl [] ⟨rfl, rfl⟩ (fun _ h => h.dropAll)
theorem uq_bad {b : Bs} {i : Nat} {c : UInt8} {t : Bs} (h : quotable c = false ∨ 512 < b.length) : uqL b i (c :: t) = none := by
 rw [uqL_cons]
 rcases h with h | h
 ·split
  ·rfl
  split
  ·next h2 => subst h2; cases h
  split
  ·next h2 => subst h2; cases h
  ·simp [h]
 ·rw [if_pos h]
set_option maxRecDepth 8000 in
theorem UnquoteW_ct (s : Bs) (hl : s.length ≤ big) : Pu Tryz.prog 89 [B s] (fun _ => True) (unqV (uqS s)) := by
 unfold big at hl
 obtain ⟨q1, h1⟩ : ∃ q, q = decide (s = []) := ⟨_, rfl⟩
 obtain ⟨q2, h2⟩ : ∃ q, q = decide (s.getD 0 0 = 34) := ⟨_, rfl⟩
 have hq : (q1 || !q2) = true → uqS s = none := fun h => by
  cases s with
  | nil => rfl
  | cons c t =>
   have a1 : q1 = false := h1.trans (decide_eq_false z_7)
   rw [a1, Bool.false_or] at h
   have a2 : q2 = false := by simpa using h
   have a3 : ¬c = 34 := of_decide_eq_false (h2.symm.trans a2)
   unfold uqS
   simp only
   rw [if_neg a3]
 have hq2 : (q1 || !q2) = false → uqS s = uqL [] 1 (s.drop 1) ∧ 1 ≤ s.length := fun h => by
  cases s with
  | nil =>
   have a1 : q1 = true := h1.trans (decide_eq_true rfl)
   rw [a1] at h
   cases h
  | cons c t =>
   have a1 : q1 = false := h1.trans (decide_eq_false z_7)
   rw [a1, Bool.false_or] at h
   have a2 : q2 = true := by simpa using h
   have a3 : c = 34 := of_decide_eq_true (h2.symm.trans a2)
   unfold uqS
   simp only
   rw [if_pos a3]
   exact ⟨rfl, by simp⟩
 refine ct_enter 74 Tryz.func89 rfl rfl rfl ?_
 intro F _
 repeat refine x_ ?_
 refine a_ ?_
 refine a_ ?_
 refine a_ ?_
 repeat refine n_ ?_
 refine g_cutK [(0, B s), (14, .bool (q1 || !q2))] [] ?_ ?_
 ·cases q1
  all_goals (
   repeat refine x_ ?_
   refine m_ ?_
   refine f_ ((s_eql_str rfl rfl).eb h1) ?_
   refine m_ ?_
   (first | refine gl_guard_no rfl rfl rfl rfl rfl rfl rfl ?_ | (refine v_ ?_; refine m_ ?_))
   (first | refine gl_guard_no rfl rfl rfl rfl rfl rfl rfl ?_ | (refine v_ ?_; refine f_ ((s_index_str rfl rfl (by have : s ≠ [] := of_decide_eq_false h1.symm; have := List.length_pos_iff.mpr this; omega)).eq (v' := U8 (s.getD 0 0)) rfl) ?_))
   (first | refine gl_guard_no rfl rfl rfl rfl rfl rfl rfl ?_ | (refine v_ ?_; refine f_ ((s_neq rfl rfl).eq ((congrArg (fun b => Value.bool (!b)) (u8_eq (b := 34))).trans (congrArg (fun b => Value.bool (!b)) h2.symm))) ?_))
   refine f_ z_4 ?_
   refine gl_nil ?_
   repeat refine y_ ?_)
  all_goals exact at_cut j_ i_
 repeat refine y_ ?_
 refine g_cond rfl (fun h => ?_) (fun h => ?_)
 ·rw [hq h]
  repeat refine x_ ?_
  refine a_ ?_
  refine a_ ?_
  refine a_ ?_
  repeat refine n_ ?_
  refine g_ret ?_
  exact at_end3 rfl rfl rfl rfl [] ⟨rfl, rfl⟩ (fun _ h => h)
 obtain ⟨he0, hs1⟩ := hq2 h
 repeat refine x_ ?_
 refine a_ ?_
 repeat refine x_ ?_
 refine a_ ?_
 repeat refine n_ ?_
 refine g_own_nil 5 1 ?_
 refine g_loop (ι := Nat × Bs × Option Addr × Nat) (fun i => 1 ≤ i.1 ∧ i.1 ≤ s.length ∧ i.2.1.length ≤ 513 ∧ uqS s = uqL i.2.1 i.1 (s.drop i.1)) (fun i => [(0, B s), (5, .slice i.2.2.1 i.2.1.length i.2.2.2), (6, .int .i64 (i.1 : Nat))]) (fun i => [.own (.slice i.2.2.1 i.2.1.length i.2.2.2) 5 1 (bytesV i.2.1)]) (fun i => s.length - i.1) (1, [], none, 0) ⟨by simp, hs1, by simp, he0⟩ ?_ ?_ ?_
 ·(repeat (first | exact Sub.nil _ | refine Sub.cons rfl ?_))
 ·intro w hw; exact hw
 rintro ⟨k, b, a, c⟩ ⟨hk1, hk, hbl, he⟩
 simp only at hk1 hk hbl he
 obtain ⟨p1, hp1⟩ : ∃ q, q = decide ((k : Int) < (s.length : Nat)) := ⟨_, rfl⟩
 obtain ⟨d, hd⟩ : ∃ d, d = s.getD k 0 := ⟨_, rfl⟩
 obtain ⟨p2, hp2⟩ : ∃ q, q = quotable d := ⟨_, rfl⟩
 obtain ⟨p3, hp3⟩ : ∃ q, q = decide ((b.length : Int) ≤ 512) := ⟨_, rfl⟩
 repeat refine y_ ?_
 refine g_cutK [(0, B s), (5, .slice a b.length c), (6, .int .i64 (k : Nat)), (29, .bool (p1 && (p2 && p3)))] [.own (.slice a b.length c) 5 1 (bytesV b)] ?_ ?_
 ·cases p1 <;> cases p2
  all_goals (
   repeat refine x_ ?_
   refine m_ ?_
   refine m_ ?_
   refine f_ (s_len_str rfl) ?_
   refine f_ ((s_lss rfl rfl).eb hp1) ?_
   refine m_ ?_
   (first | refine gl_guard_no rfl rfl rfl rfl rfl rfl rfl ?_ | (refine v_ ?_; refine m_ ?_))
   (first | refine gl_guard_no rfl rfl rfl rfl rfl rfl rfl ?_ | (refine v_ ?_; refine m_ ?_))
   (first | refine gl_guard_no rfl rfl rfl rfl rfl rfl rfl ?_ | (refine v_ ?_; refine f_ ((s_index_str rfl rfl (by have := of_decide_eq_true hp1.symm; omega)).eq (v' := U8 d) (by rw [hd]; simp only [Int.toNat_natCast])) ?_))
   (first | refine gl_guard_no rfl rfl rfl rfl rfl rfl rfl ?_ | (refine v_ ?_; refine gl_callp rfl (quotableW_ct d) (fun _ _ _ => trivial) rfl ?_; rw [← hp2]))
   refine f_ z_4 ?_
   refine m_ ?_
   (first | refine gl_guard_no rfl rfl rfl rfl rfl rfl rfl ?_ | (refine v_ ?_; refine m_ ?_))
   (first | refine gl_guard_no rfl rfl rfl rfl rfl rfl rfl ?_ | (refine v_ ?_; refine f_ (s_len_sl rfl) ?_))
   (first | refine gl_guard_no rfl rfl rfl rfl rfl rfl rfl ?_ | (refine v_ ?_; refine f_ ((s_leq rfl rfl).eb hp3) ?_))
   refine f_ z_4 ?_
   refine gl_nil ?_
   repeat refine y_ ?_)
  all_goals exact at_cut j_ i_
 repeat refine y_ ?_
 refine g_cond rfl (fun h => ?_) (fun h => ?_)
 rotate_left
 ·have hnone : uqS s = none := by
   rw [he]
   rcases Nat.lt_or_ge k s.length with h5 | h5
   ·rw [drop_get h5, ← hd]
    have a1 : p1 = true := hp1.trans (decide_eq_true (by omega))
    rw [a1, Bool.true_and] at h
    refine uq_bad ?_
    cases p2 with
    | false => exact .inl hp2.symm
    | true =>
     rw [Bool.true_and] at h
     rw [h] at hp3
     have := of_decide_eq_false hp3.symm
     exact .inr (by omega)
   ·rw [List.drop_of_length_le h5]; rfl
  rw [hnone]
  repeat refine x_ ?_
  refine a_ ?_
  refine a_ ?_
  refine a_ ?_
  repeat refine n_ ?_
  refine g_ret ?_
  exact at_end3 rfl rfl rfl rfl [] ⟨rfl, rfl⟩ (fun _ h => h.dropAll)
 simp only [Bool.and_eq_true] at h
 have hk' : k < s.length := by have := of_decide_eq_true (hp1.symm.trans h.1); omega
 have hqd : quotable d = true := hp2.symm.trans h.2.1
 have hb5 : b.length ≤ 512 := by have := of_decide_eq_true (hp3.symm.trans h.2.2); omega
 rw [drop_get hk', ← hd, uqL_cons, if_neg (by omega)] at he
 repeat refine x_ ?_
 refine m_ ?_
 refine m_ ?_
 refine f_ ((s_index_str rfl rfl (by omega)).eq (v' := U8 d) (by rw [hd]; simp only [Int.toNat_natCast])) ?_
 refine a_ ?_
 repeat refine n_ ?_
 obtain ⟨r1, hr1⟩ : ∃ q, q = decide (d = 34) := ⟨_, rfl⟩
 repeat refine y_ ?_
 refine g_cutK [(0, B s), (5, .slice a b.length c), (6, .int .i64 (k : Nat)), (7, U8 d), (35, .bool r1)] [.own (.slice a b.length c) 5 1 (bytesV b)] ?_ ?_
 ·cases r1
  all_goals (
   repeat refine x_ ?_
   refine m_ ?_
   refine f_ ((s_eql rfl rfl).eq ((congrArg Value.bool (u8_eq (b := 34))).trans (congrArg Value.bool hr1.symm))) ?_
   refine m_ ?_
   (first | refine gl_guard_no rfl rfl rfl rfl rfl rfl rfl ?_ | (refine v_ ?_; refine m_ ?_))
   (first | refine gl_guard_no rfl rfl rfl rfl rfl rfl rfl ?_ | (refine v_ ?_; refine f_ (s_len_sl rfl) ?_))
   (first | refine gl_guard_no rfl rfl rfl rfl rfl rfl rfl ?_ | (refine v_ ?_; refine f_ ((s_leq rfl rfl).eq (v' := .bool true) (congrArg Value.bool (decide_eq_true (by omega)))) ?_))
   refine f_ z_4 ?_
   refine a_ ?_
   refine gl_nil ?_
   repeat refine y_ ?_)
  all_goals exact at_cut j_ i_
 repeat refine y_ ?_
 refine g_cond rfl (fun h3 => ?_) (fun h3 => ?_)
 ·rw [if_pos (of_decide_eq_true (hr1.symm.trans h3))] at he
  rw [he]
  repeat refine x_ ?_
  refine m_ ?_
  refine r_ (s_string (l := b) rfl rfl (fun w hw => (hw.ownN z_3).2.2.1)) ?_
  refine m_ ?_
  refine f_ (s_add_i64 rfl rfl (by omega)) ?_
  refine a_ ?_
  refine a_ ?_
  refine a_ ?_
  repeat refine n_ ?_
  refine g_ret ?_
  exact at_end3 rfl rfl rfl rfl [] ⟨rfl, rfl⟩ (fun _ h => h.dropAll)
 rw [if_neg (of_decide_eq_false (hr1.symm.trans h3))] at he
 repeat refine x_ ?_
 refine m_ ?_
 refine f_ ((s_eql rfl rfl).eq (v' := .bool (decide (d = 92))) (congrArg Value.bool (u8_eq (b := 92)))) ?_
 refine a_ ?_
 repeat refine n_ ?_
 refine g_cond rfl (fun h4 => ?_) (fun h4 => ?_)
 ·rw [if_pos (of_decide_eq_true h4)] at he
  repeat refine x_ ?_
  refine m_ ?_
  refine f_ (s_add_i64 rfl rfl (by omega)) ?_
  refine a_ ?_
  repeat refine n_ ?_
  obtain ⟨z, hz⟩ : ∃ d, d = s.getD (k + 1) 0 := ⟨_, rfl⟩
  obtain ⟨u1, hu1⟩ : ∃ q, q = decide (((k : Int) + 1) ≥ (s.length : Nat)) := ⟨_, rfl⟩
  obtain ⟨u2, hu2⟩ : ∃ q, q = decide (z = 34) := ⟨_, rfl⟩
  obtain ⟨u3, hu3⟩ : ∃ q, q = decide (z = 92) := ⟨_, rfl⟩
  repeat refine y_ ?_
  refine g_cutK [(0, B s), (5, .slice a b.length c), (6, .int .i64 ((k : Int) + 1)), (67, .bool (u1 || (!u2 && !u3)))] [.own (.slice a b.length c) 5 1 (bytesV b)] ?_ ?_
  ·cases u1 <;> cases u2
   all_goals (
    repeat refine x_ ?_
    refine m_ ?_
    refine m_ ?_
    refine f_ (s_len_str rfl) ?_
    refine f_ ((s_geq rfl rfl).eb hu1) ?_
    refine m_ ?_
    (first | refine gl_guard_no rfl rfl rfl rfl rfl rfl rfl ?_ | (refine v_ ?_; refine m_ ?_))
    (first | refine gl_guard_no rfl rfl rfl rfl rfl rfl rfl ?_ | (refine v_ ?_; refine m_ ?_))
    (first | refine gl_guard_no rfl rfl rfl rfl rfl rfl rfl ?_ | (refine v_ ?_; refine f_ ((s_index_str rfl rfl (by have := of_decide_eq_false hu1.symm; omega)).eq (v' := U8 z) (by rw [hz]; rfl)) ?_))
    (first | refine gl_guard_no rfl rfl rfl rfl rfl rfl rfl ?_ | (refine v_ ?_; refine f_ ((s_neq rfl rfl).eq ((congrArg (fun b => Value.bool (!b)) (u8_eq (b := 34))).trans (congrArg (fun b => Value.bool (!b)) hu2.symm))) ?_))
    (first | refine gl_guard_no rfl rfl rfl rfl rfl rfl rfl ?_ | (refine v_ ?_; refine m_ ?_))
    (first|refine u_ ?_|(refine v_ ?_; refine m_ ?_))
    (first|refine u_ ?_|(refine v_ ?_; refine m_ ?_))
    (first|refine u_ ?_|(refine v_ ?_; refine f_ ((s_index_str rfl rfl (by have := of_decide_eq_false hu1.symm; omega)).eq (v' := U8 z) (by rw [hz]; rfl)) ?_))
    (first|refine u_ ?_|(refine v_ ?_; refine f_ ((s_neq rfl rfl).eq ((congrArg (fun b => Value.bool (!b)) (u8_eq (b := 92))).trans (congrArg (fun b => Value.bool (!b)) hu3.symm))) ?_))
    (first | refine gl_guard_no rfl rfl rfl rfl rfl rfl rfl ?_ | (refine v_ ?_; refine f_ z_4 ?_))
    refine f_ z_4 ?_
    refine gl_nil ?_
    repeat refine y_ ?_)
   all_goals exact at_cut j_ i_
  repeat refine y_ ?_
  refine g_cond rfl (fun h5 => ?_) (fun h5 => ?_)
  ·have hnone : uqS s = none := by
    rw [he]
    rcases Nat.lt_or_ge (k + 1) s.length with h6 | h6
    ·rw [drop_get h6, ← hz]
     simp only
     refine if_neg fun hh => ?_
     have a1 : u1 = false := hu1.trans (decide_eq_false (by omega))
     rw [a1, Bool.false_or] at h5
     simp only [Bool.and_eq_true, Bool.not_eq_true'] at h5
     rcases hh with hh | hh
     ·rw [hh, h5.1] at hu2; cases hu2
     ·rw [hh, h5.2] at hu3; cases hu3
    ·rw [List.drop_of_length_le h6]
   rw [hnone]
   repeat refine x_ ?_
   refine a_ ?_
   refine a_ ?_
   refine a_ ?_
   repeat refine n_ ?_
   refine g_ret ?_
   exact at_end3 rfl rfl rfl rfl [] ⟨rfl, rfl⟩ (fun _ h => h.dropAll)
  ·have a1 : u1 = false := by cases u1 with | false => rfl | true => cases h5
   have hk2 : k + 1 < s.length := by have := of_decide_eq_false (hu1.symm.trans a1); omega
   have hzz : z = 34 ∨ z = 92 := by
    rw [a1, Bool.false_or] at h5
    cases u2 with
    | true => exact .inl (of_decide_eq_true hu2.symm)
    | false =>
     cases u3 with
     | true => exact .inr (of_decide_eq_true hu3.symm)
     | false => cases h5
   rw [drop_get hk2, ← hz] at he
   simp only at he
   rw [if_pos hzz] at he
   repeat refine x_ ?_
   refine m_ ?_
   refine m_ ?_
   refine m_ ?_
   refine f_ ((s_index_str rfl rfl (by omega)).eq (v' := U8 z) (by rw [hz]; rfl)) ?_
   refine gl_buildSliceU rfl rfl rfl rfl rfl rfl (xs := bytesV [z]) rfl rfl ?_; intro a41 ha41
   refine gl_append rfl rfl (fun a' c' => .there .here) (fun w hw => (hw.ownN z_3).2.2.1) rfl rfl rfl (bytesV_one _) (by show (b.length + 1) * 1 ≤ _; omega) (by omega) rfl ?_; intro a6 c6 hc6
   refine a_ ?_
   repeat refine x_ ?_
   refine m_ ?_
   refine f_ ((s_add_i64 rfl rfl (by omega)).eq (v' := .int .i64 ((k + 2 : Nat) : Int)) (by congr 1)) ?_
   refine a_ ?_
   repeat refine n_ ?_
   refine at_next (k + 2, b ++ [z], a6, c6) ⟨by simp only; omega, by simp only; omega, by simp; omega, he⟩ (by simp only; omega) ?_ ?_
   ·simp only
    rw [List.length_append]
    (repeat (first | exact Sub.nil _ | refine Sub.cons rfl ?_))
   ·intro w hw
    simp only
    rw [List.length_append, bytesV_append]
    exact hw.drop
 ·rw [if_neg (of_decide_eq_false h4), if_pos hqd] at he
  repeat refine x_ ?_
  refine m_ ?_
  refine m_ ?_
  refine m_ ?_
  refine f_ ((s_index_str rfl rfl (by omega)).eq (v' := U8 d) (by rw [hd]; simp only [Int.toNat_natCast])) ?_
  refine gl_buildSliceU rfl rfl rfl rfl rfl rfl (xs := bytesV [d]) rfl rfl ?_; intro a41 ha41
  refine gl_append rfl rfl (fun a' c' => .there .here) (fun w hw => (hw.ownN z_3).2.2.1) rfl rfl rfl (bytesV_one _) (by show (b.length + 1) * 1 ≤ _; omega) (by omega) rfl ?_; intro a6 c6 hc6
  refine a_ ?_
  repeat refine x_ ?_
  refine m_ ?_
  refine f_ ((s_add_i64 rfl rfl (by omega)).eq (v' := .int .i64 ((k + 1 : Nat) : Int)) (by congr 1)) ?_
  refine a_ ?_
  repeat refine n_ ?_
  refine at_next (k + 1, b ++ [d], a6, c6) ⟨by simp only; omega, by simp only; omega, by simp; omega, he⟩ (by simp only; omega) ?_ ?_
  ·simp only
   rw [List.length_append]
   (repeat (first | exact Sub.nil _ | refine Sub.cons rfl ?_))
  ·intro w hw
   simp only
   rw [List.length_append, bytesV_append]
   exact hw.drop
end Go.Proofs.YtgllpcggdcknaaaGreatDoor.Rp
