import Derived.Test.YtgllpcggdcknaaaGreatDoorKx5
import Derived.WideLaws
import Derived.WalkKit
import Derived.ProofKit
set_option linter.unusedVariables false
set_option linter.unusedSimpArgs false
namespace Go.Proofs.YtgllpcggdcknaaaGreatDoor.Rp
open Go Go.Sl Go.RowKit
theorem lower_ct (c : Int) : Pu Tryz.prog 140 [.int .u8 c] (fun _ => True) (.int .u8 (bits .or .u8 c 32)) := pu_same fun w _ => Tryz.internal_strconv_lower c w
theorem valK_ge : ∀ (t : Bs) (a : Nat), a ≤ valK a t
 | [], a => by rw [valK_nil]; exact Nat.le_refl _
 | c :: t, a => by
  rw [valK_cons]
  have := valK_ge t (stepV a c)
  unfold stepV at this ⊢
  omega
theorem val_mono (s : Bs) (k : Nat) : valK 0 (s.take k) ≤ valK 0 s := by
 have : valK 0 s = valK (valK 0 (s.take k)) (s.drop k) := by rw [← valK_append, List.take_append_drop]
 rw [this]
 exact valK_ge _ _
theorem num_great {s : Bs} {k : Nat} (h : great < valK 0 (s.take k)) : numS s = none := by
 have := val_mono s k
 unfold numS
 exact if_neg fun hh => by omega
structure IsNum (s : Bs) : Prop where
 ne : s ≠ []
 dig : ∀ j, j < s.length → isDig (s.getD j 0) = true
 le : valK 0 s ≤ great
def UP (s : Bs) (v : Value) (A : List As) : Prop := A = [] ∧ ((v = .tuple #[.int .u64 (valK 0 s : Nat), .nilIface] ∧ IsNum s) ∨ ∃ (n k : Int), v = .tuple #[.int .u64 n, .iface 144 (.int .i64 k)] ∧ (k = 1 ∨ k = 2) ∧ numS s = none)
theorem bytesV_len (l : Bs) : (bytesV l).length = l.length := by simp [bytesV]
theorem rdC_own {F : Snap} {w : World} {H H' : List As} {ys : List As} {a : Option Addr} {n c : Nat} {te : TypeId} {l : Bs} (hw : Hp F w H) (u : Upd H (.own (.slice a n c) te 1 (bytesV l)) ys H') {q i : Nat} (h : q = i) (hi : i < l.length) : PeekC (hp w) (addO a q) [U8 (l.getD i 0)] :=
 peek_own hw u z_8 (fun j u hu => by
  match j, hu with
  | 0, hu =>
   simp at hu; subst hu h
   simp [bytesV, hi])
set_option maxRecDepth 8000 in
set_option maxHeartbeats 1000000 in
theorem ParseUintI_ct (s : Bs) (hs : s.length ≤ 9223372036854775806) : Ct Tryz.prog 122 [B s, .int .i64 10, .int .i64 63] (fun _ => True) [] (UP s) := by
 refine ct_enter 172 Tryz.func122 rfl rfl rfl ?_
 intro F _
 repeat refine x_ ?_
 refine a_ ?_
 refine a_ ?_
 repeat refine x_ ?_
 refine m_ ?_
 refine f_ ((s_eql_str rfl rfl).eq (v' := .bool (decide (s = []))) rfl) ?_
 repeat refine n_ ?_
 refine g_cond rfl (fun h => ?_) (fun h => ?_)
 ·have h0 := of_decide_eq_true h
  repeat refine x_ ?_
  refine f_ (s_makeIface z_8 rfl) ?_
  refine a_ ?_
  refine a_ ?_
  repeat refine n_ ?_
  refine g_ret ?_
  exact at_end2 rfl rfl rfl [] ⟨rfl, .inr ⟨0, 2, rfl, .inr rfl, by rw [h0]; exact numS_nil⟩⟩ (fun w hw => hw.dropAll)
 have hne := of_decide_eq_false h
 repeat refine x_ ?_
 refine m_ ?_
 refine f_ (s_eql rfl rfl) ?_
 refine a_ ?_
 repeat refine x_ ?_
 refine m_ ?_
 refine a_ ?_
 repeat refine x_ ?_
 refine m_ ?_
 refine f_ (s_leq rfl rfl) ?_
 refine m_ ?_
 (refine v_ ?_; refine m_ ?_)
 (refine v_ ?_; refine f_ (s_leq rfl rfl) ?_)
 refine f_ (by exact s_pick_t rfl rfl) ?_
 refine a_ ?_
 repeat refine x_ ?_
 refine m_ ?_
 refine f_ (s_eql rfl rfl) ?_
 repeat refine x_ ?_
 refine m_ ?_
 refine f_ (s_lss rfl rfl) ?_
 refine m_ ?_
 (refine v_ ?_; refine m_ ?_)
 (refine v_ ?_; refine f_ (s_gtr rfl rfl) ?_)
 refine f_ (by exact s_pick_f rfl rfl) ?_
 repeat refine x_ ?_
 refine a_ ?_
 repeat refine x_ ?_
 refine m_ ?_
 repeat refine x_ ?_
 refine f_ (s_eql rfl rfl) ?_
 refine a_ ?_
 repeat refine x_ ?_
 refine a_ ?_
 repeat refine x_ ?_
 refine m_ ?_
 refine f_ (s_conv_keep_u64 rfl (by omega)) ?_
 refine f_ ((s_shl rfl rfl (by omega)).eq (v' := .int .u64 9223372036854775808) (by congr 1)) ?_
 refine f_ (s_sub_u64 rfl rfl (by omega)) ?_
 refine a_ ?_
 repeat refine x_ ?_
 refine a_ ?_
 repeat refine x_ ?_
 refine a_ ?_
 repeat refine x_ ?_
 refine m_ ?_
 refine gl_bytes rfl rfl ?_; intro a99 c99 hc99
 refine f_ (s_len_sl rfl) ?_
 refine m_ ?_
 repeat refine n_ ?_
 refine g_loop (ι := Nat) (fun k => k ≤ s.length ∧ (∀ j, j < k → isDig (s.getD j 0) = true) ∧ valK 0 (s.take k) ≤ great) (fun k => [(0, B s), (1, .int .i64 10), (8, .bool false), (10, .int .u64 1844674407370955162), (11, .int .u64 9223372036854775807), (12, .bool false), (13, .int .u64 (valK 0 (s.take k) : Nat)), (99, .slice a99 s.length c99), (100, .int .i64 (s.length : Nat)), (101, .int .i64 (k : Nat))]) (fun _ => [.own (.slice a99 s.length c99) 5 1 (bytesV s)]) (fun k => s.length - k) 0 ⟨by omega, fun j h => by omega, by simp [valK_nil]⟩ ?_ ?_ ?_
 ·(repeat (first | exact Sub.nil _ | refine Sub.cons rfl ?_))
 ·intro w hw; exact hw
 rintro k ⟨hk, hdg, hle⟩
 repeat refine x_ ?_
 refine f_ (s_lss rfl rfl) ?_
 repeat refine n_ ?_
 refine g_cond rfl (fun h => ?_) (fun h => ?_)
 ·have hk' : k < s.length := by simp at h; omega
  obtain ⟨c, hc⟩ : ∃ c, c = s.getD k 0 := ⟨_, rfl⟩
  have hc255 : c.toNat < 256 := c.toNat_lt
  have hsome : ∃ ad, a99 = some ad ∨ True := ⟨⟨0, 0, none⟩, .inr trivial⟩
  repeat refine x_ ?_
  refine r_ (s_indexAddr_own rfl z_3 rfl (by omega)) ?_
  refine r_ ((s_load1 rfl (fun w hw => rdC_own hw z_3 (i := k) (by omega) hk')).eq (v' := U8 c) (by rw [hc])) ?_
  refine a_ ?_
  repeat refine x_ ?_
  refine a_ ?_
  repeat refine n_ ?_
  obtain ⟨u0, hu0⟩ : ∃ b, b = decide ((c.toNat : Int) = 95) := ⟨_, rfl⟩
  repeat refine y_ ?_
  refine g_cutK [(0, B s), (1, .int .i64 10), (8, .bool false), (10, .int .u64 1844674407370955162), (11, .int .u64 9223372036854775807), (12, .bool false), (13, .int .u64 (valK 0 (s.take k) : Nat)), (15, U8 c), (99, .slice a99 s.length c99), (100, .int .i64 (s.length : Nat)), (101, .int .i64 (k : Nat)), (106, .bool false)] [.own (.slice a99 s.length c99) 5 1 (bytesV s)] ?_ ?_
  ·cases u0
   all_goals (
    repeat refine x_ ?_
    refine m_ ?_
    refine f_ ((s_eql rfl rfl).eb hu0) ?_
    refine m_ ?_
    (first | refine gl_guard_no rfl rfl rfl rfl rfl rfl rfl ?_ | (refine v_ ?_; refine m_ ?_))
    refine f_ z_4 ?_
    refine a_ ?_
    refine gl_nil ?_
    repeat refine y_ ?_)
   all_goals exact at_cut j_ i_
  repeat refine y_ ?_
  obtain ⟨d1, hd1⟩ : ∃ b, b = decide ((48 : Int) ≤ c.toNat) := ⟨_, rfl⟩
  obtain ⟨d2, hd2⟩ : ∃ b, b = decide ((c.toNat : Int) ≤ 57) := ⟨_, rfl⟩
  have hdd : isDig c = (d1 && d2) := by
   unfold isDig
   rw [hd1, hd2]
   congr 1
   ·exact decide_eq_decide.mpr (by omega)
   ·exact decide_eq_decide.mpr (by omega)
  refine g_cutK [(0, B s), (1, .int .i64 10), (8, .bool false), (10, .int .u64 1844674407370955162), (11, .int .u64 9223372036854775807), (12, .bool false), (13, .int .u64 (valK 0 (s.take k) : Nat)), (15, U8 c), (99, .slice a99 s.length c99), (100, .int .i64 (s.length : Nat)), (101, .int .i64 (k : Nat)), (112, .bool (d1 && d2))] [.own (.slice a99 s.length c99) 5 1 (bytesV s)] ?_ ?_
  ·cases d1
   all_goals (
    repeat refine x_ ?_
    refine m_ ?_
    refine f_ ((s_leq rfl rfl).eb hd1) ?_
    refine m_ ?_
    (first | refine gl_guard_no rfl rfl rfl rfl rfl rfl rfl ?_ | (refine v_ ?_; refine m_ ?_))
    (first | refine gl_guard_no rfl rfl rfl rfl rfl rfl rfl ?_ | (refine v_ ?_; refine f_ ((s_leq rfl rfl).eb hd2) ?_))
    refine f_ z_4 ?_
    refine a_ ?_
    refine gl_nil ?_
    repeat refine y_ ?_)
   all_goals exact at_cut j_ i_
  repeat refine y_ ?_
  refine g_cond rfl (fun h2 => ?_) (fun h2 => ?_)
  ·have hdc : isDig c = true := hdd.trans h2
   have hdc2 : 48 ≤ c.toNat ∧ c.toNat ≤ 57 := by
    unfold isDig at hdc
    simp only [Bool.and_eq_true, decide_eq_true_eq] at hdc
    exact hdc
   have hdk : ∀ j, j < k + 1 → isDig (s.getD j 0) = true := fun j hj => by
    rcases Nat.lt_succ_iff_lt_or_eq.1 hj with h4 | rfl
    ·exact hdg j h4
    ·rw [← hc]; exact hdc
   have hvt := val_take hk'
   rw [← hc] at hvt
   obtain ⟨n, hn⟩ : ∃ n, n = valK 0 (s.take k) := ⟨_, rfl⟩
   rw [← hn] at hvt hle ⊢
   unfold great at hle
   repeat refine x_ ?_
   refine m_ ?_
   refine f_ ((s_sub_in rfl rfl (z := ((c.toNat - 48 : Nat) : Int)) (by rw [IntKind.wrap_u8]; omega))) ?_
   refine a_ ?_
   repeat refine x_ ?_
   refine m_ ?_
   refine m_ ?_
   refine f_ (s_conv_keep_u8 rfl (by omega)) ?_
   refine f_ ((s_geq rfl rfl).eq (v' := .bool false) (congrArg Value.bool (decide_eq_false (by omega)))) ?_
   repeat refine x_ ?_
   refine m_ ?_
   refine m_ ?_
   refine f_ ((s_geq rfl rfl).eq (v' := .bool (decide (1844674407370955162 ≤ n))) (congrArg Value.bool (decide_eq_decide.mpr (by omega)))) ?_
   repeat refine n_ ?_
   refine g_cond rfl (fun h3 => ?_) (fun h3 => ?_)
   ·have h4 := of_decide_eq_true h3
    have hnone : numS s = none := num_great (k := k + 1) (by rw [hvt]; unfold great; omega)
    repeat refine x_ ?_
    refine m_ ?_
    refine f_ (s_makeIface z_8 rfl) ?_
    refine a_ ?_
    refine a_ ?_
    repeat refine n_ ?_
    refine g_ret ?_
    exact at_end2 rfl rfl rfl [] ⟨rfl, .inr ⟨9223372036854775807, 1, rfl, .inl rfl, hnone⟩⟩ (fun w hw => hw.dropAll)
   have h4 := of_decide_eq_false h3
   obtain ⟨z, hz⟩ : ∃ z : Nat, z = (n * 10 + (c.toNat - 48)) % 18446744073709551616 := ⟨_, rfl⟩
   repeat refine x_ ?_
   refine m_ ?_
   refine m_ ?_
   refine f_ (s_conv_keep_u64 rfl (by omega)) ?_
   refine f_ ((s_mul_u64 rfl rfl (by omega)).eq (v' := .int .u64 ((n * 10 : Nat) : Int)) (by congr 1)) ?_
   refine a_ ?_
   repeat refine x_ ?_
   refine m_ ?_
   refine m_ ?_
   refine f_ (s_conv_keep_u64 rfl (by omega)) ?_
   refine f_ ((s_add_in rfl rfl (z := ((z : Nat) : Int)) (by rw [IntKind.wrap_u64]; omega))) ?_
   refine a_ ?_
   repeat refine n_ ?_
   obtain ⟨e1, he1⟩ : ∃ b, b = decide ((z : Int) < ((n * 10 : Nat) : Int)) := ⟨_, rfl⟩
   obtain ⟨e2, he2⟩ : ∃ b, b = decide ((z : Int) > 9223372036854775807) := ⟨_, rfl⟩
   have hee : (e1 || e2) = true ↔ 9223372036854775807 < n * 10 + (c.toNat - 48) := by
    rw [Bool.or_eq_true, he1, he2, decide_eq_true_eq, decide_eq_true_eq]
    omega
   repeat refine y_ ?_
   refine g_cutK [(0, B s), (1, .int .i64 10), (8, .bool false), (10, .int .u64 1844674407370955162), (11, .int .u64 9223372036854775807), (12, .bool false), (17, .int .u64 (z : Nat)), (99, .slice a99 s.length c99), (100, .int .i64 (s.length : Nat)), (101, .int .i64 (k : Nat)), (159, .bool (e1 || e2))] [.own (.slice a99 s.length c99) 5 1 (bytesV s)] ?_ ?_
   ·cases e1
    all_goals (
     repeat refine x_ ?_
     refine m_ ?_
     refine m_ ?_
     refine f_ ((s_lss rfl rfl).eb he1) ?_
     refine m_ ?_
     (first | refine gl_guard_no rfl rfl rfl rfl rfl rfl rfl ?_ | (refine v_ ?_; refine m_ ?_))
     (first | refine gl_guard_no rfl rfl rfl rfl rfl rfl rfl ?_ | (refine v_ ?_; refine m_ ?_))
     (first | refine gl_guard_no rfl rfl rfl rfl rfl rfl rfl ?_ | (refine v_ ?_; refine f_ ((s_gtr rfl rfl).eb he2) ?_))
     refine f_ z_4 ?_
     refine gl_nil ?_
     repeat refine y_ ?_)
    all_goals exact at_cut j_ i_
   repeat refine y_ ?_
   refine g_cond rfl (fun h5 => ?_) (fun h5 => ?_)
   ·have h6 := hee.1 h5
    have hnone : numS s = none := num_great (k := k + 1) (by rw [hvt]; unfold great; omega)
    repeat refine x_ ?_
    refine m_ ?_
    refine f_ (s_makeIface z_8 rfl) ?_
    refine a_ ?_
    refine a_ ?_
    repeat refine n_ ?_
    refine g_ret ?_
    exact at_end2 rfl rfl rfl [] ⟨rfl, .inr ⟨9223372036854775807, 1, rfl, .inl rfl, hnone⟩⟩ (fun w hw => hw.dropAll)
   ·have h6 : ¬9223372036854775807 < n * 10 + (c.toNat - 48) := fun x => by rw [hee.2 x] at h5; cases h5
    have hzv : z = valK 0 (s.take (k + 1)) := by rw [hvt, hz]; omega
    repeat refine x_ ?_
    refine m_ ?_
    refine a_ ?_
    repeat refine x_ ?_
    refine f_ (s_add_i64 rfl rfl (by omega)) ?_
    refine m_ ?_
    repeat refine n_ ?_
    refine at_next (k + 1) ⟨by omega, hdk, by rw [← hzv, hz]; unfold great; omega⟩ (by omega) ?_ ?_
    ·rw [← hzv]
     (repeat (first | exact Sub.nil _ | refine Sub.cons rfl ?_))
    ·intro w hw; exact hw
  ·have hdc : isDig c = false := hdd.trans h2
   have hnone : numS s = none := num_digit hk' (by rw [← hc]; exact hdc)
   obtain ⟨m, hm⟩ : ∃ m, m = bits .or .u8 (c.toNat : Nat) 32 := ⟨_, rfl⟩
   obtain ⟨l1, hl1⟩ : ∃ b, b = decide ((97 : Int) ≤ m) := ⟨_, rfl⟩
   obtain ⟨l2, hl2⟩ : ∃ b, b = decide (m ≤ 122) := ⟨_, rfl⟩
   have hlw := lower_ct (c.toNat : Nat)
   rw [← hm] at hlw
   repeat refine y_ ?_
   refine g_cutK [(0, B s), (1, .int .i64 10), (15, U8 c), (101, .int .i64 (k : Nat)), (121, .bool (l1 && l2))] [.own (.slice a99 s.length c99) 5 1 (bytesV s)] ?_ ?_
   ·cases l1
    all_goals (
     repeat refine x_ ?_
     refine m_ ?_
     refine gl_callp rfl hlw (fun _ _ _ => trivial) rfl ?_
     refine f_ ((s_leq rfl rfl).eb hl1) ?_
     refine m_ ?_
     (first | refine gl_guard_no rfl rfl rfl rfl rfl rfl rfl ?_ | (refine v_ ?_; refine m_ ?_))
     (first | refine gl_guard_no rfl rfl rfl rfl rfl rfl rfl ?_ | (refine v_ ?_; refine gl_callp rfl hlw (fun _ _ _ => trivial) rfl ?_))
     (first | refine gl_guard_no rfl rfl rfl rfl rfl rfl rfl ?_ | (refine v_ ?_; refine f_ ((s_leq rfl rfl).eb hl2) ?_))
     refine f_ z_4 ?_
     refine a_ ?_
     refine gl_nil ?_
     repeat refine y_ ?_)
    all_goals exact at_cut j_ i_
   repeat refine y_ ?_
   refine g_cond rfl (fun h3 => ?_) (fun h3 => ?_)
   ·have hm2 : 97 ≤ m ∧ m ≤ 122 := by
     simp only [Bool.and_eq_true] at h3
     exact ⟨of_decide_eq_true (hl1.symm.trans h3.1), of_decide_eq_true (hl2.symm.trans h3.2)⟩
    repeat refine x_ ?_
    refine m_ ?_
    refine gl_callp rfl hlw (fun _ _ _ => trivial) rfl ?_
    refine f_ ((s_sub_in rfl rfl (z := m - 97) (by rw [IntKind.wrap_u8]; omega))) ?_
    refine f_ ((s_add_in rfl rfl (z := m - 97 + 10) (by rw [IntKind.wrap_u8]; omega))) ?_
    refine a_ ?_
    repeat refine x_ ?_
    refine m_ ?_
    refine m_ ?_
    refine f_ (s_conv_keep_u8 rfl (by omega)) ?_
    refine f_ ((s_geq rfl rfl).eq (v' := .bool true) (congrArg Value.bool (decide_eq_true (by omega)))) ?_
    repeat refine x_ ?_
    refine f_ (s_makeIface z_8 rfl) ?_
    refine a_ ?_
    refine a_ ?_
    repeat refine n_ ?_
    refine g_ret ?_
    exact at_end2 rfl rfl rfl [] ⟨rfl, .inr ⟨0, 2, rfl, .inr rfl, hnone⟩⟩ (fun w hw => hw.dropAll)
   ·repeat refine y_ ?_
    repeat refine x_ ?_
    refine f_ (s_makeIface z_8 rfl) ?_
    refine a_ ?_
    refine a_ ?_
    repeat refine n_ ?_
    refine g_ret ?_
    exact at_end2 rfl rfl rfl [] ⟨rfl, .inr ⟨0, 2, rfl, .inr rfl, hnone⟩⟩ (fun w hw => hw.dropAll)
 ·have hkl : k = s.length := by simp at h; omega
  subst hkl
  rw [List.take_length] at hle
  rw [List.take_length]
  repeat refine x_ ?_
  refine m_ ?_
  refine m_ ?_
  (refine gl_guard_no rfl rfl rfl rfl rfl rfl rfl ?_)
  (refine gl_guard_no rfl rfl rfl rfl rfl rfl rfl ?_)
  (refine gl_guard_no rfl rfl rfl rfl rfl rfl rfl ?_)
  refine f_ (by exact s_pick_f rfl rfl) ?_
  repeat refine x_ ?_
  refine m_ ?_
  refine a_ ?_
  refine a_ ?_
  repeat refine n_ ?_
  refine g_ret ?_
  exact at_end2 rfl rfl rfl [] ⟨rfl, .inl ⟨rfl, hne, hdg, hle⟩⟩ (fun w hw => hw.dropAll)
end Go.Proofs.YtgllpcggdcknaaaGreatDoor.Rp
namespace Go.Proofs.YtgllpcggdcknaaaGreatDoor.Rp
open Go Go.Sl Go.RowKit
section
variable {P : Program} {L : Lcs} {dst : Option Tmp} {t t' : TypeId} {x y : Operand} {ty : TypeId} {pos : String} {af : Array Edge} {gd : Option (Nat × Bool)}
theorem s_neq_ifnil {ms : Array (String × TypeId)} {u : TypeId} {v : Value} [hu : HU P t (.interface ms)] (hx : ev L x = some (.iface u v)) (hy : ev L y = some .nilIface) : OpF P ⟨dst, .binOp .neq t x y t', ty, pos, af, gd⟩ L (.bool true) := by
 have hm : P.underlying t = some (.interface (P.methodsAt t)) := by unfold Program.methodsAt; rw [hu.h]
 exact s_bin hx hy (fun w => by
  rw [eqGuard_at_iface]
  exact run_neq_held_nil w t u v hm)
theorem s_neq_nilnil {ms : Array (String × TypeId)} {c : Value} [hu : HU P t (.interface ms)] (hx : ev L x = some .nilIface) (hy : ev L (.const c) = some .nilIface) : OpF P ⟨dst, .binOp .neq t x (.const c) t', ty, pos, af, gd⟩ L (.bool false) := by
 have hm : P.underlying t = some (.interface (P.methodsAt t)) := by unfold Program.methodsAt; rw [hu.h]
 exact s_bin hx hy (fun w => by
  rw [eqGuard_nil_constR]
  exact run_neq_nil_nil w t hm)
end
theorem cell0 {w : World} {b : Nat} {v : Value} {t : TypeId} {fr : Nat × Nat} (h : hp w b = some (.cells #[v] t fr)) : w.cell? ⟨b, 0, none⟩ = some v := by
 have h' : w.heap[b]? = some (.cells #[v] t fr) := h
 simp [World.cell?, h']
def ErrP (v : Value) (A : List As) : Prop := A = [] ∧ ∃ N : Nat, v = .iface 146 (.pointer (some ⟨N, 0, none⟩))
theorem ct_below {P : Program} {f : FuncId} {args : List Value} {Pre : Heap → Prop} {Q : Value → Prop}
  (h : ∀ w, Pre (hp w) → Calls P f args.toArray w fun e w' => ∃ v, e = .returned v ∧ Q v ∧ Below w.heap.size w w') : Ct P f args Pre [] (fun v A => A = [] ∧ Q v) := by
 intro w bs hsat hnd hpre
 have hb : bs = [] := hsat
 subst hb
 rw [hpBut_nil] at hpre
 refine (h w hpre).mono ?_
 rintro e w' ⟨v, rfl, hq, hbel⟩
 refine ⟨v, [], rfl, ⟨rfl, hq⟩, hbel.os, hbel.tape, hbel.output, fun b o hbo => ?_, [], rfl, List.nodup_nil, by simp⟩
 have h3 : w.heap[b]? = some o := hpBut_le w [] b o hbo
 have h4 : b < w.heap.size := (Array.getElem?_eq_some_iff.1 h3).1
 show w'.heap[b]? = _
 rw [hbel.block b h4]; exact h3
theorem toError_ct (fn s : Bs) (base bits k : Int) (hs : s.length ≤ 281474976710656) (hk : k = 1 ∨ k = 2) : Ct Tryz.prog 123 [B fn, B s, .int .i64 base, .int .i64 bits, .iface 144 (.int .i64 k)] Gl [] ErrP := by
 refine ct_below fun w hg => ?_
 rcases hk with rfl | rfl
 ·obtain ⟨e, t, fr, h3, he⟩ := hg.rng
  refine (Tryz.strconv_toError_range ⟨fn.toArray⟩ ⟨s.toArray⟩ base bits e w (by simpa [ByteArray.size] using hs) (cell0 h3) he).mono ?_
  rintro e w' ⟨N, rfl, _, _, hb⟩
  exact ⟨_, rfl, ⟨N, rfl⟩, hb⟩
 ·obtain ⟨e, t, fr, h3, he⟩ := hg.syn
  refine (Tryz.strconv_toError_syntax ⟨fn.toArray⟩ ⟨s.toArray⟩ base bits e w (by simpa [ByteArray.size] using hs) (cell0 h3) he).mono ?_
  rintro e w' ⟨N, rfl, _, _, hb⟩
  exact ⟨_, rfl, ⟨N, rfl⟩, hb⟩
def UP2 (s : Bs) (v : Value) (A : List As) : Prop := A = [] ∧ ((v = .tuple #[.int .u64 (valK 0 s : Nat), .nilIface] ∧ IsNum s) ∨ ∃ (n : Int) (N : Nat), v = .tuple #[.int .u64 n, .iface 146 (.pointer (some ⟨N, 0, none⟩))] ∧ numS s = none)
theorem ParseUint_ct (s : Bs) (hs : s.length ≤ 281474976710656) : Ct Tryz.prog 110 [B s, .int .i64 10, .int .i64 63] Gl [] (UP2 s) := by
 refine ct_enter 26 Tryz.func110 rfl rfl rfl ?_
 intro F hg
 repeat refine x_ ?_
 refine a_ ?_
 refine a_ ?_
 repeat refine x_ ?_
 refine m_ ?_
 refine m_ ?_
 refine m_ ?_
 refine gl_call _ rfl (ParseUintI_ct s (by omega)) i_ (fun _ _ _ => trivial) rfl ?_
 rintro v A ⟨rfl, ⟨rfl, hnum⟩ | ⟨n, k, rfl, hk, hnone⟩⟩
 ·skip
  refine m_ ?_
  refine f_ (s_extract rfl rfl) ?_
  refine f_ (s_extract rfl rfl) ?_
  refine a_ ?_
  refine a_ ?_
  repeat refine x_ ?_
  refine m_ ?_
  refine f_ (s_neq_nilnil rfl rfl) ?_
  repeat refine x_ ?_
  refine m_ ?_
  refine a_ ?_
  refine a_ ?_
  repeat refine n_ ?_
  refine g_ret ?_
  exact at_end2 rfl rfl rfl [] ⟨rfl, .inl ⟨rfl, hnum⟩⟩ i_
 ·skip
  refine m_ ?_
  refine f_ (s_extract rfl rfl) ?_
  refine f_ (s_extract rfl rfl) ?_
  refine a_ ?_
  refine a_ ?_
  repeat refine x_ ?_
  refine m_ ?_
  refine f_ (s_neq_ifnil rfl rfl) ?_
  repeat refine x_ ?_
  refine m_ ?_
  refine m_ ?_
  refine m_ ?_
  refine m_ ?_
  refine m_ ?_
  refine gl_call _ rfl (toError_ct _ s 10 63 k hs hk) i_ (fun h hh hb => hg.le hh) rfl ?_; rintro v A ⟨rfl, N, rfl⟩
  refine a_ ?_
  refine a_ ?_
  repeat refine n_ ?_
  refine g_ret ?_
  exact at_end2 rfl rfl rfl [] ⟨rfl, .inr ⟨n, N, rfl, hnone⟩⟩ i_
theorem numS_of {s : Bs} (h : IsNum s) : numS s = if digS (valK 0 s) = s then some (valK 0 s) else none := by
 unfold numS
 by_cases h1 : digS (valK 0 s) = s
 ·rw [if_pos ⟨h1, h.le⟩, if_pos h1]
 ·rw [if_neg (fun x => h1 x.1), if_neg h1]
theorem NumberW_ct (s : Bs) (hs : s.length ≤ 281474976710656) : Pu Tryz.prog 91 [B s] Gl (numV (numS s)) := by
 refine ct_enter 20 Tryz.func91 rfl rfl rfl ?_
 intro F hg
 repeat refine x_ ?_
 refine a_ ?_
 refine a_ ?_
 repeat refine x_ ?_
 refine m_ ?_
 refine gl_call _ rfl (ParseUint_ct s hs) i_ (fun h hh hb => hg.le hh) rfl ?_
 rintro v A ⟨rfl, ⟨rfl, hnum⟩ | ⟨n, N, rfl, hnone⟩⟩
 ·skip
  refine m_ ?_
  refine f_ (s_extract rfl rfl) ?_
  refine f_ (s_extract rfl rfl) ?_
  refine a_ ?_
  refine a_ ?_
  refine gl_nil ?_
  rw [numS_of hnum]
  have hv : valK 0 s < 18446744073709551616 := by have := hnum.le; unfold great at this; omega
  repeat refine x_ ?_
  refine m_ ?_
  refine f_ (s_neq_nilnil rfl rfl) ?_
  refine m_ ?_
  (refine v_ ?_; refine m_ ?_)
  (refine v_ ?_; refine gl_callp rfl (Digits_ct (valK 0 s) hv) (fun h hh hb => hg.le hh) rfl ?_)
  (refine v_ ?_; refine m_ ?_)
  (refine v_ ?_; refine f_ ((s_neq_str rfl rfl).eq (v' := .bool (!decide (digS (valK 0 s) = s))) rfl) ?_)
  refine f_ (by exact s_pick_f rfl rfl) ?_
  repeat refine n_ ?_
  refine g_cond rfl (fun h => ?_) (fun h => ?_)
  ·rw [if_neg (by simpa using h)]
   repeat refine x_ ?_
   refine a_ ?_
   refine a_ ?_
   repeat refine n_ ?_
   refine g_ret ?_
   exact at_end2 rfl rfl rfl [] ⟨rfl, rfl⟩ i_
  ·rw [if_pos (by simpa using h)]
   repeat refine x_ ?_
   refine m_ ?_
   refine a_ ?_
   refine a_ ?_
   repeat refine n_ ?_
   refine g_ret ?_
   exact at_end2 rfl rfl rfl [] ⟨rfl, rfl⟩ i_
 ·skip
  refine m_ ?_
  refine f_ (s_extract rfl rfl) ?_
  refine f_ (s_extract rfl rfl) ?_
  refine a_ ?_
  refine a_ ?_
  refine gl_nil ?_
  rw [hnone]
  repeat refine x_ ?_
  refine m_ ?_
  refine f_ (s_neq_ifnil rfl rfl) ?_
  refine m_ ?_
  (refine gl_guard_no rfl rfl rfl rfl rfl rfl rfl ?_)
  (refine gl_guard_no rfl rfl rfl rfl rfl rfl rfl ?_)
  (refine gl_guard_no rfl rfl rfl rfl rfl rfl rfl ?_)
  (refine gl_guard_no rfl rfl rfl rfl rfl rfl rfl ?_)
  refine f_ (by exact s_pick_t rfl rfl) ?_
  repeat refine x_ ?_
  refine a_ ?_
  refine a_ ?_
  repeat refine n_ ?_
  refine g_ret ?_
  exact at_end2 rfl rfl rfl [] ⟨rfl, rfl⟩ i_
end Go.Proofs.YtgllpcggdcknaaaGreatDoor.Rp
namespace Go.Proofs.YtgllpcggdcknaaaGreatDoor.Rp
open Go Go.Sl Go.RowKit
theorem quotableW_ct (c : UInt8) : Pu Tryz.prog 99 [U8 c] (fun _ => True) (.bool (quotable c)) := by
 obtain ⟨q1, h1⟩ : ∃ q, q = decide ((c.toNat : Int) > 0) := ⟨_, rfl⟩
 obtain ⟨q2, h2⟩ : ∃ q, q = decide ((c.toNat : Int) < 128) := ⟨_, rfl⟩
 obtain ⟨q3, h3⟩ : ∃ q, q = !decide (c = 10) := ⟨_, rfl⟩
 obtain ⟨q4, h4⟩ : ∃ q, q = !decide (c = 13) := ⟨_, rfl⟩
 have e : quotable c = (q1 && q2 && q3 && q4) := by
  rw [h1, h2, h3, h4]
  unfold quotable
  have e1 : decide (0 < c.toNat) = decide ((c.toNat : Int) > 0) := decide_eq_decide.mpr (by omega)
  have e2 : decide (c.toNat < 128) = decide ((c.toNat : Int) < 128) := decide_eq_decide.mpr (by omega)
  rw [e1, e2]
  by_cases a : c = 10 <;> by_cases b : c = 13 <;> simp [a, b]
 rw [e]
 clear e
 refine ct_enter 17 Tryz.func99 rfl rfl rfl ?_
 intro F _
 repeat refine x_ ?_
 refine a_ ?_
 repeat refine n_ ?_
 cases q1 <;> cases q2 <;> cases q3
 all_goals (
  repeat refine x_ ?_
  refine m_ ?_
  refine f_ ((s_gtr rfl rfl).eb h1) ?_
  refine m_ ?_
  (first | refine gl_guard_no rfl rfl rfl rfl rfl rfl rfl ?_ | (refine v_ ?_; refine m_ ?_))
  (first | refine gl_guard_no rfl rfl rfl rfl rfl rfl rfl ?_ | (refine v_ ?_; refine f_ ((s_lss rfl rfl).eb h2) ?_))
  refine f_ z_4 ?_
  refine m_ ?_
  (first | refine gl_guard_no rfl rfl rfl rfl rfl rfl rfl ?_ | (refine v_ ?_; refine m_ ?_))
  (first | refine gl_guard_no rfl rfl rfl rfl rfl rfl rfl ?_ | (refine v_ ?_; refine f_ ((s_neq rfl rfl).eq ((congrArg (fun b => Value.bool (!b)) (u8_eq (b := 10))).trans (congrArg Value.bool h3.symm))) ?_))
  refine f_ z_4 ?_
  refine m_ ?_
  (first | refine gl_guard_no rfl rfl rfl rfl rfl rfl rfl ?_ | (refine v_ ?_; refine m_ ?_))
  (first | refine gl_guard_no rfl rfl rfl rfl rfl rfl rfl ?_ | (refine v_ ?_; refine f_ ((s_neq rfl rfl).eq ((congrArg (fun b => Value.bool (!b)) (u8_eq (b := 13))).trans (congrArg Value.bool h4.symm))) ?_))
  refine f_ z_4 ?_
  refine a_ ?_
  refine gl_nil ?_
  repeat refine y_ ?_)
 all_goals (refine g_ret ?_; exact at_end1 rfl rfl [] ⟨rfl, rfl⟩ (fun _ h => h))
theorem idx_lt (s : Bs) (c : UInt8) : decide (Lib.indexByte s c < 0) = !s.contains c := by
 rw [indexByte_eq]
 cases s.contains c with
 | true => simp
 | false => simp
theorem atomB_ct (c : UInt8) : Pu Tryz.prog 58 [U8 c] (fun _ => True) (.bool (isAtom c)) := by
 obtain ⟨q1, h1⟩ : ∃ q, q = decide ((c.toNat : Int) > 32) := ⟨_, rfl⟩
 obtain ⟨q2, h2⟩ : ∃ q, q = decide ((c.toNat : Int) < 127) := ⟨_, rfl⟩
 obtain ⟨q3, h3⟩ : ∃ q, q = !([40, 41, 123, 37, 42, 34, 92, 93] : Bs).contains c := ⟨_, rfl⟩
 have e : isAtom c = (q1 && q2 && q3) := by
  rw [h1, h2, h3]
  unfold isAtom
  have e1 : decide (33 ≤ c.toNat) = decide ((c.toNat : Int) > 32) := decide_eq_decide.mpr (by omega)
  have e2 : decide (c.toNat ≤ 126) = decide ((c.toNat : Int) < 127) := decide_eq_decide.mpr (by omega)
  rw [e1, e2]
 rw [e]
 clear e
 refine ct_enter 14 Tryz.func58 rfl rfl rfl ?_
 intro F _
 repeat refine x_ ?_
 refine a_ ?_
 repeat refine n_ ?_
 cases q1 <;> cases q2
 all_goals (
  repeat refine x_ ?_
  refine m_ ?_
  refine f_ ((s_gtr rfl rfl).eb h1) ?_
  refine m_ ?_
  (first | refine gl_guard_no rfl rfl rfl rfl rfl rfl rfl ?_ | (refine v_ ?_; refine m_ ?_))
  (first | refine gl_guard_no rfl rfl rfl rfl rfl rfl rfl ?_ | (refine v_ ?_; refine f_ ((s_lss rfl rfl).eb h2) ?_))
  refine f_ z_4 ?_
  refine m_ ?_
  (first | refine gl_guard_no rfl rfl rfl rfl rfl rfl rfl ?_ | (refine v_ ?_; refine m_ ?_))
  (first | refine gl_guard_no rfl rfl rfl rfl rfl rfl rfl ?_ | (refine v_ ?_; refine gl_callp rfl (IndexByte_ct [40, 41, 123, 37, 42, 34, 92, 93] c) (fun _ _ _ => trivial) rfl ?_))
  (first | refine gl_guard_no rfl rfl rfl rfl rfl rfl rfl ?_ | (refine v_ ?_; refine f_ ((s_lss rfl rfl).eq (congrArg Value.bool ((idx_lt _ c).trans h3.symm))) ?_))
  refine f_ z_4 ?_
  refine a_ ?_
  refine gl_nil ?_
  repeat refine y_ ?_)
 all_goals (refine g_ret ?_; exact at_end1 rfl rfl [] ⟨rfl, rfl⟩ (fun _ h => h))
theorem boxB_ct (c : UInt8) : Pu Tryz.prog 109 [U8 c] (fun _ => True) (.bool (boxC c)) := by
 obtain ⟨q1, h1⟩ : ∃ q, q = decide ((c.toNat : Int) ≥ 32) := ⟨_, rfl⟩
 obtain ⟨q2, h2⟩ : ∃ q, q = decide ((c.toNat : Int) < 127) := ⟨_, rfl⟩
 obtain ⟨q3, h3⟩ : ∃ q, q = !([37, 42, 34, 92] : Bs).contains c := ⟨_, rfl⟩
 have e : boxC c = (q1 && q2 && q3) := by
  rw [h1, h2, h3]
  unfold boxC
  have e1 : decide (32 ≤ c.toNat) = decide ((c.toNat : Int) ≥ 32) := decide_eq_decide.mpr (by omega)
  have e2 : decide (c.toNat ≤ 126) = decide ((c.toNat : Int) < 127) := decide_eq_decide.mpr (by omega)
  rw [e1, e2]
 rw [e]
 clear e
 refine ct_enter 14 Tryz.func109 rfl rfl rfl ?_
 intro F _
 repeat refine x_ ?_
 refine a_ ?_
 repeat refine n_ ?_
 cases q1 <;> cases q2
 all_goals (
  repeat refine x_ ?_
  refine m_ ?_
  refine f_ ((s_geq rfl rfl).eb h1) ?_
  refine m_ ?_
  (first | refine gl_guard_no rfl rfl rfl rfl rfl rfl rfl ?_ | (refine v_ ?_; refine m_ ?_))
  (first | refine gl_guard_no rfl rfl rfl rfl rfl rfl rfl ?_ | (refine v_ ?_; refine f_ ((s_lss rfl rfl).eb h2) ?_))
  refine f_ z_4 ?_
  refine m_ ?_
  (first | refine gl_guard_no rfl rfl rfl rfl rfl rfl rfl ?_ | (refine v_ ?_; refine m_ ?_))
  (first | refine gl_guard_no rfl rfl rfl rfl rfl rfl rfl ?_ | (refine v_ ?_; refine gl_callp rfl (IndexByte_ct [37, 42, 34, 92] c) (fun _ _ _ => trivial) rfl ?_))
  (first | refine gl_guard_no rfl rfl rfl rfl rfl rfl rfl ?_ | (refine v_ ?_; refine f_ ((s_lss rfl rfl).eq (congrArg Value.bool ((idx_lt _ c).trans h3.symm))) ?_))
  refine f_ z_4 ?_
  refine a_ ?_
  refine gl_nil ?_
  repeat refine y_ ?_)
 all_goals (refine g_ret ?_; exact at_end1 rfl rfl [] ⟨rfl, rfl⟩ (fun _ h => h))
theorem all_ct (f : FuncId) (p : UInt8 → Bool) (hp : ∀ c, Pu Tryz.prog f [U8 c] (fun _ => True) (.bool (p c))) [hF : HF Tryz.prog f] (s : Bs) (hs : s.length ≤ 9223372036854775806) : Pu Tryz.prog 57 [B s, .func (.func f) #[] #[]] (fun _ => True) (.bool (s.all p && !s.isEmpty)) := by
 refine ct_enter 20 Tryz.func57 rfl rfl rfl ?_
 intro F _
 repeat refine x_ ?_
 refine a_ ?_
 repeat refine x_ ?_
 refine m_ ?_
 refine f_ (s_len_str rfl) ?_
 refine m_ ?_
 repeat refine n_ ?_
 refine g_loop (ι := Nat) (fun k => k ≤ s.length ∧ ∀ j, j < k → p (s.getD j 0) = true) (fun k => [(0, B s), (1, .func (.func f) #[] #[]), (7, .int .i64 (s.length : Nat)), (8, .int .i64 (k : Nat))]) (fun _ => []) (fun k => s.length - k) 0 ⟨by omega, fun j h => by omega⟩ ?_ ?_ ?_
 ·(repeat (first | exact Sub.nil _ | refine Sub.cons rfl ?_))
 ·intro w hw; exact hw
 rintro k ⟨hk, hno⟩
 repeat refine x_ ?_
 refine f_ (s_lss rfl rfl) ?_
 repeat refine n_ ?_
 refine g_cond rfl (fun h => ?_) (fun h => ?_)
 ·have hk' : k < s.length := by simp at h; omega
  repeat refine x_ ?_
  refine m_ ?_
  refine a_ ?_
  repeat refine x_ ?_
  refine m_ ?_
  refine m_ ?_
  refine m_ ?_
  refine f_ ((s_index_str rfl rfl (by omega)).eq (v' := U8 (s.getD k 0)) (by simp only [Int.toNat_natCast])) ?_
  refine gl_callv [] rfl rfl (ps := []) (qs := []) rfl (hp (s.getD k 0)) i_ (fun _ _ _ => trivial) rfl ?_; rintro v A ⟨rfl, rfl⟩
  refine f_ (s_not rfl) ?_
  repeat refine n_ ?_
  refine g_cond rfl (fun h2 => ?_) (fun h2 => ?_)
  ·have h3 : p (s.getD k 0) = false := by simpa using h2
   rw [all_no hk' h3, Bool.false_and]
   repeat refine x_ ?_
   refine a_ ?_
   repeat refine n_ ?_
   refine g_ret ?_
   exact at_end1 rfl rfl [] ⟨rfl, rfl⟩ (fun _ h => h)
  ·have h3 : p (s.getD k 0) = true := by simpa using h2
   repeat refine x_ ?_
   refine f_ (s_add_i64 rfl rfl (by omega)) ?_
   refine m_ ?_
   repeat refine n_ ?_
   refine at_next (k + 1) ⟨by omega, fun j hj => ?_⟩ (by omega) ?_ ?_
   ·rcases Nat.lt_succ_iff_lt_or_eq.1 hj with h4 | rfl
    ·exact hno j h4
    ·exact h3
   ·(repeat (first | exact Sub.nil _ | refine Sub.cons rfl ?_))
   ·intro w hw; exact hw
 ·have hkl : k = s.length := by simp at h; omega
  subst hkl
  rw [all_yes hno, Bool.true_and]
  repeat refine x_ ?_
  refine m_ ?_
  refine f_ ((s_neq_str rfl rfl).eq (v' := .bool (!s.isEmpty)) (by cases s <;> simp)) ?_
  refine a_ ?_
  repeat refine n_ ?_
  refine g_ret ?_
  exact at_end1 rfl rfl [] ⟨rfl, rfl⟩ (fun _ h => h)
theorem AtomW_ct (s : Bs) (hs : s.length ≤ 9223372036854775806) : Pu Tryz.prog 24 [B s] (fun _ => True) (.bool (atomS s)) := by
 refine ct_enter 5 Tryz.func24 rfl rfl rfl ?_
 intro F _
 repeat refine x_ ?_
 refine a_ ?_
 repeat refine x_ ?_
 refine m_ ?_
 refine gl_callp rfl (all_ct 58 isAtom atomB_ct s hs) (fun _ _ _ => trivial) rfl ?_
 refine a_ ?_
 repeat refine n_ ?_
 refine g_ret ?_
 exact at_end1 rfl rfl [] ⟨rfl, rfl⟩ (fun _ h => h)
theorem bytesV_append (a b : Bs) : bytesV (a ++ b) = bytesV a ++ bytesV b := by simp [bytesV]
theorem putx_byte {a r : Bs} {d c : UInt8} : putx (bytesV (a ++ d :: r)) a.length [U8 c] = bytesV (a ++ c :: r) := by
 unfold putx
 rw [bytesV_append, bytesV_append]
 have hl : (bytesV a).length = a.length := bytesV_len a
 rw [List.take_left' hl, List.length_singleton, ← hl, List.drop_length_add_append]
 simp [bytesV]
theorem map_step (f : UInt8 → UInt8) {s : Bs} {k : Nat} (hk : k < s.length) : (s.take (k + 1)).map f ++ s.drop (k + 1) = (s.take k).map f ++ f (s.getD k 0) :: s.drop (k + 1) := by
 rw [take_succ_map f hk]
 simp
theorem UpperW_ct (s : Bs) (hl : s.length ≤ 9223372036854775806) : Pu Tryz.prog 68 [B s] (fun _ => True) (B (upS s)) := by
 refine ct_enter 29 Tryz.func68 rfl rfl rfl ?_
 intro F _
 repeat refine x_ ?_
 refine a_ ?_
 repeat refine x_ ?_
 refine m_ ?_
 refine gl_bytes rfl rfl ?_; intro a1 c1 hc1
 refine a_ ?_
 repeat refine x_ ?_
 refine m_ ?_
 refine f_ (s_len_sl rfl) ?_
 refine m_ ?_
 repeat refine n_ ?_
 refine g_loop (ι := Nat) (fun k => k ≤ s.length) (fun k => [(3, .slice a1 s.length c1), (8, .slice a1 s.length c1), (9, .int .i64 (s.length : Nat)), (10, .int .i64 (k : Nat))]) (fun k => [.own (.slice a1 s.length c1) 5 1 (bytesV (upS (s.take k) ++ s.drop k))]) (fun k => s.length - k) 0 (by omega) ?_ ?_ ?_
 ·(repeat (first | exact Sub.nil _ | refine Sub.cons rfl ?_))
 ·intro w hw; exact hw
 rintro k hk
 repeat refine x_ ?_
 refine f_ (s_lss rfl rfl) ?_
 repeat refine n_ ?_
 refine g_cond rfl (fun h => ?_) (fun h => ?_)
 ·have hk' : k < s.length := by simp at h; omega
  have hst := map_step upC hk'
  have hdr := drop_get hk'
  have hul : (upS (s.take k)).length = k := by unfold upS; rw [List.length_map, List.length_take]; omega
  obtain ⟨c, hc⟩ : ∃ c, c = s.getD k 0 := ⟨_, rfl⟩
  rw [← hc] at hst hdr
  have hge : (upS (s.take k) ++ s.drop k).getD k 0 = c := by
   rw [List.getD_eq_getElem?_getD, List.getElem?_append_right (by omega), hul, Nat.sub_self, hdr]
   rfl
  have htl : (upS (s.take k) ++ s.drop k).length = s.length := by rw [List.length_append, hul, List.length_drop]; omega
  have hc255 := c.toNat_lt
  repeat refine x_ ?_
  refine m_ ?_
  refine r_ (s_indexAddr_own rfl z_3 rfl (by omega)) ?_
  refine r_ ((s_load1 rfl (fun w hw => rdC_own hw z_3 (i := k) (by omega) (by omega))).eq (v' := U8 c) (by rw [hge])) ?_
  refine a_ ?_
  refine a_ ?_
  repeat refine n_ ?_
  obtain ⟨q1, h1⟩ : ∃ q, q = decide ((c.toNat : Int) ≥ 97) := ⟨_, rfl⟩
  obtain ⟨q2, h2⟩ : ∃ q, q = decide ((c.toNat : Int) ≤ 122) := ⟨_, rfl⟩
  repeat refine y_ ?_
  refine g_cutK [(3, .slice a1 s.length c1), (4, .int .i64 (k : Nat)), (5, U8 c), (8, .slice a1 s.length c1), (9, .int .i64 (s.length : Nat)), (10, .int .i64 (k : Nat)), (20, .bool (q1 && q2))] [.own (.slice a1 s.length c1) 5 1 (bytesV (upS (s.take k) ++ s.drop k))] ?_ ?_
  ·cases q1
   all_goals (
    repeat refine x_ ?_
    refine m_ ?_
    refine f_ ((s_geq rfl rfl).eb h1) ?_
    refine m_ ?_
    (first | refine gl_guard_no rfl rfl rfl rfl rfl rfl rfl ?_ | (refine v_ ?_; refine m_ ?_))
    (first | refine gl_guard_no rfl rfl rfl rfl rfl rfl rfl ?_ | (refine v_ ?_; refine f_ ((s_leq rfl rfl).eb h2) ?_))
    refine f_ z_4 ?_
    refine gl_nil ?_
    repeat refine y_ ?_)
   all_goals exact at_cut j_ i_
  repeat refine y_ ?_
  refine g_cond rfl (fun h3 => ?_) (fun h3 => ?_)
  ·have hcc : 97 ≤ c.toNat ∧ c.toNat ≤ 122 := by
    simp only [Bool.and_eq_true] at h3
    have a := of_decide_eq_true (h1.symm.trans h3.1)
    have b := of_decide_eq_true (h2.symm.trans h3.2)
    omega
   have hup : upC c = c - 32 := by unfold upC; rw [if_pos hcc]
   have hsub : (c.toNat : Int) - 32 = ((c - 32).toNat : Nat) := by
    rw [UInt8.toNat_sub]
    simp
    omega
   repeat refine x_ ?_
   refine m_ ?_
   refine m_ ?_
   refine m_ ?_
   refine f_ ((s_sub_in rfl rfl (z := ((c - 32).toNat : Nat)) (by rw [IntKind.wrap_u8]; omega))) ?_
   refine r_ (s_indexAddr_own rfl z_3 rfl (by omega)) ?_
   refine gl_store_own (q := k * 1) rfl rfl z_6 z_7 (by decide) z_2 (by rw [bytesV_len, htl]; omega) ?_
   repeat refine x_ ?_
   refine f_ (s_add_i64 rfl rfl (by omega)) ?_
   refine m_ ?_
   repeat refine n_ ?_
   refine at_next (k + 1) (by omega) (by omega) ?_ ?_
   ·(repeat (first | exact Sub.nil _ | refine Sub.cons rfl ?_))
   ·intro w hw
    have e : putx (bytesV (upS (s.take k) ++ s.drop k)) (k * 1) [U8 (c - 32)] = bytesV (upS (s.take (k + 1)) ++ s.drop (k + 1)) := by
     have h5 : upS (s.take (k + 1)) ++ s.drop (k + 1) = upS (s.take k) ++ (c - 32) :: s.drop (k + 1) := by rw [← hup]; exact hst
     rw [h5, hdr, Nat.mul_one]
     have h6 := putx_byte (a := upS (s.take k)) (r := s.drop (k + 1)) (d := c) (c := c - 32)
     rwa [hul] at h6
    rw [← e]
    exact hw
  ·have hup : upC c = c := by
    unfold upC
    refine if_neg fun hh => ?_
    have a : q1 = true := h1.trans (decide_eq_true (by omega))
    have b : q2 = true := h2.trans (decide_eq_true (by omega))
    rw [a, b] at h3
    cases h3
   repeat refine x_ ?_
   refine f_ (s_add_i64 rfl rfl (by omega)) ?_
   refine m_ ?_
   repeat refine n_ ?_
   refine at_next (k + 1) (by omega) (by omega) ?_ ?_
   ·(repeat (first | exact Sub.nil _ | refine Sub.cons rfl ?_))
   ·intro w hw
    have e : upS (s.take k) ++ s.drop k = upS (s.take (k + 1)) ++ s.drop (k + 1) := by
     have h5 : upS (s.take (k + 1)) ++ s.drop (k + 1) = upS (s.take k) ++ upC c :: s.drop (k + 1) := hst
     rw [h5, hup, hdr]
    rw [← e]
    exact hw
 ·have hkl : k = s.length := by simp at h; omega
  subst hkl
  repeat refine x_ ?_
  refine m_ ?_
  refine r_ (s_string (l := upS s) rfl (by simp [upS]) (fun w hw => by have h5 := (hw.ownN .del).2.2.1; rwa [List.take_length, List.drop_length, List.append_nil] at h5)) ?_
  refine a_ ?_
  repeat refine n_ ?_
  refine g_ret ?_
  exact at_end1 rfl rfl [] ⟨rfl, rfl⟩ (fun _ h => h.dropAll)
theorem Itoa_ct (n : Nat) (h : n ≤ 9223372036854775807) : Pu Tryz.prog 100 [.int .i64 (n : Nat)] Gl (B (digS n)) := pu_below fun w hg => by
 refine (Tryz.strconv_Itoa (n : Nat) (by omega) (by omega) w hg.tabIs).mono ?_
 rintro e w' ⟨rfl, k, os, rfl⟩
 refine ⟨?_, ?_⟩
 ·rw [Lib.itoa_nonneg, dec_dig]
 ·exact ⟨rfl, rfl, rfl, by show w.heap.size ≤ (w.heap ++ os).size; simp, fun k hk => by show (w.heap ++ os)[k]? = _; rw [Array.getElem?_append_left hk]⟩
theorem LiteralW_ct (s : Bs) (hl : s.length ≤ big) : Pu Tryz.prog 70 [B s] Gl (B (literalS s)) := by
 have hl' := hl
 unfold big at hl
 have hd := digS_len64 (n := s.length) (by omega)
 refine ct_enter 10 Tryz.func70 rfl rfl rfl ?_
 intro F hg
 repeat refine x_ ?_
 refine a_ ?_
 repeat refine x_ ?_
 refine m_ ?_
 refine f_ (s_len_str rfl) ?_
 refine gl_callp rfl (Itoa_ct s.length (by omega)) (fun h hh hb => hg.le hh) rfl ?_
 refine f_ (s_add_str rfl rfl (by simp only [List.length_cons, List.length_nil]; omega)) ?_
 refine f_ (s_add_str rfl rfl (by simp only [List.length_append, List.length_cons, List.length_nil]; omega)) ?_
 refine m_ ?_
 refine f_ ((s_add_str rfl rfl (by simp only [List.length_append, List.length_cons, List.length_nil]; omega)).eq (v' := B (literalS s)) (by simp [literalS])) ?_
 refine a_ ?_
 repeat refine n_ ?_
 refine g_ret ?_
 exact at_end1 rfl rfl [] ⟨rfl, rfl⟩ (fun _ h => h)
end Go.Proofs.YtgllpcggdcknaaaGreatDoor.Rp
namespace Go.Proofs.YtgllpcggdcknaaaGreatDoor.Rp
open Go Go.Sl Go.RowKit
theorem bytesV_one (l : Bs) : ∀ q ∈ bytesV l, q.oneCell' = true := fun q hq => by
 obtain ⟨x, _, rfl⟩ := List.mem_map.mp hq
 rfl
set_option maxRecDepth 8000 in
theorem QuoteW_ct (s : Bs) (hl : s.length ≤ 9223372036854775806) : Pu Tryz.prog 69 [B s] (fun _ => True) (optV (quoteS s)) := by
 obtain ⟨q1, h1⟩ : ∃ q, q = decide ((s.length : Int) > 512) := ⟨_, rfl⟩
 obtain ⟨q2, h2⟩ : ∃ q, q = decide (s = []) := ⟨_, rfl⟩
 obtain ⟨q3, h3⟩ : ∃ q, q = (s.all quotable && !s.isEmpty) := ⟨_, rfl⟩
 have hq : (s.length ≤ 512 ∧ s.all quotable = true) ↔ (q1 || (!q2 && !q3)) = false := by
  rw [Bool.or_eq_false_iff, h1, decide_eq_false_iff_not]
  cases s with
  | nil => simp [h2]
  | cons c t =>
   rw [h2, h3]
   simp
   omega
 refine ct_enter 48 Tryz.func69 rfl rfl rfl ?_
 intro F _
 repeat refine x_ ?_
 refine a_ ?_
 refine a_ ?_
 repeat refine n_ ?_
 refine g_cutK [(0, B s), (17, .bool (q1 || (!q2 && !q3)))] [] ?_ ?_
 ·cases q1 <;> cases q2
  all_goals (
   repeat refine x_ ?_
   refine m_ ?_
   refine f_ (s_len_str rfl) ?_
   refine f_ ((s_gtr rfl rfl).eb h1) ?_
   refine m_ ?_
   (first | refine gl_guard_no rfl rfl rfl rfl rfl rfl rfl ?_ | (refine v_ ?_; refine m_ ?_))
   (first | refine gl_guard_no rfl rfl rfl rfl rfl rfl rfl ?_ | (refine v_ ?_; refine f_ ((s_neq_str rfl rfl).eq (congrArg (fun b => Value.bool (!b)) h2.symm)) ?_))
   (first | refine gl_guard_no rfl rfl rfl rfl rfl rfl rfl ?_ | (refine v_ ?_; refine m_ ?_))
   (first|refine u_ ?_|(refine v_ ?_; refine m_ ?_))
   (first|refine u_ ?_|(refine v_ ?_; refine gl_callp rfl (all_ct 99 quotable quotableW_ct s hl) (fun _ _ _ => trivial) rfl ?_; rw [← h3]))
   (first|refine u_ ?_|(refine v_ ?_; refine f_ (s_not rfl) ?_))
   (first | refine gl_guard_no rfl rfl rfl rfl rfl rfl rfl ?_ | (refine v_ ?_; refine f_ z_4 ?_))
   refine f_ z_4 ?_
   refine gl_nil ?_
   repeat refine y_ ?_)
  all_goals exact at_cut j_ i_
 repeat refine y_ ?_
 refine g_cond rfl (fun h => ?_) (fun h => ?_)
 ·have e : quoteS s = none := by
   unfold quoteS
   exact if_neg (fun k => by rw [hq.1 k] at h; cases h)
  rw [e]
  repeat refine x_ ?_
  refine a_ ?_
  refine a_ ?_
  repeat refine n_ ?_
  refine g_ret ?_
  exact at_end2 rfl rfl rfl [] ⟨rfl, rfl⟩ (fun _ h => h)
 have hqq := hq.2 h
 have e : quoteS s = some (34 :: s.flatMap escC ++ [34]) := by unfold quoteS; exact if_pos hqq
 have hlen := esc_len s
 rw [e]
 repeat refine x_ ?_
 refine gl_buildSliceU rfl rfl rfl rfl rfl rfl (xs := bytesV [34]) rfl rfl ?_; intro a18 ha18
 refine a_ ?_
 repeat refine x_ ?_
 refine m_ ?_
 refine f_ (s_len_str rfl) ?_
 refine m_ ?_
 repeat refine n_ ?_
 refine g_loop (ι := Nat × Option Addr × Nat) (fun i => i.1 ≤ s.length) (fun i => [(0, B s), (4, .slice i.2.1 (34 :: (s.take i.1).flatMap escC).length i.2.2), (20, .int .i64 (s.length : Nat)), (21, .int .i64 (i.1 : Nat))]) (fun i => [.own (.slice i.2.1 (34 :: (s.take i.1).flatMap escC).length i.2.2) 5 1 (bytesV (34 :: (s.take i.1).flatMap escC))]) (fun i => s.length - i.1) (0, a18, 1) z_8 ?_ ?_ ?_
 ·(repeat (first | exact Sub.nil _ | refine Sub.cons rfl ?_))
 ·intro w hw; exact hw
 rintro ⟨k, a, c⟩ hk
 simp only at hk
 obtain ⟨b, hb⟩ : ∃ b, b = 34 :: (s.take k).flatMap escC := ⟨_, rfl⟩
 have hbl : b.length ≤ 2000 := by
  have := esc_len (s.take k)
  rw [List.length_take] at this
  rw [hb, List.length_cons]
  omega
 refine G.weaken (L' := [(0, B s), (4, .slice a b.length c), (20, .int .i64 (s.length : Nat)), (21, .int .i64 (k : Nat))]) (H' := [.own (.slice a b.length c) 5 1 (bytesV b)]) ?_ (by rw [hb]; (repeat (first | exact Sub.nil _ | refine Sub.cons rfl ?_))) (fun w hw => by rw [hb]; exact hw)
 repeat refine x_ ?_
 refine f_ (s_lss rfl rfl) ?_
 repeat refine n_ ?_
 refine g_cond rfl (fun h => ?_) (fun h => ?_)
 ·have hk' : k < s.length := by simp at h; omega
  have hf := flat_snoc hk'
  obtain ⟨d, hd⟩ : ∃ d, d = s.getD k 0 := ⟨_, rfl⟩
  rw [← hd] at hf
  have hf2 : 34 :: (s.take (k + 1)).flatMap escC = b ++ escC d := by rw [hf, hb]; rfl
  obtain ⟨p1, hp1⟩ : ∃ q, q = decide (d = 34) := ⟨_, rfl⟩
  obtain ⟨p2, hp2⟩ : ∃ q, q = decide (d = 92) := ⟨_, rfl⟩
  repeat refine x_ ?_
  refine m_ ?_
  refine a_ ?_
  repeat refine n_ ?_
  refine g_cutK [(0, B s), (4, .slice a b.length c), (5, .int .i64 (k : Nat)), (20, .int .i64 (s.length : Nat)), (21, .int .i64 (k : Nat)), (33, .bool (p1 || p2))] [.own (.slice a b.length c) 5 1 (bytesV b)] ?_ ?_
  ·cases p1
   all_goals (
    repeat refine x_ ?_
    refine m_ ?_
    refine m_ ?_
    refine f_ ((s_index_str rfl rfl (by omega)).eq (v' := U8 d) (by rw [hd]; simp only [Int.toNat_natCast])) ?_
    refine f_ ((s_eql rfl rfl).eq ((congrArg Value.bool (u8_eq (b := 34))).trans (congrArg Value.bool hp1.symm))) ?_
    refine m_ ?_
    (first | refine gl_guard_no rfl rfl rfl rfl rfl rfl rfl ?_ | (refine v_ ?_; refine m_ ?_))
    (first | refine gl_guard_no rfl rfl rfl rfl rfl rfl rfl ?_ | (refine v_ ?_; refine m_ ?_))
    (first | refine gl_guard_no rfl rfl rfl rfl rfl rfl rfl ?_ | (refine v_ ?_; refine f_ ((s_index_str rfl rfl (by omega)).eq (v' := U8 d) (by rw [hd]; simp only [Int.toNat_natCast])) ?_))
    (first | refine gl_guard_no rfl rfl rfl rfl rfl rfl rfl ?_ | (refine v_ ?_; refine f_ ((s_eql rfl rfl).eq ((congrArg Value.bool (u8_eq (b := 92))).trans (congrArg Value.bool hp2.symm))) ?_))
    refine f_ z_4 ?_
    refine gl_nil ?_
    repeat refine y_ ?_)
   all_goals exact at_cut j_ i_
  have hesc : escC d = if (p1 || p2) = true then [92, d] else [d] := by
   rw [hp1, hp2]
   unfold escC
   by_cases x : d = 34 <;> by_cases y : d = 92 <;> simp [x, y]
  repeat refine y_ ?_
  refine g_cond rfl (fun h4 => ?_) (fun h4 => ?_)
  ·rw [if_pos h4] at hesc
   repeat refine x_ ?_
   refine m_ ?_
   refine gl_buildSliceU rfl rfl rfl rfl rfl rfl (xs := bytesV [92]) rfl rfl ?_; intro a35 ha35
   refine gl_append rfl rfl (fun a' c' => .there .here) (fun w hw => (hw.ownN z_3).2.2.1) rfl rfl rfl (bytesV_one _) (by show (b.length + 1) * 1 ≤ _; omega) (by omega) rfl ?_; intro a5 c5 hc5
   refine a_ ?_
   repeat refine n_ ?_
   rw [show bytesV b ++ bytesV [92] = bytesV (b ++ [92]) from (bytesV_append _ _).symm]
   repeat refine x_ ?_
   refine m_ ?_
   refine m_ ?_
   refine m_ ?_
   refine f_ ((s_index_str rfl rfl (by omega)).eq (v' := U8 d) (by rw [hd]; simp only [Int.toNat_natCast])) ?_
   refine gl_buildSliceU rfl rfl rfl rfl rfl rfl (xs := bytesV [d]) rfl rfl ?_; intro a41 ha41
   refine gl_append rfl rfl (fun a' c' => .there (.there .here)) (fun w hw => (hw.ownN z_3).2.2.1) rfl rfl rfl (bytesV_one _) (by show (b.length + 1 + 1) * 1 ≤ _; omega) (by omega) rfl ?_; intro a6 c6 hc6
   refine a_ ?_
   repeat refine x_ ?_
   refine f_ (s_add_i64 rfl rfl (by omega)) ?_
   refine m_ ?_
   repeat refine n_ ?_
   refine at_next (k + 1, a6, c6) (by simp only; omega) (by simp only; omega) ?_ ?_
   ·simp only
    rw [hf2, hesc, List.length_append]
    (repeat (first | exact Sub.nil _ | refine Sub.cons rfl ?_))
   ·intro w hw
    simp only
    rw [hf2, hesc, List.length_append, show b ++ [92, d] = (b ++ [92]) ++ [d] by simp, bytesV_append (b ++ [92])]
    exact hw.drop.drop
  ·rw [if_neg (by rw [h4]; simp)] at hesc
   repeat refine x_ ?_
   refine m_ ?_
   refine m_ ?_
   refine m_ ?_
   refine f_ ((s_index_str rfl rfl (by omega)).eq (v' := U8 d) (by rw [hd]; simp only [Int.toNat_natCast])) ?_
   refine gl_buildSliceU rfl rfl rfl rfl rfl rfl (xs := bytesV [d]) rfl rfl ?_; intro a41 ha41
   refine gl_append rfl rfl (fun a' c' => .there .here) (fun w hw => (hw.ownN z_3).2.2.1) rfl rfl rfl (bytesV_one _) (by show (b.length + 1) * 1 ≤ _; omega) (by omega) rfl ?_; intro a6 c6 hc6
   refine a_ ?_
   repeat refine x_ ?_
   refine f_ (s_add_i64 rfl rfl (by omega)) ?_
   refine m_ ?_
   repeat refine n_ ?_
   refine at_next (k + 1, a6, c6) (by simp only; omega) (by simp only; omega) ?_ ?_
   ·simp only
    rw [hf2, hesc, List.length_append]
    (repeat (first | exact Sub.nil _ | refine Sub.cons rfl ?_))
   ·intro w hw
    simp only
    rw [hf2, hesc, List.length_append, bytesV_append]
    exact hw.drop
 ·have hkl : k = s.length := by simp at h; omega
  rw [hkl, List.take_length] at hb
  repeat refine x_ ?_
  refine m_ ?_
  refine gl_buildSliceU rfl rfl rfl rfl rfl rfl (xs := bytesV [34]) rfl rfl ?_; intro a45 ha45
  refine gl_append rfl rfl (fun a' c' => .there .here) (fun w hw => (hw.ownN z_3).2.2.1) rfl rfl rfl (bytesV_one _) (by show (b.length + 1) * 1 ≤ _; omega) (by omega) rfl ?_; intro a5 c5 hc5
  refine r_ (s_string (l := 34 :: s.flatMap escC ++ [34]) rfl (by rw [← hb, List.length_append]; rfl) (fun w hw => by have h5 := (hw.ownN (.there .del)).2.2.1; rwa [← bytesV_append, hb] at h5)) ?_
  refine a_ ?_
  refine a_ ?_
  repeat refine n_ ?_
  refine g_ret ?_
  exact at_end2 rfl rfl rfl [] ⟨rfl, rfl⟩ (fun _ h => h.dropAll)
theorem uq_bad {b : Bs} {i : Nat} {c : UInt8} {t : Bs} (h : quotable c = false ∨ 512 < b.length) : uqL b i (c :: t) = none := by
 rw [uqL_cons]
 rcases h with h | h
 ·split
  ·rfl
  split
  ·next h2 => subst h2; cases h
  split
  ·next h2 => subst h2; cases h
  ·simp [h]
 ·rw [if_pos h]
set_option maxRecDepth 8000 in
theorem UnquoteW_ct (s : Bs) (hl : s.length ≤ big) : Pu Tryz.prog 89 [B s] (fun _ => True) (unqV (uqS s)) := by
 unfold big at hl
 obtain ⟨q1, h1⟩ : ∃ q, q = decide (s = []) := ⟨_, rfl⟩
 obtain ⟨q2, h2⟩ : ∃ q, q = decide (s.getD 0 0 = 34) := ⟨_, rfl⟩
 have hq : (q1 || !q2) = true → uqS s = none := fun h => by
  cases s with
  | nil => rfl
  | cons c t =>
   have a1 : q1 = false := h1.trans (decide_eq_false z_8)
   rw [a1, Bool.false_or] at h
   have a2 : q2 = false := by simpa using h
   have a3 : ¬c = 34 := of_decide_eq_false (h2.symm.trans a2)
   unfold uqS
   simp only
   rw [if_neg a3]
 have hq2 : (q1 || !q2) = false → uqS s = uqL [] 1 (s.drop 1) ∧ 1 ≤ s.length := fun h => by
  cases s with
  | nil =>
   have a1 : q1 = true := h1.trans (decide_eq_true rfl)
   rw [a1] at h
   cases h
  | cons c t =>
   have a1 : q1 = false := h1.trans (decide_eq_false z_8)
   rw [a1, Bool.false_or] at h
   have a2 : q2 = true := by simpa using h
   have a3 : c = 34 := of_decide_eq_true (h2.symm.trans a2)
   unfold uqS
   simp only
   rw [if_pos a3]
   exact ⟨rfl, by simp⟩
 refine ct_enter 74 Tryz.func89 rfl rfl rfl ?_
 intro F _
 repeat refine x_ ?_
 refine a_ ?_
 refine a_ ?_
 refine a_ ?_
 repeat refine n_ ?_
 refine g_cutK [(0, B s), (14, .bool (q1 || !q2))] [] ?_ ?_
 ·cases q1
  all_goals (
   repeat refine x_ ?_
   refine m_ ?_
   refine f_ ((s_eql_str rfl rfl).eb h1) ?_
   refine m_ ?_
   (first | refine gl_guard_no rfl rfl rfl rfl rfl rfl rfl ?_ | (refine v_ ?_; refine m_ ?_))
   (first | refine gl_guard_no rfl rfl rfl rfl rfl rfl rfl ?_ | (refine v_ ?_; refine f_ ((s_index_str rfl rfl (by have : s ≠ [] := of_decide_eq_false h1.symm; have := List.length_pos_iff.mpr this; omega)).eq (v' := U8 (s.getD 0 0)) rfl) ?_))
   (first | refine gl_guard_no rfl rfl rfl rfl rfl rfl rfl ?_ | (refine v_ ?_; refine f_ ((s_neq rfl rfl).eq ((congrArg (fun b => Value.bool (!b)) (u8_eq (b := 34))).trans (congrArg (fun b => Value.bool (!b)) h2.symm))) ?_))
   refine f_ z_4 ?_
   refine gl_nil ?_
   repeat refine y_ ?_)
  all_goals exact at_cut j_ i_
 repeat refine y_ ?_
 refine g_cond rfl (fun h => ?_) (fun h => ?_)
 ·rw [hq h]
  repeat refine x_ ?_
  refine a_ ?_
  refine a_ ?_
  refine a_ ?_
  repeat refine n_ ?_
  refine g_ret ?_
  exact at_end3 rfl rfl rfl rfl [] ⟨rfl, rfl⟩ (fun _ h => h)
 obtain ⟨he0, hs1⟩ := hq2 h
 repeat refine x_ ?_
 refine a_ ?_
 repeat refine x_ ?_
 refine a_ ?_
 repeat refine n_ ?_
 refine g_own_nil 5 1 ?_
 refine g_loop (ι := Nat × Bs × Option Addr × Nat) (fun i => 1 ≤ i.1 ∧ i.1 ≤ s.length ∧ i.2.1.length ≤ 513 ∧ uqS s = uqL i.2.1 i.1 (s.drop i.1)) (fun i => [(0, B s), (5, .slice i.2.2.1 i.2.1.length i.2.2.2), (6, .int .i64 (i.1 : Nat))]) (fun i => [.own (.slice i.2.2.1 i.2.1.length i.2.2.2) 5 1 (bytesV i.2.1)]) (fun i => s.length - i.1) (1, [], none, 0) ⟨by simp, hs1, by simp, he0⟩ ?_ ?_ ?_
 ·(repeat (first | exact Sub.nil _ | refine Sub.cons rfl ?_))
 ·intro w hw; exact hw
 rintro ⟨k, b, a, c⟩ ⟨hk1, hk, hbl, he⟩
 simp only at hk1 hk hbl he
 obtain ⟨p1, hp1⟩ : ∃ q, q = decide ((k : Int) < (s.length : Nat)) := ⟨_, rfl⟩
 obtain ⟨d, hd⟩ : ∃ d, d = s.getD k 0 := ⟨_, rfl⟩
 obtain ⟨p2, hp2⟩ : ∃ q, q = quotable d := ⟨_, rfl⟩
 obtain ⟨p3, hp3⟩ : ∃ q, q = decide ((b.length : Int) ≤ 512) := ⟨_, rfl⟩
 repeat refine y_ ?_
 refine g_cutK [(0, B s), (5, .slice a b.length c), (6, .int .i64 (k : Nat)), (29, .bool (p1 && (p2 && p3)))] [.own (.slice a b.length c) 5 1 (bytesV b)] ?_ ?_
 ·cases p1 <;> cases p2
  all_goals (
   repeat refine x_ ?_
   refine m_ ?_
   refine m_ ?_
   refine f_ (s_len_str rfl) ?_
   refine f_ ((s_lss rfl rfl).eb hp1) ?_
   refine m_ ?_
   (first | refine gl_guard_no rfl rfl rfl rfl rfl rfl rfl ?_ | (refine v_ ?_; refine m_ ?_))
   (first | refine gl_guard_no rfl rfl rfl rfl rfl rfl rfl ?_ | (refine v_ ?_; refine m_ ?_))
   (first | refine gl_guard_no rfl rfl rfl rfl rfl rfl rfl ?_ | (refine v_ ?_; refine f_ ((s_index_str rfl rfl (by have := of_decide_eq_true hp1.symm; omega)).eq (v' := U8 d) (by rw [hd]; simp only [Int.toNat_natCast])) ?_))
   (first | refine gl_guard_no rfl rfl rfl rfl rfl rfl rfl ?_ | (refine v_ ?_; refine gl_callp rfl (quotableW_ct d) (fun _ _ _ => trivial) rfl ?_; rw [← hp2]))
   refine f_ z_4 ?_
   refine m_ ?_
   (first | refine gl_guard_no rfl rfl rfl rfl rfl rfl rfl ?_ | (refine v_ ?_; refine m_ ?_))
   (first | refine gl_guard_no rfl rfl rfl rfl rfl rfl rfl ?_ | (refine v_ ?_; refine f_ (s_len_sl rfl) ?_))
   (first | refine gl_guard_no rfl rfl rfl rfl rfl rfl rfl ?_ | (refine v_ ?_; refine f_ ((s_leq rfl rfl).eb hp3) ?_))
   refine f_ z_4 ?_
   refine gl_nil ?_
   repeat refine y_ ?_)
  all_goals exact at_cut j_ i_
 repeat refine y_ ?_
 refine g_cond rfl (fun h => ?_) (fun h => ?_)
 rotate_left
 ·have hnone : uqS s = none := by
   rw [he]
   rcases Nat.lt_or_ge k s.length with h5 | h5
   ·rw [drop_get h5, ← hd]
    have a1 : p1 = true := hp1.trans (decide_eq_true (by omega))
    rw [a1, Bool.true_and] at h
    refine uq_bad ?_
    cases p2 with
    | false => exact .inl hp2.symm
    | true =>
     rw [Bool.true_and] at h
     rw [h] at hp3
     have := of_decide_eq_false hp3.symm
     exact .inr (by omega)
   ·rw [List.drop_of_length_le h5]; rfl
  rw [hnone]
  repeat refine x_ ?_
  refine a_ ?_
  refine a_ ?_
  refine a_ ?_
  repeat refine n_ ?_
  refine g_ret ?_
  exact at_end3 rfl rfl rfl rfl [] ⟨rfl, rfl⟩ (fun _ h => h.dropAll)
 simp only [Bool.and_eq_true] at h
 have hk' : k < s.length := by have := of_decide_eq_true (hp1.symm.trans h.1); omega
 have hqd : quotable d = true := hp2.symm.trans h.2.1
 have hb5 : b.length ≤ 512 := by have := of_decide_eq_true (hp3.symm.trans h.2.2); omega
 rw [drop_get hk', ← hd, uqL_cons, if_neg (by omega)] at he
 repeat refine x_ ?_
 refine m_ ?_
 refine m_ ?_
 refine f_ ((s_index_str rfl rfl (by omega)).eq (v' := U8 d) (by rw [hd]; simp only [Int.toNat_natCast])) ?_
 refine a_ ?_
 repeat refine n_ ?_
 obtain ⟨r1, hr1⟩ : ∃ q, q = decide (d = 34) := ⟨_, rfl⟩
 repeat refine y_ ?_
 refine g_cutK [(0, B s), (5, .slice a b.length c), (6, .int .i64 (k : Nat)), (7, U8 d), (35, .bool r1)] [.own (.slice a b.length c) 5 1 (bytesV b)] ?_ ?_
 ·cases r1
  all_goals (
   repeat refine x_ ?_
   refine m_ ?_
   refine f_ ((s_eql rfl rfl).eq ((congrArg Value.bool (u8_eq (b := 34))).trans (congrArg Value.bool hr1.symm))) ?_
   refine m_ ?_
   (first | refine gl_guard_no rfl rfl rfl rfl rfl rfl rfl ?_ | (refine v_ ?_; refine m_ ?_))
   (first | refine gl_guard_no rfl rfl rfl rfl rfl rfl rfl ?_ | (refine v_ ?_; refine f_ (s_len_sl rfl) ?_))
   (first | refine gl_guard_no rfl rfl rfl rfl rfl rfl rfl ?_ | (refine v_ ?_; refine f_ ((s_leq rfl rfl).eq (v' := .bool true) (congrArg Value.bool (decide_eq_true (by omega)))) ?_))
   refine f_ z_4 ?_
   refine a_ ?_
   refine gl_nil ?_
   repeat refine y_ ?_)
  all_goals exact at_cut j_ i_
 repeat refine y_ ?_
 refine g_cond rfl (fun h3 => ?_) (fun h3 => ?_)
 ·rw [if_pos (of_decide_eq_true (hr1.symm.trans h3))] at he
  rw [he]
  repeat refine x_ ?_
  refine m_ ?_
  refine r_ (s_string (l := b) rfl rfl (fun w hw => (hw.ownN z_3).2.2.1)) ?_
  refine m_ ?_
  refine f_ (s_add_i64 rfl rfl (by omega)) ?_
  refine a_ ?_
  refine a_ ?_
  refine a_ ?_
  repeat refine n_ ?_
  refine g_ret ?_
  exact at_end3 rfl rfl rfl rfl [] ⟨rfl, rfl⟩ (fun _ h => h.dropAll)
 rw [if_neg (of_decide_eq_false (hr1.symm.trans h3))] at he
 repeat refine x_ ?_
 refine m_ ?_
 refine f_ ((s_eql rfl rfl).eq (v' := .bool (decide (d = 92))) (congrArg Value.bool (u8_eq (b := 92)))) ?_
 refine a_ ?_
 repeat refine n_ ?_
 refine g_cond rfl (fun h4 => ?_) (fun h4 => ?_)
 ·rw [if_pos (of_decide_eq_true h4)] at he
  repeat refine x_ ?_
  refine m_ ?_
  refine f_ (s_add_i64 rfl rfl (by omega)) ?_
  refine a_ ?_
  repeat refine n_ ?_
  obtain ⟨z, hz⟩ : ∃ d, d = s.getD (k + 1) 0 := ⟨_, rfl⟩
  obtain ⟨u1, hu1⟩ : ∃ q, q = decide (((k : Int) + 1) ≥ (s.length : Nat)) := ⟨_, rfl⟩
  obtain ⟨u2, hu2⟩ : ∃ q, q = decide (z = 34) := ⟨_, rfl⟩
  obtain ⟨u3, hu3⟩ : ∃ q, q = decide (z = 92) := ⟨_, rfl⟩
  repeat refine y_ ?_
  refine g_cutK [(0, B s), (5, .slice a b.length c), (6, .int .i64 ((k : Int) + 1)), (67, .bool (u1 || (!u2 && !u3)))] [.own (.slice a b.length c) 5 1 (bytesV b)] ?_ ?_
  ·cases u1 <;> cases u2
   all_goals (
    repeat refine x_ ?_
    refine m_ ?_
    refine m_ ?_
    refine f_ (s_len_str rfl) ?_
    refine f_ ((s_geq rfl rfl).eb hu1) ?_
    refine m_ ?_
    (first | refine gl_guard_no rfl rfl rfl rfl rfl rfl rfl ?_ | (refine v_ ?_; refine m_ ?_))
    (first | refine gl_guard_no rfl rfl rfl rfl rfl rfl rfl ?_ | (refine v_ ?_; refine m_ ?_))
    (first | refine gl_guard_no rfl rfl rfl rfl rfl rfl rfl ?_ | (refine v_ ?_; refine f_ ((s_index_str rfl rfl (by have := of_decide_eq_false hu1.symm; omega)).eq (v' := U8 z) (by rw [hz]; rfl)) ?_))
    (first | refine gl_guard_no rfl rfl rfl rfl rfl rfl rfl ?_ | (refine v_ ?_; refine f_ ((s_neq rfl rfl).eq ((congrArg (fun b => Value.bool (!b)) (u8_eq (b := 34))).trans (congrArg (fun b => Value.bool (!b)) hu2.symm))) ?_))
    (first | refine gl_guard_no rfl rfl rfl rfl rfl rfl rfl ?_ | (refine v_ ?_; refine m_ ?_))
    (first|refine u_ ?_|(refine v_ ?_; refine m_ ?_))
    (first|refine u_ ?_|(refine v_ ?_; refine m_ ?_))
    (first|refine u_ ?_|(refine v_ ?_; refine f_ ((s_index_str rfl rfl (by have := of_decide_eq_false hu1.symm; omega)).eq (v' := U8 z) (by rw [hz]; rfl)) ?_))
    (first|refine u_ ?_|(refine v_ ?_; refine f_ ((s_neq rfl rfl).eq ((congrArg (fun b => Value.bool (!b)) (u8_eq (b := 92))).trans (congrArg (fun b => Value.bool (!b)) hu3.symm))) ?_))
    (first | refine gl_guard_no rfl rfl rfl rfl rfl rfl rfl ?_ | (refine v_ ?_; refine f_ z_4 ?_))
    refine f_ z_4 ?_
    refine gl_nil ?_
    repeat refine y_ ?_)
   all_goals exact at_cut j_ i_
  repeat refine y_ ?_
  refine g_cond rfl (fun h5 => ?_) (fun h5 => ?_)
  ·have hnone : uqS s = none := by
    rw [he]
    rcases Nat.lt_or_ge (k + 1) s.length with h6 | h6
    ·rw [drop_get h6, ← hz]
     simp only
     refine if_neg fun hh => ?_
     have a1 : u1 = false := hu1.trans (decide_eq_false (by omega))
     rw [a1, Bool.false_or] at h5
     simp only [Bool.and_eq_true, Bool.not_eq_true'] at h5
     rcases hh with hh | hh
     ·rw [hh, h5.1] at hu2; cases hu2
     ·rw [hh, h5.2] at hu3; cases hu3
    ·rw [List.drop_of_length_le h6]
   rw [hnone]
   repeat refine x_ ?_
   refine a_ ?_
   refine a_ ?_
   refine a_ ?_
   repeat refine n_ ?_
   refine g_ret ?_
   exact at_end3 rfl rfl rfl rfl [] ⟨rfl, rfl⟩ (fun _ h => h.dropAll)
  ·have a1 : u1 = false := by cases u1 with | false => rfl | true => cases h5
   have hk2 : k + 1 < s.length := by have := of_decide_eq_false (hu1.symm.trans a1); omega
   have hzz : z = 34 ∨ z = 92 := by
    rw [a1, Bool.false_or] at h5
    cases u2 with
    | true => exact .inl (of_decide_eq_true hu2.symm)
    | false =>
     cases u3 with
     | true => exact .inr (of_decide_eq_true hu3.symm)
     | false => cases h5
   rw [drop_get hk2, ← hz] at he
   simp only at he
   rw [if_pos hzz] at he
   repeat refine x_ ?_
   refine m_ ?_
   refine m_ ?_
   refine m_ ?_
   refine f_ ((s_index_str rfl rfl (by omega)).eq (v' := U8 z) (by rw [hz]; rfl)) ?_
   refine gl_buildSliceU rfl rfl rfl rfl rfl rfl (xs := bytesV [z]) rfl rfl ?_; intro a41 ha41
   refine gl_append rfl rfl (fun a' c' => .there .here) (fun w hw => (hw.ownN z_3).2.2.1) rfl rfl rfl (bytesV_one _) (by show (b.length + 1) * 1 ≤ _; omega) (by omega) rfl ?_; intro a6 c6 hc6
   refine a_ ?_
   repeat refine x_ ?_
   refine m_ ?_
   refine f_ ((s_add_i64 rfl rfl (by omega)).eq (v' := .int .i64 ((k + 2 : Nat) : Int)) (by congr 1)) ?_
   refine a_ ?_
   repeat refine n_ ?_
   refine at_next (k + 2, b ++ [z], a6, c6) ⟨by simp only; omega, by simp only; omega, by simp; omega, he⟩ (by simp only; omega) ?_ ?_
   ·simp only
    rw [List.length_append]
    (repeat (first | exact Sub.nil _ | refine Sub.cons rfl ?_))
   ·intro w hw
    simp only
    rw [List.length_append, bytesV_append]
    exact hw.drop
 ·rw [if_neg (of_decide_eq_false h4), if_pos hqd] at he
  repeat refine x_ ?_
  refine m_ ?_
  refine m_ ?_
  refine m_ ?_
  refine f_ ((s_index_str rfl rfl (by omega)).eq (v' := U8 d) (by rw [hd]; simp only [Int.toNat_natCast])) ?_
  refine gl_buildSliceU rfl rfl rfl rfl rfl rfl (xs := bytesV [d]) rfl rfl ?_; intro a41 ha41
  refine gl_append rfl rfl (fun a' c' => .there .here) (fun w hw => (hw.ownN z_3).2.2.1) rfl rfl rfl (bytesV_one _) (by show (b.length + 1) * 1 ≤ _; omega) (by omega) rfl ?_; intro a6 c6 hc6
  refine a_ ?_
  repeat refine x_ ?_
  refine m_ ?_
  refine f_ ((s_add_i64 rfl rfl (by omega)).eq (v' := .int .i64 ((k + 1 : Nat) : Int)) (by congr 1)) ?_
  refine a_ ?_
  repeat refine n_ ?_
  refine at_next (k + 1, b ++ [d], a6, c6) ⟨by simp only; omega, by simp only; omega, by simp; omega, he⟩ (by simp only; omega) ?_ ?_
  ·simp only
   rw [List.length_append]
   (repeat (first | exact Sub.nil _ | refine Sub.cons rfl ?_))
  ·intro w hw
   simp only
   rw [List.length_append, bytesV_append]
   exact hw.drop
end Go.Proofs.YtgllpcggdcknaaaGreatDoor.Rp
namespace Go.Proofs.YtgllpcggdcknaaaGreatDoor.Rp
open Go Go.Sl Go.RowKit
theorem FormW_ct (s : Bs) (hl : s.length ≤ big) : Pu Tryz.prog 32 [B s] Gl (B (formS s)) := by
 have hl' := hl
 unfold big at hl
 obtain ⟨q1, h1⟩ : ∃ q, q = atomS s := ⟨_, rfl⟩
 obtain ⟨q2, h2⟩ : ∃ q, q = decide ((s.length : Int) ≤ 512) := ⟨_, rfl⟩
 obtain ⟨q3, h3⟩ : ∃ q, q = decide (upS s = [78, 73, 76]) := ⟨_, rfl⟩
 have hf : formS s = if (q1 && q2 && !q3) = true then s else (quoteS s).getD (literalS s) := by
  unfold formS
  have : (atomS s = true ∧ s.length ≤ 512 ∧ upS s ≠ [78, 73, 76]) ↔ (q1 && q2 && !q3) = true := by
   rw [Bool.and_eq_true, Bool.and_eq_true, Bool.not_eq_true', ← h1, h2, h3, decide_eq_true_eq, decide_eq_false_iff_not]
   constructor
   ·rintro ⟨a, b, c⟩; exact ⟨⟨a, by omega⟩, c⟩
   ·rintro ⟨⟨a, b⟩, c⟩; exact ⟨a, by omega, c⟩
  by_cases hh : (q1 && q2 && !q3) = true
  ·rw [if_pos hh, if_pos (this.2 hh)]
  ·rw [if_neg hh, if_neg (fun x => hh (this.1 x))]
 refine ct_enter 27 Tryz.func32 rfl rfl rfl ?_
 intro F hg
 repeat refine x_ ?_
 refine a_ ?_
 repeat refine n_ ?_
 refine g_cutK [(0, B s), (16, .bool (q1 && q2 && !q3))] [] ?_ ?_
 ·cases q1 <;> cases q2
  all_goals (
   repeat refine x_ ?_
   refine m_ ?_
   refine gl_callp rfl (AtomW_ct s (by omega)) (fun _ _ _ => trivial) rfl ?_; rw [← h1]
   refine m_ ?_
   (first | refine gl_guard_no rfl rfl rfl rfl rfl rfl rfl ?_ | (refine v_ ?_; refine m_ ?_))
   (first | refine gl_guard_no rfl rfl rfl rfl rfl rfl rfl ?_ | (refine v_ ?_; refine f_ (s_len_str rfl) ?_))
   (first | refine gl_guard_no rfl rfl rfl rfl rfl rfl rfl ?_ | (refine v_ ?_; refine f_ ((s_leq rfl rfl).eb h2) ?_))
   refine f_ z_4 ?_
   refine m_ ?_
   (first | refine gl_guard_no rfl rfl rfl rfl rfl rfl rfl ?_ | (refine v_ ?_; refine m_ ?_))
   (first | refine gl_guard_no rfl rfl rfl rfl rfl rfl rfl ?_ | (refine v_ ?_; refine gl_callp rfl (UpperW_ct s (by omega)) (fun _ _ _ => trivial) rfl ?_))
   (first | refine gl_guard_no rfl rfl rfl rfl rfl rfl rfl ?_ | (refine v_ ?_; refine f_ ((s_neq_str rfl rfl).eq (congrArg (fun b => Value.bool (!b)) h3.symm)) ?_))
   refine f_ z_4 ?_
   refine gl_nil ?_
   repeat refine y_ ?_)
  all_goals exact at_cut j_ i_
 repeat refine y_ ?_
 refine g_cond rfl (fun h => ?_) (fun h => ?_)
 ·rw [if_pos h] at hf
  rw [hf]
  repeat refine x_ ?_
  refine m_ ?_
  refine a_ ?_
  repeat refine n_ ?_
  refine g_ret ?_
  exact at_end1 rfl rfl [] ⟨rfl, rfl⟩ (fun _ h => h)
 rw [if_neg (by rw [h]; simp)] at hf
 rw [hf]
 repeat refine x_ ?_
 refine m_ ?_
 refine gl_callp rfl (QuoteW_ct s (by omega)) (fun _ _ _ => trivial) rfl ?_
 refine m_ ?_
 refine f_ (s_extract rfl rfl) ?_
 refine f_ (s_extract rfl rfl) ?_
 refine a_ ?_
 refine a_ ?_
 repeat refine n_ ?_
 cases hq : quoteS s with
 | some q =>
  repeat refine x_ ?_
  refine m_ ?_
  repeat refine x_ ?_
  refine m_ ?_
  refine a_ ?_
  repeat refine n_ ?_
  refine g_ret ?_
  exact at_end1 rfl rfl [] ⟨rfl, rfl⟩ (fun _ h => h)
 | none =>
  repeat refine x_ ?_
  refine m_ ?_
  repeat refine x_ ?_
  refine m_ ?_
  refine gl_callp rfl (LiteralW_ct s hl') (fun h hh hb => hg.le hh) rfl ?_
  refine a_ ?_
  repeat refine n_ ?_
  refine g_ret ?_
  exact at_end1 rfl rfl [] ⟨rfl, rfl⟩ (fun _ h => h)
theorem sc4 (q1 q2 q3 : Bool) : q1 = false ∨ (q1 = true ∧ q2 = true) ∨ (q1 = true ∧ q2 = false ∧ q3 = true) ∨ (q1 = true ∧ q2 = false ∧ q3 = false) := by
 cases q1 <;> cases q2 <;> cases q3 <;> simp
theorem BoxW_ct (s : Bs) (hl : s.length ≤ big) : Pu Tryz.prog 90 [B s] (fun _ => True) (optV (boxN s)) := by
 unfold big at hl
 obtain ⟨q1, h1⟩ : ∃ q, q = (s.all boxC && !s.isEmpty) := ⟨_, rfl⟩
 obtain ⟨q2, h2⟩ : ∃ q, q = decide ((s.length : Int) > 64) := ⟨_, rfl⟩
 obtain ⟨q3, h3⟩ : ∃ q, q = decide (s.getD 0 0 = 32) := ⟨_, rfl⟩
 obtain ⟨q4, h4⟩ : ∃ q, q = decide (s.getD (s.length - 1) 0 = 32) := ⟨_, rfl⟩
 have hpos : q1 = true → 1 ≤ s.length := fun h => by
  rw [h1] at h
  simp only [Bool.and_eq_true, Bool.not_eq_true', List.isEmpty_eq_false_iff] at h
  exact List.length_pos_iff.mpr h.2
 have hb : boxP s = !(!q1 || (q2 || (q3 || q4))) := by
  cases hq : q1 with
  | false =>
   unfold boxP
   rw [h1] at hq
   rw [Bool.and_comm] at hq
   rw [hq]
   rfl
  | true =>
   have hp := hpos hq
   unfold boxP
   rw [h1, Bool.and_comm] at hq
   rw [hq, head_get hp, last_get hp, h2, h3, h4]
   have e2 : decide (s.length ≤ 64) = !decide ((s.length : Int) > 64) := by
    by_cases h : s.length ≤ 64
    ·rw [decide_eq_true h, decide_eq_false (by omega)]; rfl
    ·rw [decide_eq_false h, decide_eq_true (by omega)]; rfl
   rw [e2]
   generalize decide ((s.length : Int) > 64) = x
   by_cases a : s.getD 0 0 = 32 <;> by_cases b : s.getD (s.length - 1) 0 = 32 <;> cases x <;> simp [a, b]
 refine ct_enter 31 Tryz.func90 rfl rfl rfl ?_
 intro F _
 repeat refine x_ ?_
 refine a_ ?_
 refine a_ ?_
 repeat refine x_ ?_
 refine a_ ?_
 repeat refine n_ ?_
 refine g_cutK [(0, B s), (26, .bool (!q1 || (q2 || (q3 || q4))))] [] ?_ ?_
 ·rcases sc4 q1 q2 q3 with rfl | ⟨rfl, rfl⟩ | ⟨rfl, rfl, rfl⟩ | ⟨rfl, rfl, rfl⟩
  all_goals (
   repeat refine x_ ?_
   refine m_ ?_
   refine m_ ?_
   refine gl_callp rfl (all_ct 109 boxC boxB_ct s (by omega)) (fun _ _ _ => trivial) rfl ?_; rw [← h1]
   refine f_ (s_not rfl) ?_
   refine m_ ?_
   (first | refine gl_guard_no rfl rfl rfl rfl rfl rfl rfl ?_ | (refine v_ ?_; refine m_ ?_))
   (first | refine gl_guard_no rfl rfl rfl rfl rfl rfl rfl ?_ | (refine v_ ?_; refine f_ (s_len_str rfl) ?_))
   (first | refine gl_guard_no rfl rfl rfl rfl rfl rfl rfl ?_ | (refine v_ ?_; refine f_ ((s_gtr rfl rfl).eb h2) ?_))
   refine f_ z_4 ?_
   refine m_ ?_
   (first | refine gl_guard_no rfl rfl rfl rfl rfl rfl rfl ?_ | (refine v_ ?_; refine m_ ?_))
   (first | refine gl_guard_no rfl rfl rfl rfl rfl rfl rfl ?_ | (refine v_ ?_; refine f_ ((s_index_str rfl rfl (by have := hpos rfl; omega)).eq (v' := U8 (s.getD 0 0)) rfl) ?_))
   (first | refine gl_guard_no rfl rfl rfl rfl rfl rfl rfl ?_ | (refine v_ ?_; refine f_ ((s_eql rfl rfl).eq ((congrArg Value.bool (u8_eq (b := 32))).trans (congrArg Value.bool h3.symm))) ?_))
   refine f_ z_4 ?_
   refine m_ ?_
   (first | refine gl_guard_no rfl rfl rfl rfl rfl rfl rfl ?_ | (refine v_ ?_; refine m_ ?_))
   (first | refine gl_guard_no rfl rfl rfl rfl rfl rfl rfl ?_ | (refine v_ ?_; refine m_ ?_))
   (first | refine gl_guard_no rfl rfl rfl rfl rfl rfl rfl ?_ | (refine v_ ?_; refine f_ (s_len_str rfl) ?_))
   (first | refine gl_guard_no rfl rfl rfl rfl rfl rfl rfl ?_ | (refine v_ ?_; refine f_ ((s_sub_i64 rfl rfl (by have := hpos rfl; omega)).eq (v' := .int .i64 ((s.length - 1 : Nat) : Int)) (by have := hpos rfl; congr 1; omega)) ?_))
   (first | refine gl_guard_no rfl rfl rfl rfl rfl rfl rfl ?_ | (refine v_ ?_; refine f_ ((s_index_str rfl rfl (by have := hpos rfl; omega)).eq (v' := U8 (s.getD (s.length - 1) 0)) (by simp only [Int.toNat_natCast])) ?_))
   (first | refine gl_guard_no rfl rfl rfl rfl rfl rfl rfl ?_ | (refine v_ ?_; refine f_ ((s_eql rfl rfl).eq ((congrArg Value.bool (u8_eq (b := 32))).trans (congrArg Value.bool h4.symm))) ?_))
   refine f_ z_4 ?_
   refine gl_nil ?_
   repeat refine y_ ?_)
  all_goals exact at_cut j_ i_
 repeat refine y_ ?_
 refine g_cond rfl (fun h => ?_) (fun h => ?_)
 ·have e : boxN s = none := by unfold boxN; rw [hb, h]; rfl
  rw [e]
  repeat refine x_ ?_
  refine a_ ?_
  refine a_ ?_
  repeat refine n_ ?_
  refine g_ret ?_
  exact at_end2 rfl rfl rfl [] ⟨rfl, rfl⟩ (fun _ h => h)
 have e : boxN s = some (if upS s = inbox then inbox else s) := by unfold boxN; rw [hb, h]; rfl
 rw [e]
 repeat refine x_ ?_
 refine m_ ?_
 refine gl_callp rfl (UpperW_ct s (by omega)) (fun _ _ _ => trivial) rfl ?_
 refine f_ ((s_eql_str rfl rfl).eq (v' := .bool (decide (upS s = inbox))) rfl) ?_
 repeat refine n_ ?_
 refine g_cond rfl (fun h => ?_) (fun h => ?_)
 ·rw [if_pos (of_decide_eq_true h)]
  repeat refine x_ ?_
  refine a_ ?_
  refine a_ ?_
  repeat refine n_ ?_
  refine g_ret ?_
  exact at_end2 rfl rfl rfl [] ⟨rfl, rfl⟩ (fun _ h => h)
 ·rw [if_neg (of_decide_eq_false h)]
  repeat refine x_ ?_
  refine m_ ?_
  refine a_ ?_
  refine a_ ?_
  repeat refine n_ ?_
  refine g_ret ?_
  exact at_end2 rfl rfl rfl [] ⟨rfl, rfl⟩ (fun _ h => h)
end Go.Proofs.YtgllpcggdcknaaaGreatDoor.Rp
namespace Go.Proofs.YtgllpcggdcknaaaGreatDoor.Rp
open Go Go.RowKit
def GrownV (W : World) (w' : World) : Prop := ∃ q os, w' = Sort.grow (W.drewN q) os
abbrev sysO : Obj := .cells #[.string ⟨#[92, 65, 110, 115, 119, 101, 114, 101, 100]⟩, .string ⟨#[92, 70, 108, 97, 103, 103, 101, 100]⟩, .string ⟨#[92, 68, 101, 108, 101, 116, 101, 100]⟩, .string ⟨#[92, 83, 101, 101, 110]⟩, .string ⟨#[92, 68, 114, 97, 102, 116]⟩] 141
theorem system_w (W : World) : Calls Tryz.prog 134 #[] W fun e w' => e = .returned (.agg #[.string ⟨#[92, 65, 110, 115, 119, 101, 114, 101, 100]⟩, .string ⟨#[92, 70, 108, 97, 103, 103, 101, 100]⟩, .string ⟨#[92, 68, 101, 108, 101, 116, 101, 100]⟩, .string ⟨#[92, 83, 101, 101, 110]⟩, .string ⟨#[92, 68, 114, 97, 102, 116]⟩]) ∧ GrownV W w' := by
 go_enter Tryz.func134, Tryz.ntmps134
 go_wp2
 refine bodyPost_ret (results_cell_row (d := .array 5 9) rfl _ _ W.heap.size 141 _ (0, 0) rfl (heap_alloc_new _ _) Tryz.underlying141 rfl (by kernel_rfl)) rfl ?_
 exact ⟨rfl, 0, _, Sort.alloc_eq_grow _ _⟩
abbrev sysA : List ByteArray := sysL.map fun l => (⟨l.toArray⟩ : ByteArray)
theorem sys_cell (w : World) : ∀ j, j < sysA.length → (w.alloc sysO).cell? ⟨w.heap.size, 0 + j, none⟩ = some (.string (sysA.getD j ByteArray.empty)) := fun j hj => by
 rw [World.cell?_alloc_new]
 have : j < 5 := hj
 have c : j = 0 ∨ j = 1 ∨ j = 2 ∨ j = 3 ∨ j = 4 := by omega
 rcases c with rfl | rfl | rfl | rfl | rfl <;> rfl
theorem ba_eq {a b : Bs} : ((⟨a.toArray⟩ : ByteArray) = ⟨b.toArray⟩) ↔ a = b := by
 constructor
 ·intro h
  have : a.toArray = b.toArray := congrArg ByteArray.data h
  simpa using this
 ·rintro rfl; rfl
theorem idxOf_ne {a f : Bs} {t : List Bs} (h : ¬a = f) : (a :: t).idxOf f = t.idxOf f + 1 := by
 rw [List.idxOf_cons, show (a == f) = false from beq_eq_false_iff_ne.mpr h]
 rfl
theorem idxF (f : Bs) : ∀ (l : List Bs) (i : Nat), Lib.idxFromS (l.map fun l => (⟨l.toArray⟩ : ByteArray)) ⟨f.toArray⟩ i = if l.idxOf f < l.length then ((i + l.idxOf f : Nat) : Int) else -1
 | [], i => rfl
 | a :: t, i => by
  rw [List.map_cons, Lib.idxFromS]
  by_cases h : a = f
  ·subst h
   rw [if_pos rfl, List.idxOf_cons_self, if_pos (by simp)]
   rfl
  ·rw [if_neg (fun x => h (ba_eq.1 x)), idxF f t (i + 1), idxOf_ne h, List.length_cons]
   by_cases h2 : t.idxOf f < t.length
   ·rw [if_pos h2, if_pos (by omega)]
    congr 1
    omega
   ·rw [if_neg h2, if_neg (by omega)]
theorem idx_sys (f : Bs) : Lib.idxOfS (sysA.take 5) ⟨f.toArray⟩ = if placeS f < 5 then (placeS f : Int) else -1 := by
 have e : sysA.take 5 = sysA := rfl
 rw [e]
 have := idxF f sysL 0
 rw [Nat.zero_add] at this
 exact this
theorem index_sys (f : Bs) (W : World) (q : Nat) (os : Array Obj) : Calls Tryz.prog 171 #[.slice (some ⟨W.heap.size + os.size, 0, none⟩) 5 5, Sl.B f] ((Sort.grow (W.drewN q) os).alloc sysO) fun e w' => e = .returned (.int .i64 (if placeS f < 5 then (placeS f : Int) else -1)) ∧ w' = (Sort.grow (W.drewN q) os).alloc sysO := by
 have h := Tryz.slices_Index_string (Sort.grow (W.drewN q) os).heap.size 0 5 5 sysA ⟨f.toArray⟩ ((Sort.grow (W.drewN q) os).alloc sysO) (Nat.le_refl 5) (by omega) (sys_cell _)
 rw [idx_sys, Sort.size_grow] at h
 exact h
theorem grown2 (W : World) (q : Nat) (os : Array Obj) (o : Obj) : GrownV W ((Sort.grow (W.drewN q) os).alloc o) := ⟨q, os ++ #[o], by rw [Sort.alloc_eq_grow, Sort.grow_grow]⟩
theorem place_w (f : Bs) (W : World) : Calls Tryz.prog 154 #[Sl.B f] W fun e w' => e = .returned (.int .i64 (placeS f : Nat)) ∧ GrownV W w' := by
 have hp : placeS f ≤ 5 := List.idxOf_le_length
 by_cases h5 : placeS f < 5
 ·obtain ⟨z, hz⟩ : ∃ z : Int, z = (placeS f : Nat) := ⟨_, rfl⟩
  have hz0 : 0 ≤ z := by omega
  have hi := index_sys f
  rw [if_pos h5, ← hz] at hi
  rw [← hz]
  go_enter Tryz.func154, Tryz.ntmps154
  go_wp2_with (first | (go_at_call 134; refine (system_w _).mono ?_; rintro e w' ⟨rfl, q, os, rfl⟩) | (go_at_call 171; refine (hi W q os).mono ?_; rintro e w' ⟨rfl, rfl⟩))
  go_ret
  exact ⟨by rw [hz]; rfl, grown2 _ _ _ _⟩
 ·have h55 : placeS f = 5 := by omega
  have hi := index_sys f
  rw [if_neg h5] at hi
  rw [h55]
  go_enter Tryz.func154, Tryz.ntmps154
  go_wp2_with (first | (go_at_call 134; refine (system_w _).mono ?_; rintro e w' ⟨rfl, q, os, rfl⟩) | (go_at_call 171; refine (hi W q os).mono ?_; rintro e w' ⟨rfl, rfl⟩))
  go_ret
  exact ⟨rfl, grown2 _ _ _ _⟩
def aheadF (a b : Bs) : Int := if placeS a ≠ placeS b then (placeS a : Int) - placeS b else Lib.compareBytes a b
theorem grown_trans {a b c : World} (h : GrownV a b) (k : GrownV b c) : GrownV a c := by
 obtain ⟨q, os, rfl⟩ := h
 obtain ⟨q', os', rfl⟩ := k
 exact ⟨q + q', os ++ os', by rw [← Sort.grow_grow]; show _ = Sort.grow (Sort.grow (a.drewN (q + q')) os) os'; rw [← World.drewN_drewN]; rfl⟩
theorem ahead_w (a b : Bs) (W : World) : Calls Tryz.prog 138 #[Sl.B a, Sl.B b] W fun e w' => e = .returned (.int .i64 (aheadF a b)) ∧ GrownV W w' := by
 have ha : placeS a ≤ 5 := List.idxOf_le_length
 have hb : placeS b ≤ 5 := List.idxOf_le_length
 unfold aheadF
 by_cases h : placeS a = placeS b
 ·rw [if_neg (by simpa using h)]
  go_enter Tryz.func138, Tryz.ntmps138
  go_wp2_with (first | (go_at_call 154; refine (place_w _ _).mono ?_; rintro e w' ⟨rfl, q, os, rfl⟩) | (go_at_call 155; refine (Tryz.strings_Compare ⟨a.toArray⟩ ⟨b.toArray⟩ _).mono ?_; rintro e w' ⟨rfl, rfl⟩))
  go_ret
  exact ⟨rfl, grown_trans ⟨_, _, rfl⟩ ⟨_, _, rfl⟩⟩
 ·rw [if_pos h]
  go_enter Tryz.func138, Tryz.ntmps138
  go_wp2_with (go_at_call 154; refine (place_w _ _).mono ?_; rintro e w' ⟨rfl, q, os, rfl⟩)
  go_ret
  exact ⟨rfl, grown_trans ⟨_, _, rfl⟩ ⟨_, _, rfl⟩⟩
end Go.Proofs.YtgllpcggdcknaaaGreatDoor.Rp
namespace Go.Proofs.YtgllpcggdcknaaaGreatDoor.Rp
open Go Go.Sl Go.RowKit
theorem cmp_lt : ∀ (a b : Bs), decide (Lib.compareBytes a b < 0) = ltB a b
 | [], [] => rfl
 | [], _ :: _ => rfl
 | _ :: _, [] => rfl
 | a :: s, b :: t => by
  have ih := cmp_lt s t
  unfold ltB at ih ⊢
  rw [Lib.compareBytes, Op.bytesLess]
  by_cases h1 : a < b
  ·rw [if_pos h1]; simp [h1]
  ·rw [if_neg h1]
   by_cases h2 : b < a
   ·have h3 : ¬a = b := fun e => by subst e; exact h1 h2
    rw [if_pos h2]; simp [h1, h3]
   ·have h3 : a = b := UInt8.le_antisymm (UInt8.not_lt.1 h2) (UInt8.not_lt.1 h1)
    rw [if_neg h2, ih]; simp [h1, h3]
theorem lt_ahead (a b : Bs) : ltOf aheadF a b = lessS a b := by
 unfold ltOf aheadF lessS
 by_cases h : placeS a = placeS b
 ·rw [if_neg (by simpa using h), if_neg (by simpa using h), cmp_lt]
 ·rw [if_pos h, if_pos h]
  exact decide_eq_decide.mpr (by omega)
theorem swo_less : Sort.SWO (ltOf aheadF) where
 irrefl x := by rw [lt_ahead]; exact lessS_irrefl x
 trans x y z h k := by rw [lt_ahead] at *; exact lessS_trans h k
 ntrans x y z h k := by
  rw [lt_ahead] at *
  cases e : lessS x z with
  | false => rfl
  | true =>
   exfalso
   by_cases h1 : x = y
   ·subst h1; rw [e] at k; cases k
   ·have h2 := lessS_total h1 h
    by_cases h3 : y = z
    ·subst h3
     have := lessS_trans e h2
     rw [lessS_irrefl] at this
     cases this
    ·have h4 := lessS_total h3 k
     have := lessS_trans (lessS_trans e h4) h2
     rw [lessS_irrefl] at this
     cases this
theorem bitsLen_ct : Pu Tryz.prog 153 [.int .u64 0] (fun _ => True) (.int .i64 0) := pu_same fun w _ => Tryz.bits_Len 0 w (by omega) (by omega)
theorem ins0_ct : Pu Tryz.prog 162 [.slice none 0 0, .int .i64 0, .int .i64 0, .func (.func 138) #[] #[]] (fun _ => True) (.tuple #[]) := by
 refine ct_enter 53 Tryz.func162 rfl rfl rfl ?_
 intro F _
 repeat refine x_ ?_
 refine m_ ?_
 refine f_ (s_add_i64 rfl rfl (by omega)) ?_
 refine a_ ?_
 repeat refine n_ ?_
 refine g_loop (ι := Unit) (fun _ => True) (fun _ => [(2, .int .i64 0), (8, .int .i64 1)]) (fun _ => []) (fun _ => 0) () trivial ?_ ?_ ?_
 ·(repeat (first | exact Sub.nil _ | refine Sub.cons rfl ?_))
 ·intro w hw; exact hw
 rintro _ _
 repeat refine x_ ?_
 refine m_ ?_
 refine m_ ?_
 refine f_ (s_lss rfl rfl) ?_
 repeat refine n_ ?_
 exact at_end0 rfl [] ⟨rfl, rfl⟩ (fun _ h => h)
theorem pdq0_ct : Pu Tryz.prog 152 [.slice none 0 0, .int .i64 0, .int .i64 0, .int .i64 0, .func (.func 138) #[] #[]] (fun _ => True) (.tuple #[]) := by
 refine ct_enter 148 Tryz.func152 rfl rfl rfl ?_
 intro F _
 repeat refine x_ ?_
 refine a_ ?_
 repeat refine x_ ?_
 refine a_ ?_
 repeat refine n_ ?_
 refine g_loop (ι := Unit) (fun _ => True) (fun _ => [(0, .slice none 0 0), (1, .int .i64 0), (2, .int .i64 0), (4, .func (.func 138) #[] #[])]) (fun _ => []) (fun _ => 0) () trivial ?_ ?_ ?_
 ·(repeat (first | exact Sub.nil _ | refine Sub.cons rfl ?_))
 ·intro w hw; exact hw
 rintro _ _
 repeat refine x_ ?_
 refine m_ ?_
 refine m_ ?_
 refine f_ (s_sub_i64 rfl rfl (by omega)) ?_
 refine a_ ?_
 repeat refine x_ ?_
 refine m_ ?_
 refine f_ (s_leq rfl rfl) ?_
 repeat refine x_ ?_
 refine m_ ?_
 refine m_ ?_
 refine m_ ?_
 refine m_ ?_
 refine gl_callp rfl ins0_ct (fun _ _ _ => trivial) rfl ?_
 repeat refine n_ ?_
 refine g_ret ?_
 exact at_end0 rfl [] ⟨rfl, rfl⟩ (fun _ h => h)
theorem sort0_ct : Pu Tryz.prog 137 [.slice none 0 0, .func (.func 138) #[] #[]] (fun _ => True) (.tuple #[]) := by
 refine ct_enter 14 Tryz.func137 rfl rfl rfl ?_
 intro F _
 repeat refine x_ ?_
 refine m_ ?_
 refine f_ (s_len_sl rfl) ?_
 refine a_ ?_
 repeat refine x_ ?_
 refine m_ ?_
 refine m_ ?_
 refine m_ ?_
 refine f_ (s_conv_keep_u64 rfl (by omega)) ?_
 refine gl_callp rfl bitsLen_ct (fun _ _ _ => trivial) rfl ?_
 refine m_ ?_
 refine gl_callp rfl pdq0_ct (fun _ _ _ => trivial) rfl ?_
 repeat refine n_ ?_
 exact at_end0 rfl [] ⟨rfl, rfl⟩ (fun _ h => h)
theorem put_mid {pre post : List Value} {l l' : List Bs} (h : l'.length = l.length) : Sort.putCells (fun (x : Bs) => B x) pre.length l'.toArray (pre ++ fV l ++ post).toArray = (pre ++ fV l' ++ post).toArray := by
 apply Array.ext_getElem?
 intro k
 have h1 : (fV l).length = l.length := fV_len l
 have h2 : (fV l').length = l'.length := fV_len l'
 simp only [Sort.putCells, Array.getElem?_mapIdx, List.getElem?_toArray, List.size_toArray]
 rcases Nat.lt_or_ge k pre.length with hk | hk
 ·rw [List.append_assoc, List.append_assoc, List.getElem?_append_left hk, List.getElem?_append_left hk, List.getElem?_eq_getElem hk]
  simp only [Option.map_some]
  rw [if_neg (by omega)]
 ·rcases Nat.lt_or_ge k (pre.length + l.length) with hk2 | hk2
  ·rw [List.append_assoc, List.append_assoc, List.getElem?_append_right hk, List.getElem?_append_right hk, List.getElem?_append_left (by omega), List.getElem?_append_left (by omega)]
   have h3 : k - pre.length < l.length := by omega
   have h4 : k - pre.length < l'.length := by omega
   rw [List.getElem?_eq_getElem (by omega), List.getElem?_eq_getElem (by omega)]
   simp only [Option.map_some]
   rw [if_pos ⟨hk, by omega⟩]
   simp [fV, h4]
  ·rw [List.append_assoc, List.append_assoc, List.getElem?_append_right hk, List.getElem?_append_right hk, List.getElem?_append_right (by omega), List.getElem?_append_right (by omega), h1, h2, h]
   cases post[k - pre.length - l.length]? with
   | none => rfl
   | some v =>
    simp only [Option.map_some]
    rw [if_neg (by omega)]
def SortP (l : List Bs) (a : Option Addr) (c : Nat) (v : Value) (A : List As) : Prop := v = .tuple #[] ∧ ∃ l', List.Perm l' l ∧ l'.Pairwise (fun x y => lessS y x = false) ∧ A = [OwnS a l' c]
theorem sort_ct (l : List Bs) (a : Option Addr) (c : Nat) (hl : l.length < 4611686018427387904) : Ct Tryz.prog 137 [.slice a l.length c, .func (.func 138) #[] #[]] (fun _ => True) [OwnS a l c] (SortP l a c) := by
 intro w bs hsat hnd hpre
 obtain ⟨b1, b2, rfl, hown, rfl⟩ := hsat
 rcases hown with ⟨hv, hx, rfl⟩ | ⟨g, rfl, ⟨o, n, cap, pre, post, fr, hv, hg, ho, hxl, hcap, hnc, hfr⟩⟩
 ·injection hv with e1 e2 e3
  subst e1 e3
  have hl0 : l = [] := List.eq_nil_of_length_eq_zero e2
  subst hl0
  refine (sort0_ct w [] rfl List.nodup_nil trivial).mono ?_
  rintro e w' ⟨v, A, rfl, ⟨rfl, rfl⟩, hp⟩
  refine ⟨_, [OwnS none [] 0], rfl, ⟨rfl, [], .nil, .nil, rfl⟩, ?_⟩
  exact hp.addNil _ _
 ·injection hv with e1 e2 e3
  subst e1 e2 e3
  have hg' : w.heap[g]? = some (.cells (pre ++ fV l ++ post).toArray 9 fr) := hg
  have hgl : g < w.heap.size := (Array.getElem?_eq_some_iff.1 hg').1
  have hfl := fV_len l
  have hH : Sort.Holds (fun (x : Bs) => B x) w g o l.toArray := fun j hj => by
   have hj' : j < l.length := by simpa using hj
   constructor
   ·simp only [World.cell?, hg']
    simp only [Option.isSome_none, Bool.false_eq_true, if_false, List.getElem?_toArray]
    rw [List.append_assoc, List.getElem?_append_right (by omega), List.getElem?_append_left (by omega)]
    simp [fV, ← ho, hj']
   ·simp only [World.frozen?, hg']
    simp only [List.length_append] at hfr
    rw [Bool.and_eq_false_iff]
    rcases hfr with h | h
    ·by_cases hh : fr.1 ≤ o + j
     ·exact .inr (by simp; omega)
     ·exact .inl (by simpa using hh)
    ·exact .inl (by simp; omega)
  have hcmp : CmpLays1 Tryz.prog 138 #[] (fun (x : Bs) => B x) aheadF g o l.toArray.size w := fun m os dk hs x y => by
   refine (ahead_w x y _).mono ?_
   rintro e w' ⟨rfl, q, os', rfl⟩
   exact ⟨rfl, q, os', rfl⟩
  have hc := Any.slices_SortFunc Tryz.sortL (fun (x : Bs) => B x) (fun _ => rfl) aheadF swo_less 138 #[] g o c l.toArray w (fun args w => (inferInstance : HF Tryz.prog 138).h args w) hcmp hH hgl (by simpa using hl)
  have hsz : l.toArray.size = l.length := by simp
  rw [hsz] at hc
  refine hc.mono ?_
  rintro e w' ⟨rfl, d', n, os, hperm, hsort, rfl⟩
  obtain ⟨hp1, _, hp3⟩ := hperm
  rw [hsz] at hp1
  have hp4 : List.Perm d'.toList l := by
   have e1 : (d'.extract 0 l.length).toList = d'.toList := by simp [← hp1]
   have e2 : (l.toArray.extract 0 l.length).toList = l := by simp
   rw [e1, e2] at hp3
   exact hp3
  have hpl : d'.toList.length = l.length := by simpa using hp1
  have hpair : d'.toList.Pairwise (fun x y => lessS y x = false) := by
   rw [List.pairwise_iff_getElem]
   intro i j hi hj hij
   have := hsort i j (Nat.zero_le _) hij (by omega)
   rw [lt_ahead] at this
   have hi' : i < d'.size := by simpa using hi
   have hj' : j < d'.size := by simpa using hj
   rw [getElem!_pos d' i hi', getElem!_pos d' j hj'] at this
   simpa using this
  have hh : (sortWorld (fun (x : Bs) => B x) w g o n d' os).heap[g]? = some (.cells (pre ++ fV d'.toList ++ post).toArray 9 fr) := by
   show ((Sort.mapBlock _ g _).heap ++ os)[g]? = _
   unfold Sort.mapBlock
   have e1 : (Sort.ahead w n).heap = w.heap := rfl
   rw [Array.getElem?_append_left (by rw [Array.size_modify, e1]; exact hgl), Array.getElem?_modify, if_pos rfl, e1, hg']
   simp only [Option.map_some, Sort.onCells]
   have := put_mid (pre := pre) (post := post) hpl
   rw [ho] at this
   rw [← this]
  have hl2 := fV_len d'.toList
  have hfd : (fV d'.toList).length = (fV l).length := by omega
  have hcap2 : c * 1 ≤ (fV d'.toList ++ post).length := by
   rw [List.length_append, hfd, ← List.length_append]
   exact hcap
  have hfr2 : fr.2 ≤ fr.1 ∨ (pre ++ fV d'.toList ++ post).length ≤ fr.1 := by
   rw [List.length_append, List.length_append, hfd, ← List.length_append, ← List.length_append]
   exact hfr
  have hkeep : Heap.le (snapBut w [g]).heap (hp (sortWorld (fun (x : Bs) => B x) w g o n d' os)) := fun b' o' hbo => by
   have hne : b' ≠ g := by
    rintro rfl
    simp [snapBut, hpBut] at hbo
   have h2 : w.heap[b']? = some o' := hpBut_le w _ b' o' hbo
   have h3 : b' < w.heap.size := (Array.getElem?_eq_some_iff.1 h2).1
   show ((Sort.mapBlock _ g _).heap ++ os)[b']? = _
   unfold Sort.mapBlock
   have e1 : (Sort.ahead w n).heap = w.heap := rfl
   rw [Array.getElem?_append_left (by rw [Array.size_modify, e1]; exact h3), Array.getElem?_modify, if_neg (fun h => hne h.symm), e1]
   exact h2
  have hnew : ∀ b' ∈ [g], (snapBut w [g]).heap b' = none := fun b' hb2 => by
   simp at hb2
   subst hb2
   simp [snapBut, hpBut]
  refine ⟨.tuple #[], [OwnS (some ⟨g, o, none⟩) d'.toList c], rfl, ⟨rfl, d'.toList, hp4, hpair, rfl⟩, ?_⟩
  exact ⟨rfl, rfl, rfl, hkeep, [g], ⟨[g], [], rfl, .inr ⟨g, rfl, ⟨o, d'.toList.length, c, pre, post, fr, rfl, hh, ho, by omega, hcap2, by omega, hfr2⟩⟩, rfl⟩, by simp, hnew⟩
end Go.Proofs.YtgllpcggdcknaaaGreatDoor.Rp
