import Derived.Test.YtgllpcggdcknaaaGreatDoorKx6
import Derived.Test.YtgllpcggdcknaaaGreatDoorKx5
set_option linter.unusedVariables false
set_option linter.unusedSimpArgs false
namespace Go.Proofs.YtgllpcggdcknaaaGreatDoor.Rp
open Go Go.Sl Go.RowKit
def CloneP (l : List Bs) (v : Value) (A : List As) : Prop := ∃ a c, v = .slice a l.length c ∧ A = [OwnS a l c]
theorem Clone_ct (l : List Bs) (a : Option Addr) (c : Nat) (hl : l.length ≤ 8000000000000) : Ct Tryz.prog 136 [.slice a l.length c] (fun h => RdS h a (fV l)) [] (CloneP l) := by
 refine ct_enter 8 Tryz.func136 rfl rfl rfl ?_
 intro F hrd
 repeat refine x_ ?_
 refine a_ ?_
 repeat refine x_ ?_
 refine m_ ?_
 refine f_ ((s_eql_slnil rfl rfl).eq (v' := .bool a.isNone) rfl) ?_
 repeat refine n_ ?_
 cases a with
 | none =>
  have h0 : l = [] := by
   cases l with
   | nil => rfl
   | cons x t =>
    obtain ⟨ad, e, _⟩ := hrd (by simp [fV])
    cases e
  subst h0
  repeat refine x_ ?_
  refine a_ ?_
  repeat refine n_ ?_
  refine g_ret ?_
  exact at_end1 rfl rfl [OwnS none [] 0] ⟨none, 0, rfl, rfl⟩ (fun w hw => hw.addNil _ _)
 | some ad =>
  repeat refine x_ ?_
  refine gl_buildSlice0 rfl ?_; intro a5
  refine m_ ?_
  refine gl_append (news := fV l) rfl rfl (fun a' c' => .here) (fun w hw => hrd.le hw.keep) (by rw [fV_len]; omega) rfl rfl (fV_one _) (by show (0 + l.length) * 16 ≤ _; omega) (by omega) rfl ?_; intro a7 c7 hc7
  refine a_ ?_
  repeat refine n_ ?_
  refine g_ret ?_
  refine at_end1 rfl rfl [OwnS a7 l c7] ⟨a7, c7, by rw [Nat.zero_add], rfl⟩ (fun w hw => ?_)
  rw [Nat.zero_add] at hw
  exact hw
theorem pair_at {l : List Bs} (h : l.Pairwise fun a b => lessS b a = false) {i j : Nat} (hij : i < j) (hj : j < l.length) : lessS (l.getD j []) (l.getD i []) = false := by
 rw [List.pairwise_iff_getElem] at h
 have := h i j (by omega) hj hij
 rw [List.getD_eq_getElem?_getD, List.getD_eq_getElem?_getD, List.getElem?_eq_getElem hj, List.getElem?_eq_getElem (show i < l.length by omega)]
 exact this
theorem arr_get {l : List Bs} {i : Nat} (h : i < l.length) : l.toArray[i]! = l.getD i [] := by
 rw [getElem!_pos _ i (by simpa using h), List.getD_eq_getElem?_getD, List.getElem?_eq_getElem h]
 simp
theorem lcompact_srt {l : List Bs} (h : l.Pairwise fun a b => lessS b a = false) : Srt (Lib.compact l) := by
 unfold Lib.compact Lib.compactUpTo
 unfold Srt
 rw [List.pairwise_map]
 refine (List.Pairwise.filter _ List.pairwise_lt_range).imp_of_mem fun {i j} hi hj hij => ?_
 have hj1 := List.mem_filter.mp hj
 have hjl : j < l.length := by simpa using hj1.1
 rw [arr_get (by omega), arr_get hjl]
 have hk := hj1.2
 unfold Lib.keeps at hk
 simp only [Bool.or_eq_true, decide_eq_true_eq, bne_iff_ne, ne_eq] at hk
 have hne : l.getD (j - 1) [] ≠ l.getD j [] := by
  rcases hk with hk | hk
  ·omega
  ·rw [arr_get hjl, arr_get (by omega)] at hk
   exact fun e => hk e.symm
 have h1 : lessS (l.getD (j - 1) []) (l.getD j []) = true := lessS_total (fun e => hne e.symm) (pair_at h (by omega) hjl)
 by_cases e : i = j - 1
 ·rw [e]; exact h1
 ·by_cases e2 : l.getD i [] = l.getD (j - 1) []
  ·rw [e2]; exact h1
  ·exact lessS_trans (lessS_total (fun x => e2 x.symm) (pair_at h (show i < j - 1 by omega) (by omega))) h1
theorem lcompact_in {l : List Bs} : ∀ i, i < l.length → l.getD i [] ∈ Lib.compact l := by
 intro i
 induction i using Nat.strongRecOn with
 | ind i ih =>
  intro hi
  by_cases hk : Lib.keeps l.toArray i = true
  ·unfold Lib.compact Lib.compactUpTo
   refine List.mem_map.mpr ⟨i, List.mem_filter.mpr ⟨by simpa using hi, hk⟩, arr_get hi⟩
  ·unfold Lib.keeps at hk
   simp only [Bool.or_eq_true, decide_eq_true_eq, bne_iff_ne, ne_eq, not_or, Classical.not_not] at hk
   have h1 : l.getD i [] = l.getD (i - 1) [] := by
    have := hk.2
    rwa [arr_get hi, arr_get (by omega)] at this
   rw [h1]
   exact ih (i - 1) (by omega) (by omega)
theorem lcompact_mem (l : List Bs) (x : Bs) : x ∈ Lib.compact l ↔ x ∈ l := by
 constructor
 ·intro h
  unfold Lib.compact Lib.compactUpTo at h
  obtain ⟨i, hi, rfl⟩ := List.mem_map.mp h
  have hi2 : i < l.length := by simpa using (List.mem_filter.mp hi).1
  rw [arr_get hi2]
  exact getB_mem hi2
 ·intro h
  obtain ⟨i, hi, rfl⟩ := List.getElem_of_mem h
  have := lcompact_in i hi
  rwa [List.getD_eq_getElem?_getD, List.getElem?_eq_getElem hi] at this
theorem lcompact_set {l s : List Bs} (hp : s.Perm l) (h : s.Pairwise fun a b => lessS b a = false) : Lib.compact s = setS l :=
 srt_eq (lcompact_srt h) (set_srt l) fun x => by rw [lcompact_mem, set_mem, hp.mem_iff]
theorem lcompact_le (l : List Bs) : (Lib.compact l).length ≤ l.length := Lib.compact_length_le l
def CompP (l : List Bs) (a : Option Addr) (c : Nat) (v : Value) (A : List As) : Prop := v = .slice a (Lib.compact l).length c ∧ A = [OwnS a (Lib.compact l) c]
theorem Compact_ct (l : List Bs) (a : Option Addr) (c : Nat) (hl : l.length ≤ 9223372036854775807) : Ct Tryz.prog 139 [.slice a l.length c] (fun _ => True) [OwnS a l c] (CompP l a c) := by
 intro w bs hsat hnd hpre
 obtain ⟨b1, b2, rfl, hown, rfl⟩ := hsat
 rcases hown with ⟨hv, hx, rfl⟩ | ⟨g, rfl, ⟨o, n, cap, pre, post, fr, hv, hg, ho, hxl, hcap, hnc, hfr⟩⟩
 ·injection hv with e1 e2 e3
  subst e1 e3
  have hl0 : l = [] := List.eq_nil_of_length_eq_zero e2
  subst hl0
  refine (Tryz.slices_Compact_string_empty none 0 w).mono ?_
  rintro e w' ⟨rfl, rfl⟩
  refine ⟨.slice none 0 0, [OwnS none [] 0], rfl, ⟨rfl, rfl⟩, ?_⟩
  exact (Hp.start (C := []) (bs := []) rfl List.nodup_nil).addNil _ _
 ·injection hv with e1 e2 e3
  subst e1 e2 e3
  have hg' : w.heap[g]? = some (.cells (pre ++ fV l ++ post).toArray 9 fr) := hg
  have hgl : g < w.heap.size := (Array.getElem?_eq_some_iff.1 hg').1
  have hfl := fV_len l
  have hH : Sort.Holds (fun (x : Bs) => B x) w g o l.toArray := fun j hj => by
   have hj' : j < l.length := by simpa using hj
   constructor
   ·simp only [World.cell?, hg']
    simp only [Option.isSome_none, Bool.false_eq_true, if_false, List.getElem?_toArray]
    rw [List.append_assoc, List.getElem?_append_right (by omega), List.getElem?_append_left (by omega)]
    simp [fV, ← ho, hj']
   ·simp only [World.frozen?, hg']
    simp only [List.length_append] at hfr
    rw [Bool.and_eq_false_iff]
    rcases hfr with h | h
    ·by_cases hh : fr.1 ≤ o + j
     ·exact .inr (by simp; omega)
     ·exact .inl (by simpa using hh)
    ·exact .inl (by simp; omega)
  have hc := Tryz.slices_Compact_string g o c l w hH hl hnc
  refine hc.mono ?_
  rintro e w' ⟨rfl, q, rfl⟩
  have hcl := lcompact_le l
  obtain ⟨m, hm⟩ : ∃ m, m = Lib.compact l ++ List.replicate (l.length - (Lib.compact l).length) [] := ⟨_, rfl⟩
  have hml : m.length = l.length := by rw [hm, List.length_append, List.length_replicate]; omega
  have hmv : fV m = fV (Lib.compact l) ++ fV (List.replicate (l.length - (Lib.compact l).length) []) := by rw [hm, fV_append]
  have hl2 := fV_len m
  have hl3 := fV_len (Lib.compact l)
  rw [← hm]
  have hh : (Sort.putRow (fun (x : Bs) => B x) (Sort.ahead w q) g o m.toArray).heap[g]? = some (.cells (pre ++ fV m ++ post).toArray 9 fr) := by
   show (Sort.mapBlock _ g _).heap[g]? = _
   unfold Sort.mapBlock
   have e1 : (Sort.ahead w q).heap = w.heap := rfl
   rw [Array.getElem?_modify, if_pos rfl, e1, hg']
   simp only [Option.map_some, Sort.onCells]
   have := put_mid (pre := pre) (post := post) hml
   rw [ho] at this
   rw [← this]
  rw [hmv, List.append_assoc, List.append_assoc, ← List.append_assoc] at hh
  obtain ⟨z, hz⟩ : ∃ z, z = fV (List.replicate (l.length - (Lib.compact l).length) []) ++ post := ⟨_, rfl⟩
  rw [← hz] at hh
  have hzl : z.length = l.length - (Lib.compact l).length + post.length := by rw [hz, List.length_append, fV_len, List.length_replicate]
  have hcap2 : c * 1 ≤ (fV (Lib.compact l) ++ z).length := by
   rw [List.length_append] at hcap ⊢
   omega
  have hfr2 : fr.2 ≤ fr.1 ∨ (pre ++ fV (Lib.compact l) ++ z).length ≤ fr.1 := by
   rw [List.length_append, List.length_append] at hfr ⊢
   omega
  have hkeep : Heap.le (snapBut w [g]).heap (hp (Sort.putRow (fun (x : Bs) => B x) (Sort.ahead w q) g o m.toArray)) := fun b' o' hbo => by
   have hne : b' ≠ g := by
    rintro rfl
    simp [snapBut, hpBut] at hbo
   have h2 : w.heap[b']? = some o' := hpBut_le w _ b' o' hbo
   show (Sort.mapBlock _ g _).heap[b']? = _
   unfold Sort.mapBlock
   have e1 : (Sort.ahead w q).heap = w.heap := rfl
   rw [Array.getElem?_modify, if_neg (fun h => hne h.symm), e1]
   exact h2
  have hnew : ∀ b' ∈ [g], (snapBut w [g]).heap b' = none := fun b' hb2 => by
   simp at hb2
   subst hb2
   simp [snapBut, hpBut]
  refine ⟨.slice (some ⟨g, o, none⟩) (Lib.compact l).length c, [OwnS (some ⟨g, o, none⟩) (Lib.compact l) c], rfl, ⟨rfl, rfl⟩, ?_⟩
  exact ⟨rfl, rfl, rfl, hkeep, [g], ⟨[g], [], rfl, .inr ⟨g, rfl, ⟨o, (Lib.compact l).length, c, pre, z, fr, rfl, hh, ho, by omega, hcap2, by omega, hfr2⟩⟩, rfl⟩, by simp, hnew⟩
def SetP (l : List Bs) (v : Value) (A : List As) : Prop := ∃ a c, v = .slice a (setS l).length c ∧ A = [OwnS a (setS l) c]
theorem set_ct (l : List Bs) (a : Option Addr) (c : Nat) (hl : l.length ≤ 8000000000000) : Ct Tryz.prog 121 [.slice a l.length c] (fun h => RdS h a (fV l)) [] (SetP l) := by
 refine ct_enter 10 Tryz.func121 rfl rfl rfl ?_
 intro F hrd
 repeat refine x_ ?_
 refine a_ ?_
 repeat refine x_ ?_
 refine m_ ?_
 refine gl_call _ rfl (Clone_ct l a c hl) i_ (fun h hh hb => hrd.le hh) rfl ?_; rintro v A ⟨a5, c5, rfl, rfl⟩
 refine a_ ?_
 repeat refine x_ ?_
 refine m_ ?_
 refine gl_call _ rfl (sort_ct l a5 c5 (by omega)) i_ (fun _ _ _ => trivial) rfl ?_; rintro v A ⟨rfl, s, hp, hs, rfl⟩
 repeat refine n_ ?_
 have hsl := hp.length_eq
 have hset := lcompact_set hp hs
 repeat refine x_ ?_
 refine m_ ?_
 refine gl_call (vs := [.slice a5 s.length c5]) _ (by rw [hsl]; rfl) (Compact_ct s a5 c5 (by omega)) i_ (fun _ _ _ => trivial) rfl ?_; rintro v A ⟨rfl, rfl⟩
 refine a_ ?_
 repeat refine n_ ?_
 refine g_ret ?_
 refine at_end1 rfl rfl [OwnS a5 (Lib.compact s) c5] ⟨a5, c5, by rw [hset], by rw [hset]⟩ i_
end Go.Proofs.YtgllpcggdcknaaaGreatDoor.Rp
namespace Go.Proofs.YtgllpcggdcknaaaGreatDoor.Rp
open Go Go.Sl Go.RowKit
theorem SmallW_ct (s : Bs) (hl : s.length ≤ 9223372036854775806) : Pu Tryz.prog 135 [B s] (fun _ => True) (B (lowS s)) := by
 refine ct_enter 29 Tryz.func135 rfl rfl rfl ?_
 intro F _
 repeat refine x_ ?_
 refine a_ ?_
 repeat refine x_ ?_
 refine m_ ?_
 refine gl_bytes rfl rfl ?_; intro a1 c1 hc1
 refine a_ ?_
 repeat refine x_ ?_
 refine m_ ?_
 refine f_ (s_len_sl rfl) ?_
 refine m_ ?_
 repeat refine n_ ?_
 refine g_loop (ι := Nat) (fun k => k ≤ s.length) (fun k => [(3, .slice a1 s.length c1), (8, .slice a1 s.length c1), (9, .int .i64 (s.length : Nat)), (10, .int .i64 (k : Nat))]) (fun k => [.own (.slice a1 s.length c1) 5 1 (bytesV (lowS (s.take k) ++ s.drop k))]) (fun k => s.length - k) 0 (by omega) ?_ ?_ ?_
 ·(repeat (first | exact Sub.nil _ | refine Sub.cons rfl ?_))
 ·intro w hw; exact hw
 rintro k hk
 repeat refine x_ ?_
 refine f_ (s_lss rfl rfl) ?_
 repeat refine n_ ?_
 refine g_cond rfl (fun h => ?_) (fun h => ?_)
 ·have hk' : k < s.length := by simp at h; omega
  have hst := map_step lowC hk'
  have hdr := drop_get hk'
  have hul : (lowS (s.take k)).length = k := by unfold lowS; rw [List.length_map, List.length_take]; omega
  obtain ⟨c, hc⟩ : ∃ c, c = s.getD k 0 := ⟨_, rfl⟩
  rw [← hc] at hst hdr
  have hge : (lowS (s.take k) ++ s.drop k).getD k 0 = c := by
   rw [List.getD_eq_getElem?_getD, List.getElem?_append_right (by omega), hul, Nat.sub_self, hdr]
   rfl
  have htl : (lowS (s.take k) ++ s.drop k).length = s.length := by rw [List.length_append, hul, List.length_drop]; omega
  have hc255 := c.toNat_lt
  repeat refine x_ ?_
  refine m_ ?_
  refine r_ (s_indexAddr_own rfl z_3 rfl (by omega)) ?_
  refine r_ ((s_load1 rfl (fun w hw => rdC_own hw z_3 (i := k) (by omega) (by omega))).eq (v' := U8 c) (by rw [hge])) ?_
  refine a_ ?_
  refine a_ ?_
  repeat refine n_ ?_
  obtain ⟨q1, h1⟩ : ∃ q, q = decide ((c.toNat : Int) ≥ 65) := ⟨_, rfl⟩
  obtain ⟨q2, h2⟩ : ∃ q, q = decide ((c.toNat : Int) ≤ 90) := ⟨_, rfl⟩
  repeat refine y_ ?_
  refine g_cutK [(3, .slice a1 s.length c1), (4, .int .i64 (k : Nat)), (5, U8 c), (8, .slice a1 s.length c1), (9, .int .i64 (s.length : Nat)), (10, .int .i64 (k : Nat)), (20, .bool (q1 && q2))] [.own (.slice a1 s.length c1) 5 1 (bytesV (lowS (s.take k) ++ s.drop k))] ?_ ?_
  ·cases q1
   all_goals (
    repeat refine x_ ?_
    refine m_ ?_
    refine f_ ((s_geq rfl rfl).eb h1) ?_
    refine m_ ?_
    (first | refine gl_guard_no rfl rfl rfl rfl rfl rfl rfl ?_ | (refine v_ ?_; refine m_ ?_))
    (first | refine gl_guard_no rfl rfl rfl rfl rfl rfl rfl ?_ | (refine v_ ?_; refine f_ ((s_leq rfl rfl).eb h2) ?_))
    refine f_ z_4 ?_
    refine gl_nil ?_
    repeat refine y_ ?_)
   all_goals exact at_cut j_ i_
  repeat refine y_ ?_
  refine g_cond rfl (fun h3 => ?_) (fun h3 => ?_)
  ·have hcc : 65 ≤ c.toNat ∧ c.toNat ≤ 90 := by
    simp only [Bool.and_eq_true] at h3
    have a := of_decide_eq_true (h1.symm.trans h3.1)
    have b := of_decide_eq_true (h2.symm.trans h3.2)
    omega
   have hup : lowC c = c + 32 := by unfold lowC; rw [if_pos hcc]
   have hsub : (c.toNat : Int) + 32 = ((c + 32).toNat : Nat) := by
    rw [UInt8.toNat_add]
    simp
    omega
   repeat refine x_ ?_
   refine m_ ?_
   refine m_ ?_
   refine m_ ?_
   refine f_ ((s_add_in rfl rfl (z := ((c + 32).toNat : Nat)) (by rw [IntKind.wrap_u8]; omega))) ?_
   refine r_ (s_indexAddr_own rfl z_3 rfl (by omega)) ?_
   refine gl_store_own (q := k * 1) rfl rfl z_6 z_7 (by decide) z_2 (by rw [bytesV_len, htl]; omega) ?_
   repeat refine x_ ?_
   refine f_ (s_add_i64 rfl rfl (by omega)) ?_
   refine m_ ?_
   repeat refine n_ ?_
   refine at_next (k + 1) (by omega) (by omega) ?_ ?_
   ·(repeat (first | exact Sub.nil _ | refine Sub.cons rfl ?_))
   ·intro w hw
    have e : putx (bytesV (lowS (s.take k) ++ s.drop k)) (k * 1) [U8 (c + 32)] = bytesV (lowS (s.take (k + 1)) ++ s.drop (k + 1)) := by
     have h5 : lowS (s.take (k + 1)) ++ s.drop (k + 1) = lowS (s.take k) ++ (c + 32) :: s.drop (k + 1) := by rw [← hup]; exact hst
     rw [h5, hdr, Nat.mul_one]
     have h6 := putx_byte (a := lowS (s.take k)) (r := s.drop (k + 1)) (d := c) (c := c + 32)
     rwa [hul] at h6
    rw [← e]
    exact hw
  ·have hup : lowC c = c := by
    unfold lowC
    refine if_neg fun hh => ?_
    have a : q1 = true := h1.trans (decide_eq_true (by omega))
    have b : q2 = true := h2.trans (decide_eq_true (by omega))
    rw [a, b] at h3
    cases h3
   repeat refine x_ ?_
   refine f_ (s_add_i64 rfl rfl (by omega)) ?_
   refine m_ ?_
   repeat refine n_ ?_
   refine at_next (k + 1) (by omega) (by omega) ?_ ?_
   ·(repeat (first | exact Sub.nil _ | refine Sub.cons rfl ?_))
   ·intro w hw
    have e : lowS (s.take k) ++ s.drop k = lowS (s.take (k + 1)) ++ s.drop (k + 1) := by
     have h5 : lowS (s.take (k + 1)) ++ s.drop (k + 1) = lowS (s.take k) ++ lowC c :: s.drop (k + 1) := hst
     rw [h5, hup, hdr]
    rw [← e]
    exact hw
 ·have hkl : k = s.length := by simp at h; omega
  subst hkl
  repeat refine x_ ?_
  refine m_ ?_
  refine r_ (s_string (l := lowS s) rfl (by simp [lowS]) (fun w hw => by have h5 := (hw.ownN .del).2.2.1; rwa [List.take_length, List.drop_length, List.append_nil] at h5)) ?_
  refine a_ ?_
  repeat refine n_ ?_
  refine g_ret ?_
  exact at_end1 rfl rfl [] ⟨rfl, rfl⟩ (fun _ h => h.dropAll)
theorem below_grow (w : World) (q : Nat) (os : Array Obj) : Below w.heap.size w (Sort.grow (w.drewN q) os) :=
 ⟨rfl, rfl, rfl, by show w.heap.size ≤ (w.heap ++ os).size; simp, fun k hk => by show (w.heap ++ os)[k]? = _; rw [Array.getElem?_append_left hk]⟩
theorem systemP_ct : Pu Tryz.prog 134 [] (fun _ => True) (.agg (fV sysL).toArray) := pu_below fun w _ => by
 refine (system_w w).mono ?_
 rintro e w' ⟨rfl, q, os, rfl⟩
 exact ⟨rfl, below_grow w q os⟩
theorem sysV_at {j : Nat} (hj : j < 5) : (fV sysL).toArray[j]? = some (B (sysL.getD j [])) := by
 have hl : j < sysL.length := hj
 simp [fV, hl]
set_option maxRecDepth 8000 in
theorem CanonP_ct (s : Bs) (hl : s.length ≤ big) : Pu Tryz.prog 120 [B s] (fun _ => True) (optV (canonS s)) := by
 unfold big at hl
 have h5 : sysL.length = 5 := rfl
 refine ct_enter 27 Tryz.func120 rfl rfl rfl ?_
 intro F _
 repeat refine x_ ?_
 refine a_ ?_
 refine a_ ?_
 repeat refine x_ ?_
 refine gl_callp rfl systemP_ct (fun _ _ _ => trivial) rfl ?_
 refine m_ ?_
 repeat refine n_ ?_
 refine g_loop (ι := Nat) (fun j => j ≤ 5 ∧ ∀ i, i < j → (upS (sysL.getD i []) == upS s) = false) (fun j => [(0, B s), (6, .agg (fV sysL).toArray), (7, .int .i64 (j : Nat))]) (fun _ => []) (fun j => 5 - j) 0 ⟨by omega, fun i h => by omega⟩ ?_ ?_ ?_
 ·(repeat (first | exact Sub.nil _ | refine Sub.cons rfl ?_))
 ·intro w hw; exact hw
 rintro j ⟨hj, hno⟩
 repeat refine x_ ?_
 refine f_ (s_lss rfl rfl) ?_
 repeat refine n_ ?_
 refine g_cond rfl (fun h => ?_) (fun h => ?_)
 ·have hj' : j < 5 := by simp at h; omega
  have hsl := sys_len hj'
  repeat refine x_ ?_
  refine f_ (s_index_arrS j rfl rfl (by omega) hj' (sysV_at hj')) ?_
  refine a_ ?_
  repeat refine x_ ?_
  refine m_ ?_
  refine gl_callp rfl (UpperW_ct (sysL.getD j []) (by omega)) (fun _ _ _ => trivial) rfl ?_
  refine m_ ?_
  refine gl_callp rfl (UpperW_ct s (by omega)) (fun _ _ _ => trivial) rfl ?_
  refine f_ ((s_eql_str rfl rfl).eq (v' := .bool (upS (sysL.getD j []) == upS s)) (congrArg Value.bool (by rw [Bool.eq_iff_iff]; simp))) ?_
  repeat refine n_ ?_
  refine g_cond rfl (fun h2 => ?_) (fun h2 => ?_)
  ·have e : canonS s = some (sysL.getD j []) := by
    unfold canonS
    rw [find_at (p := fun f => upS f == upS s) (by omega) hno h2]
   rw [e]
   repeat refine x_ ?_
   refine m_ ?_
   refine a_ ?_
   refine a_ ?_
   repeat refine n_ ?_
   refine g_ret ?_
   exact at_end2 rfl rfl rfl [] ⟨rfl, rfl⟩ (fun _ h => h)
  ·repeat refine y_ ?_
   repeat refine x_ ?_
   refine f_ (s_add_i64 rfl rfl (by omega)) ?_
   refine m_ ?_
   repeat refine n_ ?_
   refine at_next (j + 1) ⟨by omega, fun i hi => ?_⟩ (by omega) ?_ ?_
   ·rcases Nat.lt_succ_iff_lt_or_eq.1 hi with h4 | rfl
    ·exact hno i h4
    ·exact h2
   ·(repeat (first | exact Sub.nil _ | refine Sub.cons rfl ?_))
   ·intro w hw; exact hw
 ·have hj5 : j = 5 := by simp at h; omega
  subst hj5
  obtain ⟨q1, h1⟩ : ∃ q, q = atomS s := ⟨_, rfl⟩
  obtain ⟨q2, h2⟩ : ∃ q, q = decide ((s.length : Int) > 32) := ⟨_, rfl⟩
  have e : canonS s = if (!q1 || q2) = true then none else some (lowS s) := by
   unfold canonS
   rw [find_no (p := fun f => upS f == upS s) (fun i hi => hno i (by omega))]
   simp only
   by_cases hh : (!q1 || q2) = true
   ·rw [if_pos hh]
    refine if_neg fun x => ?_
    rw [h1, h2, x.1] at hh
    simp at hh
    omega
   ·rw [if_neg hh]
    refine if_pos ?_
    have h3 : (!q1 || q2) = false := by simpa using hh
    rw [Bool.or_eq_false_iff] at h3
    have h4 : q1 = true := by simpa using h3.1
    have h5 := of_decide_eq_false (h2.symm.trans h3.2)
    exact ⟨h1.symm.trans h4, by omega⟩
  rw [e]
  repeat refine y_ ?_
  refine g_cutK [(0, B s), (24, .bool (!q1 || q2))] [] ?_ ?_
  ·cases q1
   all_goals (
    repeat refine x_ ?_
    refine m_ ?_
    refine gl_callp rfl (AtomW_ct s (by omega)) (fun _ _ _ => trivial) rfl ?_; rw [← h1]
    refine f_ (s_not rfl) ?_
    refine m_ ?_
    (first | refine gl_guard_no rfl rfl rfl rfl rfl rfl rfl ?_ | (refine v_ ?_; refine m_ ?_))
    (first | refine gl_guard_no rfl rfl rfl rfl rfl rfl rfl ?_ | (refine v_ ?_; refine f_ (s_len_str rfl) ?_))
    (first | refine gl_guard_no rfl rfl rfl rfl rfl rfl rfl ?_ | (refine v_ ?_; refine f_ ((s_gtr rfl rfl).eb h2) ?_))
    refine f_ z_4 ?_
    refine gl_nil ?_
    repeat refine y_ ?_)
   all_goals exact at_cut j_ i_
  repeat refine y_ ?_
  refine g_cond rfl (fun h6 => ?_) (fun h6 => ?_)
  ·rw [if_pos h6]
   repeat refine x_ ?_
   refine a_ ?_
   refine a_ ?_
   repeat refine n_ ?_
   refine g_ret ?_
   exact at_end2 rfl rfl rfl [] ⟨rfl, rfl⟩ (fun _ h => h)
  ·rw [if_neg (by rw [h6]; simp)]
   repeat refine x_ ?_
   refine m_ ?_
   refine gl_callp rfl (SmallW_ct s (by omega)) (fun _ _ _ => trivial) rfl ?_
   refine a_ ?_
   refine a_ ?_
   repeat refine n_ ?_
   refine g_ret ?_
   exact at_end2 rfl rfl rfl [] ⟨rfl, rfl⟩ (fun _ h => h)
set_option maxRecDepth 8000 in
theorem MakeP_ct (l : List Bs) (a : Option Addr) (c : Nat) (hl : l.length ≤ big) (hb : ∀ f ∈ l, f.length ≤ big) : Ct Tryz.prog 108 [.slice a l.length c] (fun h => RdS h a (fV l)) [] (MakeP (makeR l)) := by
 unfold big at hl
 refine ct_enter 33 Tryz.func108 rfl rfl rfl ?_
 intro F hrd
 repeat refine x_ ?_
 refine a_ ?_
 refine a_ ?_
 repeat refine x_ ?_
 refine a_ ?_
 repeat refine x_ ?_
 refine m_ ?_
 refine f_ (s_len_sl rfl) ?_
 refine m_ ?_
 repeat refine n_ ?_
 refine g_own_nil 9 1 ?_
 refine g_loop (ι := Nat × List Bs × Option Addr × Nat) (fun i => i.1 ≤ l.length ∧ canonL (l.take i.1) = some i.2.1) (fun i => [(4, .slice i.2.2.1 i.2.1.length i.2.2.2), (9, .slice a l.length c), (10, .int .i64 (l.length : Nat)), (11, .int .i64 (i.1 : Nat))]) (fun i => [OwnS i.2.2.1 i.2.1 i.2.2.2]) (fun i => l.length - i.1) (0, [], none, 0) ⟨by simp, by simp [canonL]⟩ ?_ ?_ ?_
 ·(repeat (first | exact Sub.nil _ | refine Sub.cons rfl ?_))
 ·intro w hw; exact hw
 rintro ⟨k, cs, b, d⟩ ⟨hk, hc⟩
 simp only at hk hc
 have hcl := canonL_len hc
 rw [List.length_take] at hcl
 repeat refine x_ ?_
 refine f_ (s_lss rfl rfl) ?_
 repeat refine n_ ?_
 refine g_cond rfl (fun h => ?_) (fun h => ?_)
 ·have hk' : k < l.length := by simp at h; omega
  have hsome := rdB_some hrd hk'
  have hbk := hb _ (getB_mem hk')
  have htk : l.take (k + 1) = l.take k ++ [l.getD k []] := takeB hk'
  repeat refine x_ ?_
  refine f_ (s_indexAddr rfl hsome rfl (by omega)) ?_
  refine r_ (s_load1 rfl (fun w hw => rdB hw hrd (i := k) (by omega) hk')) ?_
  refine a_ ?_
  repeat refine x_ ?_
  refine m_ ?_
  refine gl_callp rfl (CanonP_ct (l.getD k []) hbk) (fun _ _ _ => trivial) rfl ?_
  refine m_ ?_
  refine f_ (s_extract rfl rfl) ?_
  refine f_ (s_extract rfl rfl) ?_
  refine a_ ?_
  refine a_ ?_
  repeat refine n_ ?_
  cases hq : canonS (l.getD k []) with
  | none =>
   have e : makeR l = ([], 4) := by unfold makeR; rw [canonL_bad hq (getB_mem hk')]
   rw [e]
   repeat refine x_ ?_
   refine m_ ?_
   refine f_ (s_not rfl) ?_
   repeat refine x_ ?_
   refine a_ ?_
   refine a_ ?_
   repeat refine n_ ?_
   refine g_ret ?_
   exact at_end2 rfl rfl rfl [OwnS none [] 0] ⟨none, 0, rfl, rfl⟩ (fun w hw => hw.dropAll.addNil _ _)
  | some z =>
   repeat refine x_ ?_
   refine m_ ?_
   refine f_ (s_not rfl) ?_
   repeat refine x_ ?_
   refine m_ ?_
   refine m_ ?_
   refine gl_buildSliceU rfl rfl rfl rfl rfl rfl (xs := fV [z]) rfl rfl ?_; intro a46 ha46
   refine gl_append rfl rfl (fun a' c' => .there .here) (fun w hw => (hw.ownN z_3).2.2.1) rfl rfl rfl (fV_one _) (by show (cs.length + 1) * 16 ≤ _; omega) (by simp only; omega) rfl ?_; intro a5 c5 hc5
   refine a_ ?_
   repeat refine x_ ?_
   refine f_ (s_add_i64 rfl rfl (by omega)) ?_
   refine m_ ?_
   repeat refine n_ ?_
   refine at_next (k + 1, cs ++ [z], a5, c5) ⟨by simp only; omega, by simp only; rw [htk]; exact canonL_snoc hq hc⟩ (by simp only; omega) ?_ ?_
   ·simp only [List.length_append, List.length_singleton]
    (repeat (first | exact Sub.nil _ | refine Sub.cons rfl ?_))
   ·intro w hw
    simp only [OwnS, List.length_append, List.length_singleton]
    rw [fV_append]
    exact hw.drop
 ·have hkl : k = l.length := by simp at h; omega
  rw [hkl, List.take_length] at hc
  have hsl := set_len cs
  repeat refine x_ ?_
  refine m_ ?_
  refine gl_call _ rfl (set_ct cs b d (by omega)) i_ (fun h hh ⟨bs, hb⟩ => Sat.rd hb z_3) rfl ?_; rintro v A ⟨a8, c8, rfl, rfl⟩
  refine a_ ?_
  repeat refine x_ ?_
  refine m_ ?_
  refine f_ (s_len_sl rfl) ?_
  refine f_ ((s_gtr rfl rfl).eq (v' := .bool (decide (16 < (setS cs).length))) (congrArg Value.bool (decide_eq_decide.mpr (by omega)))) ?_
  repeat refine n_ ?_
  refine g_cond rfl (fun h2 => ?_) (fun h2 => ?_)
  ·have e : makeR l = ([], 7) := by unfold makeR; rw [hc]; simp only; rw [if_pos (of_decide_eq_true h2)]
   rw [e]
   repeat refine x_ ?_
   refine a_ ?_
   refine a_ ?_
   repeat refine n_ ?_
   refine g_ret ?_
   exact at_end2 rfl rfl rfl [OwnS none [] 0] ⟨none, 0, rfl, rfl⟩ (fun w hw => hw.dropAll.addNil _ _)
  ·have e : makeR l = (setS cs, 0) := by unfold makeR; rw [hc]; simp only; rw [if_neg (of_decide_eq_false h2)]
   rw [e]
   repeat refine x_ ?_
   refine m_ ?_
   refine a_ ?_
   refine a_ ?_
   repeat refine n_ ?_
   refine g_ret ?_
   exact at_end2 rfl rfl rfl [OwnS a8 (setS cs) c8] ⟨a8, c8, rfl, rfl⟩ (fun w hw => hw.left (A := [_]))
end Go.Proofs.YtgllpcggdcknaaaGreatDoor.Rp
namespace Go.Proofs.YtgllpcggdcknaaaGreatDoor.Rp
open Go Go.Sl Go.RowKit
abbrev toBA (l : Bs) : ByteArray := ⟨l.toArray⟩
theorem rd_addr {h : Heap} {a : Option Addr} {l : List Bs} (r : RdS h a (fV l)) (h0 : l ≠ []) : ∃ b o, a = some ⟨b, o, none⟩ ∧ ∀ j, j < l.length → h.cell? ⟨b, o + j, none⟩ = some (B (l.getD j [])) := by
 obtain ⟨⟨b, o, sp⟩, rfl, hc⟩ := r (by intro e; have := congrArg List.length e; rw [fV_len] at this; exact h0 (List.eq_nil_of_length_eq_zero this))
 cases sp with
 | none =>
  refine ⟨b, o, rfl, fun j hj => ?_⟩
  have := hc j (B (l.getD j [])) (by simp [fV, hj])
  rwa [Addr.add_lit] at this
 | some x =>
  exfalso
  cases l with
  | nil => exact h0 rfl
  | cons y t =>
   have := hc 0 (B y) rfl
   simp [Addr.add, Heap.cell?] at this
   split at this <;> simp at this
theorem Join_ct (l : List Bs) (a : Option Addr) (c : Nat) (sep : Bs) (hc : l.length ≤ c) (hl : l.length ≤ 140737488355328) (hj : (joinS sep l).length ≤ 140737488355328) : Pu Tryz.prog 35 [.slice a l.length c, B sep] (fun h => RdS h a (fV l)) (B (joinS sep l)) := pu_below fun w hr => by
 by_cases h0 : l = []
 ·subst h0
  refine (Tryz.strings_Join_none a c (toBA sep) w).mono ?_
  rintro e w' ⟨rfl, rfl⟩
  exact ⟨rfl, Below.refl _ _⟩
 ·obtain ⟨b, o, rfl, hcell⟩ := rd_addr hr h0
  have hcell' : ∀ j, j < l.length → w.cell? ⟨b, o + j, none⟩ = some (B (l.getD j [])) := hcell
  have hb : b < w.heap.size := by
   have := hcell' 0 (List.length_pos_iff.mpr h0)
   unfold World.cell? at this
   cases hh : w.heap[b]? with
   | none => simp only [hh] at this; cases this
   | some ob => exact (Array.getElem?_eq_some_iff.1 hh).1
  have hml : (l.map toBA).length = l.length := by simp
  have e1 : (l.map toBA).map (·.data.toList) = l := by simp [Function.comp_def]
  have e2 : (toBA sep).data.toList = sep := rfl
  have hcs : ∀ (j : Nat) x, (l.map toBA)[j]? = some x → w.cell? ⟨b, o + j, none⟩ = some (.string x) := fun j x hx => by
   rw [List.getElem?_map] at hx
   cases hj2 : l[j]? with
   | none => rw [hj2] at hx; cases hx
   | some y =>
    rw [hj2] at hx
    cases hx
    have hj3 : j < l.length := (List.getElem?_eq_some_iff.1 hj2).1
    rw [hcell' j hj3, List.getD_eq_getElem?_getD, hj2]
    rfl
  have := Tryz.strings_Join b o c (l.map toBA) (toBA sep) w hcs hb (by omega) (by omega) (by rw [e1, e2, interc_join]; exact hj)
  rw [e1, e2, interc_join, hml] at this
  exact this
theorem PrintP_ct (l : List Bs) (a : Option Addr) (c : Nat) (hc : l.length ≤ c) (hl : l.length ≤ 140737488355328) (hj : (joinS [32] l).length ≤ 140737488355328) : Pu Tryz.prog 31 [.slice a l.length c] (fun h => RdS h a (fV l)) (B (printF l)) := by
 refine ct_enter 7 Tryz.func31 rfl rfl rfl ?_
 intro F hrd
 repeat refine x_ ?_
 refine a_ ?_
 repeat refine x_ ?_
 refine m_ ?_
 refine gl_callp rfl (Join_ct l a c [32] hc hl hj) (fun h hh hb => hrd.le hh) rfl ?_
 refine f_ (s_add_str rfl rfl (by simp only [List.length_cons, List.length_nil]; omega)) ?_
 refine f_ ((s_add_str rfl rfl (by simp only [List.length_append, List.length_cons, List.length_nil]; omega)).eq (v' := B (printF l)) rfl) ?_
 refine a_ ?_
 repeat refine n_ ?_
 refine g_ret ?_
 exact at_end1 rfl rfl [] ⟨rfl, rfl⟩ (fun _ h => h)
theorem index_word : ∀ (w r : Bs), (∀ c ∈ w, c ≠ 32) → Lib.index (w ++ 32 :: r) [32] = ((w.length : Nat) : Int)
 | [], r, _ => by rw [List.nil_append, Lib.index]; simp [List.isPrefixOf]
 | b :: w, r, h => by
  have ih := index_word w r (fun c hc => h c (by simp [hc]))
  have hb : b ≠ 32 := h b z_8
  have hp : ([32] : List UInt8).isPrefixOf (b :: (w ++ 32 :: r)) = false := by simp [List.isPrefixOf, Ne.symm hb]
  rw [List.cons_append, Lib.index, hp, ih]
  have hm : (((w.length : Nat) : Int) == -1) = false := beq_eq_false_iff_ne.mpr (by omega)
  simp [hm]
theorem splitK_eq : ∀ (k : Nat) (s : Bs), s.count 32 = k → Lib.splitK [32] 0 k s = splitS s
 | 0, s, h => by
  rw [split_word s (fun c hc e => by subst e; have := List.count_pos_iff.mpr hc; omega)]
  rfl
 | k + 1, s, h => by
  have hs := takeWhile_split (fun c => c != 32) s
  obtain ⟨w, hw⟩ : ∃ w, w = s.takeWhile fun c => c != 32 := ⟨_, rfl⟩
  have hw2 : ∀ c ∈ w, c ≠ 32 := fun c hc => by
   rw [hw] at hc
   have := takeWhile_all (fun c => c != 32) s c hc
   simpa using this
  have hnx := takeWhile_next (fun c => c != 32) s
  rw [← hw] at hs hnx
  cases hd : s.drop w.length with
  | nil =>
   rw [hd, List.append_nil] at hs
   have : s.count 32 = 0 := List.count_eq_zero.mpr (fun hc => hw2 32 (hs ▸ hc) rfl)
   omega
  | cons d r =>
   rw [hd] at hs hnx
   have hd32 : d = 32 := by have := hnx d z_8; simpa using this
   subst hd32
   have hi := index_word w r hw2
   have hc : r.count 32 = k := by
    rw [hs, List.count_append, List.count_cons_self] at h
    have : w.count 32 = 0 := List.count_eq_zero.mpr (fun hc => hw2 32 hc rfl)
    omega
   rw [hs, split_cons w r hw2, Lib.splitK, hi]
   have hm : (((w.length : Nat) : Int) == -1) = false := beq_eq_false_iff_ne.mpr (by omega)
   rw [hm]
   simp only [Bool.false_eq_true, if_false, Int.toNat_natCast, Nat.add_zero, List.take_left]
   rw [show (w ++ 32 :: r).drop (w.length + [(32 : UInt8)].length) = r by simp, splitK_eq k r hc]
end Go.Proofs.YtgllpcggdcknaaaGreatDoor.Rp
namespace Go.Proofs.YtgllpcggdcknaaaGreatDoor.Rp
open Go Go.Sl Go.RowKit
def SplitP (s : Bs) (v : Value) (A : List As) : Prop := ∃ a c, v = .slice a (splitS s).length c ∧ A = [OwnS a (splitS s) c]
theorem Split_ct (s : Bs) (hs : s.length < 4294967281) : Ct Tryz.prog 107 [B s, B [32]] Gl [] (SplitP s) := by
 intro w bs hsat hnd hpre
 have hb : bs = [] := hsat
 subst hb
 rw [hpBut_nil] at hpre
 obtain ⟨m, t, fr, h0⟩ := hpre.m
 have hc := Tryz.strings_Split (toBA s) (toBA [32]) m w (by simpa [ByteArray.size] using hs) (cell0 h0) (by decide)
 refine hc.mono ?_
 rintro e w' ⟨rfl, rfl⟩
 have hk : Lib.countB (toBA s) (toBA [32]) = s.count 32 := Lib.count_one 32 s
 have hd := Lib.splitB_data (toBA [32]) 0 (Lib.countB (toBA s) (toBA [32])) (toBA s)
 have e1 : (toBA [32]).data.toList = [32] := rfl
 have e2 : (toBA s).data.toList = s := rfl
 rw [e1, e2, hk, splitK_eq _ s rfl] at hd
 have hl : (Lib.splitB (toBA [32]) 0 (Lib.countB (toBA s) (toBA [32])) (toBA s)).length = Lib.countB (toBA s) (toBA [32]) + 1 := Lib.splitB_all _ (by decide) 0 _ _ rfl
 have hcells : (Lib.splitB (toBA [32]) 0 (Lib.countB (toBA s) (toBA [32])) (toBA s)).map Value.string = fV (splitS s) := by
  rw [hk, ← hd]
  simp [fV, Function.comp_def]
 have hn : Lib.countB (toBA s) (toBA [32]) + 1 = (splitS s).length := by
  rw [← hl, hk, ← hd, List.length_map]
 rw [hcells, hn]
 refine ⟨_, [OwnS (some ⟨w.heap.size, 0, none⟩) (splitS s) (splitS s).length], rfl, ⟨_, _, rfl, rfl⟩, ?_⟩
 have hw : Hp (snapBut w []) w [] := Hp.start (C := []) (bs := []) rfl List.nodup_nil
 exact own_alloc (xs := fV (splitS s)) (post := []) (fr := (0, 0)) hw (by rw [fV_len]; omega) (by rw [List.append_nil, fV_len]; omega) (Nat.le_refl _) (.inl (Nat.le_refl _)) z_8
theorem split_len : ∀ s : Bs, (splitS s).length ≤ s.length + 1 ∧ ∀ f ∈ splitS s, f.length ≤ s.length
 | [] => by simp [splitS]
 | c :: t => by
  have ih := split_len t
  unfold splitS
  split
  ·refine ⟨by simp; omega, fun f hf => ?_⟩
   rcases List.mem_cons.mp hf with rfl | hf
   ·simp
   ·have := ih.2 f hf; simp; omega
  ·split
   ·simp
   ·next w ws h =>
    rw [h] at ih
    refine ⟨by simpa using by have := ih.1; simp at this; omega, fun f hf => ?_⟩
    rcases List.mem_cons.mp hf with rfl | hf
    ·have := ih.2 w z_8; simp; omega
    ·have := ih.2 f (by simp [hf]); simp; omega
theorem contains_len (s : Bs) : s.contains 41 = decide ((s.takeWhile fun c => c != 41).length < s.length) := by
 induction s with
 | nil => rfl
 | cons c t ih =>
  by_cases h : c = 41
  ·subst h; simp
  ·have h1 : ((41 : UInt8) == c) = false := beq_eq_false_iff_ne.mpr (fun e => h e.symm)
   rw [List.contains_cons, h1, Bool.false_or, ih, List.takeWhile_cons]
   simp [h]
set_option maxRecDepth 8000 in
theorem ParseF_ct (s : Bs) (hs : s.length < 4294967281) : Ct Tryz.prog 88 [B s] Gl [] (ParseP (parseF s)) := by
 obtain ⟨e, he⟩ : ∃ e, e = (s.takeWhile fun c => c != 41).length := ⟨_, rfl⟩
 have hix := indexByte_eq s 41
 rw [contains_len, ← he] at hix
 obtain ⟨z, hz⟩ : ∃ z, z = Lib.indexByte s 41 := ⟨_, rfl⟩
 rw [← hz] at hix
 obtain ⟨q1, h1⟩ : ∃ q, q = decide (z < 1) := ⟨_, rfl⟩
 obtain ⟨q2, h2⟩ : ∃ q, q = decide (s.getD 0 0 = 40) := ⟨_, rfl⟩
 have hel : e ≤ s.length := by
  have := congrArg List.length (takeWhile_split (fun c => c != 41) s)
  rw [List.length_append] at this
  omega
 have hno : (q1 || !q2) = true → parseF s = ([], 0, 4) := fun h => by
  unfold parseF
  simp only
  rw [← he]
  refine if_neg fun hh => ?_
  rw [if_pos (by simpa using hh.2)] at hix
  have hpos : 1 ≤ s.length := by omega
  rw [head_get hpos] at hh
  have h3 : s.getD 0 0 = 40 := by simpa using hh.1
  have hq2 : q2 = true := h2.trans (decide_eq_true h3)
  have he1 : 1 ≤ e := by
   cases s with
   | nil => simp at hpos
   | cons c t =>
    have hc : c = 40 := h3
    subst hc
    rw [he]
    simp
  have hq1 : q1 = false := h1.trans (decide_eq_false (by omega))
  rw [hq1, hq2] at h
  cases h
 have hyes : (q1 || !q2) = false → z = (e : Int) ∧ 1 ≤ e ∧ e < s.length ∧ s.head? = some 40 := fun h => by
  rw [Bool.or_eq_false_iff] at h
  have h3 := of_decide_eq_false (h1.symm.trans h.1)
  have h4 : q2 = true := by simpa using h.2
  have h5 : s.getD 0 0 = 40 := of_decide_eq_true (h2.symm.trans h4)
  by_cases hc : e < s.length
  ·rw [if_pos (by simpa using hc)] at hix
   refine ⟨hix, by omega, hc, ?_⟩
   rw [head_get (by omega), h5]
  ·rw [if_neg (by simpa using hc)] at hix
   omega
 refine ct_enter 35 Tryz.func88 rfl rfl rfl ?_
 intro F hg
 repeat refine x_ ?_
 refine a_ ?_
 refine a_ ?_
 refine a_ ?_
 repeat refine x_ ?_
 refine m_ ?_
 refine gl_callp rfl (IndexByte_ct s 41) (fun _ _ _ => trivial) rfl ?_; rw [← hz]
 refine a_ ?_
 repeat refine n_ ?_
 refine g_cutK [(0, B s), (5, .int .i64 z), (17, .bool (q1 || !q2))] [] ?_ ?_
 ·cases q1
  all_goals (
   repeat refine x_ ?_
   refine m_ ?_
   refine f_ ((s_lss rfl rfl).eb h1) ?_
   refine m_ ?_
   (first | refine gl_guard_no rfl rfl rfl rfl rfl rfl rfl ?_ | (refine v_ ?_; refine m_ ?_))
   (first | refine gl_guard_no rfl rfl rfl rfl rfl rfl rfl ?_ | (refine v_ ?_; refine f_ ((s_index_str rfl rfl (by have := of_decide_eq_false h1.symm; split at hix <;> omega)).eq (v' := U8 (s.getD 0 0)) rfl) ?_))
   (first | refine gl_guard_no rfl rfl rfl rfl rfl rfl rfl ?_ | (refine v_ ?_; refine f_ ((s_neq rfl rfl).eq ((congrArg (fun b => Value.bool (!b)) (u8_eq (b := 40))).trans (congrArg (fun b => Value.bool (!b)) h2.symm))) ?_))
   refine f_ z_4 ?_
   refine gl_nil ?_
   repeat refine y_ ?_)
  all_goals exact at_cut j_ i_
 repeat refine y_ ?_
 refine g_cond rfl (fun h => ?_) (fun h => ?_)
 ·rw [hno h]
  repeat refine x_ ?_
  refine a_ ?_
  refine a_ ?_
  refine a_ ?_
  repeat refine n_ ?_
  refine g_ret ?_
  exact at_end3 rfl rfl rfl rfl [OwnS none [] 0] ⟨none, 0, rfl, rfl⟩ (fun w hw => hw.addNil _ _)
 obtain ⟨hze, he1, hes, hhd⟩ := hyes h
 rw [hze]
 have hin : (s.take e).drop 1 = (s.drop 1).take (e - 1) := by rw [List.drop_take]
 obtain ⟨inner, hinn⟩ : ∃ i, i = (s.take e).drop 1 := ⟨_, rfl⟩
 have hil : inner.length = e - 1 := by rw [hinn, List.length_drop, List.length_take]; omega
 have hpf : parseF s = if (makeR (if inner = [] then [] else splitS inner)).2 = 0 then ((makeR (if inner = [] then [] else splitS inner)).1, e + 1, 0) else ([], 0, (makeR (if inner = [] then [] else splitS inner)).2) := by
  unfold parseF
  simp only
  rw [← he, if_pos ⟨hhd, hes⟩, ← hinn]
 repeat refine x_ ?_
 refine a_ ?_
 repeat refine x_ ?_
 refine m_ ?_
 refine f_ ((s_gtr rfl rfl).eq (v' := .bool (decide (1 < e))) (congrArg Value.bool (decide_eq_decide.mpr (by omega)))) ?_
 repeat refine n_ ?_
 refine g_cond rfl (fun h3 => ?_) (fun h3 => ?_)
 ·have h4 := of_decide_eq_true h3
  have hne : inner ≠ [] := by intro x; rw [x] at hil; simp at hil; omega
  rw [if_neg hne] at hpf
  have hsl := split_len inner
  repeat refine x_ ?_
  refine m_ ?_
  refine m_ ?_
  refine f_ ((s_slice_str rfl rfl rfl (by omega)).eq (v' := B inner) (by rw [hinn, hin]; simp only [Int.toNat_natCast]; rfl)) ?_
  refine gl_call _ rfl (Split_ct inner (by omega)) i_ (fun h hh hb => hg.le hh) rfl ?_; rintro v A ⟨a23, c23, rfl, rfl⟩
  refine a_ ?_
  repeat refine x_ ?_
  refine m_ ?_
  refine gl_call _ rfl (MakeP_ct (splitS inner) a23 c23 (by unfold big; omega) (fun f hf => by have := hsl.2 f hf; unfold big; omega)) i_ (fun h hh ⟨bs, hb⟩ => Sat.rd hb z_3) rfl ?_; rintro v A ⟨a8, c8, rfl, rfl⟩
  refine m_ ?_
  refine f_ (s_extract rfl rfl) ?_
  refine f_ (s_extract rfl rfl) ?_
  refine a_ ?_
  refine a_ ?_
  repeat refine x_ ?_
  refine m_ ?_
  refine f_ (s_neq rfl rfl) ?_
  repeat refine n_ ?_
  refine g_cond rfl (fun h9 => ?_) (fun h9 => ?_)
  ·have he : ¬(makeR (splitS inner)).2 = 0 := by simpa using h9
   rw [hpf, if_neg he]
   repeat refine x_ ?_
   refine m_ ?_
   refine a_ ?_
   refine a_ ?_
   refine a_ ?_
   repeat refine n_ ?_
   refine g_ret ?_
   exact at_end3 rfl rfl rfl rfl [OwnS none [] 0] ⟨none, 0, rfl, rfl⟩ (fun w hw => hw.dropAll.addNil _ _)
  ·have he : (makeR (splitS inner)).2 = 0 := by simpa using h9
   rw [hpf, if_pos he]
   repeat refine x_ ?_
   refine m_ ?_
   refine m_ ?_
   refine f_ ((s_add_i64 rfl rfl (by omega)).eq (v' := .int .i64 ((e + 1 : Nat) : Int)) (by congr 1)) ?_
   refine a_ ?_
   refine a_ ?_
   refine a_ ?_
   repeat refine n_ ?_
   refine g_ret ?_
   exact at_end3 rfl rfl rfl rfl [OwnS a8 (makeR (splitS inner)).1 c8] ⟨a8, c8, rfl, rfl⟩ (fun w hw => hw.left (A := [_]))
 ·have h4 := of_decide_eq_false h3
  have hnil : inner = [] := List.eq_nil_of_length_eq_zero (by omega)
  rw [if_pos hnil] at hpf
  repeat refine x_ ?_
  refine m_ ?_
  refine gl_call _ rfl (MakeP_ct [] none 0 z_8 z_8) i_ (fun h hh hb => fun x => absurd rfl x) rfl ?_; rintro v A ⟨a8, c8, rfl, rfl⟩
  refine m_ ?_
  refine f_ (s_extract rfl rfl) ?_
  refine f_ (s_extract rfl rfl) ?_
  refine a_ ?_
  refine a_ ?_
  repeat refine x_ ?_
  refine m_ ?_
  refine f_ (s_neq rfl rfl) ?_
  repeat refine n_ ?_
  have he : (makeR []).2 = 0 := rfl
  rw [hpf, if_pos he]
  repeat refine x_ ?_
  refine m_ ?_
  refine m_ ?_
  refine f_ ((s_add_i64 rfl rfl (by omega)).eq (v' := .int .i64 ((e + 1 : Nat) : Int)) (by congr 1)) ?_
  refine a_ ?_
  refine a_ ?_
  refine a_ ?_
  repeat refine n_ ?_
  refine g_ret ?_
  exact at_end3 rfl rfl rfl rfl [OwnS a8 (makeR []).1 c8] ⟨a8, c8, rfl, rfl⟩ i_
end Go.Proofs.YtgllpcggdcknaaaGreatDoor.Rp
namespace Go.Proofs.YtgllpcggdcknaaaGreatDoor.Rp
open Go Go.Sl
abbrev Ptr (b : Nat) : Value := .pointer (some ⟨b, 0, none⟩)
def RpP (r : RR) (v : Value) (A : List As) : Prop := ∃ x : RL, r.values = x.vs.map VM.v ∧ v = rrA r x ∧ A = rrH r x
abbrev blkR (b : Nat) (r : RR) (x : RL) : As := .blk b (.cells #[.int .i64 r.kind, B r.tag, B r.code, B r.text, .int .u64 (r.n : Nat), .slice x.na r.nums.length x.nc, .int .u64 (r.mod : Nat), .slice x.fa r.flags.length x.fc, B r.box, .slice x.va x.vs.length x.vc] 27)
end Go.Proofs.YtgllpcggdcknaaaGreatDoor.Rp
namespace Go.Proofs.YtgllpcggdcknaaaGreatDoor.Rp
open Go Go.Sl Go.RowKit
abbrev rdp (b : Nat) (s : Bs) (p : Nat) (ok : Bool) : As := .blk b (.cells #[B s, .int .i64 (p : Nat), .bool ok] 51)
abbrev rdr (b : Nat) (s : Bs) (st : RS) : As := rdp b s st.p st.ok
theorem eatS_le {s w : Bs} {p : Nat} {ok : Bool} (h : p ≤ s.length) : (eatS s w ⟨p, ok⟩).2.p ≤ s.length ∧ p ≤ (eatS s w ⟨p, ok⟩).2.p := by
 unfold eatS
 split
 ·next hh =>
  have := hh.2
  rw [pre_take, List.length_drop] at this
  simp only [Bool.and_eq_true, decide_eq_true_eq] at this
  simp only
  omega
 ·simp only; omega
set_option maxRecDepth 8000 in
theorem eat_ct (b : Nat) (s w : Bs) (p : Nat) (ok : Bool) (hs : s.length ≤ 1000000000000) (hp : p ≤ s.length) (hw : w.length ≤ 1000000000000) : Ct Tryz.prog 19 [Ptr b, B w] (fun _ => True) [rdp b s p ok] (fun v A => v = .bool (eatS s w ⟨p, ok⟩).1 ∧ A = [rdr b s (eatS s w ⟨p, ok⟩).2]) := by
 obtain ⟨q, hq⟩ : ∃ q, q = w.isPrefixOf (s.drop p) := ⟨_, rfl⟩
 refine ct_enter 33 Tryz.func19 rfl rfl rfl ?_
 intro F _
 repeat refine x_ ?_
 refine a_ ?_
 repeat refine n_ ?_
 refine g_cutK [(0, Ptr b), (1, B w), (23, .bool (!ok || !q))] [rdp b s p ok] ?_ ?_
 ·cases ok
  all_goals (
   repeat refine y_ ?_
   refine g_draw0 ([3, 9, 13], [0, 1, 3, 7, 15, 31, 63, 127, 255, 511, 63, 1087, 3135, 7231, 16383, 63, 65535, 131071, 262143], []) 19 rfl ?_
   refine w_ 0 rfl (s_move rfl) ?_
   refine w_ 1 rfl (s_nilCheck rfl) ?_
   refine w_ 2 rfl z_1 ?_
   (refine ga_read 3 rfl z_3 (s_load_blk rfl .del a3_2) rfl rfl rfl z_5 ?_)
   refine w_ 4 rfl (s_not rfl) ?_
   refine w_ 5 rfl (s_move rfl) ?_
   (first | refine s_ 6 ?_ | refine ga_free_g 6 rfl (s_move rfl) rfl rfl rfl rfl rfl rfl z_5 ?_)
   (first | refine s_ 7 ?_ | refine ga_free_g 7 rfl (s_nilCheck rfl) rfl rfl rfl rfl rfl rfl z_5 ?_)
   (first | refine s_ 8 ?_ | refine ga_free_g 8 rfl z_1 rfl rfl rfl rfl rfl rfl z_5 ?_)
   (first | refine s_ 9 ?_ | refine ga_read_g 9 rfl z_3 (s_load_blk rfl .del a3_0) rfl rfl rfl rfl rfl rfl z_5 ?_)
   (first | refine s_ 10 ?_ | refine ga_free_g 10 rfl (s_move rfl) rfl rfl rfl rfl rfl rfl z_5 ?_)
   (first | refine s_ 11 ?_ | refine ga_free_g 11 rfl (s_nilCheck rfl) rfl rfl rfl rfl rfl rfl z_5 ?_)
   (first | refine s_ 12 ?_ | refine ga_free_g 12 rfl z_1 rfl rfl rfl rfl rfl rfl z_5 ?_)
   (first | refine s_ 13 ?_ | refine ga_read_g 13 rfl z_3 (s_load_blk rfl .del a3_1) rfl rfl rfl rfl rfl rfl z_5 ?_)
   (first | refine s_ 14 ?_ | refine ga_free_g 14 rfl ((s_slice_str rfl rfl rfl (by omega)).eq (v' := B (s.drop p)) (by rw [List.take_of_length_le (by rw [List.length_drop]; omega), Int.toNat_natCast])) rfl rfl rfl rfl rfl rfl z_5 ?_)
   (first | refine s_ 15 ?_ | refine ga_free_g 15 rfl (s_move rfl) rfl rfl rfl rfl rfl rfl z_5 ?_)
   refine ga_one 16 rfl z_5 ?_
   (first | refine gl_guard_no rfl rfl rfl rfl rfl rfl rfl ?_ | (refine v_ ?_; refine gl_callp rfl (HasPrefix_ct (s.drop p) w) (fun _ _ _ => trivial) rfl ?_; rw [← hq]))
   refine gl_nil ?_
   refine at_ga (.inl z_5) ?_
   (first | refine s_ 17 ?_ | refine ga_free_g 17 rfl (s_not rfl) rfl rfl rfl rfl rfl rfl z_5 ?_)
   refine w_ 18 rfl z_4 ?_
   refine ga_done z_5 ?_
   repeat refine y_ ?_)
  all_goals exact at_cut j_ i_
 repeat refine y_ ?_
 refine g_cond rfl (fun h => ?_) (fun h => ?_)
 ·have e : eatS s w ⟨p, ok⟩ = (false, ⟨p, ok⟩) := by
   unfold eatS
   refine if_neg fun hh => ?_
   simp only at hh
   rw [hh.1, hq, hh.2] at h
   cases h
  rw [e]
  repeat refine x_ ?_
  refine a_ ?_
  repeat refine n_ ?_
  refine g_ret ?_
  exact at_end1 rfl rfl [rdp b s p ok] ⟨rfl, rfl⟩ i_
 ·rw [Bool.or_eq_false_iff] at h
  have hok : ok = true := by simpa using h.1
  have hqt : q = true := by simpa using h.2
  have e : eatS s w ⟨p, ok⟩ = (true, ⟨p + w.length, ok⟩) := by
   unfold eatS
   exact if_pos ⟨hok, hq.symm.trans hqt⟩
  have hle := eatS_le (s := s) (w := w) (p := p) (ok := ok) hp
  rw [e] at hle ⊢
  simp only at hle
  repeat refine x_ ?_
  refine m_ ?_
  refine f_ (s_nilCheck rfl) ?_
  refine f_ z_1 ?_
  refine r_ (by exact s_load_blk rfl z_3 a3_1) ?_
  refine m_ ?_
  refine f_ (s_len_str rfl) ?_
  refine f_ ((s_add_i64 rfl rfl (by omega)).eq (v' := .int .i64 ((p + w.length : Nat) : Int)) (by congr 1)) ?_
  refine f_ (s_nilCheck rfl) ?_
  refine f_ z_1 ?_
  (refine gl_store_blkC (pre := [_]) (post := [_]) rfl rfl z_6 z_7 z_7 z_7 ?_)
  repeat refine x_ ?_
  refine a_ ?_
  repeat refine n_ ?_
  refine g_ret ?_
  exact at_end1 rfl rfl [rdp b s (p + w.length) ok] ⟨rfl, rfl⟩ i_
theorem need_ct (b : Nat) (s w : Bs) (p : Nat) (ok : Bool) (hs : s.length ≤ 1000000000000) (hp : p ≤ s.length) (hw : w.length ≤ 1000000000000) : Ct Tryz.prog 23 [Ptr b, B w] (fun _ => True) [rdp b s p ok] (fun v A => v = .tuple #[] ∧ A = [rdr b s (needS s w ⟨p, ok⟩)]) := by
 refine ct_enter 10 Tryz.func23 rfl rfl rfl ?_
 intro F _
 repeat refine x_ ?_
 refine m_ ?_
 refine m_ ?_
 refine m_ ?_
 refine gl_call _ rfl (eat_ct b s w p ok hs hp hw) i_ (fun _ _ _ => trivial) rfl ?_; rintro v A ⟨rfl, rfl⟩
 refine f_ (s_nilCheck rfl) ?_
 refine f_ z_1 ?_
 (refine gl_store_blkC (pre := [_, _]) (post := []) rfl rfl z_6 z_7 z_7 z_7 ?_)
 repeat refine n_ ?_
 exact at_end0 rfl [rdr b s (needS s w ⟨p, ok⟩)] ⟨rfl, rfl⟩ i_
theorem untilS_le {s w : Bs} {p : Nat} {ok : Bool} (h : p ≤ s.length) : (untilS s w ⟨p, ok⟩).2.p ≤ s.length ∧ p ≤ (untilS s w ⟨p, ok⟩).2.p ∧ (untilS s w ⟨p, ok⟩).1.length ≤ s.length ∧ (untilS s w ⟨p, ok⟩).2.p = p + (untilS s w ⟨p, ok⟩).1.length := by
 unfold untilS
 split
 ·have h1 := to_le (s := s) (p := p) (stops := w) h
  unfold toS at h1
  simp only
  exact ⟨h1, by omega, by omega, trivial⟩
 ·simp; omega
set_option maxRecDepth 8000 in
theorem until_ct (b : Nat) (s w : Bs) (p : Nat) (ok : Bool) (hs : s.length ≤ 1000000000000) (hp : p ≤ s.length) (hw : w.length ≤ 1000000000000) : Ct Tryz.prog 20 [Ptr b, B w] (fun _ => True) [rdp b s p ok] (fun v A => v = B (untilS s w ⟨p, ok⟩).1 ∧ A = [rdr b s (untilS s w ⟨p, ok⟩).2]) := by
 refine ct_enter 56 Tryz.func20 rfl rfl rfl ?_
 intro F _
 cases ok with
 | false =>
  repeat refine x_ ?_
  refine a_ ?_
  repeat refine x_ ?_
  refine m_ ?_
  refine f_ (s_nilCheck rfl) ?_
  refine f_ z_1 ?_
  refine r_ (by exact s_load_blk rfl z_3 a3_2) ?_
  refine f_ (s_not rfl) ?_
  repeat refine x_ ?_
  refine a_ ?_
  repeat refine n_ ?_
  refine g_ret ?_
  exact at_end1 rfl rfl [rdp b s p false] ⟨rfl, rfl⟩ i_
 | true =>
  repeat refine x_ ?_
  refine a_ ?_
  repeat refine x_ ?_
  refine m_ ?_
  refine f_ (s_nilCheck rfl) ?_
  refine f_ z_1 ?_
  refine r_ (by exact s_load_blk rfl z_3 a3_2) ?_
  refine f_ (s_not rfl) ?_
  repeat refine x_ ?_
  refine m_ ?_
  refine f_ (s_nilCheck rfl) ?_
  refine f_ z_1 ?_
  refine r_ (by exact s_load_blk rfl z_3 a3_1) ?_
  refine a_ ?_
  repeat refine n_ ?_
  refine g_loop (ι := Nat) (fun j => p ≤ j ∧ j ≤ s.length ∧ ∀ i, p ≤ i → i < j → (!w.contains (s.getD i 0)) = true) (fun j => [(0, Ptr b), (1, B w), (5, .int .i64 (p : Nat))]) (fun j => [rdp b s j true]) (fun j => s.length - j) p ⟨Nat.le_refl _, hp, fun i h h' => by omega⟩ ?_ ?_ ?_
  ·(repeat (first | exact Sub.nil _ | refine Sub.cons rfl ?_))
  ·intro w hw; exact hw
  rintro j ⟨hpj, hjl, hno⟩
  obtain ⟨r1, hr1⟩ : ∃ q, q = decide ((j : Int) < (s.length : Nat)) := ⟨_, rfl⟩
  obtain ⟨r2, hr2⟩ : ∃ q, q = !w.contains (s.getD j 0) := ⟨_, rfl⟩
  repeat refine y_ ?_
  refine g_cutK [(0, Ptr b), (1, B w), (5, .int .i64 (p : Nat)), (38, .bool (r1 && r2))] [rdp b s j true] ?_ ?_
  ·cases r1
   all_goals (
    repeat refine y_ ?_
    refine g_draw0 ([3, 7, 15, 19], [0, 1, 3, 7, 0, 16, 48, 112, 240, 511, 1023, 2047, 2047, 6143, 14335, 30719, 2047, 67583, 198655, 460799, 1046527, 2097151, 4194303, 8388607], []) 24 rfl ?_
    refine w_ 0 rfl (s_move rfl) ?_
    refine w_ 1 rfl (s_nilCheck rfl) ?_
    refine w_ 2 rfl z_1 ?_
    (refine ga_read 3 rfl z_3 (s_load_blk rfl .del a3_1) rfl rfl rfl z_5 ?_)
    refine w_ 4 rfl (s_move rfl) ?_
    refine w_ 5 rfl (s_nilCheck rfl) ?_
    refine w_ 6 rfl z_1 ?_
    (refine ga_read 7 rfl z_3 (s_load_blk rfl .del a3_0) rfl rfl rfl z_5 ?_)
    refine w_ 8 rfl (s_len_str rfl) ?_
    refine w_ 9 rfl ((s_lss rfl rfl).eb hr1) ?_
    refine w_ 10 rfl (s_move rfl) ?_
    (first | refine s_ 11 ?_ | refine ga_free_g 11 rfl (s_move rfl) rfl rfl rfl rfl rfl rfl z_5 ?_)
    (first | refine s_ 12 ?_ | refine ga_free_g 12 rfl (s_move rfl) rfl rfl rfl rfl rfl rfl z_5 ?_)
    (first | refine s_ 13 ?_ | refine ga_free_g 13 rfl (s_nilCheck rfl) rfl rfl rfl rfl rfl rfl z_5 ?_)
    (first | refine s_ 14 ?_ | refine ga_free_g 14 rfl z_1 rfl rfl rfl rfl rfl rfl z_5 ?_)
    (first | refine s_ 15 ?_ | refine ga_read_g 15 rfl z_3 (s_load_blk rfl .del a3_0) rfl rfl rfl rfl rfl rfl z_5 ?_)
    (first | refine s_ 16 ?_ | refine ga_free_g 16 rfl (s_move rfl) rfl rfl rfl rfl rfl rfl z_5 ?_)
    (first | refine s_ 17 ?_ | refine ga_free_g 17 rfl (s_nilCheck rfl) rfl rfl rfl rfl rfl rfl z_5 ?_)
    (first | refine s_ 18 ?_ | refine ga_free_g 18 rfl z_1 rfl rfl rfl rfl rfl rfl z_5 ?_)
    (first | refine s_ 19 ?_ | refine ga_read_g 19 rfl z_3 (s_load_blk rfl .del a3_1) rfl rfl rfl rfl rfl rfl z_5 ?_)
    (first | refine s_ 20 ?_ | refine ga_free_g 20 rfl ((s_index_str rfl rfl (by have := of_decide_eq_true hr1.symm; omega)).eq (v' := U8 (s.getD j 0)) (by simp only [Int.toNat_natCast])) rfl rfl rfl rfl rfl rfl z_5 ?_)
    refine ga_one 21 rfl z_5 ?_
    (first | refine gl_guard_no rfl rfl rfl rfl rfl rfl rfl ?_ | (refine v_ ?_; refine gl_callp rfl (IndexByte_ct w (s.getD j 0)) (fun _ _ _ => trivial) rfl ?_))
    refine gl_nil ?_
    refine at_ga (.inl z_5) ?_
    (first | refine s_ 22 ?_ | refine ga_free_g 22 rfl ((s_lss rfl rfl).eq (congrArg Value.bool ((idx_lt _ _).trans hr2.symm))) rfl rfl rfl rfl rfl rfl z_5 ?_)
    refine w_ 23 rfl z_4 ?_
    refine ga_done z_5 ?_
    repeat refine y_ ?_)
   all_goals exact at_cut j_ i_
  repeat refine y_ ?_
  refine g_cond rfl (fun h4 => ?_) (fun h4 => ?_)
  ·simp only [Bool.and_eq_true] at h4
   have hj' : j < s.length := by have := of_decide_eq_true (hr1.symm.trans h4.1); omega
   repeat refine x_ ?_
   refine m_ ?_
   refine f_ (s_nilCheck rfl) ?_
   refine f_ z_1 ?_
   refine r_ (by exact s_load_blk rfl z_3 a3_1) ?_
   refine f_ ((s_add_i64 rfl rfl (by omega)).eq (v' := .int .i64 ((j + 1 : Nat) : Int)) (by congr 1)) ?_
   refine f_ (s_nilCheck rfl) ?_
   refine f_ z_1 ?_
   (refine gl_store_blkC (pre := [_]) (post := [_]) rfl rfl z_6 z_7 z_7 z_7 ?_)
   repeat refine n_ ?_
   refine at_next (j + 1) ⟨by omega, by omega, fun i h h' => ?_⟩ (by omega) ?_ ?_
   ·rcases Nat.lt_succ_iff_lt_or_eq.1 h' with h5 | rfl
    ·exact hno i h h5
    ·rw [← hr2]; exact h4.2
   ·(repeat (first | exact Sub.nil _ | refine Sub.cons rfl ?_))
   ·intro w hw; exact hw
  ·have hend : j < s.length → (!w.contains (s.getD j 0)) = false := fun hj => by
    have : r1 = true := hr1.trans (decide_eq_true (by omega))
    rw [this, Bool.true_and] at h4
    rw [← hr2]; exact h4
   obtain ⟨hw1, he⟩ := run_end (f := fun c => !w.contains c) hpj (.inl hjl) hno hend
   have e : untilS s w ⟨p, true⟩ = ((s.drop p).take (j - p), ⟨j, true⟩) := by
    unfold untilS stopW
    rw [if_pos rfl]
    simp only
    rw [← he, hw1]
   rw [e]
   repeat refine y_ ?_
   refine g_draw0 ([3, 8], [0, 1, 3, 7, 0, 0, 32, 96, 224, 511, 1023], []) 11 rfl ?_
   refine w_ 0 rfl (s_move rfl) ?_
   refine w_ 1 rfl (s_nilCheck rfl) ?_
   refine w_ 2 rfl z_1 ?_
   (refine ga_read 3 rfl z_3 (s_load_blk rfl .del a3_0) rfl rfl rfl z_5 ?_)
   refine w_ 4 rfl (s_move rfl) ?_
   refine w_ 5 rfl (s_move rfl) ?_
   refine w_ 6 rfl (s_nilCheck rfl) ?_
   refine w_ 7 rfl z_1 ?_
   (refine ga_read 8 rfl z_3 (s_load_blk rfl .del a3_1) rfl rfl rfl z_5 ?_)
   refine w_ 9 rfl ((s_slice_str rfl rfl rfl (by omega)).eq (v' := B ((s.drop p).take (j - p))) (congrArg B (cut_word hpj))) ?_
   refine w_ 10 rfl (s_assign rfl) ?_
   refine ga_done z_5 ?_
   repeat refine y_ ?_
   refine g_ret ?_
   exact at_end1 rfl rfl [rdp b s j true] ⟨rfl, rfl⟩ i_
theorem numberS_le {s : Bs} {p : Nat} {ok : Bool} (h : p ≤ s.length) : (numberS s ⟨p, ok⟩).2.p ≤ s.length ∧ p ≤ (numberS s ⟨p, ok⟩).2.p ∧ (numberS s ⟨p, ok⟩).1 ≤ great := by
 have hn : ∀ w, (numS w).getD 0 ≤ great := fun w => by
  cases e : numS w with
  | none => simp
  | some n => exact (numS_some e).2
 refine ⟨?_, ?_, hn _⟩
 ·unfold numberS numW
  split
  ·have h1 := congrArg List.length (takeWhile_split isDig (s.drop p))
   simp only [List.length_append, List.length_drop] at h1
   simp only [dgs]
   omega
  ·simp; omega
 ·unfold numberS
  simp
theorem sc4' (q1 q2 q3 : Bool) : q1 = false ∨ (q1 = true ∧ q2 = false) ∨ (q1 = true ∧ q2 = true ∧ q3 = false) ∨ (q1 = true ∧ q2 = true ∧ q3 = true) := by
 cases q1 <;> cases q2 <;> cases q3 <;> simp
set_option maxRecDepth 8000 in
theorem number_ct (b : Nat) (s : Bs) (p : Nat) (ok : Bool) (hs : s.length ≤ 281474976710656) (hp : p ≤ s.length) : Ct Tryz.prog 55 [Ptr b] Gl [rdp b s p ok] (fun v A => v = .int .u64 ((numberS s ⟨p, ok⟩).1 : Nat) ∧ A = [rdr b s (numberS s ⟨p, ok⟩).2]) := by
 refine ct_enter 82 Tryz.func55 rfl rfl rfl ?_
 intro F hg
 repeat refine x_ ?_
 refine a_ ?_
 repeat refine x_ ?_
 refine m_ ?_
 refine f_ (s_nilCheck rfl) ?_
 refine f_ z_1 ?_
 refine r_ (by exact s_load_blk rfl z_3 a3_1) ?_
 refine a_ ?_
 repeat refine n_ ?_
 refine g_loop (ι := Nat) (fun j => p ≤ j ∧ j ≤ s.length ∧ (ok = false → j = p) ∧ ∀ i, p ≤ i → i < j → isDig (s.getD i 0) = true) (fun j => [(0, Ptr b), (3, .int .i64 (p : Nat))]) (fun j => [rdp b s j ok]) (fun j => s.length - j) p ⟨Nat.le_refl _, hp, fun _ => rfl, fun i h h' => by omega⟩ ?_ ?_ ?_
 ·(repeat (first | exact Sub.nil _ | refine Sub.cons rfl ?_))
 ·intro w hw; exact hw
 rintro j ⟨hpj, hjl, hokj, hno⟩
 obtain ⟨r1, hr1⟩ : ∃ q, q = decide ((j : Int) < (s.length : Nat)) := ⟨_, rfl⟩
 obtain ⟨r2, hr2⟩ : ∃ q, q = decide (((s.getD j 0).toNat : Int) ≥ 48) := ⟨_, rfl⟩
 obtain ⟨r3, hr3⟩ : ∃ q, q = decide ((((s.getD j 0).toNat : Nat) : Int) ≤ 57) := ⟨_, rfl⟩
 have hdg : isDig (s.getD j 0) = (r2 && r3) := by
  rw [hr2, hr3, Bool.eq_iff_iff]
  simp only [isDig, Bool.and_eq_true, decide_eq_true_eq]
  omega
 repeat refine y_ ?_
 refine g_cutK [(0, Ptr b), (3, .int .i64 (p : Nat)), (49, .bool (ok && (r1 && (r2 && r3))))] [rdp b s j ok] ?_ ?_
 ·rcases sc4' ok r1 r2 with rfl | ⟨rfl, rfl⟩ | ⟨rfl, rfl, rfl⟩ | ⟨rfl, rfl, rfl⟩
  all_goals (
   repeat refine y_ ?_
   refine g_draw0 ([3, 8, 12, 20, 24, 32, 36], [0, 1, 3, 7, 15, 31, 63, 127, 255, 31, 543, 1567, 3615, 7711, 16383, 32767, 65535, 131071, 262143, 524287, 1048575, 131071, 2228223, 6422527, 14811135, 33554431, 67108863, 134217727, 268435455, 536870911, 1073741823, 2147483647, 4294967295, 536870911, 9126805503, 26306674687, 60666413055, 137438953471, 274877906943, 549755813887], []) 40 rfl ?_
   refine w_ 0 rfl (s_move rfl) ?_
   refine w_ 1 rfl (s_nilCheck rfl) ?_
   refine w_ 2 rfl z_1 ?_
   (refine ga_read 3 rfl z_3 (s_load_blk rfl .del a3_2) rfl rfl rfl z_5 ?_)
   refine w_ 4 rfl (s_move rfl) ?_
   (first | refine s_ 5 ?_ | refine ga_free_g 5 rfl (s_move rfl) rfl rfl rfl rfl rfl rfl z_5 ?_)
   (first | refine s_ 6 ?_ | refine ga_free_g 6 rfl (s_nilCheck rfl) rfl rfl rfl rfl rfl rfl z_5 ?_)
   (first | refine s_ 7 ?_ | refine ga_free_g 7 rfl z_1 rfl rfl rfl rfl rfl rfl z_5 ?_)
   (first | refine s_ 8 ?_ | refine ga_read_g 8 rfl z_3 (s_load_blk rfl .del a3_1) rfl rfl rfl rfl rfl rfl z_5 ?_)
   (first | refine s_ 9 ?_ | refine ga_free_g 9 rfl (s_move rfl) rfl rfl rfl rfl rfl rfl z_5 ?_)
   (first | refine s_ 10 ?_ | refine ga_free_g 10 rfl (s_nilCheck rfl) rfl rfl rfl rfl rfl rfl z_5 ?_)
   (first | refine s_ 11 ?_ | refine ga_free_g 11 rfl z_1 rfl rfl rfl rfl rfl rfl z_5 ?_)
   (first | refine s_ 12 ?_ | refine ga_read_g 12 rfl z_3 (s_load_blk rfl .del a3_0) rfl rfl rfl rfl rfl rfl z_5 ?_)
   (first | refine s_ 13 ?_ | refine ga_free_g 13 rfl (s_len_str rfl) rfl rfl rfl rfl rfl rfl z_5 ?_)
   (first | refine s_ 14 ?_ | refine ga_free_g 14 rfl ((s_lss rfl rfl).eb hr1) rfl rfl rfl rfl rfl rfl z_5 ?_)
   refine w_ 15 rfl z_4 ?_
   refine w_ 16 rfl (s_move rfl) ?_
   (first | refine s_ 17 ?_ | refine ga_free_g 17 rfl (s_move rfl) rfl rfl rfl rfl rfl rfl z_5 ?_)
   (first | refine s_ 18 ?_ | refine ga_free_g 18 rfl (s_nilCheck rfl) rfl rfl rfl rfl rfl rfl z_5 ?_)
   (first | refine s_ 19 ?_ | refine ga_free_g 19 rfl z_1 rfl rfl rfl rfl rfl rfl z_5 ?_)
   (first | refine s_ 20 ?_ | refine ga_read_g 20 rfl z_3 (s_load_blk rfl .del a3_0) rfl rfl rfl rfl rfl rfl z_5 ?_)
   (first | refine s_ 21 ?_ | refine ga_free_g 21 rfl (s_move rfl) rfl rfl rfl rfl rfl rfl z_5 ?_)
   (first | refine s_ 22 ?_ | refine ga_free_g 22 rfl (s_nilCheck rfl) rfl rfl rfl rfl rfl rfl z_5 ?_)
   (first | refine s_ 23 ?_ | refine ga_free_g 23 rfl z_1 rfl rfl rfl rfl rfl rfl z_5 ?_)
   (first | refine s_ 24 ?_ | refine ga_read_g 24 rfl z_3 (s_load_blk rfl .del a3_1) rfl rfl rfl rfl rfl rfl z_5 ?_)
   (first | refine s_ 25 ?_ | refine ga_free_g 25 rfl ((s_index_str rfl rfl (by have := of_decide_eq_true hr1.symm; omega)).eq (v' := U8 (s.getD j 0)) (by simp only [Int.toNat_natCast])) rfl rfl rfl rfl rfl rfl z_5 ?_)
   (first | refine s_ 26 ?_ | refine ga_free_g 26 rfl ((s_geq rfl rfl).eb hr2) rfl rfl rfl rfl rfl rfl z_5 ?_)
   refine w_ 27 rfl z_4 ?_
   refine w_ 28 rfl (s_move rfl) ?_
   (first | refine s_ 29 ?_ | refine ga_free_g 29 rfl (s_move rfl) rfl rfl rfl rfl rfl rfl z_5 ?_)
   (first | refine s_ 30 ?_ | refine ga_free_g 30 rfl (s_nilCheck rfl) rfl rfl rfl rfl rfl rfl z_5 ?_)
   (first | refine s_ 31 ?_ | refine ga_free_g 31 rfl z_1 rfl rfl rfl rfl rfl rfl z_5 ?_)
   (first | refine s_ 32 ?_ | refine ga_read_g 32 rfl z_3 (s_load_blk rfl .del a3_0) rfl rfl rfl rfl rfl rfl z_5 ?_)
   (first | refine s_ 33 ?_ | refine ga_free_g 33 rfl (s_move rfl) rfl rfl rfl rfl rfl rfl z_5 ?_)
   (first | refine s_ 34 ?_ | refine ga_free_g 34 rfl (s_nilCheck rfl) rfl rfl rfl rfl rfl rfl z_5 ?_)
   (first | refine s_ 35 ?_ | refine ga_free_g 35 rfl z_1 rfl rfl rfl rfl rfl rfl z_5 ?_)
   (first | refine s_ 36 ?_ | refine ga_read_g 36 rfl z_3 (s_load_blk rfl .del a3_1) rfl rfl rfl rfl rfl rfl z_5 ?_)
   (first | refine s_ 37 ?_ | refine ga_free_g 37 rfl ((s_index_str rfl rfl (by have := of_decide_eq_true hr1.symm; omega)).eq (v' := U8 (s.getD j 0)) (by simp only [Int.toNat_natCast])) rfl rfl rfl rfl rfl rfl z_5 ?_)
   (first | refine s_ 38 ?_ | refine ga_free_g 38 rfl ((s_leq rfl rfl).eb hr3) rfl rfl rfl rfl rfl rfl z_5 ?_)
   refine w_ 39 rfl z_4 ?_
   refine ga_done z_5 ?_
   repeat refine y_ ?_)
  all_goals exact at_cut j_ i_
 repeat refine y_ ?_
 refine g_cond rfl (fun h4 => ?_) (fun h4 => ?_)
 ·simp only [Bool.and_eq_true] at h4
  have hj' : j < s.length := by have := of_decide_eq_true (hr1.symm.trans h4.2.1); omega
  repeat refine x_ ?_
  refine m_ ?_
  refine f_ (s_nilCheck rfl) ?_
  refine f_ z_1 ?_
  refine r_ (by exact s_load_blk rfl z_3 a3_1) ?_
  refine f_ ((s_add_i64 rfl rfl (by omega)).eq (v' := .int .i64 ((j + 1 : Nat) : Int)) (by congr 1)) ?_
  refine f_ (s_nilCheck rfl) ?_
  refine f_ z_1 ?_
  (refine gl_store_blkC (pre := [_]) (post := [_]) rfl rfl z_6 z_7 z_7 z_7 ?_)
  repeat refine n_ ?_
  refine at_next (j + 1) ⟨by omega, by omega, (fun x => by rw [x] at h4; exact absurd h4.1 z_8), fun i h h' => ?_⟩ (by omega) ?_ ?_
  ·rcases Nat.lt_succ_iff_lt_or_eq.1 h' with h5 | rfl
   ·exact hno i h h5
   ·rw [hdg, h4.2.2.1, h4.2.2.2]; rfl
  ·(repeat (first | exact Sub.nil _ | refine Sub.cons rfl ?_))
  ·intro w hw; exact hw
 ·have hnw : numW s ⟨p, ok⟩ = (s.drop p).take (j - p) ∧ j = p + (numW s ⟨p, ok⟩).length := by
   unfold numW
   cases ok with
   | false =>
    have := hokj rfl
    subst this
    simp
   | true =>
    have hend : j < s.length → isDig (s.getD j 0) = false := fun hj => by
     have : r1 = true := hr1.trans (decide_eq_true (by omega))
     rw [this, Bool.true_and, Bool.true_and] at h4
     rw [hdg]; exact h4
    obtain ⟨hw1, he⟩ := run_end hpj (.inl hjl) hno hend
    rw [if_pos rfl]
    exact ⟨hw1, he⟩
  have e : numberS s ⟨p, ok⟩ = ((numS ((s.drop p).take (j - p))).getD 0, ⟨j, ok && (numS ((s.drop p).take (j - p))).isSome⟩) := by
   unfold numberS
   rw [← hnw.2, hnw.1]
  rw [e]
  obtain ⟨o, ho⟩ : ∃ o, o = numS ((s.drop p).take (j - p)) := ⟨_, rfl⟩
  rw [← ho]
  have hnc := NumberW_ct ((s.drop p).take (j - p)) (by rw [List.length_take, List.length_drop]; omega)
  rw [← ho] at hnc
  obtain ⟨z, hz⟩ : ∃ z, z = o.isSome := ⟨_, rfl⟩
  unfold numV at hnc
  rw [← hz] at hnc ⊢
  repeat refine y_ ?_
  refine g_draw0 ([3, 8], [0, 1, 3, 7, 0, 0, 32, 96, 224, 511, 1023, 2047, 4095, 4095, 8191, 32767], [10]) 16 rfl ?_
  refine w_ 0 rfl (s_move rfl) ?_
  refine w_ 1 rfl (s_nilCheck rfl) ?_
  refine w_ 2 rfl z_1 ?_
  (refine ga_read 3 rfl z_3 (s_load_blk rfl .del a3_0) rfl rfl rfl z_5 ?_)
  refine w_ 4 rfl (s_move rfl) ?_
  refine w_ 5 rfl (s_move rfl) ?_
  refine w_ 6 rfl (s_nilCheck rfl) ?_
  refine w_ 7 rfl z_1 ?_
  (refine ga_read 8 rfl z_3 (s_load_blk rfl .del a3_1) rfl rfl rfl z_5 ?_)
  refine w_ 9 rfl ((s_slice_str rfl rfl rfl (by omega)).eq (v' := B ((s.drop p).take (j - p))) (congrArg B (cut_word hpj))) ?_
  refine ga_one 10 rfl z_5 ?_
  refine gl_callp rfl hnc (fun h hh hb => hg.le hh) rfl ?_
  refine gl_nil ?_
  refine at_ga (.inl z_5) ?_
  refine w_ 11 rfl (s_move rfl) ?_
  refine w_ 12 rfl (s_extract rfl rfl) ?_
  refine w_ 13 rfl (s_extract rfl rfl) ?_
  refine w_ 14 rfl (s_assign rfl) ?_
  refine w_ 15 rfl (s_assign rfl) ?_
  refine ga_done z_5 ?_
  repeat refine y_ ?_
  cases ok
  all_goals (
   repeat refine x_ ?_
   refine m_ ?_
   refine m_ ?_
   refine f_ (s_nilCheck rfl) ?_
   refine f_ z_1 ?_
   refine r_ (by exact s_load_blk rfl z_3 a3_2) ?_
   refine m_ ?_
   (first | refine gl_guard_no rfl rfl rfl rfl rfl rfl rfl ?_ | (refine v_ ?_; refine m_ ?_))
   refine f_ z_4 ?_
   refine f_ (s_nilCheck rfl) ?_
   refine f_ z_1 ?_
   (refine gl_store_blkC (pre := [_, _]) (post := []) rfl rfl z_6 z_7 z_7 z_7 ?_)
   refine gl_nil ?_
   repeat refine y_ ?_)
  all_goals (
   repeat refine x_ ?_
   refine m_ ?_
   refine a_ ?_
   refine gl_nil ?_
   repeat refine y_ ?_)
  all_goals (refine g_ret ?_; exact at_end1 rfl rfl [rdr b s _] ⟨rfl, rfl⟩ i_)
end Go.Proofs.YtgllpcggdcknaaaGreatDoor.Rp
namespace Go.Proofs.YtgllpcggdcknaaaGreatDoor.Rp
open Go Go.Sl
abbrev blkV (b : Nat) (v : RV) (a : Option Addr) (c : Nat) : As := .blk b (.cells #[.int .i64 v.kind, .int .u64 (v.n : Nat), .slice a v.flags.length c, B v.text, .bool v.part, .int .u64 (v.fr : Nat)] 46)
end Go.Proofs.YtgllpcggdcknaaaGreatDoor.Rp
namespace Go.Proofs.YtgllpcggdcknaaaGreatDoor.Rp
open Go Go.Sl
def RowsP (l : List RV) (v : Value) (A : List As) : Prop := ∃ (a : Option Addr) (c : Nat) (vs : List VM), l = vs.map VM.v ∧ v = .slice a vs.length c ∧ A = .own (.slice a vs.length c) 46 6 (vmV vs) :: vsH vs
theorem perm_last {α : Type} (X Y : α) (Z : List α) : List.Perm (X :: Y :: Z) (Y :: (Z ++ [X])) :=
 (List.Perm.swap Y X Z).trans (List.Perm.cons Y (List.perm_append_singleton X Z).symm)
end Go.Proofs.YtgllpcggdcknaaaGreatDoor.Rp
namespace Go.Proofs.YtgllpcggdcknaaaGreatDoor.Rp
open Go Go.Sl
structure SzV (v : RV) : Prop where
 fl : v.flags.length ≤ big
 fb : ∀ f ∈ v.flags, f.length ≤ big
 fj : (joinS [32] v.flags).length ≤ big
 tx : v.text.length ≤ big
 n : v.n ≤ 18446744073709551615
 fr : v.fr ≤ 18446744073709551615
theorem itemA_len : ∀ k, k ≤ 12 → (itemA k).length ≤ 14 := by decide
theorem litS_len (s : Bs) (h : s.length ≤ big) : (literalS s).length ≤ s.length + 30 := by
 have := digS_len64 (n := s.length) (by unfold big at h; omega)
 unfold literalS
 simp
 omega
end Go.Proofs.YtgllpcggdcknaaaGreatDoor.Rp
namespace Go.Proofs.YtgllpcggdcknaaaGreatDoor.Rp
open Go Go.Sl
theorem rdVM {F : Snap} {w : World} {H : List As} {a : Option Addr} {l : List VM} {q i : Nat} (hw : Hp F w H) (r : RdS F.heap a (vmV l)) (h : q = 6 * i) (hi : i < l.length) : PeekC (hp w) (addO a q) (vmC (l.getD i VM0)) := rec_rdN (C := vmC) (r.le hw.keep) vmC_len (by decide) VM0 h hi
theorem rdVM_some {h : Heap} {a : Option Addr} {l : List VM} {i : Nat} (r : RdS h a (vmV l)) (hi : i < l.length) : ∃ ad, a = some ad := rec_some (C := vmC) r vmC_len (by decide) hi
theorem getVM_mem {l : List VM} {k : Nat} (hk : k < l.length) : l.getD k VM0 ∈ l := by
 rw [List.getD_eq_getElem?_getD, List.getElem?_eq_getElem hk]
 exact List.getElem_mem hk
structure SzR (r : RR) : Prop where
 tag : r.tag.length ≤ big
 code : r.code.length ≤ big
 text : r.text.length ≤ big
 n : r.n ≤ 18446744073709551615
 nl : r.nums.length ≤ big
 ns : ∀ n ∈ r.nums, n ≤ 18446744073709551615
 mod : r.mod ≤ 18446744073709551615
 fl : r.flags.length ≤ big
 fb : ∀ f ∈ r.flags, f.length ≤ big
 fj : (joinS [32] r.flags).length ≤ big
 box : r.box.length ≤ big
 vl : r.values.length ≤ big
 vs : ∀ v ∈ r.values, SzV v
theorem partP_len (v : RV) (h : v.fr ≤ 18446744073709551615) : (partP v).length ≤ 30 := by
 have := digS_len64 h
 unfold partP
 split <;> simp <;> omega
theorem valueP_len {v : RV} (h : SzV v) : (valueP v).length ≤ 1000000000100 := by
 obtain ⟨h1, h2, h3, h4, h5, h6⟩ := h
 have hl := litS_len v.text h4
 have hp := partP_len v h6
 have hd := digS_len64 h5
 unfold big at h3 h4
 unfold valueP
 split
 ·simp
 ·next hk =>
  have hi := itemA_len v.kind.toNat (by omega)
  split
  ·have : (itemA 6).length = 5 := rfl
   unfold printF
   simp
   omega
  split
  ·have : (itemA 9).length = 6 := rfl
   simp
   omega
  split
  ·simp; omega
  ·simp; omega
theorem countP_len {v : RV} (h : SzV v) (hk : 1 ≤ v.kind ∧ v.kind ≤ 5) : (countP v).length ≤ 100 := by
 have hd := digS_len64 h.n
 have hi := itemA_len v.kind.toNat (by omega)
 unfold countP
 simp
 omega
theorem joinS_len {M : Nat} : ∀ {l : List Bs}, (∀ f ∈ l, f.length ≤ M) → (joinS [32] l).length ≤ l.length * (M + 1)
 | [], _ => by simp [joinS]
 | [a], h => by have := h a z_8; simp [joinS]; omega
 | a :: b :: t, h => by
  have h1 := h a z_8
  have h2 := joinS_len (M := M) (l := b :: t) (fun f hf => h f (by simp [hf]))
  rw [join_cons _ _ z_8]
  simp only [List.length_append, List.length_cons, List.length_nil] at h2 ⊢
  rw [Nat.add_mul (t.length + 1) 1]
  omega
end Go.Proofs.YtgllpcggdcknaaaGreatDoor.Rp
namespace Go.Proofs.YtgllpcggdcknaaaGreatDoor.Rp
open Go Go.Sl
theorem form_len (s : Bs) (h : s.length ≤ big) : (formS s).length ≤ 2 * s.length + 30 := by
 have h1 := litS_len s h
 have h2 := esc_len s
 unfold formS
 split
 ·omega
 ·cases hq : quoteS s with
  | none => simp only [Option.getD_none]; omega
  | some q =>
   unfold quoteS at hq
   split at hq
   ·cases hq
    simp only [Option.getD_some, List.length_append, List.length_cons, List.length_nil]
    omega
   ·cases hq
theorem okR_x {r : RR} (h : ¬(1 ≤ r.kind ∧ r.kind ≤ 14)) : okR r = false := by
 unfold okR
 rw [if_neg (by omega), if_neg (by omega), if_neg (by omega), if_neg (by omega), if_neg (by omega), if_neg (by omega), if_neg (by omega), if_neg (by omega), if_neg (by omega)]
end Go.Proofs.YtgllpcggdcknaaaGreatDoor.Rp
namespace Go.Proofs.YtgllpcggdcknaaaGreatDoor.Rp
open Go Go.Sl
theorem stat_len : ∀ k, (statW.getD k []).length ≤ 3
 | 0 => by decide
 | 1 => by decide
 | 2 => by decide
 | 3 => by decide
 | n + 4 => by simp [statW]
theorem rdN {F : Snap} {w : World} {H : List As} {a : Option Addr} {l : List Nat} (hw : Hp F w H) (r : RdS F.heap a (nV l)) {q i : Nat} (h : q = i) (hi : i < l.length) : PeekC (hp w) (addO a q) [.int .u64 (l.getD i 0 : Nat)] :=
 peek_rd hw r z_8 (fun j u hu => by
  match j, hu with
  | 0, hu =>
   simp at hu; subst hu h
   simp [nV, hi])
theorem rdN_some {h : Heap} {a : Option Addr} {l : List Nat} {i : Nat} (r : RdS h a (nV l)) (hi : i < l.length) : ∃ ad, a = some ad := by
 obtain ⟨ad, e, _⟩ := r (by intro e; have := congrArg List.length e; rw [nV_len] at this; simp at this; subst this; simp at hi)
 exact ⟨ad, e⟩
theorem getN_mem {l : List Nat} {k : Nat} (hk : k < l.length) : l.getD k 0 ∈ l := by
 rw [List.getD_eq_getElem?_getD, List.getElem?_eq_getElem hk]
 exact List.getElem_mem hk
theorem takeN {l : List Nat} {k : Nat} (hk : k < l.length) : l.take (k + 1) = l.take k ++ [l.getD k 0] := by
 rw [List.take_add_one, List.getD_eq_getElem?_getD, List.getElem?_eq_getElem hk]
 rfl
theorem numsP_len : ∀ {l : List Nat}, (∀ n ∈ l, n ≤ 18446744073709551615) → (numsP l).length ≤ l.length * 21
 | [], _ => by simp [numsP]
 | a :: t, h => by
  have h1 := digS_len64 (h a z_8)
  have h2 := numsP_len (l := t) (fun n hn => h n (by simp [hn]))
  unfold numsP at h2 ⊢
  simp only [List.flatMap_cons, List.length_append, List.length_cons]
  omega
end Go.Proofs.YtgllpcggdcknaaaGreatDoor.Rp
