import Derived.Test.YtodcghipfolejaaGreatJx6
import Derived.Test.YtodcghipfolejaaGreatJx5
set_option linter.unusedVariables false
set_option linter.unusedSimpArgs false
namespace Go.Proofs.YtodcghipfolejaaGreat
open Go Go.Sl Go.RowKit
def BackP (g : LM) (i : Int) (v : Value) (A : List As) : Prop := ∃ bi bg, v = .func (.func 113) #[] #[Ptr bi, Ptr bg] ∧ A = [.blk bi (.cells #[.int .u64 i] 34), .blk bg (.cells (gcells g) 46)]
theorem not_more {pre : List Yd} {x : Yd} (h : ∀ y ∈ pre, isC y.1.2 = false) (hx : isC x.1.2 = false) : ∀ y ∈ pre ++ [x], isC y.1.2 = false := fun y hy => by
 rw [List.mem_append] at hy
 rcases hy with hy | hy
 ·exact h y hy
 ·simp at hy; subst hy; exact hx
theorem with_end {F : Fence} {n : Nat} {P : Program} {Q : Exit → Act → World → Prop} {c : Code} {a : Act} {w : World} (X : (Exit → Act → World → Prop) → Prop) (hX : X Q) (h : X Q → c.wpIn F n P Q a w) : c.wpIn F n P Q a w := h hX
theorem back_ct (g : LM) (i : Int) : Ct Tryz.prog 86 [g.v, .int .u64 i] (fun _ => True) [] (BackP g i) := by
 refine ct_enter 6 Tryz.func86 rfl rfl rfl ?_
 intro F hF
 repeat refine x_ ?_
 refine gl_boxA rfl rfl ?_; intro g2
 refine gl_box rfl rfl ?_; intro g3
 refine a_ ?_
 repeat refine x_ ?_
 refine f_ (s_makeFunc rfl rfl) ?_
 refine a_ ?_
 repeat refine n_ ?_
 refine g_ret ?_
 exact at_end1 rfl rfl _ ⟨_, _, rfl, rfl⟩ i_
theorem conf_down {g : LM} {m : Nat} : ∀ {k : Nat}, k ≤ m → (∀ j, j < k → isC (backAt g m j).2 = false) → confN g m = confN g (m - k)
 | 0, _, _ => rfl
 | k + 1, hk, h => by
  rw [conf_down (k := k) (by omega) (fun j hj => h j (by omega))]
  have h1 := h k (by omega)
  rw [backAt] at h1
  simp only at h1
  rw [show m - k = (m - (k + 1)) + 1 by omega, confN, if_neg]
  rw [show m - (k + 1) = m - k - 1 by omega, h1]; simp
theorem conf_hit {g : LM} {m k : Nat} (hk : k < m) (h : ∀ j, j < k → isC (backAt g m j).2 = false) (h1 : isC (backAt g m k).2 = true) : confN g m = (readL (backAt g m k).2.2.2, (backAt g m k).1) := by
 rw [conf_down (Nat.le_of_lt hk) h]
 rw [backAt] at h1 ⊢
 simp only at h1 ⊢
 rw [show m - k = (m - k - 1) + 1 by omega, confN, if_pos (by simpa using h1)]
 refine Prod.ext (by simp) ?_
 simp only
 omega
theorem back_all {g : LM} {hd : g.dat} {m k : Nat} {p : Yd → Prop} (h : ∀ x ∈ backL g hd m k, p x) : ∀ j, j < k → p (backE g hd m j) := fun j hj => h _ (by rw [backL, List.mem_map]; exact ⟨j, by simpa using hj, rfl⟩)
theorem conf_none {g : LM} {hd : g.dat} {i : Int} (h : ∀ x ∈ backL g hd (backN g i) (backN g i), isC x.1.2 = false) : confAt g i = (g.conf, g.base) := by
 rw [confAt]
 have := conf_down (g := g) (m := backN g i) (Nat.le_refl _) (fun j hj => back_all h j hj)
 rw [Nat.sub_self] at this
 exact this
theorem conf_some {g : LM} {hd : g.dat} {i : Int} {k : Nat} (hk : k ≤ backN g i) {q : List Yd} {x : Yd} (he : q ++ [x] = backL g hd (backN g i) k) (hq : ∀ y ∈ q, isC y.1.2 = false) (hx : isC x.1.2 = true) : confAt g i = (readL x.1.2.2.2, x.1.1) := by
 have hl := congrArg List.length he
 rw [backL_length] at hl
 simp at hl
 obtain ⟨k', rfl⟩ : ∃ k', k = k' + 1 := ⟨q.length, hl.symm⟩
 rw [backL_succ] at he
 have h2 := List.append_inj' he rfl
 obtain ⟨rfl, h3⟩ := h2
 have h4 : x = backE g hd (backN g i) k' := by simpa using h3
 subst h4
 exact conf_hit hk (fun j hj => back_all hq j hj) hx
def memH (b6 b7 : Nat) (a : Option Addr) (l : List Int) (c : Nat) (at_ : Int) : List As := [.blk b6 (.cells #[.slice a l.length c] 36), .blk b7 (.cells #[.int .u64 at_] 34), OwnC a l c]
def MemP (r : List Int × Int) (v : Value) (A : List As) : Prop := ∃ a c, v = .tuple #[.slice a r.1.length c, .int .u64 r.2] ∧ A = [OwnC a r.1 c]
set_option maxRecDepth 8000 in
set_option maxHeartbeats 4000000 in
theorem tailMembers_ct (g : LM) (i : Int) (hf : g.fit) (hd : g.dat) (hi : 0 ≤ i ∧ i ≤ 18446744073709551615) : Ct Tryz.prog 45 [g.v, .int .u64 i] (fun h => RdS h g.ca (intsV g.conf) ∧ RdS h g.la (enV g.l)) [] (MemP (confAt g i)) := by
 intro w0 bs hs hnd hpre
 have hbs : bs = [] := hs
 subst hbs
 rw [hpBut_nil] at hpre
 refine (callsIn_wide (n := 5)).1 (callsIn_of_wp_marks Tryz.func45 rfl trivial ?_ rfl)
 have hrc : RdS (snap w0).heap g.ca (intsV g.conf) := by rw [snap_heap]; exact hpre.1
 have hre : RdS (snap w0).heap g.la (enV g.l) := by rw [snap_heap]; exact hpre.2
 refine (?_ : GN none 5 Tryz.prog 37 _ _ (argLoc 0 [g.v, .int .u64 i]) (snap w0) []) _ _ (fits_enter 37 _ rfl) (hp_snap w0)
 refine gn_seq ?_
 refine gn_plain ?_
 repeat refine x_ ?_
 refine gl_boxA rfl rfl ?_; intro g2
 refine a_ ?_
 refine a_ ?_
 repeat refine n_ ?_
 refine at_gn ?_
 refine gn_scope ?_
 have h4 := hf.cl
 refine gn_cutE (ι := Nat × Nat × Option Addr × Nat) (fun x => [(1, .int .u64 i), (2, Ptr g2), (6, Ptr x.1), (7, Ptr x.2.1)]) (fun x => [.blk x.1 (.cells #[.slice x.2.2.1 g.conf.length x.2.2.2] 36), .blk x.2.1 (.cells #[.int .u64 g.base] 34), OwnC x.2.2.1 g.conf x.2.2.2, .blk g2 (.cells (gcells g) 46)]) ?_ ?_
 ·repeat refine y_ ?_
  refine g_draw0 ([1, 4], [0, 1, 3, 0, 8, 0, 0, 103, 255], [2, 5, 6, 7, 8]) 9 rfl ?_
  refine w_ 0 rfl z_1 ?_
  (refine ga_read 1 rfl z_2 (s_load_blk rfl .del z_7) rfl rfl rfl z_4 ?_)
  refine w_ 3 rfl z_1 ?_
  (refine ga_read 4 rfl z_2 (s_load_blk rfl .del z_7) rfl rfl rfl z_4 ?_)
  refine ga_three 2 5 6 rfl rfl rfl z_4 ?_ ?_ ?_
  refine gl_call _ rfl (CloneI_ct _ _ _ (by omega)) i_ (fun h hh hb => by first | trivial | (exact RdS.le (by assumption) hh) | (refine ⟨?_, ?_⟩ <;> (first | exact RdS.le (by assumption) hh | (obtain ⟨bs, hb⟩ := hb; exact Sat.rd hb (z_2)))) | (refine ⟨?_, ?_, ?_⟩ <;> (first | exact RdS.le (by assumption) hh | (obtain ⟨bs, hb⟩ := hb; exact Sat.rd hb (z_2))))) rfl ?_; rintro v A ⟨a14, c14, rfl, rfl⟩
  refine gl_nil ?_
  refine at_ga (.inr (by exact keeps_of k_)) ?_
  refine ga_two 5 6 rfl rfl z_4 ?_ ?_
  refine gl_alloc rfl ?_; intro g6
  refine gl_nil ?_
  refine at_ga (.inr (by exact keeps_of k_)) ?_
  refine ga_one 6 rfl z_4 ?_
  refine gl_alloc rfl ?_; intro g7
  refine gl_nil ?_
  refine at_ga (.inr (by exact keeps_of k_)) ?_
  refine ga_one 7 rfl z_4 ?_
  (refine gl_store_blkC (pre := []) (post := []) rfl rfl z_5 z_7 z_7 z_7 ?_)
  refine gl_nil ?_
  refine at_ga (.inr (by exact keeps_of k_)) ?_
  refine ga_one 8 rfl z_4 ?_
  (refine gl_store_blkC (pre := []) (post := []) rfl rfl z_5 z_7 z_7 z_7 ?_)
  refine gl_nil ?_
  refine at_ga (.inl z_4) ?_
  refine ga_done z_4 ?_
  rotate_left 1
  refine gl_alloc rfl ?_; intro g7
  refine gl_nil ?_
  refine at_ga (.inr (by exact keeps_of k_)) ?_
  refine ga_one 5 rfl z_4 ?_
  refine gl_alloc rfl ?_; intro g6
  refine gl_nil ?_
  refine at_ga (.inr (by exact keeps_of k_)) ?_
  refine ga_one 7 rfl z_4 ?_
  (refine gl_store_blkC (pre := []) (post := []) rfl rfl z_5 z_7 z_7 z_7 ?_)
  refine gl_nil ?_
  refine at_ga (.inr (by exact keeps_of k_)) ?_
  refine ga_one 8 rfl z_4 ?_
  (refine gl_store_blkC (pre := []) (post := []) rfl rfl z_5 z_7 z_7 z_7 ?_)
  refine gl_nil ?_
  refine at_ga (.inl z_4) ?_
  refine ga_done z_4 ?_
  rotate_left 1
  refine gl_alloc rfl ?_; intro g6
  refine gl_nil ?_
  refine at_ga (.inr (by exact keeps_of k_)) ?_
  refine ga_two 2 6 rfl rfl z_4 ?_ ?_
  refine gl_call _ rfl (CloneI_ct _ _ _ (by omega)) i_ (fun h hh hb => by first | trivial | (exact RdS.le (by assumption) hh) | (refine ⟨?_, ?_⟩ <;> (first | exact RdS.le (by assumption) hh | (obtain ⟨bs, hb⟩ := hb; exact Sat.rd hb (z_2)))) | (refine ⟨?_, ?_, ?_⟩ <;> (first | exact RdS.le (by assumption) hh | (obtain ⟨bs, hb⟩ := hb; exact Sat.rd hb (z_2))))) rfl ?_; rintro v A ⟨a14, c14, rfl, rfl⟩
  refine gl_nil ?_
  refine at_ga (.inr (by exact keeps_of k_)) ?_
  refine ga_one 6 rfl z_4 ?_
  refine gl_alloc rfl ?_; intro g7
  refine gl_nil ?_
  refine at_ga (.inr (by exact keeps_of k_)) ?_
  refine ga_one 7 rfl z_4 ?_
  (refine gl_store_blkC (pre := []) (post := []) rfl rfl z_5 z_7 z_7 z_7 ?_)
  refine gl_nil ?_
  refine at_ga (.inr (by exact keeps_of k_)) ?_
  refine ga_one 8 rfl z_4 ?_
  (refine gl_store_blkC (pre := []) (post := []) rfl rfl z_5 z_7 z_7 z_7 ?_)
  refine gl_nil ?_
  refine at_ga (.inl z_4) ?_
  refine ga_done z_4 ?_
  rotate_left 1
  refine gl_alloc rfl ?_; intro g7
  refine gl_nil ?_
  refine at_ga (.inr (by exact keeps_of k_)) ?_
  refine ga_one 2 rfl z_4 ?_
  refine gl_call _ rfl (CloneI_ct _ _ _ (by omega)) i_ (fun h hh hb => by first | trivial | (exact RdS.le (by assumption) hh) | (refine ⟨?_, ?_⟩ <;> (first | exact RdS.le (by assumption) hh | (obtain ⟨bs, hb⟩ := hb; exact Sat.rd hb (z_2)))) | (refine ⟨?_, ?_, ?_⟩ <;> (first | exact RdS.le (by assumption) hh | (obtain ⟨bs, hb⟩ := hb; exact Sat.rd hb (z_2))))) rfl ?_; rintro v A ⟨a14, c14, rfl, rfl⟩
  refine gl_nil ?_
  refine at_ga (.inr (by exact keeps_of k_)) ?_
  refine ga_one 7 rfl z_4 ?_
  (refine gl_store_blkC (pre := []) (post := []) rfl rfl z_5 z_7 z_7 z_7 ?_)
  refine gl_nil ?_
  refine at_ga (.inr (by exact keeps_of k_)) ?_
  refine ga_one 8 rfl z_4 ?_
  (refine gl_store_blkC (pre := []) (post := []) rfl rfl z_5 z_7 z_7 z_7 ?_)
  refine gl_nil ?_
  refine at_ga (.inl z_4) ?_
  refine ga_done z_4 ?_
  rotate_left 1
  refine gl_alloc rfl ?_; intro g7
  refine gl_nil ?_
  refine at_ga (.inr (by exact keeps_of k_)) ?_
  refine ga_two 2 5 rfl rfl z_4 ?_ ?_
  refine gl_call _ rfl (CloneI_ct _ _ _ (by omega)) i_ (fun h hh hb => by first | trivial | (exact RdS.le (by assumption) hh) | (refine ⟨?_, ?_⟩ <;> (first | exact RdS.le (by assumption) hh | (obtain ⟨bs, hb⟩ := hb; exact Sat.rd hb (z_2)))) | (refine ⟨?_, ?_, ?_⟩ <;> (first | exact RdS.le (by assumption) hh | (obtain ⟨bs, hb⟩ := hb; exact Sat.rd hb (z_2))))) rfl ?_; rintro v A ⟨a14, c14, rfl, rfl⟩
  refine gl_nil ?_
  refine at_ga (.inr (by exact keeps_of k_)) ?_
  refine ga_one 5 rfl z_4 ?_
  refine gl_alloc rfl ?_; intro g6
  refine gl_nil ?_
  refine at_ga (.inr (by exact keeps_of k_)) ?_
  refine ga_one 7 rfl z_4 ?_
  (refine gl_store_blkC (pre := []) (post := []) rfl rfl z_5 z_7 z_7 z_7 ?_)
  refine gl_nil ?_
  refine at_ga (.inr (by exact keeps_of k_)) ?_
  refine ga_one 8 rfl z_4 ?_
  (refine gl_store_blkC (pre := []) (post := []) rfl rfl z_5 z_7 z_7 z_7 ?_)
  refine gl_nil ?_
  refine at_ga (.inl z_4) ?_
  refine ga_done z_4 ?_
  rotate_left 1
  refine gl_alloc rfl ?_; intro g6
  refine gl_nil ?_
  refine at_ga (.inr (by exact keeps_of k_)) ?_
  refine ga_one 2 rfl z_4 ?_
  refine gl_call _ rfl (CloneI_ct _ _ _ (by omega)) i_ (fun h hh hb => by first | trivial | (exact RdS.le (by assumption) hh) | (refine ⟨?_, ?_⟩ <;> (first | exact RdS.le (by assumption) hh | (obtain ⟨bs, hb⟩ := hb; exact Sat.rd hb (z_2)))) | (refine ⟨?_, ?_, ?_⟩ <;> (first | exact RdS.le (by assumption) hh | (obtain ⟨bs, hb⟩ := hb; exact Sat.rd hb (z_2))))) rfl ?_; rintro v A ⟨a14, c14, rfl, rfl⟩
  refine gl_nil ?_
  refine at_ga (.inr (by exact keeps_of k_)) ?_
  refine ga_one 7 rfl z_4 ?_
  (refine gl_store_blkC (pre := []) (post := []) rfl rfl z_5 z_7 z_7 z_7 ?_)
  refine gl_nil ?_
  refine at_ga (.inr (by exact keeps_of k_)) ?_
  refine ga_one 8 rfl z_4 ?_
  (refine gl_store_blkC (pre := []) (post := []) rfl rfl z_5 z_7 z_7 z_7 ?_)
  refine gl_nil ?_
  refine at_ga (.inl z_4) ?_
  refine ga_done z_4 ?_
  rotate_left 1
  all_goals (repeat refine y_ ?_)
  all_goals exact at_cutE (_, _, _, _) j_ (fun w hw => hw.perm (perm_up z_2 (perm_up z_2 (perm_up z_2 (perm_up z_2 (.refl _))))))
 rintro ⟨b6, b7, ca, cc⟩
 refine gn_seq ?_
 refine gn_label ?_
 refine at_gn ?_
 refine gn_seq ?_
 refine gn_seq ?_
 refine gn_plain ?_
 repeat refine x_ ?_
 refine r_ z_14 ?_
 refine m_ ?_
 refine gl_call _ rfl (back_ct g i) i_ (fun _ _ _ => trivial) rfl ?_; rintro v A ⟨bi, bg, rfl, rfl⟩
 repeat refine n_ ?_
 refine at_gn ?_
 refine gn_block ?_
 intro a w1 hfa hw1
 have hfa' := hfa.sub (L' := [(6, Ptr b6), (7, Ptr b7), (19, .func (.func 113) #[] #[Ptr bi, Ptr bg])]) j_
 have hw2 : Hp (snap w0) w1 ([.blk b6 (.cells #[.slice ca g.conf.length cc] 36), .blk b7 (.cells #[.int .u64 g.base] 34), OwnC ca g.conf cc] ++ [.blk bi (.cells #[.int .u64 i] 34), .blk bg (.cells (gcells g) 46)]) := (hw1.perm (perm_up z_2 (perm_up z_2 (perm_up z_2 (perm_up z_2 (perm_up z_2 (.refl _))))))).left (R := [_])
 obtain ⟨bc, br, hsc, hsr, hnd2, hfr⟩ := hp_split hw2
 have hF0 : Hp (snapBut w1 bc) w1 _ := Hp.start hsc (List.nodup_append.1 hnd2).1
 have hle := but_le hw2 hfr
 have hBi := but_blk hsr hnd2 (b := bi) (o := .cells #[.int .u64 i] 34) (by simp)
 have hBg := but_blk hsr hnd2 (b := bg) (o := .cells (gcells g) 46) (by simp)
 have hBlt : ∀ b, ((snapBut w1 bc).heap b).isSome = true → b < w1.heap.size := but_lt
 have hback0 : ∀ W' A, Hp (snapBut w1 bc) W' A → Hp (snap w0) W' A := fun W' A k => (Hp.back hw2 hsc hsr hnd2 hfr k).left (R := [_, _])
 obtain ⟨F1, hF1⟩ : ∃ F, F = snapBut w1 bc := ⟨_, rfl⟩
 rw [← hF1] at hF0 hle hBi hBg hBlt hback0
 have hre1 : RdS F1.heap g.la (enV g.l) := hre.le hle
 obtain ⟨m, hm⟩ : ∃ m, m = backN g i := ⟨_, rfl⟩
 refine with_end (fun Q => ∀ (D : Nat) (W : World) (r : List Int × Int) (ra : Option Addr) (rc : Nat), w1.heap.size ≤ D → r = confAt g i → Hp F1 W (memH b6 b7 ra r.1 rc r.2) → W.heap[D]? = some (.deferred (some [])) → Q .normal { a with defers := { target := .collected D, args := #[] } :: a.defers } W) ?_ (fun hend => ?_)
 ·intro D W r ra rc hD hr hwW hK
  obtain ⟨bs, hs, hst, hback⟩ := hp_round hwW
  have hDn : D ∉ bs := fun hb => by
   obtain ⟨o, h5, h6⟩ := hs.cells rfl D hb
   have h5' : W.heap[D]? = some o := h5
   rw [hK] at h5'; cases h5'; cases h6
  have hKb : (snapBut W bs).heap D = some (.deferred (some [])) := by simp [snapBut, hpBut, hDn, hK]
  rw [adD_fits hfa' _]
  refine wpIn_seq ?_
  refine draw_adD (Hk := memH b6 b7 ra r.1 rc r.2) (K := fun a' w' => Fits 37 [(4, .slice ra r.1.length rc), (5, .int .u64 r.2)] a' ∧ Hp (snapBut W bs) w' (memH b6 b7 ra r.1 rc r.2)) [_] ([0, 1], [], []) (nn := 4) rfl ?_ ?_ (hfa'.sub (L' := [(6, Ptr b6), (7, Ptr b7)]) j_) hst
  ·unfold memH
   (refine ga_read 0 rfl z_2 (s_load_blk rfl .del z_7) rfl rfl rfl z_4 ?_)
   (refine ga_read 1 rfl z_2 (s_load_blk rfl .del z_7) rfl rfl rfl z_4 ?_)
   refine w_ 2 rfl (s_assign rfl) ?_
   refine w_ 3 rfl (s_assign rfl) ?_
   refine ga_done z_4 ?_
   exact at_cut j_ i_
  ·rintro a9 w9 ⟨hf9, hw9⟩
   have hK9 : w9.heap[D]? = some (.deferred (some [])) := hw9.keep D _ hKb
   have hw8 := hp_grown (hback _ _ hw9) rfl hBlt (grownBy_putObj' w9 D (.deferred none)) (fun r e => by cases e; exact ⟨hD, _, hK9, rfl⟩)
   refine wpIn_ret ?_
   have hb := (leaves_mark (n := 5) (P := Tryz.prog) (fn := Tryz.f45) (R := fun e w' => ∃ v A, e = .returned v ∧ MemP (confAt g i) v A ∧ Hp (snapBut w0 []) w' A) (a := adD [{ target := .collected D, args := #[] }] a9) (w := w9) (D := D) (ds := []) (by show a9.defers ++ _ = _; rw [hf9.defers]; rfl) rfl hK9 ⟨_, results_tmp2 rfl _ _ _, _, [OwnC ra r.1 rc], rfl, ⟨ra, rc, by rw [← hr, show (adD _ a9).tmps.getD 4 undef = .slice ra r.1.length rc from hf9.eval (x := .tmp 4) rfl, show (adD _ a9).tmps.getD 5 undef = .int .u64 r.2 from hf9.eval (x := .tmp 5) rfl], by rw [← hr]⟩, (hback0 _ _ hw8).drop.drop⟩).2
   exact hb
 refine wpIn_rangeFunc_ownH (F := Fence.wide) (encs := encD) (Kp := KpG F1.heap) (S := fun ys => ys = backL g hd (backN g i) (backN g i)) (Sp := fun pre => ∃ k, k ≤ backN g i ∧ pre = backL g hd (backN g i) k) (N := backN g i) (w0 := w1) rfl (by decide) (hfa'.eval (x := .tmp 19) rfl) trivial (fun _ _ => rfl) (back_stops g i hf hd hi bi bg w1 F1.heap hF0.keep hBi hBg hre1 4) (fun h k x => k (h x)) (fun W l o o' hl hlo _ _ hle b ob hb => (World.putObj_heap_other (by have := hBlt b (by rw [hb]; rfl); omega)).trans (hle b ob hb)) (Below.refl _ w1) (fun x => rfl)
  (fun pre W => Hp F1 W (memH b6 b7 ca g.conf cc g.base) ∧ ∀ x ∈ pre, isC x.1.2 = false)
  (fun c pre W => c = .exit 0 ∧ ∃ q x, pre = q ++ [x] ∧ (∀ y ∈ q, isC y.1.2 = false) ∧ isC x.1.2 = true ∧ ∃ ra rc, Hp F1 W (memH b6 b7 ra (readL x.1.2.2.2) rc x.1.1))
  (fun s W W' row hs hg hr => ⟨hp_grown hs.1 rfl hBlt hg hr, hs.2⟩)
  (fun c s W W' row hs hg hr => ⟨hs.1, by obtain ⟨_, q, x, h5, h6, h7, ra, rc, h8⟩ := hs; exact ⟨q, x, h5, h6, h7, ra, rc, hp_grown h8 rfl hBlt hg hr⟩⟩)
  ⟨hF0, by simp⟩
  (fun x a' W => ∃ b9, Fits 37 [(8, .int .u64 x.1.1), (9, Ptr b9), (6, Ptr b6), (7, Ptr b7)] a' ∧ Hp F1 W (.blk b9 (.cells (entC x.1.2).toArray 51) :: memH b6 b7 ca g.conf cc g.base))
  (fun x a' s W W' row hs hg hr => by obtain ⟨b9, h5, h6⟩ := hs; exact ⟨b9, h5, hp_grown h6 rfl hBlt hg hr⟩)
  ?_ ?_ ?_ ?_
 ·intro l pre x W K hI hK
  obtain ⟨bs, hs, hst, hback⟩ := hp_round hI.1
  refine (?_ : GN (some l) 3 Tryz.prog 37 _ _ [(21, entV x.1.2), (20, .int .u64 x.1.1), (6, Ptr b6), (7, Ptr b7), (19, .func (.func 113) #[] #[Ptr bi, Ptr bg])] (snapBut W bs) _) _ W (by simpa [encD, encY] using fits_round2 (p := 20) (q := 21) hfa' rfl rfl (.int .u64 x.1.1) (entV x.1.2)) hst
  refine gn_seq ?_
  refine gn_region (.inr (by intro o ho c; simp at ho; rcases ho with rfl; simp)) ?_
  refine a_ ?_
  refine gl_nil ?_
  refine at_gn ?_
  refine gn_region (.inr (by intro o ho c; simp at ho; rcases ho with rfl | rfl <;> simp)) ?_
  refine gl_allocA rfl ?_; intro g9
  (refine gl_store_blkW rfl rfl z_5 z_7 z_7 z_3 ?_)
  refine gl_nil ?_
  unfold At
  intro a' W' hf' hw'
  exact hK a' W' (hp_keeps hs rfl hw' (fun b hb => by rw [hs.blks] at hb; simp only [List.flatMap_cons, List.mem_append]; exact .inr hb) _) (fun _ => (hback _ _ hw').keep) ⟨hback _ _ hw'.drop, hI.2⟩ ⟨_, hf'.sub j_, hback _ _ hw'⟩
 ·intro l pre x a' W hl hrec hI hA hlen
  obtain ⟨b9, hf9, hw9⟩ := hA
  obtain ⟨bs, hs, hst, hback⟩ := hp_round hw9
  refine (?_ : GN (some l) 3 Tryz.prog 37 _ _ _ (snapBut W bs) _) a' W hf9 hst
  refine gn_block ?_
  refine gn_seq ?_
  refine gn_seq ?_
  refine gn_region (.inr (by intro o ho c; simp at ho; rcases ho with rfl | rfl | rfl <;> simp)) ?_
  refine f_ z_1 ?_
  refine r_ z_10 ?_
  refine f_ (s_neq rfl rfl) ?_
  refine gl_nil ?_
  refine at_gn ?_
  refine gn_cond rfl (fun h => ?_) (fun h => ?_)
  ·refine gn_exit ?_
   unfold At
   intro a2 w2 hf2 hw2
   change _ ∧ _ ∧ _
   exact ⟨hp_keeps hs rfl hw2 (fun b hb => by rw [hs.blks] at hb; exact hb) _, fun _ => (hback _ _ hw2).keep, hback _ _ hw2.drop, not_more hI.2 (by rw [isC]; simp at h; simp [h])⟩
  ·refine gn_skip ?_
   refine at_gn ?_
   refine gn_seq ?_
   refine gn_region (.inr (by intro o ho c; simp at ho; rcases ho with rfl | rfl | rfl | rfl | rfl | rfl | rfl | rfl <;> simp)) ?_
   refine f_ z_1 ?_
   refine r_ z_10 ?_
   refine gl_call _ rfl (Read_ct x.1.2.2.2 (Nat.le_trans x.2 (by decide))) i_ (fun _ _ _ => trivial) rfl ?_; rintro v A ⟨ra, rc, rfl, rfl⟩
   refine m_ ?_
   refine f_ (s_extract rfl rfl) ?_
   refine f_ (s_extract rfl rfl) ?_
   refine a_ ?_
   refine a_ ?_
   refine gl_nil ?_
   refine at_gn ?_
   refine gn_seq ?_
   refine gn_region (.inr (by intro o ho c; simp at ho; rcases ho with rfl | rfl <;> simp)) ?_
   refine m_ ?_
   refine f_ ((s_eql rfl rfl).eq (congrArg Value.bool (readE_ok x.1.2.2.2))) ?_
   refine gl_nil ?_
   refine at_gn ?_
   refine gn_cond rfl (fun h2 => ?_) (fun h2 => ?_)
   ·refine gn_seq ?_
    refine gn_region (.inr (by intro o ho c; simp at ho; rcases ho with rfl | rfl | rfl | rfl <;> simp)) ?_
    refine m_ ?_
    refine m_ ?_
    (refine gl_store_blkC (pre := []) (post := []) rfl rfl z_5 z_7 z_7 z_7 ?_)
    (refine gl_store_blkC (pre := []) (post := []) rfl rfl z_5 z_7 z_7 z_7 ?_)
    refine gl_nil ?_
    refine at_gn ?_
    refine gn_exit ?_
    unfold At
    intro a2 w2 hf2 hw2
    change _ ∧ _ ∧ _
    refine ⟨hp_keeps hs rfl hw2 (fun b hb => by rw [hs.blks] at hb; simp only [memH, List.flatMap_cons, List.mem_append, blks_blk] at hb ⊢; exact .inr hb) _, rfl, pre, x, rfl, hI.2, by rw [isC, h2]; simp at h; simp [h], ra, rc, ?_⟩
    exact ((hback _ _ hw2).perm (H' := memH b6 b7 ra (readL x.1.2.2.2) rc x.1.1 ++ [_, _]) (perm_up z_2 (perm_up z_2 (perm_up z_2 (.refl _))))).left
   ·refine gn_skip ?_
    unfold At
    intro a2 w2 hf2 hw2
    change _ ∧ _ ∧ _
    exact ⟨hp_keeps hs rfl hw2 (fun b hb => by rw [hs.blks] at hb; simp only [List.cons_append, List.nil_append, List.flatMap_cons, List.mem_append] at hb ⊢; exact .inr hb) _, fun _ => (hback _ _ hw2).keep, hback _ _ hw2.drop.drop, not_more hI.2 (by rw [isC, h2]; simp)⟩
 ·intro D xs W hD hxs hI hK
  subst hxs
  have hr := conf_none hI.2
  exact hend D W _ ca cc hD hr.symm hI.1 hK
 ·intro D c pre W hD hpre2 hIx hK
  obtain ⟨k, hk, rfl⟩ := hpre2
  obtain ⟨rfl, q, x, he, hq, hx, ra, rc, hwW⟩ := hIx
  have hr := conf_some hk he.symm hq hx
  exact wpIn_exit (hend D W _ ra rc hD hr.symm hwW hK)
end Go.Proofs.YtodcghipfolejaaGreat
namespace Go.Proofs.YtodcghipfolejaaGreat
open Go Go.Sl
theorem lastI_rng {g : LM} (hf : g.fit) : 0 ≤ lastI g ∧ lastI g ≤ 18446744073709551615 := by
 have h1 := hf.lo
 have h2 := hf.hi
 have h3 := hf.len
 unfold lastI; omega
theorem Conf_ct (g : LM) (hf : g.fit) (hd : g.dat) : Ct Tryz.prog 29 [g.v] g.ok [] (MemP (confAt g (lastI g))) := by
 refine ct_enter 10 Tryz.func29 rfl rfl rfl ?_
 intro F hr
 repeat refine x_ ?_
 refine gl_boxA rfl rfl ?_; intro g1
 refine a_ ?_
 refine a_ ?_
 repeat refine n_ ?_
 refine g_draw0 ([0, 1], [0, 0, 2, 7, 15, 15, 63, 127], [2, 3]) 8 rfl ?_
 (refine ga_read 0 rfl z_2 (s_load_blkW rfl .del z_7) rfl rfl rfl z_4 ?_)
 (refine ga_read 1 rfl z_2 (s_load_blkW rfl .del z_7) rfl rfl rfl z_4 ?_)
 refine ga_one 2 rfl z_4 ?_
 refine gl_callp rfl (end_ct g hf) (fun _ _ _ => trivial) rfl ?_
 refine gl_nil ?_
 refine at_ga (.inr (by exact keeps_of z_15)) ?_
 refine ga_one 3 rfl z_4 ?_
 refine gl_call _ rfl (tailMembers_ct g (lastI g) hf hd (lastI_rng hf)) i_ (fun h hh _ => hr.le hh) rfl ?_; rintro v A ⟨a, c, rfl, rfl⟩
 refine gl_nil ?_
 refine at_ga (.inl z_4) ?_
 refine w_ 4 rfl (s_extract rfl rfl) ?_
 refine w_ 5 rfl (s_extract rfl rfl) ?_
 refine w_ 6 rfl (s_assign rfl) ?_
 refine w_ 7 rfl (s_assign rfl) ?_
 refine ga_done z_4 ?_
 repeat refine y_ ?_
 refine g_ret ?_
 exact at_end2 rfl rfl rfl [OwnC a (confAt g (lastI g)).1 c] ⟨a, c, rfl, rfl⟩ (fun w hw => Hp.left (R := [_]) hw)
theorem ConfAt_ct (g : LM) (i : Int) (hf : g.fit) (hd : g.dat) (hi : 0 ≤ i ∧ i ≤ 18446744073709551615) : Ct Tryz.prog 90 [g.v, .int .u64 i] g.ok [] (LsP (confAt g i).1) := by
 refine ct_enter 14 Tryz.func90 rfl rfl rfl ?_
 intro F hr
 repeat refine x_ ?_
 refine gl_boxA rfl rfl ?_; intro g2
 refine a_ ?_
 repeat refine x_ ?_
 refine r_ z_14 ?_
 refine m_ ?_
 refine gl_call _ rfl (tailMembers_ct g i hf hd hi) i_ (fun h hh _ => hr.le hh) rfl ?_; rintro v A ⟨a, c, rfl, rfl⟩
 refine m_ ?_
 refine f_ (s_extract rfl rfl) ?_
 refine f_ (s_extract rfl rfl) ?_
 refine a_ ?_
 refine a_ ?_
 repeat refine x_ ?_
 refine m_ ?_
 refine a_ ?_
 repeat refine n_ ?_
 refine g_ret ?_
 exact at_end1 rfl rfl [OwnC a (confAt g i).1 c] ⟨a, c, rfl, rfl⟩ (fun w hw => Hp.left (R := [_]) hw)
def CmpP (g : LM) (i : Int) (v : Value) (A : List As) : Prop := (hasL g i = false ∧ ∃ ca cc la lc, v = .tuple #[LM.v ⟨g.base, g.bt, g.conf, g.l, ca, cc, la, lc⟩, .bool false] ∧ A = OwnG ⟨g.base, g.bt, g.conf, g.l, ca, cc, la, lc⟩) ∨
 (hasL g i = true ∧ ∃ ca cc la lc, v = .tuple #[LM.v ⟨i, termV g i, (confAt g i).1, g.l.drop (i - g.base).toNat, ca, cc, la, lc⟩, .bool true] ∧ A = OwnG ⟨i, termV g i, (confAt g i).1, g.l.drop (i - g.base).toNat, ca, cc, la, lc⟩)
set_option maxRecDepth 4000 in
set_option maxHeartbeats 4000000 in
theorem Compact_ct (g : LM) (i : Int) (hf : g.fit) (hd : g.dat) (hi : 0 ≤ i ∧ i ≤ 18446744073709551615) : Ct Tryz.prog 65 [g.v, .int .u64 i] g.ok [] (CmpP g i) := by
 have h1 := hf.lo
 have h2 := hf.hi
 have h3 := hf.len
 have h3c := hf.cl
 refine ct_enter 32 Tryz.func65 rfl rfl rfl ?_
 intro F hr
 repeat refine x_ ?_
 refine gl_boxA rfl rfl ?_; intro g2
 refine gl_allocA rfl ?_; intro g4
 refine a_ ?_
 repeat refine x_ ?_
 refine r_ z_14 ?_
 refine gl_call _ rfl (clone_ct g (by omega) (by omega)) i_ (fun h hh _ => hr.le hh) rfl ?_; rintro v A ⟨ca, cc, la, lc, rfl, rfl⟩
 (refine gl_store_blkW rfl rfl z_5 z_7 z_7 z_3 ?_)
 repeat refine n_ ?_
 refine g_pull (H' := [OwnL la g.l lc, OwnC ca g.conf cc, blkG g4 0 0 none 0 0 none 0 0, blkG g2 g.base g.bt ca g.conf.length cc la g.l.length lc]) i_ ?_
 repeat refine y_ ?_
 refine g_ownN .del (fun _ hcap _ => ?_)
 have hf1 : (⟨g.base, g.bt, g.conf, g.l, ca, cc, la, lc⟩ : LM).fit := ⟨h1, h2, h3, h3c, hcap⟩
 have hd1 : (⟨g.base, g.bt, g.conf, g.l, ca, cc, la, lc⟩ : LM).dat := hd
 have ht1 : ∀ i, termV (⟨g.base, g.bt, g.conf, g.l, ca, cc, la, lc⟩ : LM) i = termV g i := fun i => rfl
 have hh1 : ∀ i, hasL (⟨g.base, g.bt, g.conf, g.l, ca, cc, la, lc⟩ : LM) i = hasL g i := fun i => rfl
 have hc1n : ∀ n, confN (⟨g.base, g.bt, g.conf, g.l, ca, cc, la, lc⟩ : LM) n = confN g n := fun n => by
  induction n with
  | zero => rfl
  | succ n ih => simp only [confN]; rw [ih]
 have hc1 : ∀ i, confAt (⟨g.base, g.bt, g.conf, g.l, ca, cc, la, lc⟩ : LM) i = confAt g i := fun i => hc1n _
 repeat refine x_ ?_
 refine r_ z_14 ?_
 refine m_ ?_
 refine gl_callp rfl (Term_ct ⟨g.base, g.bt, g.conf, g.l, ca, cc, la, lc⟩ i hf1 hi) (fun h hh ⟨bs, hb⟩ => Sat.rd (a := la) hb z_2) rfl ?_; rw [ht1, hh1]
 refine m_ ?_
 refine f_ (s_extract rfl rfl) ?_
 refine f_ (s_extract rfl rfl) ?_
 refine a_ ?_
 refine a_ ?_
 repeat refine n_ ?_
 obtain ⟨q, hq⟩ : ∃ q, q = hasL g i := ⟨_, rfl⟩
 rw [← hq]
 cases q
 ·repeat refine y_ ?_
  refine g_region ?_
  refine m_ ?_
  refine f_ (s_not rfl) ?_
  repeat refine x_ ?_
  refine r_ z_14 ?_
  (refine gl_store_blkW rfl rfl z_5 z_7 z_7 z_3 ?_)
  refine a_ ?_
  repeat refine n_ ?_
  refine g_ret ?_
  exact at_endB1 rfl rfl rfl z_2 rfl _ (.inl ⟨hq.symm, ca, cc, la, lc, rfl, rfl⟩) (fun w hw => Hp.left (A := OwnG ⟨g.base, g.bt, g.conf, g.l, ca, cc, la, lc⟩) (R := [_, _]) hw)
 ·repeat refine y_ ?_
  refine g_region ?_
  refine m_ ?_
  refine f_ (s_not rfl) ?_
  repeat refine n_ ?_
  have hhp := hq.symm
  simp only [hasL, Bool.and_eq_true, decide_eq_true_eq] at hhp
  obtain ⟨k, hk⟩ : ∃ k, k = (i - g.base).toNat := ⟨_, rfl⟩
  have hlen : (g.l.drop k).length = g.l.length - k := by rw [List.length_drop]
  repeat refine y_ ?_
  refine g_draw ([2, 6, 9], [0, 0, 0, 0, 12, 0, 32, 0, 0, 256, 896, 2016, 4095, 8191, 16383], [4, 13]) [blkG g2 g.base g.bt ca g.conf.length cc la g.l.length lc] 15 rfl ?_
  refine w_ 0 rfl (s_move rfl) ?_
  refine w_ 1 rfl (s_move rfl) ?_
  (refine ga_read_k 2 rfl z_11 (s_load_blkW rfl .del z_7) k_ rfl rfl rfl z_4 ?_)
  refine w_ 3 rfl (s_move rfl) ?_
  refine w_ 5 rfl z_1 ?_
  (refine ga_read_k 6 rfl z_11 (s_load_blk rfl .del z_7) k_ rfl rfl rfl z_4 ?_)
  refine w_ 7 rfl (s_move rfl) ?_
  refine w_ 8 rfl z_1 ?_
  (refine ga_read_k 9 rfl z_11 (s_load_blk rfl .del z_7) k_ rfl rfl rfl z_4 ?_)
  refine w_ 10 rfl (s_sub_u64 rfl rfl (by omega)) ?_
  refine w_ 11 rfl ((s_slice_sl rfl rfl rfl (by omega)).eq (v' := .slice (cutA la lc k 3) (g.l.drop k).length (lc - k)) (by rw [hlen, hk]; rfl)) ?_
  refine ga_one 4 rfl z_4 ?_
  refine gl_call _ rfl (ConfAt_ct ⟨g.base, g.bt, g.conf, g.l, ca, cc, la, lc⟩ i hf1 hd1 hi) i_ (fun h hh ⟨bs, hb⟩ => ⟨Sat.rd (a := ca) hb z_2, Sat.rd (a := la) hb z_2⟩) rfl ?_; rw [hc1]; rintro v A ⟨ra, rc, rfl, rfl⟩
  refine gl_nil ?_
  refine at_ga (.inr (by exact keeps_of k_)) ?_
  refine w_ 12 rfl (s_build rfl (v := .agg #[.int .u64 i, .int .u64 (termV g i), .slice ra (confAt g i).1.length rc, .slice (cutA la lc k 3) (g.l.drop k).length (lc - k)]) (run_build_struct (places := [(0, 1), (1, 1), (2, 1), (3, 1)]) rfl (by intro f hf; simp at hf; rcases hf with rfl | rfl | rfl | rfl <;> rfl) rfl)) ?_
  refine ga_one 13 rfl z_4 ?_
  (refine gl_store_blkW rfl rfl z_5 z_7 z_7 z_3 ?_)
  refine gl_nil ?_
  refine at_ga (.inl z_4) ?_
  refine w_ 14 rfl (s_assign rfl) ?_
  refine ga_done z_4 ?_
  repeat refine y_ ?_
  refine g_ret ?_
  ·exact at_endB1 rfl rfl rfl z_2 rfl _ (.inr ⟨hq.symm, ra, rc, cutA la lc k 3, lc - k, by rw [← hk], by rw [← hk]⟩) (fun w hw => by
    have h5 := (hw.front (x := OwnL la g.l lc) z_2).dropOwn (lo := k) .here (by omega)
    rw [← enV_drop, ← hlen] at h5
    exact Hp.left (R := [_, _, _]) h5)
end Go.Proofs.YtodcghipfolejaaGreat
namespace Go.Proofs.YtodcghipfolejaaGreat.Rf
open Go Go.Sl
abbrev Bs := List UInt8
structure Pr where
 node : Int
 next : Int
 mtc : Int
 off : Int
deriving DecidableEq
abbrev P0 : Pr := ⟨0, 0, 0, 0⟩
abbrev prC (q : Pr) : List Value := [.int .i64 q.node, .int .u64 q.next, .int .u64 q.mtc, .int .i64 q.off]
abbrev prV (l : List Pr) : List Value := l.flatMap prC
theorem prC_len : ∀ x, (prC x).length = 4 := fun _ => rfl
theorem prC_one : ∀ x, ∀ q ∈ prC x, q.oneCell' = true := fun x q hq => by simp at hq; rcases hq with rfl | rfl | rfl | rfl <;> rfl
theorem prV_len (l : List Pr) : (prV l).length = l.length * 4 := rec_length (C := prC) prC_len l
theorem prV_one (l : List Pr) : ∀ q ∈ prV l, q.oneCell' = true := rec_one (C := prC) prC_one l
theorem prV_append (a b : List Pr) : prV (a ++ b) = prV a ++ prV b := List.flatMap_append
abbrev prA (q : Pr) : Value := .agg #[.int .i64 q.node, .int .u64 q.next, .int .u64 q.mtc, .int .i64 q.off]
structure MP where
 kind : Int
 frm : Int
 to : Int
 term : Int
 index : Int
 lt : Int
 commit : Int
 ok : Bool
 ents : List Ent
 conf : List Int
 off : Int
 size : Int
 data : Bs
deriving DecidableEq
abbrev MP0 : MP := ⟨0, 0, 0, 0, 0, 0, 0, false, [], [], 0, 0, []⟩
structure MM where
 p : MP
 ea : Option Addr
 ec : Nat
 ka : Option Addr
 kc : Nat
abbrev MM0 : MM := ⟨MP0, none, 0, none, 0⟩
abbrev mmC (m : MM) : List Value := [.int .i64 m.p.kind, .int .i64 m.p.frm, .int .i64 m.p.to, .int .u64 m.p.term, .int .u64 m.p.index, .int .u64 m.p.lt, .int .u64 m.p.commit, .bool m.p.ok, .slice m.ea m.p.ents.length m.ec, .slice m.ka m.p.conf.length m.kc, .int .i64 m.p.off, .int .i64 m.p.size, B m.p.data]
abbrev mmA (m : MM) : Value := .agg #[.int .i64 m.p.kind, .int .i64 m.p.frm, .int .i64 m.p.to, .int .u64 m.p.term, .int .u64 m.p.index, .int .u64 m.p.lt, .int .u64 m.p.commit, .bool m.p.ok, .slice m.ea m.p.ents.length m.ec, .slice m.ka m.p.conf.length m.kc, .int .i64 m.p.off, .int .i64 m.p.size, B m.p.data]
abbrev mmV (l : List MM) : List Value := l.flatMap mmC
theorem mmC_len : ∀ x, (mmC x).length = 13 := fun _ => rfl
theorem mmC_one : ∀ x, ∀ q ∈ mmC x, q.oneCell' = true := fun x q hq => by simp at hq; rcases hq with rfl | rfl | rfl | rfl | rfl | rfl | rfl | rfl | rfl | rfl | rfl | rfl | rfl <;> rfl
theorem mmV_len (l : List MM) : (mmV l).length = l.length * 13 := rec_length (C := mmC) mmC_len l
theorem mmV_one (l : List MM) : ∀ q ∈ mmV l, q.oneCell' = true := rec_one (C := mmC) mmC_one l
theorem mmV_append (a b : List MM) : mmV (a ++ b) = mmV a ++ mmV b := List.flatMap_append
structure MOk (h : Heap) (m : MM) : Prop where
 e : RdS h m.ea (enV m.p.ents)
 k : RdS h m.ka (intsV m.p.conf)
 ec : m.p.ents.length ≤ m.ec
theorem MOk.le {h h' : Heap} {m : MM} (f : MOk h m) (l : Heap.le h h') : MOk h' m := ⟨f.e.le l, f.k.le l, f.ec⟩
structure RP where
 id : Int
 term : Int
 vote : Int
 role : Int
 leader : Int
 base : Int
 bt : Int
 conf : List Int
 l : List Ent
 img : Bs
 commit : Int
 ticks : Int
 tout : Int
 votes : List Int
 peers : List Pr
 piece : Bs
 pix : Int
 pt : Int
structure RA where
 ca : Option Addr
 cc : Nat
 la : Option Addr
 lc : Nat
 va : Option Addr
 vc : Nat
 pa : Option Addr
 pc : Nat
abbrev RA0 : RA := ⟨none, 0, none, 0, none, 0, none, 0⟩
abbrev RP.lm (p : RP) (a : RA) : LM := ⟨p.base, p.bt, p.conf, p.l, a.ca, a.cc, a.la, a.lc⟩
abbrev RP.g (p : RP) : LM := ⟨p.base, p.bt, p.conf, p.l, none, 0, none, 0⟩
abbrev rsV (p : RP) (a : RA) : Value := .agg #[.int .i64 p.id, .int .u64 p.term, .int .i64 p.vote, .int .i64 p.role, .int .i64 p.leader, .int .u64 p.base, .int .u64 p.bt, .slice a.ca p.conf.length a.cc, .slice a.la p.l.length a.lc, B p.img, .int .u64 p.commit, .int .i64 p.ticks, .int .i64 p.tout, .slice a.va p.votes.length a.vc, .slice a.pa p.peers.length a.pc, B p.piece, .int .u64 p.pix, .int .u64 p.pt]
abbrev rsC (p : RP) (a : RA) : List Value := [.int .i64 p.id, .int .u64 p.term, .int .i64 p.vote, .int .i64 p.role, .int .i64 p.leader, .int .u64 p.base, .int .u64 p.bt, .slice a.ca p.conf.length a.cc, .slice a.la p.l.length a.lc, B p.img, .int .u64 p.commit, .int .i64 p.ticks, .int .i64 p.tout, .slice a.va p.votes.length a.vc, .slice a.pa p.peers.length a.pc, B p.piece, .int .u64 p.pix, .int .u64 p.pt]
structure MD where
 p : RP
 a : RA
 outs : List MM
 oa : Option Addr
 oc : Nat
abbrev mdO (d : MD) : Obj := .cells #[.int .i64 d.p.id, .int .u64 d.p.term, .int .i64 d.p.vote, .int .i64 d.p.role, .int .i64 d.p.leader, .int .u64 d.p.base, .int .u64 d.p.bt, .slice d.a.ca d.p.conf.length d.a.cc, .slice d.a.la d.p.l.length d.a.lc, B d.p.img, .int .u64 d.p.commit, .int .i64 d.p.ticks, .int .i64 d.p.tout, .slice d.a.va d.p.votes.length d.a.vc, .slice d.a.pa d.p.peers.length d.a.pc, B d.p.piece, .int .u64 d.p.pix, .int .u64 d.p.pt, .slice d.oa d.outs.length d.oc] 91
abbrev OwnP (a : Option Addr) (l : List Pr) (c : Nat) : As := .own (.slice a l.length c) 100 4 (prV l)
abbrev OwnM (a : Option Addr) (l : List MM) (c : Nat) : As := .own (.slice a l.length c) 38 13 (mmV l)
abbrev mdH (X : Nat) (d : MD) : List As := [.blk X (mdO d), OwnL d.a.la d.p.l d.a.lc, OwnC d.a.ca d.p.conf d.a.cc, OwnC d.a.va d.p.votes d.a.vc, OwnP d.a.pa d.p.peers d.a.pc, OwnM d.oa d.outs d.oc]
def OutsOk (h : Heap) (d : MD) : Prop := ∀ m ∈ d.outs, MOk h m
def MdP (X : Nat) (d : MD) (p' : RP) (new : List MP) (r v : Value) (A : List As) : Prop :=
 v = r ∧ ∃ d' Z, d'.p = p' ∧ d'.outs.map MM.p = d.outs.map MM.p ++ new ∧ A = mdH X d' ++ Z ∧ ∀ h, OutsOk h d → (∃ bs, Sat h Z bs) → OutsOk h d'
theorem MdP.same (X : Nat) (d d' : MD) (r : Value) (h : d'.outs = d.outs) : MdP X d d'.p [] r r (mdH X d' ++ []) := ⟨rfl, d', [], rfl, by rw [h, List.append_nil], rfl, fun h2 f _ => fun m hm => f m (by rw [← h]; exact hm)⟩
structure PFit (p : RP) : Prop where
 base : 0 ≤ p.base ∧ p.base ≤ 2305843009213693952
 len : p.l.length ≤ 100000
 cl : p.conf.length ≤ 100000
 dat : ∀ i, i < p.l.length → (p.l.getD i E0).2.2.length ≤ 1000000000000
 img : p.img.length ≤ 1000000000000
 votes : p.votes.length ≤ 100000
 peers : p.peers.length ≤ 1000000
 prs : ∀ q ∈ p.peers, 1 ≤ q.next ∧ q.next ≤ 4611686018427387904 ∧ 0 ≤ q.mtc ∧ q.mtc ≤ 4611686018427387904 ∧ 0 ≤ q.off ∧ q.off ≤ p.img.length
 ticks : 0 ≤ p.ticks ∧ p.ticks ≤ 4611686018427387904
 term : 0 ≤ p.term ∧ p.term ≤ 4611686018427387904
 commit : 0 ≤ p.commit ∧ p.commit ≤ 4611686018427387904
theorem PFit.fit {p : RP} (h : PFit p) (a : RA) (hc : p.l.length ≤ a.lc) : (p.lm a).fit := ⟨h.base.1, by have := h.base.2; show p.base ≤ _; omega, by have := h.len; show p.l.length ≤ _; omega, by have := h.cl; show p.conf.length ≤ _; omega, hc⟩
theorem PFit.datL {p : RP} (h : PFit p) (a : RA) : (p.lm a).dat := fun i hi => by have := h.dat i hi; show (p.l.getD i E0).2.2.length ≤ _; omega
theorem PFit.last {p : RP} (h : PFit p) : 0 ≤ lastI p.g ∧ lastI p.g ≤ 2305843009213793952 := by
 have h1 := h.base
 have h2 := h.len
 unfold lastI
 show 0 ≤ p.base + (p.l.length : Int) ∧ p.base + (p.l.length : Int) ≤ _
 omega
theorem confN_any (p : RP) (a : RA) : ∀ n, confN (p.lm a) n = confN p.g n
 | 0 => rfl
 | n + 1 => by rw [confN, confN, confN_any p a n]
theorem confAt_any (p : RP) (a : RA) (i : Int) : confAt (p.lm a) i = confAt p.g i := confN_any p a _
theorem PFit.cn {p : RP} (h : PFit p) (i : Int) : (confAt p.g i).1.length ≤ 1000000 := confN_le p.g (by have := h.cl; show p.conf.length ≤ _; omega) _
theorem conf_at (p : RP) : ∀ n, p.base ≤ (confN p.g n).2 ∧ (confN p.g n).2 ≤ p.base + (n : Int)
 | 0 => by
  show p.base ≤ p.base ∧ p.base ≤ _
  omega
 | n + 1 => by
  rw [confN]
  split
  ·show p.base ≤ p.base + (n : Int) + 1 ∧ p.base + (n : Int) + 1 ≤ _
   omega
  ·have := conf_at p n; omega
theorem PFit.ca {p : RP} (h : PFit p) (i : Int) : 0 ≤ (confAt p.g i).2 ∧ (confAt p.g i).2 ≤ 2305843009213793952 := by
 have h1 := conf_at p (min p.g.l.length (i - p.g.base).toNat)
 have h2 := h.base
 have h3 := h.len
 have h4 : min p.g.l.length (i - p.g.base).toNat ≤ p.l.length := Nat.min_le_left _ _
 unfold confAt
 omega
def followP (p : RP) (t n : Int) : RP := { p with term := if p.term < t then t else p.term, vote := if p.term < t then 0 else p.vote, role := 0, leader := n, votes := [], peers := [] }
def confL (p : RP) : List Int := (confAt p.g (lastI p.g)).1
def confI (p : RP) : Int := (confAt p.g (lastI p.g)).2
def mayP (p : RP) : Bool := inB (confL p) p.id || (decide (p.commit < confI p) && inB (confAt p.g (confI p - 1)).1 p.id)
def pieceP (p : RP) (q : Pr) : MP := ⟨5, p.id, q.node, p.term, p.base, p.bt, 0, false, [], p.conf, q.off, p.img.length, (p.img.drop q.off.toNat).take 4096⟩
def appendP (p : RP) (q : Pr) : MP := ⟨3, p.id, q.node, p.term, q.next - 1, termV p.g (q.next - 1), p.commit, false, sliceL p.g q.next 8, [], 0, 0, []⟩
def updateP (p : RP) (q : Pr) : MP := if q.next ≤ p.base then pieceP p q else appendP p q
def allP (p : RP) : List MP := if p.role = 2 then p.peers.map (updateP p) else []
def haveP (p : RP) : List At2 := (p.id, lastI p.g) :: p.peers.map fun q => (q.node, q.mtc)
noncomputable def comP (p : RP) : Int := com (confL p) (haveP p)
noncomputable def commit1 (p : RP) : RP := if p.commit < comP p ∧ hasL p.g (comP p) = true ∧ termV p.g (comP p) = p.term then { p with commit := comP p } else p
noncomputable def commitP (p : RP) : RP := if inB (confL p) p.id = false ∧ confI p ≤ (commit1 p).commit then followP (commit1 p) (commit1 p).term 0 else commit1 p
def peerOf (p : RP) (n : Int) : Pr := p.peers.foldl (fun b q => if q.node = n then q else b) ⟨n, lastI p.g + 1, 0, 0⟩
def peersL (p : RP) : List Pr := ((confL p).filter fun n => decide (n ≠ p.id)).map (peerOf p)
def lead1 (p : RP) : RP := { p with role := 2, leader := p.id, votes := [], peers := [] }
def lead2 (p : RP) : RP := { lead1 p with peers := peersL (lead1 p), l := p.l ++ [(p.term, 1, [])] }
noncomputable def leadP (p : RP) : RP := commitP (lead2 p)
noncomputable def leadM (p : RP) : List MP := allP (leadP p)
def stand1 (p : RP) : RP := { p with term := p.term + 1, vote := p.id, role := 1, leader := 0, votes := [p.id], peers := [], ticks := 0 }
def voteM (p : RP) (n : Int) : MP := ⟨1, p.id, n, p.term, lastI p.g, lastT p.g, 0, false, [], [], 0, 0, []⟩
def wins (p : RP) : Bool := mostB (confL p) p.votes
noncomputable def standP (p : RP) : RP := if wins (stand1 p) = true then leadP (stand1 p) else stand1 p
noncomputable def standM (p : RP) : List MP := if wins (stand1 p) = true then leadM (stand1 p) else ((confL p).filter fun n => decide (n ≠ p.id)).map (voteM (stand1 p))
def tick1 (p : RP) : RP := { p with ticks := p.ticks + 1 }
def stands (p : RP) : Bool := decide (p.tout ≤ p.ticks) && (decide (p.term < 4611686018427387904) && mayP p)
noncomputable def tickP (p : RP) : RP := if p.role = 2 then p else if stands (tick1 p) = true then standP (tick1 p) else tick1 p
noncomputable def tickM (p : RP) : List MP := if p.role = 2 then allP p else if stands (tick1 p) = true then standM (tick1 p) else []
end Go.Proofs.YtodcghipfolejaaGreat.Rf
namespace Go.Proofs.YtodcghipfolejaaGreat.Rf
open Go Go.Sl
theorem a2_0 {a0 a1 : Value} : (#[a0, a1] : Array Value)[0]? = some a0 := rfl
theorem a2_1 {a0 a1 : Value} : (#[a0, a1] : Array Value)[1]? = some a1 := rfl
theorem a3_0 {a0 a1 a2 : Value} : (#[a0, a1, a2] : Array Value)[0]? = some a0 := rfl
theorem a3_1 {a0 a1 a2 : Value} : (#[a0, a1, a2] : Array Value)[1]? = some a1 := rfl
theorem a3_2 {a0 a1 a2 : Value} : (#[a0, a1, a2] : Array Value)[2]? = some a2 := rfl
theorem a4_0 {a0 a1 a2 a3 : Value} : (#[a0, a1, a2, a3] : Array Value)[0]? = some a0 := rfl
theorem a4_1 {a0 a1 a2 a3 : Value} : (#[a0, a1, a2, a3] : Array Value)[1]? = some a1 := rfl
theorem a4_2 {a0 a1 a2 a3 : Value} : (#[a0, a1, a2, a3] : Array Value)[2]? = some a2 := rfl
theorem a4_3 {a0 a1 a2 a3 : Value} : (#[a0, a1, a2, a3] : Array Value)[3]? = some a3 := rfl
theorem a13_0 {a0 a1 a2 a3 a4 a5 a6 a7 a8 a9 a10 a11 a12 : Value} : (#[a0, a1, a2, a3, a4, a5, a6, a7, a8, a9, a10, a11, a12] : Array Value)[0]? = some a0 := rfl
theorem a13_1 {a0 a1 a2 a3 a4 a5 a6 a7 a8 a9 a10 a11 a12 : Value} : (#[a0, a1, a2, a3, a4, a5, a6, a7, a8, a9, a10, a11, a12] : Array Value)[1]? = some a1 := rfl
theorem a13_2 {a0 a1 a2 a3 a4 a5 a6 a7 a8 a9 a10 a11 a12 : Value} : (#[a0, a1, a2, a3, a4, a5, a6, a7, a8, a9, a10, a11, a12] : Array Value)[2]? = some a2 := rfl
theorem a13_3 {a0 a1 a2 a3 a4 a5 a6 a7 a8 a9 a10 a11 a12 : Value} : (#[a0, a1, a2, a3, a4, a5, a6, a7, a8, a9, a10, a11, a12] : Array Value)[3]? = some a3 := rfl
theorem a13_4 {a0 a1 a2 a3 a4 a5 a6 a7 a8 a9 a10 a11 a12 : Value} : (#[a0, a1, a2, a3, a4, a5, a6, a7, a8, a9, a10, a11, a12] : Array Value)[4]? = some a4 := rfl
theorem a13_5 {a0 a1 a2 a3 a4 a5 a6 a7 a8 a9 a10 a11 a12 : Value} : (#[a0, a1, a2, a3, a4, a5, a6, a7, a8, a9, a10, a11, a12] : Array Value)[5]? = some a5 := rfl
theorem a13_6 {a0 a1 a2 a3 a4 a5 a6 a7 a8 a9 a10 a11 a12 : Value} : (#[a0, a1, a2, a3, a4, a5, a6, a7, a8, a9, a10, a11, a12] : Array Value)[6]? = some a6 := rfl
theorem a13_7 {a0 a1 a2 a3 a4 a5 a6 a7 a8 a9 a10 a11 a12 : Value} : (#[a0, a1, a2, a3, a4, a5, a6, a7, a8, a9, a10, a11, a12] : Array Value)[7]? = some a7 := rfl
theorem a13_8 {a0 a1 a2 a3 a4 a5 a6 a7 a8 a9 a10 a11 a12 : Value} : (#[a0, a1, a2, a3, a4, a5, a6, a7, a8, a9, a10, a11, a12] : Array Value)[8]? = some a8 := rfl
theorem a13_9 {a0 a1 a2 a3 a4 a5 a6 a7 a8 a9 a10 a11 a12 : Value} : (#[a0, a1, a2, a3, a4, a5, a6, a7, a8, a9, a10, a11, a12] : Array Value)[9]? = some a9 := rfl
theorem a13_10 {a0 a1 a2 a3 a4 a5 a6 a7 a8 a9 a10 a11 a12 : Value} : (#[a0, a1, a2, a3, a4, a5, a6, a7, a8, a9, a10, a11, a12] : Array Value)[10]? = some a10 := rfl
theorem a13_11 {a0 a1 a2 a3 a4 a5 a6 a7 a8 a9 a10 a11 a12 : Value} : (#[a0, a1, a2, a3, a4, a5, a6, a7, a8, a9, a10, a11, a12] : Array Value)[11]? = some a11 := rfl
theorem a13_12 {a0 a1 a2 a3 a4 a5 a6 a7 a8 a9 a10 a11 a12 : Value} : (#[a0, a1, a2, a3, a4, a5, a6, a7, a8, a9, a10, a11, a12] : Array Value)[12]? = some a12 := rfl
theorem a18_0 {a0 a1 a2 a3 a4 a5 a6 a7 a8 a9 a10 a11 a12 a13 a14 a15 a16 a17 : Value} : (#[a0, a1, a2, a3, a4, a5, a6, a7, a8, a9, a10, a11, a12, a13, a14, a15, a16, a17] : Array Value)[0]? = some a0 := rfl
theorem a18_1 {a0 a1 a2 a3 a4 a5 a6 a7 a8 a9 a10 a11 a12 a13 a14 a15 a16 a17 : Value} : (#[a0, a1, a2, a3, a4, a5, a6, a7, a8, a9, a10, a11, a12, a13, a14, a15, a16, a17] : Array Value)[1]? = some a1 := rfl
theorem a18_2 {a0 a1 a2 a3 a4 a5 a6 a7 a8 a9 a10 a11 a12 a13 a14 a15 a16 a17 : Value} : (#[a0, a1, a2, a3, a4, a5, a6, a7, a8, a9, a10, a11, a12, a13, a14, a15, a16, a17] : Array Value)[2]? = some a2 := rfl
theorem a18_3 {a0 a1 a2 a3 a4 a5 a6 a7 a8 a9 a10 a11 a12 a13 a14 a15 a16 a17 : Value} : (#[a0, a1, a2, a3, a4, a5, a6, a7, a8, a9, a10, a11, a12, a13, a14, a15, a16, a17] : Array Value)[3]? = some a3 := rfl
theorem a18_4 {a0 a1 a2 a3 a4 a5 a6 a7 a8 a9 a10 a11 a12 a13 a14 a15 a16 a17 : Value} : (#[a0, a1, a2, a3, a4, a5, a6, a7, a8, a9, a10, a11, a12, a13, a14, a15, a16, a17] : Array Value)[4]? = some a4 := rfl
theorem a18_5 {a0 a1 a2 a3 a4 a5 a6 a7 a8 a9 a10 a11 a12 a13 a14 a15 a16 a17 : Value} : (#[a0, a1, a2, a3, a4, a5, a6, a7, a8, a9, a10, a11, a12, a13, a14, a15, a16, a17] : Array Value)[5]? = some a5 := rfl
theorem a18_7 {a0 a1 a2 a3 a4 a5 a6 a7 a8 a9 a10 a11 a12 a13 a14 a15 a16 a17 : Value} : (#[a0, a1, a2, a3, a4, a5, a6, a7, a8, a9, a10, a11, a12, a13, a14, a15, a16, a17] : Array Value)[7]? = some a7 := rfl
theorem a18_8 {a0 a1 a2 a3 a4 a5 a6 a7 a8 a9 a10 a11 a12 a13 a14 a15 a16 a17 : Value} : (#[a0, a1, a2, a3, a4, a5, a6, a7, a8, a9, a10, a11, a12, a13, a14, a15, a16, a17] : Array Value)[8]? = some a8 := rfl
theorem a18_9 {a0 a1 a2 a3 a4 a5 a6 a7 a8 a9 a10 a11 a12 a13 a14 a15 a16 a17 : Value} : (#[a0, a1, a2, a3, a4, a5, a6, a7, a8, a9, a10, a11, a12, a13, a14, a15, a16, a17] : Array Value)[9]? = some a9 := rfl
theorem a18_10 {a0 a1 a2 a3 a4 a5 a6 a7 a8 a9 a10 a11 a12 a13 a14 a15 a16 a17 : Value} : (#[a0, a1, a2, a3, a4, a5, a6, a7, a8, a9, a10, a11, a12, a13, a14, a15, a16, a17] : Array Value)[10]? = some a10 := rfl
theorem a18_11 {a0 a1 a2 a3 a4 a5 a6 a7 a8 a9 a10 a11 a12 a13 a14 a15 a16 a17 : Value} : (#[a0, a1, a2, a3, a4, a5, a6, a7, a8, a9, a10, a11, a12, a13, a14, a15, a16, a17] : Array Value)[11]? = some a11 := rfl
theorem a18_12 {a0 a1 a2 a3 a4 a5 a6 a7 a8 a9 a10 a11 a12 a13 a14 a15 a16 a17 : Value} : (#[a0, a1, a2, a3, a4, a5, a6, a7, a8, a9, a10, a11, a12, a13, a14, a15, a16, a17] : Array Value)[12]? = some a12 := rfl
theorem a18_13 {a0 a1 a2 a3 a4 a5 a6 a7 a8 a9 a10 a11 a12 a13 a14 a15 a16 a17 : Value} : (#[a0, a1, a2, a3, a4, a5, a6, a7, a8, a9, a10, a11, a12, a13, a14, a15, a16, a17] : Array Value)[13]? = some a13 := rfl
theorem a18_14 {a0 a1 a2 a3 a4 a5 a6 a7 a8 a9 a10 a11 a12 a13 a14 a15 a16 a17 : Value} : (#[a0, a1, a2, a3, a4, a5, a6, a7, a8, a9, a10, a11, a12, a13, a14, a15, a16, a17] : Array Value)[14]? = some a14 := rfl
theorem a18_15 {a0 a1 a2 a3 a4 a5 a6 a7 a8 a9 a10 a11 a12 a13 a14 a15 a16 a17 : Value} : (#[a0, a1, a2, a3, a4, a5, a6, a7, a8, a9, a10, a11, a12, a13, a14, a15, a16, a17] : Array Value)[15]? = some a15 := rfl
theorem a18_16 {a0 a1 a2 a3 a4 a5 a6 a7 a8 a9 a10 a11 a12 a13 a14 a15 a16 a17 : Value} : (#[a0, a1, a2, a3, a4, a5, a6, a7, a8, a9, a10, a11, a12, a13, a14, a15, a16, a17] : Array Value)[16]? = some a16 := rfl
theorem a18_17 {a0 a1 a2 a3 a4 a5 a6 a7 a8 a9 a10 a11 a12 a13 a14 a15 a16 a17 : Value} : (#[a0, a1, a2, a3, a4, a5, a6, a7, a8, a9, a10, a11, a12, a13, a14, a15, a16, a17] : Array Value)[17]? = some a17 := rfl
theorem a19_0 {a0 a1 a2 a3 a4 a5 a6 a7 a8 a9 a10 a11 a12 a13 a14 a15 a16 a17 a18 : Value} : (#[a0, a1, a2, a3, a4, a5, a6, a7, a8, a9, a10, a11, a12, a13, a14, a15, a16, a17, a18] : Array Value)[0]? = some a0 := rfl
theorem a19_1 {a0 a1 a2 a3 a4 a5 a6 a7 a8 a9 a10 a11 a12 a13 a14 a15 a16 a17 a18 : Value} : (#[a0, a1, a2, a3, a4, a5, a6, a7, a8, a9, a10, a11, a12, a13, a14, a15, a16, a17, a18] : Array Value)[1]? = some a1 := rfl
theorem a19_2 {a0 a1 a2 a3 a4 a5 a6 a7 a8 a9 a10 a11 a12 a13 a14 a15 a16 a17 a18 : Value} : (#[a0, a1, a2, a3, a4, a5, a6, a7, a8, a9, a10, a11, a12, a13, a14, a15, a16, a17, a18] : Array Value)[2]? = some a2 := rfl
theorem a19_3 {a0 a1 a2 a3 a4 a5 a6 a7 a8 a9 a10 a11 a12 a13 a14 a15 a16 a17 a18 : Value} : (#[a0, a1, a2, a3, a4, a5, a6, a7, a8, a9, a10, a11, a12, a13, a14, a15, a16, a17, a18] : Array Value)[3]? = some a3 := rfl
theorem a19_4 {a0 a1 a2 a3 a4 a5 a6 a7 a8 a9 a10 a11 a12 a13 a14 a15 a16 a17 a18 : Value} : (#[a0, a1, a2, a3, a4, a5, a6, a7, a8, a9, a10, a11, a12, a13, a14, a15, a16, a17, a18] : Array Value)[4]? = some a4 := rfl
theorem a19_5 {a0 a1 a2 a3 a4 a5 a6 a7 a8 a9 a10 a11 a12 a13 a14 a15 a16 a17 a18 : Value} : (#[a0, a1, a2, a3, a4, a5, a6, a7, a8, a9, a10, a11, a12, a13, a14, a15, a16, a17, a18] : Array Value)[5]? = some a5 := rfl
theorem a19_8 {a0 a1 a2 a3 a4 a5 a6 a7 a8 a9 a10 a11 a12 a13 a14 a15 a16 a17 a18 : Value} : (#[a0, a1, a2, a3, a4, a5, a6, a7, a8, a9, a10, a11, a12, a13, a14, a15, a16, a17, a18] : Array Value)[8]? = some a8 := rfl
theorem a19_9 {a0 a1 a2 a3 a4 a5 a6 a7 a8 a9 a10 a11 a12 a13 a14 a15 a16 a17 a18 : Value} : (#[a0, a1, a2, a3, a4, a5, a6, a7, a8, a9, a10, a11, a12, a13, a14, a15, a16, a17, a18] : Array Value)[9]? = some a9 := rfl
theorem a19_10 {a0 a1 a2 a3 a4 a5 a6 a7 a8 a9 a10 a11 a12 a13 a14 a15 a16 a17 a18 : Value} : (#[a0, a1, a2, a3, a4, a5, a6, a7, a8, a9, a10, a11, a12, a13, a14, a15, a16, a17, a18] : Array Value)[10]? = some a10 := rfl
theorem a19_11 {a0 a1 a2 a3 a4 a5 a6 a7 a8 a9 a10 a11 a12 a13 a14 a15 a16 a17 a18 : Value} : (#[a0, a1, a2, a3, a4, a5, a6, a7, a8, a9, a10, a11, a12, a13, a14, a15, a16, a17, a18] : Array Value)[11]? = some a11 := rfl
theorem a19_12 {a0 a1 a2 a3 a4 a5 a6 a7 a8 a9 a10 a11 a12 a13 a14 a15 a16 a17 a18 : Value} : (#[a0, a1, a2, a3, a4, a5, a6, a7, a8, a9, a10, a11, a12, a13, a14, a15, a16, a17, a18] : Array Value)[12]? = some a12 := rfl
theorem a19_13 {a0 a1 a2 a3 a4 a5 a6 a7 a8 a9 a10 a11 a12 a13 a14 a15 a16 a17 a18 : Value} : (#[a0, a1, a2, a3, a4, a5, a6, a7, a8, a9, a10, a11, a12, a13, a14, a15, a16, a17, a18] : Array Value)[13]? = some a13 := rfl
theorem a19_14 {a0 a1 a2 a3 a4 a5 a6 a7 a8 a9 a10 a11 a12 a13 a14 a15 a16 a17 a18 : Value} : (#[a0, a1, a2, a3, a4, a5, a6, a7, a8, a9, a10, a11, a12, a13, a14, a15, a16, a17, a18] : Array Value)[14]? = some a14 := rfl
theorem a19_15 {a0 a1 a2 a3 a4 a5 a6 a7 a8 a9 a10 a11 a12 a13 a14 a15 a16 a17 a18 : Value} : (#[a0, a1, a2, a3, a4, a5, a6, a7, a8, a9, a10, a11, a12, a13, a14, a15, a16, a17, a18] : Array Value)[15]? = some a15 := rfl
theorem a19_16 {a0 a1 a2 a3 a4 a5 a6 a7 a8 a9 a10 a11 a12 a13 a14 a15 a16 a17 a18 : Value} : (#[a0, a1, a2, a3, a4, a5, a6, a7, a8, a9, a10, a11, a12, a13, a14, a15, a16, a17, a18] : Array Value)[16]? = some a16 := rfl
theorem a19_17 {a0 a1 a2 a3 a4 a5 a6 a7 a8 a9 a10 a11 a12 a13 a14 a15 a16 a17 a18 : Value} : (#[a0, a1, a2, a3, a4, a5, a6, a7, a8, a9, a10, a11, a12, a13, a14, a15, a16, a17, a18] : Array Value)[17]? = some a17 := rfl
theorem a19_18 {a0 a1 a2 a3 a4 a5 a6 a7 a8 a9 a10 a11 a12 a13 a14 a15 a16 a17 a18 : Value} : (#[a0, a1, a2, a3, a4, a5, a6, a7, a8, a9, a10, a11, a12, a13, a14, a15, a16, a17, a18] : Array Value)[18]? = some a18 := rfl
theorem a20_0 {a0 a1 a2 a3 a4 a5 a6 a7 a8 a9 a10 a11 a12 a13 a14 a15 a16 a17 a18 a19 : Value} : (#[a0, a1, a2, a3, a4, a5, a6, a7, a8, a9, a10, a11, a12, a13, a14, a15, a16, a17, a18, a19] : Array Value)[0]? = some a0 := rfl
theorem a20_1 {a0 a1 a2 a3 a4 a5 a6 a7 a8 a9 a10 a11 a12 a13 a14 a15 a16 a17 a18 a19 : Value} : (#[a0, a1, a2, a3, a4, a5, a6, a7, a8, a9, a10, a11, a12, a13, a14, a15, a16, a17, a18, a19] : Array Value)[1]? = some a1 := rfl
theorem a20_3 {a0 a1 a2 a3 a4 a5 a6 a7 a8 a9 a10 a11 a12 a13 a14 a15 a16 a17 a18 a19 : Value} : (#[a0, a1, a2, a3, a4, a5, a6, a7, a8, a9, a10, a11, a12, a13, a14, a15, a16, a17, a18, a19] : Array Value)[3]? = some a3 := rfl
theorem a20_5 {a0 a1 a2 a3 a4 a5 a6 a7 a8 a9 a10 a11 a12 a13 a14 a15 a16 a17 a18 a19 : Value} : (#[a0, a1, a2, a3, a4, a5, a6, a7, a8, a9, a10, a11, a12, a13, a14, a15, a16, a17, a18, a19] : Array Value)[5]? = some a5 := rfl
theorem a20_9 {a0 a1 a2 a3 a4 a5 a6 a7 a8 a9 a10 a11 a12 a13 a14 a15 a16 a17 a18 a19 : Value} : (#[a0, a1, a2, a3, a4, a5, a6, a7, a8, a9, a10, a11, a12, a13, a14, a15, a16, a17, a18, a19] : Array Value)[9]? = some a9 := rfl
theorem a20_10 {a0 a1 a2 a3 a4 a5 a6 a7 a8 a9 a10 a11 a12 a13 a14 a15 a16 a17 a18 a19 : Value} : (#[a0, a1, a2, a3, a4, a5, a6, a7, a8, a9, a10, a11, a12, a13, a14, a15, a16, a17, a18, a19] : Array Value)[10]? = some a10 := rfl
theorem a20_13 {a0 a1 a2 a3 a4 a5 a6 a7 a8 a9 a10 a11 a12 a13 a14 a15 a16 a17 a18 a19 : Value} : (#[a0, a1, a2, a3, a4, a5, a6, a7, a8, a9, a10, a11, a12, a13, a14, a15, a16, a17, a18, a19] : Array Value)[13]? = some a13 := rfl
theorem a20_14 {a0 a1 a2 a3 a4 a5 a6 a7 a8 a9 a10 a11 a12 a13 a14 a15 a16 a17 a18 a19 : Value} : (#[a0, a1, a2, a3, a4, a5, a6, a7, a8, a9, a10, a11, a12, a13, a14, a15, a16, a17, a18, a19] : Array Value)[14]? = some a14 := rfl
theorem a20_15 {a0 a1 a2 a3 a4 a5 a6 a7 a8 a9 a10 a11 a12 a13 a14 a15 a16 a17 a18 a19 : Value} : (#[a0, a1, a2, a3, a4, a5, a6, a7, a8, a9, a10, a11, a12, a13, a14, a15, a16, a17, a18, a19] : Array Value)[15]? = some a15 := rfl
theorem a20_16 {a0 a1 a2 a3 a4 a5 a6 a7 a8 a9 a10 a11 a12 a13 a14 a15 a16 a17 a18 a19 : Value} : (#[a0, a1, a2, a3, a4, a5, a6, a7, a8, a9, a10, a11, a12, a13, a14, a15, a16, a17, a18, a19] : Array Value)[16]? = some a16 := rfl
theorem a20_17 {a0 a1 a2 a3 a4 a5 a6 a7 a8 a9 a10 a11 a12 a13 a14 a15 a16 a17 a18 a19 : Value} : (#[a0, a1, a2, a3, a4, a5, a6, a7, a8, a9, a10, a11, a12, a13, a14, a15, a16, a17, a18, a19] : Array Value)[17]? = some a17 := rfl
theorem a20_18 {a0 a1 a2 a3 a4 a5 a6 a7 a8 a9 a10 a11 a12 a13 a14 a15 a16 a17 a18 a19 : Value} : (#[a0, a1, a2, a3, a4, a5, a6, a7, a8, a9, a10, a11, a12, a13, a14, a15, a16, a17, a18, a19] : Array Value)[18]? = some a18 := rfl
theorem a20_19 {a0 a1 a2 a3 a4 a5 a6 a7 a8 a9 a10 a11 a12 a13 a14 a15 a16 a17 a18 a19 : Value} : (#[a0, a1, a2, a3, a4, a5, a6, a7, a8, a9, a10, a11, a12, a13, a14, a15, a16, a17, a18, a19] : Array Value)[19]? = some a19 := rfl
class HBld (P : Program) (t : TypeId) (fs : outParam (Array Field)) (places : outParam (List (Nat × Nat))) : Prop where
 hu : P.underlying t = some (.struct fs)
 hp : fs.toList.map (fun f => (f.offset, P.cellsOf f.type)) = places
 hin : (fs.toList.all fun f => (P.info? f.type).isSome) = true
theorem s_bld {P : Program} {L : Lcs} {dst : Option Tmp} {ty t : TypeId} {pos : String} {af : Array Edge} {gd : Option (Nat × Bool)} {fs : Array Field} {places : List (Nat × Nat)} {z : Value} {ps : List (Nat × Operand)} {vs : List (Nat × Value)} {cells : Array Value} [hb : HBld P t fs places] [hz : HZ P t z] (hx : evP L ps = some vs) (hfill : Instr.fill (places[·]?) z.cells vs = some cells) : OpF P ⟨dst, .build t ps.toArray, ty, pos, af, gd⟩ L (.agg cells) :=
 have : HU P t (.struct fs) := ⟨hb.hu⟩
 s_build hx (run_build_struct (fs := fs) hb.hp (fun f hf => List.all_eq_true.1 hb.hin f hf) hfill)
instance : HBld Tryz.prog 38 #[{ name := "Kind", type := 3, offset := 0, embedded := false, tag := "", pkgPath := "", byteOffset := 0 }, { name := "From", type := 3, offset := 1, embedded := false, tag := "", pkgPath := "", byteOffset := 8 }, { name := "To", type := 3, offset := 2, embedded := false, tag := "", pkgPath := "", byteOffset := 16 }, { name := "Term", type := 34, offset := 3, embedded := false, tag := "", pkgPath := "", byteOffset := 24 }, { name := "Index", type := 34, offset := 4, embedded := false, tag := "", pkgPath := "", byteOffset := 32 }, { name := "LogTerm", type := 34, offset := 5, embedded := false, tag := "", pkgPath := "", byteOffset := 40 }, { name := "Commit", type := 34, offset := 6, embedded := false, tag := "", pkgPath := "", byteOffset := 48 }, { name := "Ok", type := 4, offset := 7, embedded := false, tag := "", pkgPath := "", byteOffset := 56 }, { name := "Entries", type := 35, offset := 8, embedded := false, tag := "", pkgPath := "", byteOffset := 64 }, { name := "Conf", type := 36, offset := 9, embedded := false, tag := "", pkgPath := "", byteOffset := 88 }, { name := "Offset", type := 3, offset := 10, embedded := false, tag := "", pkgPath := "", byteOffset := 112 }, { name := "Size", type := 3, offset := 11, embedded := false, tag := "", pkgPath := "", byteOffset := 120 }, { name := "Data", type := 9, offset := 12, embedded := false, tag := "", pkgPath := "", byteOffset := 128 }] [(0, 1), (1, 1), (2, 1), (3, 1), (4, 1), (5, 1), (6, 1), (7, 1), (8, 1), (9, 1), (10, 1), (11, 1), (12, 1)] := ⟨Tryz.underlying38, by kernel_rfl, by kernel_rfl⟩
instance : HBld Tryz.prog 49 #[{ name := "Id", type := 3, offset := 0, embedded := false, tag := "", pkgPath := "", byteOffset := 0 }, { name := "Term", type := 34, offset := 1, embedded := false, tag := "", pkgPath := "", byteOffset := 8 }, { name := "Vote", type := 3, offset := 2, embedded := false, tag := "", pkgPath := "", byteOffset := 16 }, { name := "Role", type := 3, offset := 3, embedded := false, tag := "", pkgPath := "", byteOffset := 24 }, { name := "Leader", type := 3, offset := 4, embedded := false, tag := "", pkgPath := "", byteOffset := 32 }, { name := "Log", type := 46, offset := 5, embedded := false, tag := "", pkgPath := "", byteOffset := 40 }, { name := "Image", type := 9, offset := 9, embedded := false, tag := "", pkgPath := "", byteOffset := 104 }, { name := "Commit", type := 34, offset := 10, embedded := false, tag := "", pkgPath := "", byteOffset := 120 }, { name := "Ticks", type := 3, offset := 11, embedded := false, tag := "", pkgPath := "", byteOffset := 128 }, { name := "Timeout", type := 3, offset := 12, embedded := false, tag := "", pkgPath := "", byteOffset := 136 }, { name := "Votes", type := 36, offset := 13, embedded := false, tag := "", pkgPath := "", byteOffset := 144 }, { name := "Peers", type := 47, offset := 14, embedded := false, tag := "", pkgPath := "", byteOffset := 168 }, { name := "Piece", type := 9, offset := 15, embedded := false, tag := "", pkgPath := "", byteOffset := 192 }, { name := "PieceIndex", type := 34, offset := 16, embedded := false, tag := "", pkgPath := "", byteOffset := 208 }, { name := "PieceTerm", type := 34, offset := 17, embedded := false, tag := "", pkgPath := "", byteOffset := 216 }] [(0, 1), (1, 1), (2, 1), (3, 1), (4, 1), (5, 4), (9, 1), (10, 1), (11, 1), (12, 1), (13, 1), (14, 1), (15, 1), (16, 1), (17, 1)] := ⟨Tryz.underlying49, by kernel_rfl, by kernel_rfl⟩
instance : HBld Tryz.prog 91 #[{ name := "Raft", type := 49, offset := 0, embedded := true, tag := "", pkgPath := "", byteOffset := 0 }, { name := "out", type := 29, offset := 18, embedded := false, tag := "", pkgPath := "posthorn/raft", byteOffset := 224 }] [(0, 18), (18, 1)] := ⟨Tryz.underlying91, by kernel_rfl, by kernel_rfl⟩
end Go.Proofs.YtodcghipfolejaaGreat.Rf
namespace Go.Proofs.YtodcghipfolejaaGreat.Rf
open Go Go.Sl
theorem peekBS {F : Snap} {w : World} {H : List As} {b o n : Nat} {cs : Array Value} {te : TypeId} {fr : Nat × Nat} (hw : Hp F w H) (hb : F.heap b = some (.cells cs te fr)) : PeekC (hp w) (some ⟨b, o, none⟩) (sl cs o n) := by
 have h1 := hw.keep b _ hb
 refine ⟨⟨b, o, none⟩, rfl, fun j u hu => ?_⟩
 have h2 : cs[o + j]? = some u := by
  unfold sl at hu
  rw [List.getElem?_take] at hu
  split at hu
  ·rw [List.getElem?_drop, Array.getElem?_toList] at hu; exact hu
  ·cases hu
 show (hp w).cell? _ = _
 unfold Heap.cell?
 have e : (Addr.add ⟨b, o, none⟩ j) = ⟨b, o + j, none⟩ := by unfold Addr.add; split <;> simp_all
 rw [e]
 simp only
 rw [h1]
 simpa using h2
theorem Sat.two2 {h : Heap} {A B : List As} (hs : ∃ bs, Sat h (A ++ B) bs) : (∃ bs, Sat h A bs) ∧ ∃ bs, Sat h B bs := by
 obtain ⟨bs, hs⟩ := hs
 obtain ⟨ba, bb, _, ha, hb⟩ := Sat.split hs
 exact ⟨⟨ba, ha⟩, ⟨bb, hb⟩⟩
def PrP (r : List Pr) (v : Value) (A : List As) : Prop := ∃ a c, v = .slice a r.length c ∧ A = [OwnP a r c]
theorem rdR_some {h : Heap} {a : Option Addr} {l : List Pr} {i : Nat} (r : RdS h a (prV l)) (hi : i < l.length) : ∃ ad, a = some ad := rec_some (C := prC) r prC_len (by decide) hi
theorem CloneP_ct (l : List Pr) (a : Option Addr) (c : Nat) (hl : l.length ≤ 1000000000) : Ct Tryz.prog 52 [.slice a l.length c] (fun h => RdS h a (prV l)) [] (PrP l) := by
 refine ct_enter 8 Tryz.func52 rfl rfl rfl ?_
 intro F hrd
 repeat refine x_ ?_
 refine a_ ?_
 repeat refine x_ ?_
 refine m_ ?_
 refine f_ (s_eql_slnil rfl rfl) ?_
 repeat refine n_ ?_
 cases a with
 | none =>
  obtain rfl : l = [] := by
   cases l with
   | nil => rfl
   | cons x r => obtain ⟨ad, h⟩ := rdR_some (i := 0) hrd (by simp); cases h
  repeat refine x_ ?_
  refine a_ ?_
  repeat refine n_ ?_
  refine g_ret ?_
  refine g_end_own 100 4 ?_
  exact at_end1 rfl rfl [OwnP none [] 0] ⟨none, 0, rfl, rfl⟩ (fun _ h => h)
 | some ad =>
  repeat refine x_ ?_
  refine gl_buildSlice0 rfl ?_; intro a5
  refine m_ ?_
  refine gl_append rfl rfl (fun a' c' => .here) (fun w hw => hrd.le hw.keep) (prV_len l) rfl rfl (prV_one l) (by show (_ + _) * 32 ≤ _; omega) (by omega) rfl ?_; intro a2 c2 hc2
  refine a_ ?_
  repeat refine n_ ?_
  refine g_ret ?_
  rw [Nat.zero_add, List.nil_append]
  exact at_end1 rfl rfl _ ⟨a2, c2, rfl, rfl⟩ (fun _ h => h)
abbrev OwnS (p : RP) (a : RA) : List As := [OwnL a.la p.l a.lc, OwnC a.ca p.conf a.cc, OwnC a.va p.votes a.vc, OwnP a.pa p.peers a.pc]
def RsP (p : RP) (v : Value) (A : List As) : Prop := ∃ a, v = rsV p a ∧ A = OwnS p a
structure PSm (p : RP) : Prop where
 conf : p.conf.length ≤ 1000000
 l : p.l.length ≤ 1000000
 votes : p.votes.length ≤ 1000000
 peers : p.peers.length ≤ 1000000
theorem PFit.sm {p : RP} (h : PFit p) : PSm p := ⟨by have := h.cl; omega, by have := h.len; omega, by have := h.votes; omega, h.peers⟩
structure RRd (h : Heap) (p : RP) (a : RA) : Prop where
 rc : RdS h a.ca (intsV p.conf)
 rl : RdS h a.la (enV p.l)
 rv : RdS h a.va (intsV p.votes)
 rp : RdS h a.pa (prV p.peers)
theorem RRd.le {h h' : Heap} {p : RP} {a : RA} (f : RRd h p a) (l : Heap.le h h') : RRd h' p a := ⟨f.rc.le l, f.rl.le l, f.rv.le l, f.rp.le l⟩
set_option maxRecDepth 8000 in
set_option maxHeartbeats 1000000 in
theorem rclone_ct (p : RP) (a : RA) (hs : PSm p) : Ct Tryz.prog 34 [rsV p a] (fun h => RRd h p a) [] (RsP p) := by
 have h1 := hs.conf
 have h2 := hs.l
 have h3 := hs.votes
 have h4 := hs.peers
 refine ct_enter 24 Tryz.func34 rfl rfl rfl ?_
 intro F hr
 repeat refine x_ ?_
 refine gl_boxA rfl rfl ?_; intro g1
 refine gl_allocA rfl ?_; intro g2
 repeat refine x_ ?_
 refine f_ z_1 ?_
 refine f_ z_1 ?_
 refine r_ (by exact s_load_blk rfl z_2 a18_7) ?_
 refine gl_call _ rfl (CloneI_ct p.conf a.ca a.cc (by omega)) i_ (fun h hh _ => hr.rc.le hh) rfl ?_; rintro v A ⟨ca, cc, rfl, rfl⟩
 refine f_ z_1 ?_
 refine f_ z_1 ?_
 (refine gl_store_blkC (pre := [_, _, _, _, _, _, _]) (post := [_, _, _, _, _, _, _, _, _, _]) rfl rfl z_5 z_7 z_7 z_7 ?_)
 repeat refine x_ ?_
 refine f_ z_1 ?_
 refine f_ z_1 ?_
 refine r_ (by exact s_load_blk rfl z_2 a18_8) ?_
 refine gl_call _ rfl (CloneE_ct p.l a.la a.lc (by omega)) i_ (fun h hh _ => hr.rl.le hh) rfl ?_; rintro v A ⟨la, lc, rfl, rfl⟩
 refine f_ z_1 ?_
 refine f_ z_1 ?_
 (refine gl_store_blkC (pre := [_, _, _, _, _, _, _, _]) (post := [_, _, _, _, _, _, _, _, _]) rfl rfl z_5 z_7 z_7 z_7 ?_)
 repeat refine x_ ?_
 refine f_ z_1 ?_
 refine r_ (by exact s_load_blk rfl z_2 a18_13) ?_
 refine gl_call _ rfl (CloneI_ct p.votes a.va a.vc (by omega)) i_ (fun h hh _ => hr.rv.le hh) rfl ?_; rintro v A ⟨va, vc, rfl, rfl⟩
 refine f_ z_1 ?_
 (refine gl_store_blkC (pre := [_, _, _, _, _, _, _, _, _, _, _, _, _]) (post := [_, _, _, _]) rfl rfl z_5 z_7 z_7 z_7 ?_)
 repeat refine x_ ?_
 refine f_ z_1 ?_
 refine r_ (by exact s_load_blk rfl z_2 a18_14) ?_
 refine gl_call _ rfl (CloneP_ct p.peers a.pa a.pc (by omega)) i_ (fun h hh _ => hr.rp.le hh) rfl ?_; rintro v A ⟨pa, pc, rfl, rfl⟩
 refine f_ z_1 ?_
 (refine gl_store_blkC (pre := [_, _, _, _, _, _, _, _, _, _, _, _, _, _]) (post := [_, _, _]) rfl rfl z_5 z_7 z_7 z_7 ?_)
 repeat refine x_ ?_
 refine r_ z_14 ?_
 (refine gl_store_blkW rfl rfl z_5 z_7 z_7 z_3 ?_)
 repeat refine n_ ?_
 refine g_ret ?_
 exact at_endB rfl rfl z_2 rfl (OwnS p ⟨ca, cc, la, lc, va, vc, pa, pc⟩) ⟨⟨ca, cc, la, lc, va, vc, pa, pc⟩, rfl, rfl⟩ (fun w hw => Hp.left (hw.perm (perm_up z_2 (perm_up z_2 (perm_up z_2 (perm_up z_2 (.refl _)))))))
theorem Members_ct (p : RP) (a : RA) (hf : PFit p) (hc : p.l.length ≤ a.lc) : Ct Tryz.prog 13 [rsV p a] (fun h => (p.lm a).ok h) [] (LsP (confL p)) := by
 have hcn := confAt_any p a (lastI p.g)
 refine ct_enter 12 Tryz.func13 rfl rfl rfl ?_
 intro F hr
 repeat refine x_ ?_
 refine gl_boxA rfl rfl ?_; intro g1
 refine a_ ?_
 repeat refine x_ ?_
 refine f_ z_1 ?_
 refine r_ ((s_load_blkN rfl z_2 z_7).eq (v' := (p.lm a).v) rfl) ?_
 refine gl_call _ rfl (Conf_ct (p.lm a) (hf.fit a hc) (hf.datL a)) i_ (fun h hh _ => hr.le hh) rfl ?_; rw [show lastI (p.lm a) = lastI p.g from rfl, hcn]; rintro v A ⟨ca, cc, rfl, rfl⟩
 refine m_ ?_
 refine f_ (s_extract rfl rfl) ?_
 refine f_ (s_extract rfl rfl) ?_
 refine a_ ?_
 refine a_ ?_
 repeat refine x_ ?_
 refine m_ ?_
 refine a_ ?_
 repeat refine n_ ?_
 refine g_ret ?_
 exact at_end1 rfl rfl [OwnC ca (confL p) cc] ⟨ca, cc, rfl, rfl⟩ (fun w hw => Hp.left hw)
theorem rend_ct (X : Nat) (d : MD) (hf : PFit d.p) (hc : d.p.l.length ≤ d.a.lc) : Pu Tryz.prog 100 [Ptr X] (fun h => h X = some (mdO d) ∧ RdS h d.a.la (enV d.p.l)) (.int .u64 (lastI d.p.g)) := by
 refine ct_enter 15 Tryz.func100 rfl rfl rfl ?_
 intro F ⟨hX, hl⟩
 repeat refine x_ ?_
 refine a_ ?_
 repeat refine x_ ?_
 refine m_ ?_
 refine f_ (s_nilCheck rfl) ?_
 refine f_ z_1 ?_
 refine f_ z_1 ?_
 refine r_ ((s_loadN (n := 4) rfl (fun w hw => peekBS (o := 5) (n := 4) hw hX) z_7).eq (v' := (d.p.lm d.a).v) rfl) ?_
 refine gl_callp rfl (Last_ct (d.p.lm d.a) (hf.fit d.a hc)) (fun h hh _ => hl.le hh) rfl ?_; rw [show lastI (d.p.lm d.a) = lastI d.p.g from rfl]
 refine m_ ?_
 refine f_ (s_extract rfl rfl) ?_
 refine f_ (s_extract rfl rfl) ?_
 refine a_ ?_
 refine a_ ?_
 repeat refine x_ ?_
 refine m_ ?_
 refine a_ ?_
 repeat refine n_ ?_
 refine g_ret ?_
 exact at_end1 rfl rfl [] ⟨rfl, rfl⟩ (fun _ h => h)
set_option maxRecDepth 8000 in
set_option maxHeartbeats 1000000 in
theorem follow_ct (X : Nat) (d : MD) (t n : Int) : Ct Tryz.prog 56 [Ptr X, .int .u64 t, .int .i64 n] (fun _ => True) (mdH X d) (MdP X d (followP d.p t n) [] (.tuple #[])) := by
 refine ct_enter 39 Tryz.func56 rfl rfl rfl ?_
 intro F _
 obtain ⟨q, hq⟩ : ∃ q, q = decide (d.p.term < t) := ⟨_, rfl⟩
 repeat refine x_ ?_
 refine m_ ?_
 refine m_ ?_
 refine f_ (s_nilCheck rfl) ?_
 refine f_ z_1 ?_
 refine f_ z_1 ?_
 refine r_ (by exact s_load_blk rfl z_2 a19_1) ?_
 refine f_ ((s_gtr rfl rfl).eb hq) ?_
 repeat refine n_ ?_
 cases q
 ·have e : followP d.p t n = { d.p with role := 0, leader := n, votes := [], peers := [] } := by
   have := of_decide_eq_false hq.symm
   unfold followP; rw [if_neg this, if_neg this]
  rw [e]
  repeat refine x_ ?_
  refine m_ ?_
  refine m_ ?_
  refine m_ ?_
  refine m_ ?_
  refine m_ ?_
  refine f_ (s_nilCheck rfl) ?_
  refine f_ z_1 ?_
  refine f_ z_1 ?_
  (refine gl_store_blkC (pre := [_, _, _]) (post := [_, _, _, _, _, _, _, _, _, _, _, _, _, _, _]) rfl rfl z_5 z_7 z_7 z_7 ?_)
  refine f_ (s_nilCheck rfl) ?_
  refine f_ z_1 ?_
  refine f_ z_1 ?_
  (refine gl_store_blkC (pre := [_, _, _, _]) (post := [_, _, _, _, _, _, _, _, _, _, _, _, _, _]) rfl rfl z_5 z_7 z_7 z_7 ?_)
  refine f_ (s_nilCheck rfl) ?_
  refine f_ z_1 ?_
  refine f_ z_1 ?_
  (refine gl_store_blkC (pre := [_, _, _, _, _, _, _, _, _, _, _, _, _]) (post := [_, _, _, _, _]) rfl rfl z_5 z_7 z_7 z_7 ?_)
  refine f_ (s_nilCheck rfl) ?_
  refine f_ z_1 ?_
  refine f_ z_1 ?_
  (refine gl_store_blkC (pre := [_, _, _, _, _, _, _, _, _, _, _, _, _, _]) (post := [_, _, _, _]) rfl rfl z_5 z_7 z_7 z_7 ?_)
  repeat refine n_ ?_
  refine g_end_own 3 1 ?_
  refine g_end_own 100 4 ?_
  exact at_end0 rfl _ (MdP.same X d ⟨{ d.p with role := 0, leader := n, votes := [], peers := [] }, { d.a with va := none, vc := 0, pa := none, pc := 0 }, d.outs, d.oa, d.oc⟩ _ rfl) (fun w hw => by rw [List.append_nil]; exact Hp.left (R := [OwnC d.a.va d.p.votes d.a.vc, OwnP d.a.pa d.p.peers d.a.pc]) (hw.perm (perm_up z_2 (perm_up z_2 (perm_up z_2 (perm_up z_2 (perm_up z_2 (perm_up z_2 (.refl _)))))))))
 ·have e : followP d.p t n = { d.p with term := t, vote := 0, role := 0, leader := n, votes := [], peers := [] } := by
   have := of_decide_eq_true hq.symm
   unfold followP; rw [if_pos this, if_pos this]
  rw [e]
  repeat refine x_ ?_
  refine m_ ?_
  refine m_ ?_
  refine m_ ?_
  refine f_ (s_nilCheck rfl) ?_
  refine f_ z_1 ?_
  refine f_ z_1 ?_
  (refine gl_store_blkC (pre := [_]) (post := [_, _, _, _, _, _, _, _, _, _, _, _, _, _, _, _, _]) rfl rfl z_5 z_7 z_7 z_7 ?_)
  refine f_ (s_nilCheck rfl) ?_
  refine f_ z_1 ?_
  refine f_ z_1 ?_
  (refine gl_store_blkC (pre := [_, _]) (post := [_, _, _, _, _, _, _, _, _, _, _, _, _, _, _, _]) rfl rfl z_5 z_7 z_7 z_7 ?_)
  repeat refine x_ ?_
  refine m_ ?_
  refine m_ ?_
  refine m_ ?_
  refine m_ ?_
  refine m_ ?_
  refine f_ (s_nilCheck rfl) ?_
  refine f_ z_1 ?_
  refine f_ z_1 ?_
  (refine gl_store_blkC (pre := [_, _, _]) (post := [_, _, _, _, _, _, _, _, _, _, _, _, _, _, _]) rfl rfl z_5 z_7 z_7 z_7 ?_)
  refine f_ (s_nilCheck rfl) ?_
  refine f_ z_1 ?_
  refine f_ z_1 ?_
  (refine gl_store_blkC (pre := [_, _, _, _]) (post := [_, _, _, _, _, _, _, _, _, _, _, _, _, _]) rfl rfl z_5 z_7 z_7 z_7 ?_)
  refine f_ (s_nilCheck rfl) ?_
  refine f_ z_1 ?_
  refine f_ z_1 ?_
  (refine gl_store_blkC (pre := [_, _, _, _, _, _, _, _, _, _, _, _, _]) (post := [_, _, _, _, _]) rfl rfl z_5 z_7 z_7 z_7 ?_)
  refine f_ (s_nilCheck rfl) ?_
  refine f_ z_1 ?_
  refine f_ z_1 ?_
  (refine gl_store_blkC (pre := [_, _, _, _, _, _, _, _, _, _, _, _, _, _]) (post := [_, _, _, _]) rfl rfl z_5 z_7 z_7 z_7 ?_)
  repeat refine n_ ?_
  refine g_end_own 3 1 ?_
  refine g_end_own 100 4 ?_
  exact at_end0 rfl _ (MdP.same X d ⟨{ d.p with term := t, vote := 0, role := 0, leader := n, votes := [], peers := [] }, { d.a with va := none, vc := 0, pa := none, pc := 0 }, d.outs, d.oa, d.oc⟩ _ rfl) (fun w hw => by rw [List.append_nil]; exact Hp.left (R := [OwnC d.a.va d.p.votes d.a.vc, OwnP d.a.pa d.p.peers d.a.pc]) (hw.perm (perm_up z_2 (perm_up z_2 (perm_up z_2 (perm_up z_2 (perm_up z_2 (perm_up z_2 (.refl _)))))))))
abbrev mdHn (X : Nat) (p : RP) (a : RA) (n : Nat) (xs : List Value) (oa : Option Addr) (oc : Nat) : List As := [.blk X (.cells #[.int .i64 p.id, .int .u64 p.term, .int .i64 p.vote, .int .i64 p.role, .int .i64 p.leader, .int .u64 p.base, .int .u64 p.bt, .slice a.ca p.conf.length a.cc, .slice a.la p.l.length a.lc, B p.img, .int .u64 p.commit, .int .i64 p.ticks, .int .i64 p.tout, .slice a.va p.votes.length a.vc, .slice a.pa p.peers.length a.pc, B p.piece, .int .u64 p.pix, .int .u64 p.pt, .slice oa n oc] 91), OwnL a.la p.l a.lc, OwnC a.ca p.conf a.cc, OwnC a.va p.votes a.vc, OwnP a.pa p.peers a.pc, .own (.slice oa n oc) 38 13 xs]
theorem mdH_snoc (X : Nat) (p : RP) (a : RA) (outs : List MM) (m : MM) (oa : Option Addr) (oc : Nat) : mdH X ⟨p, a, outs ++ [m], oa, oc⟩ = mdHn X p a (outs.length + 1) (mmV outs ++ mmC m) oa oc := by
 have e1 : (outs ++ [m]).length = outs.length + 1 := by simp
 have e2 : mmV (outs ++ [m]) = mmV outs ++ mmC m := by rw [mmV_append]; simp
 show mdHn X p a (outs ++ [m]).length (mmV (outs ++ [m])) oa oc = _
 rw [e1, e2]
abbrev sayM (d : MD) (n : Int) (m : MM) : MM := { m with p := { m.p with frm := d.p.id, to := n, term := d.p.term } }
def SayP (X : Nat) (d : MD) (m : MM) (v : Value) (A : List As) : Prop := v = .tuple #[] ∧ ∃ oa oc, A = mdH X ⟨d.p, d.a, d.outs ++ [m], oa, oc⟩
set_option maxRecDepth 8000 in
set_option maxHeartbeats 1000000 in
theorem say_ct (X : Nat) (d : MD) (n : Int) (m : MM) (ho : d.outs.length ≤ 100000000) : Ct Tryz.prog 94 [Ptr X, .int .i64 n, mmA m] (fun _ => True) (mdH X d) (SayP X d (sayM d n m)) := by
 refine ct_enter 30 Tryz.func94 rfl rfl rfl ?_
 intro F _
 repeat refine x_ ?_
 refine gl_boxA rfl rfl ?_; intro g5
 repeat refine n_ ?_
 refine g_draw ([4, 10], [0, 1, 3, 7, 15, 0, 0, 64, 192, 448, 960, 31, 2079, 6207, 14399, 32767, 65535], [12, 14, 16]) [.blk X (mdO d)] 17 rfl ?_
 refine w_ 0 rfl (s_move rfl) ?_
 refine w_ 1 rfl (s_nilCheck rfl) ?_
 refine w_ 2 rfl z_1 ?_
 refine w_ 3 rfl z_1 ?_
 (refine ga_read_k 4 rfl z_11 (s_load_blk rfl .del a19_0) k_ rfl rfl rfl z_4 ?_)
 refine w_ 5 rfl (s_move rfl) ?_
 refine w_ 6 rfl (s_move rfl) ?_
 refine w_ 7 rfl (s_nilCheck rfl) ?_
 refine w_ 8 rfl z_1 ?_
 refine w_ 9 rfl z_1 ?_
 (refine ga_read_k 10 rfl z_11 (s_load_blk rfl .del a19_1) k_ rfl rfl rfl z_4 ?_)
 refine w_ 11 rfl z_1 ?_
 refine ga_one 12 rfl z_4 ?_
 (refine gl_store_blkC (pre := [_]) (post := [_, _, _, _, _, _, _, _, _, _, _]) rfl rfl z_5 z_7 z_7 z_7 ?_)
 refine gl_nil ?_
 refine at_ga (.inr (by exact keeps_of k_)) ?_
 refine w_ 13 rfl z_1 ?_
 refine ga_one 14 rfl z_4 ?_
 (refine gl_store_blkC (pre := [_, _]) (post := [_, _, _, _, _, _, _, _, _, _]) rfl rfl z_5 z_7 z_7 z_7 ?_)
 refine gl_nil ?_
 refine at_ga (.inr (by exact keeps_of k_)) ?_
 refine w_ 15 rfl z_1 ?_
 refine ga_one 16 rfl z_4 ?_
 (refine gl_store_blkC (pre := [_, _, _]) (post := [_, _, _, _, _, _, _, _, _]) rfl rfl z_5 z_7 z_7 z_7 ?_)
 refine gl_nil ?_
 refine at_ga (.inl z_4) ?_
 refine ga_done z_4 ?_
 repeat refine y_ ?_
 refine g_draw ([4, 5], [0, 0, 2, 6, 14, 0, 32, 126, 255, 511, 1023], [6, 7, 10]) [.blk g5 (.cells #[.int .i64 m.p.kind, .int .i64 d.p.id, .int .i64 n, .int .u64 d.p.term, .int .u64 m.p.index, .int .u64 m.p.lt, .int .u64 m.p.commit, .bool m.p.ok, .slice m.ea m.p.ents.length m.ec, .slice m.ka m.p.conf.length m.kc, .int .i64 m.p.off, .int .i64 m.p.size, B m.p.data] 38), .blk X (mdO d)] 11 rfl ?_
 refine w_ 0 rfl (s_move rfl) ?_
 refine w_ 1 rfl (s_move rfl) ?_
 refine w_ 2 rfl (s_nilCheck rfl) ?_
 refine w_ 3 rfl z_1 ?_
 (refine ga_read_k 4 rfl z_9 (s_load_blk rfl .del a19_18) k_ rfl rfl rfl z_4 ?_)
 (refine ga_read_k 5 rfl z_11 (s_load_blkW rfl .del z_7) k_ rfl rfl rfl z_4 ?_)
 refine ga_one 6 rfl z_4 ?_
 refine gl_buildSliceU rfl rfl rfl rfl rfl rfl (xs := mmC (sayM d n m)) rfl rfl ?_; intro a26 ha26
 refine gl_nil ?_
 refine at_ga (.inr (by exact keeps_of k_)) ?_
 refine ga_one 7 rfl z_4 ?_
 refine gl_append (sz := 13) rfl rfl (fun a' c' => z_5) (fun w hw => (hw.ownN z_2).2.2.1) rfl rfl rfl (mmC_one _) (by show (_ + 1) * 144 ≤ _; omega) (by omega) rfl ?_; intro a27 c27 hc27
 refine gl_nil ?_
 refine at_ga (.inl z_4) ?_
 refine w_ 8 rfl (s_nilCheck rfl) ?_
 refine w_ 9 rfl z_1 ?_
 refine ga_one 10 rfl z_4 ?_
 (refine gl_store_blkC (pre := [_, _, _, _, _, _, _, _, _, _, _, _, _, _, _, _, _, _]) (post := []) rfl rfl z_5 z_7 z_7 z_7 ?_)
 refine gl_nil ?_
 refine at_ga (.inl z_4) ?_
 refine ga_done z_4 ?_
 repeat refine y_ ?_
 exact at_end0 rfl _ ⟨rfl, a27, c27, rfl⟩ (fun w hw => by rw [mdH_snoc]; exact hw.drop.drop)
end Go.Proofs.YtodcghipfolejaaGreat.Rf
namespace Go.Proofs.YtodcghipfolejaaGreat.Rf
open Go Go.Sl
set_option maxRecDepth 8000 in
set_option maxHeartbeats 1000000 in
theorem may_ct (X : Nat) (d : MD) (hf : PFit d.p) (hc : d.p.l.length ≤ d.a.lc) : Ct Tryz.prog 54 [Ptr X] (fun h => h X = some (mdO d) ∧ (d.p.lm d.a).ok h) [] (fun v A => v = .bool (mayP d.p) ∧ A = []) := by
 have hcn := hf.cn (lastI d.p.g)
 have hca := hf.ca (lastI d.p.g)
 refine ct_enter 44 Tryz.func54 rfl rfl rfl ?_
 intro F hF
 have hX := hF.1
 have hg := hF.2
 obtain ⟨cl, hcl⟩ : ∃ l, l = (confAt d.p.g (lastI d.p.g)) := ⟨_, rfl⟩
 have hm : mayP d.p = (inB cl.1 d.p.id || (decide (d.p.commit < cl.2) && inB (confAt d.p.g (cl.2 - 1)).1 d.p.id)) := by rw [hcl]; rfl
 rw [hm]
 rw [← hcl] at hcn hca
 obtain ⟨q1, hq1⟩ : ∃ q, q = inB cl.1 d.p.id := ⟨_, rfl⟩
 obtain ⟨q2, hq2⟩ : ∃ q, q = decide (d.p.commit < cl.2) := ⟨_, rfl⟩
 repeat refine x_ ?_
 refine a_ ?_
 repeat refine x_ ?_
 refine m_ ?_
 refine f_ (s_nilCheck rfl) ?_
 refine f_ z_1 ?_
 refine f_ z_1 ?_
 refine r_ ((s_loadN (n := 4) rfl (fun w hw => peekBS (o := 5) (n := 4) hw hX) z_7).eq (v' := (d.p.lm d.a).v) rfl) ?_
 refine gl_call _ rfl (Conf_ct (d.p.lm d.a) (hf.fit d.a hc) (hf.datL d.a)) i_ (fun h hh _ => hg.le hh) rfl ?_; rw [show lastI (d.p.lm d.a) = lastI d.p.g from rfl, confAt_any, ← hcl]; rintro v A ⟨ca, cc, rfl, rfl⟩
 refine m_ ?_
 refine f_ (s_extract rfl rfl) ?_
 refine f_ (s_extract rfl rfl) ?_
 refine a_ ?_
 refine a_ ?_
 repeat refine x_ ?_
 refine m_ ?_
 refine m_ ?_
 refine f_ (s_nilCheck rfl) ?_
 refine f_ z_1 ?_
 refine f_ z_1 ?_
 refine r_ (by exact s_load1 rfl (fun w hw => peekB hw (by assumption) a19_0)) ?_
 refine gl_callp rfl (Contains_ct cl.1 d.p.id ca cc (by omega)) (fun h hh ⟨bs, hb⟩ => Sat.rd (a := ca) hb z_2) rfl ?_; rw [← hq1]
 repeat refine n_ ?_
 rw [← hq2]
 cases q1
 rotate_left
 ·repeat refine y_ ?_
  refine g_region ?_
  refine a_ ?_
  repeat refine n_ ?_
  refine g_ret ?_
  exact at_end1 rfl rfl [] ⟨rfl, rfl⟩ (fun _ h => h.dropAll)
 cases q2
 ·repeat refine y_ ?_
  refine g_draw ([5, 12, 20], [0, 0, 2, 6, 14, 30, 63, 127, 255, 511, 1023, 2047, 4095, 255, 8447, 32767, 255, 65791, 196863, 459007, 983295, 2097151, 4194303, 8388607], []) [] 24 rfl ?_
  refine w_ 0 rfl (s_move rfl) ?_
  refine w_ 1 rfl (s_move rfl) ?_
  refine w_ 2 rfl (s_nilCheck rfl) ?_
  refine w_ 3 rfl z_1 ?_
  refine w_ 4 rfl z_1 ?_
  (refine ga_readF 5 rfl (s_load1 rfl (fun w hw => peekB hw (by assumption) a19_10)) k_ rfl rfl rfl z_4 ?_)
  refine w_ 6 rfl ((s_gtr rfl rfl).eb hq2) ?_
  refine w_ 7 rfl (s_move rfl) ?_
  (refine s_ 8 ?_)
  (refine s_ 9 ?_)
  (refine s_ 10 ?_)
  (refine s_ 11 ?_)
  (refine s_ 12 ?_)
  (refine s_ 13 ?_)
  (refine s_ 14 ?_)
  (refine s_ 16 ?_)
  (refine s_ 17 ?_)
  (refine s_ 18 ?_)
  (refine s_ 19 ?_)
  (refine s_ 20 ?_)
  refine ga_one 15 rfl z_4 ?_
  (refine gl_guard_no rfl rfl rfl rfl rfl rfl rfl ?_)
  refine gl_nil ?_
  refine at_ga (.inr (by exact keeps_of k_)) ?_
  refine ga_one 21 rfl z_4 ?_
  (refine gl_guard_no rfl rfl rfl rfl rfl rfl rfl ?_)
  refine gl_nil ?_
  refine at_ga (.inl z_4) ?_
  refine w_ 22 rfl z_12 ?_
  refine w_ 23 rfl (s_assign rfl) ?_
  refine ga_done z_4 ?_
  repeat refine y_ ?_
  refine g_ret ?_
  exact at_end1 rfl rfl [] ⟨rfl, rfl⟩ (fun _ h => h.dropAll)
 ·have h1 : d.p.commit < cl.2 := of_decide_eq_true hq2.symm
  have h2 := hf.commit
  repeat refine y_ ?_
  refine g_draw ([5, 12, 20], [0, 0, 2, 6, 14, 30, 63, 127, 255, 511, 1023, 2047, 4095, 255, 8447, 32767, 255, 65791, 196863, 459007, 983295, 2097151, 4194303, 8388607], []) [] 24 rfl ?_
  refine w_ 0 rfl (s_move rfl) ?_
  refine w_ 1 rfl (s_move rfl) ?_
  refine w_ 2 rfl (s_nilCheck rfl) ?_
  refine w_ 3 rfl z_1 ?_
  refine w_ 4 rfl z_1 ?_
  (refine ga_readF 5 rfl (s_load1 rfl (fun w hw => peekB hw (by assumption) a19_10)) k_ rfl rfl rfl z_4 ?_)
  refine w_ 6 rfl ((s_gtr rfl rfl).eb hq2) ?_
  refine w_ 7 rfl (s_move rfl) ?_
  (refine ga_free_g 8 rfl (s_move rfl) rfl rfl rfl rfl rfl rfl z_4 ?_)
  (refine ga_free_g 9 rfl (s_nilCheck rfl) rfl rfl rfl rfl rfl rfl z_4 ?_)
  (refine ga_free_g 10 rfl z_1 rfl rfl rfl rfl rfl rfl z_4 ?_)
  (refine ga_free_g 11 rfl z_1 rfl rfl rfl rfl rfl rfl z_4 ?_)
  (refine ga_readF_g 12 rfl ((s_loadN (n := 4) rfl (fun w hw => peekBS (o := 5) (n := 4) hw hX) z_7).eq (v' := (d.p.lm d.a).v) rfl) k_ rfl rfl rfl rfl rfl rfl z_4 ?_)
  (refine ga_free_g 13 rfl (s_move rfl) rfl rfl rfl rfl rfl rfl z_4 ?_)
  (refine ga_free_g 14 rfl (s_sub_u64 rfl rfl (by omega)) rfl rfl rfl rfl rfl rfl z_4 ?_)
  (refine ga_free_g 16 rfl (s_move rfl) rfl rfl rfl rfl rfl rfl z_4 ?_)
  (refine ga_free_g 17 rfl (s_nilCheck rfl) rfl rfl rfl rfl rfl rfl z_4 ?_)
  (refine ga_free_g 18 rfl z_1 rfl rfl rfl rfl rfl rfl z_4 ?_)
  (refine ga_free_g 19 rfl z_1 rfl rfl rfl rfl rfl rfl z_4 ?_)
  (refine ga_readF_g 20 rfl (s_load1 rfl (fun w hw => peekB hw (by assumption) a19_0)) k_ rfl rfl rfl rfl rfl rfl z_4 ?_)
  refine ga_one 15 rfl z_4 ?_
  (refine v_ ?_; refine gl_call _ rfl (ConfAt_ct (d.p.lm d.a) (cl.2 - 1) (hf.fit d.a hc) (hf.datL d.a) (by omega)) i_ (fun h hh _ => hg.le hh) rfl ?_; rw [confAt_any]; rintro v A ⟨da, dc, rfl, rfl⟩)
  refine gl_nil ?_
  refine at_ga (.inr (by exact keeps_of k_)) ?_
  refine ga_one 21 rfl z_4 ?_
  (refine v_ ?_; refine gl_callp rfl (Contains_ct (confAt d.p.g (cl.2 - 1)).1 d.p.id da dc (by have := hf.cn (cl.2 - 1); omega)) (fun h hh ⟨bs, hb⟩ => Sat.rd (a := da) hb z_2) rfl ?_)
  refine gl_nil ?_
  refine at_ga (.inl z_4) ?_
  refine w_ 22 rfl z_13 ?_
  refine w_ 23 rfl (s_assign rfl) ?_
  refine ga_done z_4 ?_
  repeat refine y_ ?_
  refine g_ret ?_
  exact at_end1 rfl rfl [] ⟨by simp, rfl⟩ (fun _ h => h.dropAll)
def OutP (X : Nat) (p : RP) (a : RA) (outs : List MM) (new : List MP) (v : Value) (A : List As) : Prop :=
 v = .tuple #[] ∧ ∃ ms oa oc Z, ms.map MM.p = new ∧ A = mdH X ⟨p, a, outs ++ ms, oa, oc⟩ ++ Z ∧ ∀ h, (∃ bs, Sat h Z bs) → ∀ m ∈ ms, MOk h m
structure QFit (p : RP) (q : Pr) : Prop where
 next : 1 ≤ q.next ∧ q.next ≤ 4611686018427387904
 off : 0 ≤ q.off ∧ q.off ≤ p.img.length
theorem piece_ok (h : Heap) (p : RP) (q : Pr) (ca : Option Addr) (cc : Nat) (hs : RdS h ca (intsV p.conf)) : MOk h ⟨pieceP p q, none, 0, ca, cc⟩ := ⟨RdS.nil _ _, hs, Nat.le_refl _⟩
set_option maxRecDepth 8000 in
set_option maxHeartbeats 2000000 in
theorem update_ct (X : Nat) (d : MD) (q : Pr) (hf : PFit d.p) (hq : QFit d.p q) (ho : d.outs.length ≤ 10000000) : Ct Tryz.prog 88 [Ptr X, prA q] (fun _ => True) (mdH X d) (OutP X d.p d.a d.outs [updateP d.p q]) := by
 have hi := hf.img
 have hb := hf.base
 have hcl := hf.cl
 obtain ⟨n1, n2⟩ := hq.next
 obtain ⟨o1, o2⟩ := hq.off
 refine ct_enter 83 Tryz.func88 rfl rfl rfl ?_
 intro F _
 refine g_ownN (a := d.a.la) z_2 (fun _ hcap _ => ?_)
 have hfit := hf.fit d.a hcap
 obtain ⟨b, hbq⟩ : ∃ b, b = decide (q.next ≤ d.p.base) := ⟨_, rfl⟩
 repeat refine x_ ?_
 refine gl_boxA rfl rfl ?_; intro g3
 repeat refine x_ ?_
 refine m_ ?_
 refine f_ (s_nilCheck rfl) ?_
 refine f_ z_1 ?_
 refine f_ z_1 ?_
 refine r_ ((s_load_blkN rfl z_2 z_7).eq (v' := (d.p.lm d.a).v) rfl) ?_
 refine gl_allocA rfl ?_; intro g4
 (refine gl_store_blkW rfl rfl z_5 z_7 z_7 z_3 ?_)
 repeat refine x_ ?_
 refine f_ z_1 ?_
 refine r_ (by exact s_load_blk rfl z_2 a4_1) ?_
 refine f_ z_1 ?_
 refine r_ (by exact s_load_blk rfl z_2 a4_0) ?_
 refine f_ ((s_leq rfl rfl).eb hbq) ?_
 repeat refine n_ ?_
 cases b
 rotate_left
 ·have h1 : q.next ≤ d.p.base := of_decide_eq_true hbq.symm
  have e : updateP d.p q = pieceP d.p q := if_pos h1
  rw [e]
  obtain ⟨k, hk⟩ : ∃ k : Int, k = min (d.p.img.length : Int) (q.off + 4096) := ⟨_, rfl⟩
  repeat refine y_ ?_
  refine g_draw ([4, 7], [0, 1, 3, 7, 15, 31, 0, 64, 192, 511, 1023], []) [.blk X (mdO d), .blk g3 (.cells #[.int .i64 q.node, .int .u64 q.next, .int .u64 q.mtc, .int .i64 q.off] 100)] 11 rfl ?_
  refine w_ 0 rfl (s_move rfl) ?_
  refine w_ 1 rfl (s_nilCheck rfl) ?_
  refine w_ 2 rfl z_1 ?_
  refine w_ 3 rfl z_1 ?_
  (refine ga_read_k 4 rfl z_11 (s_load_blk rfl .del a19_9) k_ rfl rfl rfl z_4 ?_)
  refine w_ 5 rfl (s_len_str rfl) ?_
  refine w_ 6 rfl z_1 ?_
  (refine ga_read_k 7 rfl z_9 (s_load_blk rfl .del a4_3) k_ rfl rfl rfl z_4 ?_)
  refine w_ 8 rfl (s_add_i64 rfl rfl (by omega)) ?_
  refine w_ 9 rfl ((s_min2 rfl rfl).eq (v' := .int .i64 k) (by rw [hk])) ?_
  refine w_ 10 rfl (s_assign rfl) ?_
  refine ga_done z_4 ?_
  repeat refine y_ ?_
  refine g_draw ([2, 4, 6, 8, 11, 16, 22, 24], [0, 0, 2, 0, 8, 0, 32, 0, 128, 384, 0, 1024, 0, 4096, 12288, 28672, 61440, 126976, 0, 262144, 786432, 1835008, 3932160, 0, 8388608, 0, 66846720, 134217720, 268435455], [9, 28]) [.blk X (mdO d), .blk g4 (.cells #[.int .u64 d.p.base, .int .u64 d.p.bt, .slice d.a.ca d.p.conf.length d.a.cc, .slice d.a.la d.p.l.length d.a.lc] 46), .blk g3 (.cells #[.int .i64 q.node, .int .u64 q.next, .int .u64 q.mtc, .int .i64 q.off] 100)] 29 rfl ?_
  refine w_ 0 rfl (s_move rfl) ?_
  refine w_ 1 rfl z_1 ?_
  (refine ga_read_k 2 rfl z_17 (s_load_blk rfl .del a4_0) k_ rfl rfl rfl z_4 ?_)
  refine w_ 3 rfl z_1 ?_
  (refine ga_read_k 4 rfl z_9 (s_load_blk rfl .del a4_0) k_ rfl rfl rfl z_4 ?_)
  refine w_ 5 rfl z_1 ?_
  (refine ga_read_k 6 rfl z_9 (s_load_blk rfl .del a4_1) k_ rfl rfl rfl z_4 ?_)
  refine w_ 7 rfl z_1 ?_
  (refine ga_read_k 8 rfl z_9 (s_load_blk rfl .del a4_2) k_ rfl rfl rfl z_4 ?_)
  refine w_ 10 rfl z_1 ?_
  (refine ga_read_k 11 rfl z_17 (s_load_blk rfl .del a4_3) k_ rfl rfl rfl z_4 ?_)
  refine w_ 12 rfl (s_move rfl) ?_
  refine w_ 13 rfl (s_nilCheck rfl) ?_
  refine w_ 14 rfl z_1 ?_
  refine w_ 15 rfl z_1 ?_
  (refine ga_read_k 16 rfl z_11 (s_load_blk rfl .del a19_9) k_ rfl rfl rfl z_4 ?_)
  refine w_ 17 rfl (s_len_str rfl) ?_
  refine w_ 18 rfl (s_move rfl) ?_
  refine w_ 19 rfl (s_nilCheck rfl) ?_
  refine w_ 20 rfl z_1 ?_
  refine w_ 21 rfl z_1 ?_
  (refine ga_read_k 22 rfl z_11 (s_load_blk rfl .del a19_9) k_ rfl rfl rfl z_4 ?_)
  refine w_ 23 rfl z_1 ?_
  (refine ga_read_k 24 rfl z_17 (s_load_blk rfl .del a4_3) k_ rfl rfl rfl z_4 ?_)
  refine w_ 25 rfl (s_move rfl) ?_
  refine w_ 26 rfl ((s_slice_str rfl rfl rfl ⟨by omega, by omega, by omega⟩).eq (v' := B (pieceP d.p q).data) (congrArg B (List.take_eq_take_iff.2 (by rw [List.length_drop, hk]; omega)))) ?_
  refine ga_one 9 rfl z_4 ?_
  refine gl_call _ rfl (CloneI_ct d.p.conf d.a.ca d.a.cc (by omega)) i_ (fun h hh ⟨bs, hs⟩ => Sat.rd (a := d.a.ca) hs z_2) rfl ?_; rintro v A ⟨ka, kc, rfl, rfl⟩
  refine gl_nil ?_
  refine at_ga (.inr (by exact keeps_of k_)) ?_
  refine w_ 27 rfl ((s_bld (cells := (mmC ⟨{ pieceP d.p q with frm := 0, to := 0, term := 0 }, none, 0, ka, kc⟩).toArray) rfl z_4).eq (v' := mmA ⟨{ pieceP d.p q with frm := 0, to := 0, term := 0 }, none, 0, ka, kc⟩) rfl) ?_
  refine ga_one 28 rfl z_4 ?_
  refine gl_call [OwnC ka d.p.conf kc, .blk g4 (.cells #[.int .u64 d.p.base, .int .u64 d.p.bt, .slice d.a.ca d.p.conf.length d.a.cc, .slice d.a.la d.p.l.length d.a.lc] 46), .blk g3 (.cells #[.int .i64 q.node, .int .u64 q.next, .int .u64 q.mtc, .int .i64 q.off] 100)] rfl (say_ct X d q.node ⟨{ pieceP d.p q with frm := 0, to := 0, term := 0 }, none, 0, ka, kc⟩ (by omega)) (fun w hw => hw.perm (perm_up z_2 (perm_up z_2 (perm_up z_2 (perm_up z_2 (perm_up z_2 (perm_up z_2 (.refl _)))))))) (fun _ _ _ => trivial) rfl ?_; rintro v A ⟨rfl, oa, oc, rfl⟩
  refine gl_nil ?_
  refine at_ga (.inl z_4) ?_
  refine ga_done z_4 ?_
  repeat refine y_ ?_
  refine g_ret ?_
  exact at_end0 rfl (mdH X ⟨d.p, d.a, d.outs ++ [⟨pieceP d.p q, none, 0, ka, kc⟩], oa, oc⟩ ++ [OwnC ka d.p.conf kc]) ⟨rfl, [⟨pieceP d.p q, none, 0, ka, kc⟩], oa, oc, _, rfl, rfl, fun h ⟨bs, hs⟩ m hm => by
   rw [List.mem_singleton.1 hm]
   exact piece_ok h d.p q ka kc (Sat.rd (a := ka) hs z_2)⟩ (fun w hw => Hp.left (R := [_, _]) hw)
 have h1 : ¬ q.next ≤ d.p.base := of_decide_eq_false hbq.symm
 have e : updateP d.p q = appendP d.p q := if_neg h1
 rw [e]
 repeat refine x_ ?_
 refine r_ ((s_load_blkW rfl z_2 z_7).eq (v' := (d.p.lm d.a).v) rfl) ?_
 refine f_ z_1 ?_
 refine r_ (by exact s_load_blk rfl z_2 a4_1) ?_
 refine f_ (s_sub_u64 rfl rfl (by omega)) ?_
 refine gl_callp rfl (Term_ct (d.p.lm d.a) (q.next - 1) hfit (by omega)) (fun h hh ⟨bs, hs⟩ => Sat.rd (a := d.a.la) hs z_2) rfl ?_; rw [show termV (d.p.lm d.a) (q.next - 1) = termV d.p.g (q.next - 1) from rfl, show hasL (d.p.lm d.a) (q.next - 1) = hasL d.p.g (q.next - 1) from rfl]
 refine m_ ?_
 refine f_ (s_extract rfl rfl) ?_
 refine f_ (s_extract rfl rfl) ?_
 refine a_ ?_
 refine a_ ?_
 repeat refine n_ ?_
 refine g_draw ([2, 4, 7, 9, 15], [0, 0, 2, 0, 8, 24, 0, 0, 0, 256, 896, 0, 2048, 6144, 14336, 30720, 65528, 131071], [10, 17]) [.blk X (mdO d), .blk g4 (.cells #[.int .u64 d.p.base, .int .u64 d.p.bt, .slice d.a.ca d.p.conf.length d.a.cc, .slice d.a.la d.p.l.length d.a.lc] 46), .blk g3 (.cells #[.int .i64 q.node, .int .u64 q.next, .int .u64 q.mtc, .int .i64 q.off] 100)] 18 rfl ?_
 refine w_ 0 rfl (s_move rfl) ?_
 refine w_ 1 rfl z_1 ?_
 (refine ga_read_k 2 rfl z_17 (s_load_blk rfl .del a4_0) k_ rfl rfl rfl z_4 ?_)
 refine w_ 3 rfl z_1 ?_
 (refine ga_read_k 4 rfl z_17 (s_load_blk rfl .del a4_1) k_ rfl rfl rfl z_4 ?_)
 refine w_ 5 rfl (s_sub_u64 rfl rfl (by omega)) ?_
 refine w_ 6 rfl (s_move rfl) ?_
 refine ga_read_k 7 rfl z_9 ((s_load_blkW rfl .del z_7).eq (v' := (d.p.lm d.a).v) rfl) k_ rfl rfl rfl z_4 ?_
 refine w_ 8 rfl z_1 ?_
 (refine ga_read_k 9 rfl z_17 (s_load_blk rfl .del a4_1) k_ rfl rfl rfl z_4 ?_)
 refine w_ 11 rfl (s_move rfl) ?_
 refine w_ 12 rfl (s_nilCheck rfl) ?_
 refine w_ 13 rfl z_1 ?_
 refine w_ 14 rfl z_1 ?_
 (refine ga_read_k 15 rfl z_11 (s_load_blk rfl .del a19_10) k_ rfl rfl rfl z_4 ?_)
 refine ga_one 10 rfl z_4 ?_
 refine gl_call _ rfl (Slice_ct (d.p.lm d.a) q.next 8 hfit (by omega) (by omega)) i_ (fun h hh ⟨bs, hs⟩ => Sat.rd (a := d.a.la) hs z_2) rfl ?_; rw [show sliceL (d.p.lm d.a) q.next 8 = sliceL d.p.g q.next 8 from rfl]; rintro v A ⟨ea, ec, rfl, rfl⟩; refine gl_ownN (a := ea) .del (fun _ hec _ => ?_)
 refine gl_nil ?_
 refine at_ga (.inr (by exact keeps_of k_)) ?_
 refine w_ 16 rfl ((s_bld (cells := (mmC ⟨{ appendP d.p q with frm := 0, to := 0, term := 0 }, ea, ec, none, 0⟩).toArray) rfl z_4).eq (v' := mmA ⟨{ appendP d.p q with frm := 0, to := 0, term := 0 }, ea, ec, none, 0⟩) rfl) ?_
 refine ga_one 17 rfl z_4 ?_
 refine gl_call [OwnL ea (sliceL d.p.g q.next 8) ec, .blk g4 (.cells #[.int .u64 d.p.base, .int .u64 d.p.bt, .slice d.a.ca d.p.conf.length d.a.cc, .slice d.a.la d.p.l.length d.a.lc] 46), .blk g3 (.cells #[.int .i64 q.node, .int .u64 q.next, .int .u64 q.mtc, .int .i64 q.off] 100)] rfl (say_ct X d q.node ⟨{ appendP d.p q with frm := 0, to := 0, term := 0 }, ea, ec, none, 0⟩ (by omega)) (fun w hw => hw.perm (perm_up z_2 (perm_up z_2 (perm_up z_2 (perm_up z_2 (perm_up z_2 (perm_up z_2 (.refl _)))))))) (fun _ _ _ => trivial) rfl ?_; rintro v A ⟨rfl, oa, oc, rfl⟩
 refine gl_nil ?_
 refine at_ga (.inl z_4) ?_
 refine ga_done z_4 ?_
 repeat refine y_ ?_
 exact at_end0 rfl (mdH X ⟨d.p, d.a, d.outs ++ [⟨appendP d.p q, ea, ec, none, 0⟩], oa, oc⟩ ++ [OwnL ea (sliceL d.p.g q.next 8) ec]) ⟨rfl, [⟨appendP d.p q, ea, ec, none, 0⟩], oa, oc, _, rfl, rfl, fun h ⟨bs, hs⟩ m hm => by
  rw [List.mem_singleton.1 hm]
  exact ⟨Sat.rd (a := ea) hs z_2, RdS.nil _ _, hec⟩⟩ (fun w hw => Hp.left (R := [_, _]) hw)
end Go.Proofs.YtodcghipfolejaaGreat.Rf
