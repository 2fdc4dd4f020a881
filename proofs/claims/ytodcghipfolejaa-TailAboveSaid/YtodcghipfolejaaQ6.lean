/- The walks of has, members, the reference's Commit. -/
import Derived.Test.YtodcghipfolejaaQ5
import Derived.Test.YtodcghipfolejaaQ2
namespace Go.Proofs.Ytodcghipfolejaa
open Go Go.Sl
set_option linter.unusedVariables false
set_option linter.unusedSimpArgs false

theorem who_succ {hs : List At2} {x : Int} {k : Nat} (hk : k < hs.length) : whoL (hs.take (k + 1)) x = whoL (hs.take k) x ++ if x ≤ (hs.getD k (0, 0)).2 then [(hs.getD k (0, 0)).1] else [] := by
  rw [take_succ_at hk, whoL, List.filter_append, List.map_append, whoL]
  congr 1
  simp only [List.filter_cons, List.filter_nil]
  split <;> simp_all
theorem who_le (hs : List At2) (x : Int) : (whoL hs x).length ≤ hs.length := by
  rw [whoL, List.length_map]; exact List.length_filter_le _ _

theorem has_ct (hs : List At2) (x : Int) (b : Option Addr) (d : Nat) (hh : hs.length ≤ 1000000000000) : Ct Try.prog 25 [.slice b hs.length d, .int .u64 x] (fun h => RdS h b (atV hs)) [] (LsP (whoL hs x)) := by
  refine ct_enter 29 Try.func25 rfl rfl rfl ?_
  intro F hrd
  repeat (first | refine g_seq ?_ | refine at_code ?_ | refine g_skip ?_ | refine g_block ?_ | refine g_exit rfl ?_ | refine g_cond_t rfl ?_ | refine g_cond_f rfl ?_)
  refine g_region ?_
  refine gl_f (s_assign rfl) rfl rfl rfl ?_
  refine gl_nil ?_
  repeat (first | refine g_seq ?_ | refine at_code ?_ | refine g_skip ?_ | refine g_block ?_ | refine g_exit rfl ?_ | refine g_cond_t rfl ?_ | refine g_cond_f rfl ?_)
  refine g_region ?_
  refine gl_f (s_assign rfl) rfl rfl rfl ?_
  refine gl_nil ?_
  repeat (first | refine g_seq ?_ | refine at_code ?_ | refine g_skip ?_ | refine g_block ?_ | refine g_exit rfl ?_ | refine g_cond_t rfl ?_ | refine g_cond_f rfl ?_)
  refine g_region ?_
  refine gl_f (s_assign rfl) rfl rfl rfl ?_
  refine gl_nil ?_
  repeat (first | refine g_seq ?_ | refine at_code ?_ | refine g_skip ?_ | refine g_block ?_ | refine g_exit rfl ?_ | refine g_cond_t rfl ?_ | refine g_cond_f rfl ?_)
  refine g_own_nil 3 1 ?_
  refine g_loop (ι := Nat × Option Addr × Nat) (fun i => i.1 ≤ hs.length) (fun i => [(0, .slice b hs.length d), (1, .int .u64 x), (5, .slice i.2.1 (whoL (hs.take i.1) x).length i.2.2), (6, .int .i64 (i.1 : Nat))]) (fun i => [.own (.slice i.2.1 (whoL (hs.take i.1) x).length i.2.2) 3 1 (intsV (whoL (hs.take i.1) x))]) (fun i => hs.length - i.1) (0, none, 0) (by omega) ?_ ?_ ?_
  · (repeat (first | exact Sub.nil _ | refine Sub.cons rfl ?_))
  · intro w hw; exact hw
  · rintro ⟨k, a, c⟩ hk
    have hpl := who_le (hs.take k) x
    rw [List.length_take] at hpl
    simp only at hk
    have hpl' : (whoL (List.take (k, a, c).fst hs) x).length ≤ 1000000000000 := by show (whoL (hs.take k) x).length ≤ _; omega
    repeat (first | refine g_seq ?_ | refine at_code ?_ | refine g_skip ?_ | refine g_block ?_ | refine g_exit rfl ?_ | refine g_cond_t rfl ?_ | refine g_cond_f rfl ?_)
    refine g_region ?_
    refine gl_f (s_move rfl) rfl rfl rfl ?_
    refine gl_f (s_move rfl) rfl rfl rfl ?_
    refine gl_f (s_len_sl rfl) rfl rfl rfl ?_
    refine gl_f (s_lss rfl rfl) rfl rfl rfl ?_
    refine gl_nil ?_
    repeat (first | refine g_seq ?_ | refine at_code ?_ | refine g_skip ?_ | refine g_block ?_ | refine g_exit rfl ?_ | refine g_cond_t rfl ?_ | refine g_cond_f rfl ?_)
    refine g_cond rfl (fun h => ?_) (fun h => ?_)
    · have hk' : k < hs.length := by simp at h; omega
      have hsome := rdA_some hrd hk'
      repeat (first | refine g_seq ?_ | refine at_code ?_ | refine g_skip ?_ | refine g_block ?_ | refine g_exit rfl ?_ | refine g_cond_t rfl ?_ | refine g_cond_f rfl ?_)
      refine g_region ?_
      refine gl_f (s_move rfl) rfl rfl rfl ?_
      refine gl_f (s_move rfl) rfl rfl rfl ?_
      refine gl_f (s_indexAddr rfl (by assumption) rfl (by omega)) rfl rfl rfl ?_
      refine gl_f (s_fieldAddr_o rfl hsome (by rfl) (by infer_instance) (by decide)) rfl rfl rfl ?_
      refine gl_r (s_load1 rfl (fun w hw => rdA1 hw hrd (i := k) (by omega) hk')) rfl rfl rfl ?_
      refine gl_f (s_move rfl) rfl rfl rfl ?_
      refine gl_f (s_geq rfl rfl) rfl rfl rfl ?_
      refine gl_nil ?_
      repeat (first | refine g_seq ?_ | refine at_code ?_ | refine g_skip ?_ | refine g_block ?_ | refine g_exit rfl ?_ | refine g_cond_t rfl ?_ | refine g_cond_f rfl ?_)
      refine g_cond rfl (fun h2 => ?_) (fun h2 => ?_)
      · have h3 : x ≤ (hs.getD k (0, 0)).2 := of_decide_eq_true h2
        have e : whoL (hs.take (k + 1)) x = whoL (hs.take k) x ++ [(hs.getD k (0, 0)).1] := by rw [who_succ hk', if_pos h3]
        have el : (whoL (hs.take (k + 1)) x).length = (whoL (hs.take k) x).length + 1 := by rw [e]; simp
        repeat (first | refine g_seq ?_ | refine at_code ?_ | refine g_skip ?_ | refine g_block ?_ | refine g_exit rfl ?_ | refine g_cond_t rfl ?_ | refine g_cond_f rfl ?_)
        refine g_region ?_
        refine gl_f (s_move rfl) rfl rfl rfl ?_
        refine gl_f (s_move rfl) rfl rfl rfl ?_
        refine gl_f (s_move rfl) rfl rfl rfl ?_
        refine gl_f (s_indexAddr rfl (by assumption) rfl (by omega)) rfl rfl rfl ?_
        refine gl_f (s_fieldAddr_o rfl hsome (by rfl) (by infer_instance) (by decide)) rfl rfl rfl ?_
        refine gl_r (s_load1 rfl (fun w hw => rdA0 hw hrd (i := k) (by omega) hk')) rfl rfl rfl ?_
        refine gl_buildSliceU rfl rfl rfl rfl rfl rfl (xs := intsV [(hs.getD k (0, 0)).1]) rfl rfl ?_; intro a4 ha4
        refine gl_append rfl rfl (fun a' c' => .there .here) (fun w hw => (hw.ownN (by repeat first|exact .del|apply Upd.there)).2.2.1) rfl rfl rfl (intsV_one _) (by show (_ + 1) * 8 ≤ _; omega) (by omega) rfl ?_; intro a5 c5 hc5
        refine gl_f (s_assign rfl) rfl rfl rfl ?_
        refine gl_nil ?_
        repeat (first | refine g_seq ?_ | refine at_code ?_ | refine g_skip ?_ | refine g_block ?_ | refine g_exit rfl ?_ | refine g_cond_t rfl ?_ | refine g_cond_f rfl ?_)
        repeat (first | refine g_seq ?_ | refine at_code ?_ | refine g_skip ?_ | refine g_block ?_ | refine g_exit rfl ?_ | refine g_cond_t rfl ?_ | refine g_cond_f rfl ?_)
        refine g_region ?_
        refine gl_f (s_move rfl) rfl rfl rfl ?_
        refine gl_f (s_add_i64 rfl rfl (by omega)) rfl rfl rfl ?_
        refine gl_f (s_assign rfl) rfl rfl rfl ?_
        refine gl_nil ?_
        repeat (first | refine g_seq ?_ | refine at_code ?_ | refine g_skip ?_ | refine g_block ?_ | refine g_exit rfl ?_ | refine g_cond_t rfl ?_ | refine g_cond_f rfl ?_)
        refine at_next (k + 1, a5, c5) (by simp only; omega) (by simp only; omega) ?_ ?_
        · simp only [el]
          (repeat (first | exact Sub.nil _ | refine Sub.cons rfl ?_))
        · intro w hw
          simp only [el]
          rw [e, intsV_append]
          exact hw.drop
      · have h3 : ¬ x ≤ (hs.getD k (0, 0)).2 := of_decide_eq_false h2
        have e : whoL (hs.take (k + 1)) x = whoL (hs.take k) x := by rw [who_succ hk', if_neg h3, List.append_nil]
        repeat (first | refine g_seq ?_ | refine at_code ?_ | refine g_skip ?_ | refine g_block ?_ | refine g_exit rfl ?_ | refine g_cond_t rfl ?_ | refine g_cond_f rfl ?_)
        repeat (first | refine g_seq ?_ | refine at_code ?_ | refine g_skip ?_ | refine g_block ?_ | refine g_exit rfl ?_ | refine g_cond_t rfl ?_ | refine g_cond_f rfl ?_)
        refine g_region ?_
        refine gl_f (s_move rfl) rfl rfl rfl ?_
        refine gl_f (s_add_i64 rfl rfl (by omega)) rfl rfl rfl ?_
        refine gl_f (s_assign rfl) rfl rfl rfl ?_
        refine gl_nil ?_
        repeat (first | refine g_seq ?_ | refine at_code ?_ | refine g_skip ?_ | refine g_block ?_ | refine g_exit rfl ?_ | refine g_cond_t rfl ?_ | refine g_cond_f rfl ?_)
        refine at_next (k + 1, a, c) (by simp only; omega) (by simp only; omega) ?_ ?_
        · simp only [e]
          (repeat (first | exact Sub.nil _ | refine Sub.cons rfl ?_))
        · intro w hw
          simp only [e]
          exact hw
    · have hkl : k = hs.length := by simp at h; omega
      subst hkl
      simp only [List.take_length]
      repeat (first | refine g_seq ?_ | refine at_code ?_ | refine g_skip ?_ | refine g_block ?_ | refine g_exit rfl ?_ | refine g_cond_t rfl ?_ | refine g_cond_f rfl ?_)
      repeat (first | refine g_seq ?_ | refine at_code ?_ | refine g_skip ?_ | refine g_block ?_ | refine g_exit rfl ?_ | refine g_cond_t rfl ?_ | refine g_cond_f rfl ?_)
      refine g_region ?_
      refine gl_f (s_move rfl) rfl rfl rfl ?_
      refine gl_f (s_assign rfl) rfl rfl rfl ?_
      refine gl_nil ?_
      repeat (first | refine g_seq ?_ | refine at_code ?_ | refine g_skip ?_ | refine g_block ?_ | refine g_exit rfl ?_ | refine g_cond_t rfl ?_ | refine g_cond_f rfl ?_)
      refine g_ret ?_
      exact at_end1 rfl rfl [.own (.slice a (whoL hs x).length c) 3 1 (intsV (whoL hs x))] ⟨a, c, rfl, rfl⟩ (fun _ h => h)

/-- the members whose bits are set -/
def bitOf (bits m : Int) : Bool := decide (Go.bits .and .i64 (bits.fdiv (2 ^ (min (m - 1).toNat IntKind.i64.bits))) 1 = 1)
def memL (bits : Int) : List Int := pick (bitOf bits) 5
theorem members_ct (bits : Int) : Ct Try.prog 31 [.int .i64 bits] (fun _ => True) [] (LsP (memL bits)) := by
  refine ct_enter 20 Try.func31 rfl rfl rfl ?_
  intro F hrd
  repeat (first | refine g_seq ?_ | refine at_code ?_ | refine g_skip ?_ | refine g_block ?_ | refine g_exit rfl ?_ | refine g_cond_t rfl ?_ | refine g_cond_f rfl ?_)
  refine g_region ?_
  refine gl_f (s_assign rfl) rfl rfl rfl ?_
  refine gl_nil ?_
  repeat (first | refine g_seq ?_ | refine at_code ?_ | refine g_skip ?_ | refine g_block ?_ | refine g_exit rfl ?_ | refine g_cond_t rfl ?_ | refine g_cond_f rfl ?_)
  refine g_region ?_
  refine gl_f (s_assign rfl) rfl rfl rfl ?_
  refine gl_nil ?_
  repeat (first | refine g_seq ?_ | refine at_code ?_ | refine g_skip ?_ | refine g_block ?_ | refine g_exit rfl ?_ | refine g_cond_t rfl ?_ | refine g_cond_f rfl ?_)
  refine g_region ?_
  refine gl_f (s_assign rfl) rfl rfl rfl ?_
  refine gl_nil ?_
  repeat (first | refine g_seq ?_ | refine at_code ?_ | refine g_skip ?_ | refine g_block ?_ | refine g_exit rfl ?_ | refine g_cond_t rfl ?_ | refine g_cond_f rfl ?_)
  refine g_own_nil 3 1 ?_
  obtain ⟨p, hp⟩ : ∃ p : Int → Bool, p = bitOf bits := ⟨_, rfl⟩
  have hw5 : memL bits = pick p 5 := by rw [hp]; rfl
  rw [hw5]
  refine g_loop (ι := Nat × Option Addr × Nat) (fun i => i.1 ≤ 5) (fun i => [(0, .int .i64 bits), (3, .slice i.2.1 (pick p i.1).length i.2.2), (4, .int .i64 ((i.1 : Nat) + 1))]) (fun i => [.own (.slice i.2.1 (pick p i.1).length i.2.2) 3 1 (intsV (pick p i.1))]) (fun i => 5 - i.1) (0, none, 0) (by omega) ?_ ?_ ?_
  · (repeat (first | exact Sub.nil _ | refine Sub.cons rfl ?_))
  · intro w hw; exact hw
  · rintro ⟨k, b, d⟩ hk
    have hpl := pick_le p k
    simp only at hk
    have hpl' : (pick p (k, b, d).fst).length ≤ 1000000000000 := by show (pick p k).length ≤ _; omega
    repeat (first | refine g_seq ?_ | refine at_code ?_ | refine g_skip ?_ | refine g_block ?_ | refine g_exit rfl ?_ | refine g_cond_t rfl ?_ | refine g_cond_f rfl ?_)
    refine g_region ?_
    refine gl_f (s_move rfl) rfl rfl rfl ?_
    refine gl_f (s_leq rfl rfl) rfl rfl rfl ?_
    refine gl_nil ?_
    repeat (first | refine g_seq ?_ | refine at_code ?_ | refine g_skip ?_ | refine g_block ?_ | refine g_exit rfl ?_ | refine g_cond_t rfl ?_ | refine g_cond_f rfl ?_)
    refine g_cond rfl (fun h => ?_) (fun h => ?_)
    · have hk' : k < 5 := by simp at h; omega
      have hpk : p ((k : Int) + 1) = decide (Go.bits .and .i64 (bits.fdiv (2 ^ (min ((k : Int) + 1 - 1).toNat IntKind.i64.bits))) 1 = 1) := by rw [hp]; rfl
      repeat (first | refine g_seq ?_ | refine at_code ?_ | refine g_skip ?_ | refine g_block ?_ | refine g_exit rfl ?_ | refine g_cond_t rfl ?_ | refine g_cond_f rfl ?_)
      refine g_region ?_
      refine gl_f (s_move rfl) rfl rfl rfl ?_
      refine gl_f (s_move rfl) rfl rfl rfl ?_
      refine gl_f (s_sub_i64 rfl rfl (by omega)) rfl rfl rfl ?_
      refine gl_f (s_shr rfl rfl (by omega)) rfl rfl rfl ?_
      refine gl_f (s_bits (.inl rfl) rfl rfl) rfl rfl rfl ?_
      refine gl_f ((s_eql rfl rfl).eq (congrArg Value.bool hpk.symm)) rfl rfl rfl ?_
      refine gl_nil ?_
      repeat (first | refine g_seq ?_ | refine at_code ?_ | refine g_skip ?_ | refine g_block ?_ | refine g_exit rfl ?_ | refine g_cond_t rfl ?_ | refine g_cond_f rfl ?_)
      refine g_cond rfl (fun h2 => ?_) (fun h2 => ?_)
      · have e : pick p (k + 1) = pick p k ++ [(k : Int) + 1] := by rw [pick_succ, if_pos h2]
        have el : (pick p (k + 1)).length = (pick p k).length + 1 := by rw [e]; simp
        repeat (first | refine g_seq ?_ | refine at_code ?_ | refine g_skip ?_ | refine g_block ?_ | refine g_exit rfl ?_ | refine g_cond_t rfl ?_ | refine g_cond_f rfl ?_)
        refine g_region ?_
        refine gl_f (s_move rfl) rfl rfl rfl ?_
        refine gl_f (s_move rfl) rfl rfl rfl ?_
        refine gl_buildSliceU rfl rfl rfl rfl rfl rfl (xs := intsV [(k : Int) + 1]) rfl rfl ?_; intro a4 ha4
        refine gl_append rfl rfl (fun a' c' => .there .here) (fun w hw => (hw.ownN (by repeat first|exact .del|apply Upd.there)).2.2.1) rfl rfl rfl (intsV_one _) (by show (_ + 1) * 8 ≤ _; omega) (by omega) rfl ?_; intro a5 c5 hc5
        refine gl_f (s_assign rfl) rfl rfl rfl ?_
        refine gl_nil ?_
        repeat (first | refine g_seq ?_ | refine at_code ?_ | refine g_skip ?_ | refine g_block ?_ | refine g_exit rfl ?_ | refine g_cond_t rfl ?_ | refine g_cond_f rfl ?_)
        repeat (first | refine g_seq ?_ | refine at_code ?_ | refine g_skip ?_ | refine g_block ?_ | refine g_exit rfl ?_ | refine g_cond_t rfl ?_ | refine g_cond_f rfl ?_)
        refine g_region ?_
        refine gl_f (s_move rfl) rfl rfl rfl ?_
        refine gl_f (s_add_i64 rfl rfl (by omega)) rfl rfl rfl ?_
        refine gl_f (s_assign rfl) rfl rfl rfl ?_
        refine gl_nil ?_
        repeat (first | refine g_seq ?_ | refine at_code ?_ | refine g_skip ?_ | refine g_block ?_ | refine g_exit rfl ?_ | refine g_cond_t rfl ?_ | refine g_cond_f rfl ?_)
        refine at_next (k + 1, a5, c5) (by simp only; omega) (by simp only; omega) ?_ ?_
        · simp only [el]
          (repeat (first | exact Sub.nil _ | refine Sub.cons rfl ?_))
        · intro w hw
          simp only [el]
          rw [e, intsV_append]
          exact hw.drop
      · have e : pick p (k + 1) = pick p k := by rw [pick_succ, if_neg (by rw [h2]; simp), List.append_nil]
        repeat (first | refine g_seq ?_ | refine at_code ?_ | refine g_skip ?_ | refine g_block ?_ | refine g_exit rfl ?_ | refine g_cond_t rfl ?_ | refine g_cond_f rfl ?_)
        repeat (first | refine g_seq ?_ | refine at_code ?_ | refine g_skip ?_ | refine g_block ?_ | refine g_exit rfl ?_ | refine g_cond_t rfl ?_ | refine g_cond_f rfl ?_)
        refine g_region ?_
        refine gl_f (s_move rfl) rfl rfl rfl ?_
        refine gl_f (s_add_i64 rfl rfl (by omega)) rfl rfl rfl ?_
        refine gl_f (s_assign rfl) rfl rfl rfl ?_
        refine gl_nil ?_
        repeat (first | refine g_seq ?_ | refine at_code ?_ | refine g_skip ?_ | refine g_block ?_ | refine g_exit rfl ?_ | refine g_cond_t rfl ?_ | refine g_cond_f rfl ?_)
        refine at_next (k + 1, b, d) (by simp only; omega) (by simp only; omega) ?_ ?_
        · simp only [e]
          (repeat (first | exact Sub.nil _ | refine Sub.cons rfl ?_))
        · intro w hw
          simp only [e]
          exact hw
    · have hkl : k = 5 := by simp at h; omega
      subst hkl
      repeat (first | refine g_seq ?_ | refine at_code ?_ | refine g_skip ?_ | refine g_block ?_ | refine g_exit rfl ?_ | refine g_cond_t rfl ?_ | refine g_cond_f rfl ?_)
      repeat (first | refine g_seq ?_ | refine at_code ?_ | refine g_skip ?_ | refine g_block ?_ | refine g_exit rfl ?_ | refine g_cond_t rfl ?_ | refine g_cond_f rfl ?_)
      refine g_region ?_
      refine gl_f (s_move rfl) rfl rfl rfl ?_
      refine gl_f (s_assign rfl) rfl rfl rfl ?_
      refine gl_nil ?_
      repeat (first | refine g_seq ?_ | refine at_code ?_ | refine g_skip ?_ | refine g_block ?_ | refine g_exit rfl ?_ | refine g_cond_t rfl ?_ | refine g_cond_f rfl ?_)
      refine g_ret ?_
      exact at_end1 rfl rfl [.own (.slice b (pick p 5).length d) 3 1 (intsV (pick p 5))] ⟨b, d, rfl, rfl⟩ (fun _ h => h)

theorem bst_hit : ∀ (hs : List At2) (m : Int), 0 < bst hs m → ∃ p ∈ hs, p.2 = bst hs m := by
  intro hs m h
  have h1 := (bst_ge (hs := hs) (m := m) h).1 (Int.le_refl _)
  obtain ⟨p, hp, hm, hle⟩ := h1
  have h2 : ¬ bst hs m < p.2 := fun hlt => by
    have := (bst_ge (hs := hs) (m := m) (i := p.2) (by omega)).2 ⟨p, hp, hm, Int.le_refl _⟩
    omega
  exact ⟨p, hp, by omega⟩
structure ComI (l : List Int) (hs : List At2) (k : Nat) (best : Int) : Prop where
  pos : 0 ≤ best
  has : best = 0 ∨ mostB l (whoL hs best) = true
  all : ∀ j, j < k → mostB l (whoL hs (hs.getD j (0, 0)).2) = true → (hs.getD j (0, 0)).2 ≤ best
theorem comI_end {l : List Int} {hs : List At2} {best : Int} (h : ComI l hs hs.length best) : com l hs = best := by
  cases hr : rightB l with
  | false =>
    rw [com_no hr]
    rcases h.has with h1 | h1
    · exact h1.symm
    · simp [mostB, hr] at h1
  | true =>
    have hl := (right_len hr).1
    refine com_eq hr fun i => ?_
    constructor
    · intro hi
      rcases Int.lt_or_le 0 best with hb | hb
      · have h1 : mostB l (whoL hs best) = true := by rcases h.has with h1 | h1; omega; exact h1
        rw [who_most hr hb] at h1
        have := of_decide_eq_true h1
        have := cnt_mono (l := l) (hs := hs) hi
        omega
      · rw [cnt_all (by omega)]; omega
    · intro hc
      rcases Int.lt_or_le 0 i with hi | hi
      · obtain ⟨y, h1, ⟨m, hm, h2⟩, h3⟩ := least_best l hs i (by omega)
        obtain ⟨p, hp, h4⟩ := bst_hit hs m (by omega)
        obtain ⟨j, hj, e⟩ := List.mem_iff_getElem.1 hp
        have e2 : hs.getD j (0, 0) = p := by simp [hj, e]
        have := h.all j hj
        rw [e2, h4, h2, who_most hr (by omega), h3] at this
        have := this (by simpa using hc)
        omega
      · have := h.pos; omega

set_option maxHeartbeats 2000000 in
theorem rCommit_ct (l : List Int) (hs : List At2) (a b : Option Addr) (c d : Nat) (hl : l.length ≤ 4611686018427387903) (hh : hs.length ≤ 1000000000000) : Pu Try.prog 24 [.slice a l.length c, .slice b hs.length d] (RdLH a b l hs) (.int .u64 (com l hs)) := by
  refine ct_enter 52 Try.func24 rfl rfl rfl ?_
  intro F hr
  have hrl := hr.1
  have hrh := hr.2
  repeat (first | refine g_seq ?_ | refine at_code ?_ | refine g_skip ?_ | refine g_block ?_ | refine g_exit rfl ?_ | refine g_cond_t rfl ?_ | refine g_cond_f rfl ?_)
  refine g_region ?_
  refine gl_f (s_assign rfl) rfl rfl rfl ?_
  refine gl_nil ?_
  repeat (first | refine g_seq ?_ | refine at_code ?_ | refine g_skip ?_ | refine g_block ?_ | refine g_exit rfl ?_ | refine g_cond_t rfl ?_ | refine g_cond_f rfl ?_)
  refine g_region ?_
  refine gl_f (s_assign rfl) rfl rfl rfl ?_
  refine gl_nil ?_
  repeat (first | refine g_seq ?_ | refine at_code ?_ | refine g_skip ?_ | refine g_block ?_ | refine g_exit rfl ?_ | refine g_cond_t rfl ?_ | refine g_cond_f rfl ?_)
  refine g_region ?_
  refine gl_f (s_assign rfl) rfl rfl rfl ?_
  refine gl_nil ?_
  repeat (first | refine g_seq ?_ | refine at_code ?_ | refine g_skip ?_ | refine g_block ?_ | refine g_exit rfl ?_ | refine g_cond_t rfl ?_ | refine g_cond_f rfl ?_)
  refine g_loop (ι := Nat × Int) (fun i => i.1 ≤ hs.length ∧ ComI l hs i.1 i.2) (fun i => [(0, .slice a l.length c), (1, .slice b hs.length d), (5, .int .u64 i.2), (6, .int .i64 (i.1 : Nat))]) (fun i => []) (fun i => hs.length - i.1) (0, 0) ⟨by simp only; omega, by simp only; omega, .inl rfl, fun j hj => absurd hj (by simp)⟩ ?_ ?_ ?_
  · (repeat (first | exact Sub.nil _ | refine Sub.cons rfl ?_))
  · intro w hw; exact hw
  · rintro ⟨k, best⟩ ⟨hk, hI⟩
    simp only at hk hI
    repeat (first | refine g_seq ?_ | refine at_code ?_ | refine g_skip ?_ | refine g_block ?_ | refine g_exit rfl ?_ | refine g_cond_t rfl ?_ | refine g_cond_f rfl ?_)
    refine g_region ?_
    refine gl_f (s_move rfl) rfl rfl rfl ?_
    refine gl_f (s_move rfl) rfl rfl rfl ?_
    refine gl_f (s_len_sl rfl) rfl rfl rfl ?_
    refine gl_f (s_lss rfl rfl) rfl rfl rfl ?_
    refine gl_nil ?_
    repeat (first | refine g_seq ?_ | refine at_code ?_ | refine g_skip ?_ | refine g_block ?_ | refine g_exit rfl ?_ | refine g_cond_t rfl ?_ | refine g_cond_f rfl ?_)
    refine g_cond rfl (fun h => ?_) (fun h => ?_)
    · have hk' : k < hs.length := by simp at h; omega
      have hsome := rdA_some hrh hk'
      obtain ⟨x, hx⟩ : ∃ x, x = (hs.getD k (0, 0)).2 := ⟨_, rfl⟩
      repeat (first | refine g_seq ?_ | refine at_code ?_ | refine g_skip ?_ | refine g_block ?_ | refine g_exit rfl ?_ | refine g_cond_t rfl ?_ | refine g_cond_f rfl ?_)
      refine g_region ?_
      refine gl_f (s_move rfl) rfl rfl rfl ?_
      refine gl_f (s_move rfl) rfl rfl rfl ?_
      refine gl_f (s_indexAddr rfl (by assumption) rfl (by omega)) rfl rfl rfl ?_
      refine gl_f (s_fieldAddr_o rfl hsome (by rfl) (by infer_instance) (by decide)) rfl rfl rfl ?_
      refine gl_r ((s_load1 rfl (fun w hw => rdA1 hw hrh (i := k) (by omega) hk')).eq (congrArg (Value.int .u64) hx.symm)) rfl rfl rfl ?_
      refine gl_f (s_assign rfl) rfl rfl rfl ?_
      refine gl_nil ?_
      repeat (first | refine g_seq ?_ | refine at_code ?_ | refine g_skip ?_ | refine g_block ?_ | refine g_exit rfl ?_ | refine g_cond_t rfl ?_ | refine g_cond_f rfl ?_)
      repeat (first | refine g_seq ?_ | refine at_code ?_ | refine g_skip ?_ | refine g_block ?_ | refine g_exit rfl ?_ | refine g_cond_t rfl ?_ | refine g_cond_f rfl ?_)
      refine g_region ?_
      refine gl_f (s_assign rfl) rfl rfl rfl ?_
      refine gl_nil ?_
      repeat (first | refine g_seq ?_ | refine at_code ?_ | refine g_skip ?_ | refine g_block ?_ | refine g_exit rfl ?_ | refine g_cond_t rfl ?_ | refine g_cond_f rfl ?_)
      refine g_region ?_
      refine gl_f (s_assign rfl) rfl rfl rfl ?_
      refine gl_nil ?_
      repeat (first | refine g_seq ?_ | refine at_code ?_ | refine g_skip ?_ | refine g_block ?_ | refine g_exit rfl ?_ | refine g_cond_t rfl ?_ | refine g_cond_f rfl ?_)
      refine g_own_nil 3 1 ?_
      refine g_loop (ι := Nat × Option Addr × Nat) (fun i => i.1 ≤ hs.length) (fun i => [(0, .slice a l.length c), (1, .slice b hs.length d), (5, .int .u64 best), (6, .int .i64 (k : Nat)), (7, .int .u64 x), (8, .slice i.2.1 (whoL (hs.take i.1) x).length i.2.2), (9, .int .i64 (i.1 : Nat))]) (fun i => [.own (.slice i.2.1 (whoL (hs.take i.1) x).length i.2.2) 3 1 (intsV (whoL (hs.take i.1) x))]) (fun i => hs.length - i.1) (0, none, 0) (by simp only; omega) ?_ ?_ ?_
      · (repeat (first | exact Sub.nil _ | refine Sub.cons rfl ?_))
      · intro w hw; exact hw
      · rintro ⟨j, wa, wc⟩ hj
        have hpl := who_le (hs.take j) x
        rw [List.length_take] at hpl
        simp only at hj
        have hpl' : (whoL (List.take (j, wa, wc).fst hs) x).length ≤ 1000000000000 := by show (whoL (hs.take j) x).length ≤ _; omega
        repeat (first | refine g_seq ?_ | refine at_code ?_ | refine g_skip ?_ | refine g_block ?_ | refine g_exit rfl ?_ | refine g_cond_t rfl ?_ | refine g_cond_f rfl ?_)
        refine g_region ?_
        refine gl_f (s_move rfl) rfl rfl rfl ?_
        refine gl_f (s_move rfl) rfl rfl rfl ?_
        refine gl_f (s_len_sl rfl) rfl rfl rfl ?_
        refine gl_f (s_lss rfl rfl) rfl rfl rfl ?_
        refine gl_nil ?_
        repeat (first | refine g_seq ?_ | refine at_code ?_ | refine g_skip ?_ | refine g_block ?_ | refine g_exit rfl ?_ | refine g_cond_t rfl ?_ | refine g_cond_f rfl ?_)
        refine g_cond rfl (fun h => ?_) (fun h => ?_)
        · have hj' : j < hs.length := by simp at h; omega
          have hsome2 := rdA_some hrh hj'
          repeat (first | refine g_seq ?_ | refine at_code ?_ | refine g_skip ?_ | refine g_block ?_ | refine g_exit rfl ?_ | refine g_cond_t rfl ?_ | refine g_cond_f rfl ?_)
          refine g_region ?_
          refine gl_f (s_move rfl) rfl rfl rfl ?_
          refine gl_f (s_move rfl) rfl rfl rfl ?_
          refine gl_f (s_indexAddr rfl (by assumption) rfl (by omega)) rfl rfl rfl ?_
          refine gl_f (s_fieldAddr_o rfl hsome2 (by rfl) (by infer_instance) (by decide)) rfl rfl rfl ?_
          refine gl_r (s_load1 rfl (fun w hw => rdA1 hw hrh (i := j) (by omega) hj')) rfl rfl rfl ?_
          refine gl_f (s_move rfl) rfl rfl rfl ?_
          refine gl_f (s_geq rfl rfl) rfl rfl rfl ?_
          refine gl_nil ?_
          repeat (first | refine g_seq ?_ | refine at_code ?_ | refine g_skip ?_ | refine g_block ?_ | refine g_exit rfl ?_ | refine g_cond_t rfl ?_ | refine g_cond_f rfl ?_)
          refine g_cond rfl (fun h2 => ?_) (fun h2 => ?_)
          · have h3 : x ≤ (hs.getD j (0, 0)).2 := of_decide_eq_true h2
            have e : whoL (hs.take (j + 1)) x = whoL (hs.take j) x ++ [(hs.getD j (0, 0)).1] := by rw [who_succ hj', if_pos h3]
            have el : (whoL (hs.take (j + 1)) x).length = (whoL (hs.take j) x).length + 1 := by rw [e]; simp
            repeat (first | refine g_seq ?_ | refine at_code ?_ | refine g_skip ?_ | refine g_block ?_ | refine g_exit rfl ?_ | refine g_cond_t rfl ?_ | refine g_cond_f rfl ?_)
            refine g_region ?_
            refine gl_f (s_move rfl) rfl rfl rfl ?_
            refine gl_f (s_move rfl) rfl rfl rfl ?_
            refine gl_f (s_move rfl) rfl rfl rfl ?_
            refine gl_f (s_indexAddr rfl (by assumption) rfl (by omega)) rfl rfl rfl ?_
            refine gl_f (s_fieldAddr_o rfl hsome2 (by rfl) (by infer_instance) (by decide)) rfl rfl rfl ?_
            refine gl_r (s_load1 rfl (fun w hw => rdA0 hw hrh (i := j) (by omega) hj')) rfl rfl rfl ?_
            refine gl_buildSliceU rfl rfl rfl rfl rfl rfl (xs := intsV [(hs.getD j (0, 0)).1]) rfl rfl ?_; intro a4 ha4
            refine gl_append rfl rfl (fun a' c' => .there .here) (fun w hw => (hw.ownN (by repeat first|exact .del|apply Upd.there)).2.2.1) rfl rfl rfl (intsV_one _) (by show (_ + 1) * 8 ≤ _; omega) (by omega) rfl ?_; intro a5 c5 hc5
            refine gl_f (s_assign rfl) rfl rfl rfl ?_
            refine gl_nil ?_
            repeat (first | refine g_seq ?_ | refine at_code ?_ | refine g_skip ?_ | refine g_block ?_ | refine g_exit rfl ?_ | refine g_cond_t rfl ?_ | refine g_cond_f rfl ?_)
            repeat (first | refine g_seq ?_ | refine at_code ?_ | refine g_skip ?_ | refine g_block ?_ | refine g_exit rfl ?_ | refine g_cond_t rfl ?_ | refine g_cond_f rfl ?_)
            refine g_region ?_
            refine gl_f (s_move rfl) rfl rfl rfl ?_
            refine gl_f (s_add_i64 rfl rfl (by omega)) rfl rfl rfl ?_
            refine gl_f (s_assign rfl) rfl rfl rfl ?_
            refine gl_nil ?_
            repeat (first | refine g_seq ?_ | refine at_code ?_ | refine g_skip ?_ | refine g_block ?_ | refine g_exit rfl ?_ | refine g_cond_t rfl ?_ | refine g_cond_f rfl ?_)
            refine at_next (j + 1, a5, c5) (by simp only; omega) (by simp only; omega) ?_ ?_
            · simp only [el]
              (repeat (first | exact Sub.nil _ | refine Sub.cons rfl ?_))
            · intro w hw
              simp only [el]
              rw [e, intsV_append]
              exact hw.drop
          · have h3 : ¬ x ≤ (hs.getD j (0, 0)).2 := of_decide_eq_false h2
            have e : whoL (hs.take (j + 1)) x = whoL (hs.take j) x := by rw [who_succ hj', if_neg h3, List.append_nil]
            repeat (first | refine g_seq ?_ | refine at_code ?_ | refine g_skip ?_ | refine g_block ?_ | refine g_exit rfl ?_ | refine g_cond_t rfl ?_ | refine g_cond_f rfl ?_)
            repeat (first | refine g_seq ?_ | refine at_code ?_ | refine g_skip ?_ | refine g_block ?_ | refine g_exit rfl ?_ | refine g_cond_t rfl ?_ | refine g_cond_f rfl ?_)
            refine g_region ?_
            refine gl_f (s_move rfl) rfl rfl rfl ?_
            refine gl_f (s_add_i64 rfl rfl (by omega)) rfl rfl rfl ?_
            refine gl_f (s_assign rfl) rfl rfl rfl ?_
            refine gl_nil ?_
            repeat (first | refine g_seq ?_ | refine at_code ?_ | refine g_skip ?_ | refine g_block ?_ | refine g_exit rfl ?_ | refine g_cond_t rfl ?_ | refine g_cond_f rfl ?_)
            refine at_next (j + 1, wa, wc) (by simp only; omega) (by simp only; omega) ?_ ?_
            · simp only [e]
              (repeat (first | exact Sub.nil _ | refine Sub.cons rfl ?_))
            · intro w hw
              simp only [e]
              exact hw
        · have hjl : j = hs.length := by simp at h; omega
          subst hjl
          rw [List.take_length] at hpl
          repeat (first | refine g_seq ?_ | refine at_code ?_ | refine g_skip ?_ | refine g_block ?_ | refine g_exit rfl ?_ | refine g_cond_t rfl ?_ | refine g_cond_f rfl ?_)
          obtain ⟨q, hq⟩ : ∃ q, q = decide (best < x) := ⟨_, rfl⟩
          obtain ⟨r, hr⟩ : ∃ r, r = mostB l (whoL (hs.take hs.length) x) := ⟨_, rfl⟩
          refine g_cutK [(0, .slice a l.length c), (1, .slice b hs.length d), (5, .int .u64 best), (6, .int .i64 (k : Nat)), (7, .int .u64 x), (49, .bool (q && r))] [] ?_ ?_
          · cases q
            all_goals (
              repeat (first | refine g_seq ?_ | refine at_code ?_ | refine g_skip ?_ | refine g_block ?_ | refine g_exit rfl ?_ | refine g_cond_t rfl ?_ | refine g_cond_f rfl ?_)
              refine g_region ?_
              refine gl_f (s_move rfl) rfl rfl rfl ?_
              refine gl_f (s_move rfl) rfl rfl rfl ?_
              refine gl_f ((s_gtr rfl rfl).eq (congrArg Value.bool hq.symm)) rfl rfl rfl ?_
              refine gl_f (s_move rfl) rfl rfl rfl ?_
              (first | refine gl_guard_no rfl rfl rfl rfl rfl rfl rfl ?_ | refine gl_guard_un rfl rfl rfl rfl rfl rfl ?_ | (refine gl_guard_yes rfl rfl rfl ?_; refine gl_f (s_move rfl) rfl rfl rfl ?_))
              (first | refine gl_guard_no rfl rfl rfl rfl rfl rfl rfl ?_ | refine gl_guard_un rfl rfl rfl rfl rfl rfl ?_ | (refine gl_guard_yes rfl rfl rfl ?_; refine gl_f (s_move rfl) rfl rfl rfl ?_))
              (first | refine gl_guard_no rfl rfl rfl rfl rfl rfl rfl ?_ | refine gl_guard_un rfl rfl rfl rfl rfl rfl ?_ | (refine gl_guard_yes rfl rfl rfl ?_; refine gl_callp rfl (rMost_ct l (whoL (hs.take hs.length) x) a wa c wc (by omega) (by rw [List.take_length]; omega)) (fun h hh ⟨bs, hb⟩ => ⟨hrl.le hh, Sat.rd hb (by repeat first|exact .del|apply Upd.there)⟩) rfl ?_; rw [← hr]))
              refine gl_f (by first | exact s_pick_t rfl rfl | exact s_pick_f rfl rfl) rfl rfl rfl ?_
              refine gl_nil ?_
              repeat (first | refine g_seq ?_ | refine at_code ?_ | refine g_skip ?_ | refine g_block ?_ | refine g_exit rfl ?_ | refine g_cond_t rfl ?_ | refine g_cond_f rfl ?_))
            all_goals exact at_cut (by (repeat (first | exact Sub.nil _ | refine Sub.cons rfl ?_))) (fun w hw => hw.dropAll)
          · rw [List.take_length] at hr
            repeat (first | refine g_seq ?_ | refine at_code ?_ | refine g_skip ?_ | refine g_block ?_ | refine g_exit rfl ?_ | refine g_cond_t rfl ?_ | refine g_cond_f rfl ?_)
            have hnext : ComI l hs (k + 1) (if (q && r) = true then x else best) := by
              have hp := hI.pos
              refine ⟨?_, ?_, fun j hj hm => ?_⟩
              · split
                · rename_i h1
                  have : best < x := of_decide_eq_true (by rw [← hq]; cases q <;> simp_all)
                  omega
                · exact hI.pos
              · split
                · rename_i h1
                  right; rw [← hr]; cases r <;> simp_all
                · exact hI.has
              · rcases Nat.lt_succ_iff_lt_or_eq.1 hj with h4 | rfl
                · have := hI.all j h4 hm
                  split
                  · rename_i h1
                    have : best < x := of_decide_eq_true (by rw [← hq]; cases q <;> simp_all)
                    omega
                  · exact this
                · rw [← hx] at hm ⊢
                  rw [← hr] at hm
                  split
                  · exact Int.le_refl _
                  · rename_i h1
                    have : ¬ best < x := of_decide_eq_false (by rw [← hq]; cases q <;> simp_all)
                    omega
            refine g_cond rfl (fun h2 => ?_) (fun h2 => ?_)
            · rw [if_pos h2] at hnext
              repeat (first | refine g_seq ?_ | refine at_code ?_ | refine g_skip ?_ | refine g_block ?_ | refine g_exit rfl ?_ | refine g_cond_t rfl ?_ | refine g_cond_f rfl ?_)
              refine g_region ?_
              refine gl_f (s_move rfl) rfl rfl rfl ?_
              refine gl_f (s_assign rfl) rfl rfl rfl ?_
              refine gl_nil ?_
              repeat (first | refine g_seq ?_ | refine at_code ?_ | refine g_skip ?_ | refine g_block ?_ | refine g_exit rfl ?_ | refine g_cond_t rfl ?_ | refine g_cond_f rfl ?_)
              repeat (first | refine g_seq ?_ | refine at_code ?_ | refine g_skip ?_ | refine g_block ?_ | refine g_exit rfl ?_ | refine g_cond_t rfl ?_ | refine g_cond_f rfl ?_)
              refine g_region ?_
              refine gl_f (s_move rfl) rfl rfl rfl ?_
              refine gl_f (s_add_i64 rfl rfl (by omega)) rfl rfl rfl ?_
              refine gl_f (s_assign rfl) rfl rfl rfl ?_
              refine gl_nil ?_
              repeat (first | refine g_seq ?_ | refine at_code ?_ | refine g_skip ?_ | refine g_block ?_ | refine g_exit rfl ?_ | refine g_cond_t rfl ?_ | refine g_cond_f rfl ?_)
              refine at_next (k + 1, x) ⟨by simp only; omega, hnext⟩ (by simp only; omega) ?_ ?_
              · (repeat (first | exact Sub.nil _ | refine Sub.cons rfl ?_))
              · intro w hw; exact hw
            · rw [if_neg (by rw [h2]; simp)] at hnext
              repeat (first | refine g_seq ?_ | refine at_code ?_ | refine g_skip ?_ | refine g_block ?_ | refine g_exit rfl ?_ | refine g_cond_t rfl ?_ | refine g_cond_f rfl ?_)
              repeat (first | refine g_seq ?_ | refine at_code ?_ | refine g_skip ?_ | refine g_block ?_ | refine g_exit rfl ?_ | refine g_cond_t rfl ?_ | refine g_cond_f rfl ?_)
              refine g_region ?_
              refine gl_f (s_move rfl) rfl rfl rfl ?_
              refine gl_f (s_add_i64 rfl rfl (by omega)) rfl rfl rfl ?_
              refine gl_f (s_assign rfl) rfl rfl rfl ?_
              refine gl_nil ?_
              repeat (first | refine g_seq ?_ | refine at_code ?_ | refine g_skip ?_ | refine g_block ?_ | refine g_exit rfl ?_ | refine g_cond_t rfl ?_ | refine g_cond_f rfl ?_)
              refine at_next (k + 1, best) ⟨by simp only; omega, hnext⟩ (by simp only; omega) ?_ ?_
              · (repeat (first | exact Sub.nil _ | refine Sub.cons rfl ?_))
              · intro w hw; exact hw
    · have hkl : k = hs.length := by simp at h; omega
      subst hkl
      repeat (first | refine g_seq ?_ | refine at_code ?_ | refine g_skip ?_ | refine g_block ?_ | refine g_exit rfl ?_ | refine g_cond_t rfl ?_ | refine g_cond_f rfl ?_)
      repeat (first | refine g_seq ?_ | refine at_code ?_ | refine g_skip ?_ | refine g_block ?_ | refine g_exit rfl ?_ | refine g_cond_t rfl ?_ | refine g_cond_f rfl ?_)
      refine g_region ?_
      refine gl_f (s_move rfl) rfl rfl rfl ?_
      refine gl_f (s_assign rfl) rfl rfl rfl ?_
      refine gl_nil ?_
      repeat (first | refine g_seq ?_ | refine at_code ?_ | refine g_skip ?_ | refine g_block ?_ | refine g_exit rfl ?_ | refine g_cond_t rfl ?_ | refine g_cond_f rfl ?_)
      refine g_ret ?_
      exact at_end1 rfl rfl [] ⟨by rw [comI_end hI], rfl⟩ (fun _ h => h)
end Go.Proofs.Ytodcghipfolejaa
