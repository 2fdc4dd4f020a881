/- The vault's laws: clash. -/
import Derived.Test.YtolgclfbllcjhaaLV4
namespace Go.Proofs.Ytolgclfbllcjhaa.Vt
open Go Go.Sl
set_option linter.unusedVariables false
set_option linter.unusedSimpArgs false

abbrev stC (s : Bs) : List Value := [B s]
abbrev stV (l : List Bs) : List Value := l.flatMap stC
theorem stC_len : ∀ x, (stC x).length = 1 := fun _ => rfl
theorem rdT {F : Snap} {w : World} {H : List As} {a : Option Addr} {l : List Bs} {q i : Nat} (hw : Hp F w H) (r : RdS F.heap a (stV l)) (h : q = 1 * i) (hi : i < l.length) : PeekC (hp w) (addO a q) [B (l.getD i [])] := rec_rd1 (C := stC) (j := 0) (r.le hw.keep) stC_len [] h hi rfl
theorem rdT_some {h : Heap} {a : Option Addr} {l : List Bs} {i : Nat} (r : RdS h a (stV l)) (hi : i < l.length) : ∃ ad, a = some ad := rec_some (C := stC) r stC_len (by decide) hi
/-- two unlike bodies of one digest -/
def Two (l : List Bs) (i k : Nat) : Prop := l.getD i [] ≠ l.getD k [] ∧ Dg.sha (l.getD i []) = Dg.sha (l.getD k [])
def Clash (l : List Bs) : Prop := ∃ i, i < l.length ∧ ∃ k, k < i ∧ Two l i k
noncomputable def clashB (l : List Bs) : Bool := @decide (Clash l) (Classical.propDecidable _)
theorem clash_yes {l : List Bs} (h : Clash l) : clashB l = true := by unfold clashB; exact @decide_eq_true _ (Classical.propDecidable _) h
theorem clash_no {l : List Bs} (h : ¬ Clash l) : clashB l = false := by unfold clashB; exact @decide_eq_false _ (Classical.propDecidable _) h
theorem clash_false {l : List Bs} (h : clashB l = false) : ¬ Clash l := by unfold clashB at h; exact @of_decide_eq_false _ (Classical.propDecidable _) h
set_option maxRecDepth 8000 in
set_option maxHeartbeats 2000000 in
theorem clash_ct (l : List Bs) (a : Option Addr) (c : Nat) (hl : l.length ≤ 1000000000000) (hs : ∀ s ∈ l, s.length ≤ 1000000000000) : Pu Try.prog 33 [.slice a l.length c] (fun h => RdS h a (stV l)) (.bool (clashB l)) := by
  have hget : ∀ i, i < l.length → (l.getD i []).length ≤ 1000000000000 := fun i hi => by
    rw [List.getD_eq_getElem?_getD, List.getElem?_eq_getElem hi]; exact hs _ (List.getElem_mem hi)
  refine ct_enter 38 Try.func33 rfl rfl rfl ?_
  intro F hrd
  repeat (first | refine g_seq ?_ | refine at_code ?_ | refine g_skip ?_ | refine g_block ?_ | refine g_exit rfl ?_ | refine g_cond_t rfl ?_ | refine g_cond_f rfl ?_)
  refine g_region ?_
  refine gl_f (s_assign rfl) rfl rfl rfl ?_
  refine gl_nil ?_
  repeat (first | refine g_seq ?_ | refine at_code ?_ | refine g_skip ?_ | refine g_block ?_ | refine g_exit rfl ?_ | refine g_cond_t rfl ?_ | refine g_cond_f rfl ?_)
  refine g_region ?_
  refine gl_f (s_assign rfl) rfl rfl rfl ?_
  refine gl_nil ?_
  repeat (first | refine g_seq ?_ | refine at_code ?_ | refine g_skip ?_ | refine g_block ?_ | refine g_exit rfl ?_ | refine g_cond_t rfl ?_ | refine g_cond_f rfl ?_)
  refine g_loop (ι := Nat) (fun i => i ≤ l.length ∧ ∀ j, j < i → ∀ k, k < j → ¬ Two l j k) (fun i => [(0, .slice a l.length c), (3, .int .i64 (i : Nat))]) (fun i => []) (fun i => l.length - i) 0 ⟨Nat.zero_le _, fun j hj => absurd hj (Nat.not_lt_zero j)⟩ ?_ ?_ ?_
  · (repeat (first | exact Sub.nil _ | refine Sub.cons rfl ?_))
  · intro w hw; exact hw
  rintro i ⟨hi, hno⟩
  repeat (first | refine g_seq ?_ | refine at_code ?_ | refine g_skip ?_ | refine g_block ?_ | refine g_exit rfl ?_ | refine g_cond_t rfl ?_ | refine g_cond_f rfl ?_)
  refine g_region ?_
  refine gl_f (s_move rfl) rfl rfl rfl ?_
  refine gl_f (s_move rfl) rfl rfl rfl ?_
  refine gl_f (s_len_sl rfl) rfl rfl rfl ?_
  refine gl_f (s_lss rfl rfl) rfl rfl rfl ?_
  refine gl_nil ?_
  repeat (first | refine g_seq ?_ | refine at_code ?_ | refine g_skip ?_ | refine g_block ?_ | refine g_exit rfl ?_ | refine g_cond_t rfl ?_ | refine g_cond_f rfl ?_)
  refine g_cond rfl (fun h => ?_) (fun h => ?_)
  rotate_left
  · have hil : i = l.length := by simp at h; omega
    rw [clash_no (fun ⟨j, hj, k, hk, h2⟩ => hno j (by omega) k hk h2)]
    repeat (first | refine g_seq ?_ | refine at_code ?_ | refine g_skip ?_ | refine g_block ?_ | refine g_exit rfl ?_ | refine g_cond_t rfl ?_ | refine g_cond_f rfl ?_)
    repeat (first | refine g_seq ?_ | refine at_code ?_ | refine g_skip ?_ | refine g_block ?_ | refine g_exit rfl ?_ | refine g_cond_t rfl ?_ | refine g_cond_f rfl ?_)
    refine g_region ?_
    refine gl_f (s_assign rfl) rfl rfl rfl ?_
    refine gl_nil ?_
    repeat (first | refine g_seq ?_ | refine at_code ?_ | refine g_skip ?_ | refine g_block ?_ | refine g_exit rfl ?_ | refine g_cond_t rfl ?_ | refine g_cond_f rfl ?_)
    refine g_ret ?_
    exact at_end1 rfl rfl [] ⟨rfl, rfl⟩ (fun _ h => h)
  have hil : i < l.length := by simp at h; omega
  have hsome := rdT_some hrd hil
  obtain ⟨si, hsi⟩ : ∃ si, si = l.getD i [] := ⟨_, rfl⟩
  have hsil := hget i hil
  have hri : ∀ {w : World} {H : List As}, Hp F w H → PeekC (hp w) (addO a (((i : Nat) : Int).toNat * 1)) [B si] := fun hw => by rw [hsi]; exact rdT hw hrd (i := i) (by omega) hil
  rw [← hsi] at hsil
  repeat (first | refine g_seq ?_ | refine at_code ?_ | refine g_skip ?_ | refine g_block ?_ | refine g_exit rfl ?_ | refine g_cond_t rfl ?_ | refine g_cond_f rfl ?_)
  repeat (first | refine g_seq ?_ | refine at_code ?_ | refine g_skip ?_ | refine g_block ?_ | refine g_exit rfl ?_ | refine g_cond_t rfl ?_ | refine g_cond_f rfl ?_)
  refine g_region ?_
  refine gl_f (s_assign rfl) rfl rfl rfl ?_
  refine gl_nil ?_
  repeat (first | refine g_seq ?_ | refine at_code ?_ | refine g_skip ?_ | refine g_block ?_ | refine g_exit rfl ?_ | refine g_cond_t rfl ?_ | refine g_cond_f rfl ?_)
  refine g_loop (ι := Nat) (fun k => k ≤ i ∧ ∀ j, j < k → ¬ Two l i j) (fun k => [(0, .slice a l.length c), (3, .int .i64 (i : Nat)), (4, .int .i64 (k : Nat))]) (fun k => []) (fun k => i - k) 0 ⟨Nat.zero_le _, fun j hj => absurd hj (Nat.not_lt_zero j)⟩ ?_ ?_ ?_
  · (repeat (first | exact Sub.nil _ | refine Sub.cons rfl ?_))
  · intro w hw; exact hw
  rintro k ⟨hk, hnk⟩
  repeat (first | refine g_seq ?_ | refine at_code ?_ | refine g_skip ?_ | refine g_block ?_ | refine g_exit rfl ?_ | refine g_cond_t rfl ?_ | refine g_cond_f rfl ?_)
  refine g_region ?_
  refine gl_f (s_move rfl) rfl rfl rfl ?_
  refine gl_f (s_move rfl) rfl rfl rfl ?_
  refine gl_f (s_lss rfl rfl) rfl rfl rfl ?_
  refine gl_nil ?_
  repeat (first | refine g_seq ?_ | refine at_code ?_ | refine g_skip ?_ | refine g_block ?_ | refine g_exit rfl ?_ | refine g_cond_t rfl ?_ | refine g_cond_f rfl ?_)
  refine g_cond rfl (fun h => ?_) (fun h => ?_)
  rotate_left
  · have hki : k = i := by simp at h; omega
    repeat (first | refine g_seq ?_ | refine at_code ?_ | refine g_skip ?_ | refine g_block ?_ | refine g_exit rfl ?_ | refine g_cond_t rfl ?_ | refine g_cond_f rfl ?_)
    repeat (first | refine g_seq ?_ | refine at_code ?_ | refine g_skip ?_ | refine g_block ?_ | refine g_exit rfl ?_ | refine g_cond_t rfl ?_ | refine g_cond_f rfl ?_)
    refine g_region ?_
    refine gl_f (s_move rfl) rfl rfl rfl ?_
    refine gl_f (s_add_i64 rfl rfl (by omega)) rfl rfl rfl ?_
    refine gl_f (s_assign rfl) rfl rfl rfl ?_
    refine gl_nil ?_
    repeat (first | refine g_seq ?_ | refine at_code ?_ | refine g_skip ?_ | refine g_block ?_ | refine g_exit rfl ?_ | refine g_cond_t rfl ?_ | refine g_cond_f rfl ?_)
    refine at_next (i + 1) ⟨by omega, fun j hj k2 hk2 => ?_⟩ (by omega) ?_ ?_
    · rcases Nat.lt_succ_iff_lt_or_eq.1 hj with h4 | rfl
      · exact hno j h4 k2 hk2
      · exact hnk k2 (by omega)
    · (repeat (first | exact Sub.nil _ | refine Sub.cons rfl ?_))
    · intro w hw; exact hw
  have hki : k < i := by simp at h; omega
  obtain ⟨sk, hsk⟩ : ∃ sk, sk = l.getD k [] := ⟨_, rfl⟩
  have hskl := hget k (by omega)
  have hrk : ∀ {w : World} {H : List As}, Hp F w H → PeekC (hp w) (addO a (((k : Nat) : Int).toNat * 1)) [B sk] := fun hw => by rw [hsk]; exact rdT hw hrd (i := k) (by omega) (by omega)
  rw [← hsk] at hskl
  have hTw : Two l i k ↔ si ≠ sk ∧ Dg.sha si = Dg.sha sk := by rw [Two, ← hsi, ← hsk]
  repeat (first | refine g_seq ?_ | refine at_code ?_ | refine g_skip ?_ | refine g_block ?_ | refine g_exit rfl ?_ | refine g_cond_t rfl ?_ | refine g_cond_f rfl ?_)
  obtain ⟨q1, hq1⟩ : ∃ q, q = decide (si = sk) := ⟨_, rfl⟩
  obtain ⟨q2, hq2⟩ : ∃ q, q = decide (Dg.sha si = Dg.sha sk) := ⟨_, rfl⟩
  have next : ¬ Two l i k → ∀ j, j < k + 1 → ¬ Two l i j := fun hn j hj => by
    rcases Nat.lt_succ_iff_lt_or_eq.1 hj with h4 | rfl
    · exact hnk j h4
    · exact hn
  cases q1
  rotate_left
  · repeat (first | refine g_seq ?_ | refine at_code ?_ | refine g_skip ?_ | refine g_block ?_ | refine g_exit rfl ?_ | refine g_cond_t rfl ?_ | refine g_cond_f rfl ?_)
    refine g_draw [3, 7, 13, 18] [] 22 rfl ?_
    refine ga_free 0 rfl (s_move rfl) rfl rfl rfl (by kernel_rfl) ?_
    refine ga_free 1 rfl (s_move rfl) rfl rfl rfl (by kernel_rfl) ?_
    refine ga_free 2 rfl (s_indexAddr rfl (by assumption) rfl (by omega)) rfl rfl rfl (by kernel_rfl) ?_
    refine ga_readF 3 rfl (s_load1 (v := B si) rfl (fun w hw => hri hw)) (by (first | exact fun _ h => h | (repeat first | exact sub_nil | refine sub_cons (by repeat first | exact List.Mem.head _ | apply List.Mem.tail) ?_))) rfl rfl rfl (by kernel_rfl) ?_
    refine ga_free 4 rfl (s_move rfl) rfl rfl rfl (by kernel_rfl) ?_
    refine ga_free 5 rfl (s_move rfl) rfl rfl rfl (by kernel_rfl) ?_
    refine ga_free 6 rfl (s_indexAddr rfl (by assumption) rfl (by omega)) rfl rfl rfl (by kernel_rfl) ?_
    refine ga_readF 7 rfl (s_load1 (v := B sk) rfl (fun w hw => hrk hw)) (by (first | exact fun _ h => h | (repeat first | exact sub_nil | refine sub_cons (by repeat first | exact List.Mem.head _ | apply List.Mem.tail) ?_))) rfl rfl rfl (by kernel_rfl) ?_
    refine ga_free 8 rfl ((s_neq_str rfl rfl).eq (v' := .bool false) (by rw [← hq1]; rfl)) rfl rfl rfl (by kernel_rfl) ?_
    refine ga_free 9 rfl (s_move rfl) rfl rfl rfl (by kernel_rfl) ?_
    (first | refine ga_skip 10 rfl rfl rfl rfl rfl rfl rfl rfl (by kernel_rfl) ?_ | refine ga_skip_un 10 rfl rfl rfl rfl rfl rfl rfl (by kernel_rfl) ?_ | refine ga_free_g 10 rfl (s_move rfl) rfl rfl rfl rfl rfl rfl (by kernel_rfl) ?_)
    (first | refine ga_skip 11 rfl rfl rfl rfl rfl rfl rfl rfl (by kernel_rfl) ?_ | refine ga_skip_un 11 rfl rfl rfl rfl rfl rfl rfl (by kernel_rfl) ?_ | refine ga_free_g 11 rfl (s_move rfl) rfl rfl rfl rfl rfl rfl (by kernel_rfl) ?_)
    (first | refine ga_skip 12 rfl rfl rfl rfl rfl rfl rfl rfl (by kernel_rfl) ?_ | refine ga_skip_un 12 rfl rfl rfl rfl rfl rfl rfl (by kernel_rfl) ?_ | refine ga_free_g 12 rfl (s_indexAddr rfl (by assumption) rfl (by omega)) rfl rfl rfl rfl rfl rfl (by kernel_rfl) ?_)
    (first | refine ga_skip 13 rfl rfl rfl rfl rfl rfl rfl rfl (by kernel_rfl) ?_ | refine ga_skip_un 13 rfl rfl rfl rfl rfl rfl rfl (by kernel_rfl) ?_ | refine ga_read_kg 13 rfl (by first | exact .head _ | exact .tail _ (.head _) | exact .tail _ (.tail _ (.head _)) | exact .tail _ (.tail _ (.tail _ (.head _)))) (s_load_blk rfl .del (by rfl)) (by (first | exact fun _ h => h | (repeat first | exact sub_nil | refine sub_cons (by repeat first | exact List.Mem.head _ | apply List.Mem.tail) ?_))) rfl rfl rfl rfl rfl rfl (by kernel_rfl) ?_ | refine ga_readF_g 13 rfl (s_load1 rfl (fun w hw => peekB hw (by assumption) (by rfl))) (by (first | exact fun _ h => h | (repeat first | exact sub_nil | refine sub_cons (by repeat first | exact List.Mem.head _ | apply List.Mem.tail) ?_))) rfl rfl rfl rfl rfl rfl (by kernel_rfl) ?_)
    (first | refine ga_skip 15 rfl rfl rfl rfl rfl rfl rfl rfl (by kernel_rfl) ?_ | refine ga_skip_un 15 rfl rfl rfl rfl rfl rfl rfl (by kernel_rfl) ?_ | refine ga_free_g 15 rfl (s_move rfl) rfl rfl rfl rfl rfl rfl (by kernel_rfl) ?_)
    (first | refine ga_skip 16 rfl rfl rfl rfl rfl rfl rfl rfl (by kernel_rfl) ?_ | refine ga_skip_un 16 rfl rfl rfl rfl rfl rfl rfl (by kernel_rfl) ?_ | refine ga_free_g 16 rfl (s_move rfl) rfl rfl rfl rfl rfl rfl (by kernel_rfl) ?_)
    (first | refine ga_skip 17 rfl rfl rfl rfl rfl rfl rfl rfl (by kernel_rfl) ?_ | refine ga_skip_un 17 rfl rfl rfl rfl rfl rfl rfl (by kernel_rfl) ?_ | refine ga_free_g 17 rfl (s_indexAddr rfl (by assumption) rfl (by omega)) rfl rfl rfl rfl rfl rfl (by kernel_rfl) ?_)
    (first | refine ga_skip 18 rfl rfl rfl rfl rfl rfl rfl rfl (by kernel_rfl) ?_ | refine ga_skip_un 18 rfl rfl rfl rfl rfl rfl rfl (by kernel_rfl) ?_ | refine ga_read_kg 18 rfl (by first | exact .head _ | exact .tail _ (.head _) | exact .tail _ (.tail _ (.head _)) | exact .tail _ (.tail _ (.tail _ (.head _)))) (s_load_blk rfl .del (by rfl)) (by (first | exact fun _ h => h | (repeat first | exact sub_nil | refine sub_cons (by repeat first | exact List.Mem.head _ | apply List.Mem.tail) ?_))) rfl rfl rfl rfl rfl rfl (by kernel_rfl) ?_ | refine ga_readF_g 18 rfl (s_load1 rfl (fun w hw => peekB hw (by assumption) (by rfl))) (by (first | exact fun _ h => h | (repeat first | exact sub_nil | refine sub_cons (by repeat first | exact List.Mem.head _ | apply List.Mem.tail) ?_))) rfl rfl rfl rfl rfl rfl (by kernel_rfl) ?_)
    refine ga_one 14 rfl (by kernel_rfl) ?_
    (first | refine gl_guard_no rfl rfl rfl rfl rfl rfl rfl ?_ | refine gl_guard_un rfl rfl rfl rfl rfl rfl ?_ | (refine gl_guard_yes rfl rfl rfl ?_; fail))
    refine gl_nil ?_
    refine at_ga (.inr (by exact keeps_of (by (first | exact fun _ h => h | (repeat first | exact sub_nil | refine sub_cons (by repeat first | exact List.Mem.head _ | apply List.Mem.tail) ?_))))) ?_
    refine ga_one 19 rfl (by kernel_rfl) ?_
    (first | refine gl_guard_no rfl rfl rfl rfl rfl rfl rfl ?_ | refine gl_guard_un rfl rfl rfl rfl rfl rfl ?_ | (refine gl_guard_yes rfl rfl rfl ?_; fail))
    refine gl_nil ?_
    refine at_ga (.inr (by exact keeps_of (by (first | exact fun _ h => h | (repeat first | exact sub_nil | refine sub_cons (by repeat first | exact List.Mem.head _ | apply List.Mem.tail) ?_))))) ?_
    (first | refine ga_skip 20 rfl rfl rfl rfl rfl rfl rfl rfl (by kernel_rfl) ?_ | refine ga_skip_un 20 rfl rfl rfl rfl rfl rfl rfl (by kernel_rfl) ?_ | refine ga_free_g 20 rfl (s_eql_str rfl rfl) rfl rfl rfl rfl rfl rfl (by kernel_rfl) ?_)
    refine ga_free 21 rfl (by first | exact s_pick_t rfl rfl | exact s_pick_f rfl rfl) rfl rfl rfl (by kernel_rfl) ?_
    refine ga_done (by kernel_rfl) ?_
    repeat (first | refine g_seq ?_ | refine at_code ?_ | refine g_skip ?_ | refine g_block ?_ | refine g_exit rfl ?_ | refine g_cond_t rfl ?_ | refine g_cond_f rfl ?_)
    repeat (first | refine g_seq ?_ | refine at_code ?_ | refine g_skip ?_ | refine g_block ?_ | refine g_exit rfl ?_ | refine g_cond_t rfl ?_ | refine g_cond_f rfl ?_)
    refine g_region ?_
    refine gl_f (s_move rfl) rfl rfl rfl ?_
    refine gl_f (s_add_i64 rfl rfl (by omega)) rfl rfl rfl ?_
    refine gl_f (s_assign rfl) rfl rfl rfl ?_
    refine gl_nil ?_
    repeat (first | refine g_seq ?_ | refine at_code ?_ | refine g_skip ?_ | refine g_block ?_ | refine g_exit rfl ?_ | refine g_cond_t rfl ?_ | refine g_cond_f rfl ?_)
    refine at_next (k + 1) ⟨by omega, next (fun h => (hTw.1 h).1 (of_decide_eq_true hq1.symm))⟩ (by omega) ?_ ?_
    · (repeat (first | exact Sub.nil _ | refine Sub.cons rfl ?_))
    · intro w hw; exact hw
  cases q2
  · repeat (first | refine g_seq ?_ | refine at_code ?_ | refine g_skip ?_ | refine g_block ?_ | refine g_exit rfl ?_ | refine g_cond_t rfl ?_ | refine g_cond_f rfl ?_)
    refine g_draw [3, 7, 13, 18] [] 22 rfl ?_
    refine ga_free 0 rfl (s_move rfl) rfl rfl rfl (by kernel_rfl) ?_
    refine ga_free 1 rfl (s_move rfl) rfl rfl rfl (by kernel_rfl) ?_
    refine ga_free 2 rfl (s_indexAddr rfl (by assumption) rfl (by omega)) rfl rfl rfl (by kernel_rfl) ?_
    refine ga_readF 3 rfl (s_load1 (v := B si) rfl (fun w hw => hri hw)) (by (first | exact fun _ h => h | (repeat first | exact sub_nil | refine sub_cons (by repeat first | exact List.Mem.head _ | apply List.Mem.tail) ?_))) rfl rfl rfl (by kernel_rfl) ?_
    refine ga_free 4 rfl (s_move rfl) rfl rfl rfl (by kernel_rfl) ?_
    refine ga_free 5 rfl (s_move rfl) rfl rfl rfl (by kernel_rfl) ?_
    refine ga_free 6 rfl (s_indexAddr rfl (by assumption) rfl (by omega)) rfl rfl rfl (by kernel_rfl) ?_
    refine ga_readF 7 rfl (s_load1 (v := B sk) rfl (fun w hw => hrk hw)) (by (first | exact fun _ h => h | (repeat first | exact sub_nil | refine sub_cons (by repeat first | exact List.Mem.head _ | apply List.Mem.tail) ?_))) rfl rfl rfl (by kernel_rfl) ?_
    refine ga_free 8 rfl ((s_neq_str rfl rfl).eq (v' := .bool true) (by rw [← hq1]; rfl)) rfl rfl rfl (by kernel_rfl) ?_
    refine ga_free 9 rfl (s_move rfl) rfl rfl rfl (by kernel_rfl) ?_
    (first | refine ga_skip 10 rfl rfl rfl rfl rfl rfl rfl rfl (by kernel_rfl) ?_ | refine ga_skip_un 10 rfl rfl rfl rfl rfl rfl rfl (by kernel_rfl) ?_ | refine ga_free_g 10 rfl (s_move rfl) rfl rfl rfl rfl rfl rfl (by kernel_rfl) ?_)
    (first | refine ga_skip 11 rfl rfl rfl rfl rfl rfl rfl rfl (by kernel_rfl) ?_ | refine ga_skip_un 11 rfl rfl rfl rfl rfl rfl rfl (by kernel_rfl) ?_ | refine ga_free_g 11 rfl (s_move rfl) rfl rfl rfl rfl rfl rfl (by kernel_rfl) ?_)
    (first | refine ga_skip 12 rfl rfl rfl rfl rfl rfl rfl rfl (by kernel_rfl) ?_ | refine ga_skip_un 12 rfl rfl rfl rfl rfl rfl rfl (by kernel_rfl) ?_ | refine ga_free_g 12 rfl (s_indexAddr rfl (by assumption) rfl (by omega)) rfl rfl rfl rfl rfl rfl (by kernel_rfl) ?_)
    (first | refine ga_skip 13 rfl rfl rfl rfl rfl rfl rfl rfl (by kernel_rfl) ?_ | refine ga_skip_un 13 rfl rfl rfl rfl rfl rfl rfl (by kernel_rfl) ?_ | refine ga_readF_g 13 rfl (s_load1 (v := B si) rfl (fun w hw => hri hw)) (by (first | exact fun _ h => h | (repeat first | exact sub_nil | refine sub_cons (by repeat first | exact List.Mem.head _ | apply List.Mem.tail) ?_))) rfl rfl rfl rfl rfl rfl (by kernel_rfl) ?_)
    (first | refine ga_skip 15 rfl rfl rfl rfl rfl rfl rfl rfl (by kernel_rfl) ?_ | refine ga_skip_un 15 rfl rfl rfl rfl rfl rfl rfl (by kernel_rfl) ?_ | refine ga_free_g 15 rfl (s_move rfl) rfl rfl rfl rfl rfl rfl (by kernel_rfl) ?_)
    (first | refine ga_skip 16 rfl rfl rfl rfl rfl rfl rfl rfl (by kernel_rfl) ?_ | refine ga_skip_un 16 rfl rfl rfl rfl rfl rfl rfl (by kernel_rfl) ?_ | refine ga_free_g 16 rfl (s_move rfl) rfl rfl rfl rfl rfl rfl (by kernel_rfl) ?_)
    (first | refine ga_skip 17 rfl rfl rfl rfl rfl rfl rfl rfl (by kernel_rfl) ?_ | refine ga_skip_un 17 rfl rfl rfl rfl rfl rfl rfl (by kernel_rfl) ?_ | refine ga_free_g 17 rfl (s_indexAddr rfl (by assumption) rfl (by omega)) rfl rfl rfl rfl rfl rfl (by kernel_rfl) ?_)
    (first | refine ga_skip 18 rfl rfl rfl rfl rfl rfl rfl rfl (by kernel_rfl) ?_ | refine ga_skip_un 18 rfl rfl rfl rfl rfl rfl rfl (by kernel_rfl) ?_ | refine ga_readF_g 18 rfl (s_load1 (v := B sk) rfl (fun w hw => hrk hw)) (by (first | exact fun _ h => h | (repeat first | exact sub_nil | refine sub_cons (by repeat first | exact List.Mem.head _ | apply List.Mem.tail) ?_))) rfl rfl rfl rfl rfl rfl (by kernel_rfl) ?_)
    refine ga_one 14 rfl (by kernel_rfl) ?_
    (first | refine gl_guard_no rfl rfl rfl rfl rfl rfl rfl ?_ | refine gl_guard_un rfl rfl rfl rfl rfl rfl ?_ | (refine gl_guard_yes rfl rfl rfl ?_; refine gl_callp rfl (Dg.Sum_ct si (by omega)) (fun _ _ _ => trivial) rfl ?_))
    refine gl_nil ?_
    refine at_ga (.inr (by exact keeps_of (by (first | exact fun _ h => h | (repeat first | exact sub_nil | refine sub_cons (by repeat first | exact List.Mem.head _ | apply List.Mem.tail) ?_))))) ?_
    refine ga_one 19 rfl (by kernel_rfl) ?_
    (first | refine gl_guard_no rfl rfl rfl rfl rfl rfl rfl ?_ | refine gl_guard_un rfl rfl rfl rfl rfl rfl ?_ | (refine gl_guard_yes rfl rfl rfl ?_; refine gl_callp rfl (Dg.Sum_ct sk (by omega)) (fun _ _ _ => trivial) rfl ?_))
    refine gl_nil ?_
    refine at_ga (.inr (by exact keeps_of (by (first | exact fun _ h => h | (repeat first | exact sub_nil | refine sub_cons (by repeat first | exact List.Mem.head _ | apply List.Mem.tail) ?_))))) ?_
    (first | refine ga_skip 20 rfl rfl rfl rfl rfl rfl rfl rfl (by kernel_rfl) ?_ | refine ga_skip_un 20 rfl rfl rfl rfl rfl rfl rfl (by kernel_rfl) ?_ | refine ga_free_g 20 rfl ((s_eql_str rfl rfl).eq (congrArg Value.bool hq2.symm)) rfl rfl rfl rfl rfl rfl (by kernel_rfl) ?_)
    refine ga_free 21 rfl (by first | exact s_pick_t rfl rfl | exact s_pick_f rfl rfl) rfl rfl rfl (by kernel_rfl) ?_
    refine ga_done (by kernel_rfl) ?_
    repeat (first | refine g_seq ?_ | refine at_code ?_ | refine g_skip ?_ | refine g_block ?_ | refine g_exit rfl ?_ | refine g_cond_t rfl ?_ | refine g_cond_f rfl ?_)
    repeat (first | refine g_seq ?_ | refine at_code ?_ | refine g_skip ?_ | refine g_block ?_ | refine g_exit rfl ?_ | refine g_cond_t rfl ?_ | refine g_cond_f rfl ?_)
    refine g_region ?_
    refine gl_f (s_move rfl) rfl rfl rfl ?_
    refine gl_f (s_add_i64 rfl rfl (by omega)) rfl rfl rfl ?_
    refine gl_f (s_assign rfl) rfl rfl rfl ?_
    refine gl_nil ?_
    repeat (first | refine g_seq ?_ | refine at_code ?_ | refine g_skip ?_ | refine g_block ?_ | refine g_exit rfl ?_ | refine g_cond_t rfl ?_ | refine g_cond_f rfl ?_)
    refine at_next (k + 1) ⟨by omega, next (fun h => of_decide_eq_false hq2.symm (hTw.1 h).2)⟩ (by omega) ?_ ?_
    · (repeat (first | exact Sub.nil _ | refine Sub.cons rfl ?_))
    · intro w hw; exact hw
  · rw [clash_yes ⟨i, hil, k, hki, hTw.2 ⟨of_decide_eq_false hq1.symm, of_decide_eq_true hq2.symm⟩⟩]
    repeat (first | refine g_seq ?_ | refine at_code ?_ | refine g_skip ?_ | refine g_block ?_ | refine g_exit rfl ?_ | refine g_cond_t rfl ?_ | refine g_cond_f rfl ?_)
    refine g_draw [3, 7, 13, 18] [] 22 rfl ?_
    refine ga_free 0 rfl (s_move rfl) rfl rfl rfl (by kernel_rfl) ?_
    refine ga_free 1 rfl (s_move rfl) rfl rfl rfl (by kernel_rfl) ?_
    refine ga_free 2 rfl (s_indexAddr rfl (by assumption) rfl (by omega)) rfl rfl rfl (by kernel_rfl) ?_
    refine ga_readF 3 rfl (s_load1 (v := B si) rfl (fun w hw => hri hw)) (by (first | exact fun _ h => h | (repeat first | exact sub_nil | refine sub_cons (by repeat first | exact List.Mem.head _ | apply List.Mem.tail) ?_))) rfl rfl rfl (by kernel_rfl) ?_
    refine ga_free 4 rfl (s_move rfl) rfl rfl rfl (by kernel_rfl) ?_
    refine ga_free 5 rfl (s_move rfl) rfl rfl rfl (by kernel_rfl) ?_
    refine ga_free 6 rfl (s_indexAddr rfl (by assumption) rfl (by omega)) rfl rfl rfl (by kernel_rfl) ?_
    refine ga_readF 7 rfl (s_load1 (v := B sk) rfl (fun w hw => hrk hw)) (by (first | exact fun _ h => h | (repeat first | exact sub_nil | refine sub_cons (by repeat first | exact List.Mem.head _ | apply List.Mem.tail) ?_))) rfl rfl rfl (by kernel_rfl) ?_
    refine ga_free 8 rfl ((s_neq_str rfl rfl).eq (v' := .bool true) (by rw [← hq1]; rfl)) rfl rfl rfl (by kernel_rfl) ?_
    refine ga_free 9 rfl (s_move rfl) rfl rfl rfl (by kernel_rfl) ?_
    (first | refine ga_skip 10 rfl rfl rfl rfl rfl rfl rfl rfl (by kernel_rfl) ?_ | refine ga_skip_un 10 rfl rfl rfl rfl rfl rfl rfl (by kernel_rfl) ?_ | refine ga_free_g 10 rfl (s_move rfl) rfl rfl rfl rfl rfl rfl (by kernel_rfl) ?_)
    (first | refine ga_skip 11 rfl rfl rfl rfl rfl rfl rfl rfl (by kernel_rfl) ?_ | refine ga_skip_un 11 rfl rfl rfl rfl rfl rfl rfl (by kernel_rfl) ?_ | refine ga_free_g 11 rfl (s_move rfl) rfl rfl rfl rfl rfl rfl (by kernel_rfl) ?_)
    (first | refine ga_skip 12 rfl rfl rfl rfl rfl rfl rfl rfl (by kernel_rfl) ?_ | refine ga_skip_un 12 rfl rfl rfl rfl rfl rfl rfl (by kernel_rfl) ?_ | refine ga_free_g 12 rfl (s_indexAddr rfl (by assumption) rfl (by omega)) rfl rfl rfl rfl rfl rfl (by kernel_rfl) ?_)
    (first | refine ga_skip 13 rfl rfl rfl rfl rfl rfl rfl rfl (by kernel_rfl) ?_ | refine ga_skip_un 13 rfl rfl rfl rfl rfl rfl rfl (by kernel_rfl) ?_ | refine ga_readF_g 13 rfl (s_load1 (v := B si) rfl (fun w hw => hri hw)) (by (first | exact fun _ h => h | (repeat first | exact sub_nil | refine sub_cons (by repeat first | exact List.Mem.head _ | apply List.Mem.tail) ?_))) rfl rfl rfl rfl rfl rfl (by kernel_rfl) ?_)
    (first | refine ga_skip 15 rfl rfl rfl rfl rfl rfl rfl rfl (by kernel_rfl) ?_ | refine ga_skip_un 15 rfl rfl rfl rfl rfl rfl rfl (by kernel_rfl) ?_ | refine ga_free_g 15 rfl (s_move rfl) rfl rfl rfl rfl rfl rfl (by kernel_rfl) ?_)
    (first | refine ga_skip 16 rfl rfl rfl rfl rfl rfl rfl rfl (by kernel_rfl) ?_ | refine ga_skip_un 16 rfl rfl rfl rfl rfl rfl rfl (by kernel_rfl) ?_ | refine ga_free_g 16 rfl (s_move rfl) rfl rfl rfl rfl rfl rfl (by kernel_rfl) ?_)
    (first | refine ga_skip 17 rfl rfl rfl rfl rfl rfl rfl rfl (by kernel_rfl) ?_ | refine ga_skip_un 17 rfl rfl rfl rfl rfl rfl rfl (by kernel_rfl) ?_ | refine ga_free_g 17 rfl (s_indexAddr rfl (by assumption) rfl (by omega)) rfl rfl rfl rfl rfl rfl (by kernel_rfl) ?_)
    (first | refine ga_skip 18 rfl rfl rfl rfl rfl rfl rfl rfl (by kernel_rfl) ?_ | refine ga_skip_un 18 rfl rfl rfl rfl rfl rfl rfl (by kernel_rfl) ?_ | refine ga_readF_g 18 rfl (s_load1 (v := B sk) rfl (fun w hw => hrk hw)) (by (first | exact fun _ h => h | (repeat first | exact sub_nil | refine sub_cons (by repeat first | exact List.Mem.head _ | apply List.Mem.tail) ?_))) rfl rfl rfl rfl rfl rfl (by kernel_rfl) ?_)
    refine ga_one 14 rfl (by kernel_rfl) ?_
    (first | refine gl_guard_no rfl rfl rfl rfl rfl rfl rfl ?_ | refine gl_guard_un rfl rfl rfl rfl rfl rfl ?_ | (refine gl_guard_yes rfl rfl rfl ?_; refine gl_callp rfl (Dg.Sum_ct si (by omega)) (fun _ _ _ => trivial) rfl ?_))
    refine gl_nil ?_
    refine at_ga (.inr (by exact keeps_of (by (first | exact fun _ h => h | (repeat first | exact sub_nil | refine sub_cons (by repeat first | exact List.Mem.head _ | apply List.Mem.tail) ?_))))) ?_
    refine ga_one 19 rfl (by kernel_rfl) ?_
    (first | refine gl_guard_no rfl rfl rfl rfl rfl rfl rfl ?_ | refine gl_guard_un rfl rfl rfl rfl rfl rfl ?_ | (refine gl_guard_yes rfl rfl rfl ?_; refine gl_callp rfl (Dg.Sum_ct sk (by omega)) (fun _ _ _ => trivial) rfl ?_))
    refine gl_nil ?_
    refine at_ga (.inr (by exact keeps_of (by (first | exact fun _ h => h | (repeat first | exact sub_nil | refine sub_cons (by repeat first | exact List.Mem.head _ | apply List.Mem.tail) ?_))))) ?_
    (first | refine ga_skip 20 rfl rfl rfl rfl rfl rfl rfl rfl (by kernel_rfl) ?_ | refine ga_skip_un 20 rfl rfl rfl rfl rfl rfl rfl (by kernel_rfl) ?_ | refine ga_free_g 20 rfl ((s_eql_str rfl rfl).eq (congrArg Value.bool hq2.symm)) rfl rfl rfl rfl rfl rfl (by kernel_rfl) ?_)
    refine ga_free 21 rfl (by first | exact s_pick_t rfl rfl | exact s_pick_f rfl rfl) rfl rfl rfl (by kernel_rfl) ?_
    refine ga_done (by kernel_rfl) ?_
    repeat (first | refine g_seq ?_ | refine at_code ?_ | refine g_skip ?_ | refine g_block ?_ | refine g_exit rfl ?_ | refine g_cond_t rfl ?_ | refine g_cond_f rfl ?_)
    repeat (first | refine g_seq ?_ | refine at_code ?_ | refine g_skip ?_ | refine g_block ?_ | refine g_exit rfl ?_ | refine g_cond_t rfl ?_ | refine g_cond_f rfl ?_)
    refine g_region ?_
    refine gl_f (s_assign rfl) rfl rfl rfl ?_
    refine gl_nil ?_
    repeat (first | refine g_seq ?_ | refine at_code ?_ | refine g_skip ?_ | refine g_block ?_ | refine g_exit rfl ?_ | refine g_cond_t rfl ?_ | refine g_cond_f rfl ?_)
    refine g_ret ?_
    exact at_end1 rfl rfl [] ⟨rfl, rfl⟩ (fun _ h => h)
end Go.Proofs.Ytolgclfbllcjhaa.Vt
