/- The reference's disk: Sync, Read, Fuse, Count, Crash, New. -/
import Derived.Test.YtolgclfbllcjhaaLD3
namespace Go.Proofs.Ytolgclfbllcjhaa
open Go Go.Sl
set_option linter.unusedVariables false
set_option linter.unusedSimpArgs false

theorem off_left {x : DM} (h : offD x = false) : x.fused = true → 1 ≤ x.left := fun hf => by
  simp only [offD, hf, Bool.true_and, decide_eq_false_iff_not] at h; omega
section
variable {F : Snap} {w : World} {H H' : List As} {a : Option Addr} {l : List Cl} {q i : Nat}
end
theorem steps_le {x : DM} (hI : Inv x) {c : Cl} (h : c ∈ x.pend) : stepsC c ≤ 1048576 := by
  have h1 := (hI.pend c h).s
  have h2 := hI.cap
  unfold stepsC; split <;> omega
theorem count_take_le {x : DM} (hI : Inv x) : ∀ k, countL (x.pend.take k) ≤ k * 1048576 := fun k => by
  have key : ∀ (l : List Cl), (∀ c ∈ l, stepsC c ≤ 1048576) → countL l ≤ l.length * 1048576 := fun l => by
    induction l with
    | nil => intro _; simp [countL]
    | cons a r ih =>
      intro h
      have h1 := h a (.head _)
      have h2 := ih (fun c hc => h c (.tail _ hc))
      simp only [countL, List.map_cons, List.sum_cons, List.length_cons] at h2 ⊢
      omega
  have := key (x.pend.take k) (fun c hc => steps_le hI (List.mem_of_mem_take hc))
  have h2 : (x.pend.take k).length ≤ k := by rw [List.length_take]; omega
  exact Nat.le_trans this (Nat.mul_le_mul_right _ h2)
theorem takeC {l : List Cl} {k : Nat} (hk : k < l.length) : l.take (k + 1) = l.take k ++ [l.getD k C0] := by
  rw [List.take_succ_eq_append_getElem hk]; simp [hk]
theorem count_succ {l : List Cl} {k : Nat} (hk : k < l.length) : countL (l.take (k + 1)) = countL (l.take k) + stepsC (l.getD k C0) := by
  rw [takeC hk]; simp [countL]
def newD (cap : Int) : DM := ⟨cap, [], [], [], false, 0⟩
def badCap (cap : Int) : Bool := decide (cap < 0) || decide (1048576 < cap)
set_option maxRecDepth 8000 in
theorem newD_inv {cap : Int} (h : badCap cap = false) : Inv (newD cap) := by
  have h1 := of_decide_eq_false (Bool.or_eq_false_iff.1 h).1
  have h2 := of_decide_eq_false (Bool.or_eq_false_iff.1 h).2
  refine ⟨⟨by show 0 ≤ cap; omega, by show cap ≤ 1048576; omega⟩, .nil, .nil, by show (0 : Int) ≤ cap; omega, fun k => by show (0 : Int) ≤ cap; omega, fun _ _ => rfl, fun c hc => (by cases hc), ⟨by show -9223372036854775808 ≤ (0 : Int); omega, by show (0 : Int) ≤ 9223372036854775807; omega⟩⟩
/-! ## Crash -/
structure CI (x : DM) (r : RA) (k0 : Nat) (i : Nat) (l : List Fl) (a : Option Addr) (c : Nat) (own : Bool) (k : Nat) : Prop where
  le : i ≤ x.pend.length
  srt : Srt l
  len : l.length ≤ x.lasts.length + i
  used : usedL l ≤ usedL x.lasts + i * 1048576
  eq : replay l (x.pend.drop i) k = replay x.lasts x.pend k0
  kk : k ≤ k0
  no : own = false → l = x.lasts ∧ a = r.la ∧ c = r.lc
theorem dropC {l : List Cl} {k : Nat} (hk : k < l.length) : l.drop k = l.getD k C0 :: l.drop (k + 1) := by
  rw [List.drop_eq_getElem_cons hk]; simp [hk]
theorem CI.next {x : DM} {r : RA} {k0 i : Nat} {l : List Fl} {a a' : Option Addr} {c c' : Nat} {own own' : Bool} {k : Nat} (h : CI x r k0 i l a c own k) (hI : Inv x) (hi : i < x.pend.length) (hn : own' = false → doneL l (x.pend.getD i C0) (min (stepsC (x.pend.getD i C0)) k) = x.lasts ∧ a' = r.la ∧ c' = r.lc) :
    CI x r k0 (i + 1) (doneL l (x.pend.getD i C0) (min (stepsC (x.pend.getD i C0)) k)) a' c' own' (k - min (stepsC (x.pend.getD i C0)) k) := by
  have h1 := done_len l (x.pend.getD i C0) (min (stepsC (x.pend.getD i C0)) k)
  have h2 := used_done_add h.srt (x.pend.getD i C0) (min (stepsC (x.pend.getD i C0)) k)
  have h3 := h.len
  have h4 := h.used
  have h5 := h.kk
  have hm : x.pend.getD i C0 ∈ x.pend := by rw [List.getD_eq_getElem?_getD, List.getElem?_eq_getElem hi]; exact List.getElem_mem hi
  have h6 := (hI.pend _ hm).s
  have h7 := hI.cap
  have h8 : (i + 1) * 1048576 = i * 1048576 + 1048576 := by omega
  refine ⟨by omega, srt_done h.srt _ _, by omega, by omega, ?_, by omega, hn⟩
  rw [← h.eq, dropC hi, replay]
end Go.Proofs.Ytolgclfbllcjhaa
