/- The reference's disk: Add, Put, Drop. -/
import Derived.Test.YtolgclfbllcjhaaLD2
namespace Go.Proofs.Ytolgclfbllcjhaa
open Go Go.Sl
set_option linter.unusedVariables false
set_option linter.unusedSimpArgs false

theorem used_done_add {l : List Fl} (hs : Srt l) (c : Cl) (k : Nat) : usedL (doneL l c k) ≤ usedL l + c.s.length := by
  have h := used_without hs c.name
  unfold doneL
  split
  · omega
  · split
    · rw [used_with, List.length_append, List.length_take]; omega
    · split
      · rw [used_with]; omega
      · omega
theorem done_len (l : List Fl) (c : Cl) (k : Nat) : (doneL l c k).length ≤ l.length + 1 := by
  have h := without_le l c.name
  unfold doneL
  split
  · omega
  · split
    · rw [withL, ins_len]; omega
    · split
      · rw [withL, ins_len]; omega
      · omega
/-- what a call on the reference's disk leaves: the disk, and what is new; what lay there lies there still -/
def RTP (x x' : DM) (r : RA) (e : Int) (v : Value) (A : List As) : Prop := v = .int .i64 e ∧ ∃ r' Z, r'.X = r.X ∧ A = .blk r.X (refO x' r') :: Z ∧ ∀ h, RFacts x r h → (∃ bs, Sat h Z bs) → RFacts x' r' h
theorem RTP.same (x : DM) (r : RA) (e : Int) : RTP x x r e (.int .i64 e) [.blk r.X (refO x r)] := ⟨rfl, r, [], rfl, rfl, fun h f _ => f⟩
theorem RFacts.spend (x : DM) (r : RA) (h : Heap) : RFacts (spendD x) r h ↔ RFacts x r h := by
  unfold spendD; split
  · exact ⟨fun f => ⟨f.seen, f.lasts, f.pend⟩, fun f => ⟨f.seen, f.lasts, f.pend⟩⟩
  · exact Iff.rfl
structure Small (x : DM) (n : Nat) : Prop where
  seen : x.seen.length ≤ n
  lasts : x.lasts.length ≤ n
  pend : x.pend.length ≤ n
end Go.Proofs.Ytolgclfbllcjhaa
