/- The vault's program: Keep. -/
import Derived.Test.YtolgclfbllcjhaaLV7
namespace Go.Proofs.Ytolgclfbllcjhaa.Vt
open Go Go.Sl
set_option linter.unusedVariables false
set_option linter.unusedSimpArgs false

def dC (s : Bs) : Cl := ⟨3, nmB s, []⟩
/-- Keep: how the disk stands, how many were dropped, the error -/
def kpG (ds : List Bs) : DM → List Bs → Nat → DM × Nat × Int
  | x, [], n => if n = 0 then (x, 0, 0) else (syncD x, n, syncE x)
  | x, s :: r, n => if s ∈ ds then kpG ds x r n else if turnE x (dC s) ≠ 0 then (x, n, turnE x (dC s)) else kpG ds (turnD x (dC s)) r (n + 1)
structure KI (ds : List Bs) (x0 : DM) (a0 : DA) (n0 k : Nat) (x : DM) (a : DA) (n : Nat) (Z : List As) : Prop where
  kl : k ≤ (allL x0.seen).length
  nl : n ≤ k
  go : kpG ds x0 (allL x0.seen) 0 = kpG ds x ((allL x0.seen).drop k) n
  wf : Wf x (n0 + n)
  ok : DOk x a
  D : a.D = a0.D
  pc : ∀ h, (∀ p ∈ a0.pl, PcOk h p) → (∃ bs, Sat h Z bs) → ∀ p ∈ a.pl, PcOk h p
theorem Sat.swap {h : Heap} {A B : List As} (hs : ∃ bs, Sat h (A ++ B) bs) : ∃ bs, Sat h (B ++ A) bs := by
  obtain ⟨⟨b1, h1⟩, ⟨b2, h2⟩⟩ := Sat.two hs
  exact ⟨b2 ++ b1, Sat.append h2 h1⟩
end Go.Proofs.Ytolgclfbllcjhaa.Vt
