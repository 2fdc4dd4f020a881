/- The vault's laws: clash. -/
import Derived.Test.YtolgclfbllcjhaaMV4
namespace Go.Proofs.Ytolgclfbllcjhaa.Vt
open Go Go.Sl
set_option linter.unusedVariables false
set_option linter.unusedSimpArgs false

abbrev stC (s : Bs) : List Value := [B s]
abbrev stV (l : List Bs) : List Value := l.flatMap stC
theorem stC_len : ∀ x, (stC x).length = 1 := fun _ => rfl
theorem rdT {F : Snap} {w : World} {H : List As} {a : Option Addr} {l : List Bs} {q i : Nat} (hw : Hp F w H) (r : RdS F.heap a (stV l)) (h : q = 1 * i) (hi : i < l.length) : PeekC (hp w) (addO a q) [B (l.getD i [])] := rec_rd1 (C := stC) (j := 0) (r.le hw.keep) stC_len [] h hi rfl
theorem rdT_some {h : Heap} {a : Option Addr} {l : List Bs} {i : Nat} (r : RdS h a (stV l)) (hi : i < l.length) : ∃ ad, a = some ad := rec_some (C := stC) r stC_len (by decide) hi
end Go.Proofs.Ytolgclfbllcjhaa.Vt
