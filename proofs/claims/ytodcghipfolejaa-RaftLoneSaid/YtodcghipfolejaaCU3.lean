/- The walks over logs: Right, Newer, clone, twin, the example, spoil. -/
import Derived.Test.YtodcghipfolejaaCU2
namespace Go.Proofs.Ytodcghipfolejaa
open Go Go.Sl
set_option linter.unusedVariables false
set_option linter.unusedSimpArgs false

/-- a log of the call's own comes back -/
abbrev OwnL (la : Option Addr) (l : List Ent) (lc : Nat) : As := .own (.slice la l.length lc) 65 3 (enV l)
abbrev OwnC (ca : Option Addr) (c : List Int) (cc : Nat) : As := .own (.slice ca c.length cc) 3 1 (intsV c)
end Go.Proofs.Ytodcghipfolejaa
