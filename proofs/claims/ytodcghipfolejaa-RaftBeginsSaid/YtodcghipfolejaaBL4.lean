/- RaftBegins: its arguments read. -/
import Derived.Test.YtodcghipfolejaaBL3
import Derived.Test.YtodcghipfolejaaBU13
namespace Go.Proofs.Ytodcghipfolejaa.Rf
open Go Go.Sl Go.RowKit Go.WideShapes
set_option linter.unusedVariables false
set_option linter.unusedSimpArgs false

theorem shpHard : Shp Try.prog 82 (fun h : Hd => [.int .u64 h.term, .int .i64 h.vote, .int .u64 h.c]) (fun _ _ => True) (fun _ => 0) :=
  (shp_struct Try.underlying82 (by kernel_rfl) (shpF_cons (k := 1) (off' := 1) (shp_int (k := .u64) (by kernel_rfl)) rfl (by kernel_rfl) rfl (shpF_cons (k := 1) (off' := 2) (shp_int (k := .i64) (by kernel_rfl)) rfl (by kernel_rfl) rfl
    (shpF_cons (k := 1) (off' := 3) (shp_int (k := .u64) (by kernel_rfl)) rfl (by kernel_rfl) rfl shpF_nil)))).map
    (fun y => (⟨y.1, y.2.1, y.2.2.1⟩ : Hd)) (fun y => rfl) (fun h y o => trivial) (fun y => Nat.zero_le _)
end Go.Proofs.Ytodcghipfolejaa.Rf
