/- The readings of the arguments of layer 15's laws. -/
import Derived.Test.YtodcghipfolejaaQ11
import Derived.Test.YtodcghipfolejaaSlRow
namespace Go.Proofs.Ytodcghipfolejaa
open Go Go.Sl
set_option linter.unusedVariables false

theorem shpAt : Shp Try.prog 31 (fun p : At2 => [.int .i64 p.1, .int .u64 p.2]) (fun _ _ => True) (fun _ => 2) :=
  (shp_struct Try.underlying31 (tot := 2) (by kernel_rfl) (shpF_cons (shp_int (by kernel_rfl)) (by rfl) (k := 1) (by kernel_rfl) (by rfl) (shpF_cons (shp_int (by kernel_rfl)) (by rfl) (k := 1) (by kernel_rfl) (by rfl) shpF_nil))).map
    (fun y : Int × Int × Unit => (y.1, y.2.1)) (fun _ => rfl) (fun _ _ _ => trivial) (fun _ => Nat.le_refl _)
theorem flat_ats (l : List At2) : (l.flatMap fun p : At2 => [Value.int .i64 p.1, .int .u64 p.2]) = atV l := rfl
end Go.Proofs.Ytodcghipfolejaa
