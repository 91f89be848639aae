/-
  What comes into a law of Descent.
-/
import Derived.Deep.Slices
import Derived.OpenShut
import Derived.Test.YteidokhjmbihlaaGreatFY
set_option linter.unusedSimpArgs false
set_option linter.unusedVariables false
namespace Go.Proofs.YteidokhjmbihlaaGreat
open Go.ChangeShapes Go.WideShapes Go.ChangeAt Go.RowKit Go.Deep
theorem Qe4 {z : Int} (h : (Lit.int .i16 z).wf = true) : -32768 <= z /\ z <= 32767 := by
 simpa [Lit.wf, IntKind.min, IntKind.max, IntKind.signed, IntKind.bits] using h
variable {H : Type} {enc : TypeId × Value -> H} {w : World}
end Go.Proofs.YteidokhjmbihlaaGreat
