/-
  R29.Curve.
-/
import Derived.Test.YteidokhjmbihlaaGreatDQ
set_option linter.unusedSimpArgs false
set_option linter.unusedVariables false
set_option maxHeartbeats 2000000
namespace Go.Proofs.YteidokhjmbihlaaGreat
open Go.RowKit
attribute [local go_sem ↓] Go.wp_at_zero Go.wp_at_succ
theorem QdC {x k : Int} (hk : 0 < k) : -k < x.tmod k /\ x.tmod k < k := by
 have h1 : (x.tmod k).natAbs = x.natAbs % k.natAbs := Int.natAbs_tmod x k;have h2 : x.natAbs % k.natAbs < k.natAbs := Nat.mod_lt _ (by omega);omega
end Go.Proofs.YteidokhjmbihlaaGreat
