/-
  algoristref01.Sqrt.
-/
import Derived.Test.YteidokhjmbihlaaGreatDH
import Derived.Test.YteidokhjmbihlaaGreatFM
import Derived.Test.YteidokhjmbihlaaGreatFN
import Derived.Test.YteidokhjmbihlaaGreatDC
set_option linter.all false
set_option maxHeartbeats 2000000
namespace Go.Proofs.YteidokhjmbihlaaGreat
open Go.RowKit
attribute [local go_sem ↓] Go.wp_at_zero Go.wp_at_succ
