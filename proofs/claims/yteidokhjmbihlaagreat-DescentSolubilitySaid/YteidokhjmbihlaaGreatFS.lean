/-
  The reference: Valid; of factor: Rem, small, one.
-/
import Derived.Test.YteidokhjmbihlaaGreatFN
import Derived.Test.YteidokhjmbihlaaGreatFH1
set_option linter.unusedSimpArgs false
set_option linter.unusedVariables false
namespace Go.Proofs.YteidokhjmbihlaaGreat
open Go.RowKit
attribute [local go_sem ↓] Go.wp_at_zero Go.wp_at_succ
theorem It.top {w:World} {v:Value} {z:Int} (h:It w v z):∃ a cap f,v = .agg #[.bool (decide (z<0)),.slice a (sz z) cap]/\Wd w a (sz z) f/\Wf f (sz z)/\nv f (sz z)=z.natAbs/\(sz z ≠ 0->f (sz z - 1) ≠ 0)/\(sz z=0->decide (z<0)=false):=by
 obtain ⟨a,cap,f,h1,h2,h3,h4,h5,h6⟩:=h.parts;exact ⟨a,cap,f,h1,h3,h4,h6,fun h0=>h5.resolve_left h0,fun h0=>by rw [Yb] at h0;simp [h0]⟩
end Go.Proofs.YteidokhjmbihlaaGreat
