/-
  factor.Omega.
-/
import Derived.Test.YtblebpmlkpobnaaGreatFH1
import Derived.Test.YtblebpmlkpobnaaGreatFP1
import Derived.Test.YtblebpmlkpobnaaGreatFI1
import Derived.Test.YtblebpmlkpobnaaGreatFF
import Derived.Test.YtblebpmlkpobnaaGreatFV
set_option linter.unusedSimpArgs false
set_option linter.unusedVariables false
set_option maxHeartbeats 4000000
namespace Go.Proofs.YtblebpmlkpobnaaGreat
open Go.RowKit
attribute [local go_sem ↓] Go.wp_at_zero Go.wp_at_succ
def hgh (f : Fn) (i : Nat) : Nat := f.P.length + (((ks f.R).take i).map (lgN (bsN f.B))).sum
def knZ (i0 : Nat) (z : Int) : Kn where
 R := fun i v _ w => i = i0 → It w v z
 V := fun w B => Vx w B 0
 up := fun h hb e => (h e).up hb
 vup := fun h hb => h.up hb
 vlt := fun h => h.lt
end Go.Proofs.YtblebpmlkpobnaaGreat
