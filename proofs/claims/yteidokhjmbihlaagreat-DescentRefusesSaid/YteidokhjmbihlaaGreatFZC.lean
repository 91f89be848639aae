/-
  The moves of a region with two invariants, in short form. No program.
-/
import Derived.Test.YteidokhjmbihlaaGreatFF
set_option linter.all false
namespace Go.Proofs.YteidokhjmbihlaaGreat
section
variable {P:Program} {ops:Array Oper} {Q:Exit->Act->World->Prop} {md:Region.Mode} {S S2:World->Prop} {st:List Nat}
end
section
variable {P:Program} {ops:Array Oper} {Q:Exit->Act->World->Prop} {md:Region.Mode} {S S2:World->Prop} {st:List Nat}
end
