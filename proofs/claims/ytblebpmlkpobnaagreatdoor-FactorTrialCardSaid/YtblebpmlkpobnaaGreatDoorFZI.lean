/-
  What the laws of Factor share.
-/
import Derived.Test.YtblebpmlkpobnaaGreatDoorFW
import Derived.Test.YtblebpmlkpobnaaGreatDoorFZC
import Derived.Test.YtblebpmlkpobnaaGreatDoorFZG
set_option linter.unusedSimpArgs false
set_option linter.unusedVariables false
namespace Go.Proofs.YtblebpmlkpobnaaGreatDoor
open Go.RowKit
theorem MadeTo.good {L : List Tri} {b : Nat} {f : Fn} (h : MadeTo (usedN L []) b f) : RightN f /\ Md f.N /\ ∀ p ∈ f.P, Pri p.1 :=
 ⟨(h.right (usedN_nd L)).1, made_md (usedN_len L) h, (h.right (usedN_nd L)).2⟩
end Go.Proofs.YtblebpmlkpobnaaGreatDoor
