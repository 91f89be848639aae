/-
  What the laws of Factor share.
-/
import Derived.Test.YtblebpmlkpobnaaGreatFW
import Derived.Test.YtblebpmlkpobnaaGreatFZC
import Derived.Test.YtblebpmlkpobnaaGreatFZG
set_option linter.unusedSimpArgs false
set_option linter.unusedVariables false
namespace Go.Proofs.YtblebpmlkpobnaaGreat
open Go.RowKit
theorem MadeTo.good {L : List Tri} {b : Nat} {f : Fn} (h : MadeTo (usedN L []) b f) : RightN f /\ Md f.N /\ ∀ p ∈ f.P, Pri p.1 :=
 ⟨(h.right (usedN_nd L)).1, made_md (usedN_len L) h, (h.right (usedN_nd L)).2⟩
def SpT (f : Fn) (d : Nat) (g : Fz) (code : Int) : Prop := (∃ g' o, g = zF g' /\ code = 0 /\ CB (ks f.R ++ [d]) o /\ fresh f o /\ SplitTo f o g') \/ (∃ o, g = f0 /\ code = 6 /\ CB (ks f.R ++ [d]) o /\ ¬ fresh f o)
end Go.Proofs.YtblebpmlkpobnaaGreat
