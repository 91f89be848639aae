/-
  What the laws of Factor share.
-/
import Derived.Test.YtblebpmlkpobnaaGreatFW
import Derived.Test.YtblebpmlkpobnaaGreatFZC
import Derived.Test.YtblebpmlkpobnaaGreatFZG
set_option linter.unusedSimpArgs false
set_option linter.unusedVariables false
namespace Go.Proofs.YtblebpmlkpobnaaGreat
open Go.RowKit
theorem MadeTo.good {L : List Tri} {b : Nat} {f : Fn} (h : MadeTo (usedN L []) b f) : RightN f ∧ Md f.N ∧ ∀ p ∈ f.P, Pri p.1 :=
 ⟨(h.right (usedN_nd L)).1, made_md (usedN_len L) h, (h.right (usedN_nd L)).2⟩
theorem srt_some (l : List (Nat × Nat)) : ∃ m, Srt l m := by
 refine ⟨l.mergeSort (fun a b => decide (a.1 ≤ b.1)), List.mergeSort_perm _ _, ?_⟩
 have := List.pairwise_mergeSort (le := fun (a b : Nat × Nat) => decide (a.1 ≤ b.1)) (fun a b c h1 h2 => by simp at *; omega) (fun a b => by simp; omega) l
 exact this.imp (fun h => by simpa using h)
end Go.Proofs.YtblebpmlkpobnaaGreat
