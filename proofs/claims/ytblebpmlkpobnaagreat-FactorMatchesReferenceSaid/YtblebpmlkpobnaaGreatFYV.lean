/-
  A number's description, and two numbers, that come into a law.
-/
import Derived.Test.YtblebpmlkpobnaaGreatFYZ
import Derived.Test.YtblebpmlkpobnaaGreatFYT
import Derived.Test.YtblebpmlkpobnaaGreatFY
set_option linter.unusedSimpArgs false
set_option linter.unusedVariables false
set_option maxRecDepth 100000
namespace Go.Proofs.YtblebpmlkpobnaaGreat
open Go.ChangeShapes Go.WideShapes Go.ChangeAt Go.RowKit
theorem array2 {α : Type} {cs : Array α} (h : cs.size = 2) : ∃ c0 c1, cs = #[c0, c1] := by
 obtain ⟨l⟩ := cs;match l, h with
 | [c0, c1], _ => exact ⟨c0, c1, rfl⟩
theorem list2 {α : Type} {l : List α} (h : l.length = 2) : ∃ c0 c1, l = [c0, c1] := by
 match l, h with
 | [c0, c1], _ => exact ⟨c0, c1, rfl⟩
variable {H : Type} {enc : TypeId × Value -> H} {w : World}
theorem open_raw1 {v : Value} {d : DataW H} {p : List MemPlace} {r : Reach} {b0 : Nat} (hv : Value.okWide Tryz.prog w r b0 28 v) (h : DataW.Trod enc Tryz.prog w 0 (fun _ => true) true 28 v d p) : Nx w v := by
 obtain ⟨cs, rfl, hsz⟩ := okWide_struct Tryz.underlying28 hv;obtain ⟨c0, c1, rfl⟩ := array2 (hsz.trans (by kernel_rfl));obtain ⟨fuel, hf⟩ := h;obtain ⟨s, a, m, c, rfl, rfl, hN⟩ := open_words hf;exact hN
end Go.Proofs.YtblebpmlkpobnaaGreat
