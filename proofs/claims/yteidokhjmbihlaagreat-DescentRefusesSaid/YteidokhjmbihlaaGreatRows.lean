/-
  No cell of these rows narrows 'for every input' (looked for: loops, veiled, ifaces, maps, wideKeys, modest, calm, conditions, laid).
  DERIVED. THE GIVEN ROWS OF THIS SEAT. 9 by the template 'for every input the law returns true; each argument reads behind the call as it read before'; 0 by the template 'total and deterministic' (their statements: YteidokhjmbihlaaGreatTotals.lean).
  GIVEN WITH THE SEED: the statements are not yours to turn. If you find one false, say at which input.
  Laid BY PROGRAM, IN A SANDBOX (cutbox-rows.mjs): the forced cells as the released guide's own fill.sh prints them over the translation 73f6d5bc8dba0a19… (all of the seat's roots in one cut). By AI agents, Wed Nov 11 2026. No macro, syntax, notation, axiom, sorry.
-/
import Derived.Test.YteidokhjmbihlaaGreatChecked
import GoSem.Claim
import GoSem.ClaimJoined
import GoSem.ClaimMapViews
import Derived.JoinedTies
import Derived.KernelRfl
namespace Go.Proofs.YteidokhjmbihlaaGreat
/- THE CELL 'sum', in the pinned program and in every row, IS THE sha256 OF THE DUMP (.gsa) THAT YteidokhjmbihlaaGreatProg.lean LOADS. Nothing in Lean hashes anything: it is a label: what it is worth is what the hold of that sum in a sandbox is worth. -/
noncomputable def Tryz.pinned : Pinned := { name := "yteidokhjmbihlaagreat", sum := "73f6d5bc8dba0a19cc49eeeeaf4b16a6a9fc08866cc0d3324e2d113d3b7952e3", checked := Tryz.checked }
namespace Rows
def none {H : Type} : Left H := { results := [], args := [] }

/-- 'algoristlaw29.DescentMatchesReference': WHATEVER THE INPUT: true; the input reads as it did. -/
def descentMatchesReferenceSpec : ChangeSpec := { name := "descentMatchesReference", fn := fun _ => fun
  | [d1, d2, d3] => { results := [.lit (.bool true)], args := [d1, d2, d3] }
  | _ => none }
def descentMatchesReferenceRow : OpenClaim := { program := "yteidokhjmbihlaagreat", sum := "73f6d5bc8dba0a19cc49eeeeaf4b16a6a9fc08866cc0d3324e2d113d3b7952e3", func := "algorist/algoristlaw29.DescentMatchesReference", spec := "descentMatchesReference", unfollowed := true, recurses := true, named := ["math/bits.overflowError"], apart := false }
def DescentMatchesReferenceSaid : Prop := descentMatchesReferenceRow.holds Tryz.pinned (OpenSpec.ofChange descentMatchesReferenceSpec)

/-- ITS FALSE NEIGHBOUR: 'it returns false'. Refute it at one input. -/
def descentMatchesReferenceWrong : ChangeSpec := { name := "descentMatchesReference", fn := fun _ => fun
  | [d1, d2, d3] => { results := [.lit (.bool false)], args := [d1, d2, d3] }
  | _ => none }
def DescentMatchesReferenceWrongFalsely : Prop := descentMatchesReferenceRow.holds Tryz.pinned (OpenSpec.ofChange descentMatchesReferenceWrong)

/-- 'algoristlaw29.DescentClasses': WHATEVER THE INPUT: true; the input reads as it did. -/
def descentClassesSpec : ChangeSpec := { name := "descentClasses", fn := fun _ => fun
  | [d1, d2, d3] => { results := [.lit (.bool true)], args := [d1, d2, d3] }
  | _ => none }
def descentClassesRow : OpenClaim := { program := "yteidokhjmbihlaagreat", sum := "73f6d5bc8dba0a19cc49eeeeaf4b16a6a9fc08866cc0d3324e2d113d3b7952e3", func := "algorist/algoristlaw29.DescentClasses", spec := "descentClasses", unfollowed := true, recurses := true, named := ["math/bits.overflowError"], apart := false }
def DescentClassesSaid : Prop := descentClassesRow.holds Tryz.pinned (OpenSpec.ofChange descentClassesSpec)

/-- ITS FALSE NEIGHBOUR: 'it returns false'. Refute it at one input. -/
def descentClassesWrong : ChangeSpec := { name := "descentClasses", fn := fun _ => fun
  | [d1, d2, d3] => { results := [.lit (.bool false)], args := [d1, d2, d3] }
  | _ => none }
def DescentClassesWrongFalsely : Prop := descentClassesRow.holds Tryz.pinned (OpenSpec.ofChange descentClassesWrong)

/-- 'algoristlaw29.DescentCandidates': WHATEVER THE INPUT: true; the input reads as it did. -/
def descentCandidatesSpec : ChangeSpec := { name := "descentCandidates", fn := fun _ => fun
  | [d1, d2] => { results := [.lit (.bool true)], args := [d1, d2] }
  | _ => none }
def descentCandidatesRow : OpenClaim := { program := "yteidokhjmbihlaagreat", sum := "73f6d5bc8dba0a19cc49eeeeaf4b16a6a9fc08866cc0d3324e2d113d3b7952e3", func := "algorist/algoristlaw29.DescentCandidates", spec := "descentCandidates", unfollowed := true, recurses := true, named := ["math/bits.overflowError"], apart := false }
def DescentCandidatesSaid : Prop := descentCandidatesRow.holds Tryz.pinned (OpenSpec.ofChange descentCandidatesSpec)

/-- ITS FALSE NEIGHBOUR: 'it returns false'. Refute it at one input. -/
def descentCandidatesWrong : ChangeSpec := { name := "descentCandidates", fn := fun _ => fun
  | [d1, d2] => { results := [.lit (.bool false)], args := [d1, d2] }
  | _ => none }
def DescentCandidatesWrongFalsely : Prop := descentCandidatesRow.holds Tryz.pinned (OpenSpec.ofChange descentCandidatesWrong)

/-- 'algoristlaw29.DescentSolubility': WHATEVER THE INPUT: true; the input reads as it did. -/
def descentSolubilitySpec : ChangeSpec := { name := "descentSolubility", fn := fun _ => fun
  | [d1, d2, d3] => { results := [.lit (.bool true)], args := [d1, d2, d3] }
  | _ => none }
def descentSolubilityRow : OpenClaim := { program := "yteidokhjmbihlaagreat", sum := "73f6d5bc8dba0a19cc49eeeeaf4b16a6a9fc08866cc0d3324e2d113d3b7952e3", func := "algorist/algoristlaw29.DescentSolubility", spec := "descentSolubility", unfollowed := true, recurses := true, named := ["math/bits.overflowError"], apart := false }
def DescentSolubilitySaid : Prop := descentSolubilityRow.holds Tryz.pinned (OpenSpec.ofChange descentSolubilitySpec)

/-- ITS FALSE NEIGHBOUR: 'it returns false'. Refute it at one input. -/
def descentSolubilityWrong : ChangeSpec := { name := "descentSolubility", fn := fun _ => fun
  | [d1, d2, d3] => { results := [.lit (.bool false)], args := [d1, d2, d3] }
  | _ => none }
def DescentSolubilityWrongFalsely : Prop := descentSolubilityRow.holds Tryz.pinned (OpenSpec.ofChange descentSolubilityWrong)

/-- 'algoristlaw29.DescentMakes': WHATEVER THE INPUT: true; the input reads as it did. -/
def descentMakesSpec : ChangeSpec := { name := "descentMakes", fn := fun _ => fun
  | [d] => { results := [.lit (.bool true)], args := [d] }
  | _ => none }
def descentMakesRow : OpenClaim := { program := "yteidokhjmbihlaagreat", sum := "73f6d5bc8dba0a19cc49eeeeaf4b16a6a9fc08866cc0d3324e2d113d3b7952e3", func := "algorist/algoristlaw29.DescentMakes", spec := "descentMakes", unfollowed := true, recurses := true, named := ["math/bits.overflowError"], apart := false }
def DescentMakesSaid : Prop := descentMakesRow.holds Tryz.pinned (OpenSpec.ofChange descentMakesSpec)

/-- ITS FALSE NEIGHBOUR: 'it returns false'. Refute it at one input. -/
def descentMakesWrong : ChangeSpec := { name := "descentMakes", fn := fun _ => fun
  | [d] => { results := [.lit (.bool false)], args := [d] }
  | _ => none }
def DescentMakesWrongFalsely : Prop := descentMakesRow.holds Tryz.pinned (OpenSpec.ofChange descentMakesWrong)

/-- 'algoristlaw29.DescentBounds': WHATEVER THE INPUT: true; the input reads as it did. -/
def descentBoundsSpec : ChangeSpec := { name := "descentBounds", fn := fun _ => fun
  | [d1, d2] => { results := [.lit (.bool true)], args := [d1, d2] }
  | _ => none }
def descentBoundsRow : OpenClaim := { program := "yteidokhjmbihlaagreat", sum := "73f6d5bc8dba0a19cc49eeeeaf4b16a6a9fc08866cc0d3324e2d113d3b7952e3", func := "algorist/algoristlaw29.DescentBounds", spec := "descentBounds", unfollowed := true, recurses := true, named := ["math/bits.overflowError"], apart := false }
def DescentBoundsSaid : Prop := descentBoundsRow.holds Tryz.pinned (OpenSpec.ofChange descentBoundsSpec)

/-- ITS FALSE NEIGHBOUR: 'it returns false'. Refute it at one input. -/
def descentBoundsWrong : ChangeSpec := { name := "descentBounds", fn := fun _ => fun
  | [d1, d2] => { results := [.lit (.bool false)], args := [d1, d2] }
  | _ => none }
def DescentBoundsWrongFalsely : Prop := descentBoundsRow.holds Tryz.pinned (OpenSpec.ofChange descentBoundsWrong)

/-- 'algoristlaw29.DescentDamage': WHATEVER THE INPUT: true; the input reads as it did. -/
def descentDamageSpec : ChangeSpec := { name := "descentDamage", fn := fun _ => fun
  | [d1, d2] => { results := [.lit (.bool true)], args := [d1, d2] }
  | _ => none }
def descentDamageRow : OpenClaim := { program := "yteidokhjmbihlaagreat", sum := "73f6d5bc8dba0a19cc49eeeeaf4b16a6a9fc08866cc0d3324e2d113d3b7952e3", func := "algorist/algoristlaw29.DescentDamage", spec := "descentDamage", unfollowed := true, recurses := true, named := ["math/bits.overflowError"], apart := false }
def DescentDamageSaid : Prop := descentDamageRow.holds Tryz.pinned (OpenSpec.ofChange descentDamageSpec)

/-- ITS FALSE NEIGHBOUR: 'it returns false'. Refute it at one input. -/
def descentDamageWrong : ChangeSpec := { name := "descentDamage", fn := fun _ => fun
  | [d1, d2] => { results := [.lit (.bool false)], args := [d1, d2] }
  | _ => none }
def DescentDamageWrongFalsely : Prop := descentDamageRow.holds Tryz.pinned (OpenSpec.ofChange descentDamageWrong)

/-- 'algoristlaw29.DescentRefuses': WHATEVER THE INPUT: true; the input reads as it did. -/
def descentRefusesSpec : ChangeSpec := { name := "descentRefuses", fn := fun _ => fun
  | [d1, d2, d3] => { results := [.lit (.bool true)], args := [d1, d2, d3] }
  | _ => none }
def descentRefusesRow : OpenClaim := { program := "yteidokhjmbihlaagreat", sum := "73f6d5bc8dba0a19cc49eeeeaf4b16a6a9fc08866cc0d3324e2d113d3b7952e3", func := "algorist/algoristlaw29.DescentRefuses", spec := "descentRefuses", unfollowed := true, recurses := true, named := ["math/bits.overflowError"], apart := false }
def DescentRefusesSaid : Prop := descentRefusesRow.holds Tryz.pinned (OpenSpec.ofChange descentRefusesSpec)

/-- ITS FALSE NEIGHBOUR: 'it returns false'. Refute it at one input. -/
def descentRefusesWrong : ChangeSpec := { name := "descentRefuses", fn := fun _ => fun
  | [d1, d2, d3] => { results := [.lit (.bool false)], args := [d1, d2, d3] }
  | _ => none }
def DescentRefusesWrongFalsely : Prop := descentRefusesRow.holds Tryz.pinned (OpenSpec.ofChange descentRefusesWrong)

/-- 'algoristlaw29.DescentImages': WHATEVER THE INPUT: true; the input reads as it did. -/
def descentImagesSpec : ChangeSpec := { name := "descentImages", fn := fun _ => fun
  | [d1, d2] => { results := [.lit (.bool true)], args := [d1, d2] }
  | _ => none }
def descentImagesRow : OpenClaim := { program := "yteidokhjmbihlaagreat", sum := "73f6d5bc8dba0a19cc49eeeeaf4b16a6a9fc08866cc0d3324e2d113d3b7952e3", func := "algorist/algoristlaw29.DescentImages", spec := "descentImages", unfollowed := true, recurses := true, named := ["math/bits.overflowError"], apart := false }
def DescentImagesSaid : Prop := descentImagesRow.holds Tryz.pinned (OpenSpec.ofChange descentImagesSpec)

/-- ITS FALSE NEIGHBOUR: 'it returns false'. Refute it at one input. -/
def descentImagesWrong : ChangeSpec := { name := "descentImages", fn := fun _ => fun
  | [d1, d2] => { results := [.lit (.bool false)], args := [d1, d2] }
  | _ => none }
def DescentImagesWrongFalsely : Prop := descentImagesRow.holds Tryz.pinned (OpenSpec.ofChange descentImagesWrong)

/- THE SECOND FORM. 'bulk': how many values and letters a reading holds, each counted each time it is reached (what is shared counts as often as it is met; a slice's spare places count too). A statement '..UptoSaid' is the law's where the arguments, and the package variables that the reading takes, are together of bulk at most 1048576: NARROWER than '..Said'. Prove '..Said' where nothing that the law and all that it calls make is longer than what came in: it says more and counts as full. Else prove '..UptoSaid'. A law counts once. -/
mutual
def uptoBulk {H : Type} : DataW H → Nat
  | .lit (.string bytes) => bytes.length + 1
  | .lit _ => 1
  | .nil => 1
  | .ptr d => uptoBulk d + 1
  | .slice elems spare => uptoBulkAll elems + uptoBulkAll spare + 1
  | .agg parts => uptoBulkAll parts + 1
  | .iface _ d => uptoBulk d + 1
  | .map entries => uptoBulkEntries entries + 1
  | .held _ => 1
def uptoBulkAll {H : Type} : List (DataW H) → Nat
  | [] => 0
  | d :: r => uptoBulk d + uptoBulkAll r
def uptoBulkEntries {H : Type} : List (Lit × DataW H) → Nat
  | [] => 0
  | x :: r => uptoBulkEntry x + uptoBulkEntries r
def uptoBulkEntry {H : Type} : Lit × DataW H → Nat
  | (.string bytes, d) => bytes.length + uptoBulk d + 1
  | (_, d) => uptoBulk d + 1
 end
def uptoSmall : (H : Type) → List (DataW H) → Bool := fun _ ds => decide (uptoBulkAll ds ≤ 1048576)
def OpenSpec.upto (s : _root_.Go.ChangeSpec) : _root_.Go.OpenSpec := { _root_.Go.OpenSpec.ofChange s with cond := some uptoSmall }

/-- 'algoristlaw29.DescentMatchesReference', WHERE WHAT IT READS IS OF BULK AT MOST 1048576: true; the input reads as it did. -/
def descentMatchesReferenceUptoRow : OpenClaim := { program := "yteidokhjmbihlaagreat", sum := "73f6d5bc8dba0a19cc49eeeeaf4b16a6a9fc08866cc0d3324e2d113d3b7952e3", func := "algorist/algoristlaw29.DescentMatchesReference", spec := "descentMatchesReference", unfollowed := true, recurses := true, named := ["math/bits.overflowError"], apart := false, narrowed := true }
def DescentMatchesReferenceUptoSaid : Prop := descentMatchesReferenceUptoRow.holds Tryz.pinned (OpenSpec.upto descentMatchesReferenceSpec)

/-- 'algoristlaw29.DescentClasses', WHERE WHAT IT READS IS OF BULK AT MOST 1048576: true; the input reads as it did. -/
def descentClassesUptoRow : OpenClaim := { program := "yteidokhjmbihlaagreat", sum := "73f6d5bc8dba0a19cc49eeeeaf4b16a6a9fc08866cc0d3324e2d113d3b7952e3", func := "algorist/algoristlaw29.DescentClasses", spec := "descentClasses", unfollowed := true, recurses := true, named := ["math/bits.overflowError"], apart := false, narrowed := true }
def DescentClassesUptoSaid : Prop := descentClassesUptoRow.holds Tryz.pinned (OpenSpec.upto descentClassesSpec)

/-- 'algoristlaw29.DescentCandidates', WHERE WHAT IT READS IS OF BULK AT MOST 1048576: true; the input reads as it did. -/
def descentCandidatesUptoRow : OpenClaim := { program := "yteidokhjmbihlaagreat", sum := "73f6d5bc8dba0a19cc49eeeeaf4b16a6a9fc08866cc0d3324e2d113d3b7952e3", func := "algorist/algoristlaw29.DescentCandidates", spec := "descentCandidates", unfollowed := true, recurses := true, named := ["math/bits.overflowError"], apart := false, narrowed := true }
def DescentCandidatesUptoSaid : Prop := descentCandidatesUptoRow.holds Tryz.pinned (OpenSpec.upto descentCandidatesSpec)

/-- 'algoristlaw29.DescentSolubility', WHERE WHAT IT READS IS OF BULK AT MOST 1048576: true; the input reads as it did. -/
def descentSolubilityUptoRow : OpenClaim := { program := "yteidokhjmbihlaagreat", sum := "73f6d5bc8dba0a19cc49eeeeaf4b16a6a9fc08866cc0d3324e2d113d3b7952e3", func := "algorist/algoristlaw29.DescentSolubility", spec := "descentSolubility", unfollowed := true, recurses := true, named := ["math/bits.overflowError"], apart := false, narrowed := true }
def DescentSolubilityUptoSaid : Prop := descentSolubilityUptoRow.holds Tryz.pinned (OpenSpec.upto descentSolubilitySpec)

/-- 'algoristlaw29.DescentMakes', WHERE WHAT IT READS IS OF BULK AT MOST 1048576: true; the input reads as it did. -/
def descentMakesUptoRow : OpenClaim := { program := "yteidokhjmbihlaagreat", sum := "73f6d5bc8dba0a19cc49eeeeaf4b16a6a9fc08866cc0d3324e2d113d3b7952e3", func := "algorist/algoristlaw29.DescentMakes", spec := "descentMakes", unfollowed := true, recurses := true, named := ["math/bits.overflowError"], apart := false, narrowed := true }
def DescentMakesUptoSaid : Prop := descentMakesUptoRow.holds Tryz.pinned (OpenSpec.upto descentMakesSpec)

/-- 'algoristlaw29.DescentBounds', WHERE WHAT IT READS IS OF BULK AT MOST 1048576: true; the input reads as it did. -/
def descentBoundsUptoRow : OpenClaim := { program := "yteidokhjmbihlaagreat", sum := "73f6d5bc8dba0a19cc49eeeeaf4b16a6a9fc08866cc0d3324e2d113d3b7952e3", func := "algorist/algoristlaw29.DescentBounds", spec := "descentBounds", unfollowed := true, recurses := true, named := ["math/bits.overflowError"], apart := false, narrowed := true }
def DescentBoundsUptoSaid : Prop := descentBoundsUptoRow.holds Tryz.pinned (OpenSpec.upto descentBoundsSpec)

/-- 'algoristlaw29.DescentDamage', WHERE WHAT IT READS IS OF BULK AT MOST 1048576: true; the input reads as it did. -/
def descentDamageUptoRow : OpenClaim := { program := "yteidokhjmbihlaagreat", sum := "73f6d5bc8dba0a19cc49eeeeaf4b16a6a9fc08866cc0d3324e2d113d3b7952e3", func := "algorist/algoristlaw29.DescentDamage", spec := "descentDamage", unfollowed := true, recurses := true, named := ["math/bits.overflowError"], apart := false, narrowed := true }
def DescentDamageUptoSaid : Prop := descentDamageUptoRow.holds Tryz.pinned (OpenSpec.upto descentDamageSpec)

/-- 'algoristlaw29.DescentRefuses', WHERE WHAT IT READS IS OF BULK AT MOST 1048576: true; the input reads as it did. -/
def descentRefusesUptoRow : OpenClaim := { program := "yteidokhjmbihlaagreat", sum := "73f6d5bc8dba0a19cc49eeeeaf4b16a6a9fc08866cc0d3324e2d113d3b7952e3", func := "algorist/algoristlaw29.DescentRefuses", spec := "descentRefuses", unfollowed := true, recurses := true, named := ["math/bits.overflowError"], apart := false, narrowed := true }
def DescentRefusesUptoSaid : Prop := descentRefusesUptoRow.holds Tryz.pinned (OpenSpec.upto descentRefusesSpec)

/-- 'algoristlaw29.DescentImages', WHERE WHAT IT READS IS OF BULK AT MOST 1048576: true; the input reads as it did. -/
def descentImagesUptoRow : OpenClaim := { program := "yteidokhjmbihlaagreat", sum := "73f6d5bc8dba0a19cc49eeeeaf4b16a6a9fc08866cc0d3324e2d113d3b7952e3", func := "algorist/algoristlaw29.DescentImages", spec := "descentImages", unfollowed := true, recurses := true, named := ["math/bits.overflowError"], apart := false, narrowed := true }
def DescentImagesUptoSaid : Prop := descentImagesUptoRow.holds Tryz.pinned (OpenSpec.upto descentImagesSpec)

end Rows
end Go.Proofs.YteidokhjmbihlaaGreat
