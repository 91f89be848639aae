/-
  No cell of these rows narrows 'for every input' (looked for: loops, veiled, ifaces, maps, wideKeys, modest, calm, conditions, laid).
  DERIVED. THE GIVEN ROWS OF THIS SEAT. 10 by the template 'for every input the law returns true; each argument reads behind the call as it read before'; 0 by the template 'total and deterministic' (their statements: YtblebpmlkpobnaaGreatTotals.lean).
  GIVEN WITH THE SEED: the statements are not yours to turn. If you find one false, say at which input.
  Laid BY PROGRAM, IN A SANDBOX (cutbox-rows.mjs): the forced cells as the released guide's own fill.sh prints them over the translation 0591c02132a29b38… (all of the seat's roots in one cut). By AI agents, Wed Nov 11 2026. No macro, syntax, notation, axiom, sorry.
-/
import Derived.Test.YtblebpmlkpobnaaGreatChecked
import GoSem.Claim
import GoSem.ClaimJoined
import GoSem.ClaimMapViews
import Derived.JoinedTies
import Derived.KernelRfl
namespace Go.Proofs.YtblebpmlkpobnaaGreat
/- THE CELL 'sum', in the pinned program and in every row, IS THE sha256 OF THE DUMP (.gsa) THAT YtblebpmlkpobnaaGreatProg.lean LOADS. Nothing in Lean hashes anything: it is a label: what it is worth is what the hold of that sum in a sandbox is worth. -/
noncomputable def Tryz.pinned : Pinned := { name := "ytblebpmlkpobnaagreat", sum := "0591c02132a29b38879bf1f200b86991d66a48a01c80c0ed87fe027ea3c5fe55", checked := Tryz.checked }
namespace Rows
def none {H : Type} : Left H := { results := [], args := [] }

/-- 'algoristlaw05.FactorRight': WHATEVER THE INPUT: true; the input reads as it did. -/
def factorRightSpec : ChangeSpec := { name := "factorRight", fn := fun _ => fun
  | [d1, d2] => { results := [.lit (.bool true)], args := [d1, d2] }
  | _ => none }
def factorRightRow : OpenClaim := { program := "ytblebpmlkpobnaagreat", sum := "0591c02132a29b38879bf1f200b86991d66a48a01c80c0ed87fe027ea3c5fe55", func := "algorist/algoristlaw05.FactorRight", spec := "factorRight", unfollowed := true, recurses := true, named := ["math/bits.overflowError"], apart := false }
def FactorRightSaid : Prop := factorRightRow.holds Tryz.pinned (OpenSpec.ofChange factorRightSpec)

/-- ITS FALSE NEIGHBOUR: 'it returns false'. Refute it at one input. -/
def factorRightWrong : ChangeSpec := { name := "factorRight", fn := fun _ => fun
  | [d1, d2] => { results := [.lit (.bool false)], args := [d1, d2] }
  | _ => none }
def FactorRightWrongFalsely : Prop := factorRightRow.holds Tryz.pinned (OpenSpec.ofChange factorRightWrong)

/-- 'algoristlaw05.FactorSplits': WHATEVER THE INPUT: true; the input reads as it did. -/
def factorSplitsSpec : ChangeSpec := { name := "factorSplits", fn := fun _ => fun
  | [d1, d2] => { results := [.lit (.bool true)], args := [d1, d2] }
  | _ => none }
def factorSplitsRow : OpenClaim := { program := "ytblebpmlkpobnaagreat", sum := "0591c02132a29b38879bf1f200b86991d66a48a01c80c0ed87fe027ea3c5fe55", func := "algorist/algoristlaw05.FactorSplits", spec := "factorSplits", unfollowed := true, recurses := true, named := ["math/bits.overflowError"], apart := false }
def FactorSplitsSaid : Prop := factorSplitsRow.holds Tryz.pinned (OpenSpec.ofChange factorSplitsSpec)

/-- ITS FALSE NEIGHBOUR: 'it returns false'. Refute it at one input. -/
def factorSplitsWrong : ChangeSpec := { name := "factorSplits", fn := fun _ => fun
  | [d1, d2] => { results := [.lit (.bool false)], args := [d1, d2] }
  | _ => none }
def FactorSplitsWrongFalsely : Prop := factorSplitsRow.holds Tryz.pinned (OpenSpec.ofChange factorSplitsWrong)

/-- 'algoristlaw05.FactorMerges': WHATEVER THE INPUT: true; the input reads as it did. -/
def factorMergesSpec : ChangeSpec := { name := "factorMerges", fn := fun _ => fun
  | [d1, d2] => { results := [.lit (.bool true)], args := [d1, d2] }
  | _ => none }
def factorMergesRow : OpenClaim := { program := "ytblebpmlkpobnaagreat", sum := "0591c02132a29b38879bf1f200b86991d66a48a01c80c0ed87fe027ea3c5fe55", func := "algorist/algoristlaw05.FactorMerges", spec := "factorMerges", unfollowed := true, recurses := true, named := ["math/bits.overflowError"], apart := false }
def FactorMergesSaid : Prop := factorMergesRow.holds Tryz.pinned (OpenSpec.ofChange factorMergesSpec)

/-- ITS FALSE NEIGHBOUR: 'it returns false'. Refute it at one input. -/
def factorMergesWrong : ChangeSpec := { name := "factorMerges", fn := fun _ => fun
  | [d1, d2] => { results := [.lit (.bool false)], args := [d1, d2] }
  | _ => none }
def FactorMergesWrongFalsely : Prop := factorMergesRow.holds Tryz.pinned (OpenSpec.ofChange factorMergesWrong)

/-- 'algoristlaw05.FactorAssociative': WHATEVER THE INPUT: true; the input reads as it did. -/
def factorAssociativeSpec : ChangeSpec := { name := "factorAssociative", fn := fun _ => fun
  | [d1, d2, d3] => { results := [.lit (.bool true)], args := [d1, d2, d3] }
  | _ => none }
def factorAssociativeRow : OpenClaim := { program := "ytblebpmlkpobnaagreat", sum := "0591c02132a29b38879bf1f200b86991d66a48a01c80c0ed87fe027ea3c5fe55", func := "algorist/algoristlaw05.FactorAssociative", spec := "factorAssociative", unfollowed := true, recurses := true, named := ["math/bits.overflowError"], apart := false }
def FactorAssociativeSaid : Prop := factorAssociativeRow.holds Tryz.pinned (OpenSpec.ofChange factorAssociativeSpec)

/-- ITS FALSE NEIGHBOUR: 'it returns false'. Refute it at one input. -/
def factorAssociativeWrong : ChangeSpec := { name := "factorAssociative", fn := fun _ => fun
  | [d1, d2, d3] => { results := [.lit (.bool false)], args := [d1, d2, d3] }
  | _ => none }
def FactorAssociativeWrongFalsely : Prop := factorAssociativeRow.holds Tryz.pinned (OpenSpec.ofChange factorAssociativeWrong)

/-- 'algoristlaw05.FactorDivisors': WHATEVER THE INPUT: true; the input reads as it did. -/
def factorDivisorsSpec : ChangeSpec := { name := "factorDivisors", fn := fun _ => fun
  | [d] => { results := [.lit (.bool true)], args := [d] }
  | _ => none }
def factorDivisorsRow : OpenClaim := { program := "ytblebpmlkpobnaagreat", sum := "0591c02132a29b38879bf1f200b86991d66a48a01c80c0ed87fe027ea3c5fe55", func := "algorist/algoristlaw05.FactorDivisors", spec := "factorDivisors", unfollowed := true, recurses := true, named := ["math/bits.overflowError"], apart := false }
def FactorDivisorsSaid : Prop := factorDivisorsRow.holds Tryz.pinned (OpenSpec.ofChange factorDivisorsSpec)

/-- ITS FALSE NEIGHBOUR: 'it returns false'. Refute it at one input. -/
def factorDivisorsWrong : ChangeSpec := { name := "factorDivisors", fn := fun _ => fun
  | [d] => { results := [.lit (.bool false)], args := [d] }
  | _ => none }
def FactorDivisorsWrongFalsely : Prop := factorDivisorsRow.holds Tryz.pinned (OpenSpec.ofChange factorDivisorsWrong)

/-- 'algoristlaw05.FactorRefuses': WHATEVER THE INPUT: true; the input reads as it did. -/
def factorRefusesSpec : ChangeSpec := { name := "factorRefuses", fn := fun _ => fun
  | [d1, d2, d3] => { results := [.lit (.bool true)], args := [d1, d2, d3] }
  | _ => none }
def factorRefusesRow : OpenClaim := { program := "ytblebpmlkpobnaagreat", sum := "0591c02132a29b38879bf1f200b86991d66a48a01c80c0ed87fe027ea3c5fe55", func := "algorist/algoristlaw05.FactorRefuses", spec := "factorRefuses", unfollowed := true, recurses := true, named := ["math/bits.overflowError"], apart := false }
def FactorRefusesSaid : Prop := factorRefusesRow.holds Tryz.pinned (OpenSpec.ofChange factorRefusesSpec)

/-- ITS FALSE NEIGHBOUR: 'it returns false'. Refute it at one input. -/
def factorRefusesWrong : ChangeSpec := { name := "factorRefuses", fn := fun _ => fun
  | [d1, d2, d3] => { results := [.lit (.bool false)], args := [d1, d2, d3] }
  | _ => none }
def FactorRefusesWrongFalsely : Prop := factorRefusesRow.holds Tryz.pinned (OpenSpec.ofChange factorRefusesWrong)

/-- 'algoristlaw05.FactorOmega': WHATEVER THE INPUT: true; the input reads as it did. -/
def factorOmegaSpec : ChangeSpec := { name := "factorOmega", fn := fun _ => fun
  | [d1, d2] => { results := [.lit (.bool true)], args := [d1, d2] }
  | _ => none }
def factorOmegaRow : OpenClaim := { program := "ytblebpmlkpobnaagreat", sum := "0591c02132a29b38879bf1f200b86991d66a48a01c80c0ed87fe027ea3c5fe55", func := "algorist/algoristlaw05.FactorOmega", spec := "factorOmega", unfollowed := true, recurses := true, named := ["math/bits.overflowError"], apart := false }
def FactorOmegaSaid : Prop := factorOmegaRow.holds Tryz.pinned (OpenSpec.ofChange factorOmegaSpec)

/-- ITS FALSE NEIGHBOUR: 'it returns false'. Refute it at one input. -/
def factorOmegaWrong : ChangeSpec := { name := "factorOmega", fn := fun _ => fun
  | [d1, d2] => { results := [.lit (.bool false)], args := [d1, d2] }
  | _ => none }
def FactorOmegaWrongFalsely : Prop := factorOmegaRow.holds Tryz.pinned (OpenSpec.ofChange factorOmegaWrong)

/-- 'algoristlaw05.FactorSettles': WHATEVER THE INPUT: true; the input reads as it did. -/
def factorSettlesSpec : ChangeSpec := { name := "factorSettles", fn := fun _ => fun
  | [d1, d2] => { results := [.lit (.bool true)], args := [d1, d2] }
  | _ => none }
def factorSettlesRow : OpenClaim := { program := "ytblebpmlkpobnaagreat", sum := "0591c02132a29b38879bf1f200b86991d66a48a01c80c0ed87fe027ea3c5fe55", func := "algorist/algoristlaw05.FactorSettles", spec := "factorSettles", unfollowed := true, recurses := true, named := ["math/bits.overflowError"], apart := false }
def FactorSettlesSaid : Prop := factorSettlesRow.holds Tryz.pinned (OpenSpec.ofChange factorSettlesSpec)

/-- ITS FALSE NEIGHBOUR: 'it returns false'. Refute it at one input. -/
def factorSettlesWrong : ChangeSpec := { name := "factorSettles", fn := fun _ => fun
  | [d1, d2] => { results := [.lit (.bool false)], args := [d1, d2] }
  | _ => none }
def FactorSettlesWrongFalsely : Prop := factorSettlesRow.holds Tryz.pinned (OpenSpec.ofChange factorSettlesWrong)

/-- 'algoristlaw05.FactorMatchesReference': WHATEVER THE INPUT: true; the input reads as it did. -/
def factorMatchesReferenceSpec : ChangeSpec := { name := "factorMatchesReference", fn := fun _ => fun
  | [d1, d2, d3] => { results := [.lit (.bool true)], args := [d1, d2, d3] }
  | _ => none }
def factorMatchesReferenceRow : OpenClaim := { program := "ytblebpmlkpobnaagreat", sum := "0591c02132a29b38879bf1f200b86991d66a48a01c80c0ed87fe027ea3c5fe55", func := "algorist/algoristlaw05.FactorMatchesReference", spec := "factorMatchesReference", unfollowed := true, recurses := true, named := ["math/bits.overflowError"], apart := false }
def FactorMatchesReferenceSaid : Prop := factorMatchesReferenceRow.holds Tryz.pinned (OpenSpec.ofChange factorMatchesReferenceSpec)

/-- ITS FALSE NEIGHBOUR: 'it returns false'. Refute it at one input. -/
def factorMatchesReferenceWrong : ChangeSpec := { name := "factorMatchesReference", fn := fun _ => fun
  | [d1, d2, d3] => { results := [.lit (.bool false)], args := [d1, d2, d3] }
  | _ => none }
def FactorMatchesReferenceWrongFalsely : Prop := factorMatchesReferenceRow.holds Tryz.pinned (OpenSpec.ofChange factorMatchesReferenceWrong)

/-- 'algoristlaw05.FactorSearch': WHATEVER THE INPUT: true; the input reads as it did. -/
def factorSearchSpec : ChangeSpec := { name := "factorSearch", fn := fun _ => fun
  | [d1, d2] => { results := [.lit (.bool true)], args := [d1, d2] }
  | _ => none }
def factorSearchRow : OpenClaim := { program := "ytblebpmlkpobnaagreat", sum := "0591c02132a29b38879bf1f200b86991d66a48a01c80c0ed87fe027ea3c5fe55", func := "algorist/algoristlaw05.FactorSearch", spec := "factorSearch", unfollowed := true, recurses := true, named := ["math/bits.overflowError"], apart := false }
def FactorSearchSaid : Prop := factorSearchRow.holds Tryz.pinned (OpenSpec.ofChange factorSearchSpec)

/-- ITS FALSE NEIGHBOUR: 'it returns false'. Refute it at one input. -/
def factorSearchWrong : ChangeSpec := { name := "factorSearch", fn := fun _ => fun
  | [d1, d2] => { results := [.lit (.bool false)], args := [d1, d2] }
  | _ => none }
def FactorSearchWrongFalsely : Prop := factorSearchRow.holds Tryz.pinned (OpenSpec.ofChange factorSearchWrong)

/- THE SECOND FORM. 'bulk': how many values and letters a reading holds, each counted each time it is reached (what is shared counts as often as it is met; a slice's spare places count too). A statement '..UptoSaid' is the law's where the arguments, and the package variables that the reading takes, are together of bulk at most 1048576: NARROWER than '..Said'. Prove '..Said' where nothing that the law and all that it calls make is longer than what came in: it says more and counts as full. Else prove '..UptoSaid'. A law counts once. -/
mutual
def uptoBulk {H : Type} : DataW H → Nat
  | .lit (.string bytes) => bytes.length + 1
  | .lit _ => 1
  | .nil => 1
  | .ptr d => uptoBulk d + 1
  | .slice elems spare => uptoBulkAll elems + uptoBulkAll spare + 1
  | .agg parts => uptoBulkAll parts + 1
  | .iface _ d => uptoBulk d + 1
  | .map entries => uptoBulkEntries entries + 1
  | .held _ => 1
def uptoBulkAll {H : Type} : List (DataW H) → Nat
  | [] => 0
  | d :: r => uptoBulk d + uptoBulkAll r
def uptoBulkEntries {H : Type} : List (Lit × DataW H) → Nat
  | [] => 0
  | x :: r => uptoBulkEntry x + uptoBulkEntries r
def uptoBulkEntry {H : Type} : Lit × DataW H → Nat
  | (.string bytes, d) => bytes.length + uptoBulk d + 1
  | (_, d) => uptoBulk d + 1
 end
def uptoSmall : (H : Type) → List (DataW H) → Bool := fun _ ds => decide (uptoBulkAll ds ≤ 1048576)
def OpenSpec.upto (s : _root_.Go.ChangeSpec) : _root_.Go.OpenSpec := { _root_.Go.OpenSpec.ofChange s with cond := some uptoSmall }

/-- 'algoristlaw05.FactorRight', WHERE WHAT IT READS IS OF BULK AT MOST 1048576: true; the input reads as it did. -/
def factorRightUptoRow : OpenClaim := { program := "ytblebpmlkpobnaagreat", sum := "0591c02132a29b38879bf1f200b86991d66a48a01c80c0ed87fe027ea3c5fe55", func := "algorist/algoristlaw05.FactorRight", spec := "factorRight", unfollowed := true, recurses := true, named := ["math/bits.overflowError"], apart := false, narrowed := true }
def FactorRightUptoSaid : Prop := factorRightUptoRow.holds Tryz.pinned (OpenSpec.upto factorRightSpec)

/-- 'algoristlaw05.FactorSplits', WHERE WHAT IT READS IS OF BULK AT MOST 1048576: true; the input reads as it did. -/
def factorSplitsUptoRow : OpenClaim := { program := "ytblebpmlkpobnaagreat", sum := "0591c02132a29b38879bf1f200b86991d66a48a01c80c0ed87fe027ea3c5fe55", func := "algorist/algoristlaw05.FactorSplits", spec := "factorSplits", unfollowed := true, recurses := true, named := ["math/bits.overflowError"], apart := false, narrowed := true }
def FactorSplitsUptoSaid : Prop := factorSplitsUptoRow.holds Tryz.pinned (OpenSpec.upto factorSplitsSpec)

/-- 'algoristlaw05.FactorMerges', WHERE WHAT IT READS IS OF BULK AT MOST 1048576: true; the input reads as it did. -/
def factorMergesUptoRow : OpenClaim := { program := "ytblebpmlkpobnaagreat", sum := "0591c02132a29b38879bf1f200b86991d66a48a01c80c0ed87fe027ea3c5fe55", func := "algorist/algoristlaw05.FactorMerges", spec := "factorMerges", unfollowed := true, recurses := true, named := ["math/bits.overflowError"], apart := false, narrowed := true }
def FactorMergesUptoSaid : Prop := factorMergesUptoRow.holds Tryz.pinned (OpenSpec.upto factorMergesSpec)

/-- 'algoristlaw05.FactorAssociative', WHERE WHAT IT READS IS OF BULK AT MOST 1048576: true; the input reads as it did. -/
def factorAssociativeUptoRow : OpenClaim := { program := "ytblebpmlkpobnaagreat", sum := "0591c02132a29b38879bf1f200b86991d66a48a01c80c0ed87fe027ea3c5fe55", func := "algorist/algoristlaw05.FactorAssociative", spec := "factorAssociative", unfollowed := true, recurses := true, named := ["math/bits.overflowError"], apart := false, narrowed := true }
def FactorAssociativeUptoSaid : Prop := factorAssociativeUptoRow.holds Tryz.pinned (OpenSpec.upto factorAssociativeSpec)

/-- 'algoristlaw05.FactorDivisors', WHERE WHAT IT READS IS OF BULK AT MOST 1048576: true; the input reads as it did. -/
def factorDivisorsUptoRow : OpenClaim := { program := "ytblebpmlkpobnaagreat", sum := "0591c02132a29b38879bf1f200b86991d66a48a01c80c0ed87fe027ea3c5fe55", func := "algorist/algoristlaw05.FactorDivisors", spec := "factorDivisors", unfollowed := true, recurses := true, named := ["math/bits.overflowError"], apart := false, narrowed := true }
def FactorDivisorsUptoSaid : Prop := factorDivisorsUptoRow.holds Tryz.pinned (OpenSpec.upto factorDivisorsSpec)

/-- 'algoristlaw05.FactorRefuses', WHERE WHAT IT READS IS OF BULK AT MOST 1048576: true; the input reads as it did. -/
def factorRefusesUptoRow : OpenClaim := { program := "ytblebpmlkpobnaagreat", sum := "0591c02132a29b38879bf1f200b86991d66a48a01c80c0ed87fe027ea3c5fe55", func := "algorist/algoristlaw05.FactorRefuses", spec := "factorRefuses", unfollowed := true, recurses := true, named := ["math/bits.overflowError"], apart := false, narrowed := true }
def FactorRefusesUptoSaid : Prop := factorRefusesUptoRow.holds Tryz.pinned (OpenSpec.upto factorRefusesSpec)

/-- 'algoristlaw05.FactorOmega', WHERE WHAT IT READS IS OF BULK AT MOST 1048576: true; the input reads as it did. -/
def factorOmegaUptoRow : OpenClaim := { program := "ytblebpmlkpobnaagreat", sum := "0591c02132a29b38879bf1f200b86991d66a48a01c80c0ed87fe027ea3c5fe55", func := "algorist/algoristlaw05.FactorOmega", spec := "factorOmega", unfollowed := true, recurses := true, named := ["math/bits.overflowError"], apart := false, narrowed := true }
def FactorOmegaUptoSaid : Prop := factorOmegaUptoRow.holds Tryz.pinned (OpenSpec.upto factorOmegaSpec)

/-- 'algoristlaw05.FactorSettles', WHERE WHAT IT READS IS OF BULK AT MOST 1048576: true; the input reads as it did. -/
def factorSettlesUptoRow : OpenClaim := { program := "ytblebpmlkpobnaagreat", sum := "0591c02132a29b38879bf1f200b86991d66a48a01c80c0ed87fe027ea3c5fe55", func := "algorist/algoristlaw05.FactorSettles", spec := "factorSettles", unfollowed := true, recurses := true, named := ["math/bits.overflowError"], apart := false, narrowed := true }
def FactorSettlesUptoSaid : Prop := factorSettlesUptoRow.holds Tryz.pinned (OpenSpec.upto factorSettlesSpec)

/-- 'algoristlaw05.FactorMatchesReference', WHERE WHAT IT READS IS OF BULK AT MOST 1048576: true; the input reads as it did. -/
def factorMatchesReferenceUptoRow : OpenClaim := { program := "ytblebpmlkpobnaagreat", sum := "0591c02132a29b38879bf1f200b86991d66a48a01c80c0ed87fe027ea3c5fe55", func := "algorist/algoristlaw05.FactorMatchesReference", spec := "factorMatchesReference", unfollowed := true, recurses := true, named := ["math/bits.overflowError"], apart := false, narrowed := true }
def FactorMatchesReferenceUptoSaid : Prop := factorMatchesReferenceUptoRow.holds Tryz.pinned (OpenSpec.upto factorMatchesReferenceSpec)

/-- 'algoristlaw05.FactorSearch', WHERE WHAT IT READS IS OF BULK AT MOST 1048576: true; the input reads as it did. -/
def factorSearchUptoRow : OpenClaim := { program := "ytblebpmlkpobnaagreat", sum := "0591c02132a29b38879bf1f200b86991d66a48a01c80c0ed87fe027ea3c5fe55", func := "algorist/algoristlaw05.FactorSearch", spec := "factorSearch", unfollowed := true, recurses := true, named := ["math/bits.overflowError"], apart := false, narrowed := true }
def FactorSearchUptoSaid : Prop := factorSearchUptoRow.holds Tryz.pinned (OpenSpec.upto factorSearchSpec)

end Rows
end Go.Proofs.YtblebpmlkpobnaaGreat
