/-
  No cell of these rows narrows 'for every input' (looked for: loops, veiled, ifaces, maps, wideKeys, modest, calm, conditions, laid).
  DERIVED. THE GIVEN ROWS OF THIS SEAT. 5 by the template 'for every input the law returns true; each argument reads behind the call as it read before'; 0 by the template 'total and deterministic' (their statements: YtdbpkoddfcdhdaaTotals.lean).
  GIVEN WITH THE SEED: the statements are not yours to turn. If you find one false, say at which input.
  Laid BY PROGRAM, IN A SANDBOX (cutbox-rows.mjs): the forced cells as the released guide's own fill.sh prints them over the translation 822084f0d8eb70a8… (all of the seat's roots in one cut). By AI agents, Wed Nov 11 2026. No macro, syntax, notation, axiom, sorry.
-/
import Derived.Test.YtdbpkoddfcdhdaaChecked
import GoSem.Claim
import GoSem.ClaimJoined
import GoSem.ClaimMapViews
import Derived.JoinedTies
import Derived.KernelRfl
namespace Go.Proofs.Ytdbpkoddfcdhdaa
/- THE CELL 'sum', in the pinned program and in every row, IS THE sha256 OF THE DUMP (.gsa) THAT YtdbpkoddfcdhdaaProg.lean LOADS. Nothing in Lean hashes anything: it is a label: what it is worth is what the hold of that sum in a sandbox is worth. -/
noncomputable def Try.pinned : Pinned := { name := "ytdbpkoddfcdhdaa", sum := "822084f0d8eb70a879ec29b40785cafbe89c0ea6577901e08bffd8738bf4304d", checked := Try.checked }
namespace Rows
def none {H : Type} : Left H := { results := [], args := [] }

/-- 'algoristlaw12.LatticeSame': WHATEVER THE INPUT: true; the input reads as it did. -/
def latticeSameSpec : ChangeSpec := { name := "latticeSame", fn := fun _ => fun
  | [d1, d2, d3] => { results := [.lit (.bool true)], args := [d1, d2, d3] }
  | _ => none }
def latticeSameRow : OpenClaim := { program := "ytdbpkoddfcdhdaa", sum := "822084f0d8eb70a879ec29b40785cafbe89c0ea6577901e08bffd8738bf4304d", func := "algorist/algoristlaw12.LatticeSame", spec := "latticeSame", unfollowed := true, recurses := true, named := ["math/bits.overflowError"], apart := false }
def LatticeSameSaid : Prop := latticeSameRow.holds Try.pinned (OpenSpec.ofChange latticeSameSpec)

/-- ITS FALSE NEIGHBOUR: 'it returns false'. Refute it at one input. -/
def latticeSameWrong : ChangeSpec := { name := "latticeSame", fn := fun _ => fun
  | [d1, d2, d3] => { results := [.lit (.bool false)], args := [d1, d2, d3] }
  | _ => none }
def LatticeSameWrongFalsely : Prop := latticeSameRow.holds Try.pinned (OpenSpec.ofChange latticeSameWrong)

/-- 'algoristlaw12.LatticeKernel': WHATEVER THE INPUT: true; the input reads as it did. -/
def latticeKernelSpec : ChangeSpec := { name := "latticeKernel", fn := fun _ => fun
  | [d1, d2] => { results := [.lit (.bool true)], args := [d1, d2] }
  | _ => none }
def latticeKernelRow : OpenClaim := { program := "ytdbpkoddfcdhdaa", sum := "822084f0d8eb70a879ec29b40785cafbe89c0ea6577901e08bffd8738bf4304d", func := "algorist/algoristlaw12.LatticeKernel", spec := "latticeKernel", unfollowed := true, recurses := true, named := ["math/bits.overflowError"], apart := false }
def LatticeKernelSaid : Prop := latticeKernelRow.holds Try.pinned (OpenSpec.ofChange latticeKernelSpec)

/-- ITS FALSE NEIGHBOUR: 'it returns false'. Refute it at one input. -/
def latticeKernelWrong : ChangeSpec := { name := "latticeKernel", fn := fun _ => fun
  | [d1, d2] => { results := [.lit (.bool false)], args := [d1, d2] }
  | _ => none }
def LatticeKernelWrongFalsely : Prop := latticeKernelRow.holds Try.pinned (OpenSpec.ofChange latticeKernelWrong)

/-- 'algoristlaw12.LatticeDivisors': WHATEVER THE INPUT: true; the input reads as it did. -/
def latticeDivisorsSpec : ChangeSpec := { name := "latticeDivisors", fn := fun _ => fun
  | [d] => { results := [.lit (.bool true)], args := [d] }
  | _ => none }
def latticeDivisorsRow : OpenClaim := { program := "ytdbpkoddfcdhdaa", sum := "822084f0d8eb70a879ec29b40785cafbe89c0ea6577901e08bffd8738bf4304d", func := "algorist/algoristlaw12.LatticeDivisors", spec := "latticeDivisors", unfollowed := true, recurses := true, named := ["math/bits.overflowError"], apart := false }
def LatticeDivisorsSaid : Prop := latticeDivisorsRow.holds Try.pinned (OpenSpec.ofChange latticeDivisorsSpec)

/-- ITS FALSE NEIGHBOUR: 'it returns false'. Refute it at one input. -/
def latticeDivisorsWrong : ChangeSpec := { name := "latticeDivisors", fn := fun _ => fun
  | [d] => { results := [.lit (.bool false)], args := [d] }
  | _ => none }
def LatticeDivisorsWrongFalsely : Prop := latticeDivisorsRow.holds Try.pinned (OpenSpec.ofChange latticeDivisorsWrong)

/-- 'algoristlaw12.LatticeRefuses': WHATEVER THE INPUT: true; the input reads as it did. -/
def latticeRefusesSpec : ChangeSpec := { name := "latticeRefuses", fn := fun _ => fun
  | [d1, d2] => { results := [.lit (.bool true)], args := [d1, d2] }
  | _ => none }
def latticeRefusesRow : OpenClaim := { program := "ytdbpkoddfcdhdaa", sum := "822084f0d8eb70a879ec29b40785cafbe89c0ea6577901e08bffd8738bf4304d", func := "algorist/algoristlaw12.LatticeRefuses", spec := "latticeRefuses", unfollowed := true, recurses := true, named := ["math/bits.overflowError"], apart := false }
def LatticeRefusesSaid : Prop := latticeRefusesRow.holds Try.pinned (OpenSpec.ofChange latticeRefusesSpec)

/-- ITS FALSE NEIGHBOUR: 'it returns false'. Refute it at one input. -/
def latticeRefusesWrong : ChangeSpec := { name := "latticeRefuses", fn := fun _ => fun
  | [d1, d2] => { results := [.lit (.bool false)], args := [d1, d2] }
  | _ => none }
def LatticeRefusesWrongFalsely : Prop := latticeRefusesRow.holds Try.pinned (OpenSpec.ofChange latticeRefusesWrong)

/-- 'algoristlaw12.LatticeDeterminants': WHATEVER THE INPUT: true; the input reads as it did. -/
def latticeDeterminantsSpec : ChangeSpec := { name := "latticeDeterminants", fn := fun _ => fun
  | [d1, d2] => { results := [.lit (.bool true)], args := [d1, d2] }
  | _ => none }
def latticeDeterminantsRow : OpenClaim := { program := "ytdbpkoddfcdhdaa", sum := "822084f0d8eb70a879ec29b40785cafbe89c0ea6577901e08bffd8738bf4304d", func := "algorist/algoristlaw12.LatticeDeterminants", spec := "latticeDeterminants", unfollowed := true, recurses := true, named := ["math/bits.overflowError"], apart := false }
def LatticeDeterminantsSaid : Prop := latticeDeterminantsRow.holds Try.pinned (OpenSpec.ofChange latticeDeterminantsSpec)

/-- ITS FALSE NEIGHBOUR: 'it returns false'. Refute it at one input. -/
def latticeDeterminantsWrong : ChangeSpec := { name := "latticeDeterminants", fn := fun _ => fun
  | [d1, d2] => { results := [.lit (.bool false)], args := [d1, d2] }
  | _ => none }
def LatticeDeterminantsWrongFalsely : Prop := latticeDeterminantsRow.holds Try.pinned (OpenSpec.ofChange latticeDeterminantsWrong)

/- THE SECOND FORM. 'bulk': how many values and letters a reading holds, each counted each time it is reached (what is shared counts as often as it is met; a slice's spare places count too). A statement '..UptoSaid' is the law's where the arguments, and the package variables that the reading takes, are together of bulk at most 1048576: NARROWER than '..Said'. Prove '..Said' where nothing that the law and all that it calls make is longer than what came in: it says more and counts as full. Else prove '..UptoSaid'. A law counts once. -/
mutual
def uptoBulk {H : Type} : DataW H → Nat
  | .lit (.string bytes) => bytes.length + 1
  | .lit _ => 1
  | .nil => 1
  | .ptr d => uptoBulk d + 1
  | .slice elems spare => uptoBulkAll elems + uptoBulkAll spare + 1
  | .agg parts => uptoBulkAll parts + 1
  | .iface _ d => uptoBulk d + 1
  | .map entries => uptoBulkEntries entries + 1
  | .held _ => 1
def uptoBulkAll {H : Type} : List (DataW H) → Nat
  | [] => 0
  | d :: r => uptoBulk d + uptoBulkAll r
def uptoBulkEntries {H : Type} : List (Lit × DataW H) → Nat
  | [] => 0
  | x :: r => uptoBulkEntry x + uptoBulkEntries r
def uptoBulkEntry {H : Type} : Lit × DataW H → Nat
  | (.string bytes, d) => bytes.length + uptoBulk d + 1
  | (_, d) => uptoBulk d + 1
 end
def uptoSmall : (H : Type) → List (DataW H) → Bool := fun _ ds => decide (uptoBulkAll ds ≤ 1048576)
def OpenSpec.upto (s : _root_.Go.ChangeSpec) : _root_.Go.OpenSpec := { _root_.Go.OpenSpec.ofChange s with cond := some uptoSmall }

/-- 'algoristlaw12.LatticeSame', WHERE WHAT IT READS IS OF BULK AT MOST 1048576: true; the input reads as it did. -/
def latticeSameUptoRow : OpenClaim := { program := "ytdbpkoddfcdhdaa", sum := "822084f0d8eb70a879ec29b40785cafbe89c0ea6577901e08bffd8738bf4304d", func := "algorist/algoristlaw12.LatticeSame", spec := "latticeSame", unfollowed := true, recurses := true, named := ["math/bits.overflowError"], apart := false, narrowed := true }
def LatticeSameUptoSaid : Prop := latticeSameUptoRow.holds Try.pinned (OpenSpec.upto latticeSameSpec)

/-- 'algoristlaw12.LatticeKernel', WHERE WHAT IT READS IS OF BULK AT MOST 1048576: true; the input reads as it did. -/
def latticeKernelUptoRow : OpenClaim := { program := "ytdbpkoddfcdhdaa", sum := "822084f0d8eb70a879ec29b40785cafbe89c0ea6577901e08bffd8738bf4304d", func := "algorist/algoristlaw12.LatticeKernel", spec := "latticeKernel", unfollowed := true, recurses := true, named := ["math/bits.overflowError"], apart := false, narrowed := true }
def LatticeKernelUptoSaid : Prop := latticeKernelUptoRow.holds Try.pinned (OpenSpec.upto latticeKernelSpec)

/-- 'algoristlaw12.LatticeDivisors', WHERE WHAT IT READS IS OF BULK AT MOST 1048576: true; the input reads as it did. -/
def latticeDivisorsUptoRow : OpenClaim := { program := "ytdbpkoddfcdhdaa", sum := "822084f0d8eb70a879ec29b40785cafbe89c0ea6577901e08bffd8738bf4304d", func := "algorist/algoristlaw12.LatticeDivisors", spec := "latticeDivisors", unfollowed := true, recurses := true, named := ["math/bits.overflowError"], apart := false, narrowed := true }
def LatticeDivisorsUptoSaid : Prop := latticeDivisorsUptoRow.holds Try.pinned (OpenSpec.upto latticeDivisorsSpec)

/-- 'algoristlaw12.LatticeRefuses', WHERE WHAT IT READS IS OF BULK AT MOST 1048576: true; the input reads as it did. -/
def latticeRefusesUptoRow : OpenClaim := { program := "ytdbpkoddfcdhdaa", sum := "822084f0d8eb70a879ec29b40785cafbe89c0ea6577901e08bffd8738bf4304d", func := "algorist/algoristlaw12.LatticeRefuses", spec := "latticeRefuses", unfollowed := true, recurses := true, named := ["math/bits.overflowError"], apart := false, narrowed := true }
def LatticeRefusesUptoSaid : Prop := latticeRefusesUptoRow.holds Try.pinned (OpenSpec.upto latticeRefusesSpec)

/-- 'algoristlaw12.LatticeDeterminants', WHERE WHAT IT READS IS OF BULK AT MOST 1048576: true; the input reads as it did. -/
def latticeDeterminantsUptoRow : OpenClaim := { program := "ytdbpkoddfcdhdaa", sum := "822084f0d8eb70a879ec29b40785cafbe89c0ea6577901e08bffd8738bf4304d", func := "algorist/algoristlaw12.LatticeDeterminants", spec := "latticeDeterminants", unfollowed := true, recurses := true, named := ["math/bits.overflowError"], apart := false, narrowed := true }
def LatticeDeterminantsUptoSaid : Prop := latticeDeterminantsUptoRow.holds Try.pinned (OpenSpec.upto latticeDeterminantsSpec)

end Rows
end Go.Proofs.Ytdbpkoddfcdhdaa
