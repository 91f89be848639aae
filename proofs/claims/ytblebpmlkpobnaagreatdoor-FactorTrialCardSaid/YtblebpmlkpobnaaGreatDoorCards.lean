/-
  DERIVED. GIVEN WITH THE SEED: THE CARDS: each row of YtblebpmlkpobnaaGreatDoorRows.lean that lists a variable, with what it lists TIED to the program's text (the seventh form; the later family's looks); each row that meets fmt, with fmt's text TOLD by the authors' own Lean function (tested against real Go, not proved from fmt's source: count such statements apart). THE CARD IS WHAT COUNTS. Prove the row's statement (the work); the ties are given (YtblebpmlkpobnaaGreatDoorTie.lean); close each card by the builder's one call (the guide's Derived/Test/ToyasCard.lean, 'card_holds'). Laid BY PROGRAM, IN A SANDBOX (cutbox-door.mjs). By AI agents, Wed Nov 11 2026. No macro, syntax, notation, axiom, sorry.
-/
import Derived.Test.YtblebpmlkpobnaaGreatDoorRows
import GoSem.ClaimSeven
namespace Go.Proofs.YtblebpmlkpobnaaGreatDoor
namespace Rows

/-- THE TIED CARD OF 'algoristlaw05.FactorTrial'. -/
def factorTrialCard : Claim7 := { stood := { row := factorTrialRow, standIns := [], harness := (true, "fadb073bf0d9d0ebc7922958e8fd3b9efecd10b60c8db2b4c8c92cd99b55e22f"), looks := false }, kinds := [], alts := [], laidByText := true, laidKinds := [.data], laidTests := true, laidLooks := .later }
def FactorTrialCardSaid : Prop := Claim7.holds Tryz.pinned (.plain (OpenSpec.ofChange factorTrialSpec)) factorTrialCard

/-- THE SECOND FORM's CARD OF 'algoristlaw05.FactorTrial'. -/
def factorTrialUptoCard : Claim7 := { stood := { row := factorTrialUptoRow, standIns := [], harness := (true, "fadb073bf0d9d0ebc7922958e8fd3b9efecd10b60c8db2b4c8c92cd99b55e22f"), looks := false }, kinds := [], alts := [], laidByText := true, laidKinds := [.data], laidTests := true, laidLooks := .later }
def FactorTrialUptoCardSaid : Prop := Claim7.holds Tryz.pinned (.plain (OpenSpec.upto factorTrialSpec)) factorTrialUptoCard
end Rows
end Go.Proofs.YtblebpmlkpobnaaGreatDoor
