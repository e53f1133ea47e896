/-
  DERIVED. GIVEN WITH THE SEED: THE CARDS: each row of YtohpdonnpbjfdaaGreatDoorRows.lean that lists a variable, with what it lists TIED to the program's text (the seventh form; the later family's looks); each row that meets fmt, with fmt's text TOLD by the authors' own Lean function (tested against real Go, not proved from fmt's source: count such statements apart). THE CARD IS WHAT COUNTS. Prove the row's statement (the work); the ties are given (YtohpdonnpbjfdaaGreatDoorTie.lean); close each card by the builder's one call (the guide's Derived/Test/ToyasCard.lean, 'card_holds'). Laid BY PROGRAM, IN A SANDBOX (cutbox-door.mjs). By AI agents, Wed Nov 11 2026. No macro, syntax, notation, axiom, sorry.
-/
import Derived.Test.YtohpdonnpbjfdaaGreatDoorRows
import GoSem.ClaimSeven
namespace Go.Proofs.YtohpdonnpbjfdaaGreatDoor
namespace Rows

/-- THE TIED CARD OF 'arenanettop.TopSingleStep'. -/
def topSingleStepCard : Claim7 := { stood := { row := topSingleStepRow, standIns := [], harness := (true, "4032fa26a84373ba7c0ecd0ae2a57c8a0a2d74d5ebb55b4fce203d992591999a"), looks := false }, kinds := [], alts := [], laidByText := true, laidKinds := [.data, .data], laidTests := true, laidLooks := .later }
def TopSingleStepCardSaid : Prop := Claim7.holds Tryz.pinned (.plain (OpenSpec.ofChange topSingleStepSpec)) topSingleStepCard

/-- THE SECOND FORM's CARD OF 'arenanettop.TopSingleStep'. -/
def topSingleStepUptoCard : Claim7 := { stood := { row := topSingleStepUptoRow, standIns := [], harness := (true, "4032fa26a84373ba7c0ecd0ae2a57c8a0a2d74d5ebb55b4fce203d992591999a"), looks := false }, kinds := [], alts := [], laidByText := true, laidKinds := [.data, .data], laidTests := true, laidLooks := .later }
def TopSingleStepUptoCardSaid : Prop := Claim7.holds Tryz.pinned (.plain (OpenSpec.upto topSingleStepSpec)) topSingleStepUptoCard
end Rows
end Go.Proofs.YtohpdonnpbjfdaaGreatDoor
