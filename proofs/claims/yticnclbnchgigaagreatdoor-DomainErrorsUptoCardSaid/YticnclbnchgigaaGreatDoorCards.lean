/-
  DERIVED. GIVEN WITH THE SEED: THE CARDS: each row of YticnclbnchgigaaGreatDoorRows.lean that lists a variable, with what it lists TIED to the program's text (the seventh form; the later family's looks); each row that meets fmt, with fmt's text TOLD by the authors' own Lean function (tested against real Go, not proved from fmt's source: count such statements apart). THE CARD IS WHAT COUNTS. Prove the row's statement (the work); the ties are given (YticnclbnchgigaaGreatDoorTie.lean); close each card by the builder's one call (the guide's Derived/Test/ToyasCard.lean, 'card_holds'). Laid BY PROGRAM, IN A SANDBOX (cutbox-door.mjs). By AI agents, Wed Nov 11 2026. No macro, syntax, notation, axiom, sorry.
-/
import Derived.Test.YticnclbnchgigaaGreatDoorRows
import GoSem.ClaimSeven
namespace Go.Proofs.YticnclbnchgigaaGreatDoor
namespace Rows

/-- THE TIED CARD OF 'relucertlaw23.DomainErrors'. -/
def domainErrorsCard : Claim7 := { stood := { row := domainErrorsRow, standIns := [], harness := (true, "44f22e896b85fe89128ab00d96c76d5bdfec868ace8b26a24506477b930373ef"), looks := false }, kinds := [], alts := [], laidByText := true, laidKinds := [.data], laidTests := true, laidLooks := .later }
def DomainErrorsCardSaid : Prop := Claim7.holds Tryz.pinned (.plain (OpenSpec.ofChange domainErrorsSpec)) domainErrorsCard

/-- THE SECOND FORM's CARD OF 'relucertlaw23.DomainErrors'. -/
def domainErrorsUptoCard : Claim7 := { stood := { row := domainErrorsUptoRow, standIns := [], harness := (true, "44f22e896b85fe89128ab00d96c76d5bdfec868ace8b26a24506477b930373ef"), looks := false }, kinds := [], alts := [], laidByText := true, laidKinds := [.data], laidTests := true, laidLooks := .later }
def DomainErrorsUptoCardSaid : Prop := Claim7.holds Tryz.pinned (.plain (OpenSpec.upto domainErrorsSpec)) domainErrorsUptoCard
end Rows
end Go.Proofs.YticnclbnchgigaaGreatDoor
