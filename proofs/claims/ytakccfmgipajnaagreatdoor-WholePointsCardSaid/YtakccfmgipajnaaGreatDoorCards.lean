/-
  DERIVED. GIVEN WITH THE SEED: THE CARDS: each row of YtakccfmgipajnaaGreatDoorRows.lean that lists a variable, with what it lists TIED to the program's text (the seventh form; the later family's looks); each row that meets fmt, with fmt's text TOLD by the authors' own Lean function (tested against real Go, not proved from fmt's source: count such statements apart). THE CARD IS WHAT COUNTS. Prove the row's statement (the work); the ties are given (YtakccfmgipajnaaGreatDoorTie.lean); close each card by the builder's one call (the guide's Derived/Test/ToyasCard.lean, 'card_holds'). Laid BY PROGRAM, IN A SANDBOX (cutbox-door.mjs). By AI agents, Wed Nov 11 2026. No macro, syntax, notation, axiom, sorry.
-/
import Derived.Test.YtakccfmgipajnaaGreatDoorRows
import GoSem.ClaimSeven
namespace Go.Proofs.YtakccfmgipajnaaGreatDoor
namespace Rows

/-- THE TIED CARD OF 'relucerttop.WholePoints'. -/
def wholePointsCard : Claim7 := { stood := { row := wholePointsRow, standIns := [], harness := (true, "f3de1b52abc4218b4f3fb4fddb35ffc5c5bad3871d688c95aec4b94c265864c2"), looks := true }, kinds := [], alts := [], laidByText := true, laidKinds := [.data, .data, .data, .data], laidTests := true, laidLooks := .later }
def WholePointsCardSaid : Prop := Claim7.holds Tryz.pinned (.plain (OpenSpec.ofChange wholePointsSpec)) wholePointsCard

/-- THE SECOND FORM's CARD OF 'relucerttop.WholePoints'. -/
def wholePointsUptoCard : Claim7 := { stood := { row := wholePointsUptoRow, standIns := [], harness := (true, "f3de1b52abc4218b4f3fb4fddb35ffc5c5bad3871d688c95aec4b94c265864c2"), looks := true }, kinds := [], alts := [], laidByText := true, laidKinds := [.data, .data, .data, .data], laidTests := true, laidLooks := .later }
def WholePointsUptoCardSaid : Prop := Claim7.holds Tryz.pinned (.plain (OpenSpec.upto wholePointsSpec)) wholePointsUptoCard
end Rows
end Go.Proofs.YtakccfmgipajnaaGreatDoor
