/-
  DERIVED. GIVEN WITH THE SEED: THE CARDS: each row of YtpabkdpijcbkgaaGreatDoorRows.lean that lists a variable, with what it lists TIED to the program's text (the seventh form; the later family's looks); each row that meets fmt, with fmt's text TOLD by the authors' own Lean function (tested against real Go, not proved from fmt's source: count such statements apart). THE CARD IS WHAT COUNTS. Prove the row's statement (the work); the ties are given (YtpabkdpijcbkgaaGreatDoorTie.lean); close each card by the builder's one call (the guide's Derived/Test/ToyasCard.lean, 'card_holds'). Laid BY PROGRAM, IN A SANDBOX (cutbox-door.mjs). By AI agents, Wed Nov 11 2026. No macro, syntax, notation, axiom, sorry.
-/
import Derived.Test.YtpabkdpijcbkgaaGreatDoorRows
import GoSem.ClaimSeven
namespace Go.Proofs.YtpabkdpijcbkgaaGreatDoor
namespace Rows

/-- THE TIED CARD OF 'relucertlaw06.IntervalRound'. -/
def intervalRoundCard : Claim7 := { stood := { row := intervalRoundRow, standIns := [], harness := (true, "be8748b0e28895dda3b0e5a47468e2f1df92db82f04bd69618f37fb5df8c4290"), looks := false }, kinds := [], alts := [], laidByText := true, laidKinds := [.data], laidTests := true, laidLooks := .later }
def IntervalRoundCardSaid : Prop := Claim7.holds Tryz.pinned (.plain (OpenSpec.ofChange intervalRoundSpec)) intervalRoundCard

/-- THE SECOND FORM's CARD OF 'relucertlaw06.IntervalRound'. -/
def intervalRoundUptoCard : Claim7 := { stood := { row := intervalRoundUptoRow, standIns := [], harness := (true, "be8748b0e28895dda3b0e5a47468e2f1df92db82f04bd69618f37fb5df8c4290"), looks := false }, kinds := [], alts := [], laidByText := true, laidKinds := [.data], laidTests := true, laidLooks := .later }
def IntervalRoundUptoCardSaid : Prop := Claim7.holds Tryz.pinned (.plain (OpenSpec.upto intervalRoundSpec)) intervalRoundUptoCard
end Rows
end Go.Proofs.YtpabkdpijcbkgaaGreatDoor
