/-
  DERIVED. GIVEN WITH THE SEED: THE CARDS: each row of YtjeiacoegppoiaaGreatDoorRows.lean that lists a variable, with what it lists TIED to the program's text (the seventh form; the later family's looks); each row that meets fmt, with fmt's text TOLD by the authors' own Lean function (tested against real Go, not proved from fmt's source: count such statements apart). THE CARD IS WHAT COUNTS. Prove the row's statement (the work); the ties are given (YtjeiacoegppoiaaGreatDoorTie.lean); close each card by the builder's one call (the guide's Derived/Test/ToyasCard.lean, 'card_holds'). Laid BY PROGRAM, IN A SANDBOX (cutbox-door.mjs). By AI agents, Wed Nov 11 2026. No macro, syntax, notation, axiom, sorry.
-/
import Derived.Test.YtjeiacoegppoiaaGreatDoorRows
import GoSem.ClaimSeven
namespace Go.Proofs.YtjeiacoegppoiaaGreatDoor
namespace Rows

/-- THE TIED CARD OF 'relucertlaw26.SymbolicBack'. -/
def symbolicBackCard : Claim7 := { stood := { row := symbolicBackRow, standIns := [], harness := (true, "180dd6a936e0ffba9002bc913baca49d6a0e02fe7b322e18444c7b8dcae664ce"), looks := false }, kinds := [], alts := [], laidByText := true, laidKinds := [.data], laidTests := true, laidLooks := .later }
def SymbolicBackCardSaid : Prop := Claim7.holds Tryz.pinned (.plain (OpenSpec.ofChange symbolicBackSpec)) symbolicBackCard

/-- THE TIED CARD OF 'relucertlaw26.SymbolicOther'. -/
def symbolicOtherCard : Claim7 := { stood := { row := symbolicOtherRow, standIns := [], harness := (true, "180dd6a936e0ffba9002bc913baca49d6a0e02fe7b322e18444c7b8dcae664ce"), looks := false }, kinds := [], alts := [], laidByText := true, laidKinds := [.data], laidTests := true, laidLooks := .later }
def SymbolicOtherCardSaid : Prop := Claim7.holds Tryz.pinned (.plain (OpenSpec.ofChange symbolicOtherSpec)) symbolicOtherCard

/-- THE TIED CARD OF 'relucertlaw26.SymbolicProves'. -/
def symbolicProvesCard : Claim7 := { stood := { row := symbolicProvesRow, standIns := [], harness := (true, "180dd6a936e0ffba9002bc913baca49d6a0e02fe7b322e18444c7b8dcae664ce"), looks := false }, kinds := [], alts := [], laidByText := true, laidKinds := [.data], laidTests := true, laidLooks := .later }
def SymbolicProvesCardSaid : Prop := Claim7.holds Tryz.pinned (.plain (OpenSpec.ofChange symbolicProvesSpec)) symbolicProvesCard

/-- THE TIED CARD OF 'relucertlaw26.SymbolicMember'. -/
def symbolicMemberCard : Claim7 := { stood := { row := symbolicMemberRow, standIns := [], harness := (true, "180dd6a936e0ffba9002bc913baca49d6a0e02fe7b322e18444c7b8dcae664ce"), looks := false }, kinds := [], alts := [], laidByText := true, laidKinds := [.data], laidTests := true, laidLooks := .later }
def SymbolicMemberCardSaid : Prop := Claim7.holds Tryz.pinned (.plain (OpenSpec.ofChange symbolicMemberSpec)) symbolicMemberCard

/-- THE TIED CARD OF 'relucertlaw26.SymbolicExact'. -/
def symbolicExactCard : Claim7 := { stood := { row := symbolicExactRow, standIns := [], harness := (true, "180dd6a936e0ffba9002bc913baca49d6a0e02fe7b322e18444c7b8dcae664ce"), looks := false }, kinds := [], alts := [], laidByText := true, laidKinds := [.data], laidTests := true, laidLooks := .later }
def SymbolicExactCardSaid : Prop := Claim7.holds Tryz.pinned (.plain (OpenSpec.ofChange symbolicExactSpec)) symbolicExactCard

/-- THE TIED CARD OF 'relucertlaw26.SymbolicLower'. -/
def symbolicLowerCard : Claim7 := { stood := { row := symbolicLowerRow, standIns := [], harness := (true, "180dd6a936e0ffba9002bc913baca49d6a0e02fe7b322e18444c7b8dcae664ce"), looks := false }, kinds := [], alts := [], laidByText := true, laidKinds := [.data], laidTests := true, laidLooks := .later }
def SymbolicLowerCardSaid : Prop := Claim7.holds Tryz.pinned (.plain (OpenSpec.ofChange symbolicLowerSpec)) symbolicLowerCard

/-- THE TIED CARD OF 'relucertlaw26.SymbolicRun'. -/
def symbolicRunCard : Claim7 := { stood := { row := symbolicRunRow, standIns := [], harness := (true, "180dd6a936e0ffba9002bc913baca49d6a0e02fe7b322e18444c7b8dcae664ce"), looks := false }, kinds := [], alts := [], laidByText := true, laidKinds := [.data], laidTests := true, laidLooks := .later }
def SymbolicRunCardSaid : Prop := Claim7.holds Tryz.pinned (.plain (OpenSpec.ofChange symbolicRunSpec)) symbolicRunCard

/-- THE TIED CARD OF 'relucertlaw26.SymbolicGet'. -/
def symbolicGetCard : Claim7 := { stood := { row := symbolicGetRow, standIns := [], harness := (true, "180dd6a936e0ffba9002bc913baca49d6a0e02fe7b322e18444c7b8dcae664ce"), looks := false }, kinds := [], alts := [], laidByText := true, laidKinds := [.data], laidTests := true, laidLooks := .later }
def SymbolicGetCardSaid : Prop := Claim7.holds Tryz.pinned (.plain (OpenSpec.ofChange symbolicGetSpec)) symbolicGetCard

/-- THE SECOND FORM's CARD OF 'relucertlaw26.SymbolicBack'. -/
def symbolicBackUptoCard : Claim7 := { stood := { row := symbolicBackUptoRow, standIns := [], harness := (true, "180dd6a936e0ffba9002bc913baca49d6a0e02fe7b322e18444c7b8dcae664ce"), looks := false }, kinds := [], alts := [], laidByText := true, laidKinds := [.data], laidTests := true, laidLooks := .later }
def SymbolicBackUptoCardSaid : Prop := Claim7.holds Tryz.pinned (.plain (OpenSpec.upto symbolicBackSpec)) symbolicBackUptoCard

/-- THE SECOND FORM's CARD OF 'relucertlaw26.SymbolicOther'. -/
def symbolicOtherUptoCard : Claim7 := { stood := { row := symbolicOtherUptoRow, standIns := [], harness := (true, "180dd6a936e0ffba9002bc913baca49d6a0e02fe7b322e18444c7b8dcae664ce"), looks := false }, kinds := [], alts := [], laidByText := true, laidKinds := [.data], laidTests := true, laidLooks := .later }
def SymbolicOtherUptoCardSaid : Prop := Claim7.holds Tryz.pinned (.plain (OpenSpec.upto symbolicOtherSpec)) symbolicOtherUptoCard

/-- THE SECOND FORM's CARD OF 'relucertlaw26.SymbolicProves'. -/
def symbolicProvesUptoCard : Claim7 := { stood := { row := symbolicProvesUptoRow, standIns := [], harness := (true, "180dd6a936e0ffba9002bc913baca49d6a0e02fe7b322e18444c7b8dcae664ce"), looks := false }, kinds := [], alts := [], laidByText := true, laidKinds := [.data], laidTests := true, laidLooks := .later }
def SymbolicProvesUptoCardSaid : Prop := Claim7.holds Tryz.pinned (.plain (OpenSpec.upto symbolicProvesSpec)) symbolicProvesUptoCard

/-- THE SECOND FORM's CARD OF 'relucertlaw26.SymbolicMember'. -/
def symbolicMemberUptoCard : Claim7 := { stood := { row := symbolicMemberUptoRow, standIns := [], harness := (true, "180dd6a936e0ffba9002bc913baca49d6a0e02fe7b322e18444c7b8dcae664ce"), looks := false }, kinds := [], alts := [], laidByText := true, laidKinds := [.data], laidTests := true, laidLooks := .later }
def SymbolicMemberUptoCardSaid : Prop := Claim7.holds Tryz.pinned (.plain (OpenSpec.upto symbolicMemberSpec)) symbolicMemberUptoCard

/-- THE SECOND FORM's CARD OF 'relucertlaw26.SymbolicExact'. -/
def symbolicExactUptoCard : Claim7 := { stood := { row := symbolicExactUptoRow, standIns := [], harness := (true, "180dd6a936e0ffba9002bc913baca49d6a0e02fe7b322e18444c7b8dcae664ce"), looks := false }, kinds := [], alts := [], laidByText := true, laidKinds := [.data], laidTests := true, laidLooks := .later }
def SymbolicExactUptoCardSaid : Prop := Claim7.holds Tryz.pinned (.plain (OpenSpec.upto symbolicExactSpec)) symbolicExactUptoCard

/-- THE SECOND FORM's CARD OF 'relucertlaw26.SymbolicLower'. -/
def symbolicLowerUptoCard : Claim7 := { stood := { row := symbolicLowerUptoRow, standIns := [], harness := (true, "180dd6a936e0ffba9002bc913baca49d6a0e02fe7b322e18444c7b8dcae664ce"), looks := false }, kinds := [], alts := [], laidByText := true, laidKinds := [.data], laidTests := true, laidLooks := .later }
def SymbolicLowerUptoCardSaid : Prop := Claim7.holds Tryz.pinned (.plain (OpenSpec.upto symbolicLowerSpec)) symbolicLowerUptoCard

/-- THE SECOND FORM's CARD OF 'relucertlaw26.SymbolicRun'. -/
def symbolicRunUptoCard : Claim7 := { stood := { row := symbolicRunUptoRow, standIns := [], harness := (true, "180dd6a936e0ffba9002bc913baca49d6a0e02fe7b322e18444c7b8dcae664ce"), looks := false }, kinds := [], alts := [], laidByText := true, laidKinds := [.data], laidTests := true, laidLooks := .later }
def SymbolicRunUptoCardSaid : Prop := Claim7.holds Tryz.pinned (.plain (OpenSpec.upto symbolicRunSpec)) symbolicRunUptoCard

/-- THE SECOND FORM's CARD OF 'relucertlaw26.SymbolicGet'. -/
def symbolicGetUptoCard : Claim7 := { stood := { row := symbolicGetUptoRow, standIns := [], harness := (true, "180dd6a936e0ffba9002bc913baca49d6a0e02fe7b322e18444c7b8dcae664ce"), looks := false }, kinds := [], alts := [], laidByText := true, laidKinds := [.data], laidTests := true, laidLooks := .later }
def SymbolicGetUptoCardSaid : Prop := Claim7.holds Tryz.pinned (.plain (OpenSpec.upto symbolicGetSpec)) symbolicGetUptoCard
end Rows
end Go.Proofs.YtjeiacoegppoiaaGreatDoor
