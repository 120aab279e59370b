/-
  DERIVED. GIVEN WITH THE SEED: THE CARDS: each row of YtmpkandbccallaaGreatDoorRows.lean that lists a variable, with what it lists TIED to the program's text (the seventh form; the later family's looks); each row that meets fmt, with fmt's text TOLD by the authors' own Lean function (tested against real Go, not proved from fmt's source: count such statements apart). THE CARD IS WHAT COUNTS. Prove the row's statement (the work); the ties are given (YtmpkandbccallaaGreatDoorTie.lean); close each card by the builder's one call (the guide's Derived/Test/ToyasCard.lean, 'card_holds'). Laid BY PROGRAM, IN A SANDBOX (cutbox-door.mjs). By AI agents, Wed Nov 11 2026. No macro, syntax, notation, axiom, sorry.
-/
import Derived.Test.YtmpkandbccallaaGreatDoorRows
import GoSem.ClaimSeven
namespace Go.Proofs.YtmpkandbccallaaGreatDoor
namespace Rows

/-- THE TIED CARD OF 'relucertlaw24.BoxOther'. -/
def boxOtherCard : Claim7 := { stood := { row := boxOtherRow, standIns := [], harness := (true, "6b5805e5abe52d5ebbdcebeb4482531d5840ccd1b87af300cd2e1520cb1299f3"), looks := false }, kinds := [], alts := [], laidByText := true, laidKinds := [.data], laidTests := true, laidLooks := .later }
def BoxOtherCardSaid : Prop := Claim7.holds Tryz.pinned (.plain (OpenSpec.ofChange boxOtherSpec)) boxOtherCard

/-- THE TIED CARD OF 'relucertlaw24.BoxProves'. -/
def boxProvesCard : Claim7 := { stood := { row := boxProvesRow, standIns := [], harness := (true, "6b5805e5abe52d5ebbdcebeb4482531d5840ccd1b87af300cd2e1520cb1299f3"), looks := false }, kinds := [], alts := [], laidByText := true, laidKinds := [.data], laidTests := true, laidLooks := .later }
def BoxProvesCardSaid : Prop := Claim7.holds Tryz.pinned (.plain (OpenSpec.ofChange boxProvesSpec)) boxProvesCard

/-- THE TIED CARD OF 'relucertlaw24.BoxMember'. -/
def boxMemberCard : Claim7 := { stood := { row := boxMemberRow, standIns := [], harness := (true, "6b5805e5abe52d5ebbdcebeb4482531d5840ccd1b87af300cd2e1520cb1299f3"), looks := false }, kinds := [], alts := [], laidByText := true, laidKinds := [.data], laidTests := true, laidLooks := .later }
def BoxMemberCardSaid : Prop := Claim7.holds Tryz.pinned (.plain (OpenSpec.ofChange boxMemberSpec)) boxMemberCard

/-- THE TIED CARD OF 'relucertlaw24.BoxInputs'. -/
def boxInputsCard : Claim7 := { stood := { row := boxInputsRow, standIns := [], harness := (true, "6b5805e5abe52d5ebbdcebeb4482531d5840ccd1b87af300cd2e1520cb1299f3"), looks := false }, kinds := [], alts := [], laidByText := true, laidKinds := [.data], laidTests := true, laidLooks := .later }
def BoxInputsCardSaid : Prop := Claim7.holds Tryz.pinned (.plain (OpenSpec.ofChange boxInputsSpec)) boxInputsCard

/-- THE TIED CARD OF 'relucertlaw24.BoxGrows'. -/
def boxGrowsCard : Claim7 := { stood := { row := boxGrowsRow, standIns := [], harness := (true, "6b5805e5abe52d5ebbdcebeb4482531d5840ccd1b87af300cd2e1520cb1299f3"), looks := false }, kinds := [], alts := [], laidByText := true, laidKinds := [.data], laidTests := true, laidLooks := .later }
def BoxGrowsCardSaid : Prop := Claim7.holds Tryz.pinned (.plain (OpenSpec.ofChange boxGrowsSpec)) boxGrowsCard

/-- THE TIED CARD OF 'relucertlaw24.BoxRun'. -/
def boxRunCard : Claim7 := { stood := { row := boxRunRow, standIns := [], harness := (true, "6b5805e5abe52d5ebbdcebeb4482531d5840ccd1b87af300cd2e1520cb1299f3"), looks := false }, kinds := [], alts := [], laidByText := true, laidKinds := [.data], laidTests := true, laidLooks := .later }
def BoxRunCardSaid : Prop := Claim7.holds Tryz.pinned (.plain (OpenSpec.ofChange boxRunSpec)) boxRunCard

/-- THE TIED CARD OF 'relucertlaw24.BoxLower'. -/
def boxLowerCard : Claim7 := { stood := { row := boxLowerRow, standIns := [], harness := (true, "6b5805e5abe52d5ebbdcebeb4482531d5840ccd1b87af300cd2e1520cb1299f3"), looks := false }, kinds := [], alts := [], laidByText := true, laidKinds := [.data], laidTests := true, laidLooks := .later }
def BoxLowerCardSaid : Prop := Claim7.holds Tryz.pinned (.plain (OpenSpec.ofChange boxLowerSpec)) boxLowerCard

/-- THE SECOND FORM's CARD OF 'relucertlaw24.BoxOther'. -/
def boxOtherUptoCard : Claim7 := { stood := { row := boxOtherUptoRow, standIns := [], harness := (true, "6b5805e5abe52d5ebbdcebeb4482531d5840ccd1b87af300cd2e1520cb1299f3"), looks := false }, kinds := [], alts := [], laidByText := true, laidKinds := [.data], laidTests := true, laidLooks := .later }
def BoxOtherUptoCardSaid : Prop := Claim7.holds Tryz.pinned (.plain (OpenSpec.upto boxOtherSpec)) boxOtherUptoCard

/-- THE SECOND FORM's CARD OF 'relucertlaw24.BoxProves'. -/
def boxProvesUptoCard : Claim7 := { stood := { row := boxProvesUptoRow, standIns := [], harness := (true, "6b5805e5abe52d5ebbdcebeb4482531d5840ccd1b87af300cd2e1520cb1299f3"), looks := false }, kinds := [], alts := [], laidByText := true, laidKinds := [.data], laidTests := true, laidLooks := .later }
def BoxProvesUptoCardSaid : Prop := Claim7.holds Tryz.pinned (.plain (OpenSpec.upto boxProvesSpec)) boxProvesUptoCard

/-- THE SECOND FORM's CARD OF 'relucertlaw24.BoxMember'. -/
def boxMemberUptoCard : Claim7 := { stood := { row := boxMemberUptoRow, standIns := [], harness := (true, "6b5805e5abe52d5ebbdcebeb4482531d5840ccd1b87af300cd2e1520cb1299f3"), looks := false }, kinds := [], alts := [], laidByText := true, laidKinds := [.data], laidTests := true, laidLooks := .later }
def BoxMemberUptoCardSaid : Prop := Claim7.holds Tryz.pinned (.plain (OpenSpec.upto boxMemberSpec)) boxMemberUptoCard

/-- THE SECOND FORM's CARD OF 'relucertlaw24.BoxInputs'. -/
def boxInputsUptoCard : Claim7 := { stood := { row := boxInputsUptoRow, standIns := [], harness := (true, "6b5805e5abe52d5ebbdcebeb4482531d5840ccd1b87af300cd2e1520cb1299f3"), looks := false }, kinds := [], alts := [], laidByText := true, laidKinds := [.data], laidTests := true, laidLooks := .later }
def BoxInputsUptoCardSaid : Prop := Claim7.holds Tryz.pinned (.plain (OpenSpec.upto boxInputsSpec)) boxInputsUptoCard

/-- THE SECOND FORM's CARD OF 'relucertlaw24.BoxGrows'. -/
def boxGrowsUptoCard : Claim7 := { stood := { row := boxGrowsUptoRow, standIns := [], harness := (true, "6b5805e5abe52d5ebbdcebeb4482531d5840ccd1b87af300cd2e1520cb1299f3"), looks := false }, kinds := [], alts := [], laidByText := true, laidKinds := [.data], laidTests := true, laidLooks := .later }
def BoxGrowsUptoCardSaid : Prop := Claim7.holds Tryz.pinned (.plain (OpenSpec.upto boxGrowsSpec)) boxGrowsUptoCard

/-- THE SECOND FORM's CARD OF 'relucertlaw24.BoxRun'. -/
def boxRunUptoCard : Claim7 := { stood := { row := boxRunUptoRow, standIns := [], harness := (true, "6b5805e5abe52d5ebbdcebeb4482531d5840ccd1b87af300cd2e1520cb1299f3"), looks := false }, kinds := [], alts := [], laidByText := true, laidKinds := [.data], laidTests := true, laidLooks := .later }
def BoxRunUptoCardSaid : Prop := Claim7.holds Tryz.pinned (.plain (OpenSpec.upto boxRunSpec)) boxRunUptoCard

/-- THE SECOND FORM's CARD OF 'relucertlaw24.BoxLower'. -/
def boxLowerUptoCard : Claim7 := { stood := { row := boxLowerUptoRow, standIns := [], harness := (true, "6b5805e5abe52d5ebbdcebeb4482531d5840ccd1b87af300cd2e1520cb1299f3"), looks := false }, kinds := [], alts := [], laidByText := true, laidKinds := [.data], laidTests := true, laidLooks := .later }
def BoxLowerUptoCardSaid : Prop := Claim7.holds Tryz.pinned (.plain (OpenSpec.upto boxLowerSpec)) boxLowerUptoCard
end Rows
end Go.Proofs.YtmpkandbccallaaGreatDoor
