/-
  DERIVED. GIVEN WITH THE SEED: THE CARDS: each row of YtjdbopkbfkgpdaaGreatDoorRows.lean that lists a variable, with what it lists TIED to the program's text (the seventh form; the later family's looks); each row that meets fmt, with fmt's text TOLD by the authors' own Lean function (tested against real Go, not proved from fmt's source: count such statements apart). THE CARD IS WHAT COUNTS. Prove the row's statement (the work); the ties are given (YtjdbopkbfkgpdaaGreatDoorTie.lean); close each card by the builder's one call (the guide's Derived/Test/ToyasCard.lean, 'card_holds'). Laid BY PROGRAM, IN A SANDBOX (cutbox-door.mjs). By AI agents, Wed Nov 11 2026. No macro, syntax, notation, axiom, sorry.
-/
import Derived.Test.YtjdbopkbfkgpdaaGreatDoorRows
import GoSem.ClaimSeven
namespace Go.Proofs.YtjdbopkbfkgpdaaGreatDoor
namespace Rows

/-- THE TIED CARD OF 'relucertlaw23.DomainRun'. -/
def domainRunCard : Claim7 := { stood := { row := domainRunRow, standIns := [], harness := (true, "a912a127da0ea2df79cb49fc12fb2ac9558ec865e4286f74f80feb39480f08f8"), looks := false }, kinds := [], alts := [], laidByText := true, laidKinds := [.data], laidTests := true, laidLooks := .later }
def DomainRunCardSaid : Prop := Claim7.holds Tryz.pinned (.plain (OpenSpec.ofChange domainRunSpec)) domainRunCard

/-- THE TIED CARD OF 'relucertlaw23.DomainErrors'. -/
def domainErrorsCard : Claim7 := { stood := { row := domainErrorsRow, standIns := [], harness := (true, "a912a127da0ea2df79cb49fc12fb2ac9558ec865e4286f74f80feb39480f08f8"), looks := false }, kinds := [], alts := [], laidByText := true, laidKinds := [.data], laidTests := true, laidLooks := .later }
def DomainErrorsCardSaid : Prop := Claim7.holds Tryz.pinned (.plain (OpenSpec.ofChange domainErrorsSpec)) domainErrorsCard

/-- THE TIED CARD OF 'relucertlaw23.DomainDerived'. -/
def domainDerivedCard : Claim7 := { stood := { row := domainDerivedRow, standIns := [], harness := (true, "a912a127da0ea2df79cb49fc12fb2ac9558ec865e4286f74f80feb39480f08f8"), looks := false }, kinds := [], alts := [], laidByText := true, laidKinds := [.data], laidTests := true, laidLooks := .later }
def DomainDerivedCardSaid : Prop := Claim7.holds Tryz.pinned (.plain (OpenSpec.ofChange domainDerivedSpec)) domainDerivedCard

/-- THE TIED CARD OF 'relucertlaw23.DomainMember'. -/
def domainMemberCard : Claim7 := { stood := { row := domainMemberRow, standIns := [], harness := (true, "a912a127da0ea2df79cb49fc12fb2ac9558ec865e4286f74f80feb39480f08f8"), looks := false }, kinds := [], alts := [], laidByText := true, laidKinds := [.data], laidTests := true, laidLooks := .later }
def DomainMemberCardSaid : Prop := Claim7.holds Tryz.pinned (.plain (OpenSpec.ofChange domainMemberSpec)) domainMemberCard

/-- THE TIED CARD OF 'relucertlaw23.DomainRounds'. -/
def domainRoundsCard : Claim7 := { stood := { row := domainRoundsRow, standIns := [], harness := (true, "a912a127da0ea2df79cb49fc12fb2ac9558ec865e4286f74f80feb39480f08f8"), looks := false }, kinds := [], alts := [], laidByText := true, laidKinds := [.data], laidTests := true, laidLooks := .later }
def DomainRoundsCardSaid : Prop := Claim7.holds Tryz.pinned (.plain (OpenSpec.ofChange domainRoundsSpec)) domainRoundsCard

/-- THE TIED CARD OF 'relucertlaw23.DomainKeeps'. -/
def domainKeepsCard : Claim7 := { stood := { row := domainKeepsRow, standIns := [], harness := (true, "a912a127da0ea2df79cb49fc12fb2ac9558ec865e4286f74f80feb39480f08f8"), looks := false }, kinds := [], alts := [], laidByText := true, laidKinds := [.data], laidTests := true, laidLooks := .later }
def DomainKeepsCardSaid : Prop := Claim7.holds Tryz.pinned (.plain (OpenSpec.ofChange domainKeepsSpec)) domainKeepsCard

/-- THE TIED CARD OF 'relucertlaw23.DomainBoth'. -/
def domainBothCard : Claim7 := { stood := { row := domainBothRow, standIns := [], harness := (true, "a912a127da0ea2df79cb49fc12fb2ac9558ec865e4286f74f80feb39480f08f8"), looks := false }, kinds := [], alts := [], laidByText := true, laidKinds := [.data], laidTests := true, laidLooks := .later }
def DomainBothCardSaid : Prop := Claim7.holds Tryz.pinned (.plain (OpenSpec.ofChange domainBothSpec)) domainBothCard

/-- THE SECOND FORM's CARD OF 'relucertlaw23.DomainRun'. -/
def domainRunUptoCard : Claim7 := { stood := { row := domainRunUptoRow, standIns := [], harness := (true, "a912a127da0ea2df79cb49fc12fb2ac9558ec865e4286f74f80feb39480f08f8"), looks := false }, kinds := [], alts := [], laidByText := true, laidKinds := [.data], laidTests := true, laidLooks := .later }
def DomainRunUptoCardSaid : Prop := Claim7.holds Tryz.pinned (.plain (OpenSpec.upto domainRunSpec)) domainRunUptoCard

/-- THE SECOND FORM's CARD OF 'relucertlaw23.DomainErrors'. -/
def domainErrorsUptoCard : Claim7 := { stood := { row := domainErrorsUptoRow, standIns := [], harness := (true, "a912a127da0ea2df79cb49fc12fb2ac9558ec865e4286f74f80feb39480f08f8"), looks := false }, kinds := [], alts := [], laidByText := true, laidKinds := [.data], laidTests := true, laidLooks := .later }
def DomainErrorsUptoCardSaid : Prop := Claim7.holds Tryz.pinned (.plain (OpenSpec.upto domainErrorsSpec)) domainErrorsUptoCard

/-- THE SECOND FORM's CARD OF 'relucertlaw23.DomainDerived'. -/
def domainDerivedUptoCard : Claim7 := { stood := { row := domainDerivedUptoRow, standIns := [], harness := (true, "a912a127da0ea2df79cb49fc12fb2ac9558ec865e4286f74f80feb39480f08f8"), looks := false }, kinds := [], alts := [], laidByText := true, laidKinds := [.data], laidTests := true, laidLooks := .later }
def DomainDerivedUptoCardSaid : Prop := Claim7.holds Tryz.pinned (.plain (OpenSpec.upto domainDerivedSpec)) domainDerivedUptoCard

/-- THE SECOND FORM's CARD OF 'relucertlaw23.DomainMember'. -/
def domainMemberUptoCard : Claim7 := { stood := { row := domainMemberUptoRow, standIns := [], harness := (true, "a912a127da0ea2df79cb49fc12fb2ac9558ec865e4286f74f80feb39480f08f8"), looks := false }, kinds := [], alts := [], laidByText := true, laidKinds := [.data], laidTests := true, laidLooks := .later }
def DomainMemberUptoCardSaid : Prop := Claim7.holds Tryz.pinned (.plain (OpenSpec.upto domainMemberSpec)) domainMemberUptoCard

/-- THE SECOND FORM's CARD OF 'relucertlaw23.DomainRounds'. -/
def domainRoundsUptoCard : Claim7 := { stood := { row := domainRoundsUptoRow, standIns := [], harness := (true, "a912a127da0ea2df79cb49fc12fb2ac9558ec865e4286f74f80feb39480f08f8"), looks := false }, kinds := [], alts := [], laidByText := true, laidKinds := [.data], laidTests := true, laidLooks := .later }
def DomainRoundsUptoCardSaid : Prop := Claim7.holds Tryz.pinned (.plain (OpenSpec.upto domainRoundsSpec)) domainRoundsUptoCard

/-- THE SECOND FORM's CARD OF 'relucertlaw23.DomainKeeps'. -/
def domainKeepsUptoCard : Claim7 := { stood := { row := domainKeepsUptoRow, standIns := [], harness := (true, "a912a127da0ea2df79cb49fc12fb2ac9558ec865e4286f74f80feb39480f08f8"), looks := false }, kinds := [], alts := [], laidByText := true, laidKinds := [.data], laidTests := true, laidLooks := .later }
def DomainKeepsUptoCardSaid : Prop := Claim7.holds Tryz.pinned (.plain (OpenSpec.upto domainKeepsSpec)) domainKeepsUptoCard

/-- THE SECOND FORM's CARD OF 'relucertlaw23.DomainBoth'. -/
def domainBothUptoCard : Claim7 := { stood := { row := domainBothUptoRow, standIns := [], harness := (true, "a912a127da0ea2df79cb49fc12fb2ac9558ec865e4286f74f80feb39480f08f8"), looks := false }, kinds := [], alts := [], laidByText := true, laidKinds := [.data], laidTests := true, laidLooks := .later }
def DomainBothUptoCardSaid : Prop := Claim7.holds Tryz.pinned (.plain (OpenSpec.upto domainBothSpec)) domainBothUptoCard
end Rows
end Go.Proofs.YtjdbopkbfkgpdaaGreatDoor
