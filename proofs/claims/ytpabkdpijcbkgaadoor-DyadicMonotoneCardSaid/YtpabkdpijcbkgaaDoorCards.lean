/-
  DERIVED. GIVEN WITH THE SEED: THE CARDS: each row of YtpabkdpijcbkgaaDoorRows.lean that lists a variable, with what it lists TIED to the program's text (the seventh form; the later family's looks); each row that meets fmt, with fmt's text TOLD by the authors' own Lean function (tested against real Go, not proved from fmt's source: count such statements apart). THE CARD IS WHAT COUNTS. Prove the row's statement (the work); the ties are given (YtpabkdpijcbkgaaDoorTie.lean); close each card by the builder's one call (the guide's Derived/Test/ToyasCard.lean, 'card_holds'). Laid BY PROGRAM, IN A SANDBOX (cutbox-door.mjs). By AI agents, Wed Nov 11 2026. No macro, syntax, notation, axiom, sorry.
-/
import Derived.Test.YtpabkdpijcbkgaaDoorRows
import GoSem.ClaimSeven
namespace Go.Proofs.YtpabkdpijcbkgaaDoor
namespace Rows

/-- THE TIED CARD OF 'relucertlaw05.DyadicRound'. -/
def dyadicRoundCard : Claim7 := { stood := { row := dyadicRoundRow, standIns := [], harness := (true, "47686e04db9dca282196a0b66387ca0efa0a25ea88120548b5aafbcf3872068f"), looks := false }, kinds := [], alts := [], laidByText := true, laidKinds := [.data], laidTests := true, laidLooks := .later }
def DyadicRoundCardSaid : Prop := Claim7.holds Tryd.pinned (.plain (OpenSpec.ofChange dyadicRoundSpec)) dyadicRoundCard

/-- THE TIED CARD OF 'relucertlaw05.DyadicOutward'. -/
def dyadicOutwardCard : Claim7 := { stood := { row := dyadicOutwardRow, standIns := [], harness := (true, "47686e04db9dca282196a0b66387ca0efa0a25ea88120548b5aafbcf3872068f"), looks := false }, kinds := [], alts := [], laidByText := true, laidKinds := [.data], laidTests := true, laidLooks := .later }
def DyadicOutwardCardSaid : Prop := Claim7.holds Tryd.pinned (.plain (OpenSpec.ofChange dyadicOutwardSpec)) dyadicOutwardCard

/-- THE TIED CARD OF 'relucertlaw05.DyadicMonotone'. -/
def dyadicMonotoneCard : Claim7 := { stood := { row := dyadicMonotoneRow, standIns := [], harness := (true, "47686e04db9dca282196a0b66387ca0efa0a25ea88120548b5aafbcf3872068f"), looks := false }, kinds := [], alts := [], laidByText := true, laidKinds := [.data], laidTests := true, laidLooks := .later }
def DyadicMonotoneCardSaid : Prop := Claim7.holds Tryd.pinned (.plain (OpenSpec.ofChange dyadicMonotoneSpec)) dyadicMonotoneCard

/-- THE TIED CARD OF 'relucertlaw05.DyadicExact'. -/
def dyadicExactCard : Claim7 := { stood := { row := dyadicExactRow, standIns := [], harness := (true, "47686e04db9dca282196a0b66387ca0efa0a25ea88120548b5aafbcf3872068f"), looks := false }, kinds := [], alts := [], laidByText := true, laidKinds := [.data], laidTests := true, laidLooks := .later }
def DyadicExactCardSaid : Prop := Claim7.holds Tryd.pinned (.plain (OpenSpec.ofChange dyadicExactSpec)) dyadicExactCard

/-- THE TIED CARD OF 'relucertlaw05.DyadicValid'. -/
def dyadicValidCard : Claim7 := { stood := { row := dyadicValidRow, standIns := [], harness := (true, "47686e04db9dca282196a0b66387ca0efa0a25ea88120548b5aafbcf3872068f"), looks := false }, kinds := [], alts := [], laidByText := true, laidKinds := [.data], laidTests := true, laidLooks := .later }
def DyadicValidCardSaid : Prop := Claim7.holds Tryd.pinned (.plain (OpenSpec.ofChange dyadicValidSpec)) dyadicValidCard

/-- THE TIED CARD OF 'relucertlaw05.DyadicArithmetic'. -/
def dyadicArithmeticCard : Claim7 := { stood := { row := dyadicArithmeticRow, standIns := [], harness := (true, "47686e04db9dca282196a0b66387ca0efa0a25ea88120548b5aafbcf3872068f"), looks := false }, kinds := [], alts := [], laidByText := true, laidKinds := [.data], laidTests := true, laidLooks := .later }
def DyadicArithmeticCardSaid : Prop := Claim7.holds Tryd.pinned (.plain (OpenSpec.ofChange dyadicArithmeticSpec)) dyadicArithmeticCard

/-- THE TIED CARD OF 'relucertlaw05.DyadicRange'. -/
def dyadicRangeCard : Claim7 := { stood := { row := dyadicRangeRow, standIns := [], harness := (true, "47686e04db9dca282196a0b66387ca0efa0a25ea88120548b5aafbcf3872068f"), looks := false }, kinds := [], alts := [], laidByText := true, laidKinds := [.data], laidTests := true, laidLooks := .later }
def DyadicRangeCardSaid : Prop := Claim7.holds Tryd.pinned (.plain (OpenSpec.ofChange dyadicRangeSpec)) dyadicRangeCard

/-- THE SECOND FORM's CARD OF 'relucertlaw05.DyadicRound'. -/
def dyadicRoundUptoCard : Claim7 := { stood := { row := dyadicRoundUptoRow, standIns := [], harness := (true, "47686e04db9dca282196a0b66387ca0efa0a25ea88120548b5aafbcf3872068f"), looks := false }, kinds := [], alts := [], laidByText := true, laidKinds := [.data], laidTests := true, laidLooks := .later }
def DyadicRoundUptoCardSaid : Prop := Claim7.holds Tryd.pinned (.plain (OpenSpec.upto dyadicRoundSpec)) dyadicRoundUptoCard

/-- THE SECOND FORM's CARD OF 'relucertlaw05.DyadicOutward'. -/
def dyadicOutwardUptoCard : Claim7 := { stood := { row := dyadicOutwardUptoRow, standIns := [], harness := (true, "47686e04db9dca282196a0b66387ca0efa0a25ea88120548b5aafbcf3872068f"), looks := false }, kinds := [], alts := [], laidByText := true, laidKinds := [.data], laidTests := true, laidLooks := .later }
def DyadicOutwardUptoCardSaid : Prop := Claim7.holds Tryd.pinned (.plain (OpenSpec.upto dyadicOutwardSpec)) dyadicOutwardUptoCard

/-- THE SECOND FORM's CARD OF 'relucertlaw05.DyadicMonotone'. -/
def dyadicMonotoneUptoCard : Claim7 := { stood := { row := dyadicMonotoneUptoRow, standIns := [], harness := (true, "47686e04db9dca282196a0b66387ca0efa0a25ea88120548b5aafbcf3872068f"), looks := false }, kinds := [], alts := [], laidByText := true, laidKinds := [.data], laidTests := true, laidLooks := .later }
def DyadicMonotoneUptoCardSaid : Prop := Claim7.holds Tryd.pinned (.plain (OpenSpec.upto dyadicMonotoneSpec)) dyadicMonotoneUptoCard

/-- THE SECOND FORM's CARD OF 'relucertlaw05.DyadicExact'. -/
def dyadicExactUptoCard : Claim7 := { stood := { row := dyadicExactUptoRow, standIns := [], harness := (true, "47686e04db9dca282196a0b66387ca0efa0a25ea88120548b5aafbcf3872068f"), looks := false }, kinds := [], alts := [], laidByText := true, laidKinds := [.data], laidTests := true, laidLooks := .later }
def DyadicExactUptoCardSaid : Prop := Claim7.holds Tryd.pinned (.plain (OpenSpec.upto dyadicExactSpec)) dyadicExactUptoCard

/-- THE SECOND FORM's CARD OF 'relucertlaw05.DyadicValid'. -/
def dyadicValidUptoCard : Claim7 := { stood := { row := dyadicValidUptoRow, standIns := [], harness := (true, "47686e04db9dca282196a0b66387ca0efa0a25ea88120548b5aafbcf3872068f"), looks := false }, kinds := [], alts := [], laidByText := true, laidKinds := [.data], laidTests := true, laidLooks := .later }
def DyadicValidUptoCardSaid : Prop := Claim7.holds Tryd.pinned (.plain (OpenSpec.upto dyadicValidSpec)) dyadicValidUptoCard

/-- THE SECOND FORM's CARD OF 'relucertlaw05.DyadicArithmetic'. -/
def dyadicArithmeticUptoCard : Claim7 := { stood := { row := dyadicArithmeticUptoRow, standIns := [], harness := (true, "47686e04db9dca282196a0b66387ca0efa0a25ea88120548b5aafbcf3872068f"), looks := false }, kinds := [], alts := [], laidByText := true, laidKinds := [.data], laidTests := true, laidLooks := .later }
def DyadicArithmeticUptoCardSaid : Prop := Claim7.holds Tryd.pinned (.plain (OpenSpec.upto dyadicArithmeticSpec)) dyadicArithmeticUptoCard

/-- THE SECOND FORM's CARD OF 'relucertlaw05.DyadicRange'. -/
def dyadicRangeUptoCard : Claim7 := { stood := { row := dyadicRangeUptoRow, standIns := [], harness := (true, "47686e04db9dca282196a0b66387ca0efa0a25ea88120548b5aafbcf3872068f"), looks := false }, kinds := [], alts := [], laidByText := true, laidKinds := [.data], laidTests := true, laidLooks := .later }
def DyadicRangeUptoCardSaid : Prop := Claim7.holds Tryd.pinned (.plain (OpenSpec.upto dyadicRangeSpec)) dyadicRangeUptoCard
end Rows
end Go.Proofs.YtpabkdpijcbkgaaDoor
