/-
  NARROWER THAN 'FOR EVERY INPUT', by the rows' own cells (each row's printed sentence says how): DyadicRound: laid · DyadicOutward: laid · DyadicMonotone: laid · DyadicExact: laid · DyadicValid: laid · DyadicArithmetic: laid · DyadicRange: laid.
  DERIVED. THE GIVEN ROWS OF THIS SEAT. 7 by the template 'for every input the law returns true; each argument reads behind the call as it read before'; 0 by the template 'total and deterministic' (their statements: YtpabkdpijcbkgaaDoorTotals.lean).
  GIVEN WITH THE SEED: the statements are not yours to turn. If you find one false, say at which input.
  Laid BY PROGRAM, IN A SANDBOX (cutbox-rows.mjs): the forced cells as the released guide's own fill.sh prints them over the translation 40d16f2f64a8c466… (all of the seat's roots in one cut). By AI agents, Wed Nov 11 2026. No macro, syntax, notation, axiom, sorry.
-/
import Derived.Test.YtpabkdpijcbkgaaDoorChecked
import GoSem.Claim
import GoSem.ClaimJoined
import GoSem.ClaimMapViews
import Derived.JoinedTies
import Derived.KernelRfl
namespace Go.Proofs.YtpabkdpijcbkgaaDoor
/- THE CELL 'sum', in the pinned program and in every row, IS THE sha256 OF THE DUMP (.gsa) THAT YtpabkdpijcbkgaaDoorProg.lean LOADS. Nothing in Lean hashes anything: it is a label: what it is worth is what the hold of that sum in a sandbox is worth. -/
noncomputable def Tryd.pinned : Pinned := { name := "ytpabkdpijcbkgaadoor", sum := "40d16f2f64a8c466bf72f5a279dc7fd9881b9dc453ecfb1fdcae9f26b99c8862", checked := Tryd.checked }
namespace Rows
def none {H : Type} : Left H := { results := [], args := [] }

/- WHAT THE LISTED PACKAGE-LEVEL VARIABLES READ AS WHEN THE CALL BEGINS. Each datum BY PROGRAM (the guide's laid-datum.mjs) off the statement by which the dump's own 'gosem.cut.vars' lays the variable. In a bare row this is a premise. The card (YtpabkdpijcbkgaaDoorCards.lean) ties it to the program's text. -/
def laid_math_bits_deBruijn32tab {H : Type} : DataW H := .agg [.lit (.int .u8 0), .lit (.int .u8 1), .lit (.int .u8 28), .lit (.int .u8 2), .lit (.int .u8 29), .lit (.int .u8 14), .lit (.int .u8 24), .lit (.int .u8 3), .lit (.int .u8 30), .lit (.int .u8 22), .lit (.int .u8 20), .lit (.int .u8 15), .lit (.int .u8 25), .lit (.int .u8 17), .lit (.int .u8 4), .lit (.int .u8 8), .lit (.int .u8 31), .lit (.int .u8 27), .lit (.int .u8 13), .lit (.int .u8 23), .lit (.int .u8 21), .lit (.int .u8 19), .lit (.int .u8 16), .lit (.int .u8 7), .lit (.int .u8 26), .lit (.int .u8 12), .lit (.int .u8 18), .lit (.int .u8 6), .lit (.int .u8 11), .lit (.int .u8 5), .lit (.int .u8 10), .lit (.int .u8 9)]

/-- 'relucertlaw05.DyadicRound': WHATEVER THE INPUT: true; the input reads as it did. -/
def dyadicRoundSpec : ChangeSpec := { name := "dyadicRound", fn := fun _ => fun
  | [d1, d2] => { results := [.lit (.bool true)], args := [d1, d2] }
  | _ => none }
def dyadicRoundRow : OpenClaim := { program := "ytpabkdpijcbkgaadoor", sum := "40d16f2f64a8c466bf72f5a279dc7fd9881b9dc453ecfb1fdcae9f26b99c8862", func := "relucert/relucertlaw05.DyadicRound", spec := "dyadicRound", named := ["math/bits.deBruijn32tab"], apart := false, laid := [("math/bits.deBruijn32tab", laid_math_bits_deBruijn32tab)] }
def DyadicRoundSaid : Prop := dyadicRoundRow.holds Tryd.pinned (OpenSpec.ofChange dyadicRoundSpec)

/-- ITS FALSE NEIGHBOUR: 'it returns false'. Refute it at one input. -/
def dyadicRoundWrong : ChangeSpec := { name := "dyadicRound", fn := fun _ => fun
  | [d1, d2] => { results := [.lit (.bool false)], args := [d1, d2] }
  | _ => none }
def DyadicRoundWrongFalsely : Prop := dyadicRoundRow.holds Tryd.pinned (OpenSpec.ofChange dyadicRoundWrong)

/-- 'relucertlaw05.DyadicOutward': WHATEVER THE INPUT: true; the input reads as it did. -/
def dyadicOutwardSpec : ChangeSpec := { name := "dyadicOutward", fn := fun _ => fun
  | [d1, d2] => { results := [.lit (.bool true)], args := [d1, d2] }
  | _ => none }
def dyadicOutwardRow : OpenClaim := { program := "ytpabkdpijcbkgaadoor", sum := "40d16f2f64a8c466bf72f5a279dc7fd9881b9dc453ecfb1fdcae9f26b99c8862", func := "relucert/relucertlaw05.DyadicOutward", spec := "dyadicOutward", named := ["math/bits.deBruijn32tab"], apart := false, laid := [("math/bits.deBruijn32tab", laid_math_bits_deBruijn32tab)] }
def DyadicOutwardSaid : Prop := dyadicOutwardRow.holds Tryd.pinned (OpenSpec.ofChange dyadicOutwardSpec)

/-- ITS FALSE NEIGHBOUR: 'it returns false'. Refute it at one input. -/
def dyadicOutwardWrong : ChangeSpec := { name := "dyadicOutward", fn := fun _ => fun
  | [d1, d2] => { results := [.lit (.bool false)], args := [d1, d2] }
  | _ => none }
def DyadicOutwardWrongFalsely : Prop := dyadicOutwardRow.holds Tryd.pinned (OpenSpec.ofChange dyadicOutwardWrong)

/-- 'relucertlaw05.DyadicMonotone': WHATEVER THE INPUT: true; the input reads as it did. -/
def dyadicMonotoneSpec : ChangeSpec := { name := "dyadicMonotone", fn := fun _ => fun
  | [d1, d2, d3] => { results := [.lit (.bool true)], args := [d1, d2, d3] }
  | _ => none }
def dyadicMonotoneRow : OpenClaim := { program := "ytpabkdpijcbkgaadoor", sum := "40d16f2f64a8c466bf72f5a279dc7fd9881b9dc453ecfb1fdcae9f26b99c8862", func := "relucert/relucertlaw05.DyadicMonotone", spec := "dyadicMonotone", named := ["math/bits.deBruijn32tab"], apart := false, laid := [("math/bits.deBruijn32tab", laid_math_bits_deBruijn32tab)] }
def DyadicMonotoneSaid : Prop := dyadicMonotoneRow.holds Tryd.pinned (OpenSpec.ofChange dyadicMonotoneSpec)

/-- ITS FALSE NEIGHBOUR: 'it returns false'. Refute it at one input. -/
def dyadicMonotoneWrong : ChangeSpec := { name := "dyadicMonotone", fn := fun _ => fun
  | [d1, d2, d3] => { results := [.lit (.bool false)], args := [d1, d2, d3] }
  | _ => none }
def DyadicMonotoneWrongFalsely : Prop := dyadicMonotoneRow.holds Tryd.pinned (OpenSpec.ofChange dyadicMonotoneWrong)

/-- 'relucertlaw05.DyadicExact': WHATEVER THE INPUT: true; the input reads as it did. -/
def dyadicExactSpec : ChangeSpec := { name := "dyadicExact", fn := fun _ => fun
  | [d] => { results := [.lit (.bool true)], args := [d] }
  | _ => none }
def dyadicExactRow : OpenClaim := { program := "ytpabkdpijcbkgaadoor", sum := "40d16f2f64a8c466bf72f5a279dc7fd9881b9dc453ecfb1fdcae9f26b99c8862", func := "relucert/relucertlaw05.DyadicExact", spec := "dyadicExact", named := ["math/bits.deBruijn32tab"], apart := false, laid := [("math/bits.deBruijn32tab", laid_math_bits_deBruijn32tab)] }
def DyadicExactSaid : Prop := dyadicExactRow.holds Tryd.pinned (OpenSpec.ofChange dyadicExactSpec)

/-- ITS FALSE NEIGHBOUR: 'it returns false'. Refute it at one input. -/
def dyadicExactWrong : ChangeSpec := { name := "dyadicExact", fn := fun _ => fun
  | [d] => { results := [.lit (.bool false)], args := [d] }
  | _ => none }
def DyadicExactWrongFalsely : Prop := dyadicExactRow.holds Tryd.pinned (OpenSpec.ofChange dyadicExactWrong)

/-- 'relucertlaw05.DyadicValid': WHATEVER THE INPUT: true; the input reads as it did. -/
def dyadicValidSpec : ChangeSpec := { name := "dyadicValid", fn := fun _ => fun
  | [d] => { results := [.lit (.bool true)], args := [d] }
  | _ => none }
def dyadicValidRow : OpenClaim := { program := "ytpabkdpijcbkgaadoor", sum := "40d16f2f64a8c466bf72f5a279dc7fd9881b9dc453ecfb1fdcae9f26b99c8862", func := "relucert/relucertlaw05.DyadicValid", spec := "dyadicValid", named := ["math/bits.deBruijn32tab"], apart := false, laid := [("math/bits.deBruijn32tab", laid_math_bits_deBruijn32tab)] }
def DyadicValidSaid : Prop := dyadicValidRow.holds Tryd.pinned (OpenSpec.ofChange dyadicValidSpec)

/-- ITS FALSE NEIGHBOUR: 'it returns false'. Refute it at one input. -/
def dyadicValidWrong : ChangeSpec := { name := "dyadicValid", fn := fun _ => fun
  | [d] => { results := [.lit (.bool false)], args := [d] }
  | _ => none }
def DyadicValidWrongFalsely : Prop := dyadicValidRow.holds Tryd.pinned (OpenSpec.ofChange dyadicValidWrong)

/-- 'relucertlaw05.DyadicArithmetic': WHATEVER THE INPUT: true; the input reads as it did. -/
def dyadicArithmeticSpec : ChangeSpec := { name := "dyadicArithmetic", fn := fun _ => fun
  | [d1, d2] => { results := [.lit (.bool true)], args := [d1, d2] }
  | _ => none }
def dyadicArithmeticRow : OpenClaim := { program := "ytpabkdpijcbkgaadoor", sum := "40d16f2f64a8c466bf72f5a279dc7fd9881b9dc453ecfb1fdcae9f26b99c8862", func := "relucert/relucertlaw05.DyadicArithmetic", spec := "dyadicArithmetic", named := ["math/bits.deBruijn32tab"], apart := false, laid := [("math/bits.deBruijn32tab", laid_math_bits_deBruijn32tab)] }
def DyadicArithmeticSaid : Prop := dyadicArithmeticRow.holds Tryd.pinned (OpenSpec.ofChange dyadicArithmeticSpec)

/-- ITS FALSE NEIGHBOUR: 'it returns false'. Refute it at one input. -/
def dyadicArithmeticWrong : ChangeSpec := { name := "dyadicArithmetic", fn := fun _ => fun
  | [d1, d2] => { results := [.lit (.bool false)], args := [d1, d2] }
  | _ => none }
def DyadicArithmeticWrongFalsely : Prop := dyadicArithmeticRow.holds Tryd.pinned (OpenSpec.ofChange dyadicArithmeticWrong)

/-- 'relucertlaw05.DyadicRange': WHATEVER THE INPUT: true; the input reads as it did. -/
def dyadicRangeSpec : ChangeSpec := { name := "dyadicRange", fn := fun _ => fun
  | [d1, d2] => { results := [.lit (.bool true)], args := [d1, d2] }
  | _ => none }
def dyadicRangeRow : OpenClaim := { program := "ytpabkdpijcbkgaadoor", sum := "40d16f2f64a8c466bf72f5a279dc7fd9881b9dc453ecfb1fdcae9f26b99c8862", func := "relucert/relucertlaw05.DyadicRange", spec := "dyadicRange", named := ["math/bits.deBruijn32tab"], apart := false, laid := [("math/bits.deBruijn32tab", laid_math_bits_deBruijn32tab)] }
def DyadicRangeSaid : Prop := dyadicRangeRow.holds Tryd.pinned (OpenSpec.ofChange dyadicRangeSpec)

/-- ITS FALSE NEIGHBOUR: 'it returns false'. Refute it at one input. -/
def dyadicRangeWrong : ChangeSpec := { name := "dyadicRange", fn := fun _ => fun
  | [d1, d2] => { results := [.lit (.bool false)], args := [d1, d2] }
  | _ => none }
def DyadicRangeWrongFalsely : Prop := dyadicRangeRow.holds Tryd.pinned (OpenSpec.ofChange dyadicRangeWrong)

/- THE SECOND FORM. 'bulk': how many values and letters a reading holds, each counted each time it is reached (what is shared counts as often as it is met; a slice's spare places count too). A statement '..UptoSaid' is the law's where the arguments, and the package variables that the reading takes, are together of bulk at most 1048576: NARROWER than '..Said'. Prove '..Said' where nothing that the law and all that it calls make is longer than what came in: it says more and counts as full. Else prove '..UptoSaid'. A law counts once. -/
mutual
def uptoBulk {H : Type} : DataW H → Nat
  | .lit (.string bytes) => bytes.length + 1
  | .lit _ => 1
  | .nil => 1
  | .ptr d => uptoBulk d + 1
  | .slice elems spare => uptoBulkAll elems + uptoBulkAll spare + 1
  | .agg parts => uptoBulkAll parts + 1
  | .iface _ d => uptoBulk d + 1
  | .map entries => uptoBulkEntries entries + 1
  | .held _ => 1
def uptoBulkAll {H : Type} : List (DataW H) → Nat
  | [] => 0
  | d :: r => uptoBulk d + uptoBulkAll r
def uptoBulkEntries {H : Type} : List (Lit × DataW H) → Nat
  | [] => 0
  | x :: r => uptoBulkEntry x + uptoBulkEntries r
def uptoBulkEntry {H : Type} : Lit × DataW H → Nat
  | (.string bytes, d) => bytes.length + uptoBulk d + 1
  | (_, d) => uptoBulk d + 1
 end
def uptoSmall : (H : Type) → List (DataW H) → Bool := fun _ ds => decide (uptoBulkAll ds ≤ 1048576)
def OpenSpec.upto (s : _root_.Go.ChangeSpec) : _root_.Go.OpenSpec := { _root_.Go.OpenSpec.ofChange s with cond := some uptoSmall }

/-- 'relucertlaw05.DyadicRound', WHERE WHAT IT READS IS OF BULK AT MOST 1048576: true; the input reads as it did. -/
def dyadicRoundUptoRow : OpenClaim := { program := "ytpabkdpijcbkgaadoor", sum := "40d16f2f64a8c466bf72f5a279dc7fd9881b9dc453ecfb1fdcae9f26b99c8862", func := "relucert/relucertlaw05.DyadicRound", spec := "dyadicRound", named := ["math/bits.deBruijn32tab"], apart := false, laid := [("math/bits.deBruijn32tab", laid_math_bits_deBruijn32tab)], narrowed := true }
def DyadicRoundUptoSaid : Prop := dyadicRoundUptoRow.holds Tryd.pinned (OpenSpec.upto dyadicRoundSpec)

/-- 'relucertlaw05.DyadicOutward', WHERE WHAT IT READS IS OF BULK AT MOST 1048576: true; the input reads as it did. -/
def dyadicOutwardUptoRow : OpenClaim := { program := "ytpabkdpijcbkgaadoor", sum := "40d16f2f64a8c466bf72f5a279dc7fd9881b9dc453ecfb1fdcae9f26b99c8862", func := "relucert/relucertlaw05.DyadicOutward", spec := "dyadicOutward", named := ["math/bits.deBruijn32tab"], apart := false, laid := [("math/bits.deBruijn32tab", laid_math_bits_deBruijn32tab)], narrowed := true }
def DyadicOutwardUptoSaid : Prop := dyadicOutwardUptoRow.holds Tryd.pinned (OpenSpec.upto dyadicOutwardSpec)

/-- 'relucertlaw05.DyadicMonotone', WHERE WHAT IT READS IS OF BULK AT MOST 1048576: true; the input reads as it did. -/
def dyadicMonotoneUptoRow : OpenClaim := { program := "ytpabkdpijcbkgaadoor", sum := "40d16f2f64a8c466bf72f5a279dc7fd9881b9dc453ecfb1fdcae9f26b99c8862", func := "relucert/relucertlaw05.DyadicMonotone", spec := "dyadicMonotone", named := ["math/bits.deBruijn32tab"], apart := false, laid := [("math/bits.deBruijn32tab", laid_math_bits_deBruijn32tab)], narrowed := true }
def DyadicMonotoneUptoSaid : Prop := dyadicMonotoneUptoRow.holds Tryd.pinned (OpenSpec.upto dyadicMonotoneSpec)

/-- 'relucertlaw05.DyadicExact', WHERE WHAT IT READS IS OF BULK AT MOST 1048576: true; the input reads as it did. -/
def dyadicExactUptoRow : OpenClaim := { program := "ytpabkdpijcbkgaadoor", sum := "40d16f2f64a8c466bf72f5a279dc7fd9881b9dc453ecfb1fdcae9f26b99c8862", func := "relucert/relucertlaw05.DyadicExact", spec := "dyadicExact", named := ["math/bits.deBruijn32tab"], apart := false, laid := [("math/bits.deBruijn32tab", laid_math_bits_deBruijn32tab)], narrowed := true }
def DyadicExactUptoSaid : Prop := dyadicExactUptoRow.holds Tryd.pinned (OpenSpec.upto dyadicExactSpec)

/-- 'relucertlaw05.DyadicValid', WHERE WHAT IT READS IS OF BULK AT MOST 1048576: true; the input reads as it did. -/
def dyadicValidUptoRow : OpenClaim := { program := "ytpabkdpijcbkgaadoor", sum := "40d16f2f64a8c466bf72f5a279dc7fd9881b9dc453ecfb1fdcae9f26b99c8862", func := "relucert/relucertlaw05.DyadicValid", spec := "dyadicValid", named := ["math/bits.deBruijn32tab"], apart := false, laid := [("math/bits.deBruijn32tab", laid_math_bits_deBruijn32tab)], narrowed := true }
def DyadicValidUptoSaid : Prop := dyadicValidUptoRow.holds Tryd.pinned (OpenSpec.upto dyadicValidSpec)

/-- 'relucertlaw05.DyadicArithmetic', WHERE WHAT IT READS IS OF BULK AT MOST 1048576: true; the input reads as it did. -/
def dyadicArithmeticUptoRow : OpenClaim := { program := "ytpabkdpijcbkgaadoor", sum := "40d16f2f64a8c466bf72f5a279dc7fd9881b9dc453ecfb1fdcae9f26b99c8862", func := "relucert/relucertlaw05.DyadicArithmetic", spec := "dyadicArithmetic", named := ["math/bits.deBruijn32tab"], apart := false, laid := [("math/bits.deBruijn32tab", laid_math_bits_deBruijn32tab)], narrowed := true }
def DyadicArithmeticUptoSaid : Prop := dyadicArithmeticUptoRow.holds Tryd.pinned (OpenSpec.upto dyadicArithmeticSpec)

/-- 'relucertlaw05.DyadicRange', WHERE WHAT IT READS IS OF BULK AT MOST 1048576: true; the input reads as it did. -/
def dyadicRangeUptoRow : OpenClaim := { program := "ytpabkdpijcbkgaadoor", sum := "40d16f2f64a8c466bf72f5a279dc7fd9881b9dc453ecfb1fdcae9f26b99c8862", func := "relucert/relucertlaw05.DyadicRange", spec := "dyadicRange", named := ["math/bits.deBruijn32tab"], apart := false, laid := [("math/bits.deBruijn32tab", laid_math_bits_deBruijn32tab)], narrowed := true }
def DyadicRangeUptoSaid : Prop := dyadicRangeUptoRow.holds Tryd.pinned (OpenSpec.upto dyadicRangeSpec)

end Rows
end Go.Proofs.YtpabkdpijcbkgaaDoor
