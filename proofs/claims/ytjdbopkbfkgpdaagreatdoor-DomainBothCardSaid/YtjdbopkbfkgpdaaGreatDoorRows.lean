/-
  NARROWER THAN 'FOR EVERY INPUT', by the rows' own cells (each row's printed sentence says how): DomainRun: laid · DomainErrors: laid · DomainDerived: laid · DomainMember: laid · DomainRounds: laid · DomainKeeps: laid · DomainBoth: laid.
  DERIVED. THE GIVEN ROWS OF THIS SEAT. 7 by the template 'for every input the law returns true; each argument reads behind the call as it read before'; 0 by the template 'total and deterministic' (their statements: YtjdbopkbfkgpdaaGreatDoorTotals.lean).
  GIVEN WITH THE SEED: the statements are not yours to turn. If you find one false, say at which input.
  Laid BY PROGRAM, IN A SANDBOX (cutbox-rows.mjs): the forced cells as the released guide's own fill.sh prints them over the translation 533fc77caf684116… (all of the seat's roots in one cut). By AI agents, Wed Nov 11 2026. No macro, syntax, notation, axiom, sorry.
-/
import Derived.Test.YtjdbopkbfkgpdaaGreatDoorChecked
import GoSem.Claim
import GoSem.ClaimJoined
import GoSem.ClaimMapViews
import Derived.JoinedTies
import Derived.KernelRfl
namespace Go.Proofs.YtjdbopkbfkgpdaaGreatDoor
/- THE CELL 'sum', in the pinned program and in every row, IS THE sha256 OF THE DUMP (.gsa) THAT YtjdbopkbfkgpdaaGreatDoorProg.lean LOADS. Nothing in Lean hashes anything: it is a label: what it is worth is what the hold of that sum in a sandbox is worth. -/
noncomputable def Tryz.pinned : Pinned := { name := "ytjdbopkbfkgpdaagreatdoor", sum := "533fc77caf684116d96b61403ef9e4b0f823b1768a73519417558c33903df105", checked := Tryz.checked }
namespace Rows
def none {H : Type} : Left H := { results := [], args := [] }

/- WHAT THE LISTED PACKAGE-LEVEL VARIABLES READ AS WHEN THE CALL BEGINS. Each datum BY PROGRAM (the guide's laid-datum.mjs) off the statement by which the dump's own 'gosem.cut.vars' lays the variable. In a bare row this is a premise. The card (YtjdbopkbfkgpdaaGreatDoorCards.lean) ties it to the program's text. -/
def laid_math_bits_deBruijn32tab {H : Type} : DataW H := .agg [.lit (.int .u8 0), .lit (.int .u8 1), .lit (.int .u8 28), .lit (.int .u8 2), .lit (.int .u8 29), .lit (.int .u8 14), .lit (.int .u8 24), .lit (.int .u8 3), .lit (.int .u8 30), .lit (.int .u8 22), .lit (.int .u8 20), .lit (.int .u8 15), .lit (.int .u8 25), .lit (.int .u8 17), .lit (.int .u8 4), .lit (.int .u8 8), .lit (.int .u8 31), .lit (.int .u8 27), .lit (.int .u8 13), .lit (.int .u8 23), .lit (.int .u8 21), .lit (.int .u8 19), .lit (.int .u8 16), .lit (.int .u8 7), .lit (.int .u8 26), .lit (.int .u8 12), .lit (.int .u8 18), .lit (.int .u8 6), .lit (.int .u8 11), .lit (.int .u8 5), .lit (.int .u8 10), .lit (.int .u8 9)]

/-- 'relucertlaw23.DomainRun': WHATEVER THE INPUT: true; the input reads as it did. -/
def domainRunSpec : ChangeSpec := { name := "domainRun", fn := fun _ => fun
  | [d1, d2] => { results := [.lit (.bool true)], args := [d1, d2] }
  | _ => none }
def domainRunRow : OpenClaim := { program := "ytjdbopkbfkgpdaagreatdoor", sum := "533fc77caf684116d96b61403ef9e4b0f823b1768a73519417558c33903df105", func := "relucert/relucertlaw23.DomainRun", spec := "domainRun", unfollowed := true, recurses := true, named := ["math/bits.deBruijn32tab"], apart := false, laid := [("math/bits.deBruijn32tab", laid_math_bits_deBruijn32tab)] }
def DomainRunSaid : Prop := domainRunRow.holds Tryz.pinned (OpenSpec.ofChange domainRunSpec)

/-- ITS FALSE NEIGHBOUR: 'it returns false'. Refute it at one input. -/
def domainRunWrong : ChangeSpec := { name := "domainRun", fn := fun _ => fun
  | [d1, d2] => { results := [.lit (.bool false)], args := [d1, d2] }
  | _ => none }
def DomainRunWrongFalsely : Prop := domainRunRow.holds Tryz.pinned (OpenSpec.ofChange domainRunWrong)

/-- 'relucertlaw23.DomainErrors': WHATEVER THE INPUT: true; the input reads as it did. -/
def domainErrorsSpec : ChangeSpec := { name := "domainErrors", fn := fun _ => fun
  | [d1, d2, d3] => { results := [.lit (.bool true)], args := [d1, d2, d3] }
  | _ => none }
def domainErrorsRow : OpenClaim := { program := "ytjdbopkbfkgpdaagreatdoor", sum := "533fc77caf684116d96b61403ef9e4b0f823b1768a73519417558c33903df105", func := "relucert/relucertlaw23.DomainErrors", spec := "domainErrors", unfollowed := true, recurses := true, named := ["math/bits.deBruijn32tab"], apart := false, laid := [("math/bits.deBruijn32tab", laid_math_bits_deBruijn32tab)] }
def DomainErrorsSaid : Prop := domainErrorsRow.holds Tryz.pinned (OpenSpec.ofChange domainErrorsSpec)

/-- ITS FALSE NEIGHBOUR: 'it returns false'. Refute it at one input. -/
def domainErrorsWrong : ChangeSpec := { name := "domainErrors", fn := fun _ => fun
  | [d1, d2, d3] => { results := [.lit (.bool false)], args := [d1, d2, d3] }
  | _ => none }
def DomainErrorsWrongFalsely : Prop := domainErrorsRow.holds Tryz.pinned (OpenSpec.ofChange domainErrorsWrong)

/-- 'relucertlaw23.DomainDerived': WHATEVER THE INPUT: true; the input reads as it did. -/
def domainDerivedSpec : ChangeSpec := { name := "domainDerived", fn := fun _ => fun
  | [d1, d2] => { results := [.lit (.bool true)], args := [d1, d2] }
  | _ => none }
def domainDerivedRow : OpenClaim := { program := "ytjdbopkbfkgpdaagreatdoor", sum := "533fc77caf684116d96b61403ef9e4b0f823b1768a73519417558c33903df105", func := "relucert/relucertlaw23.DomainDerived", spec := "domainDerived", unfollowed := true, recurses := true, named := ["math/bits.deBruijn32tab"], apart := false, laid := [("math/bits.deBruijn32tab", laid_math_bits_deBruijn32tab)] }
def DomainDerivedSaid : Prop := domainDerivedRow.holds Tryz.pinned (OpenSpec.ofChange domainDerivedSpec)

/-- ITS FALSE NEIGHBOUR: 'it returns false'. Refute it at one input. -/
def domainDerivedWrong : ChangeSpec := { name := "domainDerived", fn := fun _ => fun
  | [d1, d2] => { results := [.lit (.bool false)], args := [d1, d2] }
  | _ => none }
def DomainDerivedWrongFalsely : Prop := domainDerivedRow.holds Tryz.pinned (OpenSpec.ofChange domainDerivedWrong)

/-- 'relucertlaw23.DomainMember': WHATEVER THE INPUT: true; the input reads as it did. -/
def domainMemberSpec : ChangeSpec := { name := "domainMember", fn := fun _ => fun
  | [d1, d2, d3] => { results := [.lit (.bool true)], args := [d1, d2, d3] }
  | _ => none }
def domainMemberRow : OpenClaim := { program := "ytjdbopkbfkgpdaagreatdoor", sum := "533fc77caf684116d96b61403ef9e4b0f823b1768a73519417558c33903df105", func := "relucert/relucertlaw23.DomainMember", spec := "domainMember", unfollowed := true, recurses := true, named := ["math/bits.deBruijn32tab"], apart := false, laid := [("math/bits.deBruijn32tab", laid_math_bits_deBruijn32tab)] }
def DomainMemberSaid : Prop := domainMemberRow.holds Tryz.pinned (OpenSpec.ofChange domainMemberSpec)

/-- ITS FALSE NEIGHBOUR: 'it returns false'. Refute it at one input. -/
def domainMemberWrong : ChangeSpec := { name := "domainMember", fn := fun _ => fun
  | [d1, d2, d3] => { results := [.lit (.bool false)], args := [d1, d2, d3] }
  | _ => none }
def DomainMemberWrongFalsely : Prop := domainMemberRow.holds Tryz.pinned (OpenSpec.ofChange domainMemberWrong)

/-- 'relucertlaw23.DomainRounds': WHATEVER THE INPUT: true; the input reads as it did. -/
def domainRoundsSpec : ChangeSpec := { name := "domainRounds", fn := fun _ => fun
  | [d1, d2] => { results := [.lit (.bool true)], args := [d1, d2] }
  | _ => none }
def domainRoundsRow : OpenClaim := { program := "ytjdbopkbfkgpdaagreatdoor", sum := "533fc77caf684116d96b61403ef9e4b0f823b1768a73519417558c33903df105", func := "relucert/relucertlaw23.DomainRounds", spec := "domainRounds", unfollowed := true, recurses := true, named := ["math/bits.deBruijn32tab"], apart := false, laid := [("math/bits.deBruijn32tab", laid_math_bits_deBruijn32tab)] }
def DomainRoundsSaid : Prop := domainRoundsRow.holds Tryz.pinned (OpenSpec.ofChange domainRoundsSpec)

/-- ITS FALSE NEIGHBOUR: 'it returns false'. Refute it at one input. -/
def domainRoundsWrong : ChangeSpec := { name := "domainRounds", fn := fun _ => fun
  | [d1, d2] => { results := [.lit (.bool false)], args := [d1, d2] }
  | _ => none }
def DomainRoundsWrongFalsely : Prop := domainRoundsRow.holds Tryz.pinned (OpenSpec.ofChange domainRoundsWrong)

/-- 'relucertlaw23.DomainKeeps': WHATEVER THE INPUT: true; the input reads as it did. -/
def domainKeepsSpec : ChangeSpec := { name := "domainKeeps", fn := fun _ => fun
  | [d1, d2] => { results := [.lit (.bool true)], args := [d1, d2] }
  | _ => none }
def domainKeepsRow : OpenClaim := { program := "ytjdbopkbfkgpdaagreatdoor", sum := "533fc77caf684116d96b61403ef9e4b0f823b1768a73519417558c33903df105", func := "relucert/relucertlaw23.DomainKeeps", spec := "domainKeeps", unfollowed := true, recurses := true, named := ["math/bits.deBruijn32tab"], apart := false, laid := [("math/bits.deBruijn32tab", laid_math_bits_deBruijn32tab)] }
def DomainKeepsSaid : Prop := domainKeepsRow.holds Tryz.pinned (OpenSpec.ofChange domainKeepsSpec)

/-- ITS FALSE NEIGHBOUR: 'it returns false'. Refute it at one input. -/
def domainKeepsWrong : ChangeSpec := { name := "domainKeeps", fn := fun _ => fun
  | [d1, d2] => { results := [.lit (.bool false)], args := [d1, d2] }
  | _ => none }
def DomainKeepsWrongFalsely : Prop := domainKeepsRow.holds Tryz.pinned (OpenSpec.ofChange domainKeepsWrong)

/-- 'relucertlaw23.DomainBoth': WHATEVER THE INPUT: true; the input reads as it did. -/
def domainBothSpec : ChangeSpec := { name := "domainBoth", fn := fun _ => fun
  | [d1, d2, d3] => { results := [.lit (.bool true)], args := [d1, d2, d3] }
  | _ => none }
def domainBothRow : OpenClaim := { program := "ytjdbopkbfkgpdaagreatdoor", sum := "533fc77caf684116d96b61403ef9e4b0f823b1768a73519417558c33903df105", func := "relucert/relucertlaw23.DomainBoth", spec := "domainBoth", unfollowed := true, recurses := true, named := ["math/bits.deBruijn32tab"], apart := false, laid := [("math/bits.deBruijn32tab", laid_math_bits_deBruijn32tab)] }
def DomainBothSaid : Prop := domainBothRow.holds Tryz.pinned (OpenSpec.ofChange domainBothSpec)

/-- ITS FALSE NEIGHBOUR: 'it returns false'. Refute it at one input. -/
def domainBothWrong : ChangeSpec := { name := "domainBoth", fn := fun _ => fun
  | [d1, d2, d3] => { results := [.lit (.bool false)], args := [d1, d2, d3] }
  | _ => none }
def DomainBothWrongFalsely : Prop := domainBothRow.holds Tryz.pinned (OpenSpec.ofChange domainBothWrong)

/- THE SECOND FORM. 'bulk': how many values and letters a reading holds, each counted each time it is reached (what is shared counts as often as it is met; a slice's spare places count too). A statement '..UptoSaid' is the law's where the arguments, and the package variables that the reading takes, are together of bulk at most 1048576: NARROWER than '..Said'. Prove '..Said' where nothing that the law and all that it calls make is longer than what came in: it says more and counts as full. Else prove '..UptoSaid'. A law counts once. -/
mutual
def uptoBulk {H : Type} : DataW H → Nat
  | .lit (.string bytes) => bytes.length + 1
  | .lit _ => 1
  | .nil => 1
  | .ptr d => uptoBulk d + 1
  | .slice elems spare => uptoBulkAll elems + uptoBulkAll spare + 1
  | .agg parts => uptoBulkAll parts + 1
  | .iface _ d => uptoBulk d + 1
  | .map entries => uptoBulkEntries entries + 1
  | .held _ => 1
def uptoBulkAll {H : Type} : List (DataW H) → Nat
  | [] => 0
  | d :: r => uptoBulk d + uptoBulkAll r
def uptoBulkEntries {H : Type} : List (Lit × DataW H) → Nat
  | [] => 0
  | x :: r => uptoBulkEntry x + uptoBulkEntries r
def uptoBulkEntry {H : Type} : Lit × DataW H → Nat
  | (.string bytes, d) => bytes.length + uptoBulk d + 1
  | (_, d) => uptoBulk d + 1
 end
def uptoSmall : (H : Type) → List (DataW H) → Bool := fun _ ds => decide (uptoBulkAll ds ≤ 1048576)
def OpenSpec.upto (s : _root_.Go.ChangeSpec) : _root_.Go.OpenSpec := { _root_.Go.OpenSpec.ofChange s with cond := some uptoSmall }

/-- 'relucertlaw23.DomainRun', WHERE WHAT IT READS IS OF BULK AT MOST 1048576: true; the input reads as it did. -/
def domainRunUptoRow : OpenClaim := { program := "ytjdbopkbfkgpdaagreatdoor", sum := "533fc77caf684116d96b61403ef9e4b0f823b1768a73519417558c33903df105", func := "relucert/relucertlaw23.DomainRun", spec := "domainRun", unfollowed := true, recurses := true, named := ["math/bits.deBruijn32tab"], apart := false, laid := [("math/bits.deBruijn32tab", laid_math_bits_deBruijn32tab)], narrowed := true }
def DomainRunUptoSaid : Prop := domainRunUptoRow.holds Tryz.pinned (OpenSpec.upto domainRunSpec)

/-- 'relucertlaw23.DomainErrors', WHERE WHAT IT READS IS OF BULK AT MOST 1048576: true; the input reads as it did. -/
def domainErrorsUptoRow : OpenClaim := { program := "ytjdbopkbfkgpdaagreatdoor", sum := "533fc77caf684116d96b61403ef9e4b0f823b1768a73519417558c33903df105", func := "relucert/relucertlaw23.DomainErrors", spec := "domainErrors", unfollowed := true, recurses := true, named := ["math/bits.deBruijn32tab"], apart := false, laid := [("math/bits.deBruijn32tab", laid_math_bits_deBruijn32tab)], narrowed := true }
def DomainErrorsUptoSaid : Prop := domainErrorsUptoRow.holds Tryz.pinned (OpenSpec.upto domainErrorsSpec)

/-- 'relucertlaw23.DomainDerived', WHERE WHAT IT READS IS OF BULK AT MOST 1048576: true; the input reads as it did. -/
def domainDerivedUptoRow : OpenClaim := { program := "ytjdbopkbfkgpdaagreatdoor", sum := "533fc77caf684116d96b61403ef9e4b0f823b1768a73519417558c33903df105", func := "relucert/relucertlaw23.DomainDerived", spec := "domainDerived", unfollowed := true, recurses := true, named := ["math/bits.deBruijn32tab"], apart := false, laid := [("math/bits.deBruijn32tab", laid_math_bits_deBruijn32tab)], narrowed := true }
def DomainDerivedUptoSaid : Prop := domainDerivedUptoRow.holds Tryz.pinned (OpenSpec.upto domainDerivedSpec)

/-- 'relucertlaw23.DomainMember', WHERE WHAT IT READS IS OF BULK AT MOST 1048576: true; the input reads as it did. -/
def domainMemberUptoRow : OpenClaim := { program := "ytjdbopkbfkgpdaagreatdoor", sum := "533fc77caf684116d96b61403ef9e4b0f823b1768a73519417558c33903df105", func := "relucert/relucertlaw23.DomainMember", spec := "domainMember", unfollowed := true, recurses := true, named := ["math/bits.deBruijn32tab"], apart := false, laid := [("math/bits.deBruijn32tab", laid_math_bits_deBruijn32tab)], narrowed := true }
def DomainMemberUptoSaid : Prop := domainMemberUptoRow.holds Tryz.pinned (OpenSpec.upto domainMemberSpec)

/-- 'relucertlaw23.DomainRounds', WHERE WHAT IT READS IS OF BULK AT MOST 1048576: true; the input reads as it did. -/
def domainRoundsUptoRow : OpenClaim := { program := "ytjdbopkbfkgpdaagreatdoor", sum := "533fc77caf684116d96b61403ef9e4b0f823b1768a73519417558c33903df105", func := "relucert/relucertlaw23.DomainRounds", spec := "domainRounds", unfollowed := true, recurses := true, named := ["math/bits.deBruijn32tab"], apart := false, laid := [("math/bits.deBruijn32tab", laid_math_bits_deBruijn32tab)], narrowed := true }
def DomainRoundsUptoSaid : Prop := domainRoundsUptoRow.holds Tryz.pinned (OpenSpec.upto domainRoundsSpec)

/-- 'relucertlaw23.DomainKeeps', WHERE WHAT IT READS IS OF BULK AT MOST 1048576: true; the input reads as it did. -/
def domainKeepsUptoRow : OpenClaim := { program := "ytjdbopkbfkgpdaagreatdoor", sum := "533fc77caf684116d96b61403ef9e4b0f823b1768a73519417558c33903df105", func := "relucert/relucertlaw23.DomainKeeps", spec := "domainKeeps", unfollowed := true, recurses := true, named := ["math/bits.deBruijn32tab"], apart := false, laid := [("math/bits.deBruijn32tab", laid_math_bits_deBruijn32tab)], narrowed := true }
def DomainKeepsUptoSaid : Prop := domainKeepsUptoRow.holds Tryz.pinned (OpenSpec.upto domainKeepsSpec)

/-- 'relucertlaw23.DomainBoth', WHERE WHAT IT READS IS OF BULK AT MOST 1048576: true; the input reads as it did. -/
def domainBothUptoRow : OpenClaim := { program := "ytjdbopkbfkgpdaagreatdoor", sum := "533fc77caf684116d96b61403ef9e4b0f823b1768a73519417558c33903df105", func := "relucert/relucertlaw23.DomainBoth", spec := "domainBoth", unfollowed := true, recurses := true, named := ["math/bits.deBruijn32tab"], apart := false, laid := [("math/bits.deBruijn32tab", laid_math_bits_deBruijn32tab)], narrowed := true }
def DomainBothUptoSaid : Prop := domainBothUptoRow.holds Tryz.pinned (OpenSpec.upto domainBothSpec)

end Rows
end Go.Proofs.YtjdbopkbfkgpdaaGreatDoor
