/-
  NARROWER THAN 'FOR EVERY INPUT', by the rows' own cells (each row's printed sentence says how): SymbolicBack: laid · SymbolicOther: laid · SymbolicProves: laid · SymbolicMember: laid · SymbolicExact: laid · SymbolicLower: laid · SymbolicRun: laid · SymbolicGet: laid.
  DERIVED. THE GIVEN ROWS OF THIS SEAT. 8 by the template 'for every input the law returns true; each argument reads behind the call as it read before'; 0 by the template 'total and deterministic' (their statements: YtjeiacoegppoiaaGreatDoorTotals.lean).
  GIVEN WITH THE SEED: the statements are not yours to turn. If you find one false, say at which input.
  Laid BY PROGRAM, IN A SANDBOX (cutbox-rows.mjs): the forced cells as the released guide's own fill.sh prints them over the translation 1838844dde4d13e0… (all of the seat's roots in one cut). By AI agents, Wed Nov 11 2026. No macro, syntax, notation, axiom, sorry.
-/
import Derived.Test.YtjeiacoegppoiaaGreatDoorChecked
import GoSem.Claim
import GoSem.ClaimJoined
import GoSem.ClaimMapViews
import Derived.JoinedTies
import Derived.KernelRfl
namespace Go.Proofs.YtjeiacoegppoiaaGreatDoor
/- THE CELL 'sum', in the pinned program and in every row, IS THE sha256 OF THE DUMP (.gsa) THAT YtjeiacoegppoiaaGreatDoorProg.lean LOADS. Nothing in Lean hashes anything: it is a label: what it is worth is what the hold of that sum in a sandbox is worth. -/
noncomputable def Tryz.pinned : Pinned := { name := "ytjeiacoegppoiaagreatdoor", sum := "1838844dde4d13e00d1c4507ef804f2f1aa210bf1bf69e7e07471ee767cc8c5f", checked := Tryz.checked }
namespace Rows
def none {H : Type} : Left H := { results := [], args := [] }

/- WHAT THE LISTED PACKAGE-LEVEL VARIABLES READ AS WHEN THE CALL BEGINS. Each datum BY PROGRAM (the guide's laid-datum.mjs) off the statement by which the dump's own 'gosem.cut.vars' lays the variable. In a bare row this is a premise. The card (YtjeiacoegppoiaaGreatDoorCards.lean) ties it to the program's text. -/
def laid_math_bits_deBruijn32tab {H : Type} : DataW H := .agg [.lit (.int .u8 0), .lit (.int .u8 1), .lit (.int .u8 28), .lit (.int .u8 2), .lit (.int .u8 29), .lit (.int .u8 14), .lit (.int .u8 24), .lit (.int .u8 3), .lit (.int .u8 30), .lit (.int .u8 22), .lit (.int .u8 20), .lit (.int .u8 15), .lit (.int .u8 25), .lit (.int .u8 17), .lit (.int .u8 4), .lit (.int .u8 8), .lit (.int .u8 31), .lit (.int .u8 27), .lit (.int .u8 13), .lit (.int .u8 23), .lit (.int .u8 21), .lit (.int .u8 19), .lit (.int .u8 16), .lit (.int .u8 7), .lit (.int .u8 26), .lit (.int .u8 12), .lit (.int .u8 18), .lit (.int .u8 6), .lit (.int .u8 11), .lit (.int .u8 5), .lit (.int .u8 10), .lit (.int .u8 9)]

/-- 'relucertlaw26.SymbolicBack': WHATEVER THE INPUT: true; the input reads as it did. -/
def symbolicBackSpec : ChangeSpec := { name := "symbolicBack", fn := fun _ => fun
  | [d1, d2, d3] => { results := [.lit (.bool true)], args := [d1, d2, d3] }
  | _ => none }
def symbolicBackRow : OpenClaim := { program := "ytjeiacoegppoiaagreatdoor", sum := "1838844dde4d13e00d1c4507ef804f2f1aa210bf1bf69e7e07471ee767cc8c5f", func := "relucert/relucertlaw26.SymbolicBack", spec := "symbolicBack", unfollowed := true, recurses := true, named := ["math/bits.deBruijn32tab"], apart := false, laid := [("math/bits.deBruijn32tab", laid_math_bits_deBruijn32tab)] }
def SymbolicBackSaid : Prop := symbolicBackRow.holds Tryz.pinned (OpenSpec.ofChange symbolicBackSpec)

/-- ITS FALSE NEIGHBOUR: 'it returns false'. Refute it at one input. -/
def symbolicBackWrong : ChangeSpec := { name := "symbolicBack", fn := fun _ => fun
  | [d1, d2, d3] => { results := [.lit (.bool false)], args := [d1, d2, d3] }
  | _ => none }
def SymbolicBackWrongFalsely : Prop := symbolicBackRow.holds Tryz.pinned (OpenSpec.ofChange symbolicBackWrong)

/-- 'relucertlaw26.SymbolicOther': WHATEVER THE INPUT: true; the input reads as it did. -/
def symbolicOtherSpec : ChangeSpec := { name := "symbolicOther", fn := fun _ => fun
  | [d1, d2] => { results := [.lit (.bool true)], args := [d1, d2] }
  | _ => none }
def symbolicOtherRow : OpenClaim := { program := "ytjeiacoegppoiaagreatdoor", sum := "1838844dde4d13e00d1c4507ef804f2f1aa210bf1bf69e7e07471ee767cc8c5f", func := "relucert/relucertlaw26.SymbolicOther", spec := "symbolicOther", unfollowed := true, recurses := true, named := ["math/bits.deBruijn32tab"], apart := false, laid := [("math/bits.deBruijn32tab", laid_math_bits_deBruijn32tab)] }
def SymbolicOtherSaid : Prop := symbolicOtherRow.holds Tryz.pinned (OpenSpec.ofChange symbolicOtherSpec)

/-- ITS FALSE NEIGHBOUR: 'it returns false'. Refute it at one input. -/
def symbolicOtherWrong : ChangeSpec := { name := "symbolicOther", fn := fun _ => fun
  | [d1, d2] => { results := [.lit (.bool false)], args := [d1, d2] }
  | _ => none }
def SymbolicOtherWrongFalsely : Prop := symbolicOtherRow.holds Tryz.pinned (OpenSpec.ofChange symbolicOtherWrong)

/-- 'relucertlaw26.SymbolicProves': WHATEVER THE INPUT: true; the input reads as it did. -/
def symbolicProvesSpec : ChangeSpec := { name := "symbolicProves", fn := fun _ => fun
  | [d1, d2] => { results := [.lit (.bool true)], args := [d1, d2] }
  | _ => none }
def symbolicProvesRow : OpenClaim := { program := "ytjeiacoegppoiaagreatdoor", sum := "1838844dde4d13e00d1c4507ef804f2f1aa210bf1bf69e7e07471ee767cc8c5f", func := "relucert/relucertlaw26.SymbolicProves", spec := "symbolicProves", unfollowed := true, recurses := true, named := ["math/bits.deBruijn32tab"], apart := false, laid := [("math/bits.deBruijn32tab", laid_math_bits_deBruijn32tab)] }
def SymbolicProvesSaid : Prop := symbolicProvesRow.holds Tryz.pinned (OpenSpec.ofChange symbolicProvesSpec)

/-- ITS FALSE NEIGHBOUR: 'it returns false'. Refute it at one input. -/
def symbolicProvesWrong : ChangeSpec := { name := "symbolicProves", fn := fun _ => fun
  | [d1, d2] => { results := [.lit (.bool false)], args := [d1, d2] }
  | _ => none }
def SymbolicProvesWrongFalsely : Prop := symbolicProvesRow.holds Tryz.pinned (OpenSpec.ofChange symbolicProvesWrong)

/-- 'relucertlaw26.SymbolicMember': WHATEVER THE INPUT: true; the input reads as it did. -/
def symbolicMemberSpec : ChangeSpec := { name := "symbolicMember", fn := fun _ => fun
  | [d1, d2, d3] => { results := [.lit (.bool true)], args := [d1, d2, d3] }
  | _ => none }
def symbolicMemberRow : OpenClaim := { program := "ytjeiacoegppoiaagreatdoor", sum := "1838844dde4d13e00d1c4507ef804f2f1aa210bf1bf69e7e07471ee767cc8c5f", func := "relucert/relucertlaw26.SymbolicMember", spec := "symbolicMember", unfollowed := true, recurses := true, named := ["math/bits.deBruijn32tab"], apart := false, laid := [("math/bits.deBruijn32tab", laid_math_bits_deBruijn32tab)] }
def SymbolicMemberSaid : Prop := symbolicMemberRow.holds Tryz.pinned (OpenSpec.ofChange symbolicMemberSpec)

/-- ITS FALSE NEIGHBOUR: 'it returns false'. Refute it at one input. -/
def symbolicMemberWrong : ChangeSpec := { name := "symbolicMember", fn := fun _ => fun
  | [d1, d2, d3] => { results := [.lit (.bool false)], args := [d1, d2, d3] }
  | _ => none }
def SymbolicMemberWrongFalsely : Prop := symbolicMemberRow.holds Tryz.pinned (OpenSpec.ofChange symbolicMemberWrong)

/-- 'relucertlaw26.SymbolicExact': WHATEVER THE INPUT: true; the input reads as it did. -/
def symbolicExactSpec : ChangeSpec := { name := "symbolicExact", fn := fun _ => fun
  | [d1, d2, d3, d4] => { results := [.lit (.bool true)], args := [d1, d2, d3, d4] }
  | _ => none }
def symbolicExactRow : OpenClaim := { program := "ytjeiacoegppoiaagreatdoor", sum := "1838844dde4d13e00d1c4507ef804f2f1aa210bf1bf69e7e07471ee767cc8c5f", func := "relucert/relucertlaw26.SymbolicExact", spec := "symbolicExact", unfollowed := true, recurses := true, named := ["math/bits.deBruijn32tab"], apart := false, laid := [("math/bits.deBruijn32tab", laid_math_bits_deBruijn32tab)] }
def SymbolicExactSaid : Prop := symbolicExactRow.holds Tryz.pinned (OpenSpec.ofChange symbolicExactSpec)

/-- ITS FALSE NEIGHBOUR: 'it returns false'. Refute it at one input. -/
def symbolicExactWrong : ChangeSpec := { name := "symbolicExact", fn := fun _ => fun
  | [d1, d2, d3, d4] => { results := [.lit (.bool false)], args := [d1, d2, d3, d4] }
  | _ => none }
def SymbolicExactWrongFalsely : Prop := symbolicExactRow.holds Tryz.pinned (OpenSpec.ofChange symbolicExactWrong)

/-- 'relucertlaw26.SymbolicLower': WHATEVER THE INPUT: true; the input reads as it did. -/
def symbolicLowerSpec : ChangeSpec := { name := "symbolicLower", fn := fun _ => fun
  | [d1, d2, d3] => { results := [.lit (.bool true)], args := [d1, d2, d3] }
  | _ => none }
def symbolicLowerRow : OpenClaim := { program := "ytjeiacoegppoiaagreatdoor", sum := "1838844dde4d13e00d1c4507ef804f2f1aa210bf1bf69e7e07471ee767cc8c5f", func := "relucert/relucertlaw26.SymbolicLower", spec := "symbolicLower", unfollowed := true, recurses := true, named := ["math/bits.deBruijn32tab"], apart := false, laid := [("math/bits.deBruijn32tab", laid_math_bits_deBruijn32tab)] }
def SymbolicLowerSaid : Prop := symbolicLowerRow.holds Tryz.pinned (OpenSpec.ofChange symbolicLowerSpec)

/-- ITS FALSE NEIGHBOUR: 'it returns false'. Refute it at one input. -/
def symbolicLowerWrong : ChangeSpec := { name := "symbolicLower", fn := fun _ => fun
  | [d1, d2, d3] => { results := [.lit (.bool false)], args := [d1, d2, d3] }
  | _ => none }
def SymbolicLowerWrongFalsely : Prop := symbolicLowerRow.holds Tryz.pinned (OpenSpec.ofChange symbolicLowerWrong)

/-- 'relucertlaw26.SymbolicRun': WHATEVER THE INPUT: true; the input reads as it did. -/
def symbolicRunSpec : ChangeSpec := { name := "symbolicRun", fn := fun _ => fun
  | [d1, d2, d3, d4] => { results := [.lit (.bool true)], args := [d1, d2, d3, d4] }
  | _ => none }
def symbolicRunRow : OpenClaim := { program := "ytjeiacoegppoiaagreatdoor", sum := "1838844dde4d13e00d1c4507ef804f2f1aa210bf1bf69e7e07471ee767cc8c5f", func := "relucert/relucertlaw26.SymbolicRun", spec := "symbolicRun", unfollowed := true, recurses := true, named := ["math/bits.deBruijn32tab"], apart := false, laid := [("math/bits.deBruijn32tab", laid_math_bits_deBruijn32tab)] }
def SymbolicRunSaid : Prop := symbolicRunRow.holds Tryz.pinned (OpenSpec.ofChange symbolicRunSpec)

/-- ITS FALSE NEIGHBOUR: 'it returns false'. Refute it at one input. -/
def symbolicRunWrong : ChangeSpec := { name := "symbolicRun", fn := fun _ => fun
  | [d1, d2, d3, d4] => { results := [.lit (.bool false)], args := [d1, d2, d3, d4] }
  | _ => none }
def SymbolicRunWrongFalsely : Prop := symbolicRunRow.holds Tryz.pinned (OpenSpec.ofChange symbolicRunWrong)

/-- 'relucertlaw26.SymbolicGet': WHATEVER THE INPUT: true; the input reads as it did. -/
def symbolicGetSpec : ChangeSpec := { name := "symbolicGet", fn := fun _ => fun
  | [d1, d2, d3] => { results := [.lit (.bool true)], args := [d1, d2, d3] }
  | _ => none }
def symbolicGetRow : OpenClaim := { program := "ytjeiacoegppoiaagreatdoor", sum := "1838844dde4d13e00d1c4507ef804f2f1aa210bf1bf69e7e07471ee767cc8c5f", func := "relucert/relucertlaw26.SymbolicGet", spec := "symbolicGet", unfollowed := true, recurses := true, named := ["math/bits.deBruijn32tab"], apart := false, laid := [("math/bits.deBruijn32tab", laid_math_bits_deBruijn32tab)] }
def SymbolicGetSaid : Prop := symbolicGetRow.holds Tryz.pinned (OpenSpec.ofChange symbolicGetSpec)

/-- ITS FALSE NEIGHBOUR: 'it returns false'. Refute it at one input. -/
def symbolicGetWrong : ChangeSpec := { name := "symbolicGet", fn := fun _ => fun
  | [d1, d2, d3] => { results := [.lit (.bool false)], args := [d1, d2, d3] }
  | _ => none }
def SymbolicGetWrongFalsely : Prop := symbolicGetRow.holds Tryz.pinned (OpenSpec.ofChange symbolicGetWrong)

/- THE SECOND FORM. 'bulk': how many values and letters a reading holds, each counted each time it is reached (what is shared counts as often as it is met; a slice's spare places count too). A statement '..UptoSaid' is the law's where the arguments, and the package variables that the reading takes, are together of bulk at most 1048576: NARROWER than '..Said'. Prove '..Said' where nothing that the law and all that it calls make is longer than what came in: it says more and counts as full. Else prove '..UptoSaid'. A law counts once. -/
mutual
def uptoBulk {H : Type} : DataW H → Nat
  | .lit (.string bytes) => bytes.length + 1
  | .lit _ => 1
  | .nil => 1
  | .ptr d => uptoBulk d + 1
  | .slice elems spare => uptoBulkAll elems + uptoBulkAll spare + 1
  | .agg parts => uptoBulkAll parts + 1
  | .iface _ d => uptoBulk d + 1
  | .map entries => uptoBulkEntries entries + 1
  | .held _ => 1
def uptoBulkAll {H : Type} : List (DataW H) → Nat
  | [] => 0
  | d :: r => uptoBulk d + uptoBulkAll r
def uptoBulkEntries {H : Type} : List (Lit × DataW H) → Nat
  | [] => 0
  | x :: r => uptoBulkEntry x + uptoBulkEntries r
def uptoBulkEntry {H : Type} : Lit × DataW H → Nat
  | (.string bytes, d) => bytes.length + uptoBulk d + 1
  | (_, d) => uptoBulk d + 1
 end
def uptoSmall : (H : Type) → List (DataW H) → Bool := fun _ ds => decide (uptoBulkAll ds ≤ 1048576)
def OpenSpec.upto (s : _root_.Go.ChangeSpec) : _root_.Go.OpenSpec := { _root_.Go.OpenSpec.ofChange s with cond := some uptoSmall }

/-- 'relucertlaw26.SymbolicBack', WHERE WHAT IT READS IS OF BULK AT MOST 1048576: true; the input reads as it did. -/
def symbolicBackUptoRow : OpenClaim := { program := "ytjeiacoegppoiaagreatdoor", sum := "1838844dde4d13e00d1c4507ef804f2f1aa210bf1bf69e7e07471ee767cc8c5f", func := "relucert/relucertlaw26.SymbolicBack", spec := "symbolicBack", unfollowed := true, recurses := true, named := ["math/bits.deBruijn32tab"], apart := false, laid := [("math/bits.deBruijn32tab", laid_math_bits_deBruijn32tab)], narrowed := true }
def SymbolicBackUptoSaid : Prop := symbolicBackUptoRow.holds Tryz.pinned (OpenSpec.upto symbolicBackSpec)

/-- 'relucertlaw26.SymbolicOther', WHERE WHAT IT READS IS OF BULK AT MOST 1048576: true; the input reads as it did. -/
def symbolicOtherUptoRow : OpenClaim := { program := "ytjeiacoegppoiaagreatdoor", sum := "1838844dde4d13e00d1c4507ef804f2f1aa210bf1bf69e7e07471ee767cc8c5f", func := "relucert/relucertlaw26.SymbolicOther", spec := "symbolicOther", unfollowed := true, recurses := true, named := ["math/bits.deBruijn32tab"], apart := false, laid := [("math/bits.deBruijn32tab", laid_math_bits_deBruijn32tab)], narrowed := true }
def SymbolicOtherUptoSaid : Prop := symbolicOtherUptoRow.holds Tryz.pinned (OpenSpec.upto symbolicOtherSpec)

/-- 'relucertlaw26.SymbolicProves', WHERE WHAT IT READS IS OF BULK AT MOST 1048576: true; the input reads as it did. -/
def symbolicProvesUptoRow : OpenClaim := { program := "ytjeiacoegppoiaagreatdoor", sum := "1838844dde4d13e00d1c4507ef804f2f1aa210bf1bf69e7e07471ee767cc8c5f", func := "relucert/relucertlaw26.SymbolicProves", spec := "symbolicProves", unfollowed := true, recurses := true, named := ["math/bits.deBruijn32tab"], apart := false, laid := [("math/bits.deBruijn32tab", laid_math_bits_deBruijn32tab)], narrowed := true }
def SymbolicProvesUptoSaid : Prop := symbolicProvesUptoRow.holds Tryz.pinned (OpenSpec.upto symbolicProvesSpec)

/-- 'relucertlaw26.SymbolicMember', WHERE WHAT IT READS IS OF BULK AT MOST 1048576: true; the input reads as it did. -/
def symbolicMemberUptoRow : OpenClaim := { program := "ytjeiacoegppoiaagreatdoor", sum := "1838844dde4d13e00d1c4507ef804f2f1aa210bf1bf69e7e07471ee767cc8c5f", func := "relucert/relucertlaw26.SymbolicMember", spec := "symbolicMember", unfollowed := true, recurses := true, named := ["math/bits.deBruijn32tab"], apart := false, laid := [("math/bits.deBruijn32tab", laid_math_bits_deBruijn32tab)], narrowed := true }
def SymbolicMemberUptoSaid : Prop := symbolicMemberUptoRow.holds Tryz.pinned (OpenSpec.upto symbolicMemberSpec)

/-- 'relucertlaw26.SymbolicExact', WHERE WHAT IT READS IS OF BULK AT MOST 1048576: true; the input reads as it did. -/
def symbolicExactUptoRow : OpenClaim := { program := "ytjeiacoegppoiaagreatdoor", sum := "1838844dde4d13e00d1c4507ef804f2f1aa210bf1bf69e7e07471ee767cc8c5f", func := "relucert/relucertlaw26.SymbolicExact", spec := "symbolicExact", unfollowed := true, recurses := true, named := ["math/bits.deBruijn32tab"], apart := false, laid := [("math/bits.deBruijn32tab", laid_math_bits_deBruijn32tab)], narrowed := true }
def SymbolicExactUptoSaid : Prop := symbolicExactUptoRow.holds Tryz.pinned (OpenSpec.upto symbolicExactSpec)

/-- 'relucertlaw26.SymbolicLower', WHERE WHAT IT READS IS OF BULK AT MOST 1048576: true; the input reads as it did. -/
def symbolicLowerUptoRow : OpenClaim := { program := "ytjeiacoegppoiaagreatdoor", sum := "1838844dde4d13e00d1c4507ef804f2f1aa210bf1bf69e7e07471ee767cc8c5f", func := "relucert/relucertlaw26.SymbolicLower", spec := "symbolicLower", unfollowed := true, recurses := true, named := ["math/bits.deBruijn32tab"], apart := false, laid := [("math/bits.deBruijn32tab", laid_math_bits_deBruijn32tab)], narrowed := true }
def SymbolicLowerUptoSaid : Prop := symbolicLowerUptoRow.holds Tryz.pinned (OpenSpec.upto symbolicLowerSpec)

/-- 'relucertlaw26.SymbolicRun', WHERE WHAT IT READS IS OF BULK AT MOST 1048576: true; the input reads as it did. -/
def symbolicRunUptoRow : OpenClaim := { program := "ytjeiacoegppoiaagreatdoor", sum := "1838844dde4d13e00d1c4507ef804f2f1aa210bf1bf69e7e07471ee767cc8c5f", func := "relucert/relucertlaw26.SymbolicRun", spec := "symbolicRun", unfollowed := true, recurses := true, named := ["math/bits.deBruijn32tab"], apart := false, laid := [("math/bits.deBruijn32tab", laid_math_bits_deBruijn32tab)], narrowed := true }
def SymbolicRunUptoSaid : Prop := symbolicRunUptoRow.holds Tryz.pinned (OpenSpec.upto symbolicRunSpec)

/-- 'relucertlaw26.SymbolicGet', WHERE WHAT IT READS IS OF BULK AT MOST 1048576: true; the input reads as it did. -/
def symbolicGetUptoRow : OpenClaim := { program := "ytjeiacoegppoiaagreatdoor", sum := "1838844dde4d13e00d1c4507ef804f2f1aa210bf1bf69e7e07471ee767cc8c5f", func := "relucert/relucertlaw26.SymbolicGet", spec := "symbolicGet", unfollowed := true, recurses := true, named := ["math/bits.deBruijn32tab"], apart := false, laid := [("math/bits.deBruijn32tab", laid_math_bits_deBruijn32tab)], narrowed := true }
def SymbolicGetUptoSaid : Prop := symbolicGetUptoRow.holds Tryz.pinned (OpenSpec.upto symbolicGetSpec)

end Rows
end Go.Proofs.YtjeiacoegppoiaaGreatDoor
