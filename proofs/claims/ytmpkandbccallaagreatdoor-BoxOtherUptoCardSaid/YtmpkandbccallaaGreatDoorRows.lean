/-
  NARROWER THAN 'FOR EVERY INPUT', by the rows' own cells (each row's printed sentence says how): BoxOther: laid · BoxProves: laid · BoxMember: laid · BoxInputs: laid · BoxGrows: laid · BoxRun: laid · BoxLower: laid.
  DERIVED. THE GIVEN ROWS OF THIS SEAT. 7 by the template 'for every input the law returns true; each argument reads behind the call as it read before'; 0 by the template 'total and deterministic' (their statements: YtmpkandbccallaaGreatDoorTotals.lean).
  GIVEN WITH THE SEED: the statements are not yours to turn. If you find one false, say at which input.
  Laid BY PROGRAM, IN A SANDBOX (cutbox-rows.mjs): the forced cells as the released guide's own fill.sh prints them over the translation d2ca2d675739834b… (all of the seat's roots in one cut). By AI agents, Wed Nov 11 2026. No macro, syntax, notation, axiom, sorry.
-/
import Derived.Test.YtmpkandbccallaaGreatDoorChecked
import GoSem.Claim
import GoSem.ClaimJoined
import GoSem.ClaimMapViews
import Derived.JoinedTies
import Derived.KernelRfl
namespace Go.Proofs.YtmpkandbccallaaGreatDoor
/- THE CELL 'sum', in the pinned program and in every row, IS THE sha256 OF THE DUMP (.gsa) THAT YtmpkandbccallaaGreatDoorProg.lean LOADS. Nothing in Lean hashes anything: it is a label: what it is worth is what the hold of that sum in a sandbox is worth. -/
noncomputable def Tryz.pinned : Pinned := { name := "ytmpkandbccallaagreatdoor", sum := "d2ca2d675739834bef9a01add43a4c74c35c805e3110db50a13992992e024f52", checked := Tryz.checked }
namespace Rows
def none {H : Type} : Left H := { results := [], args := [] }

/- WHAT THE LISTED PACKAGE-LEVEL VARIABLES READ AS WHEN THE CALL BEGINS. Each datum BY PROGRAM (the guide's laid-datum.mjs) off the statement by which the dump's own 'gosem.cut.vars' lays the variable. In a bare row this is a premise. The card (YtmpkandbccallaaGreatDoorCards.lean) ties it to the program's text. -/
def laid_math_bits_deBruijn32tab {H : Type} : DataW H := .agg [.lit (.int .u8 0), .lit (.int .u8 1), .lit (.int .u8 28), .lit (.int .u8 2), .lit (.int .u8 29), .lit (.int .u8 14), .lit (.int .u8 24), .lit (.int .u8 3), .lit (.int .u8 30), .lit (.int .u8 22), .lit (.int .u8 20), .lit (.int .u8 15), .lit (.int .u8 25), .lit (.int .u8 17), .lit (.int .u8 4), .lit (.int .u8 8), .lit (.int .u8 31), .lit (.int .u8 27), .lit (.int .u8 13), .lit (.int .u8 23), .lit (.int .u8 21), .lit (.int .u8 19), .lit (.int .u8 16), .lit (.int .u8 7), .lit (.int .u8 26), .lit (.int .u8 12), .lit (.int .u8 18), .lit (.int .u8 6), .lit (.int .u8 11), .lit (.int .u8 5), .lit (.int .u8 10), .lit (.int .u8 9)]

/-- 'relucertlaw24.BoxOther': WHATEVER THE INPUT: true; the input reads as it did. -/
def boxOtherSpec : ChangeSpec := { name := "boxOther", fn := fun _ => fun
  | [d1, d2] => { results := [.lit (.bool true)], args := [d1, d2] }
  | _ => none }
def boxOtherRow : OpenClaim := { program := "ytmpkandbccallaagreatdoor", sum := "d2ca2d675739834bef9a01add43a4c74c35c805e3110db50a13992992e024f52", func := "relucert/relucertlaw24.BoxOther", spec := "boxOther", unfollowed := true, recurses := true, named := ["math/bits.deBruijn32tab"], apart := false, laid := [("math/bits.deBruijn32tab", laid_math_bits_deBruijn32tab)] }
def BoxOtherSaid : Prop := boxOtherRow.holds Tryz.pinned (OpenSpec.ofChange boxOtherSpec)

/-- ITS FALSE NEIGHBOUR: 'it returns false'. Refute it at one input. -/
def boxOtherWrong : ChangeSpec := { name := "boxOther", fn := fun _ => fun
  | [d1, d2] => { results := [.lit (.bool false)], args := [d1, d2] }
  | _ => none }
def BoxOtherWrongFalsely : Prop := boxOtherRow.holds Tryz.pinned (OpenSpec.ofChange boxOtherWrong)

/-- 'relucertlaw24.BoxProves': WHATEVER THE INPUT: true; the input reads as it did. -/
def boxProvesSpec : ChangeSpec := { name := "boxProves", fn := fun _ => fun
  | [d1, d2] => { results := [.lit (.bool true)], args := [d1, d2] }
  | _ => none }
def boxProvesRow : OpenClaim := { program := "ytmpkandbccallaagreatdoor", sum := "d2ca2d675739834bef9a01add43a4c74c35c805e3110db50a13992992e024f52", func := "relucert/relucertlaw24.BoxProves", spec := "boxProves", unfollowed := true, recurses := true, named := ["math/bits.deBruijn32tab"], apart := false, laid := [("math/bits.deBruijn32tab", laid_math_bits_deBruijn32tab)] }
def BoxProvesSaid : Prop := boxProvesRow.holds Tryz.pinned (OpenSpec.ofChange boxProvesSpec)

/-- ITS FALSE NEIGHBOUR: 'it returns false'. Refute it at one input. -/
def boxProvesWrong : ChangeSpec := { name := "boxProves", fn := fun _ => fun
  | [d1, d2] => { results := [.lit (.bool false)], args := [d1, d2] }
  | _ => none }
def BoxProvesWrongFalsely : Prop := boxProvesRow.holds Tryz.pinned (OpenSpec.ofChange boxProvesWrong)

/-- 'relucertlaw24.BoxMember': WHATEVER THE INPUT: true; the input reads as it did. -/
def boxMemberSpec : ChangeSpec := { name := "boxMember", fn := fun _ => fun
  | [d1, d2, d3] => { results := [.lit (.bool true)], args := [d1, d2, d3] }
  | _ => none }
def boxMemberRow : OpenClaim := { program := "ytmpkandbccallaagreatdoor", sum := "d2ca2d675739834bef9a01add43a4c74c35c805e3110db50a13992992e024f52", func := "relucert/relucertlaw24.BoxMember", spec := "boxMember", unfollowed := true, recurses := true, named := ["math/bits.deBruijn32tab"], apart := false, laid := [("math/bits.deBruijn32tab", laid_math_bits_deBruijn32tab)] }
def BoxMemberSaid : Prop := boxMemberRow.holds Tryz.pinned (OpenSpec.ofChange boxMemberSpec)

/-- ITS FALSE NEIGHBOUR: 'it returns false'. Refute it at one input. -/
def boxMemberWrong : ChangeSpec := { name := "boxMember", fn := fun _ => fun
  | [d1, d2, d3] => { results := [.lit (.bool false)], args := [d1, d2, d3] }
  | _ => none }
def BoxMemberWrongFalsely : Prop := boxMemberRow.holds Tryz.pinned (OpenSpec.ofChange boxMemberWrong)

/-- 'relucertlaw24.BoxInputs': WHATEVER THE INPUT: true; the input reads as it did. -/
def boxInputsSpec : ChangeSpec := { name := "boxInputs", fn := fun _ => fun
  | [d1, d2] => { results := [.lit (.bool true)], args := [d1, d2] }
  | _ => none }
def boxInputsRow : OpenClaim := { program := "ytmpkandbccallaagreatdoor", sum := "d2ca2d675739834bef9a01add43a4c74c35c805e3110db50a13992992e024f52", func := "relucert/relucertlaw24.BoxInputs", spec := "boxInputs", unfollowed := true, recurses := true, named := ["math/bits.deBruijn32tab"], apart := false, laid := [("math/bits.deBruijn32tab", laid_math_bits_deBruijn32tab)] }
def BoxInputsSaid : Prop := boxInputsRow.holds Tryz.pinned (OpenSpec.ofChange boxInputsSpec)

/-- ITS FALSE NEIGHBOUR: 'it returns false'. Refute it at one input. -/
def boxInputsWrong : ChangeSpec := { name := "boxInputs", fn := fun _ => fun
  | [d1, d2] => { results := [.lit (.bool false)], args := [d1, d2] }
  | _ => none }
def BoxInputsWrongFalsely : Prop := boxInputsRow.holds Tryz.pinned (OpenSpec.ofChange boxInputsWrong)

/-- 'relucertlaw24.BoxGrows': WHATEVER THE INPUT: true; the input reads as it did. -/
def boxGrowsSpec : ChangeSpec := { name := "boxGrows", fn := fun _ => fun
  | [d1, d2, d3] => { results := [.lit (.bool true)], args := [d1, d2, d3] }
  | _ => none }
def boxGrowsRow : OpenClaim := { program := "ytmpkandbccallaagreatdoor", sum := "d2ca2d675739834bef9a01add43a4c74c35c805e3110db50a13992992e024f52", func := "relucert/relucertlaw24.BoxGrows", spec := "boxGrows", unfollowed := true, recurses := true, named := ["math/bits.deBruijn32tab"], apart := false, laid := [("math/bits.deBruijn32tab", laid_math_bits_deBruijn32tab)] }
def BoxGrowsSaid : Prop := boxGrowsRow.holds Tryz.pinned (OpenSpec.ofChange boxGrowsSpec)

/-- ITS FALSE NEIGHBOUR: 'it returns false'. Refute it at one input. -/
def boxGrowsWrong : ChangeSpec := { name := "boxGrows", fn := fun _ => fun
  | [d1, d2, d3] => { results := [.lit (.bool false)], args := [d1, d2, d3] }
  | _ => none }
def BoxGrowsWrongFalsely : Prop := boxGrowsRow.holds Tryz.pinned (OpenSpec.ofChange boxGrowsWrong)

/-- 'relucertlaw24.BoxRun': WHATEVER THE INPUT: true; the input reads as it did. -/
def boxRunSpec : ChangeSpec := { name := "boxRun", fn := fun _ => fun
  | [d1, d2, d3] => { results := [.lit (.bool true)], args := [d1, d2, d3] }
  | _ => none }
def boxRunRow : OpenClaim := { program := "ytmpkandbccallaagreatdoor", sum := "d2ca2d675739834bef9a01add43a4c74c35c805e3110db50a13992992e024f52", func := "relucert/relucertlaw24.BoxRun", spec := "boxRun", unfollowed := true, recurses := true, named := ["math/bits.deBruijn32tab"], apart := false, laid := [("math/bits.deBruijn32tab", laid_math_bits_deBruijn32tab)] }
def BoxRunSaid : Prop := boxRunRow.holds Tryz.pinned (OpenSpec.ofChange boxRunSpec)

/-- ITS FALSE NEIGHBOUR: 'it returns false'. Refute it at one input. -/
def boxRunWrong : ChangeSpec := { name := "boxRun", fn := fun _ => fun
  | [d1, d2, d3] => { results := [.lit (.bool false)], args := [d1, d2, d3] }
  | _ => none }
def BoxRunWrongFalsely : Prop := boxRunRow.holds Tryz.pinned (OpenSpec.ofChange boxRunWrong)

/-- 'relucertlaw24.BoxLower': WHATEVER THE INPUT: true; the input reads as it did. -/
def boxLowerSpec : ChangeSpec := { name := "boxLower", fn := fun _ => fun
  | [d1, d2, d3] => { results := [.lit (.bool true)], args := [d1, d2, d3] }
  | _ => none }
def boxLowerRow : OpenClaim := { program := "ytmpkandbccallaagreatdoor", sum := "d2ca2d675739834bef9a01add43a4c74c35c805e3110db50a13992992e024f52", func := "relucert/relucertlaw24.BoxLower", spec := "boxLower", unfollowed := true, recurses := true, named := ["math/bits.deBruijn32tab"], apart := false, laid := [("math/bits.deBruijn32tab", laid_math_bits_deBruijn32tab)] }
def BoxLowerSaid : Prop := boxLowerRow.holds Tryz.pinned (OpenSpec.ofChange boxLowerSpec)

/-- ITS FALSE NEIGHBOUR: 'it returns false'. Refute it at one input. -/
def boxLowerWrong : ChangeSpec := { name := "boxLower", fn := fun _ => fun
  | [d1, d2, d3] => { results := [.lit (.bool false)], args := [d1, d2, d3] }
  | _ => none }
def BoxLowerWrongFalsely : Prop := boxLowerRow.holds Tryz.pinned (OpenSpec.ofChange boxLowerWrong)

/- THE SECOND FORM. 'bulk': how many values and letters a reading holds, each counted each time it is reached (what is shared counts as often as it is met; a slice's spare places count too). A statement '..UptoSaid' is the law's where the arguments, and the package variables that the reading takes, are together of bulk at most 1048576: NARROWER than '..Said'. Prove '..Said' where nothing that the law and all that it calls make is longer than what came in: it says more and counts as full. Else prove '..UptoSaid'. A law counts once. -/
mutual
def uptoBulk {H : Type} : DataW H → Nat
  | .lit (.string bytes) => bytes.length + 1
  | .lit _ => 1
  | .nil => 1
  | .ptr d => uptoBulk d + 1
  | .slice elems spare => uptoBulkAll elems + uptoBulkAll spare + 1
  | .agg parts => uptoBulkAll parts + 1
  | .iface _ d => uptoBulk d + 1
  | .map entries => uptoBulkEntries entries + 1
  | .held _ => 1
def uptoBulkAll {H : Type} : List (DataW H) → Nat
  | [] => 0
  | d :: r => uptoBulk d + uptoBulkAll r
def uptoBulkEntries {H : Type} : List (Lit × DataW H) → Nat
  | [] => 0
  | x :: r => uptoBulkEntry x + uptoBulkEntries r
def uptoBulkEntry {H : Type} : Lit × DataW H → Nat
  | (.string bytes, d) => bytes.length + uptoBulk d + 1
  | (_, d) => uptoBulk d + 1
 end
def uptoSmall : (H : Type) → List (DataW H) → Bool := fun _ ds => decide (uptoBulkAll ds ≤ 1048576)
def OpenSpec.upto (s : _root_.Go.ChangeSpec) : _root_.Go.OpenSpec := { _root_.Go.OpenSpec.ofChange s with cond := some uptoSmall }

/-- 'relucertlaw24.BoxOther', WHERE WHAT IT READS IS OF BULK AT MOST 1048576: true; the input reads as it did. -/
def boxOtherUptoRow : OpenClaim := { program := "ytmpkandbccallaagreatdoor", sum := "d2ca2d675739834bef9a01add43a4c74c35c805e3110db50a13992992e024f52", func := "relucert/relucertlaw24.BoxOther", spec := "boxOther", unfollowed := true, recurses := true, named := ["math/bits.deBruijn32tab"], apart := false, laid := [("math/bits.deBruijn32tab", laid_math_bits_deBruijn32tab)], narrowed := true }
def BoxOtherUptoSaid : Prop := boxOtherUptoRow.holds Tryz.pinned (OpenSpec.upto boxOtherSpec)

/-- 'relucertlaw24.BoxProves', WHERE WHAT IT READS IS OF BULK AT MOST 1048576: true; the input reads as it did. -/
def boxProvesUptoRow : OpenClaim := { program := "ytmpkandbccallaagreatdoor", sum := "d2ca2d675739834bef9a01add43a4c74c35c805e3110db50a13992992e024f52", func := "relucert/relucertlaw24.BoxProves", spec := "boxProves", unfollowed := true, recurses := true, named := ["math/bits.deBruijn32tab"], apart := false, laid := [("math/bits.deBruijn32tab", laid_math_bits_deBruijn32tab)], narrowed := true }
def BoxProvesUptoSaid : Prop := boxProvesUptoRow.holds Tryz.pinned (OpenSpec.upto boxProvesSpec)

/-- 'relucertlaw24.BoxMember', WHERE WHAT IT READS IS OF BULK AT MOST 1048576: true; the input reads as it did. -/
def boxMemberUptoRow : OpenClaim := { program := "ytmpkandbccallaagreatdoor", sum := "d2ca2d675739834bef9a01add43a4c74c35c805e3110db50a13992992e024f52", func := "relucert/relucertlaw24.BoxMember", spec := "boxMember", unfollowed := true, recurses := true, named := ["math/bits.deBruijn32tab"], apart := false, laid := [("math/bits.deBruijn32tab", laid_math_bits_deBruijn32tab)], narrowed := true }
def BoxMemberUptoSaid : Prop := boxMemberUptoRow.holds Tryz.pinned (OpenSpec.upto boxMemberSpec)

/-- 'relucertlaw24.BoxInputs', WHERE WHAT IT READS IS OF BULK AT MOST 1048576: true; the input reads as it did. -/
def boxInputsUptoRow : OpenClaim := { program := "ytmpkandbccallaagreatdoor", sum := "d2ca2d675739834bef9a01add43a4c74c35c805e3110db50a13992992e024f52", func := "relucert/relucertlaw24.BoxInputs", spec := "boxInputs", unfollowed := true, recurses := true, named := ["math/bits.deBruijn32tab"], apart := false, laid := [("math/bits.deBruijn32tab", laid_math_bits_deBruijn32tab)], narrowed := true }
def BoxInputsUptoSaid : Prop := boxInputsUptoRow.holds Tryz.pinned (OpenSpec.upto boxInputsSpec)

/-- 'relucertlaw24.BoxGrows', WHERE WHAT IT READS IS OF BULK AT MOST 1048576: true; the input reads as it did. -/
def boxGrowsUptoRow : OpenClaim := { program := "ytmpkandbccallaagreatdoor", sum := "d2ca2d675739834bef9a01add43a4c74c35c805e3110db50a13992992e024f52", func := "relucert/relucertlaw24.BoxGrows", spec := "boxGrows", unfollowed := true, recurses := true, named := ["math/bits.deBruijn32tab"], apart := false, laid := [("math/bits.deBruijn32tab", laid_math_bits_deBruijn32tab)], narrowed := true }
def BoxGrowsUptoSaid : Prop := boxGrowsUptoRow.holds Tryz.pinned (OpenSpec.upto boxGrowsSpec)

/-- 'relucertlaw24.BoxRun', WHERE WHAT IT READS IS OF BULK AT MOST 1048576: true; the input reads as it did. -/
def boxRunUptoRow : OpenClaim := { program := "ytmpkandbccallaagreatdoor", sum := "d2ca2d675739834bef9a01add43a4c74c35c805e3110db50a13992992e024f52", func := "relucert/relucertlaw24.BoxRun", spec := "boxRun", unfollowed := true, recurses := true, named := ["math/bits.deBruijn32tab"], apart := false, laid := [("math/bits.deBruijn32tab", laid_math_bits_deBruijn32tab)], narrowed := true }
def BoxRunUptoSaid : Prop := boxRunUptoRow.holds Tryz.pinned (OpenSpec.upto boxRunSpec)

/-- 'relucertlaw24.BoxLower', WHERE WHAT IT READS IS OF BULK AT MOST 1048576: true; the input reads as it did. -/
def boxLowerUptoRow : OpenClaim := { program := "ytmpkandbccallaagreatdoor", sum := "d2ca2d675739834bef9a01add43a4c74c35c805e3110db50a13992992e024f52", func := "relucert/relucertlaw24.BoxLower", spec := "boxLower", unfollowed := true, recurses := true, named := ["math/bits.deBruijn32tab"], apart := false, laid := [("math/bits.deBruijn32tab", laid_math_bits_deBruijn32tab)], narrowed := true }
def BoxLowerUptoSaid : Prop := boxLowerUptoRow.holds Tryz.pinned (OpenSpec.upto boxLowerSpec)

end Rows
end Go.Proofs.YtmpkandbccallaaGreatDoor
