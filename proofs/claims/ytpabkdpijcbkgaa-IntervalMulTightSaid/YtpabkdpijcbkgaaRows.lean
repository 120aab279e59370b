/-
  No cell of these rows narrows 'for every input' (looked for: loops, veiled, ifaces, maps, wideKeys, modest, calm, conditions, laid).
  DERIVED. THE GIVEN ROWS OF THIS SEAT. 6 by the template 'for every input the law returns true; each argument reads behind the call as it read before'; 0 by the template 'total and deterministic' (their statements: YtpabkdpijcbkgaaTotals.lean).
  GIVEN WITH THE SEED: the statements are not yours to turn. If you find one false, say at which input.
  Laid BY PROGRAM, IN A SANDBOX (cutbox-rows.mjs): the forced cells as the released guide's own fill.sh prints them over the translation d3e468a0dd6228e9… (all of the seat's roots in one cut). By AI agents, Wed Nov 11 2026. No macro, syntax, notation, axiom, sorry.
-/
import Derived.Test.YtpabkdpijcbkgaaChecked
import GoSem.Claim
import GoSem.ClaimJoined
import GoSem.ClaimMapViews
import Derived.JoinedTies
import Derived.KernelRfl
namespace Go.Proofs.Ytpabkdpijcbkgaa
/- THE CELL 'sum', in the pinned program and in every row, IS THE sha256 OF THE DUMP (.gsa) THAT YtpabkdpijcbkgaaProg.lean LOADS. Nothing in Lean hashes anything: it is a label: what it is worth is what the hold of that sum in a sandbox is worth. -/
noncomputable def Try.pinned : Pinned := { name := "ytpabkdpijcbkgaa", sum := "d3e468a0dd6228e9c0b32fd62677d1e2fa3eb3c4d4731df71a75392cef9ed351", checked := Try.checked }
namespace Rows
def none {H : Type} : Left H := { results := [], args := [] }

/-- 'relucertlaw06.IntervalMul': WHATEVER THE INPUT: true; the input reads as it did. -/
def intervalMulSpec : ChangeSpec := { name := "intervalMul", fn := fun _ => fun
  | [d1, d2, d3] => { results := [.lit (.bool true)], args := [d1, d2, d3] }
  | _ => none }
def intervalMulRow : OpenClaim := { program := "ytpabkdpijcbkgaa", sum := "d3e468a0dd6228e9c0b32fd62677d1e2fa3eb3c4d4731df71a75392cef9ed351", func := "relucert/relucertlaw06.IntervalMul", spec := "intervalMul", apart := false }
def IntervalMulSaid : Prop := intervalMulRow.holds Try.pinned (OpenSpec.ofChange intervalMulSpec)

/-- ITS FALSE NEIGHBOUR: 'it returns false'. Refute it at one input. -/
def intervalMulWrong : ChangeSpec := { name := "intervalMul", fn := fun _ => fun
  | [d1, d2, d3] => { results := [.lit (.bool false)], args := [d1, d2, d3] }
  | _ => none }
def IntervalMulWrongFalsely : Prop := intervalMulRow.holds Try.pinned (OpenSpec.ofChange intervalMulWrong)

/-- 'relucertlaw06.IntervalMulTight': WHATEVER THE INPUT: true; the input reads as it did. -/
def intervalMulTightSpec : ChangeSpec := { name := "intervalMulTight", fn := fun _ => fun
  | [d1, d2] => { results := [.lit (.bool true)], args := [d1, d2] }
  | _ => none }
def intervalMulTightRow : OpenClaim := { program := "ytpabkdpijcbkgaa", sum := "d3e468a0dd6228e9c0b32fd62677d1e2fa3eb3c4d4731df71a75392cef9ed351", func := "relucert/relucertlaw06.IntervalMulTight", spec := "intervalMulTight", apart := false }
def IntervalMulTightSaid : Prop := intervalMulTightRow.holds Try.pinned (OpenSpec.ofChange intervalMulTightSpec)

/-- ITS FALSE NEIGHBOUR: 'it returns false'. Refute it at one input. -/
def intervalMulTightWrong : ChangeSpec := { name := "intervalMulTight", fn := fun _ => fun
  | [d1, d2] => { results := [.lit (.bool false)], args := [d1, d2] }
  | _ => none }
def IntervalMulTightWrongFalsely : Prop := intervalMulTightRow.holds Try.pinned (OpenSpec.ofChange intervalMulTightWrong)

/-- 'relucertlaw06.IntervalJoin': WHATEVER THE INPUT: true; the input reads as it did. -/
def intervalJoinSpec : ChangeSpec := { name := "intervalJoin", fn := fun _ => fun
  | [d1, d2, d3] => { results := [.lit (.bool true)], args := [d1, d2, d3] }
  | _ => none }
def intervalJoinRow : OpenClaim := { program := "ytpabkdpijcbkgaa", sum := "d3e468a0dd6228e9c0b32fd62677d1e2fa3eb3c4d4731df71a75392cef9ed351", func := "relucert/relucertlaw06.IntervalJoin", spec := "intervalJoin", apart := false }
def IntervalJoinSaid : Prop := intervalJoinRow.holds Try.pinned (OpenSpec.ofChange intervalJoinSpec)

/-- ITS FALSE NEIGHBOUR: 'it returns false'. Refute it at one input. -/
def intervalJoinWrong : ChangeSpec := { name := "intervalJoin", fn := fun _ => fun
  | [d1, d2, d3] => { results := [.lit (.bool false)], args := [d1, d2, d3] }
  | _ => none }
def IntervalJoinWrongFalsely : Prop := intervalJoinRow.holds Try.pinned (OpenSpec.ofChange intervalJoinWrong)

/-- 'relucertlaw06.IntervalMake': WHATEVER THE INPUT: true; the input reads as it did. -/
def intervalMakeSpec : ChangeSpec := { name := "intervalMake", fn := fun _ => fun
  | [d1, d2, d3] => { results := [.lit (.bool true)], args := [d1, d2, d3] }
  | _ => none }
def intervalMakeRow : OpenClaim := { program := "ytpabkdpijcbkgaa", sum := "d3e468a0dd6228e9c0b32fd62677d1e2fa3eb3c4d4731df71a75392cef9ed351", func := "relucert/relucertlaw06.IntervalMake", spec := "intervalMake", apart := false }
def IntervalMakeSaid : Prop := intervalMakeRow.holds Try.pinned (OpenSpec.ofChange intervalMakeSpec)

/-- ITS FALSE NEIGHBOUR: 'it returns false'. Refute it at one input. -/
def intervalMakeWrong : ChangeSpec := { name := "intervalMake", fn := fun _ => fun
  | [d1, d2, d3] => { results := [.lit (.bool false)], args := [d1, d2, d3] }
  | _ => none }
def IntervalMakeWrongFalsely : Prop := intervalMakeRow.holds Try.pinned (OpenSpec.ofChange intervalMakeWrong)

/-- 'relucertlaw06.IntervalInclusion': WHATEVER THE INPUT: true; the input reads as it did. -/
def intervalInclusionSpec : ChangeSpec := { name := "intervalInclusion", fn := fun _ => fun
  | [d1, d2, d3] => { results := [.lit (.bool true)], args := [d1, d2, d3] }
  | _ => none }
def intervalInclusionRow : OpenClaim := { program := "ytpabkdpijcbkgaa", sum := "d3e468a0dd6228e9c0b32fd62677d1e2fa3eb3c4d4731df71a75392cef9ed351", func := "relucert/relucertlaw06.IntervalInclusion", spec := "intervalInclusion", apart := false }
def IntervalInclusionSaid : Prop := intervalInclusionRow.holds Try.pinned (OpenSpec.ofChange intervalInclusionSpec)

/-- ITS FALSE NEIGHBOUR: 'it returns false'. Refute it at one input. -/
def intervalInclusionWrong : ChangeSpec := { name := "intervalInclusion", fn := fun _ => fun
  | [d1, d2, d3] => { results := [.lit (.bool false)], args := [d1, d2, d3] }
  | _ => none }
def IntervalInclusionWrongFalsely : Prop := intervalInclusionRow.holds Try.pinned (OpenSpec.ofChange intervalInclusionWrong)

/-- 'relucertlaw06.IntervalSum': WHATEVER THE INPUT: true; the input reads as it did. -/
def intervalSumSpec : ChangeSpec := { name := "intervalSum", fn := fun _ => fun
  | [d1, d2, d3] => { results := [.lit (.bool true)], args := [d1, d2, d3] }
  | _ => none }
def intervalSumRow : OpenClaim := { program := "ytpabkdpijcbkgaa", sum := "d3e468a0dd6228e9c0b32fd62677d1e2fa3eb3c4d4731df71a75392cef9ed351", func := "relucert/relucertlaw06.IntervalSum", spec := "intervalSum", apart := false }
def IntervalSumSaid : Prop := intervalSumRow.holds Try.pinned (OpenSpec.ofChange intervalSumSpec)

/-- ITS FALSE NEIGHBOUR: 'it returns false'. Refute it at one input. -/
def intervalSumWrong : ChangeSpec := { name := "intervalSum", fn := fun _ => fun
  | [d1, d2, d3] => { results := [.lit (.bool false)], args := [d1, d2, d3] }
  | _ => none }
def IntervalSumWrongFalsely : Prop := intervalSumRow.holds Try.pinned (OpenSpec.ofChange intervalSumWrong)

/- THE SECOND FORM. 'bulk': how many values and letters a reading holds, each counted each time it is reached (what is shared counts as often as it is met; a slice's spare places count too). A statement '..UptoSaid' is the law's where the arguments, and the package variables that the reading takes, are together of bulk at most 1048576: NARROWER than '..Said'. Prove '..Said' where nothing that the law and all that it calls make is longer than what came in: it says more and counts as full. Else prove '..UptoSaid'. A law counts once. -/
mutual
def uptoBulk {H : Type} : DataW H → Nat
  | .lit (.string bytes) => bytes.length + 1
  | .lit _ => 1
  | .nil => 1
  | .ptr d => uptoBulk d + 1
  | .slice elems spare => uptoBulkAll elems + uptoBulkAll spare + 1
  | .agg parts => uptoBulkAll parts + 1
  | .iface _ d => uptoBulk d + 1
  | .map entries => uptoBulkEntries entries + 1
  | .held _ => 1
def uptoBulkAll {H : Type} : List (DataW H) → Nat
  | [] => 0
  | d :: r => uptoBulk d + uptoBulkAll r
def uptoBulkEntries {H : Type} : List (Lit × DataW H) → Nat
  | [] => 0
  | x :: r => uptoBulkEntry x + uptoBulkEntries r
def uptoBulkEntry {H : Type} : Lit × DataW H → Nat
  | (.string bytes, d) => bytes.length + uptoBulk d + 1
  | (_, d) => uptoBulk d + 1
 end
def uptoSmall : (H : Type) → List (DataW H) → Bool := fun _ ds => decide (uptoBulkAll ds ≤ 1048576)
def OpenSpec.upto (s : _root_.Go.ChangeSpec) : _root_.Go.OpenSpec := { _root_.Go.OpenSpec.ofChange s with cond := some uptoSmall }

/-- 'relucertlaw06.IntervalMul', WHERE WHAT IT READS IS OF BULK AT MOST 1048576: true; the input reads as it did. -/
def intervalMulUptoRow : OpenClaim := { program := "ytpabkdpijcbkgaa", sum := "d3e468a0dd6228e9c0b32fd62677d1e2fa3eb3c4d4731df71a75392cef9ed351", func := "relucert/relucertlaw06.IntervalMul", spec := "intervalMul", apart := false, narrowed := true }
def IntervalMulUptoSaid : Prop := intervalMulUptoRow.holds Try.pinned (OpenSpec.upto intervalMulSpec)

/-- 'relucertlaw06.IntervalMulTight', WHERE WHAT IT READS IS OF BULK AT MOST 1048576: true; the input reads as it did. -/
def intervalMulTightUptoRow : OpenClaim := { program := "ytpabkdpijcbkgaa", sum := "d3e468a0dd6228e9c0b32fd62677d1e2fa3eb3c4d4731df71a75392cef9ed351", func := "relucert/relucertlaw06.IntervalMulTight", spec := "intervalMulTight", apart := false, narrowed := true }
def IntervalMulTightUptoSaid : Prop := intervalMulTightUptoRow.holds Try.pinned (OpenSpec.upto intervalMulTightSpec)

/-- 'relucertlaw06.IntervalJoin', WHERE WHAT IT READS IS OF BULK AT MOST 1048576: true; the input reads as it did. -/
def intervalJoinUptoRow : OpenClaim := { program := "ytpabkdpijcbkgaa", sum := "d3e468a0dd6228e9c0b32fd62677d1e2fa3eb3c4d4731df71a75392cef9ed351", func := "relucert/relucertlaw06.IntervalJoin", spec := "intervalJoin", apart := false, narrowed := true }
def IntervalJoinUptoSaid : Prop := intervalJoinUptoRow.holds Try.pinned (OpenSpec.upto intervalJoinSpec)

/-- 'relucertlaw06.IntervalMake', WHERE WHAT IT READS IS OF BULK AT MOST 1048576: true; the input reads as it did. -/
def intervalMakeUptoRow : OpenClaim := { program := "ytpabkdpijcbkgaa", sum := "d3e468a0dd6228e9c0b32fd62677d1e2fa3eb3c4d4731df71a75392cef9ed351", func := "relucert/relucertlaw06.IntervalMake", spec := "intervalMake", apart := false, narrowed := true }
def IntervalMakeUptoSaid : Prop := intervalMakeUptoRow.holds Try.pinned (OpenSpec.upto intervalMakeSpec)

/-- 'relucertlaw06.IntervalInclusion', WHERE WHAT IT READS IS OF BULK AT MOST 1048576: true; the input reads as it did. -/
def intervalInclusionUptoRow : OpenClaim := { program := "ytpabkdpijcbkgaa", sum := "d3e468a0dd6228e9c0b32fd62677d1e2fa3eb3c4d4731df71a75392cef9ed351", func := "relucert/relucertlaw06.IntervalInclusion", spec := "intervalInclusion", apart := false, narrowed := true }
def IntervalInclusionUptoSaid : Prop := intervalInclusionUptoRow.holds Try.pinned (OpenSpec.upto intervalInclusionSpec)

/-- 'relucertlaw06.IntervalSum', WHERE WHAT IT READS IS OF BULK AT MOST 1048576: true; the input reads as it did. -/
def intervalSumUptoRow : OpenClaim := { program := "ytpabkdpijcbkgaa", sum := "d3e468a0dd6228e9c0b32fd62677d1e2fa3eb3c4d4731df71a75392cef9ed351", func := "relucert/relucertlaw06.IntervalSum", spec := "intervalSum", apart := false, narrowed := true }
def IntervalSumUptoSaid : Prop := intervalSumUptoRow.holds Try.pinned (OpenSpec.upto intervalSumSpec)

end Rows
end Go.Proofs.Ytpabkdpijcbkgaa
