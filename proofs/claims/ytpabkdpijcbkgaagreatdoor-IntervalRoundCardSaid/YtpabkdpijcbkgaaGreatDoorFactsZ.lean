/- Closed facts for the opening of arguments. -/
import Derived.Test.YtpabkdpijcbkgaaGreatDoorFwZ
import Derived.Test.YtpabkdpijcbkgaaGreatDoorProg
import Derived.KernelRfl
set_option linter.unusedSimpArgs false
set_option linter.unusedVariables false
namespace Go.Proofs.YtpabkdpijcbkgaaGreatDoor
open Go Go.RowKit Rc


theorem own : ownKnob Tryz.prog.godebug = none := by kernel_rfl
theorem laidOut : laidOutB Tryz.prog = true := by kernel_rfl
theorem numTy : NumTy Tryz.prog 4 23 62 25 := ⟨by kernel_rfl, by kernel_rfl, by kernel_rfl, by kernel_rfl, by kernel_rfl, by kernel_rfl, by kernel_rfl, by kernel_rfl⟩
theorem fldI : fldL Tryz.prog 27 = some [(0, 25), (3, 25)] := by kernel_rfl
theorem cellsI : Tryz.prog.cellsOf 27 = 6 := by kernel_rfl
theorem und5 : Tryz.prog.underlying 5 = some (.int .u8) := by kernel_rfl
theorem und3 : Tryz.prog.underlying 3 = some (.int .i64) := by kernel_rfl
end Go.Proofs.YtpabkdpijcbkgaaGreatDoor
