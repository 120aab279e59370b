/- Closed facts for the opening of arguments. -/
import Derived.Test.YtpabkdpijcbkgaaDoorFwZ
import Derived.Test.YtpabkdpijcbkgaaDoorProg
import Derived.KernelRfl
set_option linter.unusedSimpArgs false
set_option linter.unusedVariables false
namespace Go.Proofs.YtpabkdpijcbkgaaDoor
open Go Go.RowKit Rc


theorem own : ownKnob Tryd.prog.godebug = none := by kernel_rfl
theorem laidOut : laidOutB Tryd.prog = true := by kernel_rfl
theorem numTy : NumTy Tryd.prog 4 23 46 25 := ⟨by kernel_rfl, by kernel_rfl, by kernel_rfl, by kernel_rfl, by kernel_rfl, by kernel_rfl, by kernel_rfl, by kernel_rfl⟩
theorem und5 : Tryd.prog.underlying 5 = some (.int .u8) := by kernel_rfl
theorem und3 : Tryd.prog.underlying 3 = some (.int .i64) := by kernel_rfl
end Go.Proofs.YtpabkdpijcbkgaaDoor
