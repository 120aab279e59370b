/- Closed facts for the opening of arguments. -/
import Derived.Test.YtpabkdpijcbkgaaFwZ
import Derived.Test.YtpabkdpijcbkgaaProg
import Derived.KernelRfl
namespace Go.Proofs.Ytpabkdpijcbkgaa
open Go Go.RowKit Rc


theorem own : ownKnob Try.prog.godebug = none := by kernel_rfl
theorem laidOut : laidOutB Try.prog = true := by kernel_rfl
theorem numTy : NumTy Try.prog 4 23 74 25 := ⟨by kernel_rfl, by kernel_rfl, by kernel_rfl, by kernel_rfl, by kernel_rfl, by kernel_rfl, by kernel_rfl, by kernel_rfl⟩
theorem fldI : fldL Try.prog 27 = some [(0, 25), (3, 25)] := by kernel_rfl
theorem cellsI : Try.prog.cellsOf 27 = 6 := by kernel_rfl
theorem und5 : Try.prog.underlying 5 = some (.int .u8) := by kernel_rfl
theorem und28 : Try.prog.underlying 28 = some (.int .u16) := by kernel_rfl
theorem und3 : Try.prog.underlying 3 = some (.int .i64) := by kernel_rfl
end Go.Proofs.Ytpabkdpijcbkgaa
