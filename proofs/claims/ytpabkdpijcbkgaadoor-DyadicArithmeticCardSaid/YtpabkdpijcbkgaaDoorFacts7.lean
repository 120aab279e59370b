/- Closed facts of the translation: types, functions. -/
import Derived.Test.YtpabkdpijcbkgaaDoorFwH
import Derived.Test.YtpabkdpijcbkgaaDoorProg
import Derived.KernelRfl
namespace Go.Proofs.YtpabkdpijcbkgaaDoor
open Go Rc

theorem fn85 : FnOk Tryd.prog 85 := ⟨_, Tryd.func85, by kernel_rfl, by kernel_rfl⟩
theorem fn90 : FnOk Tryd.prog 90 := ⟨_, Tryd.func90, by kernel_rfl, by kernel_rfl⟩
theorem fn106 : FnOk Tryd.prog 106 := ⟨_, Tryd.func106, by kernel_rfl, by kernel_rfl⟩
theorem ty5 : TyIs Tryd.prog 5 false 1 := ⟨by kernel_rfl, by kernel_rfl⟩
theorem un98 : Tryd.prog.underlying 98 = some (.array 32 5) := by kernel_rfl
end Go.Proofs.YtpabkdpijcbkgaaDoor
