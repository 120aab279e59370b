/- Closed facts of the translation: types, functions. -/
import Derived.Test.YtpabkdpijcbkgaaDoorFwH
import Derived.Test.YtpabkdpijcbkgaaDoorProg
import Derived.KernelRfl
namespace Go.Proofs.YtpabkdpijcbkgaaDoor
open Go Rc

theorem fn20 : FnOk Tryd.prog 20 := ⟨_, Tryd.func20, by kernel_rfl, by kernel_rfl⟩
theorem fn47 : FnOk Tryd.prog 47 := ⟨_, Tryd.func47, by kernel_rfl, by kernel_rfl⟩
theorem fn50 : FnOk Tryd.prog 50 := ⟨_, Tryd.func50, by kernel_rfl, by kernel_rfl⟩
theorem fn77 : FnOk Tryd.prog 77 := ⟨_, Tryd.func77, by kernel_rfl, by kernel_rfl⟩
theorem fn83 : FnOk Tryd.prog 83 := ⟨_, Tryd.func83, by kernel_rfl, by kernel_rfl⟩
theorem fn96 : FnOk Tryd.prog 96 := ⟨_, Tryd.func96, by kernel_rfl, by kernel_rfl⟩
theorem fn97 : FnOk Tryd.prog 97 := ⟨_, Tryd.func97, by kernel_rfl, by kernel_rfl⟩
theorem fn107 : FnOk Tryd.prog 107 := ⟨_, Tryd.func107, by kernel_rfl, by kernel_rfl⟩
theorem fn108 : FnOk Tryd.prog 108 := ⟨_, Tryd.func108, by kernel_rfl, by kernel_rfl⟩
theorem un22 : Tryd.prog.underlying 22 = some (.slice 46) := by kernel_rfl
end Go.Proofs.YtpabkdpijcbkgaaDoor
