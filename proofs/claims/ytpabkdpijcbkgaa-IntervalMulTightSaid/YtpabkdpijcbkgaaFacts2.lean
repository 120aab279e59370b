/- Closed facts of the translation: types, functions. -/
import Derived.Test.YtpabkdpijcbkgaaFwH
import Derived.Test.YtpabkdpijcbkgaaProg
import Derived.KernelRfl
namespace Go.Proofs.Ytpabkdpijcbkgaa
open Go Rc

theorem fn73 : FnOk Try.prog 73 := ⟨_, Try.func73, by kernel_rfl, by kernel_rfl⟩
theorem fn74 : FnOk Try.prog 74 := ⟨_, Try.func74, by kernel_rfl, by kernel_rfl⟩
theorem fn82 : FnOk Try.prog 82 := ⟨_, Try.func82, by kernel_rfl, by kernel_rfl⟩
theorem fn83 : FnOk Try.prog 83 := ⟨_, Try.func83, by kernel_rfl, by kernel_rfl⟩
theorem fn92 : FnOk Try.prog 92 := ⟨_, Try.func92, by kernel_rfl, by kernel_rfl⟩
theorem fn94 : FnOk Try.prog 94 := ⟨_, Try.func94, by kernel_rfl, by kernel_rfl⟩
theorem fn95 : FnOk Try.prog 95 := ⟨_, Try.func95, by kernel_rfl, by kernel_rfl⟩
theorem fn96 : FnOk Try.prog 96 := ⟨_, Try.func96, by kernel_rfl, by kernel_rfl⟩
theorem fn97 : FnOk Try.prog 97 := ⟨_, Try.func97, by kernel_rfl, by kernel_rfl⟩
theorem un22 : Try.prog.underlying 22 = some (.slice 74) := by kernel_rfl
end Go.Proofs.Ytpabkdpijcbkgaa
