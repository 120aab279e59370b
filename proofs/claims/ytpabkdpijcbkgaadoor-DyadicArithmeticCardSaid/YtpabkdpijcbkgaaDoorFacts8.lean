/- Closed facts of the translation: types, functions. -/
import Derived.Test.YtpabkdpijcbkgaaDoorFwH
import Derived.Test.YtpabkdpijcbkgaaDoorProg
import Derived.KernelRfl
import Derived.Test.YtpabkdpijcbkgaaDoorFwM
namespace Go.Proofs.YtpabkdpijcbkgaaDoor
open Go Rc

theorem fn25 : FnOk Tryd.prog 25 := ⟨_, Tryd.func25, by kernel_rfl, by kernel_rfl⟩
theorem fn46 : FnOk Tryd.prog 46 := ⟨_, Tryd.func46, by kernel_rfl, by kernel_rfl⟩
theorem fn49 : FnOk Tryd.prog 49 := ⟨_, Tryd.func49, by kernel_rfl, by kernel_rfl⟩
theorem fn54 : FnOk Tryd.prog 54 := ⟨_, Tryd.func54, by kernel_rfl, by kernel_rfl⟩
theorem fn55 : FnOk Tryd.prog 55 := ⟨_, Tryd.func55, by kernel_rfl, by kernel_rfl⟩
theorem fn56 : FnOk Tryd.prog 56 := ⟨_, Tryd.func56, by kernel_rfl, by kernel_rfl⟩
theorem fn58 : FnOk Tryd.prog 58 := ⟨_, Tryd.func58, by kernel_rfl, by kernel_rfl⟩
theorem fn59 : FnOk Tryd.prog 59 := ⟨_, Tryd.func59, by kernel_rfl, by kernel_rfl⟩
theorem fn60 : FnOk Tryd.prog 60 := ⟨_, Tryd.func60, by kernel_rfl, by kernel_rfl⟩
theorem fn61 : FnOk Tryd.prog 61 := ⟨_, Tryd.func61, by kernel_rfl, by kernel_rfl⟩
theorem fn80 : FnOk Tryd.prog 80 := ⟨_, Tryd.func80, by kernel_rfl, by kernel_rfl⟩
theorem fn88 : FnOk Tryd.prog 88 := ⟨_, Tryd.func88, by kernel_rfl, by kernel_rfl⟩
theorem fo29_0 : fieldAtOff Tryd.prog 29 0 = some (0, 1) := by kernel_rfl
theorem fo29_1 : fieldAtOff Tryd.prog 29 1 = some (1, 1) := by kernel_rfl
theorem fo29_2 : fieldAtOff Tryd.prog 29 2 = some (2, 1) := by kernel_rfl
theorem ft25_2 : fieldTy Tryd.prog 25 2 = some (2, 23) := by kernel_rfl
theorem pl29 : structPlaces Tryd.prog 29 = some [(0, 1), (1, 1), (2, 1)] := by kernel_rfl
theorem ty3 : TyIs Tryd.prog 3 false 1 := ⟨by kernel_rfl, by kernel_rfl⟩
theorem ty29 : TyIs Tryd.prog 29 true 3 := ⟨by kernel_rfl, by kernel_rfl⟩
theorem tz29 : TyZero Tryd.prog 29 [Leaf.val (.bool false), nilL, Leaf.val (.int .i64 0)] := ⟨.agg #[.bool false, .slice none 0 0, .int .i64 0], by kernel_rfl, rfl, by decide⟩
end Go.Proofs.YtpabkdpijcbkgaaDoor
