/- Closed facts of the translation: types, functions. -/
import Derived.Test.YtpabkdpijcbkgaaDoorFwH
import Derived.Test.YtpabkdpijcbkgaaDoorProg
import Derived.KernelRfl
namespace Go.Proofs.YtpabkdpijcbkgaaDoor
open Go Rc

theorem fn57 : FnOk Tryd.prog 57 := ⟨_, Tryd.func57, by kernel_rfl, by kernel_rfl⟩
theorem fn71 : FnOk Tryd.prog 71 := ⟨_, Tryd.func71, by kernel_rfl, by kernel_rfl⟩
theorem fn74 : FnOk Tryd.prog 74 := ⟨_, Tryd.func74, by kernel_rfl, by kernel_rfl⟩
theorem fn82 : FnOk Tryd.prog 82 := ⟨_, Tryd.func82, by kernel_rfl, by kernel_rfl⟩
theorem fn92 : FnOk Tryd.prog 92 := ⟨_, Tryd.func92, by kernel_rfl, by kernel_rfl⟩
theorem fn94 : FnOk Tryd.prog 94 := ⟨_, Tryd.func94, by kernel_rfl, by kernel_rfl⟩
theorem fn95 : FnOk Tryd.prog 95 := ⟨_, Tryd.func95, by kernel_rfl, by kernel_rfl⟩
theorem fo65_0 : fieldAtOff Tryd.prog 65 0 = some (0, 1) := by kernel_rfl
theorem fo65_1 : fieldAtOff Tryd.prog 65 1 = some (1, 1) := by kernel_rfl
theorem pl65 : structPlaces Tryd.prog 65 = some [(0, 1), (1, 1)] := by kernel_rfl
theorem ty4 : TyIs Tryd.prog 4 false 1 := ⟨by kernel_rfl, by kernel_rfl⟩
theorem ty23 : TyIs Tryd.prog 23 false 1 := ⟨by kernel_rfl, by kernel_rfl⟩
theorem ty65 : TyIs Tryd.prog 65 true 2 := ⟨by kernel_rfl, by kernel_rfl⟩
theorem tz65 : TyZero Tryd.prog 65 [Leaf.val (.bool false), nilL] := ⟨.agg #[.bool false, .slice none 0 0], by kernel_rfl, rfl, by decide⟩
theorem un4 : Tryd.prog.underlying 4 = some (.bool) := by kernel_rfl
theorem us3 : (Tryd.prog.underlying 3).isSome = true := by kernel_rfl
end Go.Proofs.YtpabkdpijcbkgaaDoor
