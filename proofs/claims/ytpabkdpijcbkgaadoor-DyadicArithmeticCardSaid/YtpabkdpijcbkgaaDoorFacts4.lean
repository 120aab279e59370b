/- Closed facts of the translation: types, functions. -/
import Derived.Test.YtpabkdpijcbkgaaDoorFwH
import Derived.Test.YtpabkdpijcbkgaaDoorProg
import Derived.KernelRfl
namespace Go.Proofs.YtpabkdpijcbkgaaDoor
open Go Rc

theorem fn16 : FnOk Tryd.prog 16 := ⟨_, Tryd.func16, by kernel_rfl, by kernel_rfl⟩
theorem fn24 : FnOk Tryd.prog 24 := ⟨_, Tryd.func24, by kernel_rfl, by kernel_rfl⟩
theorem fn26 : FnOk Tryd.prog 26 := ⟨_, Tryd.func26, by kernel_rfl, by kernel_rfl⟩
theorem fn38 : FnOk Tryd.prog 38 := ⟨_, Tryd.func38, by kernel_rfl, by kernel_rfl⟩
theorem fn48 : FnOk Tryd.prog 48 := ⟨_, Tryd.func48, by kernel_rfl, by kernel_rfl⟩
theorem fn51 : FnOk Tryd.prog 51 := ⟨_, Tryd.func51, by kernel_rfl, by kernel_rfl⟩
theorem fn52 : FnOk Tryd.prog 52 := ⟨_, Tryd.func52, by kernel_rfl, by kernel_rfl⟩
theorem fn53 : FnOk Tryd.prog 53 := ⟨_, Tryd.func53, by kernel_rfl, by kernel_rfl⟩
theorem fn69 : FnOk Tryd.prog 69 := ⟨_, Tryd.func69, by kernel_rfl, by kernel_rfl⟩
theorem fn75 : FnOk Tryd.prog 75 := ⟨_, Tryd.func75, by kernel_rfl, by kernel_rfl⟩
theorem fn79 : FnOk Tryd.prog 79 := ⟨_, Tryd.func79, by kernel_rfl, by kernel_rfl⟩
theorem fn81 : FnOk Tryd.prog 81 := ⟨_, Tryd.func81, by kernel_rfl, by kernel_rfl⟩
theorem fn84 : FnOk Tryd.prog 84 := ⟨_, Tryd.func84, by kernel_rfl, by kernel_rfl⟩
theorem fn89 : FnOk Tryd.prog 89 := ⟨_, Tryd.func89, by kernel_rfl, by kernel_rfl⟩
theorem fn109 : FnOk Tryd.prog 109 := ⟨_, Tryd.func109, by kernel_rfl, by kernel_rfl⟩
theorem fn110 : FnOk Tryd.prog 110 := ⟨_, Tryd.func110, by kernel_rfl, by kernel_rfl⟩
theorem fn111 : FnOk Tryd.prog 111 := ⟨_, Tryd.func111, by kernel_rfl, by kernel_rfl⟩
theorem fo25_0 : fieldAtOff Tryd.prog 25 0 = some (0, 1) := by kernel_rfl
theorem fo25_1 : fieldAtOff Tryd.prog 25 1 = some (1, 1) := by kernel_rfl
theorem fo25_2 : fieldAtOff Tryd.prog 25 2 = some (2, 1) := by kernel_rfl
theorem pl25 : structPlaces Tryd.prog 25 = some [(0, 1), (1, 1), (2, 1)] := by kernel_rfl
theorem ty25 : TyIs Tryd.prog 25 true 3 := ⟨by kernel_rfl, by kernel_rfl⟩
theorem tz25 : TyZero Tryd.prog 25 [Leaf.val (.bool false), nilL, nilL] := ⟨.agg #[.bool false, .slice none 0 0, .slice none 0 0], by kernel_rfl, rfl, by decide⟩
end Go.Proofs.YtpabkdpijcbkgaaDoor
