/- Closed facts of the translation: types, functions. -/
import Derived.Test.YtpabkdpijcbkgaaFwH
import Derived.Test.YtpabkdpijcbkgaaProg
import Derived.KernelRfl
namespace Go.Proofs.Ytpabkdpijcbkgaa
open Go Rc

theorem fn18 : FnOk Try.prog 18 := ⟨_, Try.func18, by kernel_rfl, by kernel_rfl⟩
theorem fn19 : FnOk Try.prog 19 := ⟨_, Try.func19, by kernel_rfl, by kernel_rfl⟩
theorem fn20 : FnOk Try.prog 20 := ⟨_, Try.func20, by kernel_rfl, by kernel_rfl⟩
theorem fn21 : FnOk Try.prog 21 := ⟨_, Try.func21, by kernel_rfl, by kernel_rfl⟩
theorem fn24 : FnOk Try.prog 24 := ⟨_, Try.func24, by kernel_rfl, by kernel_rfl⟩
theorem fn28 : FnOk Try.prog 28 := ⟨_, Try.func28, by kernel_rfl, by kernel_rfl⟩
theorem fn29 : FnOk Try.prog 29 := ⟨_, Try.func29, by kernel_rfl, by kernel_rfl⟩
theorem fn38 : FnOk Try.prog 38 := ⟨_, Try.func38, by kernel_rfl, by kernel_rfl⟩
theorem fn42 : FnOk Try.prog 42 := ⟨_, Try.func42, by kernel_rfl, by kernel_rfl⟩
theorem fn43 : FnOk Try.prog 43 := ⟨_, Try.func43, by kernel_rfl, by kernel_rfl⟩
theorem fn44 : FnOk Try.prog 44 := ⟨_, Try.func44, by kernel_rfl, by kernel_rfl⟩
theorem fn53 : FnOk Try.prog 53 := ⟨_, Try.func53, by kernel_rfl, by kernel_rfl⟩
theorem fn54 : FnOk Try.prog 54 := ⟨_, Try.func54, by kernel_rfl, by kernel_rfl⟩
theorem fn55 : FnOk Try.prog 55 := ⟨_, Try.func55, by kernel_rfl, by kernel_rfl⟩
theorem fn56 : FnOk Try.prog 56 := ⟨_, Try.func56, by kernel_rfl, by kernel_rfl⟩
theorem fn57 : FnOk Try.prog 57 := ⟨_, Try.func57, by kernel_rfl, by kernel_rfl⟩
theorem fn58 : FnOk Try.prog 58 := ⟨_, Try.func58, by kernel_rfl, by kernel_rfl⟩
theorem fn59 : FnOk Try.prog 59 := ⟨_, Try.func59, by kernel_rfl, by kernel_rfl⟩
theorem fn67 : FnOk Try.prog 67 := ⟨_, Try.func67, by kernel_rfl, by kernel_rfl⟩
theorem fn68 : FnOk Try.prog 68 := ⟨_, Try.func68, by kernel_rfl, by kernel_rfl⟩
theorem fn76 : FnOk Try.prog 76 := ⟨_, Try.func76, by kernel_rfl, by kernel_rfl⟩
theorem fo27_0 : fieldAtOff Try.prog 27 0 = some (0, 3) := by kernel_rfl
theorem fo27_1 : fieldAtOff Try.prog 27 1 = some (3, 3) := by kernel_rfl
theorem pl27 : structPlaces Try.prog 27 = some [(0, 3), (3, 3)] := by kernel_rfl
theorem ty27 : TyIs Try.prog 27 true 6 := ⟨by kernel_rfl, by kernel_rfl⟩
theorem ty39 : TyIs Try.prog 39 true 12 := ⟨by kernel_rfl, by kernel_rfl⟩
theorem tz27 : TyZero Try.prog 27 [Leaf.val (.bool false), nilL, nilL, Leaf.val (.bool false), nilL, nilL] := ⟨.agg #[.bool false, .slice none 0 0, .slice none 0 0, .bool false, .slice none 0 0, .slice none 0 0], by kernel_rfl, rfl, by decide⟩
theorem tz39 : TyZero Try.prog 39 [Leaf.val (.bool false), nilL, nilL, Leaf.val (.bool false), nilL, nilL, Leaf.val (.bool false), nilL, nilL, Leaf.val (.bool false), nilL, nilL] := ⟨.agg #[.bool false, .slice none 0 0, .slice none 0 0, .bool false, .slice none 0 0, .slice none 0 0, .bool false, .slice none 0 0, .slice none 0 0, .bool false, .slice none 0 0, .slice none 0 0], by kernel_rfl, rfl, by decide⟩
theorem un39 : Try.prog.underlying 39 = some (.array 4 25) := by kernel_rfl
theorem un53 : Try.prog.underlying 53 = some (.slice 25) := by kernel_rfl
end Go.Proofs.Ytpabkdpijcbkgaa
