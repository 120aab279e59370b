/- Closed facts of the translation: types, functions. -/
import Derived.Test.YtpabkdpijcbkgaaFwH
import Derived.Test.YtpabkdpijcbkgaaProg
import Derived.KernelRfl
namespace Go.Proofs.Ytpabkdpijcbkgaa
open Go Rc

theorem fn64 : FnOk Try.prog 64 := ⟨_, Try.func64, by kernel_rfl, by kernel_rfl⟩
theorem fn72 : FnOk Try.prog 72 := ⟨_, Try.func72, by kernel_rfl, by kernel_rfl⟩
theorem fn79 : FnOk Try.prog 79 := ⟨_, Try.func79, by kernel_rfl, by kernel_rfl⟩
theorem fn81 : FnOk Try.prog 81 := ⟨_, Try.func81, by kernel_rfl, by kernel_rfl⟩
theorem fn89 : FnOk Try.prog 89 := ⟨_, Try.func89, by kernel_rfl, by kernel_rfl⟩
theorem fn98 : FnOk Try.prog 98 := ⟨_, Try.func98, by kernel_rfl, by kernel_rfl⟩
theorem fn99 : FnOk Try.prog 99 := ⟨_, Try.func99, by kernel_rfl, by kernel_rfl⟩
theorem fn100 : FnOk Try.prog 100 := ⟨_, Try.func100, by kernel_rfl, by kernel_rfl⟩
theorem fo63_0 : fieldAtOff Try.prog 63 0 = some (0, 1) := by kernel_rfl
theorem fo63_1 : fieldAtOff Try.prog 63 1 = some (1, 1) := by kernel_rfl
theorem pl63 : structPlaces Try.prog 63 = some [(0, 1), (1, 1)] := by kernel_rfl
theorem ty4 : TyIs Try.prog 4 false 1 := ⟨by kernel_rfl, by kernel_rfl⟩
theorem ty23 : TyIs Try.prog 23 false 1 := ⟨by kernel_rfl, by kernel_rfl⟩
theorem ty63 : TyIs Try.prog 63 true 2 := ⟨by kernel_rfl, by kernel_rfl⟩
theorem tz63 : TyZero Try.prog 63 [Leaf.val (.bool false), nilL] := ⟨.agg #[.bool false, .slice none 0 0], by kernel_rfl, rfl, by decide⟩
theorem un4 : Try.prog.underlying 4 = some (.bool) := by kernel_rfl
theorem us3 : (Try.prog.underlying 3).isSome = true := by kernel_rfl
end Go.Proofs.Ytpabkdpijcbkgaa
