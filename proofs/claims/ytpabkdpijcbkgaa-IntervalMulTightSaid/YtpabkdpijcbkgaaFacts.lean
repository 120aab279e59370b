/- Closed facts of the translation: types, functions. -/
import Derived.Test.YtpabkdpijcbkgaaFwH
import Derived.Test.YtpabkdpijcbkgaaProg
import Derived.KernelRfl
namespace Go.Proofs.Ytpabkdpijcbkgaa
open Go Rc

theorem follows : Try.prog.follows .mixedOrders = true := by kernel_rfl
theorem fn77 : FnOk Try.prog 77 := ⟨_, Try.func77, by kernel_rfl, by kernel_rfl⟩
theorem fn84 : FnOk Try.prog 84 := ⟨_, Try.func84, by kernel_rfl, by kernel_rfl⟩
theorem fn87 : FnOk Try.prog 87 := ⟨_, Try.func87, by kernel_rfl, by kernel_rfl⟩
theorem fn88 : FnOk Try.prog 88 := ⟨_, Try.func88, by kernel_rfl, by kernel_rfl⟩
theorem fn101 : FnOk Try.prog 101 := ⟨_, Try.func101, by kernel_rfl, by kernel_rfl⟩
theorem fn102 : FnOk Try.prog 102 := ⟨_, Try.func102, by kernel_rfl, by kernel_rfl⟩
theorem fn103 : FnOk Try.prog 103 := ⟨_, Try.func103, by kernel_rfl, by kernel_rfl⟩
theorem fn104 : FnOk Try.prog 104 := ⟨_, Try.func104, by kernel_rfl, by kernel_rfl⟩
theorem fn105 : FnOk Try.prog 105 := ⟨_, Try.func105, by kernel_rfl, by kernel_rfl⟩
theorem fn106 : FnOk Try.prog 106 := ⟨_, Try.func106, by kernel_rfl, by kernel_rfl⟩
theorem fn107 : FnOk Try.prog 107 := ⟨_, Try.func107, by kernel_rfl, by kernel_rfl⟩
theorem fn108 : FnOk Try.prog 108 := ⟨_, Try.func108, by kernel_rfl, by kernel_rfl⟩
theorem fn109 : FnOk Try.prog 109 := ⟨_, Try.func109, by kernel_rfl, by kernel_rfl⟩
theorem fn110 : FnOk Try.prog 110 := ⟨_, Try.func110, by kernel_rfl, by kernel_rfl⟩
theorem in74 : ∃ i : TypeInfo, Try.prog.info? 74 = some i ∧ i.zero = some (.int .u32 0) ∧ i.size = 1 ∧ i.bytes = 4 := (info_parts (by kernel_rfl))
theorem ty74 : TyIs Try.prog 74 false 1 := ⟨by kernel_rfl, by kernel_rfl⟩
theorem tz74 : TyZero Try.prog 74 [Leaf.val (.int .u32 0)] := ⟨.int .u32 0, by kernel_rfl, rfl, by decide⟩
theorem un3 : Try.prog.underlying 3 = some (.int .i64) := by kernel_rfl
theorem un5 : Try.prog.underlying 5 = some (.int .u8) := by kernel_rfl
theorem un9 : Try.prog.underlying 9 = some (.string) := by kernel_rfl
theorem un23 : Try.prog.underlying 23 = some (.slice 74) := by kernel_rfl
theorem un74 : Try.prog.underlying 74 = some (.int .u32) := by kernel_rfl
theorem un75 : Try.prog.underlying 75 = some (.int .u64) := by kernel_rfl
theorem us5 : (Try.prog.underlying 5).isSome = true := by kernel_rfl
theorem us74 : (Try.prog.underlying 74).isSome = true := by kernel_rfl
theorem us75 : (Try.prog.underlying 75).isSome = true := by kernel_rfl
end Go.Proofs.Ytpabkdpijcbkgaa
