/- Closed facts of the translation: types, functions. -/
import Derived.Test.YtpabkdpijcbkgaaDoorFwH
import Derived.Test.YtpabkdpijcbkgaaDoorProg
import Derived.KernelRfl
namespace Go.Proofs.YtpabkdpijcbkgaaDoor
open Go Rc

theorem follows : Tryd.prog.follows .mixedOrders = true := by kernel_rfl
theorem fn62 : FnOk Tryd.prog 62 := ⟨_, Tryd.func62, by kernel_rfl, by kernel_rfl⟩
theorem fn63 : FnOk Tryd.prog 63 := ⟨_, Tryd.func63, by kernel_rfl, by kernel_rfl⟩
theorem fn73 : FnOk Tryd.prog 73 := ⟨_, Tryd.func73, by kernel_rfl, by kernel_rfl⟩
theorem fn86 : FnOk Tryd.prog 86 := ⟨_, Tryd.func86, by kernel_rfl, by kernel_rfl⟩
theorem fn87 : FnOk Tryd.prog 87 := ⟨_, Tryd.func87, by kernel_rfl, by kernel_rfl⟩
theorem fn91 : FnOk Tryd.prog 91 := ⟨_, Tryd.func91, by kernel_rfl, by kernel_rfl⟩
theorem fn93 : FnOk Tryd.prog 93 := ⟨_, Tryd.func93, by kernel_rfl, by kernel_rfl⟩
theorem fn100 : FnOk Tryd.prog 100 := ⟨_, Tryd.func100, by kernel_rfl, by kernel_rfl⟩
theorem fn101 : FnOk Tryd.prog 101 := ⟨_, Tryd.func101, by kernel_rfl, by kernel_rfl⟩
theorem fn102 : FnOk Tryd.prog 102 := ⟨_, Tryd.func102, by kernel_rfl, by kernel_rfl⟩
theorem fn103 : FnOk Tryd.prog 103 := ⟨_, Tryd.func103, by kernel_rfl, by kernel_rfl⟩
theorem fn104 : FnOk Tryd.prog 104 := ⟨_, Tryd.func104, by kernel_rfl, by kernel_rfl⟩
theorem fn105 : FnOk Tryd.prog 105 := ⟨_, Tryd.func105, by kernel_rfl, by kernel_rfl⟩
theorem fn112 : FnOk Tryd.prog 112 := ⟨_, Tryd.func112, by kernel_rfl, by kernel_rfl⟩
theorem in46 : ∃ i : TypeInfo, Tryd.prog.info? 46 = some i ∧ i.zero = some (.int .u32 0) ∧ i.size = 1 ∧ i.bytes = 4 := (info_parts (by kernel_rfl))
theorem ty46 : TyIs Tryd.prog 46 false 1 := ⟨by kernel_rfl, by kernel_rfl⟩
theorem tz46 : TyZero Tryd.prog 46 [Leaf.val (.int .u32 0)] := ⟨.int .u32 0, by kernel_rfl, rfl, by decide⟩
theorem un3 : Tryd.prog.underlying 3 = some (.int .i64) := by kernel_rfl
theorem un5 : Tryd.prog.underlying 5 = some (.int .u8) := by kernel_rfl
theorem un9 : Tryd.prog.underlying 9 = some (.string) := by kernel_rfl
theorem un23 : Tryd.prog.underlying 23 = some (.slice 46) := by kernel_rfl
theorem un46 : Tryd.prog.underlying 46 = some (.int .u32) := by kernel_rfl
theorem un69 : Tryd.prog.underlying 69 = some (.int .u64) := by kernel_rfl
theorem us5 : (Tryd.prog.underlying 5).isSome = true := by kernel_rfl
theorem us46 : (Tryd.prog.underlying 46).isSome = true := by kernel_rfl
theorem us69 : (Tryd.prog.underlying 69).isSome = true := by kernel_rfl
end Go.Proofs.YtpabkdpijcbkgaaDoor
