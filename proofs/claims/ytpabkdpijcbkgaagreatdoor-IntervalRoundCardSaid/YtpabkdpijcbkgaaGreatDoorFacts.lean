/- Closed facts of the translation: types, functions. -/
import Derived.Test.YtpabkdpijcbkgaaGreatDoorFwH
import Derived.Test.YtpabkdpijcbkgaaGreatDoorProg
import Derived.KernelRfl
import Derived.Test.YtpabkdpijcbkgaaGreatDoorFwM
namespace Go.Proofs.YtpabkdpijcbkgaaGreatDoor
open Go Rc

theorem follows : Tryz.prog.follows .mixedOrders = true := by kernel_rfl
theorem fn4 : FnOk Tryz.prog 4 := ⟨_, Tryz.func4, by kernel_rfl, by kernel_rfl⟩
theorem fn5 : FnOk Tryz.prog 5 := ⟨_, Tryz.func5, by kernel_rfl, by kernel_rfl⟩
theorem fn6 : FnOk Tryz.prog 6 := ⟨_, Tryz.func6, by kernel_rfl, by kernel_rfl⟩
theorem fn7 : FnOk Tryz.prog 7 := ⟨_, Tryz.func7, by kernel_rfl, by kernel_rfl⟩
theorem fn8 : FnOk Tryz.prog 8 := ⟨_, Tryz.func8, by kernel_rfl, by kernel_rfl⟩
theorem fn9 : FnOk Tryz.prog 9 := ⟨_, Tryz.func9, by kernel_rfl, by kernel_rfl⟩
theorem fn10 : FnOk Tryz.prog 10 := ⟨_, Tryz.func10, by kernel_rfl, by kernel_rfl⟩
theorem fn11 : FnOk Tryz.prog 11 := ⟨_, Tryz.func11, by kernel_rfl, by kernel_rfl⟩
theorem fn12 : FnOk Tryz.prog 12 := ⟨_, Tryz.func12, by kernel_rfl, by kernel_rfl⟩
theorem fn13 : FnOk Tryz.prog 13 := ⟨_, Tryz.func13, by kernel_rfl, by kernel_rfl⟩
theorem fn14 : FnOk Tryz.prog 14 := ⟨_, Tryz.func14, by kernel_rfl, by kernel_rfl⟩
theorem fn15 : FnOk Tryz.prog 15 := ⟨_, Tryz.func15, by kernel_rfl, by kernel_rfl⟩
theorem fn16 : FnOk Tryz.prog 16 := ⟨_, Tryz.func16, by kernel_rfl, by kernel_rfl⟩
theorem fn17 : FnOk Tryz.prog 17 := ⟨_, Tryz.func17, by kernel_rfl, by kernel_rfl⟩
theorem fn18 : FnOk Tryz.prog 18 := ⟨_, Tryz.func18, by kernel_rfl, by kernel_rfl⟩
theorem fn19 : FnOk Tryz.prog 19 := ⟨_, Tryz.func19, by kernel_rfl, by kernel_rfl⟩
theorem fn20 : FnOk Tryz.prog 20 := ⟨_, Tryz.func20, by kernel_rfl, by kernel_rfl⟩
theorem fn21 : FnOk Tryz.prog 21 := ⟨_, Tryz.func21, by kernel_rfl, by kernel_rfl⟩
theorem fn22 : FnOk Tryz.prog 22 := ⟨_, Tryz.func22, by kernel_rfl, by kernel_rfl⟩
theorem fn23 : FnOk Tryz.prog 23 := ⟨_, Tryz.func23, by kernel_rfl, by kernel_rfl⟩
theorem fn24 : FnOk Tryz.prog 24 := ⟨_, Tryz.func24, by kernel_rfl, by kernel_rfl⟩
theorem fn25 : FnOk Tryz.prog 25 := ⟨_, Tryz.func25, by kernel_rfl, by kernel_rfl⟩
theorem fn26 : FnOk Tryz.prog 26 := ⟨_, Tryz.func26, by kernel_rfl, by kernel_rfl⟩
theorem fn27 : FnOk Tryz.prog 27 := ⟨_, Tryz.func27, by kernel_rfl, by kernel_rfl⟩
theorem fn28 : FnOk Tryz.prog 28 := ⟨_, Tryz.func28, by kernel_rfl, by kernel_rfl⟩
theorem fn29 : FnOk Tryz.prog 29 := ⟨_, Tryz.func29, by kernel_rfl, by kernel_rfl⟩
theorem fn30 : FnOk Tryz.prog 30 := ⟨_, Tryz.func30, by kernel_rfl, by kernel_rfl⟩
theorem fn31 : FnOk Tryz.prog 31 := ⟨_, Tryz.func31, by kernel_rfl, by kernel_rfl⟩
theorem fn32 : FnOk Tryz.prog 32 := ⟨_, Tryz.func32, by kernel_rfl, by kernel_rfl⟩
theorem fn33 : FnOk Tryz.prog 33 := ⟨_, Tryz.func33, by kernel_rfl, by kernel_rfl⟩
theorem fn34 : FnOk Tryz.prog 34 := ⟨_, Tryz.func34, by kernel_rfl, by kernel_rfl⟩
theorem fn35 : FnOk Tryz.prog 35 := ⟨_, Tryz.func35, by kernel_rfl, by kernel_rfl⟩
theorem fn36 : FnOk Tryz.prog 36 := ⟨_, Tryz.func36, by kernel_rfl, by kernel_rfl⟩
theorem fn37 : FnOk Tryz.prog 37 := ⟨_, Tryz.func37, by kernel_rfl, by kernel_rfl⟩
theorem fn38 : FnOk Tryz.prog 38 := ⟨_, Tryz.func38, by kernel_rfl, by kernel_rfl⟩
theorem fn39 : FnOk Tryz.prog 39 := ⟨_, Tryz.func39, by kernel_rfl, by kernel_rfl⟩
theorem fn40 : FnOk Tryz.prog 40 := ⟨_, Tryz.func40, by kernel_rfl, by kernel_rfl⟩
theorem fn41 : FnOk Tryz.prog 41 := ⟨_, Tryz.func41, by kernel_rfl, by kernel_rfl⟩
theorem fn42 : FnOk Tryz.prog 42 := ⟨_, Tryz.func42, by kernel_rfl, by kernel_rfl⟩
theorem fn43 : FnOk Tryz.prog 43 := ⟨_, Tryz.func43, by kernel_rfl, by kernel_rfl⟩
theorem fn44 : FnOk Tryz.prog 44 := ⟨_, Tryz.func44, by kernel_rfl, by kernel_rfl⟩
theorem fn45 : FnOk Tryz.prog 45 := ⟨_, Tryz.func45, by kernel_rfl, by kernel_rfl⟩
theorem fn46 : FnOk Tryz.prog 46 := ⟨_, Tryz.func46, by kernel_rfl, by kernel_rfl⟩
theorem fn47 : FnOk Tryz.prog 47 := ⟨_, Tryz.func47, by kernel_rfl, by kernel_rfl⟩
theorem fn48 : FnOk Tryz.prog 48 := ⟨_, Tryz.func48, by kernel_rfl, by kernel_rfl⟩
theorem fn49 : FnOk Tryz.prog 49 := ⟨_, Tryz.func49, by kernel_rfl, by kernel_rfl⟩
theorem fn50 : FnOk Tryz.prog 50 := ⟨_, Tryz.func50, by kernel_rfl, by kernel_rfl⟩
theorem fn51 : FnOk Tryz.prog 51 := ⟨_, Tryz.func51, by kernel_rfl, by kernel_rfl⟩
theorem fn52 : FnOk Tryz.prog 52 := ⟨_, Tryz.func52, by kernel_rfl, by kernel_rfl⟩
theorem fn53 : FnOk Tryz.prog 53 := ⟨_, Tryz.func53, by kernel_rfl, by kernel_rfl⟩
theorem fn54 : FnOk Tryz.prog 54 := ⟨_, Tryz.func54, by kernel_rfl, by kernel_rfl⟩
theorem fn55 : FnOk Tryz.prog 55 := ⟨_, Tryz.func55, by kernel_rfl, by kernel_rfl⟩
theorem fn56 : FnOk Tryz.prog 56 := ⟨_, Tryz.func56, by kernel_rfl, by kernel_rfl⟩
theorem fn57 : FnOk Tryz.prog 57 := ⟨_, Tryz.func57, by kernel_rfl, by kernel_rfl⟩
theorem fn58 : FnOk Tryz.prog 58 := ⟨_, Tryz.func58, by kernel_rfl, by kernel_rfl⟩
theorem fn59 : FnOk Tryz.prog 59 := ⟨_, Tryz.func59, by kernel_rfl, by kernel_rfl⟩
theorem fn60 : FnOk Tryz.prog 60 := ⟨_, Tryz.func60, by kernel_rfl, by kernel_rfl⟩
theorem fn61 : FnOk Tryz.prog 61 := ⟨_, Tryz.func61, by kernel_rfl, by kernel_rfl⟩
theorem fn62 : FnOk Tryz.prog 62 := ⟨_, Tryz.func62, by kernel_rfl, by kernel_rfl⟩
theorem fn63 : FnOk Tryz.prog 63 := ⟨_, Tryz.func63, by kernel_rfl, by kernel_rfl⟩
theorem fn64 : FnOk Tryz.prog 64 := ⟨_, Tryz.func64, by kernel_rfl, by kernel_rfl⟩
theorem fn65 : FnOk Tryz.prog 65 := ⟨_, Tryz.func65, by kernel_rfl, by kernel_rfl⟩
theorem fn66 : FnOk Tryz.prog 66 := ⟨_, Tryz.func66, by kernel_rfl, by kernel_rfl⟩
theorem fn67 : FnOk Tryz.prog 67 := ⟨_, Tryz.func67, by kernel_rfl, by kernel_rfl⟩
theorem fn68 : FnOk Tryz.prog 68 := ⟨_, Tryz.func68, by kernel_rfl, by kernel_rfl⟩
theorem fn69 : FnOk Tryz.prog 69 := ⟨_, Tryz.func69, by kernel_rfl, by kernel_rfl⟩
theorem fn70 : FnOk Tryz.prog 70 := ⟨_, Tryz.func70, by kernel_rfl, by kernel_rfl⟩
theorem fn71 : FnOk Tryz.prog 71 := ⟨_, Tryz.func71, by kernel_rfl, by kernel_rfl⟩
theorem fn72 : FnOk Tryz.prog 72 := ⟨_, Tryz.func72, by kernel_rfl, by kernel_rfl⟩
theorem fn73 : FnOk Tryz.prog 73 := ⟨_, Tryz.func73, by kernel_rfl, by kernel_rfl⟩
theorem fn74 : FnOk Tryz.prog 74 := ⟨_, Tryz.func74, by kernel_rfl, by kernel_rfl⟩
theorem fn75 : FnOk Tryz.prog 75 := ⟨_, Tryz.func75, by kernel_rfl, by kernel_rfl⟩
theorem fn76 : FnOk Tryz.prog 76 := ⟨_, Tryz.func76, by kernel_rfl, by kernel_rfl⟩
theorem fn77 : FnOk Tryz.prog 77 := ⟨_, Tryz.func77, by kernel_rfl, by kernel_rfl⟩
theorem fn78 : FnOk Tryz.prog 78 := ⟨_, Tryz.func78, by kernel_rfl, by kernel_rfl⟩
theorem fn79 : FnOk Tryz.prog 79 := ⟨_, Tryz.func79, by kernel_rfl, by kernel_rfl⟩
theorem fn80 : FnOk Tryz.prog 80 := ⟨_, Tryz.func80, by kernel_rfl, by kernel_rfl⟩
theorem fn81 : FnOk Tryz.prog 81 := ⟨_, Tryz.func81, by kernel_rfl, by kernel_rfl⟩
theorem fn82 : FnOk Tryz.prog 82 := ⟨_, Tryz.func82, by kernel_rfl, by kernel_rfl⟩
theorem fn83 : FnOk Tryz.prog 83 := ⟨_, Tryz.func83, by kernel_rfl, by kernel_rfl⟩
theorem fn84 : FnOk Tryz.prog 84 := ⟨_, Tryz.func84, by kernel_rfl, by kernel_rfl⟩
theorem fn85 : FnOk Tryz.prog 85 := ⟨_, Tryz.func85, by kernel_rfl, by kernel_rfl⟩
theorem fn86 : FnOk Tryz.prog 86 := ⟨_, Tryz.func86, by kernel_rfl, by kernel_rfl⟩
theorem fn87 : FnOk Tryz.prog 87 := ⟨_, Tryz.func87, by kernel_rfl, by kernel_rfl⟩
theorem fn88 : FnOk Tryz.prog 88 := ⟨_, Tryz.func88, by kernel_rfl, by kernel_rfl⟩
theorem fn89 : FnOk Tryz.prog 89 := ⟨_, Tryz.func89, by kernel_rfl, by kernel_rfl⟩
theorem fn90 : FnOk Tryz.prog 90 := ⟨_, Tryz.func90, by kernel_rfl, by kernel_rfl⟩
theorem fn91 : FnOk Tryz.prog 91 := ⟨_, Tryz.func91, by kernel_rfl, by kernel_rfl⟩
theorem fn92 : FnOk Tryz.prog 92 := ⟨_, Tryz.func92, by kernel_rfl, by kernel_rfl⟩
theorem fn93 : FnOk Tryz.prog 93 := ⟨_, Tryz.func93, by kernel_rfl, by kernel_rfl⟩
theorem fn94 : FnOk Tryz.prog 94 := ⟨_, Tryz.func94, by kernel_rfl, by kernel_rfl⟩
theorem fn95 : FnOk Tryz.prog 95 := ⟨_, Tryz.func95, by kernel_rfl, by kernel_rfl⟩
theorem fn96 : FnOk Tryz.prog 96 := ⟨_, Tryz.func96, by kernel_rfl, by kernel_rfl⟩
theorem fn97 : FnOk Tryz.prog 97 := ⟨_, Tryz.func97, by kernel_rfl, by kernel_rfl⟩
theorem fn98 : FnOk Tryz.prog 98 := ⟨_, Tryz.func98, by kernel_rfl, by kernel_rfl⟩
theorem fn99 : FnOk Tryz.prog 99 := ⟨_, Tryz.func99, by kernel_rfl, by kernel_rfl⟩
theorem fn100 : FnOk Tryz.prog 100 := ⟨_, Tryz.func100, by kernel_rfl, by kernel_rfl⟩
theorem fn101 : FnOk Tryz.prog 101 := ⟨_, Tryz.func101, by kernel_rfl, by kernel_rfl⟩
theorem fn102 : FnOk Tryz.prog 102 := ⟨_, Tryz.func102, by kernel_rfl, by kernel_rfl⟩
theorem fn103 : FnOk Tryz.prog 103 := ⟨_, Tryz.func103, by kernel_rfl, by kernel_rfl⟩
theorem fn104 : FnOk Tryz.prog 104 := ⟨_, Tryz.func104, by kernel_rfl, by kernel_rfl⟩
theorem fo25_0 : fieldAtOff Tryz.prog 25 0 = some (0, 1) := by kernel_rfl
theorem fo25_1 : fieldAtOff Tryz.prog 25 1 = some (1, 1) := by kernel_rfl
theorem fo25_2 : fieldAtOff Tryz.prog 25 2 = some (2, 1) := by kernel_rfl
theorem fo27_0 : fieldAtOff Tryz.prog 27 0 = some (0, 3) := by kernel_rfl
theorem fo27_1 : fieldAtOff Tryz.prog 27 1 = some (3, 3) := by kernel_rfl
theorem fo42_0 : fieldAtOff Tryz.prog 42 0 = some (0, 1) := by kernel_rfl
theorem fo42_1 : fieldAtOff Tryz.prog 42 1 = some (1, 1) := by kernel_rfl
theorem fo42_2 : fieldAtOff Tryz.prog 42 2 = some (2, 1) := by kernel_rfl
theorem fo65_0 : fieldAtOff Tryz.prog 65 0 = some (0, 1) := by kernel_rfl
theorem fo65_1 : fieldAtOff Tryz.prog 65 1 = some (1, 1) := by kernel_rfl
theorem ft25_2 : fieldTy Tryz.prog 25 2 = some (2, 23) := by kernel_rfl
theorem in62 : ∃ i : TypeInfo, Tryz.prog.info? 62 = some i ∧ i.zero = some (.int .u32 0) ∧ i.size = 1 ∧ i.bytes = 4 := (info_parts (by kernel_rfl))
theorem pl25 : structPlaces Tryz.prog 25 = some [(0, 1), (1, 1), (2, 1)] := by kernel_rfl
theorem pl27 : structPlaces Tryz.prog 27 = some [(0, 3), (3, 3)] := by kernel_rfl
theorem pl42 : structPlaces Tryz.prog 42 = some [(0, 1), (1, 1), (2, 1)] := by kernel_rfl
theorem pl65 : structPlaces Tryz.prog 65 = some [(0, 1), (1, 1)] := by kernel_rfl
theorem ty3 : TyIs Tryz.prog 3 false 1 := ⟨by kernel_rfl, by kernel_rfl⟩
theorem ty4 : TyIs Tryz.prog 4 false 1 := ⟨by kernel_rfl, by kernel_rfl⟩
theorem ty5 : TyIs Tryz.prog 5 false 1 := ⟨by kernel_rfl, by kernel_rfl⟩
theorem ty23 : TyIs Tryz.prog 23 false 1 := ⟨by kernel_rfl, by kernel_rfl⟩
theorem ty25 : TyIs Tryz.prog 25 true 3 := ⟨by kernel_rfl, by kernel_rfl⟩
theorem ty27 : TyIs Tryz.prog 27 true 6 := ⟨by kernel_rfl, by kernel_rfl⟩
theorem ty42 : TyIs Tryz.prog 42 true 3 := ⟨by kernel_rfl, by kernel_rfl⟩
theorem ty51 : TyIs Tryz.prog 51 true 12 := ⟨by kernel_rfl, by kernel_rfl⟩
theorem ty62 : TyIs Tryz.prog 62 false 1 := ⟨by kernel_rfl, by kernel_rfl⟩
theorem ty65 : TyIs Tryz.prog 65 true 2 := ⟨by kernel_rfl, by kernel_rfl⟩
theorem tz25 : TyZero Tryz.prog 25 [Leaf.val (.bool false), nilL, nilL] := ⟨.agg #[.bool false, .slice none 0 0, .slice none 0 0], by kernel_rfl, rfl, by decide⟩
theorem tz27 : TyZero Tryz.prog 27 [Leaf.val (.bool false), nilL, nilL, Leaf.val (.bool false), nilL, nilL] := ⟨.agg #[.bool false, .slice none 0 0, .slice none 0 0, .bool false, .slice none 0 0, .slice none 0 0], by kernel_rfl, rfl, by decide⟩
theorem tz42 : TyZero Tryz.prog 42 [Leaf.val (.bool false), nilL, Leaf.val (.int .i64 0)] := ⟨.agg #[.bool false, .slice none 0 0, .int .i64 0], by kernel_rfl, rfl, by decide⟩
theorem tz51 : TyZero Tryz.prog 51 [Leaf.val (.bool false), nilL, nilL, Leaf.val (.bool false), nilL, nilL, Leaf.val (.bool false), nilL, nilL, Leaf.val (.bool false), nilL, nilL] := ⟨.agg #[.bool false, .slice none 0 0, .slice none 0 0, .bool false, .slice none 0 0, .slice none 0 0, .bool false, .slice none 0 0, .slice none 0 0, .bool false, .slice none 0 0, .slice none 0 0], by kernel_rfl, rfl, by decide⟩
theorem tz62 : TyZero Tryz.prog 62 [Leaf.val (.int .u32 0)] := ⟨.int .u32 0, by kernel_rfl, rfl, by decide⟩
theorem tz65 : TyZero Tryz.prog 65 [Leaf.val (.bool false), nilL] := ⟨.agg #[.bool false, .slice none 0 0], by kernel_rfl, rfl, by decide⟩
theorem un3 : Tryz.prog.underlying 3 = some (.int .i64) := by kernel_rfl
theorem un4 : Tryz.prog.underlying 4 = some (.bool) := by kernel_rfl
theorem un5 : Tryz.prog.underlying 5 = some (.int .u8) := by kernel_rfl
theorem un9 : Tryz.prog.underlying 9 = some (.string) := by kernel_rfl
theorem un22 : Tryz.prog.underlying 22 = some (.slice 62) := by kernel_rfl
theorem un23 : Tryz.prog.underlying 23 = some (.slice 62) := by kernel_rfl
theorem un51 : Tryz.prog.underlying 51 = some (.array 4 25) := by kernel_rfl
theorem un53 : Tryz.prog.underlying 53 = some (.slice 25) := by kernel_rfl
theorem un59 : Tryz.prog.underlying 59 = some (.int .u64) := by kernel_rfl
theorem un62 : Tryz.prog.underlying 62 = some (.int .u32) := by kernel_rfl
theorem un101 : Tryz.prog.underlying 101 = some (.array 32 5) := by kernel_rfl
theorem us3 : (Tryz.prog.underlying 3).isSome = true := by kernel_rfl
theorem us5 : (Tryz.prog.underlying 5).isSome = true := by kernel_rfl
theorem us59 : (Tryz.prog.underlying 59).isSome = true := by kernel_rfl
theorem us62 : (Tryz.prog.underlying 62).isSome = true := by kernel_rfl
end Go.Proofs.YtpabkdpijcbkgaaGreatDoor
