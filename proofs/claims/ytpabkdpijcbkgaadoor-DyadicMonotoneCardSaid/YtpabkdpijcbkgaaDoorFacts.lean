/- Closed facts of the translation: types, functions. -/
import Derived.Test.YtpabkdpijcbkgaaDoorFwH
import Derived.Test.YtpabkdpijcbkgaaDoorProg
import Derived.KernelRfl
import Derived.Test.YtpabkdpijcbkgaaDoorFwM
namespace Go.Proofs.YtpabkdpijcbkgaaDoor
open Go Rc

theorem follows : Tryd.prog.follows .mixedOrders = true := by kernel_rfl
theorem fn10 : FnOk Tryd.prog 10 := ⟨_, Tryd.func10, by kernel_rfl, by kernel_rfl⟩
theorem fn11 : FnOk Tryd.prog 11 := ⟨_, Tryd.func11, by kernel_rfl, by kernel_rfl⟩
theorem fn12 : FnOk Tryd.prog 12 := ⟨_, Tryd.func12, by kernel_rfl, by kernel_rfl⟩
theorem fn13 : FnOk Tryd.prog 13 := ⟨_, Tryd.func13, by kernel_rfl, by kernel_rfl⟩
theorem fn14 : FnOk Tryd.prog 14 := ⟨_, Tryd.func14, by kernel_rfl, by kernel_rfl⟩
theorem fn15 : FnOk Tryd.prog 15 := ⟨_, Tryd.func15, by kernel_rfl, by kernel_rfl⟩
theorem fn16 : FnOk Tryd.prog 16 := ⟨_, Tryd.func16, by kernel_rfl, by kernel_rfl⟩
theorem fn17 : FnOk Tryd.prog 17 := ⟨_, Tryd.func17, by kernel_rfl, by kernel_rfl⟩
theorem fn18 : FnOk Tryd.prog 18 := ⟨_, Tryd.func18, by kernel_rfl, by kernel_rfl⟩
theorem fn19 : FnOk Tryd.prog 19 := ⟨_, Tryd.func19, by kernel_rfl, by kernel_rfl⟩
theorem fn20 : FnOk Tryd.prog 20 := ⟨_, Tryd.func20, by kernel_rfl, by kernel_rfl⟩
theorem fn21 : FnOk Tryd.prog 21 := ⟨_, Tryd.func21, by kernel_rfl, by kernel_rfl⟩
theorem fn22 : FnOk Tryd.prog 22 := ⟨_, Tryd.func22, by kernel_rfl, by kernel_rfl⟩
theorem fn23 : FnOk Tryd.prog 23 := ⟨_, Tryd.func23, by kernel_rfl, by kernel_rfl⟩
theorem fn24 : FnOk Tryd.prog 24 := ⟨_, Tryd.func24, by kernel_rfl, by kernel_rfl⟩
theorem fn25 : FnOk Tryd.prog 25 := ⟨_, Tryd.func25, by kernel_rfl, by kernel_rfl⟩
theorem fn26 : FnOk Tryd.prog 26 := ⟨_, Tryd.func26, by kernel_rfl, by kernel_rfl⟩
theorem fn27 : FnOk Tryd.prog 27 := ⟨_, Tryd.func27, by kernel_rfl, by kernel_rfl⟩
theorem fn28 : FnOk Tryd.prog 28 := ⟨_, Tryd.func28, by kernel_rfl, by kernel_rfl⟩
theorem fn29 : FnOk Tryd.prog 29 := ⟨_, Tryd.func29, by kernel_rfl, by kernel_rfl⟩
theorem fn30 : FnOk Tryd.prog 30 := ⟨_, Tryd.func30, by kernel_rfl, by kernel_rfl⟩
theorem fn31 : FnOk Tryd.prog 31 := ⟨_, Tryd.func31, by kernel_rfl, by kernel_rfl⟩
theorem fn32 : FnOk Tryd.prog 32 := ⟨_, Tryd.func32, by kernel_rfl, by kernel_rfl⟩
theorem fn33 : FnOk Tryd.prog 33 := ⟨_, Tryd.func33, by kernel_rfl, by kernel_rfl⟩
theorem fn34 : FnOk Tryd.prog 34 := ⟨_, Tryd.func34, by kernel_rfl, by kernel_rfl⟩
theorem fn35 : FnOk Tryd.prog 35 := ⟨_, Tryd.func35, by kernel_rfl, by kernel_rfl⟩
theorem fn36 : FnOk Tryd.prog 36 := ⟨_, Tryd.func36, by kernel_rfl, by kernel_rfl⟩
theorem fn37 : FnOk Tryd.prog 37 := ⟨_, Tryd.func37, by kernel_rfl, by kernel_rfl⟩
theorem fn38 : FnOk Tryd.prog 38 := ⟨_, Tryd.func38, by kernel_rfl, by kernel_rfl⟩
theorem fn39 : FnOk Tryd.prog 39 := ⟨_, Tryd.func39, by kernel_rfl, by kernel_rfl⟩
theorem fn40 : FnOk Tryd.prog 40 := ⟨_, Tryd.func40, by kernel_rfl, by kernel_rfl⟩
theorem fn41 : FnOk Tryd.prog 41 := ⟨_, Tryd.func41, by kernel_rfl, by kernel_rfl⟩
theorem fn42 : FnOk Tryd.prog 42 := ⟨_, Tryd.func42, by kernel_rfl, by kernel_rfl⟩
theorem fn43 : FnOk Tryd.prog 43 := ⟨_, Tryd.func43, by kernel_rfl, by kernel_rfl⟩
theorem fn44 : FnOk Tryd.prog 44 := ⟨_, Tryd.func44, by kernel_rfl, by kernel_rfl⟩
theorem fn45 : FnOk Tryd.prog 45 := ⟨_, Tryd.func45, by kernel_rfl, by kernel_rfl⟩
theorem fn46 : FnOk Tryd.prog 46 := ⟨_, Tryd.func46, by kernel_rfl, by kernel_rfl⟩
theorem fn47 : FnOk Tryd.prog 47 := ⟨_, Tryd.func47, by kernel_rfl, by kernel_rfl⟩
theorem fn48 : FnOk Tryd.prog 48 := ⟨_, Tryd.func48, by kernel_rfl, by kernel_rfl⟩
theorem fn49 : FnOk Tryd.prog 49 := ⟨_, Tryd.func49, by kernel_rfl, by kernel_rfl⟩
theorem fn50 : FnOk Tryd.prog 50 := ⟨_, Tryd.func50, by kernel_rfl, by kernel_rfl⟩
theorem fn51 : FnOk Tryd.prog 51 := ⟨_, Tryd.func51, by kernel_rfl, by kernel_rfl⟩
theorem fn52 : FnOk Tryd.prog 52 := ⟨_, Tryd.func52, by kernel_rfl, by kernel_rfl⟩
theorem fn53 : FnOk Tryd.prog 53 := ⟨_, Tryd.func53, by kernel_rfl, by kernel_rfl⟩
theorem fn54 : FnOk Tryd.prog 54 := ⟨_, Tryd.func54, by kernel_rfl, by kernel_rfl⟩
theorem fn55 : FnOk Tryd.prog 55 := ⟨_, Tryd.func55, by kernel_rfl, by kernel_rfl⟩
theorem fn56 : FnOk Tryd.prog 56 := ⟨_, Tryd.func56, by kernel_rfl, by kernel_rfl⟩
theorem fn57 : FnOk Tryd.prog 57 := ⟨_, Tryd.func57, by kernel_rfl, by kernel_rfl⟩
theorem fn58 : FnOk Tryd.prog 58 := ⟨_, Tryd.func58, by kernel_rfl, by kernel_rfl⟩
theorem fn59 : FnOk Tryd.prog 59 := ⟨_, Tryd.func59, by kernel_rfl, by kernel_rfl⟩
theorem fn60 : FnOk Tryd.prog 60 := ⟨_, Tryd.func60, by kernel_rfl, by kernel_rfl⟩
theorem fn61 : FnOk Tryd.prog 61 := ⟨_, Tryd.func61, by kernel_rfl, by kernel_rfl⟩
theorem fn62 : FnOk Tryd.prog 62 := ⟨_, Tryd.func62, by kernel_rfl, by kernel_rfl⟩
theorem fn63 : FnOk Tryd.prog 63 := ⟨_, Tryd.func63, by kernel_rfl, by kernel_rfl⟩
theorem fn64 : FnOk Tryd.prog 64 := ⟨_, Tryd.func64, by kernel_rfl, by kernel_rfl⟩
theorem fn65 : FnOk Tryd.prog 65 := ⟨_, Tryd.func65, by kernel_rfl, by kernel_rfl⟩
theorem fn66 : FnOk Tryd.prog 66 := ⟨_, Tryd.func66, by kernel_rfl, by kernel_rfl⟩
theorem fn67 : FnOk Tryd.prog 67 := ⟨_, Tryd.func67, by kernel_rfl, by kernel_rfl⟩
theorem fn68 : FnOk Tryd.prog 68 := ⟨_, Tryd.func68, by kernel_rfl, by kernel_rfl⟩
theorem fn69 : FnOk Tryd.prog 69 := ⟨_, Tryd.func69, by kernel_rfl, by kernel_rfl⟩
theorem fn70 : FnOk Tryd.prog 70 := ⟨_, Tryd.func70, by kernel_rfl, by kernel_rfl⟩
theorem fn71 : FnOk Tryd.prog 71 := ⟨_, Tryd.func71, by kernel_rfl, by kernel_rfl⟩
theorem fn72 : FnOk Tryd.prog 72 := ⟨_, Tryd.func72, by kernel_rfl, by kernel_rfl⟩
theorem fn73 : FnOk Tryd.prog 73 := ⟨_, Tryd.func73, by kernel_rfl, by kernel_rfl⟩
theorem fn74 : FnOk Tryd.prog 74 := ⟨_, Tryd.func74, by kernel_rfl, by kernel_rfl⟩
theorem fn75 : FnOk Tryd.prog 75 := ⟨_, Tryd.func75, by kernel_rfl, by kernel_rfl⟩
theorem fn76 : FnOk Tryd.prog 76 := ⟨_, Tryd.func76, by kernel_rfl, by kernel_rfl⟩
theorem fn77 : FnOk Tryd.prog 77 := ⟨_, Tryd.func77, by kernel_rfl, by kernel_rfl⟩
theorem fn78 : FnOk Tryd.prog 78 := ⟨_, Tryd.func78, by kernel_rfl, by kernel_rfl⟩
theorem fn79 : FnOk Tryd.prog 79 := ⟨_, Tryd.func79, by kernel_rfl, by kernel_rfl⟩
theorem fn80 : FnOk Tryd.prog 80 := ⟨_, Tryd.func80, by kernel_rfl, by kernel_rfl⟩
theorem fn81 : FnOk Tryd.prog 81 := ⟨_, Tryd.func81, by kernel_rfl, by kernel_rfl⟩
theorem fn82 : FnOk Tryd.prog 82 := ⟨_, Tryd.func82, by kernel_rfl, by kernel_rfl⟩
theorem fn83 : FnOk Tryd.prog 83 := ⟨_, Tryd.func83, by kernel_rfl, by kernel_rfl⟩
theorem fn84 : FnOk Tryd.prog 84 := ⟨_, Tryd.func84, by kernel_rfl, by kernel_rfl⟩
theorem fn85 : FnOk Tryd.prog 85 := ⟨_, Tryd.func85, by kernel_rfl, by kernel_rfl⟩
theorem fn86 : FnOk Tryd.prog 86 := ⟨_, Tryd.func86, by kernel_rfl, by kernel_rfl⟩
theorem fn87 : FnOk Tryd.prog 87 := ⟨_, Tryd.func87, by kernel_rfl, by kernel_rfl⟩
theorem fn88 : FnOk Tryd.prog 88 := ⟨_, Tryd.func88, by kernel_rfl, by kernel_rfl⟩
theorem fn89 : FnOk Tryd.prog 89 := ⟨_, Tryd.func89, by kernel_rfl, by kernel_rfl⟩
theorem fn90 : FnOk Tryd.prog 90 := ⟨_, Tryd.func90, by kernel_rfl, by kernel_rfl⟩
theorem fn91 : FnOk Tryd.prog 91 := ⟨_, Tryd.func91, by kernel_rfl, by kernel_rfl⟩
theorem fn92 : FnOk Tryd.prog 92 := ⟨_, Tryd.func92, by kernel_rfl, by kernel_rfl⟩
theorem fn93 : FnOk Tryd.prog 93 := ⟨_, Tryd.func93, by kernel_rfl, by kernel_rfl⟩
theorem fn94 : FnOk Tryd.prog 94 := ⟨_, Tryd.func94, by kernel_rfl, by kernel_rfl⟩
theorem fn95 : FnOk Tryd.prog 95 := ⟨_, Tryd.func95, by kernel_rfl, by kernel_rfl⟩
theorem fn96 : FnOk Tryd.prog 96 := ⟨_, Tryd.func96, by kernel_rfl, by kernel_rfl⟩
theorem fn97 : FnOk Tryd.prog 97 := ⟨_, Tryd.func97, by kernel_rfl, by kernel_rfl⟩
theorem fn98 : FnOk Tryd.prog 98 := ⟨_, Tryd.func98, by kernel_rfl, by kernel_rfl⟩
theorem fn99 : FnOk Tryd.prog 99 := ⟨_, Tryd.func99, by kernel_rfl, by kernel_rfl⟩
theorem fn100 : FnOk Tryd.prog 100 := ⟨_, Tryd.func100, by kernel_rfl, by kernel_rfl⟩
theorem fn101 : FnOk Tryd.prog 101 := ⟨_, Tryd.func101, by kernel_rfl, by kernel_rfl⟩
theorem fn102 : FnOk Tryd.prog 102 := ⟨_, Tryd.func102, by kernel_rfl, by kernel_rfl⟩
theorem fn103 : FnOk Tryd.prog 103 := ⟨_, Tryd.func103, by kernel_rfl, by kernel_rfl⟩
theorem fn104 : FnOk Tryd.prog 104 := ⟨_, Tryd.func104, by kernel_rfl, by kernel_rfl⟩
theorem fn105 : FnOk Tryd.prog 105 := ⟨_, Tryd.func105, by kernel_rfl, by kernel_rfl⟩
theorem fn106 : FnOk Tryd.prog 106 := ⟨_, Tryd.func106, by kernel_rfl, by kernel_rfl⟩
theorem fn107 : FnOk Tryd.prog 107 := ⟨_, Tryd.func107, by kernel_rfl, by kernel_rfl⟩
theorem fn108 : FnOk Tryd.prog 108 := ⟨_, Tryd.func108, by kernel_rfl, by kernel_rfl⟩
theorem fn109 : FnOk Tryd.prog 109 := ⟨_, Tryd.func109, by kernel_rfl, by kernel_rfl⟩
theorem fn110 : FnOk Tryd.prog 110 := ⟨_, Tryd.func110, by kernel_rfl, by kernel_rfl⟩
theorem fn111 : FnOk Tryd.prog 111 := ⟨_, Tryd.func111, by kernel_rfl, by kernel_rfl⟩
theorem fn112 : FnOk Tryd.prog 112 := ⟨_, Tryd.func112, by kernel_rfl, by kernel_rfl⟩
theorem fo25_0 : fieldAtOff Tryd.prog 25 0 = some (0, 1) := by kernel_rfl
theorem fo25_1 : fieldAtOff Tryd.prog 25 1 = some (1, 1) := by kernel_rfl
theorem fo25_2 : fieldAtOff Tryd.prog 25 2 = some (2, 1) := by kernel_rfl
theorem fo29_0 : fieldAtOff Tryd.prog 29 0 = some (0, 1) := by kernel_rfl
theorem fo29_1 : fieldAtOff Tryd.prog 29 1 = some (1, 1) := by kernel_rfl
theorem fo29_2 : fieldAtOff Tryd.prog 29 2 = some (2, 1) := by kernel_rfl
theorem fo65_0 : fieldAtOff Tryd.prog 65 0 = some (0, 1) := by kernel_rfl
theorem fo65_1 : fieldAtOff Tryd.prog 65 1 = some (1, 1) := by kernel_rfl
theorem ft25_2 : fieldTy Tryd.prog 25 2 = some (2, 23) := by kernel_rfl
theorem in46 : ∃ i : TypeInfo, Tryd.prog.info? 46 = some i ∧ i.zero = some (.int .u32 0) ∧ i.size = 1 ∧ i.bytes = 4 := (info_parts (by kernel_rfl))
theorem pl25 : structPlaces Tryd.prog 25 = some [(0, 1), (1, 1), (2, 1)] := by kernel_rfl
theorem pl29 : structPlaces Tryd.prog 29 = some [(0, 1), (1, 1), (2, 1)] := by kernel_rfl
theorem pl65 : structPlaces Tryd.prog 65 = some [(0, 1), (1, 1)] := by kernel_rfl
theorem ty3 : TyIs Tryd.prog 3 false 1 := ⟨by kernel_rfl, by kernel_rfl⟩
theorem ty4 : TyIs Tryd.prog 4 false 1 := ⟨by kernel_rfl, by kernel_rfl⟩
theorem ty5 : TyIs Tryd.prog 5 false 1 := ⟨by kernel_rfl, by kernel_rfl⟩
theorem ty23 : TyIs Tryd.prog 23 false 1 := ⟨by kernel_rfl, by kernel_rfl⟩
theorem ty25 : TyIs Tryd.prog 25 true 3 := ⟨by kernel_rfl, by kernel_rfl⟩
theorem ty29 : TyIs Tryd.prog 29 true 3 := ⟨by kernel_rfl, by kernel_rfl⟩
theorem ty46 : TyIs Tryd.prog 46 false 1 := ⟨by kernel_rfl, by kernel_rfl⟩
theorem ty65 : TyIs Tryd.prog 65 true 2 := ⟨by kernel_rfl, by kernel_rfl⟩
theorem tz25 : TyZero Tryd.prog 25 [Leaf.val (.bool false), nilL, nilL] := ⟨.agg #[.bool false, .slice none 0 0, .slice none 0 0], by kernel_rfl, rfl, by decide⟩
theorem tz29 : TyZero Tryd.prog 29 [Leaf.val (.bool false), nilL, Leaf.val (.int .i64 0)] := ⟨.agg #[.bool false, .slice none 0 0, .int .i64 0], by kernel_rfl, rfl, by decide⟩
theorem tz46 : TyZero Tryd.prog 46 [Leaf.val (.int .u32 0)] := ⟨.int .u32 0, by kernel_rfl, rfl, by decide⟩
theorem tz65 : TyZero Tryd.prog 65 [Leaf.val (.bool false), nilL] := ⟨.agg #[.bool false, .slice none 0 0], by kernel_rfl, rfl, by decide⟩
theorem un3 : Tryd.prog.underlying 3 = some (.int .i64) := by kernel_rfl
theorem un4 : Tryd.prog.underlying 4 = some (.bool) := by kernel_rfl
theorem un5 : Tryd.prog.underlying 5 = some (.int .u8) := by kernel_rfl
theorem un9 : Tryd.prog.underlying 9 = some (.string) := by kernel_rfl
theorem un22 : Tryd.prog.underlying 22 = some (.slice 46) := by kernel_rfl
theorem un23 : Tryd.prog.underlying 23 = some (.slice 46) := by kernel_rfl
theorem un46 : Tryd.prog.underlying 46 = some (.int .u32) := by kernel_rfl
theorem un69 : Tryd.prog.underlying 69 = some (.int .u64) := by kernel_rfl
theorem un98 : Tryd.prog.underlying 98 = some (.array 32 5) := by kernel_rfl
theorem us3 : (Tryd.prog.underlying 3).isSome = true := by kernel_rfl
theorem us5 : (Tryd.prog.underlying 5).isSome = true := by kernel_rfl
theorem us46 : (Tryd.prog.underlying 46).isSome = true := by kernel_rfl
theorem us69 : (Tryd.prog.underlying 69).isSome = true := by kernel_rfl
end Go.Proofs.YtpabkdpijcbkgaaDoor
