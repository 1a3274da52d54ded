/- The types of the program; laws of functions at fixed input; how laws are made by hand. -/
import Derived.Test.YtnmgchgmmnjbiaaGreatFc
import Derived.Test.YtnmgchgmmnjbiaaGreatProg
import Derived.KernelRfl
set_option autoImplicit false
set_option maxRecDepth 4000
namespace Go.Proofs.Fw
open Go
/-! The types of the program: printed. -/
def et : LTag → TypeId
  | .u8 => 5 | .int => 3 | .str => 9 | .dest => 83 | .sub => 85 | .msg => 29 | .tlv => 178 | .ptr => 283
theorem ty2 : TyOK Tryz.prog et 2 (.int .i64) := ⟨⟨Tryz.t2, _, info_of Tryz.type2, rfl, rfl, rfl⟩, Tryz.underlying2, fun lt h => by cases h⟩
theorem ty3 : TyOK Tryz.prog et 3 (.int .i64) := ⟨⟨Tryz.t3, _, info_of Tryz.type3, rfl, rfl, rfl⟩, Tryz.underlying3, fun lt h => by cases h⟩
theorem ty4 : TyOK Tryz.prog et 4 (.bool) := ⟨⟨Tryz.t4, _, info_of Tryz.type4, rfl, rfl, rfl⟩, Tryz.underlying4, fun lt h => by cases h⟩
theorem ty5 : TyOK Tryz.prog et 5 (.int .u8) := ⟨⟨Tryz.t5, _, info_of Tryz.type5, rfl, rfl, rfl⟩, Tryz.underlying5, fun lt h => by cases h⟩
theorem ty9 : TyOK Tryz.prog et 9 (.str) := ⟨⟨Tryz.t9, _, info_of Tryz.type9, rfl, rfl, rfl⟩, Tryz.underlying9, fun lt h => by cases h⟩
theorem ty21 : TyOK Tryz.prog et 21 (.int .i32) := ⟨⟨Tryz.t21, _, info_of Tryz.type21, rfl, rfl, rfl⟩, Tryz.underlying21, fun lt h => by cases h⟩
theorem ty22 : TyOK Tryz.prog et 22 (.slice .msg) := ⟨⟨Tryz.t22, _, info_of Tryz.type22, rfl, rfl, rfl⟩, Tryz.underlying22, fun lt h => by cases h; exact ⟨⟨Tryz.t29, _, info_of Tryz.type29, rfl, rfl, rfl, rfl, fun zz h => by cases h⟩, fun h => by cases h⟩⟩
theorem ty26 : TyOK Tryz.prog et 26 (.slice .dest) := ⟨⟨Tryz.t26, _, info_of Tryz.type26, rfl, rfl, rfl⟩, Tryz.underlying26, fun lt h => by cases h; exact ⟨⟨Tryz.t83, _, info_of Tryz.type83, rfl, rfl, rfl, rfl, fun zz h => by cases h⟩, fun h => by cases h⟩⟩
theorem ty27 : TyOK Tryz.prog et 27 (.slice .sub) := ⟨⟨Tryz.t27, _, info_of Tryz.type27, rfl, rfl, rfl⟩, Tryz.underlying27, fun lt h => by cases h; exact ⟨⟨Tryz.t85, _, info_of Tryz.type85, rfl, rfl, rfl, rfl, fun zz h => by cases h⟩, fun h => by cases h⟩⟩
theorem dz29 : DescOK Tryz.prog et 29 (.struct [0, 1, 2, 3, 4, 5, 6, 7, 8, 9, 10, 11, 12, 13, 14, 15, 16, 17, 18, 19, 20, 21, 22, 23, 24] [1, 1, 1, 1, 1, 1, 1, 1, 1, 1, 1, 1, 1, 1, 1, 1, 1, 1, 1, 1, 1, 1, 1, 1, 1] 25 [.int .i64 0, .int .i64 0, .int .i64 0, .str [], .int .i64 0, .int .i64 0, .str [], .int .i64 0, .int .i64 0, .str [], .int .i64 0, .str [], .int .i64 0, .int .i64 0, .int .i64 0, .int .i64 0, .int .i64 0, .int .i64 0, .int .i64 0, .str [], .str [], .nilsl, .int .i64 0, .str [], .nilsl] []) := by
  refine ⟨_, Tryz.underlying29, rfl, rfl, fields_ok ?_, ?_⟩
  · exact ⟨⟨Tryz.t3, info_of Tryz.type3, rfl, by decide⟩, ⟨Tryz.t3, info_of Tryz.type3, rfl, by decide⟩, ⟨Tryz.t3, info_of Tryz.type3, rfl, by decide⟩, ⟨Tryz.t9, info_of Tryz.type9, rfl, by decide⟩, ⟨Tryz.t3, info_of Tryz.type3, rfl, by decide⟩, ⟨Tryz.t3, info_of Tryz.type3, rfl, by decide⟩, ⟨Tryz.t9, info_of Tryz.type9, rfl, by decide⟩, ⟨Tryz.t3, info_of Tryz.type3, rfl, by decide⟩, ⟨Tryz.t3, info_of Tryz.type3, rfl, by decide⟩, ⟨Tryz.t9, info_of Tryz.type9, rfl, by decide⟩, ⟨Tryz.t3, info_of Tryz.type3, rfl, by decide⟩, ⟨Tryz.t9, info_of Tryz.type9, rfl, by decide⟩, ⟨Tryz.t3, info_of Tryz.type3, rfl, by decide⟩, ⟨Tryz.t3, info_of Tryz.type3, rfl, by decide⟩, ⟨Tryz.t3, info_of Tryz.type3, rfl, by decide⟩, ⟨Tryz.t3, info_of Tryz.type3, rfl, by decide⟩, ⟨Tryz.t3, info_of Tryz.type3, rfl, by decide⟩, ⟨Tryz.t3, info_of Tryz.type3, rfl, by decide⟩, ⟨Tryz.t3, info_of Tryz.type3, rfl, by decide⟩, ⟨Tryz.t9, info_of Tryz.type9, rfl, by decide⟩, ⟨Tryz.t9, info_of Tryz.type9, rfl, by decide⟩, ⟨Tryz.t26, info_of Tryz.type26, rfl, by decide⟩, ⟨Tryz.t3, info_of Tryz.type3, rfl, by decide⟩, ⟨Tryz.t9, info_of Tryz.type9, rfl, by decide⟩, ⟨Tryz.t27, info_of Tryz.type27, rfl, by decide⟩, trivial⟩
  · exact fun h => absurd rfl h
theorem ty29 : TyOK Tryz.prog et 29 (.struct [0, 1, 2, 3, 4, 5, 6, 7, 8, 9, 10, 11, 12, 13, 14, 15, 16, 17, 18, 19, 20, 21, 22, 23, 24] [1, 1, 1, 1, 1, 1, 1, 1, 1, 1, 1, 1, 1, 1, 1, 1, 1, 1, 1, 1, 1, 1, 1, 1, 1] 25 [.int .i64 0, .int .i64 0, .int .i64 0, .str [], .int .i64 0, .int .i64 0, .str [], .int .i64 0, .int .i64 0, .str [], .int .i64 0, .str [], .int .i64 0, .int .i64 0, .int .i64 0, .int .i64 0, .int .i64 0, .int .i64 0, .int .i64 0, .str [], .str [], .nilsl, .int .i64 0, .str [], .nilsl] []) := ⟨⟨Tryz.t29, _, info_of Tryz.type29, rfl, rfl, rfl⟩, dz29, fun lt h => by cases h⟩
theorem ty30 : TyOK Tryz.prog et 30 (.int .i64) := ⟨⟨Tryz.t30, _, info_of Tryz.type30, rfl, rfl, rfl⟩, Tryz.underlying30, fun lt h => by cases h⟩
theorem ty39 : TyOK Tryz.prog et 39 (.func) := ⟨⟨Tryz.t39, _, info_of Tryz.type39, rfl, rfl, rfl⟩, ⟨_, _, _, Tryz.underlying39⟩, fun lt h => by cases h⟩
theorem ty40 : TyOK Tryz.prog et 40 (.slice .str) := ⟨⟨Tryz.t40, _, info_of Tryz.type40, rfl, rfl, rfl⟩, Tryz.underlying40, fun lt h => by cases h; exact ⟨⟨Tryz.t9, _, info_of Tryz.type9, rfl, rfl, rfl, rfl, fun zz h => by cases h; rfl⟩, fun h => by cases h⟩⟩
theorem ty45 : TyOK Tryz.prog et 45 (.int .u16) := ⟨⟨Tryz.t45, _, info_of Tryz.type45, rfl, rfl, rfl⟩, Tryz.underlying45, fun lt h => by cases h⟩
theorem dz53 : DescOK Tryz.prog et 53 (.struct [0, 1, 2, 3] [1, 1, 1, 1] 4 [.int .u8 0, .nilsl, .int .u16 0, .int .u8 0] []) := by
  refine ⟨_, Tryz.underlying53, rfl, rfl, fields_ok ?_, ?_⟩
  · exact ⟨⟨Tryz.t5, info_of Tryz.type5, rfl, by decide⟩, ⟨Tryz.t22, info_of Tryz.type22, rfl, by decide⟩, ⟨Tryz.t45, info_of Tryz.type45, rfl, by decide⟩, ⟨Tryz.t5, info_of Tryz.type5, rfl, by decide⟩, trivial⟩
  · exact fun h => absurd rfl h
theorem ty53 : TyOK Tryz.prog et 53 (.struct [0, 1, 2, 3] [1, 1, 1, 1] 4 [.int .u8 0, .nilsl, .int .u16 0, .int .u8 0] []) := ⟨⟨Tryz.t53, _, info_of Tryz.type53, rfl, rfl, rfl⟩, dz53, fun lt h => by cases h⟩
theorem ty62 : TyOK Tryz.prog et 62 (.arr 3 1 [.int .i64 0, .int .i64 0, .int .i64 0] false) := ⟨⟨Tryz.t62, _, info_of Tryz.type62, rfl, rfl, rfl⟩, ⟨3, Tryz.t3, Tryz.underlying62, info_of Tryz.type3, rfl, fun w => Tryz.isAgg3 w⟩, fun lt h => by cases h⟩
theorem ty75 : TyOK Tryz.prog et 75 (.func) := ⟨⟨Tryz.t75, _, info_of Tryz.type75, rfl, rfl, rfl⟩, ⟨_, _, _, Tryz.underlying75⟩, fun lt h => by cases h⟩
theorem ty76 : TyOK Tryz.prog et 76 (.func) := ⟨⟨Tryz.t76, _, info_of Tryz.type76, rfl, rfl, rfl⟩, ⟨_, _, _, Tryz.underlying76⟩, fun lt h => by cases h⟩
theorem dz78 : DescOK Tryz.prog et 78 (.struct [0, 1, 2] [1, 1, 1] 3 [.nilfn, .nilfn, .nilfn] []) := by
  refine ⟨_, Tryz.underlying78, rfl, rfl, fields_ok ?_, ?_⟩
  · exact ⟨⟨Tryz.t39, info_of Tryz.type39, rfl, by decide⟩, ⟨Tryz.t75, info_of Tryz.type75, rfl, by decide⟩, ⟨Tryz.t76, info_of Tryz.type76, rfl, by decide⟩, trivial⟩
  · exact fun h => absurd rfl h
theorem ty78 : TyOK Tryz.prog et 78 (.struct [0, 1, 2] [1, 1, 1] 3 [.nilfn, .nilfn, .nilfn] []) := ⟨⟨Tryz.t78, _, info_of Tryz.type78, rfl, rfl, rfl⟩, dz78, fun lt h => by cases h⟩
theorem dz83 : DescOK Tryz.prog et 83 (.struct [0, 1] [1, 1] 2 [.str [], .int .i64 0] [.str, .int]) := by
  refine ⟨_, Tryz.underlying83, rfl, rfl, fields_ok ?_, ?_⟩
  · exact ⟨⟨Tryz.t9, info_of Tryz.type9, rfl, by decide⟩, ⟨Tryz.t3, info_of Tryz.type3, rfl, by decide⟩, trivial⟩
  · exact fun _ => ⟨Tryz.stoodInHeld83, Tryz.eqGuardType83, rfl, kinds_ok ⟨⟨rfl, rfl, Tryz.underlying9⟩, ⟨rfl, rfl, ⟨_, Tryz.underlying3⟩⟩, trivial⟩⟩
theorem ty83 : TyOK Tryz.prog et 83 (.struct [0, 1] [1, 1] 2 [.str [], .int .i64 0] [.str, .int]) := ⟨⟨Tryz.t83, _, info_of Tryz.type83, rfl, rfl, rfl⟩, dz83, fun lt h => by cases h⟩
theorem dz85 : DescOK Tryz.prog et 85 (.struct [0, 1] [1, 1] 2 [.int .i64 0, .str []] [.int, .str]) := by
  refine ⟨_, Tryz.underlying85, rfl, rfl, fields_ok ?_, ?_⟩
  · exact ⟨⟨Tryz.t3, info_of Tryz.type3, rfl, by decide⟩, ⟨Tryz.t9, info_of Tryz.type9, rfl, by decide⟩, trivial⟩
  · exact fun _ => ⟨Tryz.stoodInHeld85, Tryz.eqGuardType85, rfl, kinds_ok ⟨⟨rfl, rfl, ⟨_, Tryz.underlying3⟩⟩, ⟨rfl, rfl, Tryz.underlying9⟩, trivial⟩⟩
theorem ty85 : TyOK Tryz.prog et 85 (.struct [0, 1] [1, 1] 2 [.int .i64 0, .str []] [.int, .str]) := ⟨⟨Tryz.t85, _, info_of Tryz.type85, rfl, rfl, rfl⟩, dz85, fun lt h => by cases h⟩
theorem ty93 : TyOK Tryz.prog et 93 (.int .u32) := ⟨⟨Tryz.t93, _, info_of Tryz.type93, rfl, rfl, rfl⟩, Tryz.underlying93, fun lt h => by cases h⟩
theorem dz119 : DescOK Tryz.prog et 119 (.struct [0, 1, 2, 3, 4, 5] [1, 1, 1, 1, 1, 1] 6 [.int .i64 0, .int .i64 0, .str [], .str [], .str [], .int .i64 0] [.int, .int, .str, .str, .str, .int]) := by
  refine ⟨_, Tryz.underlying119, rfl, rfl, fields_ok ?_, ?_⟩
  · exact ⟨⟨Tryz.t3, info_of Tryz.type3, rfl, by decide⟩, ⟨Tryz.t3, info_of Tryz.type3, rfl, by decide⟩, ⟨Tryz.t9, info_of Tryz.type9, rfl, by decide⟩, ⟨Tryz.t9, info_of Tryz.type9, rfl, by decide⟩, ⟨Tryz.t9, info_of Tryz.type9, rfl, by decide⟩, ⟨Tryz.t3, info_of Tryz.type3, rfl, by decide⟩, trivial⟩
  · exact fun _ => ⟨Tryz.stoodInHeld119, Tryz.eqGuardType119, rfl, kinds_ok ⟨⟨rfl, rfl, ⟨_, Tryz.underlying3⟩⟩, ⟨rfl, rfl, ⟨_, Tryz.underlying3⟩⟩, ⟨rfl, rfl, Tryz.underlying9⟩, ⟨rfl, rfl, Tryz.underlying9⟩, ⟨rfl, rfl, Tryz.underlying9⟩, ⟨rfl, rfl, ⟨_, Tryz.underlying3⟩⟩, trivial⟩⟩
theorem ty119 : TyOK Tryz.prog et 119 (.struct [0, 1, 2, 3, 4, 5] [1, 1, 1, 1, 1, 1] 6 [.int .i64 0, .int .i64 0, .str [], .str [], .str [], .int .i64 0] [.int, .int, .str, .str, .str, .int]) := ⟨⟨Tryz.t119, _, info_of Tryz.type119, rfl, rfl, rfl⟩, dz119, fun lt h => by cases h⟩
theorem ty127 : TyOK Tryz.prog et 127 (.slice .tlv) := ⟨⟨Tryz.t127, _, info_of Tryz.type127, rfl, rfl, rfl⟩, Tryz.underlying127, fun lt h => by cases h; exact ⟨⟨Tryz.t178, _, info_of Tryz.type178, rfl, rfl, rfl, rfl, fun zz h => by cases h⟩, fun h => by cases h⟩⟩
theorem ty131 : TyOK Tryz.prog et 131 (.arr 4 1 [.str [], .str [], .str [], .str []] false) := ⟨⟨Tryz.t131, _, info_of Tryz.type131, rfl, rfl, rfl⟩, ⟨9, Tryz.t9, Tryz.underlying131, info_of Tryz.type9, rfl, fun w => Tryz.isAgg9 w⟩, fun lt h => by cases h⟩
theorem ty132 : TyOK Tryz.prog et 132 (.arr 2 1 [.str [], .str []] false) := ⟨⟨Tryz.t132, _, info_of Tryz.type132, rfl, rfl, rfl⟩, ⟨9, Tryz.t9, Tryz.underlying132, info_of Tryz.type9, rfl, fun w => Tryz.isAgg9 w⟩, fun lt h => by cases h⟩
theorem dz134 : DescOK Tryz.prog et 134 (.struct [0, 4, 6] [4, 2, 1] 7 [.str [], .str [], .str [], .str [], .str [], .str [], .str []] []) := by
  refine ⟨_, Tryz.underlying134, rfl, rfl, fields_ok ?_, ?_⟩
  · exact ⟨⟨Tryz.t131, info_of Tryz.type131, rfl, by decide⟩, ⟨Tryz.t132, info_of Tryz.type132, rfl, by decide⟩, ⟨Tryz.t9, info_of Tryz.type9, rfl, by decide⟩, trivial⟩
  · exact fun h => absurd rfl h
theorem ty134 : TyOK Tryz.prog et 134 (.struct [0, 4, 6] [4, 2, 1] 7 [.str [], .str [], .str [], .str [], .str [], .str [], .str []] []) := ⟨⟨Tryz.t134, _, info_of Tryz.type134, rfl, rfl, rfl⟩, dz134, fun lt h => by cases h⟩
theorem dz159 : DescOK Tryz.prog et 159 (.struct [0, 1, 2, 3] [1, 1, 1, 1] 4 [.int .i64 0, .int .i64 0, .str [], .bool false] [.int, .int, .str, .bool]) := by
  refine ⟨_, Tryz.underlying159, rfl, rfl, fields_ok ?_, ?_⟩
  · exact ⟨⟨Tryz.t3, info_of Tryz.type3, rfl, by decide⟩, ⟨Tryz.t3, info_of Tryz.type3, rfl, by decide⟩, ⟨Tryz.t9, info_of Tryz.type9, rfl, by decide⟩, ⟨Tryz.t4, info_of Tryz.type4, rfl, by decide⟩, trivial⟩
  · exact fun _ => ⟨Tryz.stoodInHeld159, Tryz.eqGuardType159, rfl, kinds_ok ⟨⟨rfl, rfl, ⟨_, Tryz.underlying3⟩⟩, ⟨rfl, rfl, ⟨_, Tryz.underlying3⟩⟩, ⟨rfl, rfl, Tryz.underlying9⟩, ⟨rfl, rfl, Tryz.underlying4⟩, trivial⟩⟩
theorem ty159 : TyOK Tryz.prog et 159 (.struct [0, 1, 2, 3] [1, 1, 1, 1] 4 [.int .i64 0, .int .i64 0, .str [], .bool false] [.int, .int, .str, .bool]) := ⟨⟨Tryz.t159, _, info_of Tryz.type159, rfl, rfl, rfl⟩, dz159, fun lt h => by cases h⟩
theorem ty161 : TyOK Tryz.prog et 161 (.slice .u8) := ⟨⟨Tryz.t161, _, info_of Tryz.type161, rfl, rfl, rfl⟩, Tryz.underlying161, fun lt h => by cases h; exact ⟨⟨Tryz.t5, _, info_of Tryz.type5, rfl, rfl, rfl, rfl, fun zz h => by cases h; rfl⟩, fun _ => Tryz.underlying5⟩⟩
theorem dz164 : DescOK Tryz.prog et 164 (.struct [0, 1, 2] [1, 1, 1] 3 [.int .i64 0, .str [], .nilsl] []) := by
  refine ⟨_, Tryz.underlying164, rfl, rfl, fields_ok ?_, ?_⟩
  · exact ⟨⟨Tryz.t3, info_of Tryz.type3, rfl, by decide⟩, ⟨Tryz.t9, info_of Tryz.type9, rfl, by decide⟩, ⟨Tryz.t22, info_of Tryz.type22, rfl, by decide⟩, trivial⟩
  · exact fun h => absurd rfl h
theorem ty164 : TyOK Tryz.prog et 164 (.struct [0, 1, 2] [1, 1, 1] 3 [.int .i64 0, .str [], .nilsl] []) := ⟨⟨Tryz.t164, _, info_of Tryz.type164, rfl, rfl, rfl⟩, dz164, fun lt h => by cases h⟩
theorem dz168 : DescOK Tryz.prog et 168 (.struct [0, 1] [1, 1] 2 [.nilsl, .str []] []) := by
  refine ⟨_, Tryz.underlying168, rfl, rfl, fields_ok ?_, ?_⟩
  · exact ⟨⟨Tryz.t161, info_of Tryz.type161, rfl, by decide⟩, ⟨Tryz.t9, info_of Tryz.type9, rfl, by decide⟩, trivial⟩
  · exact fun h => absurd rfl h
theorem ty168 : TyOK Tryz.prog et 168 (.struct [0, 1] [1, 1] 2 [.nilsl, .str []] []) := ⟨⟨Tryz.t168, _, info_of Tryz.type168, rfl, rfl, rfl⟩, dz168, fun lt h => by cases h⟩
theorem dz178 : DescOK Tryz.prog et 178 (.struct [0, 1, 2] [1, 1, 1] 3 [.int .i64 0, .int .i64 0, .str []] [.int, .int, .str]) := by
  refine ⟨_, Tryz.underlying178, rfl, rfl, fields_ok ?_, ?_⟩
  · exact ⟨⟨Tryz.t3, info_of Tryz.type3, rfl, by decide⟩, ⟨Tryz.t3, info_of Tryz.type3, rfl, by decide⟩, ⟨Tryz.t9, info_of Tryz.type9, rfl, by decide⟩, trivial⟩
  · exact fun _ => ⟨Tryz.stoodInHeld178, Tryz.eqGuardType178, rfl, kinds_ok ⟨⟨rfl, rfl, ⟨_, Tryz.underlying3⟩⟩, ⟨rfl, rfl, ⟨_, Tryz.underlying3⟩⟩, ⟨rfl, rfl, Tryz.underlying9⟩, trivial⟩⟩
theorem ty178 : TyOK Tryz.prog et 178 (.struct [0, 1, 2] [1, 1, 1] 3 [.int .i64 0, .int .i64 0, .str []] [.int, .int, .str]) := ⟨⟨Tryz.t178, _, info_of Tryz.type178, rfl, rfl, rfl⟩, dz178, fun lt h => by cases h⟩
theorem ty187 : TyOK Tryz.prog et 187 (.arr 15 1 [.str [], .str [], .str [], .str [], .str [], .str [], .str [], .str [], .str [], .str [], .str [], .str [], .str [], .str [], .str []] false) := ⟨⟨Tryz.t187, _, info_of Tryz.type187, rfl, rfl, rfl⟩, ⟨9, Tryz.t9, Tryz.underlying187, info_of Tryz.type9, rfl, fun w => Tryz.isAgg9 w⟩, fun lt h => by cases h⟩
theorem dz191 : DescOK Tryz.prog et 191 (.struct [0, 1, 2, 3, 4, 5, 6, 7, 8, 9, 10, 11, 12, 13, 14, 15, 16, 17, 18, 19, 20, 21, 22] [1, 1, 1, 1, 1, 1, 1, 1, 1, 1, 1, 1, 1, 1, 1, 1, 1, 1, 1, 1, 1, 1, 1] 23 [.int .i64 0, .int .i64 0, .int .i64 0, .int .i64 0, .int .i64 0, .int .i64 0, .int .i64 0, .int .i64 0, .int .i64 0, .int .i64 0, .int .i64 0, .int .i64 0, .int .i64 0, .int .i64 0, .int .i64 0, .int .i64 0, .str [], .str [], .str [], .str [], .str [], .str [], .str []] [.int, .int, .int, .int, .int, .int, .int, .int, .int, .int, .int, .int, .int, .int, .int, .int, .str, .str, .str, .str, .str, .str, .str]) := by
  refine ⟨_, Tryz.underlying191, rfl, rfl, fields_ok ?_, ?_⟩
  · exact ⟨⟨Tryz.t3, info_of Tryz.type3, rfl, by decide⟩, ⟨Tryz.t3, info_of Tryz.type3, rfl, by decide⟩, ⟨Tryz.t3, info_of Tryz.type3, rfl, by decide⟩, ⟨Tryz.t3, info_of Tryz.type3, rfl, by decide⟩, ⟨Tryz.t3, info_of Tryz.type3, rfl, by decide⟩, ⟨Tryz.t3, info_of Tryz.type3, rfl, by decide⟩, ⟨Tryz.t3, info_of Tryz.type3, rfl, by decide⟩, ⟨Tryz.t3, info_of Tryz.type3, rfl, by decide⟩, ⟨Tryz.t3, info_of Tryz.type3, rfl, by decide⟩, ⟨Tryz.t3, info_of Tryz.type3, rfl, by decide⟩, ⟨Tryz.t3, info_of Tryz.type3, rfl, by decide⟩, ⟨Tryz.t3, info_of Tryz.type3, rfl, by decide⟩, ⟨Tryz.t3, info_of Tryz.type3, rfl, by decide⟩, ⟨Tryz.t3, info_of Tryz.type3, rfl, by decide⟩, ⟨Tryz.t3, info_of Tryz.type3, rfl, by decide⟩, ⟨Tryz.t3, info_of Tryz.type3, rfl, by decide⟩, ⟨Tryz.t9, info_of Tryz.type9, rfl, by decide⟩, ⟨Tryz.t9, info_of Tryz.type9, rfl, by decide⟩, ⟨Tryz.t9, info_of Tryz.type9, rfl, by decide⟩, ⟨Tryz.t9, info_of Tryz.type9, rfl, by decide⟩, ⟨Tryz.t9, info_of Tryz.type9, rfl, by decide⟩, ⟨Tryz.t9, info_of Tryz.type9, rfl, by decide⟩, ⟨Tryz.t9, info_of Tryz.type9, rfl, by decide⟩, trivial⟩
  · exact fun _ => ⟨Tryz.stoodInHeld191, Tryz.eqGuardType191, rfl, kinds_ok ⟨⟨rfl, rfl, ⟨_, Tryz.underlying3⟩⟩, ⟨rfl, rfl, ⟨_, Tryz.underlying3⟩⟩, ⟨rfl, rfl, ⟨_, Tryz.underlying3⟩⟩, ⟨rfl, rfl, ⟨_, Tryz.underlying3⟩⟩, ⟨rfl, rfl, ⟨_, Tryz.underlying3⟩⟩, ⟨rfl, rfl, ⟨_, Tryz.underlying3⟩⟩, ⟨rfl, rfl, ⟨_, Tryz.underlying3⟩⟩, ⟨rfl, rfl, ⟨_, Tryz.underlying3⟩⟩, ⟨rfl, rfl, ⟨_, Tryz.underlying3⟩⟩, ⟨rfl, rfl, ⟨_, Tryz.underlying3⟩⟩, ⟨rfl, rfl, ⟨_, Tryz.underlying3⟩⟩, ⟨rfl, rfl, ⟨_, Tryz.underlying3⟩⟩, ⟨rfl, rfl, ⟨_, Tryz.underlying3⟩⟩, ⟨rfl, rfl, ⟨_, Tryz.underlying3⟩⟩, ⟨rfl, rfl, ⟨_, Tryz.underlying3⟩⟩, ⟨rfl, rfl, ⟨_, Tryz.underlying3⟩⟩, ⟨rfl, rfl, Tryz.underlying9⟩, ⟨rfl, rfl, Tryz.underlying9⟩, ⟨rfl, rfl, Tryz.underlying9⟩, ⟨rfl, rfl, Tryz.underlying9⟩, ⟨rfl, rfl, Tryz.underlying9⟩, ⟨rfl, rfl, Tryz.underlying9⟩, ⟨rfl, rfl, Tryz.underlying9⟩, trivial⟩⟩
theorem ty191 : TyOK Tryz.prog et 191 (.struct [0, 1, 2, 3, 4, 5, 6, 7, 8, 9, 10, 11, 12, 13, 14, 15, 16, 17, 18, 19, 20, 21, 22] [1, 1, 1, 1, 1, 1, 1, 1, 1, 1, 1, 1, 1, 1, 1, 1, 1, 1, 1, 1, 1, 1, 1] 23 [.int .i64 0, .int .i64 0, .int .i64 0, .int .i64 0, .int .i64 0, .int .i64 0, .int .i64 0, .int .i64 0, .int .i64 0, .int .i64 0, .int .i64 0, .int .i64 0, .int .i64 0, .int .i64 0, .int .i64 0, .int .i64 0, .str [], .str [], .str [], .str [], .str [], .str [], .str []] [.int, .int, .int, .int, .int, .int, .int, .int, .int, .int, .int, .int, .int, .int, .int, .int, .str, .str, .str, .str, .str, .str, .str]) := ⟨⟨Tryz.t191, _, info_of Tryz.type191, rfl, rfl, rfl⟩, dz191, fun lt h => by cases h⟩
theorem ty193 : TyOK Tryz.prog et 193 (.int .u64) := ⟨⟨Tryz.t193, _, info_of Tryz.type193, rfl, rfl, rfl⟩, Tryz.underlying193, fun lt h => by cases h⟩
theorem dz197 : DescOK Tryz.prog et 197 (.struct [0, 1, 2, 3] [1, 1, 1, 1] 4 [.str [], .int .i64 0, .int .i64 0, .bool false] [.str, .int, .int, .bool]) := by
  refine ⟨_, Tryz.underlying197, rfl, rfl, fields_ok ?_, ?_⟩
  · exact ⟨⟨Tryz.t9, info_of Tryz.type9, rfl, by decide⟩, ⟨Tryz.t3, info_of Tryz.type3, rfl, by decide⟩, ⟨Tryz.t3, info_of Tryz.type3, rfl, by decide⟩, ⟨Tryz.t4, info_of Tryz.type4, rfl, by decide⟩, trivial⟩
  · exact fun _ => ⟨Tryz.stoodInHeld197, Tryz.eqGuardType197, rfl, kinds_ok ⟨⟨rfl, rfl, Tryz.underlying9⟩, ⟨rfl, rfl, ⟨_, Tryz.underlying3⟩⟩, ⟨rfl, rfl, ⟨_, Tryz.underlying3⟩⟩, ⟨rfl, rfl, Tryz.underlying4⟩, trivial⟩⟩
theorem ty197 : TyOK Tryz.prog et 197 (.struct [0, 1, 2, 3] [1, 1, 1, 1] 4 [.str [], .int .i64 0, .int .i64 0, .bool false] [.str, .int, .int, .bool]) := ⟨⟨Tryz.t197, _, info_of Tryz.type197, rfl, rfl, rfl⟩, dz197, fun lt h => by cases h⟩
theorem dz200 : DescOK Tryz.prog et 200 (.struct [0] [4] 4 [.str [], .int .i64 0, .int .i64 0, .bool false] []) := by
  refine ⟨_, Tryz.underlying200, rfl, rfl, fields_ok ?_, ?_⟩
  · exact ⟨⟨Tryz.t197, info_of Tryz.type197, rfl, by decide⟩, trivial⟩
  · exact fun h => absurd rfl h
theorem ty200 : TyOK Tryz.prog et 200 (.struct [0] [4] 4 [.str [], .int .i64 0, .int .i64 0, .bool false] []) := ⟨⟨Tryz.t200, _, info_of Tryz.type200, rfl, rfl, rfl⟩, dz200, fun lt h => by cases h⟩
theorem ty203 : TyOK Tryz.prog et 203 (.slice .int) := ⟨⟨Tryz.t203, _, info_of Tryz.type203, rfl, rfl, rfl⟩, Tryz.underlying203, fun lt h => by cases h; exact ⟨⟨Tryz.t3, _, info_of Tryz.type3, rfl, rfl, rfl, rfl, fun zz h => by cases h; rfl⟩, fun h => by cases h⟩⟩
theorem dz209 : DescOK Tryz.prog et 209 (.struct [0, 1] [1, 7] 8 [.nilsl, .str [], .str [], .str [], .str [], .str [], .str [], .str []] []) := by
  refine ⟨_, Tryz.underlying209, rfl, rfl, fields_ok ?_, ?_⟩
  · exact ⟨⟨Tryz.t161, info_of Tryz.type161, rfl, by decide⟩, ⟨Tryz.t134, info_of Tryz.type134, rfl, by decide⟩, trivial⟩
  · exact fun h => absurd rfl h
theorem ty209 : TyOK Tryz.prog et 209 (.struct [0, 1] [1, 7] 8 [.nilsl, .str [], .str [], .str [], .str [], .str [], .str [], .str []] []) := ⟨⟨Tryz.t209, _, info_of Tryz.type209, rfl, rfl, rfl⟩, dz209, fun lt h => by cases h⟩
theorem dz230 : DescOK Tryz.prog et 230 (.struct [0, 1, 2, 3] [1, 1, 1, 1] 4 [.int .i64 0, .int .i64 0, .int .i64 0, .int .i64 0] [.int, .int, .int, .int]) := by
  refine ⟨_, Tryz.underlying230, rfl, rfl, fields_ok ?_, ?_⟩
  · exact ⟨⟨Tryz.t3, info_of Tryz.type3, rfl, by decide⟩, ⟨Tryz.t3, info_of Tryz.type3, rfl, by decide⟩, ⟨Tryz.t3, info_of Tryz.type3, rfl, by decide⟩, ⟨Tryz.t3, info_of Tryz.type3, rfl, by decide⟩, trivial⟩
  · exact fun _ => ⟨Tryz.stoodInHeld230, Tryz.eqGuardType230, rfl, kinds_ok ⟨⟨rfl, rfl, ⟨_, Tryz.underlying3⟩⟩, ⟨rfl, rfl, ⟨_, Tryz.underlying3⟩⟩, ⟨rfl, rfl, ⟨_, Tryz.underlying3⟩⟩, ⟨rfl, rfl, ⟨_, Tryz.underlying3⟩⟩, trivial⟩⟩
theorem ty230 : TyOK Tryz.prog et 230 (.struct [0, 1, 2, 3] [1, 1, 1, 1] 4 [.int .i64 0, .int .i64 0, .int .i64 0, .int .i64 0] [.int, .int, .int, .int]) := ⟨⟨Tryz.t230, _, info_of Tryz.type230, rfl, rfl, rfl⟩, dz230, fun lt h => by cases h⟩
theorem ty231 : TyOK Tryz.prog et 231 (.arr 4 4 [.int .i64 0, .int .i64 0, .int .i64 0, .int .i64 0, .int .i64 0, .int .i64 0, .int .i64 0, .int .i64 0, .int .i64 0, .int .i64 0, .int .i64 0, .int .i64 0, .int .i64 0, .int .i64 0, .int .i64 0, .int .i64 0] true) := ⟨⟨Tryz.t231, _, info_of Tryz.type231, rfl, rfl, rfl⟩, ⟨230, Tryz.t230, Tryz.underlying231, info_of Tryz.type230, rfl, fun w => Tryz.isAgg230 w⟩, fun lt h => by cases h⟩
theorem dz253 : DescOK Tryz.prog et 253 (.struct [0] [7] 7 [.str [], .str [], .str [], .str [], .str [], .str [], .str []] []) := by
  refine ⟨_, Tryz.underlying253, rfl, rfl, fields_ok ?_, ?_⟩
  · exact ⟨⟨Tryz.t134, info_of Tryz.type134, rfl, by decide⟩, trivial⟩
  · exact fun h => absurd rfl h
theorem ty253 : TyOK Tryz.prog et 253 (.struct [0] [7] 7 [.str [], .str [], .str [], .str [], .str [], .str [], .str []] []) := ⟨⟨Tryz.t253, _, info_of Tryz.type253, rfl, rfl, rfl⟩, dz253, fun lt h => by cases h⟩
theorem dz259 : DescOK Tryz.prog et 259 (.struct [0] [4] 4 [.str [], .int .i64 0, .int .i64 0, .bool false] []) := by
  refine ⟨_, Tryz.underlying259, rfl, rfl, fields_ok ?_, ?_⟩
  · exact ⟨⟨Tryz.t197, info_of Tryz.type197, rfl, by decide⟩, trivial⟩
  · exact fun h => absurd rfl h
theorem ty259 : TyOK Tryz.prog et 259 (.struct [0] [4] 4 [.str [], .int .i64 0, .int .i64 0, .bool false] []) := ⟨⟨Tryz.t259, _, info_of Tryz.type259, rfl, rfl, rfl⟩, dz259, fun lt h => by cases h⟩
theorem dz263 : DescOK Tryz.prog et 263 (.struct [0] [4] 4 [.str [], .int .i64 0, .int .i64 0, .bool false] []) := by
  refine ⟨_, Tryz.underlying263, rfl, rfl, fields_ok ?_, ?_⟩
  · exact ⟨⟨Tryz.t197, info_of Tryz.type197, rfl, by decide⟩, trivial⟩
  · exact fun h => absurd rfl h
theorem ty263 : TyOK Tryz.prog et 263 (.struct [0] [4] 4 [.str [], .int .i64 0, .int .i64 0, .bool false] []) := ⟨⟨Tryz.t263, _, info_of Tryz.type263, rfl, rfl, rfl⟩, dz263, fun lt h => by cases h⟩
theorem dz269 : DescOK Tryz.prog et 269 (.struct [0] [1] 1 [.nilsl] []) := by
  refine ⟨_, Tryz.underlying269, rfl, rfl, fields_ok ?_, ?_⟩
  · exact ⟨⟨Tryz.t161, info_of Tryz.type161, rfl, by decide⟩, trivial⟩
  · exact fun h => absurd rfl h
theorem ty269 : TyOK Tryz.prog et 269 (.struct [0] [1] 1 [.nilsl] []) := ⟨⟨Tryz.t269, _, info_of Tryz.type269, rfl, rfl, rfl⟩, dz269, fun lt h => by cases h⟩
theorem dz272 : DescOK Tryz.prog et 272 (.struct [0, 1, 2, 3, 4, 5, 6, 7, 8, 9] [1, 1, 1, 1, 1, 1, 1, 1, 1, 1] 10 [.int .i64 0, .int .i64 0, .int .i64 0, .int .i64 0, .int .i64 0, .int .i64 0, .int .i64 0, .int .i64 0, .str [], .nilsl] []) := by
  refine ⟨_, Tryz.underlying272, rfl, rfl, fields_ok ?_, ?_⟩
  · exact ⟨⟨Tryz.t3, info_of Tryz.type3, rfl, by decide⟩, ⟨Tryz.t3, info_of Tryz.type3, rfl, by decide⟩, ⟨Tryz.t3, info_of Tryz.type3, rfl, by decide⟩, ⟨Tryz.t3, info_of Tryz.type3, rfl, by decide⟩, ⟨Tryz.t3, info_of Tryz.type3, rfl, by decide⟩, ⟨Tryz.t3, info_of Tryz.type3, rfl, by decide⟩, ⟨Tryz.t3, info_of Tryz.type3, rfl, by decide⟩, ⟨Tryz.t3, info_of Tryz.type3, rfl, by decide⟩, ⟨Tryz.t9, info_of Tryz.type9, rfl, by decide⟩, ⟨Tryz.t27, info_of Tryz.type27, rfl, by decide⟩, trivial⟩
  · exact fun h => absurd rfl h
theorem ty272 : TyOK Tryz.prog et 272 (.struct [0, 1, 2, 3, 4, 5, 6, 7, 8, 9] [1, 1, 1, 1, 1, 1, 1, 1, 1, 1] 10 [.int .i64 0, .int .i64 0, .int .i64 0, .int .i64 0, .int .i64 0, .int .i64 0, .int .i64 0, .int .i64 0, .str [], .nilsl] []) := ⟨⟨Tryz.t272, _, info_of Tryz.type272, rfl, rfl, rfl⟩, dz272, fun lt h => by cases h⟩
theorem ty278 : TyOK Tryz.prog et 278 (.arr 4 1 [.int .i64 0, .int .i64 0, .int .i64 0, .int .i64 0] false) := ⟨⟨Tryz.t278, _, info_of Tryz.type278, rfl, rfl, rfl⟩, ⟨3, Tryz.t3, Tryz.underlying278, info_of Tryz.type3, rfl, fun w => Tryz.isAgg3 w⟩, fun lt h => by cases h⟩
theorem ty283 : TyOK Tryz.prog et 283 (.ptr) := ⟨⟨Tryz.t283, _, info_of Tryz.type283, rfl, rfl, rfl⟩, ⟨_, Tryz.underlying283⟩, fun lt h => by cases h⟩
def tt : TT := [(2, .int .i64),
  (3, .int .i64),
  (4, .bool),
  (5, .int .u8),
  (9, .str),
  (21, .int .i32),
  (22, .slice .msg),
  (26, .slice .dest),
  (27, .slice .sub),
  (29, .struct [0, 1, 2, 3, 4, 5, 6, 7, 8, 9, 10, 11, 12, 13, 14, 15, 16, 17, 18, 19, 20, 21, 22, 23, 24] [1, 1, 1, 1, 1, 1, 1, 1, 1, 1, 1, 1, 1, 1, 1, 1, 1, 1, 1, 1, 1, 1, 1, 1, 1] 25 [.int .i64 0, .int .i64 0, .int .i64 0, .str [], .int .i64 0, .int .i64 0, .str [], .int .i64 0, .int .i64 0, .str [], .int .i64 0, .str [], .int .i64 0, .int .i64 0, .int .i64 0, .int .i64 0, .int .i64 0, .int .i64 0, .int .i64 0, .str [], .str [], .nilsl, .int .i64 0, .str [], .nilsl] []),
  (30, .int .i64),
  (39, .func),
  (40, .slice .str),
  (45, .int .u16),
  (53, .struct [0, 1, 2, 3] [1, 1, 1, 1] 4 [.int .u8 0, .nilsl, .int .u16 0, .int .u8 0] []),
  (62, .arr 3 1 [.int .i64 0, .int .i64 0, .int .i64 0] false),
  (75, .func),
  (76, .func),
  (78, .struct [0, 1, 2] [1, 1, 1] 3 [.nilfn, .nilfn, .nilfn] []),
  (83, .struct [0, 1] [1, 1] 2 [.str [], .int .i64 0] [.str, .int]),
  (85, .struct [0, 1] [1, 1] 2 [.int .i64 0, .str []] [.int, .str]),
  (93, .int .u32),
  (119, .struct [0, 1, 2, 3, 4, 5] [1, 1, 1, 1, 1, 1] 6 [.int .i64 0, .int .i64 0, .str [], .str [], .str [], .int .i64 0] [.int, .int, .str, .str, .str, .int]),
  (127, .slice .tlv),
  (131, .arr 4 1 [.str [], .str [], .str [], .str []] false),
  (132, .arr 2 1 [.str [], .str []] false),
  (134, .struct [0, 4, 6] [4, 2, 1] 7 [.str [], .str [], .str [], .str [], .str [], .str [], .str []] []),
  (159, .struct [0, 1, 2, 3] [1, 1, 1, 1] 4 [.int .i64 0, .int .i64 0, .str [], .bool false] [.int, .int, .str, .bool]),
  (161, .slice .u8),
  (164, .struct [0, 1, 2] [1, 1, 1] 3 [.int .i64 0, .str [], .nilsl] []),
  (168, .struct [0, 1] [1, 1] 2 [.nilsl, .str []] []),
  (178, .struct [0, 1, 2] [1, 1, 1] 3 [.int .i64 0, .int .i64 0, .str []] [.int, .int, .str]),
  (187, .arr 15 1 [.str [], .str [], .str [], .str [], .str [], .str [], .str [], .str [], .str [], .str [], .str [], .str [], .str [], .str [], .str []] false),
  (191, .struct [0, 1, 2, 3, 4, 5, 6, 7, 8, 9, 10, 11, 12, 13, 14, 15, 16, 17, 18, 19, 20, 21, 22] [1, 1, 1, 1, 1, 1, 1, 1, 1, 1, 1, 1, 1, 1, 1, 1, 1, 1, 1, 1, 1, 1, 1] 23 [.int .i64 0, .int .i64 0, .int .i64 0, .int .i64 0, .int .i64 0, .int .i64 0, .int .i64 0, .int .i64 0, .int .i64 0, .int .i64 0, .int .i64 0, .int .i64 0, .int .i64 0, .int .i64 0, .int .i64 0, .int .i64 0, .str [], .str [], .str [], .str [], .str [], .str [], .str []] [.int, .int, .int, .int, .int, .int, .int, .int, .int, .int, .int, .int, .int, .int, .int, .int, .str, .str, .str, .str, .str, .str, .str]),
  (193, .int .u64),
  (197, .struct [0, 1, 2, 3] [1, 1, 1, 1] 4 [.str [], .int .i64 0, .int .i64 0, .bool false] [.str, .int, .int, .bool]),
  (200, .struct [0] [4] 4 [.str [], .int .i64 0, .int .i64 0, .bool false] []),
  (203, .slice .int),
  (209, .struct [0, 1] [1, 7] 8 [.nilsl, .str [], .str [], .str [], .str [], .str [], .str [], .str []] []),
  (230, .struct [0, 1, 2, 3] [1, 1, 1, 1] 4 [.int .i64 0, .int .i64 0, .int .i64 0, .int .i64 0] [.int, .int, .int, .int]),
  (231, .arr 4 4 [.int .i64 0, .int .i64 0, .int .i64 0, .int .i64 0, .int .i64 0, .int .i64 0, .int .i64 0, .int .i64 0, .int .i64 0, .int .i64 0, .int .i64 0, .int .i64 0, .int .i64 0, .int .i64 0, .int .i64 0, .int .i64 0] true),
  (253, .struct [0] [7] 7 [.str [], .str [], .str [], .str [], .str [], .str [], .str []] []),
  (259, .struct [0] [4] 4 [.str [], .int .i64 0, .int .i64 0, .bool false] []),
  (263, .struct [0] [4] 4 [.str [], .int .i64 0, .int .i64 0, .bool false] []),
  (269, .struct [0] [1] 1 [.nilsl] []),
  (272, .struct [0, 1, 2, 3, 4, 5, 6, 7, 8, 9] [1, 1, 1, 1, 1, 1, 1, 1, 1, 1] 10 [.int .i64 0, .int .i64 0, .int .i64 0, .int .i64 0, .int .i64 0, .int .i64 0, .int .i64 0, .int .i64 0, .str [], .nilsl] []),
  (278, .arr 4 1 [.int .i64 0, .int .i64 0, .int .i64 0, .int .i64 0] false),
  (283, .ptr)]
theorem ttOK : TypesOK Tryz.prog et tt := TypesOK.of (all_cons ty2 (all_cons ty3 (all_cons ty4 (all_cons ty5 (all_cons ty9 (all_cons ty21 (all_cons ty22 (all_cons ty26 (all_cons ty27 (all_cons ty29 (all_cons ty30 (all_cons ty39 (all_cons ty40 (all_cons ty45 (all_cons ty53 (all_cons ty62 (all_cons ty75 (all_cons ty76 (all_cons ty78 (all_cons ty83 (all_cons ty85 (all_cons ty93 (all_cons ty119 (all_cons ty127 (all_cons ty131 (all_cons ty132 (all_cons ty134 (all_cons ty159 (all_cons ty161 (all_cons ty164 (all_cons ty168 (all_cons ty178 (all_cons ty187 (all_cons ty191 (all_cons ty193 (all_cons ty197 (all_cons ty200 (all_cons ty203 (all_cons ty209 (all_cons ty230 (all_cons ty231 (all_cons ty253 (all_cons ty259 (all_cons ty263 (all_cons ty269 (all_cons ty272 (all_cons ty278 (all_cons ty283 (all_nil)))))))))))))))))))))))))))))))))))))))))))))))))
end Go.Proofs.Fw

set_option autoImplicit false
set_option linter.unusedVariables false
namespace Go.Proofs.Fw
open Go
variable {P : Program} {et : LTag → TypeId}
theorem CallsOK.nil : CallsOK P et [] := fun g s h => by simp [look] at h
theorem CallsOK.cons {g : Nat} {s : FSpec} {calls : List (Nat × FSpec)} (h : CallSound P et g s) (k : CallsOK P et calls) : CallsOK P et ((g, s) :: calls) := fun g' s' hl => by
  rcases List.mem_cons.1 (look_mem hl) with e | e
  · cases e; exact h
  · unfold look at hl
    cases hb : Nat.beq g g' with
    | true =>
      rw [hb] at hl
      simp at hl
      have := Nat.eq_of_beq_eq_true hb
      subst this; subst hl; exact h
    | false =>
      rw [hb] at hl
      exact k g' s' hl
def below (n : Nat) : List Nat → Bool
  | [] => true
  | x :: xs => Nat.blt x n && below n xs
theorem below_ok {n : Nat} : ∀ {l : List Nat}, below n l = true → ∀ x ∈ l, x < n
  | [], _, x, h => by cases h
  | y :: l, h, x, hx => by
    simp only [below, Bool.and_eq_true] at h
    rcases List.mem_cons.1 hx with rfl | hx
    · simpa [Nat.blt_eq] using h.1
    · exact below_ok h.2 x hx
def bodyOf (fn : Func) : Code := match fn.body with
  | some c => c
  | none => .skip
/-- What is to be reckoned of a function. -/
def fnOK (fn : Func) : Bool := fn.body.isSome && !(fn.name == "runtime.NumGoroutine") && below fn.ntmps (Code.dsts (bodyOf fn))
theorem fn_body {fn : Func} (h : fnOK fn = true) : fn.body = some (bodyOf fn) ∧ (fn.name == "runtime.NumGoroutine") = false ∧ ∀ x ∈ Code.dsts (bodyOf fn), x < fn.ntmps := by
  simp only [fnOK, Bool.and_eq_true, Bool.not_eq_true'] at h
  refine ⟨?_, h.1.2, below_ok h.2⟩
  unfold bodyOf
  cases hb : fn.body with
  | none => rw [hb] at h; simp at h
  | some c => rfl
theorem hmix : Tryz.prog.follows .mixedOrders = true := by kernel_rfl
theorem auto {calls : List (Nat × FSpec)} (C : CallsOK Tryz.prog et calls) {tt : TT} (T : TypesOK Tryz.prog et tt) {insT : InsT} {fuel g : Nat} {fn : Func} (hf : Tryz.prog.funcs[g]? = some fn) (h : fnOK fn = true) : CallSound Tryz.prog et g (vfun tt calls insT fuel fn) :=
  vfun_sound T C hmix hf (fn_body h).1 (fn_body h).2.1 (fn_body h).2.2
end Go.Proofs.Fw

set_option autoImplicit false
set_option maxRecDepth 20000
namespace Go.Proofs.Fw
open Go
def tab0 : List (Nat × FSpec) := []
theorem tabOK0 : CallsOK Tryz.prog et tab0 := CallsOK.nil
noncomputable def tab1 : List (Nat × FSpec) := (198, vfun tt tab0 [] 2000 Tryz.f198) :: tab0
theorem tabOK1 : CallsOK Tryz.prog et tab1 := CallsOK.cons (auto tabOK0 ttOK Tryz.func198 (by kernel_rfl)) tabOK0
noncomputable def tab2 : List (Nat × FSpec) := (130, vfun tt tab1 [] 2000 Tryz.f130) :: tab1
theorem tabOK2 : CallsOK Tryz.prog et tab2 := CallsOK.cons (auto tabOK1 ttOK Tryz.func130 (by kernel_rfl)) tabOK1
noncomputable def tab3 : List (Nat × FSpec) := (131, vfun tt tab2 [] 2000 Tryz.f131) :: tab2
theorem tabOK3 : CallsOK Tryz.prog et tab3 := CallsOK.cons (auto tabOK2 ttOK Tryz.func131 (by kernel_rfl)) tabOK2
noncomputable def tab4 : List (Nat × FSpec) := (132, vfun tt tab3 [(2, [(2, none), (6, none), (7, none), (8, none)])] 2000 Tryz.f132) :: tab3
theorem tabOK4 : CallsOK Tryz.prog et tab4 := CallsOK.cons (auto tabOK3 ttOK Tryz.func132 (by kernel_rfl)) tabOK3
noncomputable def tab5 : List (Nat × FSpec) := (133, vfun tt tab4 [] 2000 Tryz.f133) :: tab4
theorem tabOK5 : CallsOK Tryz.prog et tab5 := CallsOK.cons (auto tabOK4 ttOK Tryz.func133 (by kernel_rfl)) tabOK4
noncomputable def tab6 : List (Nat × FSpec) := (247, vfun tt tab5 [] 2000 Tryz.f247) :: tab5
theorem tabOK6 : CallsOK Tryz.prog et tab6 := CallsOK.cons (auto tabOK5 ttOK Tryz.func247 (by kernel_rfl)) tabOK5
noncomputable def tab7 : List (Nat × FSpec) := (199, vfun tt tab6 [] 2000 Tryz.f199) :: tab6
theorem tabOK7 : CallsOK Tryz.prog et tab7 := CallsOK.cons (auto tabOK6 ttOK Tryz.func199 (by kernel_rfl)) tabOK6
noncomputable def tab8 : List (Nat × FSpec) := (134, vfun tt tab7 [] 2000 Tryz.f134) :: tab7
theorem tabOK8 : CallsOK Tryz.prog et tab8 := CallsOK.cons (auto tabOK7 ttOK Tryz.func134 (by kernel_rfl)) tabOK7
noncomputable def tab9 : List (Nat × FSpec) := (76, vfun tt tab8 [] 2000 Tryz.f76) :: tab8
theorem tabOK9 : CallsOK Tryz.prog et tab9 := CallsOK.cons (auto tabOK8 ttOK Tryz.func76 (by kernel_rfl)) tabOK8
noncomputable def tab10 : List (Nat × FSpec) := (135, vfun tt tab9 [] 2000 Tryz.f135) :: tab9
theorem tabOK10 : CallsOK Tryz.prog et tab10 := CallsOK.cons (auto tabOK9 ttOK Tryz.func135 (by kernel_rfl)) tabOK9
noncomputable def tab11 : List (Nat × FSpec) := (252, vfun tt tab10 [] 2000 Tryz.f252) :: tab10
theorem tabOK11 : CallsOK Tryz.prog et tab11 := CallsOK.cons (auto tabOK10 ttOK Tryz.func252 (by kernel_rfl)) tabOK10
noncomputable def tab12 : List (Nat × FSpec) := (248, vfun tt tab11 [] 2000 Tryz.f248) :: tab11
theorem tabOK12 : CallsOK Tryz.prog et tab12 := CallsOK.cons (auto tabOK11 ttOK Tryz.func248 (by kernel_rfl)) tabOK11
noncomputable def tab13 : List (Nat × FSpec) := (200, vfun tt tab12 [] 2000 Tryz.f200) :: tab12
theorem tabOK13 : CallsOK Tryz.prog et tab13 := CallsOK.cons (auto tabOK12 ttOK Tryz.func200 (by kernel_rfl)) tabOK12
noncomputable def tab14 : List (Nat × FSpec) := (136, vfun tt tab13 [] 2000 Tryz.f136) :: tab13
theorem tabOK14 : CallsOK Tryz.prog et tab14 := CallsOK.cons (auto tabOK13 ttOK Tryz.func136 (by kernel_rfl)) tabOK13
noncomputable def tab15 : List (Nat × FSpec) := (201, vfun tt tab14 [] 2000 Tryz.f201) :: tab14
theorem tabOK15 : CallsOK Tryz.prog et tab15 := CallsOK.cons (auto tabOK14 ttOK Tryz.func201 (by kernel_rfl)) tabOK14
noncomputable def tab16 : List (Nat × FSpec) := (290, vfun tt tab15 [] 2000 Tryz.f290) :: tab15
theorem tabOK16 : CallsOK Tryz.prog et tab16 := CallsOK.cons (auto tabOK15 ttOK Tryz.func290 (by kernel_rfl)) tabOK15
noncomputable def tab17 : List (Nat × FSpec) := (249, vfun tt tab16 [(9, [(5, none), (6, none), (8, none), (35, none), (36, none), (37, none)])] 2000 Tryz.f249) :: tab16
theorem tabOK17 : CallsOK Tryz.prog et tab17 := CallsOK.cons (auto tabOK16 ttOK Tryz.func249 (by kernel_rfl)) tabOK16
noncomputable def tab18 : List (Nat × FSpec) := (202, vfun tt tab17 [] 2000 Tryz.f202) :: tab17
theorem tabOK18 : CallsOK Tryz.prog et tab18 := CallsOK.cons (auto tabOK17 ttOK Tryz.func202 (by kernel_rfl)) tabOK17
noncomputable def tab19 : List (Nat × FSpec) := (250, vfun tt tab18 [] 2000 Tryz.f250) :: tab18
theorem tabOK19 : CallsOK Tryz.prog et tab19 := CallsOK.cons (auto tabOK18 ttOK Tryz.func250 (by kernel_rfl)) tabOK18
noncomputable def tab20 : List (Nat × FSpec) := (203, vfun tt tab19 [] 2000 Tryz.f203) :: tab19
theorem tabOK20 : CallsOK Tryz.prog et tab20 := CallsOK.cons (auto tabOK19 ttOK Tryz.func203 (by kernel_rfl)) tabOK19
noncomputable def tab21 : List (Nat × FSpec) := (137, vfun tt tab20 [] 2000 Tryz.f137) :: tab20
theorem tabOK21 : CallsOK Tryz.prog et tab21 := CallsOK.cons (auto tabOK20 ttOK Tryz.func137 (by kernel_rfl)) tabOK20
noncomputable def tab22 : List (Nat × FSpec) := (205, vfun tt tab21 [] 2000 Tryz.f205) :: tab21
theorem tabOK22 : CallsOK Tryz.prog et tab22 := CallsOK.cons (auto tabOK21 ttOK Tryz.func205 (by kernel_rfl)) tabOK21
noncomputable def tab23 : List (Nat × FSpec) := (291, vfun tt tab22 [] 2000 Tryz.f291) :: tab22
theorem tabOK23 : CallsOK Tryz.prog et tab23 := CallsOK.cons (auto tabOK22 ttOK Tryz.func291 (by kernel_rfl)) tabOK22
noncomputable def tab24 : List (Nat × FSpec) := (251, vfun tt tab23 [] 2000 Tryz.f251) :: tab23
theorem tabOK24 : CallsOK Tryz.prog et tab24 := CallsOK.cons (auto tabOK23 ttOK Tryz.func251 (by kernel_rfl)) tabOK23
noncomputable def tab25 : List (Nat × FSpec) := (204, vfun tt tab24 [] 2000 Tryz.f204) :: tab24
theorem tabOK25 : CallsOK Tryz.prog et tab25 := CallsOK.cons (auto tabOK24 ttOK Tryz.func204 (by kernel_rfl)) tabOK24
noncomputable def tab26 : List (Nat × FSpec) := (138, vfun tt tab25 [] 2000 Tryz.f138) :: tab25
theorem tabOK26 : CallsOK Tryz.prog et tab26 := CallsOK.cons (auto tabOK25 ttOK Tryz.func138 (by kernel_rfl)) tabOK25
noncomputable def tab27 : List (Nat × FSpec) := (77, vfun tt tab26 [(13, [(0, none), (2, none), (3, none), (4, none), (7, none), (8, none), (11, none)])] 2000 Tryz.f77) :: tab26
theorem tabOK27 : CallsOK Tryz.prog et tab27 := CallsOK.cons (auto tabOK26 ttOK Tryz.func77 (by kernel_rfl)) tabOK26
noncomputable def tab28 : List (Nat × FSpec) := (139, vfun tt tab27 [] 2000 Tryz.f139) :: tab27
theorem tabOK28 : CallsOK Tryz.prog et tab28 := CallsOK.cons (auto tabOK27 ttOK Tryz.func139 (by kernel_rfl)) tabOK27
noncomputable def tab29 : List (Nat × FSpec) := (140, vfun tt tab28 [] 2000 Tryz.f140) :: tab28
theorem tabOK29 : CallsOK Tryz.prog et tab29 := CallsOK.cons (auto tabOK28 ttOK Tryz.func140 (by kernel_rfl)) tabOK28
noncomputable def tab30 : List (Nat × FSpec) := (142, vfun tt tab29 [] 2000 Tryz.f142) :: tab29
theorem tabOK30 : CallsOK Tryz.prog et tab30 := CallsOK.cons (auto tabOK29 ttOK Tryz.func142 (by kernel_rfl)) tabOK29
noncomputable def tab31 : List (Nat × FSpec) := (216, vfun tt tab30 [(5, [(0, none), (6, none), (7, none)])] 2000 Tryz.f216) :: tab30
theorem tabOK31 : CallsOK Tryz.prog et tab31 := CallsOK.cons (auto tabOK30 ttOK Tryz.func216 (by kernel_rfl)) tabOK30
noncomputable def tab32 : List (Nat × FSpec) := (206, vfun tt tab31 [] 2000 Tryz.f206) :: tab31
theorem tabOK32 : CallsOK Tryz.prog et tab32 := CallsOK.cons (auto tabOK31 ttOK Tryz.func206 (by kernel_rfl)) tabOK31
noncomputable def tab33 : List (Nat × FSpec) := (141, vfun tt tab32 [] 2000 Tryz.f141) :: tab32
theorem tabOK33 : CallsOK Tryz.prog et tab33 := CallsOK.cons (auto tabOK32 ttOK Tryz.func141 (by kernel_rfl)) tabOK32
noncomputable def tab34 : List (Nat × FSpec) := (78, vfun tt tab33 [(2, [(0, none), (2, none), (3, none), (4, none), (13, none), (14, none), (15, none)]), (16, [(0, none), (2, none), (3, none), (4, none), (7, none), (8, none), (53, none), (54, none), (55, none)])] 2000 Tryz.f78) :: tab33
theorem tabOK34 : CallsOK Tryz.prog et tab34 := CallsOK.cons (auto tabOK33 ttOK Tryz.func78 (by kernel_rfl)) tabOK33
noncomputable def tab35 : List (Nat × FSpec) := (207, vfun tt tab34 [] 2000 Tryz.f207) :: tab34
theorem tabOK35 : CallsOK Tryz.prog et tab35 := CallsOK.cons (auto tabOK34 ttOK Tryz.func207 (by kernel_rfl)) tabOK34
noncomputable def tab36 : List (Nat × FSpec) := (143, vfun tt tab35 [] 2000 Tryz.f143) :: tab35
theorem tabOK36 : CallsOK Tryz.prog et tab36 := CallsOK.cons (auto tabOK35 ttOK Tryz.func143 (by kernel_rfl)) tabOK35
noncomputable def tab37 : List (Nat × FSpec) := (79, vfun tt tab36 [] 2000 Tryz.f79) :: tab36
theorem tabOK37 : CallsOK Tryz.prog et tab37 := CallsOK.cons (auto tabOK36 ttOK Tryz.func79 (by kernel_rfl)) tabOK36
noncomputable def tab38 : List (Nat × FSpec) := (144, vfun tt tab37 [] 2000 Tryz.f144) :: tab37
theorem tabOK38 : CallsOK Tryz.prog et tab38 := CallsOK.cons (auto tabOK37 ttOK Tryz.func144 (by kernel_rfl)) tabOK37
noncomputable def tab39 : List (Nat × FSpec) := (145, vfun tt tab38 [] 2000 Tryz.f145) :: tab38
theorem tabOK39 : CallsOK Tryz.prog et tab39 := CallsOK.cons (auto tabOK38 ttOK Tryz.func145 (by kernel_rfl)) tabOK38
noncomputable def tab40 : List (Nat × FSpec) := (208, vfun tt tab39 [] 2000 Tryz.f208) :: tab39
theorem tabOK40 : CallsOK Tryz.prog et tab40 := CallsOK.cons (auto tabOK39 ttOK Tryz.func208 (by kernel_rfl)) tabOK39
noncomputable def tab41 : List (Nat × FSpec) := (146, vfun tt tab40 [] 2000 Tryz.f146) :: tab40
theorem tabOK41 : CallsOK Tryz.prog et tab41 := CallsOK.cons (auto tabOK40 ttOK Tryz.func146 (by kernel_rfl)) tabOK40
noncomputable def tab42 : List (Nat × FSpec) := (80, vfun tt tab41 [(6, [(0, none), (2, none), (3, none), (4, none), (7, none), (8, none)])] 2000 Tryz.f80) :: tab41
theorem tabOK42 : CallsOK Tryz.prog et tab42 := CallsOK.cons (auto tabOK41 ttOK Tryz.func80 (by kernel_rfl)) tabOK41
noncomputable def tab43 : List (Nat × FSpec) := (253, vfun tt tab42 [] 2000 Tryz.f253) :: tab42
theorem tabOK43 : CallsOK Tryz.prog et tab43 := CallsOK.cons (auto tabOK42 ttOK Tryz.func253 (by kernel_rfl)) tabOK42
noncomputable def tab44 : List (Nat × FSpec) := (209, vfun tt tab43 [] 2000 Tryz.f209) :: tab43
theorem tabOK44 : CallsOK Tryz.prog et tab44 := CallsOK.cons (auto tabOK43 ttOK Tryz.func209 (by kernel_rfl)) tabOK43
noncomputable def tab45 : List (Nat × FSpec) := (147, vfun tt tab44 [] 2000 Tryz.f147) :: tab44
theorem tabOK45 : CallsOK Tryz.prog et tab45 := CallsOK.cons (auto tabOK44 ttOK Tryz.func147 (by kernel_rfl)) tabOK44
noncomputable def tab46 : List (Nat × FSpec) := (81, vfun tt tab45 [(2, [(0, none), (2, none), (3, none), (4, none), (10, none), (11, none), (12, none)]), (11, [(0, none), (2, none), (3, none), (4, none), (7, none), (34, none), (35, none), (36, none)])] 2000 Tryz.f81) :: tab45
theorem tabOK46 : CallsOK Tryz.prog et tab46 := CallsOK.cons (auto tabOK45 ttOK Tryz.func81 (by kernel_rfl)) tabOK45
noncomputable def tab47 : List (Nat × FSpec) := (254, vfun tt tab46 [(2, [(1, none), (2, none), (6, none), (9, none), (10, none), (11, none)])] 2000 Tryz.f254) :: tab46
theorem tabOK47 : CallsOK Tryz.prog et tab47 := CallsOK.cons (auto tabOK46 ttOK Tryz.func254 (by kernel_rfl)) tabOK46
noncomputable def tab48 : List (Nat × FSpec) := (210, vfun tt tab47 [] 2000 Tryz.f210) :: tab47
theorem tabOK48 : CallsOK Tryz.prog et tab48 := CallsOK.cons (auto tabOK47 ttOK Tryz.func210 (by kernel_rfl)) tabOK47
noncomputable def tab49 : List (Nat × FSpec) := (148, vfun tt tab48 [(4, [(1, none), (2, none), (41, none), (42, none), (43, none)])] 2000 Tryz.f148) :: tab48
theorem tabOK49 : CallsOK Tryz.prog et tab49 := CallsOK.cons (auto tabOK48 ttOK Tryz.func148 (by kernel_rfl)) tabOK48
noncomputable def tab50 : List (Nat × FSpec) := (149, vfun tt tab49 [] 2000 Tryz.f149) :: tab49
theorem tabOK50 : CallsOK Tryz.prog et tab50 := CallsOK.cons (auto tabOK49 ttOK Tryz.func149 (by kernel_rfl)) tabOK49
noncomputable def tab51 : List (Nat × FSpec) := (150, vfun tt tab50 [(4, [(1, none), (2, none), (36, none), (37, none), (38, none)])] 2000 Tryz.f150) :: tab50
theorem tabOK51 : CallsOK Tryz.prog et tab51 := CallsOK.cons (auto tabOK50 ttOK Tryz.func150 (by kernel_rfl)) tabOK50
noncomputable def tab52 : List (Nat × FSpec) := (82, vfun tt tab51 [] 2000 Tryz.f82) :: tab51
theorem tabOK52 : CallsOK Tryz.prog et tab52 := CallsOK.cons (auto tabOK51 ttOK Tryz.func82 (by kernel_rfl)) tabOK51
noncomputable def tab53 : List (Nat × FSpec) := (224, vfun tt tab52 [] 2000 Tryz.f224) :: tab52
theorem tabOK53 : CallsOK Tryz.prog et tab53 := CallsOK.cons (auto tabOK52 ttOK Tryz.func224 (by kernel_rfl)) tabOK52
noncomputable def tab54 : List (Nat × FSpec) := (255, vfun tt tab53 [(3, [(2, none), (3, none), (4, none), (5, none), (6, none)])] 2000 Tryz.f255) :: tab53
theorem tabOK54 : CallsOK Tryz.prog et tab54 := CallsOK.cons (auto tabOK53 ttOK Tryz.func255 (by kernel_rfl)) tabOK53
noncomputable def tab55 : List (Nat × FSpec) := (211, vfun tt tab54 [] 2000 Tryz.f211) :: tab54
theorem tabOK55 : CallsOK Tryz.prog et tab55 := CallsOK.cons (auto tabOK54 ttOK Tryz.func211 (by kernel_rfl)) tabOK54
noncomputable def tab56 : List (Nat × FSpec) := (212, vfun tt tab55 [(10, [(0, none), (2, none), (5, none), (7, none), (46, none), (47, none)])] 2000 Tryz.f212) :: tab55
theorem tabOK56 : CallsOK Tryz.prog et tab56 := CallsOK.cons (auto tabOK55 ttOK Tryz.func212 (by kernel_rfl)) tabOK55
noncomputable def tab57 : List (Nat × FSpec) := (256, vfun tt tab56 [] 2000 Tryz.f256) :: tab56
theorem tabOK57 : CallsOK Tryz.prog et tab57 := CallsOK.cons (auto tabOK56 ttOK Tryz.func256 (by kernel_rfl)) tabOK56
noncomputable def tab58 : List (Nat × FSpec) := (213, vfun tt tab57 [] 2000 Tryz.f213) :: tab57
theorem tabOK58 : CallsOK Tryz.prog et tab58 := CallsOK.cons (auto tabOK57 ttOK Tryz.func213 (by kernel_rfl)) tabOK57
noncomputable def tab59 : List (Nat × FSpec) := (151, vfun tt tab58 [] 2000 Tryz.f151) :: tab58
theorem tabOK59 : CallsOK Tryz.prog et tab59 := CallsOK.cons (auto tabOK58 ttOK Tryz.func151 (by kernel_rfl)) tabOK58
noncomputable def tab60 : List (Nat × FSpec) := (83, vfun tt tab59 [] 2000 Tryz.f83) :: tab59
theorem tabOK60 : CallsOK Tryz.prog et tab60 := CallsOK.cons (auto tabOK59 ttOK Tryz.func83 (by kernel_rfl)) tabOK59
noncomputable def tab61 : List (Nat × FSpec) := (257, vfun tt tab60 [(3, [(3, none), (6, none), (7, none), (8, none)])] 2000 Tryz.f257) :: tab60
theorem tabOK61 : CallsOK Tryz.prog et tab61 := CallsOK.cons (auto tabOK60 ttOK Tryz.func257 (by kernel_rfl)) tabOK60
noncomputable def tab62 : List (Nat × FSpec) := (214, vfun tt tab61 [(5, [(4, none), (13, none), (14, none), (15, none)])] 2000 Tryz.f214) :: tab61
theorem tabOK62 : CallsOK Tryz.prog et tab62 := CallsOK.cons (auto tabOK61 ttOK Tryz.func214 (by kernel_rfl)) tabOK61
noncomputable def tab63 : List (Nat × FSpec) := (215, vfun tt tab62 [] 2000 Tryz.f215) :: tab62
theorem tabOK63 : CallsOK Tryz.prog et tab63 := CallsOK.cons (auto tabOK62 ttOK Tryz.func215 (by kernel_rfl)) tabOK62
noncomputable def tab64 : List (Nat × FSpec) := (152, vfun tt tab63 [] 2000 Tryz.f152) :: tab63
theorem tabOK64 : CallsOK Tryz.prog et tab64 := CallsOK.cons (auto tabOK63 ttOK Tryz.func152 (by kernel_rfl)) tabOK63
noncomputable def tab65 : List (Nat × FSpec) := (153, vfun tt tab64 [] 2000 Tryz.f153) :: tab64
theorem tabOK65 : CallsOK Tryz.prog et tab65 := CallsOK.cons (auto tabOK64 ttOK Tryz.func153 (by kernel_rfl)) tabOK64
noncomputable def tab66 : List (Nat × FSpec) := (154, vfun tt tab65 [(5, [(1, none), (4, none), (24, none), (25, none), (26, none)])] 2000 Tryz.f154) :: tab65
theorem tabOK66 : CallsOK Tryz.prog et tab66 := CallsOK.cons (auto tabOK65 ttOK Tryz.func154 (by kernel_rfl)) tabOK65
noncomputable def tab67 : List (Nat × FSpec) := (84, vfun tt tab66 [(2, [(0, none), (2, none), (3, none), (4, none), (9, none), (10, none)])] 2000 Tryz.f84) :: tab66
theorem tabOK67 : CallsOK Tryz.prog et tab67 := CallsOK.cons (auto tabOK66 ttOK Tryz.func84 (by kernel_rfl)) tabOK66
noncomputable def tab68 : List (Nat × FSpec) := (217, vfun tt tab67 [] 2000 Tryz.f217) :: tab67
theorem tabOK68 : CallsOK Tryz.prog et tab68 := CallsOK.cons (auto tabOK67 ttOK Tryz.func217 (by kernel_rfl)) tabOK67
noncomputable def tab69 : List (Nat × FSpec) := (258, vfun tt tab68 [] 2000 Tryz.f258) :: tab68
theorem tabOK69 : CallsOK Tryz.prog et tab69 := CallsOK.cons (auto tabOK68 ttOK Tryz.func258 (by kernel_rfl)) tabOK68
noncomputable def tab70 : List (Nat × FSpec) := (218, vfun tt tab69 [] 2000 Tryz.f218) :: tab69
theorem tabOK70 : CallsOK Tryz.prog et tab70 := CallsOK.cons (auto tabOK69 ttOK Tryz.func218 (by kernel_rfl)) tabOK69
noncomputable def tab71 : List (Nat × FSpec) := (219, vfun tt tab70 [] 2000 Tryz.f219) :: tab70
theorem tabOK71 : CallsOK Tryz.prog et tab71 := CallsOK.cons (auto tabOK70 ttOK Tryz.func219 (by kernel_rfl)) tabOK70
noncomputable def tab72 : List (Nat × FSpec) := (220, vfun tt tab71 [] 2000 Tryz.f220) :: tab71
theorem tabOK72 : CallsOK Tryz.prog et tab72 := CallsOK.cons (auto tabOK71 ttOK Tryz.func220 (by kernel_rfl)) tabOK71
noncomputable def tab73 : List (Nat × FSpec) := (221, vfun tt tab72 [] 2000 Tryz.f221) :: tab72
theorem tabOK73 : CallsOK Tryz.prog et tab73 := CallsOK.cons (auto tabOK72 ttOK Tryz.func221 (by kernel_rfl)) tabOK72
noncomputable def tab74 : List (Nat × FSpec) := (155, vfun tt tab73 [] 2000 Tryz.f155) :: tab73
theorem tabOK74 : CallsOK Tryz.prog et tab74 := CallsOK.cons (auto tabOK73 ttOK Tryz.func155 (by kernel_rfl)) tabOK73
noncomputable def tab75 : List (Nat × FSpec) := (156, vfun tt tab74 [] 2000 Tryz.f156) :: tab74
theorem tabOK75 : CallsOK Tryz.prog et tab75 := CallsOK.cons (auto tabOK74 ttOK Tryz.func156 (by kernel_rfl)) tabOK74
noncomputable def tab76 : List (Nat × FSpec) := (222, vfun tt tab75 [] 2000 Tryz.f222) :: tab75
theorem tabOK76 : CallsOK Tryz.prog et tab76 := CallsOK.cons (auto tabOK75 ttOK Tryz.func222 (by kernel_rfl)) tabOK75
noncomputable def tab77 : List (Nat × FSpec) := (157, vfun tt tab76 [(2, [(1, none), (2, none), (13, none), (14, none), (15, none)])] 2000 Tryz.f157) :: tab76
theorem tabOK77 : CallsOK Tryz.prog et tab77 := CallsOK.cons (auto tabOK76 ttOK Tryz.func157 (by kernel_rfl)) tabOK76
noncomputable def tab78 : List (Nat × FSpec) := (85, vfun tt tab77 [] 2000 Tryz.f85) :: tab77
theorem tabOK78 : CallsOK Tryz.prog et tab78 := CallsOK.cons (auto tabOK77 ttOK Tryz.func85 (by kernel_rfl)) tabOK77
noncomputable def tab79 : List (Nat × FSpec) := (223, vfun tt tab78 [] 2000 Tryz.f223) :: tab78
theorem tabOK79 : CallsOK Tryz.prog et tab79 := CallsOK.cons (auto tabOK78 ttOK Tryz.func223 (by kernel_rfl)) tabOK78
noncomputable def tab80 : List (Nat × FSpec) := (158, vfun tt tab79 [] 2000 Tryz.f158) :: tab79
theorem tabOK80 : CallsOK Tryz.prog et tab80 := CallsOK.cons (auto tabOK79 ttOK Tryz.func158 (by kernel_rfl)) tabOK79
noncomputable def tab81 : List (Nat × FSpec) := (225, vfun tt tab80 [] 2000 Tryz.f225) :: tab80
theorem tabOK81 : CallsOK Tryz.prog et tab81 := CallsOK.cons (auto tabOK80 ttOK Tryz.func225 (by kernel_rfl)) tabOK80
noncomputable def tab82 : List (Nat × FSpec) := (159, vfun tt tab81 [(3, [(1, none), (4, none), (5, none), (6, none), (7, none), (8, none)])] 2000 Tryz.f159) :: tab81
theorem tabOK82 : CallsOK Tryz.prog et tab82 := CallsOK.cons (auto tabOK81 ttOK Tryz.func159 (by kernel_rfl)) tabOK81
noncomputable def tab83 : List (Nat × FSpec) := (160, vfun tt tab82 [] 2000 Tryz.f160) :: tab82
theorem tabOK83 : CallsOK Tryz.prog et tab83 := CallsOK.cons (auto tabOK82 ttOK Tryz.func160 (by kernel_rfl)) tabOK82
noncomputable def tab84 : List (Nat × FSpec) := (297, vfun tt tab83 [(7, [(8, none), (9, none), (21, none), (22, none), (23, none)])] 2000 Tryz.f297) :: tab83
theorem tabOK84 : CallsOK Tryz.prog et tab84 := CallsOK.cons (auto tabOK83 ttOK Tryz.func297 (by kernel_rfl)) tabOK83
noncomputable def tab85 : List (Nat × FSpec) := (317, vfun tt tab84 [] 2000 Tryz.f317) :: tab84
theorem tabOK85 : CallsOK Tryz.prog et tab85 := CallsOK.cons (auto tabOK84 ttOK Tryz.func317 (by kernel_rfl)) tabOK84
noncomputable def tab86 : List (Nat × FSpec) := (292, vfun tt tab85 [] 2000 Tryz.f292) :: tab85
theorem tabOK86 : CallsOK Tryz.prog et tab86 := CallsOK.cons (auto tabOK85 ttOK Tryz.func292 (by kernel_rfl)) tabOK85
noncomputable def tab87 : List (Nat × FSpec) := (318, vfun tt tab86 [] 2000 Tryz.f318) :: tab86
theorem tabOK87 : CallsOK Tryz.prog et tab87 := CallsOK.cons (auto tabOK86 ttOK Tryz.func318 (by kernel_rfl)) tabOK86
noncomputable def tab88 : List (Nat × FSpec) := (293, vfun tt tab87 [] 2000 Tryz.f293) :: tab87
theorem tabOK88 : CallsOK Tryz.prog et tab88 := CallsOK.cons (auto tabOK87 ttOK Tryz.func293 (by kernel_rfl)) tabOK87
noncomputable def tab89 : List (Nat × FSpec) := (298, vfun tt tab88 [] 2000 Tryz.f298) :: tab88
theorem tabOK89 : CallsOK Tryz.prog et tab89 := CallsOK.cons (auto tabOK88 ttOK Tryz.func298 (by kernel_rfl)) tabOK88
noncomputable def tab90 : List (Nat × FSpec) := (299, vfun tt tab89 [] 2000 Tryz.f299) :: tab89
theorem tabOK90 : CallsOK Tryz.prog et tab90 := CallsOK.cons (auto tabOK89 ttOK Tryz.func299 (by kernel_rfl)) tabOK89
noncomputable def tab91 : List (Nat × FSpec) := (323, vfun tt tab90 [] 2000 Tryz.f323) :: tab90
theorem tabOK91 : CallsOK Tryz.prog et tab91 := CallsOK.cons (auto tabOK90 ttOK Tryz.func323 (by kernel_rfl)) tabOK90
noncomputable def tab92 : List (Nat × FSpec) := (300, vfun tt tab91 [] 2000 Tryz.f300) :: tab91
theorem tabOK92 : CallsOK Tryz.prog et tab92 := CallsOK.cons (auto tabOK91 ttOK Tryz.func300 (by kernel_rfl)) tabOK91
noncomputable def tab93 : List (Nat × FSpec) := (301, vfun tt tab92 [] 2000 Tryz.f301) :: tab92
theorem tabOK93 : CallsOK Tryz.prog et tab93 := CallsOK.cons (auto tabOK92 ttOK Tryz.func301 (by kernel_rfl)) tabOK92
noncomputable def tab94 : List (Nat × FSpec) := (319, vfun tt tab93 [(4, [(2, none), (5, none), (6, none), (24, none), (25, none), (26, none)]), (9, [(2, none), (5, none), (6, none), (38, none), (39, none), (40, none)])] 2000 Tryz.f319) :: tab93
theorem tabOK94 : CallsOK Tryz.prog et tab94 := CallsOK.cons (auto tabOK93 ttOK Tryz.func319 (by kernel_rfl)) tabOK93
noncomputable def tab95 : List (Nat × FSpec) := (324, vfun tt tab94 [] 2000 Tryz.f324) :: tab94
theorem tabOK95 : CallsOK Tryz.prog et tab95 := CallsOK.cons (auto tabOK94 ttOK Tryz.func324 (by kernel_rfl)) tabOK94
noncomputable def tab96 : List (Nat × FSpec) := (320, vfun tt tab95 [] 2000 Tryz.f320) :: tab95
theorem tabOK96 : CallsOK Tryz.prog et tab96 := CallsOK.cons (auto tabOK95 ttOK Tryz.func320 (by kernel_rfl)) tabOK95
noncomputable def tab97 : List (Nat × FSpec) := (321, vfun tt tab96 [] 2000 Tryz.f321) :: tab96
theorem tabOK97 : CallsOK Tryz.prog et tab97 := CallsOK.cons (auto tabOK96 ttOK Tryz.func321 (by kernel_rfl)) tabOK96
noncomputable def tab98 : List (Nat × FSpec) := (322, vfun tt tab97 [] 2000 Tryz.f322) :: tab97
theorem tabOK98 : CallsOK Tryz.prog et tab98 := CallsOK.cons (auto tabOK97 ttOK Tryz.func322 (by kernel_rfl)) tabOK97
noncomputable def tab99 : List (Nat × FSpec) := (294, vfun tt tab98 [] 2000 Tryz.f294) :: tab98
theorem tabOK99 : CallsOK Tryz.prog et tab99 := CallsOK.cons (auto tabOK98 ttOK Tryz.func294 (by kernel_rfl)) tabOK98
noncomputable def tab100 : List (Nat × FSpec) := (259, vfun tt tab99 [] 2000 Tryz.f259) :: tab99
theorem tabOK100 : CallsOK Tryz.prog et tab100 := CallsOK.cons (auto tabOK99 ttOK Tryz.func259 (by kernel_rfl)) tabOK99
noncomputable def tab101 : List (Nat × FSpec) := (295, vfun tt tab100 [] 2000 Tryz.f295) :: tab100
theorem tabOK101 : CallsOK Tryz.prog et tab101 := CallsOK.cons (auto tabOK100 ttOK Tryz.func295 (by kernel_rfl)) tabOK100
noncomputable def tab102 : List (Nat × FSpec) := (296, vfun tt tab101 [] 2000 Tryz.f296) :: tab101
theorem tabOK102 : CallsOK Tryz.prog et tab102 := CallsOK.cons (auto tabOK101 ttOK Tryz.func296 (by kernel_rfl)) tabOK101
noncomputable def tab103 : List (Nat × FSpec) := (260, vfun tt tab102 [] 2000 Tryz.f260) :: tab102
theorem tabOK103 : CallsOK Tryz.prog et tab103 := CallsOK.cons (auto tabOK102 ttOK Tryz.func260 (by kernel_rfl)) tabOK102
noncomputable def tab104 : List (Nat × FSpec) := (302, vfun tt tab103 [] 2000 Tryz.f302) :: tab103
theorem tabOK104 : CallsOK Tryz.prog et tab104 := CallsOK.cons (auto tabOK103 ttOK Tryz.func302 (by kernel_rfl)) tabOK103
noncomputable def tab105 : List (Nat × FSpec) := (261, vfun tt tab104 [] 2000 Tryz.f261) :: tab104
theorem tabOK105 : CallsOK Tryz.prog et tab105 := CallsOK.cons (auto tabOK104 ttOK Tryz.func261 (by kernel_rfl)) tabOK104
noncomputable def tab106 : List (Nat × FSpec) := (226, vfun tt tab105 [] 2000 Tryz.f226) :: tab105
theorem tabOK106 : CallsOK Tryz.prog et tab106 := CallsOK.cons (auto tabOK105 ttOK Tryz.func226 (by kernel_rfl)) tabOK105
noncomputable def tab107 : List (Nat × FSpec) := (161, vfun tt tab106 [(4, [(0, none), (2, none), (3, none), (4, none), (5, none), (6, none), (7, none), (13, none), (14, none)])] 2000 Tryz.f161) :: tab106
theorem tabOK107 : CallsOK Tryz.prog et tab107 := CallsOK.cons (auto tabOK106 ttOK Tryz.func161 (by kernel_rfl)) tabOK106
noncomputable def tab108 : List (Nat × FSpec) := (86, vfun tt tab107 [] 2000 Tryz.f86) :: tab107
theorem tabOK108 : CallsOK Tryz.prog et tab108 := CallsOK.cons (auto tabOK107 ttOK Tryz.func86 (by kernel_rfl)) tabOK107
noncomputable def tab109 : List (Nat × FSpec) := (263, vfun tt tab108 [] 2000 Tryz.f263) :: tab108
theorem tabOK109 : CallsOK Tryz.prog et tab109 := CallsOK.cons (auto tabOK108 ttOK Tryz.func263 (by kernel_rfl)) tabOK108
noncomputable def tab110 : List (Nat × FSpec) := (267, vfun tt tab109 [(5, [(4, none), (12, none), (13, none), (14, none)])] 2000 Tryz.f267) :: tab109
theorem tabOK110 : CallsOK Tryz.prog et tab110 := CallsOK.cons (auto tabOK109 ttOK Tryz.func267 (by kernel_rfl)) tabOK109
noncomputable def tab111 : List (Nat × FSpec) := (303, vfun tt tab110 [] 2000 Tryz.f303) :: tab110
theorem tabOK111 : CallsOK Tryz.prog et tab111 := CallsOK.cons (auto tabOK110 ttOK Tryz.func303 (by kernel_rfl)) tabOK110
noncomputable def tab112 : List (Nat × FSpec) := (262, vfun tt tab111 [] 2000 Tryz.f262) :: tab111
theorem tabOK112 : CallsOK Tryz.prog et tab112 := CallsOK.cons (auto tabOK111 ttOK Tryz.func262 (by kernel_rfl)) tabOK111
noncomputable def tab113 : List (Nat × FSpec) := (266, vfun tt tab112 [] 2000 Tryz.f266) :: tab112
theorem tabOK113 : CallsOK Tryz.prog et tab113 := CallsOK.cons (auto tabOK112 ttOK Tryz.func266 (by kernel_rfl)) tabOK112
noncomputable def tab114 : List (Nat × FSpec) := (304, vfun tt tab113 [(1, [(0, none), (6, none), (7, none), (8, none)])] 2000 Tryz.f304) :: tab113
theorem tabOK114 : CallsOK Tryz.prog et tab114 := CallsOK.cons (auto tabOK113 ttOK Tryz.func304 (by kernel_rfl)) tabOK113
noncomputable def tab115 : List (Nat × FSpec) := (264, vfun tt tab114 [] 2000 Tryz.f264) :: tab114
theorem tabOK115 : CallsOK Tryz.prog et tab115 := CallsOK.cons (auto tabOK114 ttOK Tryz.func264 (by kernel_rfl)) tabOK114
noncomputable def tab116 : List (Nat × FSpec) := (227, vfun tt tab115 [] 2000 Tryz.f227) :: tab115
theorem tabOK116 : CallsOK Tryz.prog et tab116 := CallsOK.cons (auto tabOK115 ttOK Tryz.func227 (by kernel_rfl)) tabOK115
noncomputable def tab117 : List (Nat × FSpec) := (265, vfun tt tab116 [] 2000 Tryz.f265) :: tab116
theorem tabOK117 : CallsOK Tryz.prog et tab117 := CallsOK.cons (auto tabOK116 ttOK Tryz.func265 (by kernel_rfl)) tabOK116
noncomputable def tab118 : List (Nat × FSpec) := (228, vfun tt tab117 [] 2000 Tryz.f228) :: tab117
theorem tabOK118 : CallsOK Tryz.prog et tab118 := CallsOK.cons (auto tabOK117 ttOK Tryz.func228 (by kernel_rfl)) tabOK117
noncomputable def tab119 : List (Nat × FSpec) := (229, vfun tt tab118 [] 2000 Tryz.f229) :: tab118
theorem tabOK119 : CallsOK Tryz.prog et tab119 := CallsOK.cons (auto tabOK118 ttOK Tryz.func229 (by kernel_rfl)) tabOK118
noncomputable def tab120 : List (Nat × FSpec) := (270, vfun tt tab119 [] 2000 Tryz.f270) :: tab119
theorem tabOK120 : CallsOK Tryz.prog et tab120 := CallsOK.cons (auto tabOK119 ttOK Tryz.func270 (by kernel_rfl)) tabOK119
noncomputable def tab121 : List (Nat × FSpec) := (268, vfun tt tab120 [] 2000 Tryz.f268) :: tab120
theorem tabOK121 : CallsOK Tryz.prog et tab121 := CallsOK.cons (auto tabOK120 ttOK Tryz.func268 (by kernel_rfl)) tabOK120
noncomputable def tab122 : List (Nat × FSpec) := (230, vfun tt tab121 [(6, [(0, none), (2, none), (4, none), (6, none), (40, none), (41, none), (42, none)])] 2000 Tryz.f230) :: tab121
theorem tabOK122 : CallsOK Tryz.prog et tab122 := CallsOK.cons (auto tabOK121 ttOK Tryz.func230 (by kernel_rfl)) tabOK121
noncomputable def tab123 : List (Nat × FSpec) := (326, vfun tt tab122 [] 2000 Tryz.f326) :: tab122
theorem tabOK123 : CallsOK Tryz.prog et tab123 := CallsOK.cons (auto tabOK122 ttOK Tryz.func326 (by kernel_rfl)) tabOK122
noncomputable def tab124 : List (Nat × FSpec) := (325, vfun tt tab123 [] 2000 Tryz.f325) :: tab123
theorem tabOK124 : CallsOK Tryz.prog et tab124 := CallsOK.cons (auto tabOK123 ttOK Tryz.func325 (by kernel_rfl)) tabOK123
noncomputable def tab125 : List (Nat × FSpec) := (305, vfun tt tab124 [(2, [(0, none), (1, none), (4, none), (11, none), (12, none)])] 2000 Tryz.f305) :: tab124
theorem tabOK125 : CallsOK Tryz.prog et tab125 := CallsOK.cons (auto tabOK124 ttOK Tryz.func305 (by kernel_rfl)) tabOK124
noncomputable def tab126 : List (Nat × FSpec) := (269, vfun tt tab125 [] 2000 Tryz.f269) :: tab125
theorem tabOK126 : CallsOK Tryz.prog et tab126 := CallsOK.cons (auto tabOK125 ttOK Tryz.func269 (by kernel_rfl)) tabOK125
noncomputable def tab127 : List (Nat × FSpec) := (231, vfun tt tab126 [] 2000 Tryz.f231) :: tab126
theorem tabOK127 : CallsOK Tryz.prog et tab127 := CallsOK.cons (auto tabOK126 ttOK Tryz.func231 (by kernel_rfl)) tabOK126
noncomputable def tab128 : List (Nat × FSpec) := (162, vfun tt tab127 [] 2000 Tryz.f162) :: tab127
theorem tabOK128 : CallsOK Tryz.prog et tab128 := CallsOK.cons (auto tabOK127 ttOK Tryz.func162 (by kernel_rfl)) tabOK127
noncomputable def tab129 : List (Nat × FSpec) := (163, vfun tt tab128 [] 2000 Tryz.f163) :: tab128
theorem tabOK129 : CallsOK Tryz.prog et tab129 := CallsOK.cons (auto tabOK128 ttOK Tryz.func163 (by kernel_rfl)) tabOK128
noncomputable def tab130 : List (Nat × FSpec) := (87, vfun tt tab129 [(2, [(0, none), (2, none), (3, none), (4, none), (16, none), (17, none), (18, none)]), (10, [(2, none), (3, none), (4, none), (7, none), (8, none), (28, none), (29, none), (30, none)])] 2000 Tryz.f87) :: tab129
theorem tabOK130 : CallsOK Tryz.prog et tab130 := CallsOK.cons (auto tabOK129 ttOK Tryz.func87 (by kernel_rfl)) tabOK129
noncomputable def tab131 : List (Nat × FSpec) := (53, vfun tt tab130 [] 2000 Tryz.f53) :: tab130
theorem tabOK131 : CallsOK Tryz.prog et tab131 := CallsOK.cons (auto tabOK130 ttOK Tryz.func53 (by kernel_rfl)) tabOK130
noncomputable def tab132 : List (Nat × FSpec) := (22, vfun tt tab131 [] 2000 Tryz.f22) :: tab131
theorem tabOK132 : CallsOK Tryz.prog et tab132 := CallsOK.cons (auto tabOK131 ttOK Tryz.func22 (by kernel_rfl)) tabOK131
noncomputable def tab133 : List (Nat × FSpec) := (24, vfun tt tab132 [] 2000 Tryz.f24) :: tab132
theorem tabOK133 : CallsOK Tryz.prog et tab133 := CallsOK.cons (auto tabOK132 ttOK Tryz.func24 (by kernel_rfl)) tabOK132
noncomputable def tab134 : List (Nat × FSpec) := (26, vfun tt tab133 [] 2000 Tryz.f26) :: tab133
theorem tabOK134 : CallsOK Tryz.prog et tab134 := CallsOK.cons (auto tabOK133 ttOK Tryz.func26 (by kernel_rfl)) tabOK133
noncomputable def tab135 : List (Nat × FSpec) := (21, vfun tt tab134 [] 2000 Tryz.f21) :: tab134
theorem tabOK135 : CallsOK Tryz.prog et tab135 := CallsOK.cons (auto tabOK134 ttOK Tryz.func21 (by kernel_rfl)) tabOK134
end Go.Proofs.Fw

set_option autoImplicit false
set_option linter.unusedVariables false
namespace Go.Proofs.Fw
open Go
variable {P : Program} {et : LTag → TypeId}
/-! ### A function's law by hand: small words -/
abbrev eB : Bytes := []
theorem ifb_i {b : Bool} {X Y : Prop} (h1 : b = true → X) (h2 : b = false → Y) : ifb b X Y := by
  cases b
  · exact h2 rfl
  · exact h1 rfl
def loopIn (k : Nat) : List Code → Code
  | [] => .skip
  | c :: r => match Code.key c with
    | some n => bif Nat.beq n k then c else loopIn k r
    | none => loopIn k r
/-- A function's loop, by its first region's number. -/
def loopAt (fn : Func) (k : Nat) : Code := loopIn k (Code.inner (bodyOf fn))
theorem LoopsOK.none {c : Code} : LoopsOK P et [] c := fun l _ ann h => by
  cases hk : Code.key l <;> simp [hk, look] at h
theorem LoopsOK.of {loops : List (Nat × LoopAnn)} {c : Code} {ls : List Code} (hi : Code.inner c = ls) (h : ∀ l ∈ ls, ∀ ann, (Code.key l).bind (look loops) = some ann → LoopSound P et l ann) : LoopsOK P et loops c := by
  subst hi; exact h
theorem LoopsOK.one {c l : Code} {k : Nat} {ann : LoopAnn} (hi : Code.inner c = [l]) (hk : Code.key l = some k) (S : LoopSound P et l ann) : LoopsOK P et [(k, ann)] c := LoopsOK.of hi fun l' hl ann' ha => by
  rw [List.mem_singleton.1 hl, hk] at ha
  simp [look] at ha
  rw [List.mem_singleton.1 hl, ← ha]
  exact S
theorem LoopsOK.two {c l l2 : Code} {k k2 : Nat} {ann ann2 : LoopAnn} (hi : Code.inner c = [l, l2]) (hk : Code.key l = some k) (hk2 : Code.key l2 = some k2) (hn : Nat.beq k k2 = false) (S : LoopSound P et l ann) (S2 : LoopSound P et l2 ann2) : LoopsOK P et [(k, ann), (k2, ann2)] c :=
  LoopsOK.of hi fun l' hl ann' ha => by
    simp only [List.mem_cons, List.not_mem_nil, or_false] at hl
    rcases hl with rfl | rfl
    · rw [hk] at ha
      simp [look] at ha
      rw [← ha]; exact S
    · rw [hk2] at ha
      simp [look, hn] at ha
      rw [← ha]; exact S2
theorem LoopsOK.three {c l l2 l3 : Code} {k k2 k3 : Nat} {ann ann2 ann3 : LoopAnn} (hi : Code.inner c = [l, l2, l3]) (hk : Code.key l = some k) (hk2 : Code.key l2 = some k2) (hk3 : Code.key l3 = some k3) (hn : Nat.beq k k2 = false) (hn3 : Nat.beq k k3 = false) (hn23 : Nat.beq k2 k3 = false)
    (S : LoopSound P et l ann) (S2 : LoopSound P et l2 ann2) (S3 : LoopSound P et l3 ann3) : LoopsOK P et [(k, ann), (k2, ann2), (k3, ann3)] c :=
  LoopsOK.of hi fun l' hl ann' ha => by
    simp only [List.mem_cons, List.not_mem_nil, or_false] at hl
    rcases hl with rfl | rfl | rfl
    · rw [hk] at ha
      simp [look] at ha
      rw [← ha]; exact S
    · rw [hk2] at ha
      simp [look, hn] at ha
      rw [← ha]; exact S2
    · rw [hk3] at ha
      simp [look, hn3, hn23] at ha
      rw [← ha]; exact S3
def FX.beq : FX → FX → Bool
  | .normal, .normal => true
  | .exit a, .exit b => Nat.beq a b
  | .ret, .ret => true
  | _, _ => false
theorem FX.beq_eq {a b : FX} (h : FX.beq a b = true) : a = b := by
  cases a <;> cases b <;> simp_all [FX.beq]
/-- A loop's law where it ends in one way. -/
def fixX (E : FX) (a : LoopAnn) : LoopAnn := ⟨a.ins, fun ds ext => match a.spec ds ext with
  | some (asks, e, us, objs) => some (FX.beq e E :: asks, E, us, objs)
  | none => none⟩
theorem LoopSound.fix {c : Code} {a : LoopAnn} (h : LoopSound P et c a) (E : FX) : LoopSound P et c (fixX E a) := fun ds ext asks e us objs hs ha => by
  unfold fixX at hs
  simp only at hs
  split at hs
  · rename_i asks2 e2 us2 objs2 he
    simp only [Option.some.injEq, Prod.mk.injEq] at hs
    obtain ⟨rfl, rfl, rfl, rfl⟩ := hs
    have := FX.beq_eq (a := e2) (b := E) (ha (FX.beq e2 E) (by simp))
    subst this
    exact h ds ext asks2 _ _ _ he fun p hp => ha p (by simp [hp])
  · cases hs
theorem fun_any {calls : List (Nat × FSpec)} (C : CallsOK Tryz.prog et calls) {tt : TT} (T : TypesOK Tryz.prog et tt) {g : Nat} {fn : Func} (hf : Tryz.prog.funcs[g]? = some fn) (h : fnOK fn = true)
    {spec : FSpec} (ts : List NT)
    (H : ∀ xs objs asks r objs', spec xs objs = some (asks, r, objs') → (∀ p ∈ asks, p) → ∃ loops, LoopsOK Tryz.prog et loops (bodyOf fn) ∧ ffun tt calls loops fn xs objs fun r' o' => nzr ts r' = r ∧ o' = objs') : CallSound Tryz.prog et g spec :=
  fun_sound0 (ts := ts) T hf (fn_body h).1 (fn_body h).2.1 (fn_body h).2.2 fun xs objs asks r objs' h1 h2 m a hinv hlt Q hQ => by
    obtain ⟨loops, L, hH⟩ := H xs objs asks r objs' h1 h2
    unfold ffun at hH
    rw [(fn_body h).1] at hH
    exact fexec_sound T C hmix (bodyOf fn) L hH hinv (fun x hx => hx) hlt hQ
theorem fun_man {calls : List (Nat × FSpec)} (C : CallsOK Tryz.prog et calls) {tt : TT} (T : TypesOK Tryz.prog et tt) {loops : List (Nat × LoopAnn)} {g : Nat} {fn : Func} (hf : Tryz.prog.funcs[g]? = some fn) (h : fnOK fn = true)
    (L : LoopsOK Tryz.prog et loops (bodyOf fn)) {spec : FSpec} (ts : List NT)
    (H : ∀ xs objs asks r objs', spec xs objs = some (asks, r, objs') → (∀ p ∈ asks, p) → ffun tt calls loops fn xs objs fun r' o' => nzr ts r' = r ∧ o' = objs') : CallSound Tryz.prog et g spec :=
  fun_sound T C hmix hf (fn_body h).1 (fn_body h).2.1 L (fn_body h).2.2 ts H
theorem conj_mono {ps : List Bool} {X Y : Prop} (h : X → Y) : conj ps X → conj ps Y := by
  induction ps with
  | nil => exact h
  | cons p ps ih => exact fun ⟨h1, h2⟩ => ⟨h1, ih h2⟩
theorem ifb_mono {b : Bool} {X X' Y Y' : Prop} (h1 : X → X') (h2 : Y → Y') : ifb b X Y → ifb b X' Y' := by
  cases b
  · exact h2
  · exact h1
theorem frun_mono {tt : TT} {calls : List (Nat × FSpec)} {all : List Oper} {K K' : St → List (List Loc × List Loc) → Prop} (hK : ∀ st acc, K st acc → K' st acc) : ∀ (rest : List Oper) (st : St) (acc : List (List Loc × List Loc)), frun tt calls all rest st acc K → frun tt calls all rest st acc K'
  | [], st, acc, h => hK st acc h
  | o :: rest, st, acc, h => by
    unfold frun at h ⊢
    split
    · rename_i hg
      rw [hg] at h
      simp only at h
      split
      · rename_i e he
        rw [he] at h
        exact conj_mono (frun_mono hK rest _ _) h
      · rename_i he
        rw [he] at h
        exact h
    · rename_i j want hg
      rw [hg] at h
      simp only at h
      split
      · rename_i hd
        rw [hd] at h
        exact h
      · rename_i gd hd
        rw [hd] at h
        simp only at h
        split
        · rename_i b hb
          rw [hb] at h
          simp only at h
          have yes : ∀ st', (match (fop tt calls o).run st' with
            | some e => conj e.asks (frun tt calls all rest (e.ws ++ st') ((.slot gd :: ((fop tt calls o).reads st'), e.ws.map (·.1)) :: acc) K)
            | none => False) → (match (fop tt calls o).run st' with
            | some e => conj e.asks (frun tt calls all rest (e.ws ++ st') ((.slot gd :: ((fop tt calls o).reads st'), e.ws.map (·.1)) :: acc) K')
            | none => False) := fun st' => by
            cases (fop tt calls o).run st' with
            | none => exact id
            | some e => exact conj_mono (frun_mono hK rest _ _)
          cases want with
          | true => exact ifb_mono (yes _) (frun_mono hK rest _ _) h
          | false => exact ifb_mono (frun_mono hK rest _ _) (yes _) h
        · rename_i hb
          rw [hb] at h
          exact frun_mono hK rest _ _ h
        · rename_i hb hb2
          split at h
          · rename_i b hb'
            exact (hb b hb').elim
          · rename_i hb'
            exact (hb2 hb').elim
          · exact h
theorem fexec_mono {tt : TT} {calls : List (Nat × FSpec)} {loops : List (Nat × LoopAnn)} : ∀ (c : Code) {st : St} {K K' : FX → St → Prop}, (∀ e st, K e st → K' e st) → fexec tt calls loops c st K → fexec tt calls loops c st K'
  | .skip, st, K, K', hK, h => hK _ _ h
  | .region _ ops draw, st, K, K', hK, h => by
    refine frun_mono (fun st' acc hh => ?_) _ _ _ h
    cases draw with
    | false => exact hK _ _ hh
    | true =>
      simp only at hh ⊢
      cases hd : drawOK ops.toList acc with
      | true => rw [hd] at hh; exact hK _ _ hh
      | false => rw [hd] at hh; exact hh
  | .seq a b, st, K, K', hK, h => by
    refine fexec_mono a (fun e st' hh => ?_) h
    cases e with
    | normal => exact fexec_mono b hK hh
    | exit i => exact hK _ _ hh
    | ret => exact hK _ _ hh
  | .cond c a b, st, K, K', hK, h => by
    unfold fexec at h ⊢
    split
    · rename_i t ht
      rw [ht] at h
      exact ifb_mono (fexec_mono a hK) (fexec_mono b hK) h
    · rename_i hn
      split at h
      · rename_i t ht
        exact (hn t ht).elim
      · exact h
  | .block id c, st, K, K', hK, h => by
    refine fexec_mono c (fun e st' hh => ?_) h
    cases e with
    | normal => exact hK _ _ hh
    | exit i =>
      simp only at hh ⊢
      cases hb : Nat.beq i id with
      | true => rw [hb] at hh; exact hK _ _ hh
      | false => rw [hb] at hh; exact hK _ _ hh
    | ret => exact hK _ _ hh
  | .loop c, st, K, K', hK, h => by
    unfold fexec at h ⊢
    split
    · rename_i ann ha
      rw [ha] at h
      simp only at h
      split
      · rename_i asks e ws hr
        rw [hr] at h
        exact conj_mono (hK _ _) h
      · rename_i hr
        rw [hr] at h
        exact h
    · rename_i ha
      rw [ha] at h
      exact h
  | .exit id, st, K, K', hK, h => hK _ _ h
  | .ret, st, K, K', hK, h => hK _ _ h
  | .goto _, _, _, _, _, h => h.elim
  | .label _, _, _, _, _, h => h.elim
  | .scope _, _, _, _, _, h => h.elim
  | .rangeFunc _ _ _ _, _, _, _, _, h => h.elim
theorem fround_mono {tt : TT} {calls : List (Nat × FSpec)} {loops : List (Nat × LoopAnn)} {ins : List (Nat × Option LTag)} {c : Code} {vs : List FV} {objs : List (List FV)} {p q : FX → List FV → List (List FV) → Prop}
    (h : fround tt calls loops ins c vs objs p) (hpq : ∀ e us o, p e us o → q e us o) : fround tt calls loops ins c vs objs q :=
  fexec_mono c (fun e st hh => by
    cases hl : (leaveL ins objs).run st with
    | none => rw [hl] at hh; exact hh
    | some x => rw [hl] at hh; exact hpq _ _ _ hh) h
/-! ### Reading arguments -/
structure Dec1 (α : Type) where
  dec : FV → Option α
  enc : α → FV
  ok : ∀ v a, dec v = some a → v = enc a
  back : ∀ a, dec (enc a) = some a
structure Dec (α : Type) where
  dec : List FV → Option α
  enc : α → List FV
  ok : ∀ v a, dec v = some a → v = enc a
  back : ∀ a, dec (enc a) = some a
structure DecO (α : Type) where
  dec : List (List FV) → Option α
  enc : α → List (List FV)
  ok : ∀ v a, dec v = some a → v = enc a
  back : ∀ a, dec (enc a) = some a
def dInt : Dec1 Int := ⟨fun | .int .i64 n => some n | _ => none, fun n => .int .i64 n, fun v a h => by
  split at h <;> simp_all, fun _ => rfl⟩
def dU8 : Dec1 Int := ⟨fun | .int .u8 n => some n | _ => none, fun n => .int .u8 n, fun v a h => by
  split at h <;> simp_all, fun _ => rfl⟩
def dU16 : Dec1 Int := ⟨fun | .int .u16 n => some n | _ => none, fun n => .int .u16 n, fun v a h => by
  split at h <;> simp_all, fun _ => rfl⟩
def dU32 : Dec1 Int := ⟨fun | .int .u32 n => some n | _ => none, fun n => .int .u32 n, fun v a h => by
  split at h <;> simp_all, fun _ => rfl⟩
def dStr : Dec1 Bytes := ⟨fun | .str n => some n | _ => none, fun n => .str n, fun v a h => by
  split at h <;> simp_all, fun _ => rfl⟩
def dBool : Dec1 Bool := ⟨fun | .bool n => some n | _ => none, fun n => .bool n, fun v a h => by
  split at h <;> simp_all, fun _ => rfl⟩
def dDests : Dec1 (List Dest) := ⟨fun | .sl (.dest n) => some n | _ => none, fun n => .sl (.dest n), fun v a h => by
  split at h <;> simp_all, fun _ => rfl⟩
def oDests : Dec1 (List Dest) := ⟨fun | .ownv 0 (.dest n) => some n | _ => none, fun n => .ownv 0 (.dest n), fun v a h => by
  split at h <;> simp_all, fun _ => rfl⟩
def dSubs : Dec1 (List SubT) := ⟨fun | .sl (.sub n) => some n | _ => none, fun n => .sl (.sub n), fun v a h => by
  split at h <;> simp_all, fun _ => rfl⟩
def oSubs : Dec1 (List SubT) := ⟨fun | .ownv 0 (.sub n) => some n | _ => none, fun n => .ownv 0 (.sub n), fun v a h => by
  split at h <;> simp_all, fun _ => rfl⟩
def dMsgs : Dec1 (List Msg) := ⟨fun | .sl (.msg n) => some n | _ => none, fun n => .sl (.msg n), fun v a h => by
  split at h <;> simp_all, fun _ => rfl⟩
def oMsgs : Dec1 (List Msg) := ⟨fun | .ownv 0 (.msg n) => some n | _ => none, fun n => .ownv 0 (.msg n), fun v a h => by
  split at h <;> simp_all, fun _ => rfl⟩
def dTlvs : Dec1 (List Tlv) := ⟨fun | .sl (.tlv n) => some n | _ => none, fun n => .sl (.tlv n), fun v a h => by
  split at h <;> simp_all, fun _ => rfl⟩
def oTlvs : Dec1 (List Tlv) := ⟨fun | .ownv 0 (.tlv n) => some n | _ => none, fun n => .ownv 0 (.tlv n), fun v a h => by
  split at h <;> simp_all, fun _ => rfl⟩
def dStrs : Dec1 (List Bytes) := ⟨fun | .sl (.str n) => some n | _ => none, fun n => .sl (.str n), fun v a h => by
  split at h <;> simp_all, fun _ => rfl⟩
def oStrs : Dec1 (List Bytes) := ⟨fun | .ownv 0 (.str n) => some n | _ => none, fun n => .ownv 0 (.str n), fun v a h => by
  split at h <;> simp_all, fun _ => rfl⟩
def dInts : Dec1 (List Int) := ⟨fun | .sl (.int n) => some n | _ => none, fun n => .sl (.int n), fun v a h => by
  split at h <;> simp_all, fun _ => rfl⟩
def oInts : Dec1 (List Int) := ⟨fun | .ownv 0 (.int n) => some n | _ => none, fun n => .ownv 0 (.int n), fun v a h => by
  split at h <;> simp_all, fun _ => rfl⟩
def dBytes : Dec1 (List UInt8) := ⟨fun | .sl (.u8 n) => some n | _ => none, fun n => .sl (.u8 n), fun v a h => by
  split at h <;> simp_all, fun _ => rfl⟩
def oBytes : Dec1 (List UInt8) := ⟨fun | .ownv 0 (.u8 n) => some n | _ => none, fun n => .ownv 0 (.u8 n), fun v a h => by
  split at h <;> simp_all, fun _ => rfl⟩
def dAny : Dec1 Unit := ⟨fun | .any => some () | _ => none, fun _ => .any, fun v a h => by
  split at h <;> simp_all, fun _ => rfl⟩
def dNilsl : Dec1 Unit := ⟨fun | .nilsl => some () | _ => none, fun _ => .nilsl, fun v a h => by
  split at h <;> simp_all, fun _ => rfl⟩
def dPtr : Dec1 Unit := ⟨fun | .ptr (.arg 0) 0 => some () | _ => none, fun _ => .ptr (.arg 0) 0, fun v a h => by
  split at h <;> simp_all, fun _ => rfl⟩
def Msg.ofF : FV → Option Msg
  | .agg [.int .i64 kind, .int .i64 cmd, .int .i64 ver, .str auth, .int .i64 family, .int .i64 ae, .str pfx, .int .i64 plen, .int .i64 tag, .str next, .int .i64 metric, .str id, .int .i64 seq, .int .i64 seq2, .int .i64 interval, .int .i64 flags, .int .i64 hops, .int .i64 nonce, .int .i64 cost, .str addr, .str orig, .sl (.dest l), .int .i64 type, .str data, .sl (.sub s)] =>
    some ⟨kind, cmd, ver, auth, family, ae, pfx, plen, tag, next, metric, id, seq, seq2, interval, flags, hops, nonce, cost, addr, orig, l, type, data, s⟩
  | _ => none
def dMsg : Dec1 Msg := ⟨Msg.ofF, Msg.fv, fun v a h => (by
  unfold Msg.ofF at h
  split at h
  · cases h; rfl
  · cases h), fun _ => rfl⟩
def dDest : Dec1 Dest := ⟨Dest.of, Dest.fv, fun v a h => (by
  unfold Dest.of at h
  split at h
  · cases h; rfl
  · cases h), fun _ => rfl⟩
def dSubT : Dec1 SubT := ⟨SubT.of, SubT.fv, fun v a h => (by
  unfold SubT.of at h
  split at h
  · cases h; rfl
  · cases h), fun _ => rfl⟩
def dTlv : Dec1 Tlv := ⟨Tlv.of, Tlv.fv, fun v a h => (by
  unfold Tlv.of at h
  split at h
  · cases h; rfl
  · cases h), fun _ => rfl⟩
def dNil : Dec Unit := ⟨fun | [] => some () | _ => none, fun _ => [], fun v a h => by
  split at h <;> simp_all, fun _ => rfl⟩
def decC {α β : Type} (d : Dec1 α) (r : Dec β) : List FV → Option (α × β)
  | [] => none
  | v :: vs => match d.dec v with
    | none => none
    | some a => match r.dec vs with
      | some b => some (a, b)
      | none => none
def dC {α β : Type} (d : Dec1 α) (r : Dec β) : Dec (α × β) := ⟨decC d r, fun p => d.enc p.1 :: r.enc p.2, fun v a h => (by
  unfold decC at h
  split at h
  · cases h
  · split at h
    · cases h
    · rename_i x hx
      split at h
      · rename_i y hy
        cases h
        rw [d.ok _ _ hx, r.ok _ _ hy]
      · cases h), fun a => by simp [decC, d.back, r.back]⟩
/-- A struct. -/
def dAgg {α : Type} (r : Dec α) : Dec1 α := ⟨fun | .agg vs => r.dec vs | _ => none, fun a => .agg (r.enc a), fun v a h => (by
  split at h
  · rw [r.ok _ _ h]
  · cases h), fun a => r.back a⟩
def dMap {α β : Type} (r : Dec1 α) (f : α → β) (g : β → α) (hg : ∀ a, g (f a) = a) (hf : ∀ b, f (g b) = b) : Dec1 β := ⟨fun v => (r.dec v).map f, fun b => r.enc (g b), fun v b h => by
  simp only [Option.map_eq_some_iff] at h
  obtain ⟨a, h1, rfl⟩ := h
  rw [hg]; exact r.ok v a h1, fun b => by simp [r.back, hf]⟩
def oNil : DecO Unit := ⟨fun | [] => some () | _ => none, fun _ => [], fun v a h => by
  split at h <;> simp_all, fun _ => rfl⟩
def oOne {α : Type} (r : Dec α) : DecO α := ⟨fun | [cs] => r.dec cs | _ => none, fun a => [r.enc a], fun v a h => (by
  split at h
  · rw [r.ok _ _ h]
  · cases h), fun a => r.back a⟩
/-! ### Laws of functions, of loops -/
def mkF {α β : Type} (ts : List NT) (d : Dec α) (o : DecO β) (f : α → β → List Bool × FV × β) : FSpec := fun xs objs => match d.dec (nzs ts xs), o.dec objs with
  | some a, some b => some ((f a b).1, (f a b).2.1, o.enc (f a b).2.2)
  | _, _ => none
def mkS {α : Type} (ts : List NT) (d : Dec α) (f : α → List Bool × FV) : FSpec := mkF ts d oNil fun a _ => ((f a).1, (f a).2, ())
theorem nzs_nil : ∀ ys : List FV, nzs [] ys = ys := fun ys => by cases ys <;> rfl
/-- A function's tree, closed to the eye. -/
structure FFun (tt : TT) (calls : List (Nat × FSpec)) (loops : List (Nat × LoopAnn)) (fn : Func) (args : List FV) (objs : List (List FV)) (post : FV → List (List FV) → Prop) : Prop where
  out : ffun tt calls loops fn args objs post
theorem FFun.of {tt : TT} {calls : List (Nat × FSpec)} {loops : List (Nat × LoopAnn)} {fn : Func} {args : List FV} {objs : List (List FV)} {post : FV → List (List FV) → Prop} {T : Prop} (h : ffun tt calls loops fn args objs post = T) (t : T) : FFun tt calls loops fn args objs post :=
  ⟨Eq.mpr h t⟩
structure FRound (tt : TT) (calls : List (Nat × FSpec)) (loops : List (Nat × LoopAnn)) (ins : List (Nat × Option LTag)) (c : Code) (vs : List FV) (objs : List (List FV)) (post : FX → List FV → List (List FV) → Prop) : Prop where
  out : fround tt calls loops ins c vs objs post
theorem FRound.of {tt : TT} {calls : List (Nat × FSpec)} {loops : List (Nat × LoopAnn)} {ins : List (Nat × Option LTag)} {c : Code} {vs : List FV} {objs : List (List FV)} {post : FX → List FV → List (List FV) → Prop} {T : Prop} (h : fround tt calls loops ins c vs objs post = T) (t : T) : FRound tt calls loops ins c vs objs post :=
  ⟨Eq.mpr h t⟩
section
variable {calls : List (Nat × FSpec)} {tt : TT} {loops : List (Nat × LoopAnn)} {α β γ δ : Type}
theorem mem_any (C : CallsOK Tryz.prog et calls) (T : TypesOK Tryz.prog et tt) {g : Nat} {fn : Func} (hf : Tryz.prog.funcs[g]? = some fn) (h : fnOK fn = true)
    {ts : List NT} {d : Dec α} {o : DecO β} {f : α → β → List Bool × FV × β} (rs : List NT)
    (H : ∀ a b, (∀ p ∈ (f a b).1, p = true) → ∃ loops, LoopsOK Tryz.prog et loops (bodyOf fn) ∧ FFun tt calls loops fn (d.enc a) (o.enc b) fun r' o' => nzr rs r' = (f a b).2.1 ∧ o' = o.enc (f a b).2.2) : CallSound Tryz.prog et g (mkF ts d o f) := by
  have base : CallSound Tryz.prog et g (mkF [] d o f) := fun_any C T hf h rs fun xs objs asks r objs' hs ha => by
    unfold mkF at hs
    split at hs
    · rename_i a b hd ho
      simp only [Option.some.injEq, Prod.mk.injEq] at hs
      obtain ⟨rfl, rfl, rfl⟩ := hs
      rw [nzs_nil] at hd
      rw [d.ok _ _ hd, o.ok _ _ ho]
      obtain ⟨loops, L, h⟩ := H a b ha
      exact ⟨loops, L, h.out⟩
    · cases hs
  have := base.args ts
  refine cast (congrArg (CallSound Tryz.prog et g) ?_) this
  funext xs objs
  unfold mkF
  rw [nzs_nil]
theorem mem_man (C : CallsOK Tryz.prog et calls) (T : TypesOK Tryz.prog et tt) {g : Nat} {fn : Func} (hf : Tryz.prog.funcs[g]? = some fn) (h : fnOK fn = true)
    (L : LoopsOK Tryz.prog et loops (bodyOf fn)) {ts : List NT} {d : Dec α} {o : DecO β} {f : α → β → List Bool × FV × β} (rs : List NT)
    (H : ∀ a b, (∀ p ∈ (f a b).1, p = true) → FFun tt calls loops fn (d.enc a) (o.enc b) fun r' o' => nzr rs r' = (f a b).2.1 ∧ o' = o.enc (f a b).2.2) : CallSound Tryz.prog et g (mkF ts d o f) :=
  mem_any C T hf h rs fun a b ha => ⟨loops, L, H a b ha⟩
theorem pure_any (C : CallsOK Tryz.prog et calls) (T : TypesOK Tryz.prog et tt) {g : Nat} {fn : Func} (hf : Tryz.prog.funcs[g]? = some fn) (h : fnOK fn = true)
    {ts : List NT} {d : Dec α} {f : α → List Bool × FV} (rs : List NT)
    (H : ∀ a, (∀ p ∈ (f a).1, p = true) → ∃ loops, LoopsOK Tryz.prog et loops (bodyOf fn) ∧ FFun tt calls loops fn (d.enc a) [] fun r' o' => nzr rs r' = (f a).2 ∧ o' = []) : CallSound Tryz.prog et g (mkS ts d f) :=
  mem_any C T hf h rs fun a _ ha => H a ha
theorem pure_man (C : CallsOK Tryz.prog et calls) (T : TypesOK Tryz.prog et tt) {g : Nat} {fn : Func} (hf : Tryz.prog.funcs[g]? = some fn) (h : fnOK fn = true)
    (L : LoopsOK Tryz.prog et loops (bodyOf fn)) {ts : List NT} {d : Dec α} {f : α → List Bool × FV} (rs : List NT)
    (H : ∀ a, (∀ p ∈ (f a).1, p = true) → FFun tt calls loops fn (d.enc a) [] fun r' o' => nzr rs r' = (f a).2 ∧ o' = []) : CallSound Tryz.prog et g (mkS ts d f) :=
  mem_man C T hf h L rs fun a _ ha => H a ha
/-- The calls' laws too may hang on the arguments. -/
theorem mem_case (T : TypesOK Tryz.prog et tt) {g : Nat} {fn : Func} (hf : Tryz.prog.funcs[g]? = some fn) (h : fnOK fn = true)
    {ts : List NT} {d : Dec α} {o : DecO β} {f : α → β → List Bool × FV × β} (rs : List NT)
    (H : ∀ a b, (∀ p ∈ (f a b).1, p = true) → ∃ calls loops, CallsOK Tryz.prog et calls ∧ LoopsOK Tryz.prog et loops (bodyOf fn) ∧ FFun tt calls loops fn (d.enc a) (o.enc b) fun r' o' => nzr rs r' = (f a b).2.1 ∧ o' = o.enc (f a b).2.2) : CallSound Tryz.prog et g (mkF ts d o f) := by
  have base : CallSound Tryz.prog et g (mkF [] d o f) := fun_sound0 (ts := rs) T hf (fn_body h).1 (fn_body h).2.1 (fn_body h).2.2 fun xs objs asks r objs' hs ha m a hinv hlt Q hQ => by
    unfold mkF at hs
    split at hs
    · rename_i a0 b0 hd ho
      simp only [Option.some.injEq, Prod.mk.injEq] at hs
      obtain ⟨rfl, rfl, rfl⟩ := hs
      rw [nzs_nil] at hd
      obtain ⟨calls, loops, C, L, hh⟩ := H a0 b0 ha
      have hH := hh.out
      rw [← d.ok _ _ hd, ← o.ok _ _ ho] at hH
      unfold ffun at hH
      rw [(fn_body h).1] at hH
      exact fexec_sound T C hmix (bodyOf fn) L hH hinv (fun x hx => hx) hlt hQ
    · cases hs
  have := base.args ts
  refine cast (congrArg (CallSound Tryz.prog et g) ?_) this
  funext xs objs
  unfold mkF
  rw [nzs_nil]
theorem pure_case (T : TypesOK Tryz.prog et tt) {g : Nat} {fn : Func} (hf : Tryz.prog.funcs[g]? = some fn) (h : fnOK fn = true)
    {ts : List NT} {d : Dec α} {f : α → List Bool × FV} (rs : List NT)
    (H : ∀ a, (∀ p ∈ (f a).1, p = true) → ∃ calls loops, CallsOK Tryz.prog et calls ∧ LoopsOK Tryz.prog et loops (bodyOf fn) ∧ FFun tt calls loops fn (d.enc a) [] fun r' o' => nzr rs r' = (f a).2 ∧ o' = []) : CallSound Tryz.prog et g (mkS ts d f) :=
  mem_case T hf h rs fun a _ ha => H a ha
/-- A loop's law: the slots ahead, the slots behind, the variables. -/
def mkL (d : Dec α) (d2 : Dec γ) (o : DecO β) (f : α → β → List Bool × FX × γ × β) : List FV → List (List FV) → Option (List Bool × FX × List FV × List (List FV)) := fun ds ext => match d.dec ds, o.dec ext with
  | some a, some b => some ((f a b).1, (f a b).2.1, d2.enc (f a b).2.2.1, o.enc (f a b).2.2.2)
  | _, _ => none
theorem loop_man (C : CallsOK Tryz.prog et calls) (T : TypesOK Tryz.prog et tt) {c : Code} (L : LoopsOK Tryz.prog et loops c) {ins : List (Nat × Option LTag)} {d : Dec α} {d2 : Dec γ} {o : DecO β} {f : α → β → List Bool × FX × γ × β} (μ : α → β → Nat)
    (H : ∀ a b, (∀ p ∈ (f a b).1, p = true) → FRound tt calls loops ins c (d.enc a) (o.enc b) fun fx us objs => match fx with
      | .normal => ∃ a' b', us = d.enc a' ∧ objs = o.enc b' ∧ μ a' b' < μ a b ∧ (∀ p ∈ (f a' b').1, p = true) ∧ (f a' b').2 = (f a b).2
      | fx => fx = (f a b).2.1 ∧ us = d2.enc (f a b).2.2.1 ∧ objs = o.enc (f a b).2.2.2) : LoopSound Tryz.prog et c ⟨ins, mkL d d2 o f⟩ := by
  refine loop_sound T C hmix L (fun ds ext => match d.dec ds, o.dec ext with
    | some a, some b => μ a b
    | _, _ => 0) fun ds ext asks e us objs hs ha => ?_
  simp only [mkL] at hs
  split at hs
  · rename_i a b hd ho
    simp only [Option.some.injEq, Prod.mk.injEq] at hs
    obtain ⟨rfl, rfl, rfl, rfl⟩ := hs
    have key := H a b ha
    rw [← d.ok _ _ hd, ← o.ok _ _ ho] at key
    refine fround_mono key.out fun fx us2 objs2 h => ?_
    cases fx with
    | normal =>
      obtain ⟨a', b', rfl, rfl, h3, h4, h5⟩ := h
      simp only [mkL, d.back, o.back]
      exact ⟨h3, _, by rw [h5], h4⟩
    | exit i => exact h
    | ret => exact h
  · cases hs
end
/-- A law at work: how a call is put into the table. -/
theorem CallsOK.put {calls : List (Nat × FSpec)} (k : CallsOK P et calls) {g : Nat} {s : FSpec} (h : CallSound P et g s) : CallsOK P et ((g, s) :: calls) := CallsOK.cons h k
end Go.Proofs.Fw
