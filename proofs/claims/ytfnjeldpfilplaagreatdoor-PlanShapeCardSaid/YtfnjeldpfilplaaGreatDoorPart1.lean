import Derived.Test.YtfnjeldpfilplaaGreatDoorProg
import Derived.Shelf.Strings.Builder1
import Derived.Shelf.Strings.OnBuilder
import Derived.Shelf.LaysM
import Derived.Shelf.Strconv.Itoa4
import Derived.Sort.AssemblyPlain
import Derived.Test.YtfnjeldpfilplaaGreatDoorKitA
import Derived.Test.YtfnjeldpfilplaaGreatDoorKit
/- Lemmas and walks for the claims of this seat (own work): Base Sf0 Ss0 Ss1 Ss2 Ss3. -/
namespace Go.Proofs.YtfnjeldpfilplaaGreatDoor
open Go.Vc
@[irreducible] noncomputable def PP : Program := Tryz.prog
theorem PP_def : PP = Tryz.prog := by unfold PP; rfl
theorem PP_mixed : PP.follows .mixedOrders = true := by kernel_rfl
instance : TShape PP 2 false 1 := ⟨fun w => by kernel_rfl, fun w => by kernel_rfl⟩
instance : TUnd PP 2 (.int (.i64)) := ⟨by kernel_rfl⟩
instance : TShape PP 3 false 1 := ⟨fun w => by kernel_rfl, fun w => by kernel_rfl⟩
instance : TInfo PP 3 8 := ⟨fun w => ⟨Tryz.t3, by rw [PP_def]; exact Tryz.typeInfo3 w, rfl⟩⟩
instance : TZero PP 3 [.int .i64 0] := ⟨fun w => ⟨.int .i64 0, by kernel_rfl, by kernel_rfl⟩⟩
instance : TZeroV PP 3 (.int .i64 0) := ⟨fun w => by kernel_rfl⟩
instance : TUnd PP 3 (.int (.i64)) := ⟨by kernel_rfl⟩
instance : TShape PP 4 false 1 := ⟨fun w => by kernel_rfl, fun w => by kernel_rfl⟩
instance : TZeroV PP 4 (.bool false) := ⟨fun w => by kernel_rfl⟩
instance : TUnd PP 4 (.bool) := ⟨by kernel_rfl⟩
instance : TShape PP 5 false 1 := ⟨fun w => by kernel_rfl, fun w => by kernel_rfl⟩
instance : TInfo PP 5 1 := ⟨fun w => ⟨Tryz.t5, by rw [PP_def]; exact Tryz.typeInfo5 w, rfl⟩⟩
instance : TZeroV PP 5 (.int .u8 0) := ⟨fun w => by kernel_rfl⟩
instance : TUnd PP 5 (.int (.u8)) := ⟨by kernel_rfl⟩
instance : TShape PP 9 false 1 := ⟨fun w => by kernel_rfl, fun w => by kernel_rfl⟩
instance : TInfo PP 9 16 := ⟨fun w => ⟨Tryz.t9, by rw [PP_def]; exact Tryz.typeInfo9 w, rfl⟩⟩
instance : TZeroV PP 9 (.string ByteArray.empty) := ⟨fun w => by kernel_rfl⟩
instance : TUnd PP 9 (.string) := ⟨by kernel_rfl⟩
instance : TUnd PP 22 (.slice 25) := ⟨by kernel_rfl⟩
instance : TShape PP 23 false 1 := ⟨fun w => by kernel_rfl, fun w => by kernel_rfl⟩
instance : TZeroV PP 23 (.slice none 0 0) := ⟨fun w => by kernel_rfl⟩
instance : TUnd PP 23 (.slice 9) := ⟨by kernel_rfl⟩
instance : TShape PP 25 true 4 := ⟨fun w => by kernel_rfl, fun w => by kernel_rfl⟩
instance : TInfo PP 25 56 := ⟨fun w => ⟨Tryz.t25, by rw [PP_def]; exact Tryz.typeInfo25 w, rfl⟩⟩
instance : TZero PP 25 [.string ByteArray.empty, .int .i64 0, .slice none 0 0, .int .i64 0] := ⟨fun w => ⟨.agg #[.string ByteArray.empty, .int .i64 0, .slice none 0 0, .int .i64 0], by kernel_rfl, by kernel_rfl⟩⟩
instance : TZeroV PP 25 (.agg #[.string ByteArray.empty, .int .i64 0, .slice none 0 0, .int .i64 0]) := ⟨fun w => by kernel_rfl⟩
instance : TStruct PP 25 [.string ByteArray.empty, .int .i64 0, .slice none 0 0, .int .i64 0] [(0, 1), (1, 1), (2, 1), (3, 1)] := ⟨⟨_, by rw [PP_def]; exact Tryz.underlying25, fun w => by kernel_rfl⟩, fun w => ⟨.agg #[.string ByteArray.empty, .int .i64 0, .slice none 0 0, .int .i64 0], by kernel_rfl, by kernel_rfl⟩⟩
instance : TField PP 25 0 0 := ⟨fun b o w => by kernel_rfl⟩
instance : TField PP 25 1 1 := ⟨fun b o w => by kernel_rfl⟩
instance : TField PP 25 2 2 := ⟨fun b o w => by kernel_rfl⟩
instance : TField PP 25 3 3 := ⟨fun b o w => by kernel_rfl⟩
instance : TShape PP 30 false 1 := ⟨fun w => by kernel_rfl, fun w => by kernel_rfl⟩
instance : TUnd PP 30 (.slice 56) := ⟨by kernel_rfl⟩
instance : TShape PP 31 false 1 := ⟨fun w => by kernel_rfl, fun w => by kernel_rfl⟩
instance : TUnd PP 31 (.slice 45) := ⟨by kernel_rfl⟩
instance : TShape PP 33 true 2 := ⟨fun w => by kernel_rfl, fun w => by kernel_rfl⟩
instance : TZero PP 33 [.slice none 0 0, .slice none 0 0] := ⟨fun w => ⟨.agg #[.slice none 0 0, .slice none 0 0], by kernel_rfl, by kernel_rfl⟩⟩
instance : TStruct PP 33 [.slice none 0 0, .slice none 0 0] [(0, 1), (1, 1)] := ⟨⟨_, by rw [PP_def]; exact Tryz.underlying33, fun w => by kernel_rfl⟩, fun w => ⟨.agg #[.slice none 0 0, .slice none 0 0], by kernel_rfl, by kernel_rfl⟩⟩
instance : TField PP 33 0 0 := ⟨fun b o w => by kernel_rfl⟩
instance : TField PP 33 1 1 := ⟨fun b o w => by kernel_rfl⟩
instance : TShape PP 35 false 1 := ⟨fun w => by kernel_rfl, fun w => by kernel_rfl⟩
instance : TShape PP 43 false 1 := ⟨fun w => by kernel_rfl, fun w => by kernel_rfl⟩
instance : TZeroV PP 43 (.slice none 0 0) := ⟨fun w => by kernel_rfl⟩
instance : TUnd PP 43 (.slice 93) := ⟨by kernel_rfl⟩
instance : TShape PP 45 true 3 := ⟨fun w => by kernel_rfl, fun w => by kernel_rfl⟩
instance : TInfo PP 45 64 := ⟨fun w => ⟨Tryz.t45, by rw [PP_def]; exact Tryz.typeInfo45 w, rfl⟩⟩
instance : TZero PP 45 [.string ByteArray.empty, .slice none 0 0, .slice none 0 0] := ⟨fun w => ⟨.agg #[.string ByteArray.empty, .slice none 0 0, .slice none 0 0], by kernel_rfl, by kernel_rfl⟩⟩
instance : TZeroV PP 45 (.agg #[.string ByteArray.empty, .slice none 0 0, .slice none 0 0]) := ⟨fun w => by kernel_rfl⟩
instance : TStruct PP 45 [.string ByteArray.empty, .slice none 0 0, .slice none 0 0] [(0, 1), (1, 1), (2, 1)] := ⟨⟨_, by rw [PP_def]; exact Tryz.underlying45, fun w => by kernel_rfl⟩, fun w => ⟨.agg #[.string ByteArray.empty, .slice none 0 0, .slice none 0 0], by kernel_rfl, by kernel_rfl⟩⟩
instance : TField PP 45 0 0 := ⟨fun b o w => by kernel_rfl⟩
instance : TField PP 45 1 1 := ⟨fun b o w => by kernel_rfl⟩
instance : TField PP 45 2 2 := ⟨fun b o w => by kernel_rfl⟩
instance : TShape PP 47 true 4 := ⟨fun w => by kernel_rfl, fun w => by kernel_rfl⟩
instance : TZero PP 47 [.slice none 0 0, .slice none 0 0, .slice none 0 0, .int .i64 0] := ⟨fun w => ⟨.agg #[.slice none 0 0, .slice none 0 0, .slice none 0 0, .int .i64 0], by kernel_rfl, by kernel_rfl⟩⟩
instance : TStruct PP 47 [.slice none 0 0, .slice none 0 0, .slice none 0 0, .int .i64 0] [(0, 1), (1, 1), (2, 1), (3, 1)] := ⟨⟨_, by rw [PP_def]; exact Tryz.underlying47, fun w => by kernel_rfl⟩, fun w => ⟨.agg #[.slice none 0 0, .slice none 0 0, .slice none 0 0, .int .i64 0], by kernel_rfl, by kernel_rfl⟩⟩
instance : TField PP 47 0 0 := ⟨fun b o w => by kernel_rfl⟩
instance : TField PP 47 1 1 := ⟨fun b o w => by kernel_rfl⟩
instance : TField PP 47 2 2 := ⟨fun b o w => by kernel_rfl⟩
instance : TField PP 47 3 3 := ⟨fun b o w => by kernel_rfl⟩
instance : TUnd PP 54 (.map 9 4) := ⟨by kernel_rfl⟩
instance : TShape PP 56 true 2 := ⟨fun w => by kernel_rfl, fun w => by kernel_rfl⟩
instance : TZero PP 56 [.string ByteArray.empty, .string ByteArray.empty] := ⟨fun w => ⟨.agg #[.string ByteArray.empty, .string ByteArray.empty], by kernel_rfl, by kernel_rfl⟩⟩
instance : TZeroV PP 56 (.agg #[.string ByteArray.empty, .string ByteArray.empty]) := ⟨fun w => by kernel_rfl⟩
instance : TStruct PP 56 [.string ByteArray.empty, .string ByteArray.empty] [(0, 1), (1, 1)] := ⟨⟨_, by rw [PP_def]; exact Tryz.underlying56, fun w => by kernel_rfl⟩, fun w => ⟨.agg #[.string ByteArray.empty, .string ByteArray.empty], by kernel_rfl, by kernel_rfl⟩⟩
instance : TField PP 56 0 0 := ⟨fun b o w => by kernel_rfl⟩
instance : TField PP 56 1 1 := ⟨fun b o w => by kernel_rfl⟩
instance : TUnd PP 60 (.int (.u64)) := ⟨by kernel_rfl⟩
instance : TShape PP 62 false 1 := ⟨fun w => by kernel_rfl, fun w => by kernel_rfl⟩
instance : TUnd PP 62 (.slice 5) := ⟨by kernel_rfl⟩
instance : TZero PP 64 [.pointer none, .slice none 0 0] := ⟨fun w => ⟨.agg #[.pointer none, .slice none 0 0], by kernel_rfl, by kernel_rfl⟩⟩
instance : TField PP 64 1 1 := ⟨fun b o w => by kernel_rfl⟩
instance : TUnd PP 65 (.array 3 9) := ⟨by kernel_rfl⟩
instance : TShape PP 78 false 1 := ⟨fun w => by kernel_rfl, fun w => by kernel_rfl⟩
instance : TUnd PP 78 (.map 9 3) := ⟨by kernel_rfl⟩
instance : TShape PP 82 false 1 := ⟨fun w => by kernel_rfl, fun w => by kernel_rfl⟩
instance : TShape PP 83 false 1 := ⟨fun w => by kernel_rfl, fun w => by kernel_rfl⟩
instance : TUnd PP 83 (.map 9 9) := ⟨by kernel_rfl⟩
instance : TStruct PP 85 [.map none, .int .i64 0] [(0, 1), (1, 1)] := ⟨⟨_, by rw [PP_def]; exact Tryz.underlying85, fun w => by kernel_rfl⟩, fun w => ⟨.agg #[.map none, .int .i64 0], by kernel_rfl, by kernel_rfl⟩⟩
instance : TField PP 85 0 0 := ⟨fun b o w => by kernel_rfl⟩
instance : TField PP 85 1 1 := ⟨fun b o w => by kernel_rfl⟩
instance : TShape PP 89 false 1 := ⟨fun w => by kernel_rfl, fun w => by kernel_rfl⟩
instance : TZeroV PP 89 (.slice none 0 0) := ⟨fun w => by kernel_rfl⟩
instance : TUnd PP 89 (.slice 91) := ⟨by kernel_rfl⟩
instance : TShape PP 91 true 6 := ⟨fun w => by kernel_rfl, fun w => by kernel_rfl⟩
instance : TZero PP 91 [.int .i64 0, .int .i64 0, .string ByteArray.empty, .string ByteArray.empty, .slice none 0 0, .slice none 0 0] := ⟨fun w => ⟨.agg #[.int .i64 0, .int .i64 0, .string ByteArray.empty, .string ByteArray.empty, .slice none 0 0, .slice none 0 0], by kernel_rfl, by kernel_rfl⟩⟩
instance : TZeroV PP 91 (.agg #[.int .i64 0, .int .i64 0, .string ByteArray.empty, .string ByteArray.empty, .slice none 0 0, .slice none 0 0]) := ⟨fun w => by kernel_rfl⟩
instance : TStruct PP 91 [.int .i64 0, .int .i64 0, .string ByteArray.empty, .string ByteArray.empty, .slice none 0 0, .slice none 0 0] [(0, 1), (1, 1), (2, 1), (3, 1), (4, 1), (5, 1)] := ⟨⟨_, by rw [PP_def]; exact Tryz.underlying91, fun w => by kernel_rfl⟩, fun w => ⟨.agg #[.int .i64 0, .int .i64 0, .string ByteArray.empty, .string ByteArray.empty, .slice none 0 0, .slice none 0 0], by kernel_rfl, by kernel_rfl⟩⟩
instance : TField PP 91 0 0 := ⟨fun b o w => by kernel_rfl⟩
instance : TField PP 91 1 1 := ⟨fun b o w => by kernel_rfl⟩
instance : TField PP 91 2 2 := ⟨fun b o w => by kernel_rfl⟩
instance : TField PP 91 3 3 := ⟨fun b o w => by kernel_rfl⟩
instance : TField PP 91 4 4 := ⟨fun b o w => by kernel_rfl⟩
instance : TField PP 91 5 5 := ⟨fun b o w => by kernel_rfl⟩
instance : TShape PP 93 true 11 := ⟨fun w => by kernel_rfl, fun w => by kernel_rfl⟩
instance : TZero PP 93 [.int .i64 0, .string ByteArray.empty, .int .i64 0, .int .i64 0, .int .i64 0, .string ByteArray.empty, .string ByteArray.empty, .slice none 0 0, .slice none 0 0, .slice none 0 0, .slice none 0 0] := ⟨fun w => ⟨.agg #[.int .i64 0, .string ByteArray.empty, .int .i64 0, .int .i64 0, .int .i64 0, .string ByteArray.empty, .string ByteArray.empty, .slice none 0 0, .slice none 0 0, .slice none 0 0, .slice none 0 0], by kernel_rfl, by kernel_rfl⟩⟩
instance : TZeroV PP 93 (.agg #[.int .i64 0, .string ByteArray.empty, .int .i64 0, .int .i64 0, .int .i64 0, .string ByteArray.empty, .string ByteArray.empty, .slice none 0 0, .slice none 0 0, .slice none 0 0, .slice none 0 0]) := ⟨fun w => by kernel_rfl⟩
instance : TStruct PP 93 [.int .i64 0, .string ByteArray.empty, .int .i64 0, .int .i64 0, .int .i64 0, .string ByteArray.empty, .string ByteArray.empty, .slice none 0 0, .slice none 0 0, .slice none 0 0, .slice none 0 0] [(0, 1), (1, 1), (2, 1), (3, 6), (9, 1), (10, 1)] := ⟨⟨_, by rw [PP_def]; exact Tryz.underlying93, fun w => by kernel_rfl⟩, fun w => ⟨.agg #[.int .i64 0, .string ByteArray.empty, .int .i64 0, .int .i64 0, .int .i64 0, .string ByteArray.empty, .string ByteArray.empty, .slice none 0 0, .slice none 0 0, .slice none 0 0, .slice none 0 0], by kernel_rfl, by kernel_rfl⟩⟩
instance : TField PP 93 0 0 := ⟨fun b o w => by kernel_rfl⟩
instance : TField PP 93 1 1 := ⟨fun b o w => by kernel_rfl⟩
instance : TField PP 93 2 2 := ⟨fun b o w => by kernel_rfl⟩
instance : TField PP 93 3 3 := ⟨fun b o w => by kernel_rfl⟩
instance : TField PP 93 4 9 := ⟨fun b o w => by kernel_rfl⟩
instance : TField PP 93 5 10 := ⟨fun b o w => by kernel_rfl⟩
instance : TUnd PP 96 (.pointer 5) := ⟨by kernel_rfl⟩
instance : TShape PP 104 true 2 := ⟨fun w => by kernel_rfl, fun w => by kernel_rfl⟩
instance : TStruct PP 104 [.map none, .map none] [(0, 1), (1, 1)] := ⟨⟨_, by rw [PP_def]; exact Tryz.underlying104, fun w => by kernel_rfl⟩, fun w => ⟨.agg #[.map none, .map none], by kernel_rfl, by kernel_rfl⟩⟩
instance : TField PP 104 0 0 := ⟨fun b o w => by kernel_rfl⟩
instance : TField PP 104 1 1 := ⟨fun b o w => by kernel_rfl⟩
instance : TStruct PP 106 [.map none, .map none, .map none, .slice none 0 0] [(0, 2), (2, 1), (3, 1)] := ⟨⟨_, by rw [PP_def]; exact Tryz.underlying106, fun w => by kernel_rfl⟩, fun w => ⟨.agg #[.map none, .map none, .map none, .slice none 0 0], by kernel_rfl, by kernel_rfl⟩⟩
instance : TField PP 106 0 0 := ⟨fun b o w => by kernel_rfl⟩
instance : TField PP 106 1 2 := ⟨fun b o w => by kernel_rfl⟩
instance : TField PP 106 2 3 := ⟨fun b o w => by kernel_rfl⟩
instance : TUnd PP 134 (.int (.u64)) := ⟨by kernel_rfl⟩
instance : TUnd PP 142 (.slice 23) := ⟨by kernel_rfl⟩
instance : TUnd PP 150 (.array 14 9) := ⟨by kernel_rfl⟩
instance : TUnd PP 151 (.slice 43) := ⟨by kernel_rfl⟩
instance : TShape PP 158 true 3 := ⟨fun w => by kernel_rfl, fun w => by kernel_rfl⟩
instance : TZero PP 158 [.string ByteArray.empty, .int .i64 0, .bool false] := ⟨fun w => ⟨.agg #[.string ByteArray.empty, .int .i64 0, .bool false], by kernel_rfl, by kernel_rfl⟩⟩
instance : TStruct PP 158 [.string ByteArray.empty, .int .i64 0, .bool false] [(0, 1), (1, 1), (2, 1)] := ⟨⟨_, by rw [PP_def]; exact Tryz.underlying158, fun w => by kernel_rfl⟩, fun w => ⟨.agg #[.string ByteArray.empty, .int .i64 0, .bool false], by kernel_rfl, by kernel_rfl⟩⟩
instance : TField PP 158 1 1 := ⟨fun b o w => by kernel_rfl⟩
instance : TField PP 158 2 2 := ⟨fun b o w => by kernel_rfl⟩
instance : TShape PP 164 true 8 := ⟨fun w => by kernel_rfl, fun w => by kernel_rfl⟩
instance : TZero PP 164 [.bool false, .bool false, .bool false, .bool false, .bool false, .int .i64 0, .int .i64 0, .int .i64 0] := ⟨fun w => ⟨.agg #[.bool false, .bool false, .bool false, .bool false, .bool false, .int .i64 0, .int .i64 0, .int .i64 0], by kernel_rfl, by kernel_rfl⟩⟩
instance : TStruct PP 164 [.bool false, .bool false, .bool false, .bool false, .bool false, .int .i64 0, .int .i64 0, .int .i64 0] [(0, 1), (1, 1), (2, 1), (3, 1), (4, 1), (5, 1), (6, 1), (7, 1)] := ⟨⟨_, by rw [PP_def]; exact Tryz.underlying164, fun w => by kernel_rfl⟩, fun w => ⟨.agg #[.bool false, .bool false, .bool false, .bool false, .bool false, .int .i64 0, .int .i64 0, .int .i64 0], by kernel_rfl, by kernel_rfl⟩⟩
instance : TField PP 164 0 0 := ⟨fun b o w => by kernel_rfl⟩
instance : TField PP 164 1 1 := ⟨fun b o w => by kernel_rfl⟩
instance : TField PP 164 2 2 := ⟨fun b o w => by kernel_rfl⟩
instance : TField PP 164 3 3 := ⟨fun b o w => by kernel_rfl⟩
instance : TField PP 164 4 4 := ⟨fun b o w => by kernel_rfl⟩
instance : TField PP 164 5 5 := ⟨fun b o w => by kernel_rfl⟩
instance : TField PP 164 6 6 := ⟨fun b o w => by kernel_rfl⟩
instance : TField PP 164 7 7 := ⟨fun b o w => by kernel_rfl⟩
instance : TShape PP 165 true 64 := ⟨fun w => by kernel_rfl, fun w => by kernel_rfl⟩
instance : TZero PP 165 [.bool false, .bool false, .bool false, .bool false, .bool false, .int .i64 0, .int .i64 0, .int .i64 0, .bool false, .bool false, .bool false, .bool false, .bool false, .int .i64 0, .int .i64 0, .int .i64 0, .bool false, .bool false, .bool false, .bool false, .bool false, .int .i64 0, .int .i64 0, .int .i64 0, .bool false, .bool false, .bool false, .bool false, .bool false, .int .i64 0, .int .i64 0, .int .i64 0, .bool false, .bool false, .bool false, .bool false, .bool false, .int .i64 0, .int .i64 0, .int .i64 0, .bool false, .bool false, .bool false, .bool false, .bool false, .int .i64 0, .int .i64 0, .int .i64 0, .bool false, .bool false, .bool false, .bool false, .bool false, .int .i64 0, .int .i64 0, .int .i64 0, .bool false, .bool false, .bool false, .bool false, .bool false, .int .i64 0, .int .i64 0, .int .i64 0] := ⟨fun w => ⟨.agg #[.bool false, .bool false, .bool false, .bool false, .bool false, .int .i64 0, .int .i64 0, .int .i64 0, .bool false, .bool false, .bool false, .bool false, .bool false, .int .i64 0, .int .i64 0, .int .i64 0, .bool false, .bool false, .bool false, .bool false, .bool false, .int .i64 0, .int .i64 0, .int .i64 0, .bool false, .bool false, .bool false, .bool false, .bool false, .int .i64 0, .int .i64 0, .int .i64 0, .bool false, .bool false, .bool false, .bool false, .bool false, .int .i64 0, .int .i64 0, .int .i64 0, .bool false, .bool false, .bool false, .bool false, .bool false, .int .i64 0, .int .i64 0, .int .i64 0, .bool false, .bool false, .bool false, .bool false, .bool false, .int .i64 0, .int .i64 0, .int .i64 0, .bool false, .bool false, .bool false, .bool false, .bool false, .int .i64 0, .int .i64 0, .int .i64 0], by kernel_rfl, by kernel_rfl⟩⟩
instance : TUnd PP 165 (.array 8 164) := ⟨by kernel_rfl⟩
instance : TUnd PP 168 (.slice 89) := ⟨by kernel_rfl⟩
instance : TUnd PP 170 (.slice 3) := ⟨by kernel_rfl⟩
instance : TShape PP 172 false 1 := ⟨fun w => by kernel_rfl, fun w => by kernel_rfl⟩
instance : TShape PP 173 true 8 := ⟨fun w => by kernel_rfl, fun w => by kernel_rfl⟩
instance : TZero PP 173 [.nilFunc, .nilFunc, .nilFunc, .nilFunc, .nilFunc, .nilFunc, .nilFunc, .nilFunc] := ⟨fun w => ⟨.agg #[.nilFunc, .nilFunc, .nilFunc, .nilFunc, .nilFunc, .nilFunc, .nilFunc, .nilFunc], by kernel_rfl, by kernel_rfl⟩⟩
instance : TUnd PP 173 (.array 8 172) := ⟨by kernel_rfl⟩
instance : TShape PP 185 true 4 := ⟨fun w => by kernel_rfl, fun w => by kernel_rfl⟩
instance : TZero PP 185 [.string ByteArray.empty, .int .i64 0, .bool false, .nilFunc] := ⟨fun w => ⟨.agg #[.string ByteArray.empty, .int .i64 0, .bool false, .nilFunc], by kernel_rfl, by kernel_rfl⟩⟩
instance : TZeroV PP 185 (.agg #[.string ByteArray.empty, .int .i64 0, .bool false, .nilFunc]) := ⟨fun w => by kernel_rfl⟩
instance : TStruct PP 185 [.string ByteArray.empty, .int .i64 0, .bool false, .nilFunc] [(0, 1), (1, 1), (2, 1), (3, 1)] := ⟨⟨_, by rw [PP_def]; exact Tryz.underlying185, fun w => by kernel_rfl⟩, fun w => ⟨.agg #[.string ByteArray.empty, .int .i64 0, .bool false, .nilFunc], by kernel_rfl, by kernel_rfl⟩⟩
instance : TField PP 185 0 0 := ⟨fun b o w => by kernel_rfl⟩
instance : TField PP 185 1 1 := ⟨fun b o w => by kernel_rfl⟩
instance : TField PP 185 2 2 := ⟨fun b o w => by kernel_rfl⟩
instance : TShape PP 191 true 3 := ⟨fun w => by kernel_rfl, fun w => by kernel_rfl⟩
instance : TZero PP 191 [.int .i64 0, .int .i64 0, .int .i64 0] := ⟨fun w => ⟨.agg #[.int .i64 0, .int .i64 0, .int .i64 0], by kernel_rfl, by kernel_rfl⟩⟩
instance : TStruct PP 191 [.int .i64 0, .int .i64 0, .int .i64 0] [(0, 1), (1, 1), (2, 1)] := ⟨⟨_, by rw [PP_def]; exact Tryz.underlying191, fun w => by kernel_rfl⟩, fun w => ⟨.agg #[.int .i64 0, .int .i64 0, .int .i64 0], by kernel_rfl, by kernel_rfl⟩⟩
instance : TField PP 191 0 0 := ⟨fun b o w => by kernel_rfl⟩
instance : TField PP 191 1 1 := ⟨fun b o w => by kernel_rfl⟩
instance : TField PP 191 2 2 := ⟨fun b o w => by kernel_rfl⟩
instance : TShape PP 192 true 24 := ⟨fun w => by kernel_rfl, fun w => by kernel_rfl⟩
instance : TZero PP 192 [.int .i64 0, .int .i64 0, .int .i64 0, .int .i64 0, .int .i64 0, .int .i64 0, .int .i64 0, .int .i64 0, .int .i64 0, .int .i64 0, .int .i64 0, .int .i64 0, .int .i64 0, .int .i64 0, .int .i64 0, .int .i64 0, .int .i64 0, .int .i64 0, .int .i64 0, .int .i64 0, .int .i64 0, .int .i64 0, .int .i64 0, .int .i64 0] := ⟨fun w => ⟨.agg #[.int .i64 0, .int .i64 0, .int .i64 0, .int .i64 0, .int .i64 0, .int .i64 0, .int .i64 0, .int .i64 0, .int .i64 0, .int .i64 0, .int .i64 0, .int .i64 0, .int .i64 0, .int .i64 0, .int .i64 0, .int .i64 0, .int .i64 0, .int .i64 0, .int .i64 0, .int .i64 0, .int .i64 0, .int .i64 0, .int .i64 0, .int .i64 0], by kernel_rfl, by kernel_rfl⟩⟩
instance : TUnd PP 192 (.array 8 191) := ⟨by kernel_rfl⟩
instance : TShape PP 195 true 2 := ⟨fun w => by kernel_rfl, fun w => by kernel_rfl⟩
instance : TZero PP 195 [.int .i64 0, .int .i64 0] := ⟨fun w => ⟨.agg #[.int .i64 0, .int .i64 0], by kernel_rfl, by kernel_rfl⟩⟩
instance : TZeroV PP 195 (.agg #[.int .i64 0, .int .i64 0]) := ⟨fun w => by kernel_rfl⟩
instance : TStruct PP 195 [.int .i64 0, .int .i64 0] [(0, 1), (1, 1)] := ⟨⟨_, by rw [PP_def]; exact Tryz.underlying195, fun w => by kernel_rfl⟩, fun w => ⟨.agg #[.int .i64 0, .int .i64 0], by kernel_rfl, by kernel_rfl⟩⟩
instance : TField PP 195 0 0 := ⟨fun b o w => by kernel_rfl⟩
instance : TField PP 195 1 1 := ⟨fun b o w => by kernel_rfl⟩
instance : TUnd PP 197 (.map 9 195) := ⟨by kernel_rfl⟩
instance : TShape PP 201 false 1 := ⟨fun w => by kernel_rfl, fun w => by kernel_rfl⟩
instance : TZero PP 201 [.int .u64 0] := ⟨fun w => ⟨.int .u64 0, by kernel_rfl, by kernel_rfl⟩⟩
instance : TUnd PP 201 (.int (.u64)) := ⟨by kernel_rfl⟩
instance : TZeroV PP 207 (.slice none 0 0) := ⟨fun w => by kernel_rfl⟩
instance : TUnd PP 207 (.slice 185) := ⟨by kernel_rfl⟩
instance : TShape PP 215 false 1 := ⟨fun w => by kernel_rfl, fun w => by kernel_rfl⟩
instance : TZeroV PP 215 (.map none) := ⟨fun w => by kernel_rfl⟩
instance : TUnd PP 215 (.map 3 207) := ⟨by kernel_rfl⟩
instance : TUnd PP 217 (.slice 215) := ⟨by kernel_rfl⟩
theorem en3 : Enters PP 3 := fun args w => by rw [PP_def]; exact Tryz.call3 args w
theorem fn3 : PP.funcs[3]? = some Tryz.f3 := by rw [PP_def]; exact Tryz.func3
theorem en4 : Enters PP 4 := fun args w => by rw [PP_def]; exact Tryz.call4 args w
theorem fn4 : PP.funcs[4]? = some Tryz.f4 := by rw [PP_def]; exact Tryz.func4
theorem en5 : Enters PP 5 := fun args w => by rw [PP_def]; exact Tryz.call5 args w
theorem fn5 : PP.funcs[5]? = some Tryz.f5 := by rw [PP_def]; exact Tryz.func5
theorem en6 : Enters PP 6 := fun args w => by rw [PP_def]; exact Tryz.call6 args w
theorem fn6 : PP.funcs[6]? = some Tryz.f6 := by rw [PP_def]; exact Tryz.func6
theorem en7 : Enters PP 7 := fun args w => by rw [PP_def]; exact Tryz.call7 args w
theorem fn7 : PP.funcs[7]? = some Tryz.f7 := by rw [PP_def]; exact Tryz.func7
theorem en8 : Enters PP 8 := fun args w => by rw [PP_def]; exact Tryz.call8 args w
theorem fn8 : PP.funcs[8]? = some Tryz.f8 := by rw [PP_def]; exact Tryz.func8
theorem en9 : Enters PP 9 := fun args w => by rw [PP_def]; exact Tryz.call9 args w
theorem fn9 : PP.funcs[9]? = some Tryz.f9 := by rw [PP_def]; exact Tryz.func9
theorem en10 : Enters PP 10 := fun args w => by rw [PP_def]; exact Tryz.call10 args w
theorem fn10 : PP.funcs[10]? = some Tryz.f10 := by rw [PP_def]; exact Tryz.func10
theorem en11 : Enters PP 11 := fun args w => by rw [PP_def]; exact Tryz.call11 args w
theorem fn11 : PP.funcs[11]? = some Tryz.f11 := by rw [PP_def]; exact Tryz.func11
theorem en12 : Enters PP 12 := fun args w => by rw [PP_def]; exact Tryz.call12 args w
theorem fn12 : PP.funcs[12]? = some Tryz.f12 := by rw [PP_def]; exact Tryz.func12
theorem en13 : Enters PP 13 := fun args w => by rw [PP_def]; exact Tryz.call13 args w
theorem fn13 : PP.funcs[13]? = some Tryz.f13 := by rw [PP_def]; exact Tryz.func13
theorem en14 : Enters PP 14 := fun args w => by rw [PP_def]; exact Tryz.call14 args w
theorem fn14 : PP.funcs[14]? = some Tryz.f14 := by rw [PP_def]; exact Tryz.func14
theorem en15 : Enters PP 15 := fun args w => by rw [PP_def]; exact Tryz.call15 args w
theorem fn15 : PP.funcs[15]? = some Tryz.f15 := by rw [PP_def]; exact Tryz.func15
theorem en16 : Enters PP 16 := fun args w => by rw [PP_def]; exact Tryz.call16 args w
theorem fn16 : PP.funcs[16]? = some Tryz.f16 := by rw [PP_def]; exact Tryz.func16
theorem en17 : Enters PP 17 := fun args w => by rw [PP_def]; exact Tryz.call17 args w
theorem fn17 : PP.funcs[17]? = some Tryz.f17 := by rw [PP_def]; exact Tryz.func17
theorem en18 : Enters PP 18 := fun args w => by rw [PP_def]; exact Tryz.call18 args w
theorem fn18 : PP.funcs[18]? = some Tryz.f18 := by rw [PP_def]; exact Tryz.func18
theorem en19 : Enters PP 19 := fun args w => by rw [PP_def]; exact Tryz.call19 args w
theorem fn19 : PP.funcs[19]? = some Tryz.f19 := by rw [PP_def]; exact Tryz.func19
theorem en20 : Enters PP 20 := fun args w => by rw [PP_def]; exact Tryz.call20 args w
theorem fn20 : PP.funcs[20]? = some Tryz.f20 := by rw [PP_def]; exact Tryz.func20
theorem en21 : Enters PP 21 := fun args w => by rw [PP_def]; exact Tryz.call21 args w
theorem en22 : Enters PP 22 := fun args w => by rw [PP_def]; exact Tryz.call22 args w
theorem fn22 : PP.funcs[22]? = some Tryz.f22 := by rw [PP_def]; exact Tryz.func22
theorem en23 : Enters PP 23 := fun args w => by rw [PP_def]; exact Tryz.call23 args w
theorem fn23 : PP.funcs[23]? = some Tryz.f23 := by rw [PP_def]; exact Tryz.func23
theorem en24 : Enters PP 24 := fun args w => by rw [PP_def]; exact Tryz.call24 args w
theorem fn24 : PP.funcs[24]? = some Tryz.f24 := by rw [PP_def]; exact Tryz.func24
theorem en25 : Enters PP 25 := fun args w => by rw [PP_def]; exact Tryz.call25 args w
theorem fn25 : PP.funcs[25]? = some Tryz.f25 := by rw [PP_def]; exact Tryz.func25
theorem en26 : Enters PP 26 := fun args w => by rw [PP_def]; exact Tryz.call26 args w
theorem fn26 : PP.funcs[26]? = some Tryz.f26 := by rw [PP_def]; exact Tryz.func26
theorem en27 : Enters PP 27 := fun args w => by rw [PP_def]; exact Tryz.call27 args w
theorem fn27 : PP.funcs[27]? = some Tryz.f27 := by rw [PP_def]; exact Tryz.func27
theorem en28 : Enters PP 28 := fun args w => by rw [PP_def]; exact Tryz.call28 args w
theorem fn28 : PP.funcs[28]? = some Tryz.f28 := by rw [PP_def]; exact Tryz.func28
theorem en29 : Enters PP 29 := fun args w => by rw [PP_def]; exact Tryz.call29 args w
theorem fn29 : PP.funcs[29]? = some Tryz.f29 := by rw [PP_def]; exact Tryz.func29
theorem en30 : Enters PP 30 := fun args w => by rw [PP_def]; exact Tryz.call30 args w
theorem fn30 : PP.funcs[30]? = some Tryz.f30 := by rw [PP_def]; exact Tryz.func30
theorem en31 : Enters PP 31 := fun args w => by rw [PP_def]; exact Tryz.call31 args w
theorem fn31 : PP.funcs[31]? = some Tryz.f31 := by rw [PP_def]; exact Tryz.func31
theorem en32 : Enters PP 32 := fun args w => by rw [PP_def]; exact Tryz.call32 args w
theorem fn32 : PP.funcs[32]? = some Tryz.f32 := by rw [PP_def]; exact Tryz.func32
theorem en33 : Enters PP 33 := fun args w => by rw [PP_def]; exact Tryz.call33 args w
theorem en34 : Enters PP 34 := fun args w => by rw [PP_def]; exact Tryz.call34 args w
theorem en36 : Enters PP 36 := fun args w => by rw [PP_def]; exact Tryz.call36 args w
theorem fn36 : PP.funcs[36]? = some Tryz.f36 := by rw [PP_def]; exact Tryz.func36
theorem en37 : Enters PP 37 := fun args w => by rw [PP_def]; exact Tryz.call37 args w
theorem fn37 : PP.funcs[37]? = some Tryz.f37 := by rw [PP_def]; exact Tryz.func37
theorem en38 : Enters PP 38 := fun args w => by rw [PP_def]; exact Tryz.call38 args w
theorem fn38 : PP.funcs[38]? = some Tryz.f38 := by rw [PP_def]; exact Tryz.func38
theorem en39 : Enters PP 39 := fun args w => by rw [PP_def]; exact Tryz.call39 args w
theorem fn39 : PP.funcs[39]? = some Tryz.f39 := by rw [PP_def]; exact Tryz.func39
theorem en40 : Enters PP 40 := fun args w => by rw [PP_def]; exact Tryz.call40 args w
theorem fn40 : PP.funcs[40]? = some Tryz.f40 := by rw [PP_def]; exact Tryz.func40
theorem en41 : Enters PP 41 := fun args w => by rw [PP_def]; exact Tryz.call41 args w
theorem fn41 : PP.funcs[41]? = some Tryz.f41 := by rw [PP_def]; exact Tryz.func41
theorem en42 : Enters PP 42 := fun args w => by rw [PP_def]; exact Tryz.call42 args w
theorem fn42 : PP.funcs[42]? = some Tryz.f42 := by rw [PP_def]; exact Tryz.func42
theorem en43 : Enters PP 43 := fun args w => by rw [PP_def]; exact Tryz.call43 args w
theorem fn43 : PP.funcs[43]? = some Tryz.f43 := by rw [PP_def]; exact Tryz.func43
theorem en44 : Enters PP 44 := fun args w => by rw [PP_def]; exact Tryz.call44 args w
theorem fn44 : PP.funcs[44]? = some Tryz.f44 := by rw [PP_def]; exact Tryz.func44
theorem en51 : Enters PP 51 := fun args w => by rw [PP_def]; exact Tryz.call51 args w
theorem fn51 : PP.funcs[51]? = some Tryz.f51 := by rw [PP_def]; exact Tryz.func51
theorem en52 : Enters PP 52 := fun args w => by rw [PP_def]; exact Tryz.call52 args w
theorem fn52 : PP.funcs[52]? = some Tryz.f52 := by rw [PP_def]; exact Tryz.func52
theorem en53 : Enters PP 53 := fun args w => by rw [PP_def]; exact Tryz.call53 args w
theorem fn53 : PP.funcs[53]? = some Tryz.f53 := by rw [PP_def]; exact Tryz.func53
theorem en54 : Enters PP 54 := fun args w => by rw [PP_def]; exact Tryz.call54 args w
theorem fn54 : PP.funcs[54]? = some Tryz.f54 := by rw [PP_def]; exact Tryz.func54
theorem en55 : Enters PP 55 := fun args w => by rw [PP_def]; exact Tryz.call55 args w
theorem fn55 : PP.funcs[55]? = some Tryz.f55 := by rw [PP_def]; exact Tryz.func55
theorem en56 : Enters PP 56 := fun args w => by rw [PP_def]; exact Tryz.call56 args w
theorem fn56 : PP.funcs[56]? = some Tryz.f56 := by rw [PP_def]; exact Tryz.func56
theorem en57 : Enters PP 57 := fun args w => by rw [PP_def]; exact Tryz.call57 args w
theorem fn57 : PP.funcs[57]? = some Tryz.f57 := by rw [PP_def]; exact Tryz.func57
theorem en58 : Enters PP 58 := fun args w => by rw [PP_def]; exact Tryz.call58 args w
theorem fn58 : PP.funcs[58]? = some Tryz.f58 := by rw [PP_def]; exact Tryz.func58
theorem en59 : Enters PP 59 := fun args w => by rw [PP_def]; exact Tryz.call59 args w
theorem fn59 : PP.funcs[59]? = some Tryz.f59 := by rw [PP_def]; exact Tryz.func59
theorem en60 : Enters PP 60 := fun args w => by rw [PP_def]; exact Tryz.call60 args w
theorem fn60 : PP.funcs[60]? = some Tryz.f60 := by rw [PP_def]; exact Tryz.func60
theorem en63 : Enters PP 63 := fun args w => by rw [PP_def]; exact Tryz.call63 args w
theorem fn63 : PP.funcs[63]? = some Tryz.f63 := by rw [PP_def]; exact Tryz.func63
theorem en67 : Enters PP 67 := fun args w => by rw [PP_def]; exact Tryz.call67 args w
theorem fn67 : PP.funcs[67]? = some Tryz.f67 := by rw [PP_def]; exact Tryz.func67
theorem en68 : Enters PP 68 := fun args w => by rw [PP_def]; exact Tryz.call68 args w
theorem fn68 : PP.funcs[68]? = some Tryz.f68 := by rw [PP_def]; exact Tryz.func68
theorem en69 : Enters PP 69 := fun args w => by rw [PP_def]; exact Tryz.call69 args w
theorem fn69 : PP.funcs[69]? = some Tryz.f69 := by rw [PP_def]; exact Tryz.func69
theorem en70 : Enters PP 70 := fun args w => by rw [PP_def]; exact Tryz.call70 args w
theorem fn70 : PP.funcs[70]? = some Tryz.f70 := by rw [PP_def]; exact Tryz.func70
theorem en71 : Enters PP 71 := fun args w => by rw [PP_def]; exact Tryz.call71 args w
theorem fn71 : PP.funcs[71]? = some Tryz.f71 := by rw [PP_def]; exact Tryz.func71
theorem en72 : Enters PP 72 := fun args w => by rw [PP_def]; exact Tryz.call72 args w
theorem fn72 : PP.funcs[72]? = some Tryz.f72 := by rw [PP_def]; exact Tryz.func72
theorem en73 : Enters PP 73 := fun args w => by rw [PP_def]; exact Tryz.call73 args w
theorem fn73 : PP.funcs[73]? = some Tryz.f73 := by rw [PP_def]; exact Tryz.func73
theorem en74 : Enters PP 74 := fun args w => by rw [PP_def]; exact Tryz.call74 args w
theorem fn74 : PP.funcs[74]? = some Tryz.f74 := by rw [PP_def]; exact Tryz.func74
theorem en75 : Enters PP 75 := fun args w => by rw [PP_def]; exact Tryz.call75 args w
theorem fn75 : PP.funcs[75]? = some Tryz.f75 := by rw [PP_def]; exact Tryz.func75
theorem en76 : Enters PP 76 := fun args w => by rw [PP_def]; exact Tryz.call76 args w
theorem fn76 : PP.funcs[76]? = some Tryz.f76 := by rw [PP_def]; exact Tryz.func76
theorem en77 : Enters PP 77 := fun args w => by rw [PP_def]; exact Tryz.call77 args w
theorem fn77 : PP.funcs[77]? = some Tryz.f77 := by rw [PP_def]; exact Tryz.func77
theorem en78 : Enters PP 78 := fun args w => by rw [PP_def]; exact Tryz.call78 args w
theorem fn78 : PP.funcs[78]? = some Tryz.f78 := by rw [PP_def]; exact Tryz.func78
theorem en79 : Enters PP 79 := fun args w => by rw [PP_def]; exact Tryz.call79 args w
theorem fn79 : PP.funcs[79]? = some Tryz.f79 := by rw [PP_def]; exact Tryz.func79
theorem en83 : Enters PP 83 := fun args w => by rw [PP_def]; exact Tryz.call83 args w
theorem fn83 : PP.funcs[83]? = some Tryz.f83 := by rw [PP_def]; exact Tryz.func83
theorem en84 : Enters PP 84 := fun args w => by rw [PP_def]; exact Tryz.call84 args w
theorem fn84 : PP.funcs[84]? = some Tryz.f84 := by rw [PP_def]; exact Tryz.func84
theorem en85 : Enters PP 85 := fun args w => by rw [PP_def]; exact Tryz.call85 args w
theorem fn85 : PP.funcs[85]? = some Tryz.f85 := by rw [PP_def]; exact Tryz.func85
theorem en86 : Enters PP 86 := fun args w => by rw [PP_def]; exact Tryz.call86 args w
theorem fn86 : PP.funcs[86]? = some Tryz.f86 := by rw [PP_def]; exact Tryz.func86
theorem en87 : Enters PP 87 := fun args w => by rw [PP_def]; exact Tryz.call87 args w
theorem fn87 : PP.funcs[87]? = some Tryz.f87 := by rw [PP_def]; exact Tryz.func87
theorem en88 : Enters PP 88 := fun args w => by rw [PP_def]; exact Tryz.call88 args w
theorem fn88 : PP.funcs[88]? = some Tryz.f88 := by rw [PP_def]; exact Tryz.func88
theorem en89 : Enters PP 89 := fun args w => by rw [PP_def]; exact Tryz.call89 args w
theorem fn89 : PP.funcs[89]? = some Tryz.f89 := by rw [PP_def]; exact Tryz.func89
theorem en90 : Enters PP 90 := fun args w => by rw [PP_def]; exact Tryz.call90 args w
theorem fn90 : PP.funcs[90]? = some Tryz.f90 := by rw [PP_def]; exact Tryz.func90
theorem en91 : Enters PP 91 := fun args w => by rw [PP_def]; exact Tryz.call91 args w
theorem fn91 : PP.funcs[91]? = some Tryz.f91 := by rw [PP_def]; exact Tryz.func91
theorem en92 : Enters PP 92 := fun args w => by rw [PP_def]; exact Tryz.call92 args w
theorem fn92 : PP.funcs[92]? = some Tryz.f92 := by rw [PP_def]; exact Tryz.func92
theorem en93 : Enters PP 93 := fun args w => by rw [PP_def]; exact Tryz.call93 args w
theorem fn93 : PP.funcs[93]? = some Tryz.f93 := by rw [PP_def]; exact Tryz.func93
theorem en94 : Enters PP 94 := fun args w => by rw [PP_def]; exact Tryz.call94 args w
theorem fn94 : PP.funcs[94]? = some Tryz.f94 := by rw [PP_def]; exact Tryz.func94
theorem en95 : Enters PP 95 := fun args w => by rw [PP_def]; exact Tryz.call95 args w
theorem fn95 : PP.funcs[95]? = some Tryz.f95 := by rw [PP_def]; exact Tryz.func95
theorem en96 : Enters PP 96 := fun args w => by rw [PP_def]; exact Tryz.call96 args w
theorem fn96 : PP.funcs[96]? = some Tryz.f96 := by rw [PP_def]; exact Tryz.func96
theorem en97 : Enters PP 97 := fun args w => by rw [PP_def]; exact Tryz.call97 args w
theorem fn97 : PP.funcs[97]? = some Tryz.f97 := by rw [PP_def]; exact Tryz.func97
theorem en98 : Enters PP 98 := fun args w => by rw [PP_def]; exact Tryz.call98 args w
theorem fn98 : PP.funcs[98]? = some Tryz.f98 := by rw [PP_def]; exact Tryz.func98
theorem en99 : Enters PP 99 := fun args w => by rw [PP_def]; exact Tryz.call99 args w
theorem fn99 : PP.funcs[99]? = some Tryz.f99 := by rw [PP_def]; exact Tryz.func99
theorem en100 : Enters PP 100 := fun args w => by rw [PP_def]; exact Tryz.call100 args w
theorem fn100 : PP.funcs[100]? = some Tryz.f100 := by rw [PP_def]; exact Tryz.func100
theorem en101 : Enters PP 101 := fun args w => by rw [PP_def]; exact Tryz.call101 args w
theorem fn101 : PP.funcs[101]? = some Tryz.f101 := by rw [PP_def]; exact Tryz.func101
theorem en102 : Enters PP 102 := fun args w => by rw [PP_def]; exact Tryz.call102 args w
theorem fn102 : PP.funcs[102]? = some Tryz.f102 := by rw [PP_def]; exact Tryz.func102
theorem en103 : Enters PP 103 := fun args w => by rw [PP_def]; exact Tryz.call103 args w
theorem fn103 : PP.funcs[103]? = some Tryz.f103 := by rw [PP_def]; exact Tryz.func103
theorem en104 : Enters PP 104 := fun args w => by rw [PP_def]; exact Tryz.call104 args w
theorem fn104 : PP.funcs[104]? = some Tryz.f104 := by rw [PP_def]; exact Tryz.func104
theorem en105 : Enters PP 105 := fun args w => by rw [PP_def]; exact Tryz.call105 args w
theorem fn105 : PP.funcs[105]? = some Tryz.f105 := by rw [PP_def]; exact Tryz.func105
theorem en106 : Enters PP 106 := fun args w => by rw [PP_def]; exact Tryz.call106 args w
theorem fn106 : PP.funcs[106]? = some Tryz.f106 := by rw [PP_def]; exact Tryz.func106
theorem en107 : Enters PP 107 := fun args w => by rw [PP_def]; exact Tryz.call107 args w
theorem fn107 : PP.funcs[107]? = some Tryz.f107 := by rw [PP_def]; exact Tryz.func107
theorem en108 : Enters PP 108 := fun args w => by rw [PP_def]; exact Tryz.call108 args w
theorem fn108 : PP.funcs[108]? = some Tryz.f108 := by rw [PP_def]; exact Tryz.func108
theorem en109 : Enters PP 109 := fun args w => by rw [PP_def]; exact Tryz.call109 args w
theorem fn109 : PP.funcs[109]? = some Tryz.f109 := by rw [PP_def]; exact Tryz.func109
theorem en110 : Enters PP 110 := fun args w => by rw [PP_def]; exact Tryz.call110 args w
theorem fn110 : PP.funcs[110]? = some Tryz.f110 := by rw [PP_def]; exact Tryz.func110
theorem en112 : Enters PP 112 := fun args w => by rw [PP_def]; exact Tryz.call112 args w
theorem fn112 : PP.funcs[112]? = some Tryz.f112 := by rw [PP_def]; exact Tryz.func112
theorem en113 : Enters PP 113 := fun args w => by rw [PP_def]; exact Tryz.call113 args w
theorem fn113 : PP.funcs[113]? = some Tryz.f113 := by rw [PP_def]; exact Tryz.func113
theorem en114 : Enters PP 114 := fun args w => by rw [PP_def]; exact Tryz.call114 args w
theorem fn114 : PP.funcs[114]? = some Tryz.f114 := by rw [PP_def]; exact Tryz.func114
theorem en115 : Enters PP 115 := fun args w => by rw [PP_def]; exact Tryz.call115 args w
theorem fn115 : PP.funcs[115]? = some Tryz.f115 := by rw [PP_def]; exact Tryz.func115
theorem en116 : Enters PP 116 := fun args w => by rw [PP_def]; exact Tryz.call116 args w
theorem fn116 : PP.funcs[116]? = some Tryz.f116 := by rw [PP_def]; exact Tryz.func116
theorem en117 : Enters PP 117 := fun args w => by rw [PP_def]; exact Tryz.call117 args w
theorem fn117 : PP.funcs[117]? = some Tryz.f117 := by rw [PP_def]; exact Tryz.func117
theorem en118 : Enters PP 118 := fun args w => by rw [PP_def]; exact Tryz.call118 args w
theorem fn118 : PP.funcs[118]? = some Tryz.f118 := by rw [PP_def]; exact Tryz.func118
theorem en119 : Enters PP 119 := fun args w => by rw [PP_def]; exact Tryz.call119 args w
theorem fn119 : PP.funcs[119]? = some Tryz.f119 := by rw [PP_def]; exact Tryz.func119
theorem en120 : Enters PP 120 := fun args w => by rw [PP_def]; exact Tryz.call120 args w
theorem fn120 : PP.funcs[120]? = some Tryz.f120 := by rw [PP_def]; exact Tryz.func120
theorem en121 : Enters PP 121 := fun args w => by rw [PP_def]; exact Tryz.call121 args w
theorem fn121 : PP.funcs[121]? = some Tryz.f121 := by rw [PP_def]; exact Tryz.func121
theorem en122 : Enters PP 122 := fun args w => by rw [PP_def]; exact Tryz.call122 args w
theorem fn122 : PP.funcs[122]? = some Tryz.f122 := by rw [PP_def]; exact Tryz.func122
theorem en123 : Enters PP 123 := fun args w => by rw [PP_def]; exact Tryz.call123 args w
theorem fn123 : PP.funcs[123]? = some Tryz.f123 := by rw [PP_def]; exact Tryz.func123
theorem en124 : Enters PP 124 := fun args w => by rw [PP_def]; exact Tryz.call124 args w
theorem fn124 : PP.funcs[124]? = some Tryz.f124 := by rw [PP_def]; exact Tryz.func124
theorem en125 : Enters PP 125 := fun args w => by rw [PP_def]; exact Tryz.call125 args w
theorem fn125 : PP.funcs[125]? = some Tryz.f125 := by rw [PP_def]; exact Tryz.func125
theorem en126 : Enters PP 126 := fun args w => by rw [PP_def]; exact Tryz.call126 args w
theorem fn126 : PP.funcs[126]? = some Tryz.f126 := by rw [PP_def]; exact Tryz.func126
theorem en127 : Enters PP 127 := fun args w => by rw [PP_def]; exact Tryz.call127 args w
theorem fn127 : PP.funcs[127]? = some Tryz.f127 := by rw [PP_def]; exact Tryz.func127
theorem en128 : Enters PP 128 := fun args w => by rw [PP_def]; exact Tryz.call128 args w
theorem fn128 : PP.funcs[128]? = some Tryz.f128 := by rw [PP_def]; exact Tryz.func128
theorem en129 : Enters PP 129 := fun args w => by rw [PP_def]; exact Tryz.call129 args w
theorem fn129 : PP.funcs[129]? = some Tryz.f129 := by rw [PP_def]; exact Tryz.func129
theorem en130 : Enters PP 130 := fun args w => by rw [PP_def]; exact Tryz.call130 args w
theorem fn130 : PP.funcs[130]? = some Tryz.f130 := by rw [PP_def]; exact Tryz.func130
theorem en131 : Enters PP 131 := fun args w => by rw [PP_def]; exact Tryz.call131 args w
theorem fn131 : PP.funcs[131]? = some Tryz.f131 := by rw [PP_def]; exact Tryz.func131
theorem en132 : Enters PP 132 := fun args w => by rw [PP_def]; exact Tryz.call132 args w
theorem fn132 : PP.funcs[132]? = some Tryz.f132 := by rw [PP_def]; exact Tryz.func132
theorem en133 : Enters PP 133 := fun args w => by rw [PP_def]; exact Tryz.call133 args w
theorem fn133 : PP.funcs[133]? = some Tryz.f133 := by rw [PP_def]; exact Tryz.func133
theorem en134 : Enters PP 134 := fun args w => by rw [PP_def]; exact Tryz.call134 args w
theorem fn134 : PP.funcs[134]? = some Tryz.f134 := by rw [PP_def]; exact Tryz.func134
theorem en135 : Enters PP 135 := fun args w => by rw [PP_def]; exact Tryz.call135 args w
theorem fn135 : PP.funcs[135]? = some Tryz.f135 := by rw [PP_def]; exact Tryz.func135
theorem en136 : Enters PP 136 := fun args w => by rw [PP_def]; exact Tryz.call136 args w
theorem fn136 : PP.funcs[136]? = some Tryz.f136 := by rw [PP_def]; exact Tryz.func136
theorem en137 : Enters PP 137 := fun args w => by rw [PP_def]; exact Tryz.call137 args w
theorem fn137 : PP.funcs[137]? = some Tryz.f137 := by rw [PP_def]; exact Tryz.func137
theorem en138 : Enters PP 138 := fun args w => by rw [PP_def]; exact Tryz.call138 args w
theorem fn138 : PP.funcs[138]? = some Tryz.f138 := by rw [PP_def]; exact Tryz.func138
theorem en139 : Enters PP 139 := fun args w => by rw [PP_def]; exact Tryz.call139 args w
theorem fn139 : PP.funcs[139]? = some Tryz.f139 := by rw [PP_def]; exact Tryz.func139
theorem en140 : Enters PP 140 := fun args w => by rw [PP_def]; exact Tryz.call140 args w
theorem fn140 : PP.funcs[140]? = some Tryz.f140 := by rw [PP_def]; exact Tryz.func140
theorem en271 : Enters PP 271 := fun args w => by rw [PP_def]; exact Tryz.call271 args w
theorem fn271 : PP.funcs[271]? = some Tryz.f271 := by rw [PP_def]; exact Tryz.func271
end Go.Proofs.YtfnjeldpfilplaaGreatDoor

namespace Go.Proofs.YtfnjeldpfilplaaGreatDoor
open Go.Shelf Go.Proofs
open Go.Shelf
def lays156_ren : Go.Shelf.Ren := ⟨fun | 156 => 34 | 165 => 46 | 166 => 19 | 169 => 22 | 240 => 33 | 241 => 61 | 276 => 45 | 277 => 80 | n => n, fun | 31 => 23 | 9 => 9 | 3 => 3 | 4 => 4 | 0 => 0 | 20 => 20 | 72 => 64 | 76 => 68 | 70 => 61 | 37 => 62 | 75 => 67 | 127 => 96 | 164 => 111 | 5 => 5 | 80 => 72 | n => n, fun | n => n⟩
theorem lays156 : Go.Proofs.Lays.n156 Tryz.prog lays156_ren := {
  mixed := by kernel_rfl
  f156 := Tryz.func34.trans (congrArg some (by kernel_rfl))
  f165 := Tryz.func46.trans (congrArg some (by kernel_rfl))
  f166 := Tryz.func19.trans (congrArg some (by kernel_rfl))
  f169 := Tryz.func22.trans (congrArg some (by kernel_rfl))
  f240 := Tryz.func33.trans (congrArg some (by kernel_rfl))
  f241 := Tryz.func61.trans (congrArg some (by kernel_rfl))
  f276 := Tryz.func45.trans (congrArg some (by kernel_rfl))
  f277 := Tryz.func80.trans (congrArg some (by kernel_rfl))
  t0 := Tryz.underlying0
  a0 := Tryz.isAgg0
  z0 := Tryz.sizeOf0
  v0 := Tryz.zeroValue0
  t3 := Tryz.underlying3
  a3 := Tryz.isAgg3
  z3 := Tryz.sizeOf3
  v3 := Tryz.zeroValue3
  t4 := Tryz.underlying4
  a4 := Tryz.isAgg4
  z4 := Tryz.sizeOf4
  v4 := Tryz.zeroValue4
  t9 := Tryz.underlying9
  a9 := Tryz.isAgg9
  z9 := Tryz.sizeOf9
  v9 := Tryz.zeroValue9
  t20 := Tryz.underlying20
  a20 := Tryz.isAgg20
  z20 := Tryz.sizeOf20
  v20 := Tryz.zeroValue20
  t31 := Tryz.underlying23
  a31 := Tryz.isAgg23
  z31 := Tryz.sizeOf23
  v31 := Tryz.zeroValue23
  t37 := Tryz.underlying62
  a37 := Tryz.isAgg62
  z37 := Tryz.sizeOf62
  v37 := Tryz.zeroValue62
  t70 := Tryz.underlying61
  a70 := Tryz.isAgg61
  z70 := Tryz.sizeOf61
  v70 := Tryz.zeroValue61
  t72 := Tryz.underlying64
  a72 := Tryz.isAgg64
  z72 := Tryz.sizeOf64
  v72 := Tryz.zeroValue64
  t75 := Tryz.underlying67
  a75 := Tryz.isAgg67
  z75 := Tryz.sizeOf67
  v75 := Tryz.zeroValue67
  t76 := Tryz.underlying68
  a76 := Tryz.isAgg68
  z76 := Tryz.sizeOf68
  v76 := Tryz.zeroValue68
  t127 := Tryz.underlying96
  a127 := Tryz.isAgg96
  z127 := Tryz.sizeOf96
  v127 := Tryz.zeroValue96
  t164 := Tryz.underlying111
  a164 := Tryz.isAgg111
  z164 := Tryz.sizeOf111
  v164 := Tryz.zeroValue111 }
theorem bldExtra : Builder.Extra Tryz.prog lays156_ren := {
  sizeBuilder := by kernel_rfl
  liesBuilder := by kernel_rfl
  t5 := Tryz.underlying5
  a5 := Tryz.isAgg5
  z5 := Tryz.sizeOf5
  v5 := Tryz.zeroValue5
  infoByte := by kernel_rfl
  cellsByte := by kernel_rfl
  sizeByte := by kernel_rfl
  neB5 := by decide }
def laysM173_ren : Go.Shelf.Ren := ⟨fun | 173 => 21 | 246 => 35 | 283 => 47 | 284 => 48 | 285 => 49 | 286 => 50 | 129 => 63 | 317 => 62 | 318 => 64 | 319 => 65 | 320 => 66 | 337 => 81 | 338 => 82 | n => n, fun | 2 => 2 | 3 => 3 | 9 => 9 | 4 => 4 | 171 => 115 | 0 => 0 | 53 => 60 | 37 => 62 | 5 => 5 | 173 => 118 | 212 => 130 | 51 => 131 | 20 => 20 | 213 => 132 | 46 => 134 | 232 => 161 | 233 => 162 | n => n, fun | 17 => 1 | 18 => 4 | 19 => 5 | n => n⟩
theorem laysM173 : Go.Proofs.LaysM.n173 Tryz.prog laysM173_ren := {
  mixed := by kernel_rfl
  f129 := Tryz.func63.trans (congrArg some (by kernel_rfl))
  f173 := Tryz.func21.trans (congrArg some (by kernel_rfl))
  f246 := Tryz.func35.trans (congrArg some (by kernel_rfl))
  f283 := Tryz.func47.trans (congrArg some (by kernel_rfl))
  f284 := Tryz.func48.trans (congrArg some (by kernel_rfl))
  f285 := Tryz.func49.trans (congrArg some (by kernel_rfl))
  f286 := Tryz.func50.trans (congrArg some (by kernel_rfl))
  f317 := Tryz.func62.trans (congrArg some (by kernel_rfl))
  f318 := Tryz.func64.trans (congrArg some (by kernel_rfl))
  f319 := Tryz.func65.trans (congrArg some (by kernel_rfl))
  f320 := Tryz.func66.trans (congrArg some (by kernel_rfl))
  f337 := Tryz.func81.trans (congrArg some (by kernel_rfl))
  f338 := Tryz.func82.trans (congrArg some (by kernel_rfl))
  t0 := Tryz.underlying0
  a0 := Tryz.isAgg0
  z0 := Tryz.sizeOf0
  v0 := Tryz.zeroValue0
  t2 := Tryz.underlying2
  a2 := Tryz.isAgg2
  z2 := Tryz.sizeOf2
  v2 := Tryz.zeroValue2
  t3 := Tryz.underlying3
  a3 := Tryz.isAgg3
  z3 := Tryz.sizeOf3
  v3 := Tryz.zeroValue3
  t4 := Tryz.underlying4
  a4 := Tryz.isAgg4
  z4 := Tryz.sizeOf4
  v4 := Tryz.zeroValue4
  t5 := Tryz.underlying5
  a5 := Tryz.isAgg5
  z5 := Tryz.sizeOf5
  v5 := Tryz.zeroValue5
  t9 := Tryz.underlying9
  a9 := Tryz.isAgg9
  z9 := Tryz.sizeOf9
  v9 := Tryz.zeroValue9
  t20 := Tryz.underlying20
  a20 := Tryz.isAgg20
  z20 := Tryz.sizeOf20
  v20 := Tryz.zeroValue20
  t37 := Tryz.underlying62
  a37 := Tryz.isAgg62
  z37 := Tryz.sizeOf62
  v37 := Tryz.zeroValue62
  t46 := Tryz.underlying134
  a46 := Tryz.isAgg134
  z46 := Tryz.sizeOf134
  v46 := Tryz.zeroValue134
  t51 := Tryz.underlying131
  a51 := Tryz.isAgg131
  z51 := Tryz.sizeOf131
  v51 := Tryz.zeroValue131
  t53 := Tryz.underlying60
  a53 := Tryz.isAgg60
  z53 := Tryz.sizeOf60
  v53 := Tryz.zeroValue60
  t171 := Tryz.underlying115
  a171 := Tryz.isAgg115
  z171 := Tryz.sizeOf115
  v171 := Tryz.zeroValue115
  t173 := Tryz.underlying118
  a173 := Tryz.isAgg118
  z173 := Tryz.sizeOf118
  v173 := Tryz.zeroValue118
  t212 := Tryz.underlying130
  a212 := Tryz.isAgg130
  z212 := Tryz.sizeOf130
  v212 := Tryz.zeroValue130
  t213 := Tryz.underlying132
  a213 := Tryz.isAgg132
  z213 := Tryz.sizeOf132
  t232 := Tryz.underlying161
  a232 := Tryz.isAgg161
  z232 := Tryz.sizeOf161
  v232 := Tryz.zeroValue161
  t233 := Tryz.underlying162
  a233 := Tryz.isAgg162
  z233 := Tryz.sizeOf162
  v233 := Tryz.zeroValue162
  g17 := by kernel_rfl
  g18 := by kernel_rfl
  g19 := by kernel_rfl
  i0 := by kernel_rfl
  i2 := by kernel_rfl
  i3 := by kernel_rfl
  i4 := by kernel_rfl
  i5 := by kernel_rfl
  i9 := by kernel_rfl
  i20 := by kernel_rfl
  i37 := by kernel_rfl
  i46 := by kernel_rfl
  i51 := by kernel_rfl
  i53 := by kernel_rfl
  i171 := by kernel_rfl
  i173 := by kernel_rfl
  i212 := by kernel_rfl
  i232 := by kernel_rfl
  i233 := by kernel_rfl
  m17 := by kernel_rfl
  m18 := by kernel_rfl
  m19 := by kernel_rfl }
end Go.Proofs.YtfnjeldpfilplaaGreatDoor

namespace Go.Proofs.YtfnjeldpfilplaaGreatDoor
open Go.Vc

theorem isNaN_spec (w0 : World) (x : List UInt8) : FnE PP w0 [] 128 [.string (ofB x)] [] (.bool false) [] := by
  refine fn_of_run en128 fn128 rfl rfl rfl ?_
  repeat' (first | refine zck ?_ | refine zcp (by kernel_rfl) ?_ | (refine zap rfl ?_; first | refine reg_neB rfl rfl ?_ | refine zan rfl ?_ | refine zan rfl ?_) | refine zch ?_)
  exact ret_tmp1 rfl ⟨rfl, rfl⟩
theorem less_spec (w0 : World) (x y : List UInt8) : FnE PP w0 [] 108 [.string (ofB x), .string (ofB y)] [] (.bool (Go.Sort.ltStr x y)) [] := by
  refine fn_of_run en108 fn108 rfl rfl rfl ?_
  repeat' (first | refine zck ?_ | refine zcp (by kernel_rfl) ?_ | (refine zap rfl ?_; first | refine reg_ltB rfl rfl ?_ | refine zaj rfl ?_ | refine zak rfl ?_ | refine zan rfl ?_ | refine zan rfl ?_ | refine zah [] (isNaN_spec w0 _) rfl rfl rfl sub_nil rfl ?_ | refine zbv rfl ?_) | refine zch ?_)
  refine ret_tmp1 rfl ⟨?_, rfl⟩
  rfl
end Go.Proofs.YtfnjeldpfilplaaGreatDoor

namespace Go.Proofs.YtfnjeldpfilplaaGreatDoor
open Go.Vc
open Go.Sort (ltStr swp insInner insOuter insertionSort)

theorem ins_step {a j : Nat} {d : Array (List UInt8)} (h : a < j + 1) (hl : ltStr d[j + 1]! d[j]! = true) : insInner ltStr a (j + 1) d = insInner ltStr a j (swp d (j + 1) j) := by
  rw [insInner]; simp [h, hl]
theorem ins_stop {a j : Nat} {d : Array (List UInt8)} (hl : ltStr d[j + 1]! d[j]! = false) : insInner ltStr a (j + 1) d = d := by
  rw [insInner]; simp [hl]
theorem ins_end {a j : Nat} {d : Array (List UInt8)} (h : j ≤ a) : insInner ltStr a j d = d := by
  cases j with
  | zero => rfl
  | succ j => rw [insInner]; simp; omega
theorem insOuter_lt {a b i : Nat} {d : Array (List UInt8)} (h : i < b) : insOuter ltStr a b i d = insOuter ltStr a b (i + 1) (insInner ltStr a i d) := by
  rw [insOuter, if_pos h]
theorem insOuter_ge {a b i : Nat} {d : Array (List UInt8)} (h : b ≤ i) : insOuter ltStr a b i d = d := by
  rw [insOuter, if_neg (by omega)]
theorem ins_spec (w0 : World) (bb N cap : Nat) (D : Array (List UInt8)) (a b : Nat) (hN : N ≤ 4611686018427387903) (hab : a ≤ b) (hb : b ≤ N) (hD : D.size = N) :
    FnE PP w0 [] 102 [.slice (some ⟨bb, 0, none⟩) N cap, .int .i64 a, .int .i64 b] [DatS 9 bb N cap D] (.tuple #[]) [DatS 9 bb N cap (insertionSort ltStr D a b)] := by
  refine fn_of_run en102 fn102 rfl rfl rfl ?_
  repeat' (first | refine zck ?_ | refine zcp (by kernel_rfl) ?_ | refine zcl ?_ | (refine zap rfl ?_; first | refine zan rfl ?_ | refine zan rfl ?_ | refine zau rfl rfl (by omega) ?_) | refine zch ?_)
  refine run_loop (S := Nat × Array (List UInt8)) (fun s => [(0, .slice (some ⟨bb, 0, none⟩) N cap), (1, .int .i64 a), (2, .int .i64 b), (6, .int .i64 s.1)])
    (fun s Γ => Γ = [DatS 9 bb N cap s.2] ∧ a < s.1 ∧ s.1 ≤ b + 1 ∧ s.2.size = N ∧ insOuter ltStr a b s.1 s.2 = insertionSort ltStr D a b)
    (fun s => b + 1 - s.1) (a + 1, D) ⟨rfl, rfl, rfl, rfl, trivial⟩ ⟨rfl, by omega, by omega, hD, rfl⟩ ?_
  rintro ⟨i, d⟩ Γ junk ⟨rfl, h1, h2, h3, h4⟩
  dsimp only at h1 h2 h3 h4 ⊢
  by_cases hi : i < b
  · repeat' (first | refine zck ?_ | refine zcp (by kernel_rfl) ?_ | refine zcm ?_ | refine zcl ?_ | (refine zap rfl ?_; first | refine zan rfl ?_ | refine zan rfl ?_ | refine zbg rfl rfl (by omega) ?_) | refine zch ?_ | refine zci rfl ?_)
    refine run_loop (S := Nat × Array (List UInt8)) (fun s => [(0, .slice (some ⟨bb, 0, none⟩) N cap), (1, .int .i64 a), (2, .int .i64 b), (6, .int .i64 i), (7, .int .i64 s.1)])
      (fun s Γ => Γ = [DatS 9 bb N cap s.2] ∧ a ≤ s.1 ∧ s.1 ≤ i ∧ s.2.size = N ∧ insInner ltStr a s.1 s.2 = insInner ltStr a i d)
      (fun s => s.1) (i, d) ⟨rfl, rfl, rfl, rfl, rfl, trivial⟩ ⟨rfl, by omega, by omega, h3, rfl⟩ ?_
    rintro ⟨j, e⟩ Γ junk ⟨rfl, g1, g2, g3, g4⟩
    dsimp only at g1 g2 g3 g4 ⊢
    by_cases hj : a < j
    · obtain ⟨j, rfl⟩ : ∃ m, j = m + 1 := ⟨j - 1, by omega⟩
      repeat' (first | refine zck ?_ | refine run_drawR PP_mixed (by kernel_rfl) (by kernel_rfl) ?_ | (refine zap rfl ?_; first | refine reg_load_ds 0 rfl rfl (by omega) ?_ | refine zaj rfl ?_ | refine zan rfl ?_ | refine zah [] (less_spec w0 _ _) rfl rfl rfl sub_nil rfl ?_ | refine zbk rfl rfl (by omega) ?_ | refine zav rfl rfl (by omega) ?_ | refine zbu rfl ?_ | refine zas rfl rfl (by omega) ?_) | refine zch ?_)
      have e1 : ((j + 1 : Nat) : Int).toNat = j + 1 := by omega
      have e2 : (((j + 1 : Nat) : Int) - 1).toNat = j := by omega
      refine run_cond rfl (fun hE => ?_) (fun hE => ?_)
      · repeat' (first | refine zck ?_ | refine zcp (by kernel_rfl) ?_ | refine run_drawR PP_mixed (by kernel_rfl) (by kernel_rfl) ?_ | refine zcm ?_ | refine zcl ?_ | refine zcn ?_ | (refine zap rfl ?_; first | refine reg_load_ds 0 rfl rfl (by omega) ?_ | refine reg_store_ds 0 rfl rfl rfl (by omega) rfl ?_ | refine zan rfl ?_ | refine zan rfl ?_ | refine zav rfl rfl (by omega) ?_ | refine zas rfl rfl (by omega) ?_) | refine zch ?_)
        rw [e1, e2] at hE
        refine cut_end ⟨rfl, (j, swp e (j + 1) j), ⟨rfl, rfl, rfl, rfl, int_eq (by omega), trivial⟩, ⟨?_, by omega, by omega, ?_, ?_⟩, by omega⟩
        · rw [e1, e2]; rfl
        · rw [Go.Sort.size_swp]; exact g3
        · rw [← g4, ins_step hj (decide_eq_true hE)]
      · rw [e1, e2] at hE
        refine cut_exit rfl rfl ?_
        repeat' (first | refine zcp (by kernel_rfl) ?_ | refine zcn ?_ | (refine zap rfl ?_; first | refine zan rfl ?_ | refine zan rfl ?_ | refine zau rfl rfl (by omega) ?_) | refine zch ?_)
        refine cut_end ⟨rfl, (i + 1, e), ⟨rfl, rfl, rfl, int_eq (by omega), trivial⟩, ⟨rfl, by omega, by omega, g3, ?_⟩, by omega⟩
        rw [ins_stop (decide_eq_false hE)] at g4
        rw [← h4, insOuter_lt hi, ← g4]
    · repeat' (first | refine zck ?_ | refine run_drawR PP_mixed (by kernel_rfl) (by kernel_rfl) ?_ | (refine zap rfl ?_; first | refine zak rfl ?_ | refine zan rfl ?_ | refine zbl rfl rfl (by omega) ?_ | refine zbv rfl ?_) | refine zch ?_ | refine zcj rfl ?_)
      refine cut_exit rfl rfl ?_
      repeat' (first | refine zcp (by kernel_rfl) ?_ | refine zcn ?_ | (refine zap rfl ?_; first | refine zan rfl ?_ | refine zan rfl ?_ | refine zau rfl rfl (by omega) ?_) | refine zch ?_)
      refine cut_end ⟨rfl, (i + 1, e), ⟨rfl, rfl, rfl, int_eq (by omega), trivial⟩, ⟨rfl, by omega, by omega, g3, ?_⟩, by omega⟩
      rw [ins_end (by omega)] at g4
      rw [← h4, insOuter_lt hi, ← g4]
  · repeat' (first | refine zck ?_ | refine zcp (by kernel_rfl) ?_ | (refine zap rfl ?_; first | refine zan rfl ?_ | refine zbh rfl rfl (by omega) ?_) | refine zch ?_ | refine zcj rfl ?_)
    refine cut_exit rfl rfl ?_
    repeat' (first | refine zck ?_ | (refine zap rfl ?_; first | refine zaj rfl ?_ | refine zak rfl ?_ | refine zal rfl ?_ | refine zam rfl rfl (fun _ => ?_) (fun _ => ?_)) | refine zch ?_)
    refine end_tmp0 rfl ⟨rfl, ?_⟩
    rw [← h4, insOuter_ge (by omega)]
end Go.Proofs.YtfnjeldpfilplaaGreatDoor

namespace Go.Proofs.YtfnjeldpfilplaaGreatDoor
open Go.Vc
open Go.Sort (ltStr swp reverseLoop reverseRange siftDown heapBuild heapPop heapSort)

theorem revl_lt {i j : Nat} {d : Array (List UInt8)} (h : i < j) : reverseLoop i j d = reverseLoop (i + 1) (j - 1) (swp d i j) := by
  rw [reverseLoop, if_pos h]
theorem revl_ge {i j : Nat} {d : Array (List UInt8)} (h : j ≤ i) : reverseLoop i j d = d := by
  rw [reverseLoop, if_neg (by omega)]
theorem rev_spec (w0 : World) (bb N cap : Nat) (D : Array (List UInt8)) (a b : Nat) (hN : N ≤ 4611686018427387903) (hab : a < b) (hb : b ≤ N) (hD : D.size = N) :
    FnE PP w0 [] 106 [.slice (some ⟨bb, 0, none⟩) N cap, .int .i64 a, .int .i64 b] [DatS 9 bb N cap D] (.tuple #[]) [DatS 9 bb N cap (reverseRange D a b)] := by
  refine fn_of_run en106 fn106 rfl rfl rfl ?_
  repeat' (first | refine zck ?_ | refine zcp (by kernel_rfl) ?_ | refine zcl ?_ | (refine zap rfl ?_; first | refine zan rfl ?_ | refine zan rfl ?_ | refine zav rfl rfl (by omega) ?_) | refine zch ?_)
  refine run_loop (S := Nat × Nat × Array (List UInt8)) (fun s => [(0, .slice (some ⟨bb, 0, none⟩) N cap), (6, .int .i64 s.1), (7, .int .i64 s.2.1)])
    (fun s Γ => Γ = [DatS 9 bb N cap s.2.2] ∧ s.1 ≤ s.2.1 + 1 ∧ s.2.1 < b ∧ s.2.2.size = N ∧ reverseLoop s.1 s.2.1 s.2.2 = reverseRange D a b)
    (fun s => s.2.1 + 1 - s.1) (a, b - 1, D) ⟨rfl, rfl, int_eq (by dsimp only; omega), trivial⟩ ⟨rfl, by dsimp only; omega, by dsimp only; omega, hD, rfl⟩ ?_
  rintro ⟨i, j, d⟩ Γ junk ⟨rfl, h1, h2, h3, h4⟩
  dsimp only at h1 h2 h3 h4 ⊢
  by_cases hi : i < j
  · repeat' (first | refine zck ?_ | refine zcp (by kernel_rfl) ?_ | refine run_drawR PP_mixed (by kernel_rfl) (by kernel_rfl) ?_ | refine zcm ?_ | refine zcl ?_ | refine zcn ?_ | (refine zap rfl ?_; first | refine reg_load_ds 0 rfl rfl (by omega) ?_ | refine reg_store_ds 0 rfl rfl rfl (by omega) rfl ?_ | refine zan rfl ?_ | refine zan rfl ?_ | refine zbg rfl rfl (by omega) ?_ | refine zau rfl rfl (by omega) ?_ | refine zav rfl rfl (by omega) ?_ | refine zas rfl rfl (by omega) ?_) | refine zch ?_ | refine zci rfl ?_)
    have e1 : ((i : Nat) : Int).toNat = i := by omega
    have e2 : ((j : Nat) : Int).toNat = j := by omega
    refine cut_end ⟨rfl, (i + 1, j - 1, swp d i j), ⟨rfl, int_eq (by dsimp only; omega), int_eq (by dsimp only; omega), trivial⟩, ⟨?_, by dsimp only; omega, by dsimp only; omega, ?_, ?_⟩, by dsimp only; omega⟩
    · rw [e1, e2]; rfl
    · rw [Go.Sort.size_swp]; exact h3
    · rw [← h4, revl_lt hi]
  · repeat' (first | refine zck ?_ | refine zcp (by kernel_rfl) ?_ | (refine zap rfl ?_; first | refine zan rfl ?_ | refine zbh rfl rfl (by omega) ?_) | refine zch ?_ | refine zcj rfl ?_)
    refine cut_exit rfl rfl ?_
    repeat' (first | refine zck ?_ | (refine zap rfl ?_; first | refine zan rfl ?_) | refine zch ?_)
    refine end_tmp0 rfl ⟨rfl, ?_⟩
    rw [← h4, revl_ge (by omega)]

theorem sift_ge {hi first root : Nat} {d : Array (List UInt8)} (h : hi ≤ 2 * root + 1) : siftDown ltStr hi first root d = d := by
  rw [siftDown, dif_pos h]
def gch (hi first root : Nat) (d : Array (List UInt8)) : Nat := if 2 * root + 1 + 1 < hi && ltStr d[first + (2 * root + 1)]! d[first + (2 * root + 1) + 1]! then 2 * root + 2 else 2 * root + 1
theorem gch_lt {hi first root : Nat} {d : Array (List UInt8)} (h : 2 * root + 1 < hi) : gch hi first root d < hi ∧ root < gch hi first root d := by
  unfold gch
  split
  · rename_i hc; simp at hc; omega
  · omega
theorem sift_stop {hi first root : Nat} {d : Array (List UInt8)} (h : 2 * root + 1 < hi) (hl : ltStr d[first + root]! d[first + gch hi first root d]! = false) : siftDown ltStr hi first root d = d := by
  rw [siftDown, dif_neg (by omega)]
  unfold gch at hl
  split
  · rename_i hc; rw [if_pos hc] at hl; simp [hl]
  · rename_i hc; rw [if_neg hc] at hl; simp [hl]
theorem sift_go {hi first root : Nat} {d : Array (List UInt8)} (h : 2 * root + 1 < hi) (hl : ltStr d[first + root]! d[first + gch hi first root d]! = true) :
    siftDown ltStr hi first root d = siftDown ltStr hi first (gch hi first root d) (swp d (first + root) (first + gch hi first root d)) := by
  rw [siftDown, dif_neg (by omega)]
  unfold gch at hl ⊢
  split
  · rename_i hc; rw [if_pos hc] at hl; simp only [hl, Bool.not_true, Bool.false_eq_true, if_false]; rw [dif_pos (by simp at hc; omega)]
  · rename_i hc; rw [if_neg hc] at hl; simp only [hl, Bool.not_true, Bool.false_eq_true, if_false]
set_option maxHeartbeats 2000000 in
theorem sift_spec (w0 : World) (bb N cap : Nat) (D : Array (List UInt8)) (lo hi first : Nat) (hN : N ≤ 1152921504606846975) (hf : first + hi ≤ N) (hlo : lo ≤ hi) (hD : D.size = N) :
    FnE PP w0 [] 123 [.slice (some ⟨bb, 0, none⟩) N cap, .int .i64 lo, .int .i64 hi, .int .i64 first] [DatS 9 bb N cap D] (.tuple #[]) [DatS 9 bb N cap (siftDown ltStr hi first lo D)] := by
  refine fn_of_run en123 fn123 rfl rfl rfl ?_
  repeat' (first | refine zck ?_ | refine zcp (by kernel_rfl) ?_ | refine zcl ?_ | (refine zap rfl ?_; first | refine zan rfl ?_ | refine zan rfl ?_) | refine zch ?_)
  refine run_loop (S := Nat × Array (List UInt8)) (fun s => [(0, .slice (some ⟨bb, 0, none⟩) N cap), (2, .int .i64 hi), (3, .int .i64 first), (8, .int .i64 s.1)])
    (fun s Γ => Γ = [DatS 9 bb N cap s.2] ∧ s.1 ≤ hi ∧ s.2.size = N ∧ siftDown ltStr hi first s.1 s.2 = siftDown ltStr hi first lo D)
    (fun s => hi - s.1) (lo, D) ⟨rfl, rfl, rfl, rfl, trivial⟩ ⟨rfl, by omega, hD, rfl⟩ ?_
  rintro ⟨r, d⟩ Γ junk ⟨rfl, h1, h3, h4⟩
  dsimp only at h1 h3 h4 ⊢
  by_cases hi2 : 2 * r + 1 < hi
  · have e3 : ((first : Int) + (2 * (r : Int) + 1)).toNat = first + (2 * r + 1) := by omega
    have e4 : ((first : Int) + (2 * (r : Int) + 1) + 1).toNat = first + (2 * r + 1) + 1 := by omega
    by_cases hc : 2 * r + 2 < hi
    · repeat' (first | refine zck ?_ | refine zcp (by kernel_rfl) ?_ | refine run_drawR PP_mixed (by kernel_rfl) (by kernel_rfl) ?_ | refine zcm ?_ | refine zcl ?_ | (refine zap rfl ?_; first | refine reg_load_ds 0 rfl rfl (by omega) ?_ | refine zaj rfl ?_ | refine zan rfl ?_ | refine zan rfl ?_ | refine zah [] (less_spec w0 _ _) rfl rfl rfl sub_nil rfl ?_ | refine zbg rfl rfl (by omega) ?_ | refine zbn rfl rfl (by omega) ?_ | refine zau rfl rfl (by omega) ?_ | refine zaw rfl rfl (by omega) ?_ | refine zbu rfl ?_ | refine zas rfl rfl (by omega) ?_) | refine zch ?_ | refine zcj rfl ?_)
      refine run_cond rfl (fun hE => ?_) (fun hE => ?_)
      · have hg : gch hi first r d = 2 * r + 2 := by
          unfold gch; rw [if_pos]
          rw [e3, e4] at hE
          simp only [Bool.and_eq_true, decide_eq_true_eq]; exact ⟨by omega, decide_eq_true hE⟩
        have e1 : ((first : Int) + (r : Int)).toNat = first + r := by omega
        have e2 : ((first : Int) + (2 * (r : Int) + 1 + 1)).toNat = first + (2 * r + 2) := by omega
        repeat' (first | refine zck ?_ | refine zcp (by kernel_rfl) ?_ | refine run_drawR PP_mixed (by kernel_rfl) (by kernel_rfl) ?_ | (refine zap rfl ?_; first | refine reg_load_ds 0 rfl rfl (by omega) ?_ | refine zan rfl ?_ | refine zan rfl ?_ | refine zah [] (less_spec w0 _ _) rfl rfl rfl sub_nil rfl ?_ | refine zau rfl rfl (by omega) ?_ | refine zby rfl ?_ | refine zas rfl rfl (by omega) ?_) | refine zch ?_)
        refine run_cond rfl (fun hE2 => ?_) (fun hE2 => ?_)
        · rw [e1, e2] at hE2
          refine qret0 (fun _ _ h => h) rfl ⟨rfl, (show [_] = [_] from ?_)⟩
          rw [← h4, sift_stop hi2 (by rw [hg]; exact decide_eq_false (by simpa using hE2))]
        · rw [e1, e2] at hE2
          repeat' (first | refine zck ?_ | refine zcp (by kernel_rfl) ?_ | refine run_drawR PP_mixed (by kernel_rfl) (by kernel_rfl) ?_ | refine zcm ?_ | refine zcn ?_ | (refine zap rfl ?_; first | refine reg_load_ds 0 rfl rfl (by omega) ?_ | refine reg_store_ds 0 rfl rfl rfl (by omega) rfl ?_ | refine zan rfl ?_ | refine zan rfl ?_ | refine zau rfl rfl (by omega) ?_ | refine zas rfl rfl (by omega) ?_) | refine zch ?_)
          refine cut_end ⟨rfl, (2 * r + 2, swp d (first + r) (first + (2 * r + 2))), ⟨rfl, rfl, rfl, int_eq (by dsimp only; omega), trivial⟩, ⟨?_, by dsimp only; omega, ?_, ?_⟩, by dsimp only; omega⟩
          · rw [e1, e2]; rfl
          · rw [Go.Sort.size_swp]; exact h3
          · rw [← h4, sift_go hi2 (by rw [hg]; exact decide_eq_true (by simpa using hE2)), hg]
      · have hg : gch hi first r d = 2 * r + 1 := by
          unfold gch; rw [if_neg]
          rw [e3, e4] at hE
          simp only [Bool.and_eq_true, decide_eq_true_eq, not_and]; intro _ h; exact hE (of_decide_eq_true h)
        have e1 : ((first : Int) + (r : Int)).toNat = first + r := by omega
        have e2 : ((first : Int) + (2 * (r : Int) + 1)).toNat = first + (2 * r + 1) := by omega
        repeat' (first | refine zck ?_ | refine run_drawR PP_mixed (by kernel_rfl) (by kernel_rfl) ?_ | refine zcm ?_ | (refine zap rfl ?_; first | refine reg_load_ds 0 rfl rfl (by omega) ?_ | refine zan rfl ?_ | refine zah [] (less_spec w0 _ _) rfl rfl rfl sub_nil rfl ?_ | refine zau rfl rfl (by omega) ?_ | refine zby rfl ?_ | refine zas rfl rfl (by omega) ?_) | refine zch ?_)
        refine run_cond rfl (fun hE2 => ?_) (fun hE2 => ?_)
        · rw [e1, e2] at hE2
          refine qret0 (fun _ _ h => h) rfl ⟨rfl, (show [_] = [_] from ?_)⟩
          rw [← h4, sift_stop hi2 (by rw [hg]; exact decide_eq_false (by simpa using hE2))]
        · rw [e1, e2] at hE2
          repeat' (first | refine zck ?_ | refine zcp (by kernel_rfl) ?_ | refine run_drawR PP_mixed (by kernel_rfl) (by kernel_rfl) ?_ | refine zcm ?_ | refine zcn ?_ | (refine zap rfl ?_; first | refine reg_load_ds 0 rfl rfl (by omega) ?_ | refine reg_store_ds 0 rfl rfl rfl (by omega) rfl ?_ | refine zan rfl ?_ | refine zan rfl ?_ | refine zau rfl rfl (by omega) ?_ | refine zas rfl rfl (by omega) ?_) | refine zch ?_)
          refine cut_end ⟨rfl, (2 * r + 1, swp d (first + r) (first + (2 * r + 1))), ⟨rfl, rfl, rfl, int_eq (by dsimp only; omega), trivial⟩, ⟨?_, by dsimp only; omega, ?_, ?_⟩, by dsimp only; omega⟩
          · rw [e1, e2]; rfl
          · rw [Go.Sort.size_swp]; exact h3
          · rw [← h4, sift_go hi2 (by rw [hg]; exact decide_eq_true (by simpa using hE2)), hg]
    · have hg : gch hi first r d = 2 * r + 1 := by
        unfold gch; rw [if_neg]
        simp only [Bool.and_eq_true, decide_eq_true_eq, not_and]; intro h; omega
      have e1 : ((first : Int) + (r : Int)).toNat = first + r := by omega
      have e2 : ((first : Int) + (2 * (r : Int) + 1)).toNat = first + (2 * r + 1) := by omega
      repeat' (first | refine zck ?_ | refine zcp (by kernel_rfl) ?_ | refine run_drawR PP_mixed (by kernel_rfl) (by kernel_rfl) ?_ | refine zcm ?_ | refine zcl ?_ | (refine zap rfl ?_; first | refine reg_load_ds 0 rfl rfl (by omega) ?_ | refine zak rfl ?_ | refine zan rfl ?_ | refine zan rfl ?_ | refine zah [] (less_spec w0 _ _) rfl rfl rfl sub_nil rfl ?_ | refine zbh rfl rfl (by omega) ?_ | refine zbn rfl rfl (by omega) ?_ | refine zau rfl rfl (by omega) ?_ | refine zaw rfl rfl (by omega) ?_ | refine zby rfl ?_ | refine zbv rfl ?_ | refine zas rfl rfl (by omega) ?_) | refine zch ?_ | refine zcj rfl ?_)
      refine run_cond rfl (fun hE2 => ?_) (fun hE2 => ?_)
      · rw [e1, e2] at hE2
        refine qret0 (fun _ _ h => h) rfl ⟨rfl, (show [_] = [_] from ?_)⟩
        rw [← h4, sift_stop hi2 (by rw [hg]; exact decide_eq_false (by simpa using hE2))]
      · rw [e1, e2] at hE2
        repeat' (first | refine zck ?_ | refine zcp (by kernel_rfl) ?_ | refine run_drawR PP_mixed (by kernel_rfl) (by kernel_rfl) ?_ | refine zcm ?_ | refine zcn ?_ | (refine zap rfl ?_; first | refine reg_load_ds 0 rfl rfl (by omega) ?_ | refine reg_store_ds 0 rfl rfl rfl (by omega) rfl ?_ | refine zan rfl ?_ | refine zan rfl ?_ | refine zau rfl rfl (by omega) ?_ | refine zas rfl rfl (by omega) ?_) | refine zch ?_)
        refine cut_end ⟨rfl, (2 * r + 1, swp d (first + r) (first + (2 * r + 1))), ⟨rfl, rfl, rfl, int_eq (by dsimp only; omega), trivial⟩, ⟨?_, by dsimp only; omega, ?_, ?_⟩, by dsimp only; omega⟩
        · rw [e1, e2]; rfl
        · rw [Go.Sort.size_swp]; exact h3
        · rw [← h4, sift_go hi2 (by rw [hg]; exact decide_eq_true (by simpa using hE2)), hg]
  · repeat' (first | refine zck ?_ | refine zcp (by kernel_rfl) ?_ | refine zcl ?_ | (refine zap rfl ?_; first | refine zan rfl ?_ | refine zan rfl ?_ | refine zbm rfl rfl (by omega) ?_ | refine zau rfl rfl (by omega) ?_ | refine zaw rfl rfl (by omega) ?_) | refine zch ?_ | refine zci rfl ?_)
    refine cut_exit rfl rfl ?_
    repeat' (first | refine zck ?_ | (refine zap rfl ?_; first | refine zaj rfl ?_ | refine zak rfl ?_ | refine zal rfl ?_ | refine zam rfl rfl (fun _ => ?_) (fun _ => ?_)) | refine zch ?_)
    refine end_tmp0 rfl ⟨rfl, ?_⟩
    rw [← h4, sift_ge (by omega)]
theorem sift_specZ (w0 : World) (bb N cap : Nat) (D : Array (List UInt8)) (zl zh zf : Int) (lo hi first : Nat) (hN : N ≤ 1152921504606846975) (hf : first + hi ≤ N) (hlo : lo ≤ hi) (hD : D.size = N) (e1 : zl = lo) (e2 : zh = hi) (e3 : zf = first) :
    FnE PP w0 [] 123 [.slice (some ⟨bb, 0, none⟩) N cap, .int .i64 zl, .int .i64 zh, .int .i64 zf] [DatS 9 bb N cap D] (.tuple #[]) [DatS 9 bb N cap (siftDown ltStr hi first lo D)] := by
  subst e1; subst e2; subst e3; exact sift_spec w0 bb N cap D lo hi first hN hf hlo hD
end Go.Proofs.YtfnjeldpfilplaaGreatDoor

namespace Go.Proofs.YtfnjeldpfilplaaGreatDoor
open Go.Vc
open Go.Sort (ltStr swp siftDown heapBuild heapPop heapSort)
theorem size_sift (hi first : Nat) : ∀ (m root : Nat) (d : Array (List UInt8)), hi - root ≤ m → (siftDown ltStr hi first root d).size = d.size := by
  intro m
  induction m with
  | zero => intro root d h; rw [sift_ge (by omega)]
  | succ m ih =>
    intro root d h
    by_cases h1 : 2 * root + 1 < hi
    · have h2 := gch_lt (first := first) (d := d) h1
      cases hl : ltStr d[first + root]! d[first + gch hi first root d]! with
      | false => rw [sift_stop h1 hl]
      | true => rw [sift_go h1 hl, ih _ _ (by omega), Go.Sort.size_swp]
    · rw [sift_ge (by omega)]
theorem heap_spec (w0 : World) (bb N cap : Nat) (D : Array (List UInt8)) (a b : Nat) (hN : N ≤ 1152921504606846975) (hab : a < b) (hb : b ≤ N) (hD : D.size = N) :
    FnE PP w0 [] 103 [.slice (some ⟨bb, 0, none⟩) N cap, .int .i64 a, .int .i64 b] [DatS 9 bb N cap D] (.tuple #[]) [DatS 9 bb N cap (heapSort ltStr D a b)] := by
  refine fn_of_run en103 fn103 rfl rfl rfl ?_
  repeat' (first | refine zck ?_ | refine zcp (by kernel_rfl) ?_ | refine zcl ?_ | (refine zap rfl ?_; first | refine zan rfl ?_ | refine zan rfl ?_ | refine zav rfl rfl (by omega) ?_ | refine zax rfl rfl (by omega) ?_) | refine zch ?_)
  refine run_loop (S := Nat × Array (List UInt8)) (fun s => [(0, .slice (some ⟨bb, 0, none⟩) N cap), (6, .int .i64 a), (7, .int .i64 0), (8, .int .i64 (b - a)), (9, .int .i64 ((s.1 : Int) - 1))])
    (fun s Γ => Γ = [DatS 9 bb N cap s.2] ∧ s.1 ≤ b - a ∧ s.2.size = N ∧ heapBuild ltStr (b - a) a s.1 s.2 = heapBuild ltStr (b - a) a ((b - a - 1) / 2 + 1) D)
    (fun s => s.1) ((b - a - 1) / 2 + 1, D) ⟨rfl, rfl, rfl, rfl, int_eq (by dsimp only; omega), trivial⟩ ⟨rfl, by dsimp only; omega, hD, rfl⟩ ?_
  rintro ⟨i, d⟩ Γ junk ⟨rfl, h1, h3, h4⟩
  dsimp only at h1 h3 h4 ⊢
  by_cases hi : 0 < i
  · obtain ⟨i, rfl⟩ : ∃ m, i = m + 1 := ⟨i - 1, by omega⟩
    repeat' (first | refine zck ?_ | refine zcp (by kernel_rfl) ?_ | refine zcm ?_ | refine zcl ?_ | refine zcn ?_ | (refine zap rfl ?_; first | refine zan rfl ?_ | refine zan rfl ?_ | refine zah [0] (sift_specZ w0 bb N cap _ _ _ _ i (b - a) a hN (by omega) (by omega) h3 (by omega) (by omega) rfl) rfl rfl rfl sub_nil rfl ?_ | refine zbm rfl rfl (by omega) ?_ | refine zav rfl rfl (by omega) ?_) | refine zch ?_ | refine zci rfl ?_)
    refine cut_end ⟨rfl, (i, siftDown ltStr (b - a) a i d), ⟨rfl, rfl, rfl, rfl, int_eq (by dsimp only; omega), trivial⟩, ⟨rfl, by dsimp only; omega, ?_, ?_⟩, by dsimp only; omega⟩
    · rw [size_sift _ _ _ _ _ (Nat.le_refl _)]; exact h3
    · rw [← h4]; rfl
  · repeat' (first | refine zck ?_ | refine zcp (by kernel_rfl) ?_ | (refine zap rfl ?_; first | refine zan rfl ?_ | refine zbn rfl rfl (by omega) ?_) | refine zch ?_ | refine zcj rfl ?_)
    refine cut_exit rfl rfl ?_
    have hi0 : i = 0 := by omega
    subst hi0
    repeat' (first | refine zck ?_ | refine zcp (by kernel_rfl) ?_ | refine zcl ?_ | (refine zap rfl ?_; first | refine zan rfl ?_ | refine zan rfl ?_ | refine zav rfl rfl (by omega) ?_) | refine zch ?_)
    refine run_loop (S := Nat × Array (List UInt8)) (fun s => [(0, .slice (some ⟨bb, 0, none⟩) N cap), (6, .int .i64 a), (7, .int .i64 0), (8, .int .i64 (b - a)), (10, .int .i64 ((s.1 : Int) - 1))])
      (fun s Γ => Γ = [DatS 9 bb N cap s.2] ∧ s.1 ≤ b - a ∧ s.2.size = N ∧ heapPop ltStr a s.1 s.2 = heapSort ltStr D a b)
      (fun s => s.1) (b - a, d) ⟨rfl, rfl, rfl, rfl, int_eq (by dsimp only; omega), trivial⟩ ⟨rfl, by dsimp only; omega, h3, by unfold heapSort; rw [← h4]; rfl⟩ ?_
    rintro ⟨i, d⟩ Γ junk ⟨rfl, g1, g3, g4⟩
    dsimp only at g1 g3 g4 ⊢
    by_cases hi : 0 < i
    · obtain ⟨i, rfl⟩ : ∃ m, i = m + 1 := ⟨i - 1, by omega⟩
      have e1 : ((a : Nat) : Int).toNat = a := by omega
      have e2 : ((a : Int) + (((i + 1 : Nat) : Int) - 1)).toNat = a + i := by omega
      have hs : (swp d (a : Int).toNat ((a : Int) + (((i + 1 : Nat) : Int) - 1)).toNat).size = N := by rw [Go.Sort.size_swp]; exact g3
      repeat' (first | refine zck ?_ | refine zcp (by kernel_rfl) ?_ | refine run_drawR PP_mixed (by kernel_rfl) (by kernel_rfl) ?_ | refine zcm ?_ | refine zcl ?_ | refine zcn ?_ | (refine zap rfl ?_; first | refine reg_load_ds 0 rfl rfl (by omega) ?_ | refine reg_store_ds 0 rfl rfl rfl (by omega) rfl ?_ | refine zan rfl ?_ | refine zan rfl ?_ | refine zah [0] (sift_specZ w0 bb N cap _ _ _ _ 0 i a hN (by omega) (by omega) hs (by omega) (by omega) rfl) rfl rfl rfl sub_nil rfl ?_ | refine zbm rfl rfl (by omega) ?_ | refine zau rfl rfl (by omega) ?_ | refine zav rfl rfl (by omega) ?_ | refine zas rfl rfl (by omega) ?_) | refine zch ?_ | refine zci rfl ?_)
      refine cut_end ⟨rfl, (i, siftDown ltStr i a 0 (swp d a (a + i))), ⟨rfl, rfl, rfl, rfl, int_eq (by dsimp only; omega), trivial⟩, ⟨?_, by dsimp only; omega, ?_, ?_⟩, by dsimp only; omega⟩
      · rw [e1, e2]; rfl
      · rw [size_sift _ _ _ _ _ (Nat.le_refl _), Go.Sort.size_swp]; exact g3
      · rw [← g4]; rfl
    · repeat' (first | refine zck ?_ | refine zcp (by kernel_rfl) ?_ | (refine zap rfl ?_; first | refine zan rfl ?_ | refine zbn rfl rfl (by omega) ?_) | refine zch ?_ | refine zcj rfl ?_)
      refine cut_exit rfl rfl ?_
      have hi0 : i = 0 := by omega
      subst hi0
      repeat' (first | refine zck ?_ | (refine zap rfl ?_; first | refine zan rfl ?_) | refine zch ?_)
      refine end_tmp0 rfl ⟨rfl, (show [_] = [_] from ?_)⟩
      rw [← g4]; rfl
end Go.Proofs.YtfnjeldpfilplaaGreatDoor

