import Derived.Test.YtagmagnkigjggaaGreatDoorProg
import Derived.Sort.AssemblyPlain
import Derived.Test.YtagmagnkigjggaaGreatDoorKitA
import Derived.Test.YtagmagnkigjggaaGreatDoorKit
/- Lemmas and walks for the claims of this seat (own work): Base Ss0 Ss1 Ss2 Ss3 Ss4. -/
namespace Go.Proofs.YtagmagnkigjggaaGreatDoor
open Go.Vc
@[irreducible] noncomputable def PP : Program := Tryz.prog
theorem PP_def : PP = Tryz.prog := by unfold PP; rfl
theorem PP_mixed : PP.follows .mixedOrders = true := by kernel_rfl
instance : TShape PP 2 false 1 := ⟨fun w => by kernel_rfl, fun w => by kernel_rfl⟩
instance : TShape PP 3 false 1 := ⟨fun w => by kernel_rfl, fun w => by kernel_rfl⟩
instance : TZero PP 3 [.int .i64 0] := ⟨fun w => ⟨.int .i64 0, by kernel_rfl, by kernel_rfl⟩⟩
instance : TUnd PP 3 (.int (.i64)) := ⟨by kernel_rfl⟩
instance : TShape PP 4 false 1 := ⟨fun w => by kernel_rfl, fun w => by kernel_rfl⟩
instance : TZeroV PP 4 (.bool false) := ⟨fun w => by kernel_rfl⟩
instance : TShape PP 5 false 1 := ⟨fun w => by kernel_rfl, fun w => by kernel_rfl⟩
instance : TUnd PP 5 (.int (.u8)) := ⟨by kernel_rfl⟩
instance : TShape PP 9 false 1 := ⟨fun w => by kernel_rfl, fun w => by kernel_rfl⟩
instance : TInfo PP 9 16 := ⟨fun w => ⟨Tryz.t9, by rw [PP_def]; exact Tryz.typeInfo9 w, rfl⟩⟩
instance : TZeroV PP 9 (.string ByteArray.empty) := ⟨fun w => by kernel_rfl⟩
instance : TUnd PP 9 (.string) := ⟨by kernel_rfl⟩
instance : TShape PP 22 false 1 := ⟨fun w => by kernel_rfl, fun w => by kernel_rfl⟩
instance : TUnd PP 22 (.slice 55) := ⟨by kernel_rfl⟩
instance : TShape PP 23 false 1 := ⟨fun w => by kernel_rfl, fun w => by kernel_rfl⟩
instance : TUnd PP 23 (.slice 36) := ⟨by kernel_rfl⟩
instance : TShape PP 25 true 2 := ⟨fun w => by kernel_rfl, fun w => by kernel_rfl⟩
instance : TZero PP 25 [.slice none 0 0, .slice none 0 0] := ⟨fun w => ⟨.agg #[.slice none 0 0, .slice none 0 0], by kernel_rfl, by kernel_rfl⟩⟩
instance : TStruct PP 25 [.slice none 0 0, .slice none 0 0] [(0, 1), (1, 1)] := ⟨⟨_, by rw [PP_def]; exact Tryz.underlying25, fun w => by kernel_rfl⟩, fun w => ⟨.agg #[.slice none 0 0, .slice none 0 0], by kernel_rfl, by kernel_rfl⟩⟩
instance : TField PP 25 0 0 := ⟨fun b o w => by kernel_rfl⟩
instance : TField PP 25 1 1 := ⟨fun b o w => by kernel_rfl⟩
instance : TShape PP 28 false 1 := ⟨fun w => by kernel_rfl, fun w => by kernel_rfl⟩
instance : TZeroV PP 28 (.slice none 0 0) := ⟨fun w => by kernel_rfl⟩
instance : TUnd PP 28 (.slice 9) := ⟨by kernel_rfl⟩
instance : TShape PP 30 true 4 := ⟨fun w => by kernel_rfl, fun w => by kernel_rfl⟩
instance : TZero PP 30 [.slice none 0 0, .slice none 0 0, .slice none 0 0, .int .i64 0] := ⟨fun w => ⟨.agg #[.slice none 0 0, .slice none 0 0, .slice none 0 0, .int .i64 0], by kernel_rfl, by kernel_rfl⟩⟩
instance : TStruct PP 30 [.slice none 0 0, .slice none 0 0, .slice none 0 0, .int .i64 0] [(0, 1), (1, 1), (2, 1), (3, 1)] := ⟨⟨_, by rw [PP_def]; exact Tryz.underlying30, fun w => by kernel_rfl⟩, fun w => ⟨.agg #[.slice none 0 0, .slice none 0 0, .slice none 0 0, .int .i64 0], by kernel_rfl, by kernel_rfl⟩⟩
instance : TField PP 30 0 0 := ⟨fun b o w => by kernel_rfl⟩
instance : TField PP 30 1 1 := ⟨fun b o w => by kernel_rfl⟩
instance : TField PP 30 2 2 := ⟨fun b o w => by kernel_rfl⟩
instance : TField PP 30 3 3 := ⟨fun b o w => by kernel_rfl⟩
instance : TShape PP 31 false 1 := ⟨fun w => by kernel_rfl, fun w => by kernel_rfl⟩
instance : TShape PP 34 false 1 := ⟨fun w => by kernel_rfl, fun w => by kernel_rfl⟩
instance : TZeroV PP 34 (.slice none 0 0) := ⟨fun w => by kernel_rfl⟩
instance : TUnd PP 34 (.slice 60) := ⟨by kernel_rfl⟩
instance : TShape PP 36 true 3 := ⟨fun w => by kernel_rfl, fun w => by kernel_rfl⟩
instance : TZero PP 36 [.string ByteArray.empty, .slice none 0 0, .slice none 0 0] := ⟨fun w => ⟨.agg #[.string ByteArray.empty, .slice none 0 0, .slice none 0 0], by kernel_rfl, by kernel_rfl⟩⟩
instance : TZeroV PP 36 (.agg #[.string ByteArray.empty, .slice none 0 0, .slice none 0 0]) := ⟨fun w => by kernel_rfl⟩
instance : TStruct PP 36 [.string ByteArray.empty, .slice none 0 0, .slice none 0 0] [(0, 1), (1, 1), (2, 1)] := ⟨⟨_, by rw [PP_def]; exact Tryz.underlying36, fun w => by kernel_rfl⟩, fun w => ⟨.agg #[.string ByteArray.empty, .slice none 0 0, .slice none 0 0], by kernel_rfl, by kernel_rfl⟩⟩
instance : TField PP 36 0 0 := ⟨fun b o w => by kernel_rfl⟩
instance : TField PP 36 1 1 := ⟨fun b o w => by kernel_rfl⟩
instance : TField PP 36 2 2 := ⟨fun b o w => by kernel_rfl⟩
instance : TShape PP 41 true 4 := ⟨fun w => by kernel_rfl, fun w => by kernel_rfl⟩
instance : TZero PP 41 [.slice none 0 0, .slice none 0 0, .slice none 0 0, .int .i64 0] := ⟨fun w => ⟨.agg #[.slice none 0 0, .slice none 0 0, .slice none 0 0, .int .i64 0], by kernel_rfl, by kernel_rfl⟩⟩
instance : TStruct PP 41 [.slice none 0 0, .slice none 0 0, .slice none 0 0, .int .i64 0] [(0, 1), (1, 1), (2, 1), (3, 1)] := ⟨⟨_, by rw [PP_def]; exact Tryz.underlying41, fun w => by kernel_rfl⟩, fun w => ⟨.agg #[.slice none 0 0, .slice none 0 0, .slice none 0 0, .int .i64 0], by kernel_rfl, by kernel_rfl⟩⟩
instance : TField PP 41 0 0 := ⟨fun b o w => by kernel_rfl⟩
instance : TField PP 41 1 1 := ⟨fun b o w => by kernel_rfl⟩
instance : TField PP 41 2 2 := ⟨fun b o w => by kernel_rfl⟩
instance : TField PP 41 3 3 := ⟨fun b o w => by kernel_rfl⟩
instance : TShape PP 45 false 1 := ⟨fun w => by kernel_rfl, fun w => by kernel_rfl⟩
instance : TUnd PP 45 (.slice 81) := ⟨by kernel_rfl⟩
instance : TShape PP 46 false 1 := ⟨fun w => by kernel_rfl, fun w => by kernel_rfl⟩
instance : TUnd PP 46 (.slice 88) := ⟨by kernel_rfl⟩
instance : TShape PP 48 true 2 := ⟨fun w => by kernel_rfl, fun w => by kernel_rfl⟩
instance : TZero PP 48 [.slice none 0 0, .slice none 0 0] := ⟨fun w => ⟨.agg #[.slice none 0 0, .slice none 0 0], by kernel_rfl, by kernel_rfl⟩⟩
instance : TField PP 48 0 0 := ⟨fun b o w => by kernel_rfl⟩
instance : TField PP 48 1 1 := ⟨fun b o w => by kernel_rfl⟩
instance : TShape PP 50 false 1 := ⟨fun w => by kernel_rfl, fun w => by kernel_rfl⟩
instance : TUnd PP 50 (.slice 76) := ⟨by kernel_rfl⟩
instance : TShape PP 55 true 2 := ⟨fun w => by kernel_rfl, fun w => by kernel_rfl⟩
instance : TZero PP 55 [.string ByteArray.empty, .string ByteArray.empty] := ⟨fun w => ⟨.agg #[.string ByteArray.empty, .string ByteArray.empty], by kernel_rfl, by kernel_rfl⟩⟩
instance : TZeroV PP 55 (.agg #[.string ByteArray.empty, .string ByteArray.empty]) := ⟨fun w => by kernel_rfl⟩
instance : TStruct PP 55 [.string ByteArray.empty, .string ByteArray.empty] [(0, 1), (1, 1)] := ⟨⟨_, by rw [PP_def]; exact Tryz.underlying55, fun w => by kernel_rfl⟩, fun w => ⟨.agg #[.string ByteArray.empty, .string ByteArray.empty], by kernel_rfl, by kernel_rfl⟩⟩
instance : TField PP 55 0 0 := ⟨fun b o w => by kernel_rfl⟩
instance : TField PP 55 1 1 := ⟨fun b o w => by kernel_rfl⟩
instance : TShape PP 56 false 1 := ⟨fun w => by kernel_rfl, fun w => by kernel_rfl⟩
instance : TZeroV PP 56 (.slice none 0 0) := ⟨fun w => by kernel_rfl⟩
instance : TUnd PP 56 (.slice 58) := ⟨by kernel_rfl⟩
instance : TShape PP 58 true 6 := ⟨fun w => by kernel_rfl, fun w => by kernel_rfl⟩
instance : TZero PP 58 [.int .i64 0, .int .i64 0, .string ByteArray.empty, .string ByteArray.empty, .slice none 0 0, .slice none 0 0] := ⟨fun w => ⟨.agg #[.int .i64 0, .int .i64 0, .string ByteArray.empty, .string ByteArray.empty, .slice none 0 0, .slice none 0 0], by kernel_rfl, by kernel_rfl⟩⟩
instance : TZeroV PP 58 (.agg #[.int .i64 0, .int .i64 0, .string ByteArray.empty, .string ByteArray.empty, .slice none 0 0, .slice none 0 0]) := ⟨fun w => by kernel_rfl⟩
instance : TStruct PP 58 [.int .i64 0, .int .i64 0, .string ByteArray.empty, .string ByteArray.empty, .slice none 0 0, .slice none 0 0] [(0, 1), (1, 1), (2, 1), (3, 1), (4, 1), (5, 1)] := ⟨⟨_, by rw [PP_def]; exact Tryz.underlying58, fun w => by kernel_rfl⟩, fun w => ⟨.agg #[.int .i64 0, .int .i64 0, .string ByteArray.empty, .string ByteArray.empty, .slice none 0 0, .slice none 0 0], by kernel_rfl, by kernel_rfl⟩⟩
instance : TField PP 58 0 0 := ⟨fun b o w => by kernel_rfl⟩
instance : TField PP 58 1 1 := ⟨fun b o w => by kernel_rfl⟩
instance : TField PP 58 2 2 := ⟨fun b o w => by kernel_rfl⟩
instance : TField PP 58 3 3 := ⟨fun b o w => by kernel_rfl⟩
instance : TField PP 58 4 4 := ⟨fun b o w => by kernel_rfl⟩
instance : TField PP 58 5 5 := ⟨fun b o w => by kernel_rfl⟩
instance : TShape PP 60 true 11 := ⟨fun w => by kernel_rfl, fun w => by kernel_rfl⟩
instance : TZero PP 60 [.int .i64 0, .string ByteArray.empty, .int .i64 0, .int .i64 0, .int .i64 0, .string ByteArray.empty, .string ByteArray.empty, .slice none 0 0, .slice none 0 0, .slice none 0 0, .slice none 0 0] := ⟨fun w => ⟨.agg #[.int .i64 0, .string ByteArray.empty, .int .i64 0, .int .i64 0, .int .i64 0, .string ByteArray.empty, .string ByteArray.empty, .slice none 0 0, .slice none 0 0, .slice none 0 0, .slice none 0 0], by kernel_rfl, by kernel_rfl⟩⟩
instance : TZeroV PP 60 (.agg #[.int .i64 0, .string ByteArray.empty, .int .i64 0, .int .i64 0, .int .i64 0, .string ByteArray.empty, .string ByteArray.empty, .slice none 0 0, .slice none 0 0, .slice none 0 0, .slice none 0 0]) := ⟨fun w => by kernel_rfl⟩
instance : TStruct PP 60 [.int .i64 0, .string ByteArray.empty, .int .i64 0, .int .i64 0, .int .i64 0, .string ByteArray.empty, .string ByteArray.empty, .slice none 0 0, .slice none 0 0, .slice none 0 0, .slice none 0 0] [(0, 1), (1, 1), (2, 1), (3, 6), (9, 1), (10, 1)] := ⟨⟨_, by rw [PP_def]; exact Tryz.underlying60, fun w => by kernel_rfl⟩, fun w => ⟨.agg #[.int .i64 0, .string ByteArray.empty, .int .i64 0, .int .i64 0, .int .i64 0, .string ByteArray.empty, .string ByteArray.empty, .slice none 0 0, .slice none 0 0, .slice none 0 0, .slice none 0 0], by kernel_rfl, by kernel_rfl⟩⟩
instance : TField PP 60 0 0 := ⟨fun b o w => by kernel_rfl⟩
instance : TField PP 60 1 1 := ⟨fun b o w => by kernel_rfl⟩
instance : TField PP 60 2 2 := ⟨fun b o w => by kernel_rfl⟩
instance : TField PP 60 3 3 := ⟨fun b o w => by kernel_rfl⟩
instance : TField PP 60 4 9 := ⟨fun b o w => by kernel_rfl⟩
instance : TField PP 60 5 10 := ⟨fun b o w => by kernel_rfl⟩
instance : TShape PP 61 false 1 := ⟨fun w => by kernel_rfl, fun w => by kernel_rfl⟩
instance : TShape PP 62 false 1 := ⟨fun w => by kernel_rfl, fun w => by kernel_rfl⟩
instance : TUnd PP 62 (.map 9 9) := ⟨by kernel_rfl⟩
instance : TStruct PP 64 [.map none, .int .i64 0] [(0, 1), (1, 1)] := ⟨⟨_, by rw [PP_def]; exact Tryz.underlying64, fun w => by kernel_rfl⟩, fun w => ⟨.agg #[.map none, .int .i64 0], by kernel_rfl, by kernel_rfl⟩⟩
instance : TField PP 64 0 0 := ⟨fun b o w => by kernel_rfl⟩
instance : TField PP 64 1 1 := ⟨fun b o w => by kernel_rfl⟩
instance : TUnd PP 68 (.map 9 4) := ⟨by kernel_rfl⟩
instance : TShape PP 72 false 1 := ⟨fun w => by kernel_rfl, fun w => by kernel_rfl⟩
instance : TUnd PP 72 (.slice 74) := ⟨by kernel_rfl⟩
instance : TShape PP 74 true 6 := ⟨fun w => by kernel_rfl, fun w => by kernel_rfl⟩
instance : TInfo PP 74 96 := ⟨fun w => ⟨Tryz.t74, by rw [PP_def]; exact Tryz.typeInfo74 w, rfl⟩⟩
instance : TZero PP 74 [.int .i64 0, .int .i64 0, .string ByteArray.empty, .string ByteArray.empty, .slice none 0 0, .slice none 0 0] := ⟨fun w => ⟨.agg #[.int .i64 0, .int .i64 0, .string ByteArray.empty, .string ByteArray.empty, .slice none 0 0, .slice none 0 0], by kernel_rfl, by kernel_rfl⟩⟩
instance : TZeroV PP 74 (.agg #[.int .i64 0, .int .i64 0, .string ByteArray.empty, .string ByteArray.empty, .slice none 0 0, .slice none 0 0]) := ⟨fun w => by kernel_rfl⟩
instance : TStruct PP 74 [.int .i64 0, .int .i64 0, .string ByteArray.empty, .string ByteArray.empty, .slice none 0 0, .slice none 0 0] [(0, 1), (1, 1), (2, 1), (3, 1), (4, 1), (5, 1)] := ⟨⟨_, by rw [PP_def]; exact Tryz.underlying74, fun w => by kernel_rfl⟩, fun w => ⟨.agg #[.int .i64 0, .int .i64 0, .string ByteArray.empty, .string ByteArray.empty, .slice none 0 0, .slice none 0 0], by kernel_rfl, by kernel_rfl⟩⟩
instance : TField PP 74 0 0 := ⟨fun b o w => by kernel_rfl⟩
instance : TField PP 74 2 2 := ⟨fun b o w => by kernel_rfl⟩
instance : TField PP 74 3 3 := ⟨fun b o w => by kernel_rfl⟩
instance : TField PP 74 4 4 := ⟨fun b o w => by kernel_rfl⟩
instance : TField PP 74 5 5 := ⟨fun b o w => by kernel_rfl⟩
instance : TShape PP 76 true 11 := ⟨fun w => by kernel_rfl, fun w => by kernel_rfl⟩
instance : TInfo PP 76 176 := ⟨fun w => ⟨Tryz.t76, by rw [PP_def]; exact Tryz.typeInfo76 w, rfl⟩⟩
instance : TZero PP 76 [.int .i64 0, .string ByteArray.empty, .int .i64 0, .int .i64 0, .int .i64 0, .string ByteArray.empty, .string ByteArray.empty, .slice none 0 0, .slice none 0 0, .slice none 0 0, .slice none 0 0] := ⟨fun w => ⟨.agg #[.int .i64 0, .string ByteArray.empty, .int .i64 0, .int .i64 0, .int .i64 0, .string ByteArray.empty, .string ByteArray.empty, .slice none 0 0, .slice none 0 0, .slice none 0 0, .slice none 0 0], by kernel_rfl, by kernel_rfl⟩⟩
instance : TZeroV PP 76 (.agg #[.int .i64 0, .string ByteArray.empty, .int .i64 0, .int .i64 0, .int .i64 0, .string ByteArray.empty, .string ByteArray.empty, .slice none 0 0, .slice none 0 0, .slice none 0 0, .slice none 0 0]) := ⟨fun w => by kernel_rfl⟩
instance : TStruct PP 76 [.int .i64 0, .string ByteArray.empty, .int .i64 0, .int .i64 0, .int .i64 0, .string ByteArray.empty, .string ByteArray.empty, .slice none 0 0, .slice none 0 0, .slice none 0 0, .slice none 0 0] [(0, 1), (1, 1), (2, 1), (3, 6), (9, 1), (10, 1)] := ⟨⟨_, by rw [PP_def]; exact Tryz.underlying76, fun w => by kernel_rfl⟩, fun w => ⟨.agg #[.int .i64 0, .string ByteArray.empty, .int .i64 0, .int .i64 0, .int .i64 0, .string ByteArray.empty, .string ByteArray.empty, .slice none 0 0, .slice none 0 0, .slice none 0 0, .slice none 0 0], by kernel_rfl, by kernel_rfl⟩⟩
instance : TField PP 76 0 0 := ⟨fun b o w => by kernel_rfl⟩
instance : TField PP 76 2 2 := ⟨fun b o w => by kernel_rfl⟩
instance : TField PP 76 3 3 := ⟨fun b o w => by kernel_rfl⟩
instance : TField PP 76 4 9 := ⟨fun b o w => by kernel_rfl⟩
instance : TField PP 76 5 10 := ⟨fun b o w => by kernel_rfl⟩
instance : TShape PP 81 true 2 := ⟨fun w => by kernel_rfl, fun w => by kernel_rfl⟩
instance : TInfo PP 81 32 := ⟨fun w => ⟨Tryz.t81, by rw [PP_def]; exact Tryz.typeInfo81 w, rfl⟩⟩
instance : TZero PP 81 [.string ByteArray.empty, .string ByteArray.empty] := ⟨fun w => ⟨.agg #[.string ByteArray.empty, .string ByteArray.empty], by kernel_rfl, by kernel_rfl⟩⟩
instance : TZeroV PP 81 (.agg #[.string ByteArray.empty, .string ByteArray.empty]) := ⟨fun w => by kernel_rfl⟩
instance : TUnd PP 81 (.array 2 9) := ⟨by kernel_rfl⟩
instance : TUnd PP 82 (.slice 86) := ⟨by kernel_rfl⟩
instance : TShape PP 86 true 3 := ⟨fun w => by kernel_rfl, fun w => by kernel_rfl⟩
instance : TInfo PP 86 32 := ⟨fun w => ⟨Tryz.t86, by rw [PP_def]; exact Tryz.typeInfo86 w, rfl⟩⟩
instance : TZero PP 86 [.string ByteArray.empty, .int .i64 0, .bool false] := ⟨fun w => ⟨.agg #[.string ByteArray.empty, .int .i64 0, .bool false], by kernel_rfl, by kernel_rfl⟩⟩
instance : TZeroV PP 86 (.agg #[.string ByteArray.empty, .int .i64 0, .bool false]) := ⟨fun w => by kernel_rfl⟩
instance : TStruct PP 86 [.string ByteArray.empty, .int .i64 0, .bool false] [(0, 1), (1, 1), (2, 1)] := ⟨⟨_, by rw [PP_def]; exact Tryz.underlying86, fun w => by kernel_rfl⟩, fun w => ⟨.agg #[.string ByteArray.empty, .int .i64 0, .bool false], by kernel_rfl, by kernel_rfl⟩⟩
instance : TField PP 86 0 0 := ⟨fun b o w => by kernel_rfl⟩
instance : TField PP 86 2 2 := ⟨fun b o w => by kernel_rfl⟩
instance : TShape PP 88 true 3 := ⟨fun w => by kernel_rfl, fun w => by kernel_rfl⟩
instance : TInfo PP 88 40 := ⟨fun w => ⟨Tryz.t88, by rw [PP_def]; exact Tryz.typeInfo88 w, rfl⟩⟩
instance : TZero PP 88 [.string ByteArray.empty, .string ByteArray.empty, .bool false] := ⟨fun w => ⟨.agg #[.string ByteArray.empty, .string ByteArray.empty, .bool false], by kernel_rfl, by kernel_rfl⟩⟩
instance : TZeroV PP 88 (.agg #[.string ByteArray.empty, .string ByteArray.empty, .bool false]) := ⟨fun w => by kernel_rfl⟩
instance : TStruct PP 88 [.string ByteArray.empty, .string ByteArray.empty, .bool false] [(0, 1), (1, 1), (2, 1)] := ⟨⟨_, by rw [PP_def]; exact Tryz.underlying88, fun w => by kernel_rfl⟩, fun w => ⟨.agg #[.string ByteArray.empty, .string ByteArray.empty, .bool false], by kernel_rfl, by kernel_rfl⟩⟩
instance : TField PP 88 0 0 := ⟨fun b o w => by kernel_rfl⟩
instance : TField PP 88 1 1 := ⟨fun b o w => by kernel_rfl⟩
instance : TField PP 88 2 2 := ⟨fun b o w => by kernel_rfl⟩
instance : TZeroV PP 101 (.slice none 0 0) := ⟨fun w => by kernel_rfl⟩
instance : TUnd PP 101 (.slice 105) := ⟨by kernel_rfl⟩
instance : TShape PP 105 true 4 := ⟨fun w => by kernel_rfl, fun w => by kernel_rfl⟩
instance : TZero PP 105 [.string ByteArray.empty, .int .i64 0, .bool false, .nilFunc] := ⟨fun w => ⟨.agg #[.string ByteArray.empty, .int .i64 0, .bool false, .nilFunc], by kernel_rfl, by kernel_rfl⟩⟩
instance : TZeroV PP 105 (.agg #[.string ByteArray.empty, .int .i64 0, .bool false, .nilFunc]) := ⟨fun w => by kernel_rfl⟩
instance : TStruct PP 105 [.string ByteArray.empty, .int .i64 0, .bool false, .nilFunc] [(0, 1), (1, 1), (2, 1), (3, 1)] := ⟨⟨_, by rw [PP_def]; exact Tryz.underlying105, fun w => by kernel_rfl⟩, fun w => ⟨.agg #[.string ByteArray.empty, .int .i64 0, .bool false, .nilFunc], by kernel_rfl, by kernel_rfl⟩⟩
instance : TField PP 105 0 0 := ⟨fun b o w => by kernel_rfl⟩
instance : TField PP 105 1 1 := ⟨fun b o w => by kernel_rfl⟩
instance : TField PP 105 2 2 := ⟨fun b o w => by kernel_rfl⟩
instance : TUnd PP 114 (.slice 5) := ⟨by kernel_rfl⟩
instance : TShape PP 117 false 1 := ⟨fun w => by kernel_rfl, fun w => by kernel_rfl⟩
instance : TZeroV PP 117 (.map none) := ⟨fun w => by kernel_rfl⟩
instance : TUnd PP 117 (.map 3 101) := ⟨by kernel_rfl⟩
instance : TUnd PP 119 (.slice 117) := ⟨by kernel_rfl⟩
instance : TUnd PP 121 (.slice 28) := ⟨by kernel_rfl⟩
instance : TUnd PP 126 (.array 14 9) := ⟨by kernel_rfl⟩
instance : TUnd PP 127 (.slice 34) := ⟨by kernel_rfl⟩
instance : TUnd PP 194 (.int (.u64)) := ⟨by kernel_rfl⟩
instance : TShape PP 200 true 8 := ⟨fun w => by kernel_rfl, fun w => by kernel_rfl⟩
instance : TZero PP 200 [.bool false, .bool false, .bool false, .bool false, .bool false, .int .i64 0, .int .i64 0, .int .i64 0] := ⟨fun w => ⟨.agg #[.bool false, .bool false, .bool false, .bool false, .bool false, .int .i64 0, .int .i64 0, .int .i64 0], by kernel_rfl, by kernel_rfl⟩⟩
instance : TStruct PP 200 [.bool false, .bool false, .bool false, .bool false, .bool false, .int .i64 0, .int .i64 0, .int .i64 0] [(0, 1), (1, 1), (2, 1), (3, 1), (4, 1), (5, 1), (6, 1), (7, 1)] := ⟨⟨_, by rw [PP_def]; exact Tryz.underlying200, fun w => by kernel_rfl⟩, fun w => ⟨.agg #[.bool false, .bool false, .bool false, .bool false, .bool false, .int .i64 0, .int .i64 0, .int .i64 0], by kernel_rfl, by kernel_rfl⟩⟩
instance : TField PP 200 0 0 := ⟨fun b o w => by kernel_rfl⟩
instance : TField PP 200 1 1 := ⟨fun b o w => by kernel_rfl⟩
instance : TField PP 200 2 2 := ⟨fun b o w => by kernel_rfl⟩
instance : TField PP 200 3 3 := ⟨fun b o w => by kernel_rfl⟩
instance : TField PP 200 4 4 := ⟨fun b o w => by kernel_rfl⟩
instance : TField PP 200 5 5 := ⟨fun b o w => by kernel_rfl⟩
instance : TField PP 200 6 6 := ⟨fun b o w => by kernel_rfl⟩
instance : TField PP 200 7 7 := ⟨fun b o w => by kernel_rfl⟩
instance : TShape PP 201 true 64 := ⟨fun w => by kernel_rfl, fun w => by kernel_rfl⟩
instance : TZero PP 201 [.bool false, .bool false, .bool false, .bool false, .bool false, .int .i64 0, .int .i64 0, .int .i64 0, .bool false, .bool false, .bool false, .bool false, .bool false, .int .i64 0, .int .i64 0, .int .i64 0, .bool false, .bool false, .bool false, .bool false, .bool false, .int .i64 0, .int .i64 0, .int .i64 0, .bool false, .bool false, .bool false, .bool false, .bool false, .int .i64 0, .int .i64 0, .int .i64 0, .bool false, .bool false, .bool false, .bool false, .bool false, .int .i64 0, .int .i64 0, .int .i64 0, .bool false, .bool false, .bool false, .bool false, .bool false, .int .i64 0, .int .i64 0, .int .i64 0, .bool false, .bool false, .bool false, .bool false, .bool false, .int .i64 0, .int .i64 0, .int .i64 0, .bool false, .bool false, .bool false, .bool false, .bool false, .int .i64 0, .int .i64 0, .int .i64 0] := ⟨fun w => ⟨.agg #[.bool false, .bool false, .bool false, .bool false, .bool false, .int .i64 0, .int .i64 0, .int .i64 0, .bool false, .bool false, .bool false, .bool false, .bool false, .int .i64 0, .int .i64 0, .int .i64 0, .bool false, .bool false, .bool false, .bool false, .bool false, .int .i64 0, .int .i64 0, .int .i64 0, .bool false, .bool false, .bool false, .bool false, .bool false, .int .i64 0, .int .i64 0, .int .i64 0, .bool false, .bool false, .bool false, .bool false, .bool false, .int .i64 0, .int .i64 0, .int .i64 0, .bool false, .bool false, .bool false, .bool false, .bool false, .int .i64 0, .int .i64 0, .int .i64 0, .bool false, .bool false, .bool false, .bool false, .bool false, .int .i64 0, .int .i64 0, .int .i64 0, .bool false, .bool false, .bool false, .bool false, .bool false, .int .i64 0, .int .i64 0, .int .i64 0], by kernel_rfl, by kernel_rfl⟩⟩
instance : TUnd PP 201 (.array 8 200) := ⟨by kernel_rfl⟩
instance : TUnd PP 204 (.slice 56) := ⟨by kernel_rfl⟩
instance : TUnd PP 233 (.int (.u64)) := ⟨by kernel_rfl⟩
instance : TShape PP 337 false 1 := ⟨fun w => by kernel_rfl, fun w => by kernel_rfl⟩
instance : TZero PP 337 [.int .u64 0] := ⟨fun w => ⟨.int .u64 0, by kernel_rfl, by kernel_rfl⟩⟩
instance : TUnd PP 337 (.int (.u64)) := ⟨by kernel_rfl⟩
theorem en3 : Enters PP 3 := fun args w => by rw [PP_def]; exact Tryz.call3 args w
theorem fn3 : PP.funcs[3]? = some Tryz.f3 := by rw [PP_def]; exact Tryz.func3
theorem en4 : Enters PP 4 := fun args w => by rw [PP_def]; exact Tryz.call4 args w
theorem fn4 : PP.funcs[4]? = some Tryz.f4 := by rw [PP_def]; exact Tryz.func4
theorem en5 : Enters PP 5 := fun args w => by rw [PP_def]; exact Tryz.call5 args w
theorem fn5 : PP.funcs[5]? = some Tryz.f5 := by rw [PP_def]; exact Tryz.func5
theorem en6 : Enters PP 6 := fun args w => by rw [PP_def]; exact Tryz.call6 args w
theorem fn6 : PP.funcs[6]? = some Tryz.f6 := by rw [PP_def]; exact Tryz.func6
theorem en7 : Enters PP 7 := fun args w => by rw [PP_def]; exact Tryz.call7 args w
theorem fn7 : PP.funcs[7]? = some Tryz.f7 := by rw [PP_def]; exact Tryz.func7
theorem en8 : Enters PP 8 := fun args w => by rw [PP_def]; exact Tryz.call8 args w
theorem fn8 : PP.funcs[8]? = some Tryz.f8 := by rw [PP_def]; exact Tryz.func8
theorem en9 : Enters PP 9 := fun args w => by rw [PP_def]; exact Tryz.call9 args w
theorem fn9 : PP.funcs[9]? = some Tryz.f9 := by rw [PP_def]; exact Tryz.func9
theorem en10 : Enters PP 10 := fun args w => by rw [PP_def]; exact Tryz.call10 args w
theorem fn10 : PP.funcs[10]? = some Tryz.f10 := by rw [PP_def]; exact Tryz.func10
theorem en11 : Enters PP 11 := fun args w => by rw [PP_def]; exact Tryz.call11 args w
theorem fn11 : PP.funcs[11]? = some Tryz.f11 := by rw [PP_def]; exact Tryz.func11
theorem en12 : Enters PP 12 := fun args w => by rw [PP_def]; exact Tryz.call12 args w
theorem fn12 : PP.funcs[12]? = some Tryz.f12 := by rw [PP_def]; exact Tryz.func12
theorem en13 : Enters PP 13 := fun args w => by rw [PP_def]; exact Tryz.call13 args w
theorem fn13 : PP.funcs[13]? = some Tryz.f13 := by rw [PP_def]; exact Tryz.func13
theorem en14 : Enters PP 14 := fun args w => by rw [PP_def]; exact Tryz.call14 args w
theorem fn14 : PP.funcs[14]? = some Tryz.f14 := by rw [PP_def]; exact Tryz.func14
theorem en15 : Enters PP 15 := fun args w => by rw [PP_def]; exact Tryz.call15 args w
theorem fn15 : PP.funcs[15]? = some Tryz.f15 := by rw [PP_def]; exact Tryz.func15
theorem en16 : Enters PP 16 := fun args w => by rw [PP_def]; exact Tryz.call16 args w
theorem fn16 : PP.funcs[16]? = some Tryz.f16 := by rw [PP_def]; exact Tryz.func16
theorem en17 : Enters PP 17 := fun args w => by rw [PP_def]; exact Tryz.call17 args w
theorem fn17 : PP.funcs[17]? = some Tryz.f17 := by rw [PP_def]; exact Tryz.func17
theorem en18 : Enters PP 18 := fun args w => by rw [PP_def]; exact Tryz.call18 args w
theorem fn18 : PP.funcs[18]? = some Tryz.f18 := by rw [PP_def]; exact Tryz.func18
theorem en19 : Enters PP 19 := fun args w => by rw [PP_def]; exact Tryz.call19 args w
theorem fn19 : PP.funcs[19]? = some Tryz.f19 := by rw [PP_def]; exact Tryz.func19
theorem en20 : Enters PP 20 := fun args w => by rw [PP_def]; exact Tryz.call20 args w
theorem fn20 : PP.funcs[20]? = some Tryz.f20 := by rw [PP_def]; exact Tryz.func20
theorem en21 : Enters PP 21 := fun args w => by rw [PP_def]; exact Tryz.call21 args w
theorem fn21 : PP.funcs[21]? = some Tryz.f21 := by rw [PP_def]; exact Tryz.func21
theorem en22 : Enters PP 22 := fun args w => by rw [PP_def]; exact Tryz.call22 args w
theorem fn22 : PP.funcs[22]? = some Tryz.f22 := by rw [PP_def]; exact Tryz.func22
theorem en23 : Enters PP 23 := fun args w => by rw [PP_def]; exact Tryz.call23 args w
theorem fn23 : PP.funcs[23]? = some Tryz.f23 := by rw [PP_def]; exact Tryz.func23
theorem en24 : Enters PP 24 := fun args w => by rw [PP_def]; exact Tryz.call24 args w
theorem fn24 : PP.funcs[24]? = some Tryz.f24 := by rw [PP_def]; exact Tryz.func24
theorem en25 : Enters PP 25 := fun args w => by rw [PP_def]; exact Tryz.call25 args w
theorem fn25 : PP.funcs[25]? = some Tryz.f25 := by rw [PP_def]; exact Tryz.func25
theorem en26 : Enters PP 26 := fun args w => by rw [PP_def]; exact Tryz.call26 args w
theorem fn26 : PP.funcs[26]? = some Tryz.f26 := by rw [PP_def]; exact Tryz.func26
theorem en27 : Enters PP 27 := fun args w => by rw [PP_def]; exact Tryz.call27 args w
theorem fn27 : PP.funcs[27]? = some Tryz.f27 := by rw [PP_def]; exact Tryz.func27
theorem en28 : Enters PP 28 := fun args w => by rw [PP_def]; exact Tryz.call28 args w
theorem fn28 : PP.funcs[28]? = some Tryz.f28 := by rw [PP_def]; exact Tryz.func28
theorem en29 : Enters PP 29 := fun args w => by rw [PP_def]; exact Tryz.call29 args w
theorem fn29 : PP.funcs[29]? = some Tryz.f29 := by rw [PP_def]; exact Tryz.func29
theorem en30 : Enters PP 30 := fun args w => by rw [PP_def]; exact Tryz.call30 args w
theorem fn30 : PP.funcs[30]? = some Tryz.f30 := by rw [PP_def]; exact Tryz.func30
theorem en31 : Enters PP 31 := fun args w => by rw [PP_def]; exact Tryz.call31 args w
theorem fn31 : PP.funcs[31]? = some Tryz.f31 := by rw [PP_def]; exact Tryz.func31
theorem en32 : Enters PP 32 := fun args w => by rw [PP_def]; exact Tryz.call32 args w
theorem fn32 : PP.funcs[32]? = some Tryz.f32 := by rw [PP_def]; exact Tryz.func32
theorem en33 : Enters PP 33 := fun args w => by rw [PP_def]; exact Tryz.call33 args w
theorem fn33 : PP.funcs[33]? = some Tryz.f33 := by rw [PP_def]; exact Tryz.func33
theorem en34 : Enters PP 34 := fun args w => by rw [PP_def]; exact Tryz.call34 args w
theorem fn34 : PP.funcs[34]? = some Tryz.f34 := by rw [PP_def]; exact Tryz.func34
theorem en35 : Enters PP 35 := fun args w => by rw [PP_def]; exact Tryz.call35 args w
theorem fn35 : PP.funcs[35]? = some Tryz.f35 := by rw [PP_def]; exact Tryz.func35
theorem en36 : Enters PP 36 := fun args w => by rw [PP_def]; exact Tryz.call36 args w
theorem fn36 : PP.funcs[36]? = some Tryz.f36 := by rw [PP_def]; exact Tryz.func36
theorem en37 : Enters PP 37 := fun args w => by rw [PP_def]; exact Tryz.call37 args w
theorem fn37 : PP.funcs[37]? = some Tryz.f37 := by rw [PP_def]; exact Tryz.func37
theorem en38 : Enters PP 38 := fun args w => by rw [PP_def]; exact Tryz.call38 args w
theorem fn38 : PP.funcs[38]? = some Tryz.f38 := by rw [PP_def]; exact Tryz.func38
theorem en39 : Enters PP 39 := fun args w => by rw [PP_def]; exact Tryz.call39 args w
theorem fn39 : PP.funcs[39]? = some Tryz.f39 := by rw [PP_def]; exact Tryz.func39
theorem en40 : Enters PP 40 := fun args w => by rw [PP_def]; exact Tryz.call40 args w
theorem fn40 : PP.funcs[40]? = some Tryz.f40 := by rw [PP_def]; exact Tryz.func40
theorem en41 : Enters PP 41 := fun args w => by rw [PP_def]; exact Tryz.call41 args w
theorem fn41 : PP.funcs[41]? = some Tryz.f41 := by rw [PP_def]; exact Tryz.func41
theorem en42 : Enters PP 42 := fun args w => by rw [PP_def]; exact Tryz.call42 args w
theorem fn42 : PP.funcs[42]? = some Tryz.f42 := by rw [PP_def]; exact Tryz.func42
theorem en43 : Enters PP 43 := fun args w => by rw [PP_def]; exact Tryz.call43 args w
theorem fn43 : PP.funcs[43]? = some Tryz.f43 := by rw [PP_def]; exact Tryz.func43
theorem en44 : Enters PP 44 := fun args w => by rw [PP_def]; exact Tryz.call44 args w
theorem fn44 : PP.funcs[44]? = some Tryz.f44 := by rw [PP_def]; exact Tryz.func44
theorem en45 : Enters PP 45 := fun args w => by rw [PP_def]; exact Tryz.call45 args w
theorem fn45 : PP.funcs[45]? = some Tryz.f45 := by rw [PP_def]; exact Tryz.func45
theorem en46 : Enters PP 46 := fun args w => by rw [PP_def]; exact Tryz.call46 args w
theorem fn46 : PP.funcs[46]? = some Tryz.f46 := by rw [PP_def]; exact Tryz.func46
theorem en47 : Enters PP 47 := fun args w => by rw [PP_def]; exact Tryz.call47 args w
theorem fn47 : PP.funcs[47]? = some Tryz.f47 := by rw [PP_def]; exact Tryz.func47
theorem en48 : Enters PP 48 := fun args w => by rw [PP_def]; exact Tryz.call48 args w
theorem fn48 : PP.funcs[48]? = some Tryz.f48 := by rw [PP_def]; exact Tryz.func48
theorem en49 : Enters PP 49 := fun args w => by rw [PP_def]; exact Tryz.call49 args w
theorem fn49 : PP.funcs[49]? = some Tryz.f49 := by rw [PP_def]; exact Tryz.func49
theorem en50 : Enters PP 50 := fun args w => by rw [PP_def]; exact Tryz.call50 args w
theorem fn50 : PP.funcs[50]? = some Tryz.f50 := by rw [PP_def]; exact Tryz.func50
theorem en51 : Enters PP 51 := fun args w => by rw [PP_def]; exact Tryz.call51 args w
theorem fn51 : PP.funcs[51]? = some Tryz.f51 := by rw [PP_def]; exact Tryz.func51
theorem en52 : Enters PP 52 := fun args w => by rw [PP_def]; exact Tryz.call52 args w
theorem fn52 : PP.funcs[52]? = some Tryz.f52 := by rw [PP_def]; exact Tryz.func52
theorem en53 : Enters PP 53 := fun args w => by rw [PP_def]; exact Tryz.call53 args w
theorem fn53 : PP.funcs[53]? = some Tryz.f53 := by rw [PP_def]; exact Tryz.func53
theorem en54 : Enters PP 54 := fun args w => by rw [PP_def]; exact Tryz.call54 args w
theorem fn54 : PP.funcs[54]? = some Tryz.f54 := by rw [PP_def]; exact Tryz.func54
theorem en55 : Enters PP 55 := fun args w => by rw [PP_def]; exact Tryz.call55 args w
theorem fn55 : PP.funcs[55]? = some Tryz.f55 := by rw [PP_def]; exact Tryz.func55
theorem en56 : Enters PP 56 := fun args w => by rw [PP_def]; exact Tryz.call56 args w
theorem fn56 : PP.funcs[56]? = some Tryz.f56 := by rw [PP_def]; exact Tryz.func56
theorem en57 : Enters PP 57 := fun args w => by rw [PP_def]; exact Tryz.call57 args w
theorem fn57 : PP.funcs[57]? = some Tryz.f57 := by rw [PP_def]; exact Tryz.func57
theorem en58 : Enters PP 58 := fun args w => by rw [PP_def]; exact Tryz.call58 args w
theorem fn58 : PP.funcs[58]? = some Tryz.f58 := by rw [PP_def]; exact Tryz.func58
theorem en59 : Enters PP 59 := fun args w => by rw [PP_def]; exact Tryz.call59 args w
theorem fn59 : PP.funcs[59]? = some Tryz.f59 := by rw [PP_def]; exact Tryz.func59
theorem en60 : Enters PP 60 := fun args w => by rw [PP_def]; exact Tryz.call60 args w
theorem fn60 : PP.funcs[60]? = some Tryz.f60 := by rw [PP_def]; exact Tryz.func60
theorem en61 : Enters PP 61 := fun args w => by rw [PP_def]; exact Tryz.call61 args w
theorem fn61 : PP.funcs[61]? = some Tryz.f61 := by rw [PP_def]; exact Tryz.func61
theorem en62 : Enters PP 62 := fun args w => by rw [PP_def]; exact Tryz.call62 args w
theorem fn62 : PP.funcs[62]? = some Tryz.f62 := by rw [PP_def]; exact Tryz.func62
theorem en63 : Enters PP 63 := fun args w => by rw [PP_def]; exact Tryz.call63 args w
theorem fn63 : PP.funcs[63]? = some Tryz.f63 := by rw [PP_def]; exact Tryz.func63
theorem en64 : Enters PP 64 := fun args w => by rw [PP_def]; exact Tryz.call64 args w
theorem fn64 : PP.funcs[64]? = some Tryz.f64 := by rw [PP_def]; exact Tryz.func64
theorem en65 : Enters PP 65 := fun args w => by rw [PP_def]; exact Tryz.call65 args w
theorem fn65 : PP.funcs[65]? = some Tryz.f65 := by rw [PP_def]; exact Tryz.func65
theorem en66 : Enters PP 66 := fun args w => by rw [PP_def]; exact Tryz.call66 args w
theorem fn66 : PP.funcs[66]? = some Tryz.f66 := by rw [PP_def]; exact Tryz.func66
theorem en197 : Enters PP 197 := fun args w => by rw [PP_def]; exact Tryz.call197 args w
theorem fn197 : PP.funcs[197]? = some Tryz.f197 := by rw [PP_def]; exact Tryz.func197
theorem en198 : Enters PP 198 := fun args w => by rw [PP_def]; exact Tryz.call198 args w
theorem fn198 : PP.funcs[198]? = some Tryz.f198 := by rw [PP_def]; exact Tryz.func198
theorem en199 : Enters PP 199 := fun args w => by rw [PP_def]; exact Tryz.call199 args w
theorem fn199 : PP.funcs[199]? = some Tryz.f199 := by rw [PP_def]; exact Tryz.func199
theorem en200 : Enters PP 200 := fun args w => by rw [PP_def]; exact Tryz.call200 args w
theorem fn200 : PP.funcs[200]? = some Tryz.f200 := by rw [PP_def]; exact Tryz.func200
theorem en201 : Enters PP 201 := fun args w => by rw [PP_def]; exact Tryz.call201 args w
theorem fn201 : PP.funcs[201]? = some Tryz.f201 := by rw [PP_def]; exact Tryz.func201
theorem en202 : Enters PP 202 := fun args w => by rw [PP_def]; exact Tryz.call202 args w
theorem fn202 : PP.funcs[202]? = some Tryz.f202 := by rw [PP_def]; exact Tryz.func202
theorem en203 : Enters PP 203 := fun args w => by rw [PP_def]; exact Tryz.call203 args w
theorem fn203 : PP.funcs[203]? = some Tryz.f203 := by rw [PP_def]; exact Tryz.func203
theorem en204 : Enters PP 204 := fun args w => by rw [PP_def]; exact Tryz.call204 args w
theorem fn204 : PP.funcs[204]? = some Tryz.f204 := by rw [PP_def]; exact Tryz.func204
theorem en205 : Enters PP 205 := fun args w => by rw [PP_def]; exact Tryz.call205 args w
theorem fn205 : PP.funcs[205]? = some Tryz.f205 := by rw [PP_def]; exact Tryz.func205
theorem en293 : Enters PP 293 := fun args w => by rw [PP_def]; exact Tryz.call293 args w
theorem fn293 : PP.funcs[293]? = some Tryz.f293 := by rw [PP_def]; exact Tryz.func293
theorem en294 : Enters PP 294 := fun args w => by rw [PP_def]; exact Tryz.call294 args w
theorem fn294 : PP.funcs[294]? = some Tryz.f294 := by rw [PP_def]; exact Tryz.func294
theorem en295 : Enters PP 295 := fun args w => by rw [PP_def]; exact Tryz.call295 args w
theorem fn295 : PP.funcs[295]? = some Tryz.f295 := by rw [PP_def]; exact Tryz.func295
theorem en296 : Enters PP 296 := fun args w => by rw [PP_def]; exact Tryz.call296 args w
theorem fn296 : PP.funcs[296]? = some Tryz.f296 := by rw [PP_def]; exact Tryz.func296
theorem en297 : Enters PP 297 := fun args w => by rw [PP_def]; exact Tryz.call297 args w
theorem fn297 : PP.funcs[297]? = some Tryz.f297 := by rw [PP_def]; exact Tryz.func297
theorem en298 : Enters PP 298 := fun args w => by rw [PP_def]; exact Tryz.call298 args w
theorem fn298 : PP.funcs[298]? = some Tryz.f298 := by rw [PP_def]; exact Tryz.func298
theorem en299 : Enters PP 299 := fun args w => by rw [PP_def]; exact Tryz.call299 args w
theorem fn299 : PP.funcs[299]? = some Tryz.f299 := by rw [PP_def]; exact Tryz.func299
theorem en300 : Enters PP 300 := fun args w => by rw [PP_def]; exact Tryz.call300 args w
theorem fn300 : PP.funcs[300]? = some Tryz.f300 := by rw [PP_def]; exact Tryz.func300
theorem en301 : Enters PP 301 := fun args w => by rw [PP_def]; exact Tryz.call301 args w
theorem fn301 : PP.funcs[301]? = some Tryz.f301 := by rw [PP_def]; exact Tryz.func301
theorem en303 : Enters PP 303 := fun args w => by rw [PP_def]; exact Tryz.call303 args w
theorem fn303 : PP.funcs[303]? = some Tryz.f303 := by rw [PP_def]; exact Tryz.func303
theorem en304 : Enters PP 304 := fun args w => by rw [PP_def]; exact Tryz.call304 args w
theorem fn304 : PP.funcs[304]? = some Tryz.f304 := by rw [PP_def]; exact Tryz.func304
theorem en305 : Enters PP 305 := fun args w => by rw [PP_def]; exact Tryz.call305 args w
theorem fn305 : PP.funcs[305]? = some Tryz.f305 := by rw [PP_def]; exact Tryz.func305
theorem en327 : Enters PP 327 := fun args w => by rw [PP_def]; exact Tryz.call327 args w
theorem fn327 : PP.funcs[327]? = some Tryz.f327 := by rw [PP_def]; exact Tryz.func327
theorem en328 : Enters PP 328 := fun args w => by rw [PP_def]; exact Tryz.call328 args w
theorem fn328 : PP.funcs[328]? = some Tryz.f328 := by rw [PP_def]; exact Tryz.func328
theorem en329 : Enters PP 329 := fun args w => by rw [PP_def]; exact Tryz.call329 args w
theorem fn329 : PP.funcs[329]? = some Tryz.f329 := by rw [PP_def]; exact Tryz.func329
theorem en330 : Enters PP 330 := fun args w => by rw [PP_def]; exact Tryz.call330 args w
theorem fn330 : PP.funcs[330]? = some Tryz.f330 := by rw [PP_def]; exact Tryz.func330
theorem en331 : Enters PP 331 := fun args w => by rw [PP_def]; exact Tryz.call331 args w
theorem fn331 : PP.funcs[331]? = some Tryz.f331 := by rw [PP_def]; exact Tryz.func331
theorem en332 : Enters PP 332 := fun args w => by rw [PP_def]; exact Tryz.call332 args w
theorem fn332 : PP.funcs[332]? = some Tryz.f332 := by rw [PP_def]; exact Tryz.func332
theorem en333 : Enters PP 333 := fun args w => by rw [PP_def]; exact Tryz.call333 args w
theorem fn333 : PP.funcs[333]? = some Tryz.f333 := by rw [PP_def]; exact Tryz.func333
theorem en334 : Enters PP 334 := fun args w => by rw [PP_def]; exact Tryz.call334 args w
theorem fn334 : PP.funcs[334]? = some Tryz.f334 := by rw [PP_def]; exact Tryz.func334
theorem en336 : Enters PP 336 := fun args w => by rw [PP_def]; exact Tryz.call336 args w
theorem fn336 : PP.funcs[336]? = some Tryz.f336 := by rw [PP_def]; exact Tryz.func336
end Go.Proofs.YtagmagnkigjggaaGreatDoor

namespace Go.Proofs.YtagmagnkigjggaaGreatDoor
open Go.Vc

theorem isNaN_spec (w0 : World) (x : List UInt8) : FnE PP w0 [] 332 [.string (ofB x)] [] (.bool false) [] := by
  refine fn_of_run en332 fn332 rfl rfl rfl ?_
  repeat' (first | refine zck ?_ | refine zcp (by kernel_rfl) ?_ | (refine zap rfl ?_; first | refine reg_neB rfl rfl ?_ | refine zan rfl ?_ | refine zan rfl ?_) | refine zch ?_)
  exact ret_tmp1 rfl ⟨rfl, rfl⟩
theorem less_spec (w0 : World) (x y : List UInt8) : FnE PP w0 [] 299 [.string (ofB x), .string (ofB y)] [] (.bool (Go.Sort.ltStr x y)) [] := by
  refine fn_of_run en299 fn299 rfl rfl rfl ?_
  repeat' (first | refine zck ?_ | refine zcp (by kernel_rfl) ?_ | (refine zap rfl ?_; first | refine reg_ltB rfl rfl ?_ | refine zaj rfl ?_ | refine zak rfl ?_ | refine zan rfl ?_ | refine zan rfl ?_ | refine zah [] (isNaN_spec w0 _) rfl rfl rfl sub_nil rfl ?_ | refine zbv rfl ?_) | refine zch ?_)
  refine ret_tmp1 rfl ⟨?_, rfl⟩
  rfl
end Go.Proofs.YtagmagnkigjggaaGreatDoor

namespace Go.Proofs.YtagmagnkigjggaaGreatDoor
open Go.Vc
open Go.Sort (ltStr swp insInner insOuter insertionSort)

theorem ins_step {a j : Nat} {d : Array (List UInt8)} (h : a < j + 1) (hl : ltStr d[j + 1]! d[j]! = true) : insInner ltStr a (j + 1) d = insInner ltStr a j (swp d (j + 1) j) := by
  rw [insInner]; simp [h, hl]
theorem ins_stop {a j : Nat} {d : Array (List UInt8)} (hl : ltStr d[j + 1]! d[j]! = false) : insInner ltStr a (j + 1) d = d := by
  rw [insInner]; simp [hl]
theorem ins_end {a j : Nat} {d : Array (List UInt8)} (h : j ≤ a) : insInner ltStr a j d = d := by
  cases j with
  | zero => rfl
  | succ j => rw [insInner]; simp; omega
theorem insOuter_lt {a b i : Nat} {d : Array (List UInt8)} (h : i < b) : insOuter ltStr a b i d = insOuter ltStr a b (i + 1) (insInner ltStr a i d) := by
  rw [insOuter, if_pos h]
theorem insOuter_ge {a b i : Nat} {d : Array (List UInt8)} (h : b ≤ i) : insOuter ltStr a b i d = d := by
  rw [insOuter, if_neg (by omega)]
theorem ins_spec (w0 : World) (bb N cap : Nat) (D : Array (List UInt8)) (a b : Nat) (hN : N ≤ 4611686018427387903) (hab : a ≤ b) (hb : b ≤ N) (hD : D.size = N) :
    FnE PP w0 [] 293 [.slice (some ⟨bb, 0, none⟩) N cap, .int .i64 a, .int .i64 b] [DatS 9 bb N cap D] (.tuple #[]) [DatS 9 bb N cap (insertionSort ltStr D a b)] := by
  refine fn_of_run en293 fn293 rfl rfl rfl ?_
  repeat' (first | refine zck ?_ | refine zcp (by kernel_rfl) ?_ | refine zcl ?_ | (refine zap rfl ?_; first | refine zan rfl ?_ | refine zan rfl ?_ | refine zau rfl rfl (by omega) ?_) | refine zch ?_)
  refine run_loop (S := Nat × Array (List UInt8)) (fun s => [(0, .slice (some ⟨bb, 0, none⟩) N cap), (1, .int .i64 a), (2, .int .i64 b), (6, .int .i64 s.1)])
    (fun s Γ => Γ = [DatS 9 bb N cap s.2] ∧ a < s.1 ∧ s.1 ≤ b + 1 ∧ s.2.size = N ∧ insOuter ltStr a b s.1 s.2 = insertionSort ltStr D a b)
    (fun s => b + 1 - s.1) (a + 1, D) ⟨rfl, rfl, rfl, rfl, trivial⟩ ⟨rfl, by omega, by omega, hD, rfl⟩ ?_
  rintro ⟨i, d⟩ Γ junk ⟨rfl, h1, h2, h3, h4⟩
  dsimp only at h1 h2 h3 h4 ⊢
  by_cases hi : i < b
  · repeat' (first | refine zck ?_ | refine zcp (by kernel_rfl) ?_ | refine zcm ?_ | refine zcl ?_ | (refine zap rfl ?_; first | refine zan rfl ?_ | refine zan rfl ?_ | refine zbg rfl rfl (by omega) ?_) | refine zch ?_ | refine zci rfl ?_)
    refine run_loop (S := Nat × Array (List UInt8)) (fun s => [(0, .slice (some ⟨bb, 0, none⟩) N cap), (1, .int .i64 a), (2, .int .i64 b), (6, .int .i64 i), (7, .int .i64 s.1)])
      (fun s Γ => Γ = [DatS 9 bb N cap s.2] ∧ a ≤ s.1 ∧ s.1 ≤ i ∧ s.2.size = N ∧ insInner ltStr a s.1 s.2 = insInner ltStr a i d)
      (fun s => s.1) (i, d) ⟨rfl, rfl, rfl, rfl, rfl, trivial⟩ ⟨rfl, by omega, by omega, h3, rfl⟩ ?_
    rintro ⟨j, e⟩ Γ junk ⟨rfl, g1, g2, g3, g4⟩
    dsimp only at g1 g2 g3 g4 ⊢
    by_cases hj : a < j
    · obtain ⟨j, rfl⟩ : ∃ m, j = m + 1 := ⟨j - 1, by omega⟩
      repeat' (first | refine zck ?_ | refine run_drawR PP_mixed (by kernel_rfl) (by kernel_rfl) ?_ | (refine zap rfl ?_; first | refine reg_load_ds 0 rfl rfl (by omega) ?_ | refine zaj rfl ?_ | refine zan rfl ?_ | refine zah [] (less_spec w0 _ _) rfl rfl rfl sub_nil rfl ?_ | refine zbk rfl rfl (by omega) ?_ | refine zav rfl rfl (by omega) ?_ | refine zbu rfl ?_ | refine zas rfl rfl (by omega) ?_) | refine zch ?_)
      have e1 : ((j + 1 : Nat) : Int).toNat = j + 1 := by omega
      have e2 : (((j + 1 : Nat) : Int) - 1).toNat = j := by omega
      refine run_cond rfl (fun hE => ?_) (fun hE => ?_)
      · repeat' (first | refine zck ?_ | refine zcp (by kernel_rfl) ?_ | refine run_drawR PP_mixed (by kernel_rfl) (by kernel_rfl) ?_ | refine zcm ?_ | refine zcl ?_ | refine zcn ?_ | (refine zap rfl ?_; first | refine reg_load_ds 0 rfl rfl (by omega) ?_ | refine reg_store_ds 0 rfl rfl rfl (by omega) rfl ?_ | refine zan rfl ?_ | refine zan rfl ?_ | refine zav rfl rfl (by omega) ?_ | refine zas rfl rfl (by omega) ?_) | refine zch ?_)
        rw [e1, e2] at hE
        refine cut_end ⟨rfl, (j, swp e (j + 1) j), ⟨rfl, rfl, rfl, rfl, int_eq (by omega), trivial⟩, ⟨?_, by omega, by omega, ?_, ?_⟩, by omega⟩
        · rw [e1, e2]; rfl
        · rw [Go.Sort.size_swp]; exact g3
        · rw [← g4, ins_step hj (decide_eq_true hE)]
      · rw [e1, e2] at hE
        refine cut_exit rfl rfl ?_
        repeat' (first | refine zcp (by kernel_rfl) ?_ | refine zcn ?_ | (refine zap rfl ?_; first | refine zan rfl ?_ | refine zan rfl ?_ | refine zau rfl rfl (by omega) ?_) | refine zch ?_)
        refine cut_end ⟨rfl, (i + 1, e), ⟨rfl, rfl, rfl, int_eq (by omega), trivial⟩, ⟨rfl, by omega, by omega, g3, ?_⟩, by omega⟩
        rw [ins_stop (decide_eq_false hE)] at g4
        rw [← h4, insOuter_lt hi, ← g4]
    · repeat' (first | refine zck ?_ | refine run_drawR PP_mixed (by kernel_rfl) (by kernel_rfl) ?_ | (refine zap rfl ?_; first | refine zak rfl ?_ | refine zan rfl ?_ | refine zbl rfl rfl (by omega) ?_ | refine zbv rfl ?_) | refine zch ?_ | refine zcj rfl ?_)
      refine cut_exit rfl rfl ?_
      repeat' (first | refine zcp (by kernel_rfl) ?_ | refine zcn ?_ | (refine zap rfl ?_; first | refine zan rfl ?_ | refine zan rfl ?_ | refine zau rfl rfl (by omega) ?_) | refine zch ?_)
      refine cut_end ⟨rfl, (i + 1, e), ⟨rfl, rfl, rfl, int_eq (by omega), trivial⟩, ⟨rfl, by omega, by omega, g3, ?_⟩, by omega⟩
      rw [ins_end (by omega)] at g4
      rw [← h4, insOuter_lt hi, ← g4]
  · repeat' (first | refine zck ?_ | refine zcp (by kernel_rfl) ?_ | (refine zap rfl ?_; first | refine zan rfl ?_ | refine zbh rfl rfl (by omega) ?_) | refine zch ?_ | refine zcj rfl ?_)
    refine cut_exit rfl rfl ?_
    repeat' (first | refine zck ?_ | (refine zap rfl ?_; first | refine zaj rfl ?_ | refine zak rfl ?_ | refine zal rfl ?_ | refine zam rfl rfl (fun _ => ?_) (fun _ => ?_)) | refine zch ?_)
    refine end_tmp0 rfl ⟨rfl, ?_⟩
    rw [← h4, insOuter_ge (by omega)]
end Go.Proofs.YtagmagnkigjggaaGreatDoor

namespace Go.Proofs.YtagmagnkigjggaaGreatDoor
open Go.Vc
open Go.Sort (ltStr swp reverseLoop reverseRange siftDown heapBuild heapPop heapSort)

theorem revl_lt {i j : Nat} {d : Array (List UInt8)} (h : i < j) : reverseLoop i j d = reverseLoop (i + 1) (j - 1) (swp d i j) := by
  rw [reverseLoop, if_pos h]
theorem revl_ge {i j : Nat} {d : Array (List UInt8)} (h : j ≤ i) : reverseLoop i j d = d := by
  rw [reverseLoop, if_neg (by omega)]
theorem rev_spec (w0 : World) (bb N cap : Nat) (D : Array (List UInt8)) (a b : Nat) (hN : N ≤ 4611686018427387903) (hab : a < b) (hb : b ≤ N) (hD : D.size = N) :
    FnE PP w0 [] 297 [.slice (some ⟨bb, 0, none⟩) N cap, .int .i64 a, .int .i64 b] [DatS 9 bb N cap D] (.tuple #[]) [DatS 9 bb N cap (reverseRange D a b)] := by
  refine fn_of_run en297 fn297 rfl rfl rfl ?_
  repeat' (first | refine zck ?_ | refine zcp (by kernel_rfl) ?_ | refine zcl ?_ | (refine zap rfl ?_; first | refine zan rfl ?_ | refine zan rfl ?_ | refine zav rfl rfl (by omega) ?_) | refine zch ?_)
  refine run_loop (S := Nat × Nat × Array (List UInt8)) (fun s => [(0, .slice (some ⟨bb, 0, none⟩) N cap), (6, .int .i64 s.1), (7, .int .i64 s.2.1)])
    (fun s Γ => Γ = [DatS 9 bb N cap s.2.2] ∧ s.1 ≤ s.2.1 + 1 ∧ s.2.1 < b ∧ s.2.2.size = N ∧ reverseLoop s.1 s.2.1 s.2.2 = reverseRange D a b)
    (fun s => s.2.1 + 1 - s.1) (a, b - 1, D) ⟨rfl, rfl, int_eq (by dsimp only; omega), trivial⟩ ⟨rfl, by dsimp only; omega, by dsimp only; omega, hD, rfl⟩ ?_
  rintro ⟨i, j, d⟩ Γ junk ⟨rfl, h1, h2, h3, h4⟩
  dsimp only at h1 h2 h3 h4 ⊢
  by_cases hi : i < j
  · repeat' (first | refine zck ?_ | refine zcp (by kernel_rfl) ?_ | refine run_drawR PP_mixed (by kernel_rfl) (by kernel_rfl) ?_ | refine zcm ?_ | refine zcl ?_ | refine zcn ?_ | (refine zap rfl ?_; first | refine reg_load_ds 0 rfl rfl (by omega) ?_ | refine reg_store_ds 0 rfl rfl rfl (by omega) rfl ?_ | refine zan rfl ?_ | refine zan rfl ?_ | refine zbg rfl rfl (by omega) ?_ | refine zau rfl rfl (by omega) ?_ | refine zav rfl rfl (by omega) ?_ | refine zas rfl rfl (by omega) ?_) | refine zch ?_ | refine zci rfl ?_)
    have e1 : ((i : Nat) : Int).toNat = i := by omega
    have e2 : ((j : Nat) : Int).toNat = j := by omega
    refine cut_end ⟨rfl, (i + 1, j - 1, swp d i j), ⟨rfl, int_eq (by dsimp only; omega), int_eq (by dsimp only; omega), trivial⟩, ⟨?_, by dsimp only; omega, by dsimp only; omega, ?_, ?_⟩, by dsimp only; omega⟩
    · rw [e1, e2]; rfl
    · rw [Go.Sort.size_swp]; exact h3
    · rw [← h4, revl_lt hi]
  · repeat' (first | refine zck ?_ | refine zcp (by kernel_rfl) ?_ | (refine zap rfl ?_; first | refine zan rfl ?_ | refine zbh rfl rfl (by omega) ?_) | refine zch ?_ | refine zcj rfl ?_)
    refine cut_exit rfl rfl ?_
    repeat' (first | refine zck ?_ | (refine zap rfl ?_; first | refine zan rfl ?_) | refine zch ?_)
    refine end_tmp0 rfl ⟨rfl, ?_⟩
    rw [← h4, revl_ge (by omega)]

theorem sift_ge {hi first root : Nat} {d : Array (List UInt8)} (h : hi ≤ 2 * root + 1) : siftDown ltStr hi first root d = d := by
  rw [siftDown, dif_pos h]
def gch (hi first root : Nat) (d : Array (List UInt8)) : Nat := if 2 * root + 1 + 1 < hi && ltStr d[first + (2 * root + 1)]! d[first + (2 * root + 1) + 1]! then 2 * root + 2 else 2 * root + 1
theorem gch_lt {hi first root : Nat} {d : Array (List UInt8)} (h : 2 * root + 1 < hi) : gch hi first root d < hi ∧ root < gch hi first root d := by
  unfold gch
  split
  · rename_i hc; simp at hc; omega
  · omega
theorem sift_stop {hi first root : Nat} {d : Array (List UInt8)} (h : 2 * root + 1 < hi) (hl : ltStr d[first + root]! d[first + gch hi first root d]! = false) : siftDown ltStr hi first root d = d := by
  rw [siftDown, dif_neg (by omega)]
  unfold gch at hl
  split
  · rename_i hc; rw [if_pos hc] at hl; simp [hl]
  · rename_i hc; rw [if_neg hc] at hl; simp [hl]
theorem sift_go {hi first root : Nat} {d : Array (List UInt8)} (h : 2 * root + 1 < hi) (hl : ltStr d[first + root]! d[first + gch hi first root d]! = true) :
    siftDown ltStr hi first root d = siftDown ltStr hi first (gch hi first root d) (swp d (first + root) (first + gch hi first root d)) := by
  rw [siftDown, dif_neg (by omega)]
  unfold gch at hl ⊢
  split
  · rename_i hc; rw [if_pos hc] at hl; simp only [hl, Bool.not_true, Bool.false_eq_true, if_false]; rw [dif_pos (by simp at hc; omega)]
  · rename_i hc; rw [if_neg hc] at hl; simp only [hl, Bool.not_true, Bool.false_eq_true, if_false]
set_option maxHeartbeats 2000000 in
theorem sift_spec (w0 : World) (bb N cap : Nat) (D : Array (List UInt8)) (lo hi first : Nat) (hN : N ≤ 1152921504606846975) (hf : first + hi ≤ N) (hlo : lo ≤ hi) (hD : D.size = N) :
    FnE PP w0 [] 327 [.slice (some ⟨bb, 0, none⟩) N cap, .int .i64 lo, .int .i64 hi, .int .i64 first] [DatS 9 bb N cap D] (.tuple #[]) [DatS 9 bb N cap (siftDown ltStr hi first lo D)] := by
  refine fn_of_run en327 fn327 rfl rfl rfl ?_
  repeat' (first | refine zck ?_ | refine zcp (by kernel_rfl) ?_ | refine zcl ?_ | (refine zap rfl ?_; first | refine zan rfl ?_ | refine zan rfl ?_) | refine zch ?_)
  refine run_loop (S := Nat × Array (List UInt8)) (fun s => [(0, .slice (some ⟨bb, 0, none⟩) N cap), (2, .int .i64 hi), (3, .int .i64 first), (8, .int .i64 s.1)])
    (fun s Γ => Γ = [DatS 9 bb N cap s.2] ∧ s.1 ≤ hi ∧ s.2.size = N ∧ siftDown ltStr hi first s.1 s.2 = siftDown ltStr hi first lo D)
    (fun s => hi - s.1) (lo, D) ⟨rfl, rfl, rfl, rfl, trivial⟩ ⟨rfl, by omega, hD, rfl⟩ ?_
  rintro ⟨r, d⟩ Γ junk ⟨rfl, h1, h3, h4⟩
  dsimp only at h1 h3 h4 ⊢
  by_cases hi2 : 2 * r + 1 < hi
  · have e3 : ((first : Int) + (2 * (r : Int) + 1)).toNat = first + (2 * r + 1) := by omega
    have e4 : ((first : Int) + (2 * (r : Int) + 1) + 1).toNat = first + (2 * r + 1) + 1 := by omega
    by_cases hc : 2 * r + 2 < hi
    · repeat' (first | refine zck ?_ | refine zcp (by kernel_rfl) ?_ | refine run_drawR PP_mixed (by kernel_rfl) (by kernel_rfl) ?_ | refine zcm ?_ | refine zcl ?_ | (refine zap rfl ?_; first | refine reg_load_ds 0 rfl rfl (by omega) ?_ | refine zaj rfl ?_ | refine zan rfl ?_ | refine zan rfl ?_ | refine zah [] (less_spec w0 _ _) rfl rfl rfl sub_nil rfl ?_ | refine zbg rfl rfl (by omega) ?_ | refine zbn rfl rfl (by omega) ?_ | refine zau rfl rfl (by omega) ?_ | refine zaw rfl rfl (by omega) ?_ | refine zbu rfl ?_ | refine zas rfl rfl (by omega) ?_) | refine zch ?_ | refine zcj rfl ?_)
      refine run_cond rfl (fun hE => ?_) (fun hE => ?_)
      · have hg : gch hi first r d = 2 * r + 2 := by
          unfold gch; rw [if_pos]
          rw [e3, e4] at hE
          simp only [Bool.and_eq_true, decide_eq_true_eq]; exact ⟨by omega, decide_eq_true hE⟩
        have e1 : ((first : Int) + (r : Int)).toNat = first + r := by omega
        have e2 : ((first : Int) + (2 * (r : Int) + 1 + 1)).toNat = first + (2 * r + 2) := by omega
        repeat' (first | refine zck ?_ | refine zcp (by kernel_rfl) ?_ | refine run_drawR PP_mixed (by kernel_rfl) (by kernel_rfl) ?_ | (refine zap rfl ?_; first | refine reg_load_ds 0 rfl rfl (by omega) ?_ | refine zan rfl ?_ | refine zan rfl ?_ | refine zah [] (less_spec w0 _ _) rfl rfl rfl sub_nil rfl ?_ | refine zau rfl rfl (by omega) ?_ | refine zby rfl ?_ | refine zas rfl rfl (by omega) ?_) | refine zch ?_)
        refine run_cond rfl (fun hE2 => ?_) (fun hE2 => ?_)
        · rw [e1, e2] at hE2
          refine qret0 (fun _ _ h => h) rfl ⟨rfl, (show [_] = [_] from ?_)⟩
          rw [← h4, sift_stop hi2 (by rw [hg]; exact decide_eq_false (by simpa using hE2))]
        · rw [e1, e2] at hE2
          repeat' (first | refine zck ?_ | refine zcp (by kernel_rfl) ?_ | refine run_drawR PP_mixed (by kernel_rfl) (by kernel_rfl) ?_ | refine zcm ?_ | refine zcn ?_ | (refine zap rfl ?_; first | refine reg_load_ds 0 rfl rfl (by omega) ?_ | refine reg_store_ds 0 rfl rfl rfl (by omega) rfl ?_ | refine zan rfl ?_ | refine zan rfl ?_ | refine zau rfl rfl (by omega) ?_ | refine zas rfl rfl (by omega) ?_) | refine zch ?_)
          refine cut_end ⟨rfl, (2 * r + 2, swp d (first + r) (first + (2 * r + 2))), ⟨rfl, rfl, rfl, int_eq (by dsimp only; omega), trivial⟩, ⟨?_, by dsimp only; omega, ?_, ?_⟩, by dsimp only; omega⟩
          · rw [e1, e2]; rfl
          · rw [Go.Sort.size_swp]; exact h3
          · rw [← h4, sift_go hi2 (by rw [hg]; exact decide_eq_true (by simpa using hE2)), hg]
      · have hg : gch hi first r d = 2 * r + 1 := by
          unfold gch; rw [if_neg]
          rw [e3, e4] at hE
          simp only [Bool.and_eq_true, decide_eq_true_eq, not_and]; intro _ h; exact hE (of_decide_eq_true h)
        have e1 : ((first : Int) + (r : Int)).toNat = first + r := by omega
        have e2 : ((first : Int) + (2 * (r : Int) + 1)).toNat = first + (2 * r + 1) := by omega
        repeat' (first | refine zck ?_ | refine run_drawR PP_mixed (by kernel_rfl) (by kernel_rfl) ?_ | refine zcm ?_ | (refine zap rfl ?_; first | refine reg_load_ds 0 rfl rfl (by omega) ?_ | refine zan rfl ?_ | refine zah [] (less_spec w0 _ _) rfl rfl rfl sub_nil rfl ?_ | refine zau rfl rfl (by omega) ?_ | refine zby rfl ?_ | refine zas rfl rfl (by omega) ?_) | refine zch ?_)
        refine run_cond rfl (fun hE2 => ?_) (fun hE2 => ?_)
        · rw [e1, e2] at hE2
          refine qret0 (fun _ _ h => h) rfl ⟨rfl, (show [_] = [_] from ?_)⟩
          rw [← h4, sift_stop hi2 (by rw [hg]; exact decide_eq_false (by simpa using hE2))]
        · rw [e1, e2] at hE2
          repeat' (first | refine zck ?_ | refine zcp (by kernel_rfl) ?_ | refine run_drawR PP_mixed (by kernel_rfl) (by kernel_rfl) ?_ | refine zcm ?_ | refine zcn ?_ | (refine zap rfl ?_; first | refine reg_load_ds 0 rfl rfl (by omega) ?_ | refine reg_store_ds 0 rfl rfl rfl (by omega) rfl ?_ | refine zan rfl ?_ | refine zan rfl ?_ | refine zau rfl rfl (by omega) ?_ | refine zas rfl rfl (by omega) ?_) | refine zch ?_)
          refine cut_end ⟨rfl, (2 * r + 1, swp d (first + r) (first + (2 * r + 1))), ⟨rfl, rfl, rfl, int_eq (by dsimp only; omega), trivial⟩, ⟨?_, by dsimp only; omega, ?_, ?_⟩, by dsimp only; omega⟩
          · rw [e1, e2]; rfl
          · rw [Go.Sort.size_swp]; exact h3
          · rw [← h4, sift_go hi2 (by rw [hg]; exact decide_eq_true (by simpa using hE2)), hg]
    · have hg : gch hi first r d = 2 * r + 1 := by
        unfold gch; rw [if_neg]
        simp only [Bool.and_eq_true, decide_eq_true_eq, not_and]; intro h; omega
      have e1 : ((first : Int) + (r : Int)).toNat = first + r := by omega
      have e2 : ((first : Int) + (2 * (r : Int) + 1)).toNat = first + (2 * r + 1) := by omega
      repeat' (first | refine zck ?_ | refine zcp (by kernel_rfl) ?_ | refine run_drawR PP_mixed (by kernel_rfl) (by kernel_rfl) ?_ | refine zcm ?_ | refine zcl ?_ | (refine zap rfl ?_; first | refine reg_load_ds 0 rfl rfl (by omega) ?_ | refine zak rfl ?_ | refine zan rfl ?_ | refine zan rfl ?_ | refine zah [] (less_spec w0 _ _) rfl rfl rfl sub_nil rfl ?_ | refine zbh rfl rfl (by omega) ?_ | refine zbn rfl rfl (by omega) ?_ | refine zau rfl rfl (by omega) ?_ | refine zaw rfl rfl (by omega) ?_ | refine zby rfl ?_ | refine zbv rfl ?_ | refine zas rfl rfl (by omega) ?_) | refine zch ?_ | refine zcj rfl ?_)
      refine run_cond rfl (fun hE2 => ?_) (fun hE2 => ?_)
      · rw [e1, e2] at hE2
        refine qret0 (fun _ _ h => h) rfl ⟨rfl, (show [_] = [_] from ?_)⟩
        rw [← h4, sift_stop hi2 (by rw [hg]; exact decide_eq_false (by simpa using hE2))]
      · rw [e1, e2] at hE2
        repeat' (first | refine zck ?_ | refine zcp (by kernel_rfl) ?_ | refine run_drawR PP_mixed (by kernel_rfl) (by kernel_rfl) ?_ | refine zcm ?_ | refine zcn ?_ | (refine zap rfl ?_; first | refine reg_load_ds 0 rfl rfl (by omega) ?_ | refine reg_store_ds 0 rfl rfl rfl (by omega) rfl ?_ | refine zan rfl ?_ | refine zan rfl ?_ | refine zau rfl rfl (by omega) ?_ | refine zas rfl rfl (by omega) ?_) | refine zch ?_)
        refine cut_end ⟨rfl, (2 * r + 1, swp d (first + r) (first + (2 * r + 1))), ⟨rfl, rfl, rfl, int_eq (by dsimp only; omega), trivial⟩, ⟨?_, by dsimp only; omega, ?_, ?_⟩, by dsimp only; omega⟩
        · rw [e1, e2]; rfl
        · rw [Go.Sort.size_swp]; exact h3
        · rw [← h4, sift_go hi2 (by rw [hg]; exact decide_eq_true (by simpa using hE2)), hg]
  · repeat' (first | refine zck ?_ | refine zcp (by kernel_rfl) ?_ | refine zcl ?_ | (refine zap rfl ?_; first | refine zan rfl ?_ | refine zan rfl ?_ | refine zbm rfl rfl (by omega) ?_ | refine zau rfl rfl (by omega) ?_ | refine zaw rfl rfl (by omega) ?_) | refine zch ?_ | refine zci rfl ?_)
    refine cut_exit rfl rfl ?_
    repeat' (first | refine zck ?_ | (refine zap rfl ?_; first | refine zaj rfl ?_ | refine zak rfl ?_ | refine zal rfl ?_ | refine zam rfl rfl (fun _ => ?_) (fun _ => ?_)) | refine zch ?_)
    refine end_tmp0 rfl ⟨rfl, ?_⟩
    rw [← h4, sift_ge (by omega)]
theorem sift_specZ (w0 : World) (bb N cap : Nat) (D : Array (List UInt8)) (zl zh zf : Int) (lo hi first : Nat) (hN : N ≤ 1152921504606846975) (hf : first + hi ≤ N) (hlo : lo ≤ hi) (hD : D.size = N) (e1 : zl = lo) (e2 : zh = hi) (e3 : zf = first) :
    FnE PP w0 [] 327 [.slice (some ⟨bb, 0, none⟩) N cap, .int .i64 zl, .int .i64 zh, .int .i64 zf] [DatS 9 bb N cap D] (.tuple #[]) [DatS 9 bb N cap (siftDown ltStr hi first lo D)] := by
  subst e1; subst e2; subst e3; exact sift_spec w0 bb N cap D lo hi first hN hf hlo hD
end Go.Proofs.YtagmagnkigjggaaGreatDoor

namespace Go.Proofs.YtagmagnkigjggaaGreatDoor
open Go.Vc
open Go.Sort (ltStr swp siftDown heapBuild heapPop heapSort)
theorem size_sift (hi first : Nat) : ∀ (m root : Nat) (d : Array (List UInt8)), hi - root ≤ m → (siftDown ltStr hi first root d).size = d.size := by
  intro m
  induction m with
  | zero => intro root d h; rw [sift_ge (by omega)]
  | succ m ih =>
    intro root d h
    by_cases h1 : 2 * root + 1 < hi
    · have h2 := gch_lt (first := first) (d := d) h1
      cases hl : ltStr d[first + root]! d[first + gch hi first root d]! with
      | false => rw [sift_stop h1 hl]
      | true => rw [sift_go h1 hl, ih _ _ (by omega), Go.Sort.size_swp]
    · rw [sift_ge (by omega)]
theorem heap_spec (w0 : World) (bb N cap : Nat) (D : Array (List UInt8)) (a b : Nat) (hN : N ≤ 1152921504606846975) (hab : a < b) (hb : b ≤ N) (hD : D.size = N) :
    FnE PP w0 [] 294 [.slice (some ⟨bb, 0, none⟩) N cap, .int .i64 a, .int .i64 b] [DatS 9 bb N cap D] (.tuple #[]) [DatS 9 bb N cap (heapSort ltStr D a b)] := by
  refine fn_of_run en294 fn294 rfl rfl rfl ?_
  repeat' (first | refine zck ?_ | refine zcp (by kernel_rfl) ?_ | refine zcl ?_ | (refine zap rfl ?_; first | refine zan rfl ?_ | refine zan rfl ?_ | refine zav rfl rfl (by omega) ?_ | refine zax rfl rfl (by omega) ?_) | refine zch ?_)
  refine run_loop (S := Nat × Array (List UInt8)) (fun s => [(0, .slice (some ⟨bb, 0, none⟩) N cap), (6, .int .i64 a), (7, .int .i64 0), (8, .int .i64 (b - a)), (9, .int .i64 ((s.1 : Int) - 1))])
    (fun s Γ => Γ = [DatS 9 bb N cap s.2] ∧ s.1 ≤ b - a ∧ s.2.size = N ∧ heapBuild ltStr (b - a) a s.1 s.2 = heapBuild ltStr (b - a) a ((b - a - 1) / 2 + 1) D)
    (fun s => s.1) ((b - a - 1) / 2 + 1, D) ⟨rfl, rfl, rfl, rfl, int_eq (by dsimp only; omega), trivial⟩ ⟨rfl, by dsimp only; omega, hD, rfl⟩ ?_
  rintro ⟨i, d⟩ Γ junk ⟨rfl, h1, h3, h4⟩
  dsimp only at h1 h3 h4 ⊢
  by_cases hi : 0 < i
  · obtain ⟨i, rfl⟩ : ∃ m, i = m + 1 := ⟨i - 1, by omega⟩
    repeat' (first | refine zck ?_ | refine zcp (by kernel_rfl) ?_ | refine zcm ?_ | refine zcl ?_ | refine zcn ?_ | (refine zap rfl ?_; first | refine zan rfl ?_ | refine zan rfl ?_ | refine zah [0] (sift_specZ w0 bb N cap _ _ _ _ i (b - a) a hN (by omega) (by omega) h3 (by omega) (by omega) rfl) rfl rfl rfl sub_nil rfl ?_ | refine zbm rfl rfl (by omega) ?_ | refine zav rfl rfl (by omega) ?_) | refine zch ?_ | refine zci rfl ?_)
    refine cut_end ⟨rfl, (i, siftDown ltStr (b - a) a i d), ⟨rfl, rfl, rfl, rfl, int_eq (by dsimp only; omega), trivial⟩, ⟨rfl, by dsimp only; omega, ?_, ?_⟩, by dsimp only; omega⟩
    · rw [size_sift _ _ _ _ _ (Nat.le_refl _)]; exact h3
    · rw [← h4]; rfl
  · repeat' (first | refine zck ?_ | refine zcp (by kernel_rfl) ?_ | (refine zap rfl ?_; first | refine zan rfl ?_ | refine zbn rfl rfl (by omega) ?_) | refine zch ?_ | refine zcj rfl ?_)
    refine cut_exit rfl rfl ?_
    have hi0 : i = 0 := by omega
    subst hi0
    repeat' (first | refine zck ?_ | refine zcp (by kernel_rfl) ?_ | refine zcl ?_ | (refine zap rfl ?_; first | refine zan rfl ?_ | refine zan rfl ?_ | refine zav rfl rfl (by omega) ?_) | refine zch ?_)
    refine run_loop (S := Nat × Array (List UInt8)) (fun s => [(0, .slice (some ⟨bb, 0, none⟩) N cap), (6, .int .i64 a), (7, .int .i64 0), (8, .int .i64 (b - a)), (10, .int .i64 ((s.1 : Int) - 1))])
      (fun s Γ => Γ = [DatS 9 bb N cap s.2] ∧ s.1 ≤ b - a ∧ s.2.size = N ∧ heapPop ltStr a s.1 s.2 = heapSort ltStr D a b)
      (fun s => s.1) (b - a, d) ⟨rfl, rfl, rfl, rfl, int_eq (by dsimp only; omega), trivial⟩ ⟨rfl, by dsimp only; omega, h3, by unfold heapSort; rw [← h4]; rfl⟩ ?_
    rintro ⟨i, d⟩ Γ junk ⟨rfl, g1, g3, g4⟩
    dsimp only at g1 g3 g4 ⊢
    by_cases hi : 0 < i
    · obtain ⟨i, rfl⟩ : ∃ m, i = m + 1 := ⟨i - 1, by omega⟩
      have e1 : ((a : Nat) : Int).toNat = a := by omega
      have e2 : ((a : Int) + (((i + 1 : Nat) : Int) - 1)).toNat = a + i := by omega
      have hs : (swp d (a : Int).toNat ((a : Int) + (((i + 1 : Nat) : Int) - 1)).toNat).size = N := by rw [Go.Sort.size_swp]; exact g3
      repeat' (first | refine zck ?_ | refine zcp (by kernel_rfl) ?_ | refine run_drawR PP_mixed (by kernel_rfl) (by kernel_rfl) ?_ | refine zcm ?_ | refine zcl ?_ | refine zcn ?_ | (refine zap rfl ?_; first | refine reg_load_ds 0 rfl rfl (by omega) ?_ | refine reg_store_ds 0 rfl rfl rfl (by omega) rfl ?_ | refine zan rfl ?_ | refine zan rfl ?_ | refine zah [0] (sift_specZ w0 bb N cap _ _ _ _ 0 i a hN (by omega) (by omega) hs (by omega) (by omega) rfl) rfl rfl rfl sub_nil rfl ?_ | refine zbm rfl rfl (by omega) ?_ | refine zau rfl rfl (by omega) ?_ | refine zav rfl rfl (by omega) ?_ | refine zas rfl rfl (by omega) ?_) | refine zch ?_ | refine zci rfl ?_)
      refine cut_end ⟨rfl, (i, siftDown ltStr i a 0 (swp d a (a + i))), ⟨rfl, rfl, rfl, rfl, int_eq (by dsimp only; omega), trivial⟩, ⟨?_, by dsimp only; omega, ?_, ?_⟩, by dsimp only; omega⟩
      · rw [e1, e2]; rfl
      · rw [size_sift _ _ _ _ _ (Nat.le_refl _), Go.Sort.size_swp]; exact g3
      · rw [← g4]; rfl
    · repeat' (first | refine zck ?_ | refine zcp (by kernel_rfl) ?_ | (refine zap rfl ?_; first | refine zan rfl ?_ | refine zbn rfl rfl (by omega) ?_) | refine zch ?_ | refine zcj rfl ?_)
      refine cut_exit rfl rfl ?_
      have hi0 : i = 0 := by omega
      subst hi0
      repeat' (first | refine zck ?_ | (refine zap rfl ?_; first | refine zan rfl ?_) | refine zch ?_)
      refine end_tmp0 rfl ⟨rfl, (show [_] = [_] from ?_)⟩
      rw [← g4]; rfl
end Go.Proofs.YtagmagnkigjggaaGreatDoor

namespace Go.Proofs.YtagmagnkigjggaaGreatDoor
open Go.Vc
open Go.Sort (ltStr swp scanUp scanDown partLoop partition partEqLoop partitionEqual)
theorem up_go {p : List UInt8 → Bool} {d : Array (List UInt8)} {j i : Nat} (h : i ≤ j) (hp : p d[i]! = true) : scanUp p d j i = scanUp p d j (i + 1) := by
  rw [scanUp, if_pos (by simp only [hp, Bool.and_true, decide_eq_true_eq]; exact h)]
theorem up_stop {p : List UInt8 → Bool} {d : Array (List UInt8)} {j i : Nat} (h : i ≤ j → p d[i]! = false) : scanUp p d j i = i := by
  rw [scanUp, if_neg]
  simp only [Bool.and_eq_true, decide_eq_true_eq, not_and, Bool.not_eq_true]; exact h
theorem down_go {p : List UInt8 → Bool} {d : Array (List UInt8)} {i j : Nat} (h : i ≤ j + 1) (hp : p d[j + 1]! = true) : scanDown p d i (j + 1) = scanDown p d i j := by
  rw [scanDown, if_pos (by simp only [hp, Bool.and_true, decide_eq_true_eq]; exact h)]
theorem down_stop {p : List UInt8 → Bool} {d : Array (List UInt8)} {i j : Nat} (h : 0 < j → i ≤ j → p d[j]! = false) : scanDown p d i j = j := by
  cases j with
  | zero => rfl
  | succ j =>
    rw [scanDown, if_neg]
    simp only [Bool.and_eq_true, decide_eq_true_eq, not_and, Bool.not_eq_true]; exact h (Nat.succ_pos _)
theorem part_gt {D d : Array (List UInt8)} {a b pivot i j : Nat} (hd : d = swp D a pivot) (hi : i = scanUp (fun x => ltStr x d[a]!) d (b - 1) (a + 1)) (hj : j = scanDown (fun x => !ltStr x d[a]!) d i (b - 1)) (h : i > j) : partition ltStr D a b pivot = (j, true, swp d j a) := by
  unfold partition
  simp only [← hd, ← hi, ← hj]
  rw [if_pos h]
theorem part_le {D d : Array (List UInt8)} {a b pivot i j : Nat} (hd : d = swp D a pivot) (hi : i = scanUp (fun x => ltStr x d[a]!) d (b - 1) (a + 1)) (hj : j = scanDown (fun x => !ltStr x d[a]!) d i (b - 1)) (h : ¬ i > j) :
    partition ltStr D a b pivot = ((partLoop ltStr a (i + 1) (j - 1) (swp d i j)).1, false, swp (partLoop ltStr a (i + 1) (j - 1) (swp d i j)).2 (partLoop ltStr a (i + 1) (j - 1) (swp d i j)).1 a) := by
  unfold partition
  simp only [← hd, ← hi, ← hj]
  rw [if_neg h]
set_option maxHeartbeats 4000000
theorem part_spec (w0 : World) (bb N cap : Nat) (D : Array (List UInt8)) (a b pivot : Nat) (hN : N ≤ 1152921504606846975) (hap : a ≤ pivot) (hpb : pivot < b) (hb : b ≤ N) (hD : D.size = N) :
    FnE PP w0 [] 301 [.slice (some ⟨bb, 0, none⟩) N cap, .int .i64 a, .int .i64 b, .int .i64 pivot] [DatS 9 bb N cap D]
      (.tuple #[.int .i64 ((partition ltStr D a b pivot).1 : Nat), .bool (partition ltStr D a b pivot).2.1]) [DatS 9 bb N cap (partition ltStr D a b pivot).2.2] := by
  refine fn_of_run en301 fn301 rfl rfl rfl ?_
  repeat (first | refine zck ?_ | refine zcl ?_ | refine zcm ?_ | refine zcn ?_)
  first | refine zcp (by kernel_rfl) ?_ | refine run_drawR PP_mixed (by kernel_rfl) (by kernel_rfl) ?_
  repeat' (refine zap rfl ?_; first | refine zan rfl ?_)
  all_goals refine zch ?_
  all_goals repeat (refine zck ?_)
  repeat (first | refine zck ?_ | refine zcl ?_ | refine zcm ?_ | refine zcn ?_)
  first | refine zcp (by kernel_rfl) ?_ | refine run_drawR PP_mixed (by kernel_rfl) (by kernel_rfl) ?_
  repeat' (refine zap rfl ?_; first | refine reg_load_ds 0 rfl rfl (by omega) ?_ | refine reg_store_ds 0 rfl rfl rfl (by omega) rfl ?_ | refine zan rfl ?_ | refine zas rfl rfl (by omega) ?_)
  all_goals refine zch ?_
  all_goals repeat (refine zck ?_)
  repeat (first | refine zck ?_ | refine zcl ?_ | refine zcm ?_ | refine zcn ?_)
  first | refine zcp (by kernel_rfl) ?_ | refine run_drawR PP_mixed (by kernel_rfl) (by kernel_rfl) ?_
  repeat' (refine zap rfl ?_; first | refine zan rfl ?_ | refine zan rfl ?_ | refine zau rfl rfl (by omega) ?_ | refine zav rfl rfl (by omega) ?_)
  all_goals refine zch ?_
  all_goals repeat (refine zck ?_)
  obtain ⟨d, hd⟩ : ∃ d, d = swp D a pivot := ⟨_, rfl⟩
  have hds : d.size = N := by rw [hd, Go.Sort.size_swp]; exact hD
  obtain ⟨i, hi⟩ : ∃ i, i = scanUp (fun x => ltStr x d[a]!) d (b - 1) (a + 1) := ⟨_, rfl⟩
  obtain ⟨j, hj⟩ : ∃ j, j = scanDown (fun x => !ltStr x d[a]!) d i (b - 1) := ⟨_, rfl⟩
  have hi1 : a + 1 ≤ i := by rw [hi]; exact Go.Sort.scanUp_ge _ _ _ _
  have hi2 : i ≤ b - 1 + 1 := by rw [hi]; exact (Go.Sort.scanUp_spec _ d (b - 1) _ (a + 1) rfl).2.1 (by omega)
  have hj1 : j ≤ b - 1 := by rw [hj]; exact Go.Sort.scanDown_le _ _ _ _
  have hj2 : i ≤ j + 1 := by rw [hj]; exact (Go.Sort.scanDown_spec _ d i (b - 1)).2.1 hi2
  have hij : ¬ j < i → i < j := fun h => by
    rcases Nat.lt_or_ge i j with h1 | h1
    · exact h1
    · have e : j = i := by omega
      have p1 := (Go.Sort.scanUp_spec (fun x => ltStr x d[a]!) d (b - 1) _ (a + 1) rfl).2.2.2
      have p2 := (Go.Sort.scanDown_spec (fun x => !ltStr x d[a]!) d i (b - 1)).2.2.2
      rw [← hi] at p1; rw [← hj] at p2
      have p3 := p1 (by omega); have p4 := p2 (by omega) (by omega)
      rw [e] at p4; (try dsimp only at p3 p4); simp [p3] at p4
  refine run_bind_eq (l' := [(0, .slice (some ⟨bb, 0, none⟩) N cap), (1, .int .i64 a), (10, .int .i64 ((i : Nat) : Int)), (11, .int .i64 ((b - 1 : Nat) : Int))]) (Γ' := [DatS 9 bb N cap d]) ?_ (fun junk => ?_)
  · repeat' (first | refine zcl ?_ | (refine zap rfl ?_; first | refine zaj rfl ?_ | refine zak rfl ?_ | refine zal rfl ?_ | refine zam rfl rfl (fun _ => ?_) (fun _ => ?_)) | refine zch ?_)
    refine run_loop (S := Nat) (fun u => [(0, .slice (some ⟨bb, 0, none⟩) N cap), (1, .int .i64 a), (10, .int .i64 ((u : Nat) : Int)), (11, .int .i64 ((b - 1 : Nat) : Int))]) (fun u Γ => Γ = [DatS 9 bb N cap d] ∧ a + 1 ≤ u ∧ u ≤ b - 1 + 1 ∧ scanUp (fun x => ltStr x d[a]!) d (b - 1) u = i) (fun u => b - 1 + 1 - u) (a + 1) ⟨rfl, rfl, int_eq (by first | rfl | omega | (dsimp only; omega)), int_eq (by first | rfl | omega | (dsimp only; omega)), trivial⟩ ⟨?_, by omega, by omega, hi.symm⟩ ?_
    · rw [hd]; rfl
    rintro u Γ junk ⟨rfl, h1, h2, h4⟩
    try dsimp only at h1 h2 h4 ⊢
    by_cases hc : u ≤ b - 1
    · repeat' (first | refine zck ?_ | refine run_drawR PP_mixed (by kernel_rfl) (by kernel_rfl) ?_ | (refine zap rfl ?_; first | refine reg_load_ds 0 rfl rfl (by omega) ?_ | refine zaj rfl ?_ | refine zan rfl ?_ | refine zah [] (less_spec w0 _ _) rfl rfl rfl sub_nil rfl ?_ | refine zbi rfl rfl (by omega) ?_ | refine zbu rfl ?_ | refine zas rfl rfl (by omega) ?_) | refine zch ?_)
      refine run_cond rfl (fun hE => ?_) (fun hE => ?_)
      · repeat' (first | refine zcp (by kernel_rfl) ?_ | refine zcm ?_ | refine zcl ?_ | refine zcn ?_ | (refine zap rfl ?_; first | refine zan rfl ?_ | refine zan rfl ?_ | refine zau rfl rfl (by omega) ?_) | refine zch ?_)
        refine cut_end ⟨rfl, u + 1, ⟨rfl, rfl, int_eq (by omega), rfl, trivial⟩, ⟨rfl, by omega, by omega, ?_⟩, by omega⟩
        rw [← h4, up_go hc (by simpa [ltStr] using hE)]
      · refine cut_exit rfl rfl ?_
        refine cut_end ⟨rfl, ⟨rfl, rfl, int_eq (congrArg Int.ofNat (by rw [← h4, up_stop (fun _ => by simpa [ltStr] using hE)])), rfl, trivial⟩, rfl⟩
    · repeat' (first | refine zck ?_ | refine run_drawR PP_mixed (by kernel_rfl) (by kernel_rfl) ?_ | (refine zap rfl ?_; first | refine zak rfl ?_ | refine zan rfl ?_ | refine zbj rfl rfl (by omega) ?_ | refine zbv rfl ?_) | refine zch ?_ | refine zcj rfl ?_)
      refine cut_exit rfl rfl ?_
      refine cut_end ⟨rfl, ⟨rfl, rfl, int_eq (congrArg Int.ofNat (by rw [← h4, up_stop (fun h => absurd h hc)])), rfl, trivial⟩, rfl⟩
  repeat refine zck ?_
  refine run_bind_eq (l' := [(0, .slice (some ⟨bb, 0, none⟩) N cap), (1, .int .i64 a), (10, .int .i64 ((i : Nat) : Int)), (11, .int .i64 ((j : Nat) : Int))]) (Γ' := [DatS 9 bb N cap d]) ?_ (fun junk => ?_)
  · repeat' (first | refine zcl ?_ | (refine zap rfl ?_; first | refine zaj rfl ?_ | refine zak rfl ?_ | refine zal rfl ?_ | refine zam rfl rfl (fun _ => ?_) (fun _ => ?_)) | refine zch ?_)
    refine run_loop (S := Nat) (fun u => [(0, .slice (some ⟨bb, 0, none⟩) N cap), (1, .int .i64 a), (10, .int .i64 ((i : Nat) : Int)), (11, .int .i64 ((u : Nat) : Int))]) (fun u Γ => Γ = [DatS 9 bb N cap d] ∧ u ≤ b - 1 ∧ i ≤ u + 1 ∧ scanDown (fun x => !ltStr x d[a]!) d (i) u = j) (fun u => u) (b - 1) ⟨rfl, rfl, int_eq (by first | rfl | omega | (dsimp only; omega)), int_eq (by first | rfl | omega | (dsimp only; omega)), trivial⟩ ⟨?_, by omega, by omega, hj.symm⟩ ?_
    · rfl
    rintro u Γ junk ⟨rfl, h1, h2, h4⟩
    try dsimp only at h1 h2 h4 ⊢
    by_cases hc : i ≤ u
    · obtain ⟨u, rfl⟩ : ∃ m, u = m + 1 := ⟨u - 1, by omega⟩
      repeat' (first | refine zck ?_ | refine run_drawR PP_mixed (by kernel_rfl) (by kernel_rfl) ?_ | (refine zap rfl ?_; first | refine reg_load_ds 0 rfl rfl (by omega) ?_ | refine zaj rfl ?_ | refine zan rfl ?_ | refine zah [] (less_spec w0 _ _) rfl rfl rfl sub_nil rfl ?_ | refine zbi rfl rfl (by omega) ?_ | refine zby rfl ?_ | refine zbu rfl ?_ | refine zas rfl rfl (by omega) ?_) | refine zch ?_)
      refine run_cond rfl (fun hE => ?_) (fun hE => ?_)
      · repeat' (first | refine zcp (by kernel_rfl) ?_ | refine zcm ?_ | refine zcl ?_ | refine zcn ?_ | (refine zap rfl ?_; first | refine zan rfl ?_ | refine zan rfl ?_ | refine zav rfl rfl (by omega) ?_) | refine zch ?_)
        refine cut_end ⟨rfl, u, ⟨rfl, rfl, rfl, int_eq (by omega), trivial⟩, ⟨rfl, by omega, by omega, ?_⟩, by omega⟩
        rw [← h4, down_go hc (by simpa [ltStr] using hE)]
      · refine cut_exit rfl rfl ?_
        refine cut_end ⟨rfl, ⟨rfl, rfl, rfl, int_eq (congrArg Int.ofNat (by rw [← h4, down_stop (fun _ _ => by simpa [ltStr] using hE)])), trivial⟩, rfl⟩
    · repeat' (first | refine zck ?_ | refine run_drawR PP_mixed (by kernel_rfl) (by kernel_rfl) ?_ | (refine zap rfl ?_; first | refine zak rfl ?_ | refine zan rfl ?_ | refine zbj rfl rfl (by omega) ?_ | refine zbv rfl ?_) | refine zch ?_ | refine zcj rfl ?_)
      refine cut_exit rfl rfl ?_
      refine cut_end ⟨rfl, ⟨rfl, rfl, rfl, int_eq (congrArg Int.ofNat (by rw [← h4, down_stop (fun _ h => absurd h hc)])), trivial⟩, rfl⟩
  by_cases hgt : j < i
  · repeat' (first | refine zck ?_ | refine zcp (by kernel_rfl) ?_ | refine run_drawR PP_mixed (by kernel_rfl) (by kernel_rfl) ?_ | (refine zap rfl ?_; first | refine reg_load_ds 0 rfl rfl (by omega) ?_ | refine reg_store_ds 0 rfl rfl rfl (by omega) rfl ?_ | refine zan rfl ?_ | refine zan rfl ?_ | refine zbk rfl rfl (by omega) ?_ | refine zas rfl rfl (by omega) ?_) | refine zch ?_ | refine zci rfl ?_)
    rw [part_gt hd hi hj hgt]
    exact ret_tmp2 rfl ⟨rfl, rfl⟩
  · rw [part_le hd hi hj hgt]
    replace hij := hij hgt
    obtain ⟨e, he⟩ : ∃ e, e = swp d i j := ⟨_, rfl⟩
    have hes : e.size = N := by rw [he, Go.Sort.size_swp]; exact hds
    repeat' (first | refine zck ?_ | refine zcp (by kernel_rfl) ?_ | refine run_drawR PP_mixed (by kernel_rfl) (by kernel_rfl) ?_ | refine zcm ?_ | refine zcl ?_ | (refine zap rfl ?_; first | refine reg_load_ds 0 rfl rfl (by omega) ?_ | refine reg_store_ds 0 rfl rfl rfl (by omega) rfl ?_ | refine zan rfl ?_ | refine zan rfl ?_ | refine zbl rfl rfl (by omega) ?_ | refine zau rfl rfl (by omega) ?_ | refine zav rfl rfl (by omega) ?_ | refine zas rfl rfl (by omega) ?_) | refine zch ?_ | refine zcj rfl ?_)
    refine run_loop (S := Nat × Nat × Array (List UInt8)) (fun s => [(0, .slice (some ⟨bb, 0, none⟩) N cap), (1, .int .i64 a), (10, .int .i64 s.1), (11, .int .i64 s.2.1)])
      (fun s Γ => Γ = [DatS 9 bb N cap s.2.2] ∧ a < s.1 ∧ s.1 ≤ s.2.1 + 1 ∧ s.2.1 < b ∧ s.2.2.size = N ∧ partLoop ltStr a s.1 s.2.1 s.2.2 = partLoop ltStr a (i + 1) (j - 1) e)
      (fun s => s.2.1 + 1 - s.1) (i + 1, j - 1, e) ⟨rfl, rfl, int_eq (by first | rfl | omega | (dsimp only; omega)), int_eq (by first | rfl | omega | (dsimp only; omega)), trivial⟩ ⟨by rw [he]; rfl, by dsimp only; omega, by dsimp only; omega, by dsimp only; omega, hes, rfl⟩ ?_
    rw [← he]
    generalize partLoop ltStr a (i + 1) (j - 1) e = RR
    clear hi hj he hes hd hds hi1 hi2 hj1 hj2 hij hgt
    clear e i j d
    rintro ⟨i, j, d⟩ Γ junk ⟨rfl, g1, g2, g3, g4, g5⟩
    dsimp only at g1 g2 g3 g4 g5 ⊢
    obtain ⟨i2, hi⟩ : ∃ i2, i2 = scanUp (fun x => ltStr x d[a]!) d j i := ⟨_, rfl⟩
    obtain ⟨j2, hj⟩ : ∃ j2, j2 = scanDown (fun x => !ltStr x d[a]!) d i2 j := ⟨_, rfl⟩
    have hi1 : i ≤ i2 := by rw [hi]; exact Go.Sort.scanUp_ge _ _ _ _
    have hi2 : i2 ≤ j + 1 := by rw [hi]; exact (Go.Sort.scanUp_spec _ d j _ i rfl).2.1 (by omega)
    have hj1 : j2 ≤ j := by rw [hj]; exact Go.Sort.scanDown_le _ _ _ _
    have hj2 : i2 ≤ j2 + 1 := by rw [hj]; exact (Go.Sort.scanDown_spec _ d i2 j).2.1 hi2
    have hij : ¬ j2 < i2 → i2 < j2 := fun h => by
      rcases Nat.lt_or_ge i2 j2 with h1 | h1
      · exact h1
      · have e : j2 = i2 := by omega
        have p1 := (Go.Sort.scanUp_spec (fun x => ltStr x d[a]!) d (j) _ (i) rfl).2.2.2
        have p2 := (Go.Sort.scanDown_spec (fun x => !ltStr x d[a]!) d i2 (j)).2.2.2
        rw [← hi] at p1; rw [← hj] at p2
        have p3 := p1 (by omega); have p4 := p2 (by omega) (by omega)
        rw [e] at p4; (try dsimp only at p3 p4); simp [p3] at p4
    have hpe := Go.Sort.partLoop_eq ltStr a i j d
    rw [← hi, ← hj] at hpe
    refine zcl ?_
    repeat refine zck ?_
    refine run_bind_eq (l' := [(0, .slice (some ⟨bb, 0, none⟩) N cap), (1, .int .i64 a), (10, .int .i64 ((i2 : Nat) : Int)), (11, .int .i64 ((j : Nat) : Int))]) (Γ' := [DatS 9 bb N cap d]) ?_ (fun junk => ?_)
    · repeat' (first | refine zcl ?_ | (refine zap rfl ?_; first | refine zaj rfl ?_ | refine zak rfl ?_ | refine zal rfl ?_ | refine zam rfl rfl (fun _ => ?_) (fun _ => ?_)) | refine zch ?_)
      refine run_loop (S := Nat) (fun u => [(0, .slice (some ⟨bb, 0, none⟩) N cap), (1, .int .i64 a), (10, .int .i64 ((u : Nat) : Int)), (11, .int .i64 ((j : Nat) : Int))]) (fun u Γ => Γ = [DatS 9 bb N cap d] ∧ i ≤ u ∧ u ≤ j + 1 ∧ scanUp (fun x => ltStr x d[a]!) d (j) u = i2) (fun u => j + 1 - u) (i) ⟨rfl, rfl, int_eq (by first | rfl | omega | (dsimp only; omega)), int_eq (by first | rfl | omega | (dsimp only; omega)), trivial⟩ ⟨?_, by omega, by omega, hi.symm⟩ ?_
      · rfl
      rintro u Γ junk ⟨rfl, h1, h2, h4⟩
      try dsimp only at h1 h2 h4 ⊢
      by_cases hc : u ≤ j
      · repeat' (first | refine zck ?_ | refine run_drawR PP_mixed (by kernel_rfl) (by kernel_rfl) ?_ | (refine zap rfl ?_; first | refine reg_load_ds 0 rfl rfl (by omega) ?_ | refine zaj rfl ?_ | refine zan rfl ?_ | refine zah [] (less_spec w0 _ _) rfl rfl rfl sub_nil rfl ?_ | refine zbi rfl rfl (by omega) ?_ | refine zbu rfl ?_ | refine zas rfl rfl (by omega) ?_) | refine zch ?_)
        refine run_cond rfl (fun hE => ?_) (fun hE => ?_)
        · repeat' (first | refine zcp (by kernel_rfl) ?_ | refine zcm ?_ | refine zcl ?_ | refine zcn ?_ | (refine zap rfl ?_; first | refine zan rfl ?_ | refine zan rfl ?_ | refine zau rfl rfl (by omega) ?_) | refine zch ?_)
          refine cut_end ⟨rfl, u + 1, ⟨rfl, rfl, int_eq (by omega), rfl, trivial⟩, ⟨rfl, by omega, by omega, ?_⟩, by omega⟩
          rw [← h4, up_go hc (by simpa [ltStr] using hE)]
        · refine cut_exit rfl rfl ?_
          refine cut_end ⟨rfl, ⟨rfl, rfl, int_eq (congrArg Int.ofNat (by rw [← h4, up_stop (fun _ => by simpa [ltStr] using hE)])), rfl, trivial⟩, rfl⟩
      · repeat' (first | refine zck ?_ | refine run_drawR PP_mixed (by kernel_rfl) (by kernel_rfl) ?_ | (refine zap rfl ?_; first | refine zak rfl ?_ | refine zan rfl ?_ | refine zbj rfl rfl (by omega) ?_ | refine zbv rfl ?_) | refine zch ?_ | refine zcj rfl ?_)
        refine cut_exit rfl rfl ?_
        refine cut_end ⟨rfl, ⟨rfl, rfl, int_eq (congrArg Int.ofNat (by rw [← h4, up_stop (fun h => absurd h hc)])), rfl, trivial⟩, rfl⟩
    repeat refine zck ?_
    refine run_bind_eq (l' := [(0, .slice (some ⟨bb, 0, none⟩) N cap), (1, .int .i64 a), (10, .int .i64 ((i2 : Nat) : Int)), (11, .int .i64 ((j2 : Nat) : Int))]) (Γ' := [DatS 9 bb N cap d]) ?_ (fun junk => ?_)
    · repeat' (first | refine zcl ?_ | (refine zap rfl ?_; first | refine zaj rfl ?_ | refine zak rfl ?_ | refine zal rfl ?_ | refine zam rfl rfl (fun _ => ?_) (fun _ => ?_)) | refine zch ?_)
      refine run_loop (S := Nat) (fun u => [(0, .slice (some ⟨bb, 0, none⟩) N cap), (1, .int .i64 a), (10, .int .i64 ((i2 : Nat) : Int)), (11, .int .i64 ((u : Nat) : Int))]) (fun u Γ => Γ = [DatS 9 bb N cap d] ∧ u ≤ j ∧ i2 ≤ u + 1 ∧ scanDown (fun x => !ltStr x d[a]!) d (i2) u = j2) (fun u => u) (j) ⟨rfl, rfl, int_eq (by first | rfl | omega | (dsimp only; omega)), int_eq (by first | rfl | omega | (dsimp only; omega)), trivial⟩ ⟨?_, by omega, by omega, hj.symm⟩ ?_
      · rfl
      rintro u Γ junk ⟨rfl, h1, h2, h4⟩
      try dsimp only at h1 h2 h4 ⊢
      by_cases hc : i2 ≤ u
      · obtain ⟨u, rfl⟩ : ∃ m, u = m + 1 := ⟨u - 1, by omega⟩
        repeat' (first | refine zck ?_ | refine run_drawR PP_mixed (by kernel_rfl) (by kernel_rfl) ?_ | (refine zap rfl ?_; first | refine reg_load_ds 0 rfl rfl (by omega) ?_ | refine zaj rfl ?_ | refine zan rfl ?_ | refine zah [] (less_spec w0 _ _) rfl rfl rfl sub_nil rfl ?_ | refine zbi rfl rfl (by omega) ?_ | refine zby rfl ?_ | refine zbu rfl ?_ | refine zas rfl rfl (by omega) ?_) | refine zch ?_)
        refine run_cond rfl (fun hE => ?_) (fun hE => ?_)
        · repeat' (first | refine zcp (by kernel_rfl) ?_ | refine zcm ?_ | refine zcl ?_ | refine zcn ?_ | (refine zap rfl ?_; first | refine zan rfl ?_ | refine zan rfl ?_ | refine zav rfl rfl (by omega) ?_) | refine zch ?_)
          refine cut_end ⟨rfl, u, ⟨rfl, rfl, rfl, int_eq (by omega), trivial⟩, ⟨rfl, by omega, by omega, ?_⟩, by omega⟩
          rw [← h4, down_go hc (by simpa [ltStr] using hE)]
        · refine cut_exit rfl rfl ?_
          refine cut_end ⟨rfl, ⟨rfl, rfl, rfl, int_eq (congrArg Int.ofNat (by rw [← h4, down_stop (fun _ _ => by simpa [ltStr] using hE)])), trivial⟩, rfl⟩
      · repeat' (first | refine zck ?_ | refine run_drawR PP_mixed (by kernel_rfl) (by kernel_rfl) ?_ | (refine zap rfl ?_; first | refine zak rfl ?_ | refine zan rfl ?_ | refine zbj rfl rfl (by omega) ?_ | refine zbv rfl ?_) | refine zch ?_ | refine zcj rfl ?_)
        refine cut_exit rfl rfl ?_
        refine cut_end ⟨rfl, ⟨rfl, rfl, rfl, int_eq (congrArg Int.ofNat (by rw [← h4, down_stop (fun _ h => absurd h hc)])), trivial⟩, rfl⟩
    by_cases hgt : j2 < i2
    · repeat' (first | refine zck ?_ | refine zcp (by kernel_rfl) ?_ | (refine zap rfl ?_; first | refine zan rfl ?_ | refine zbk rfl rfl (by omega) ?_) | refine zch ?_ | refine zci rfl ?_)
      refine cut_exit rfl rfl ?_
      repeat' (first | refine zck ?_ | refine zcp (by kernel_rfl) ?_ | refine run_drawR PP_mixed (by kernel_rfl) (by kernel_rfl) ?_ | (refine zap rfl ?_; first | refine reg_load_ds 0 rfl rfl (by omega) ?_ | refine reg_store_ds 0 rfl rfl rfl (by omega) rfl ?_ | refine zan rfl ?_ | refine zan rfl ?_ | refine zas rfl rfl (by omega) ?_) | refine zch ?_)
      rw [if_pos hgt] at hpe
      rw [← g5, hpe]
      exact ret_tmp2 rfl ⟨rfl, rfl⟩
    · replace hij := hij hgt
      repeat' (first | refine zck ?_ | refine zcp (by kernel_rfl) ?_ | refine run_drawR PP_mixed (by kernel_rfl) (by kernel_rfl) ?_ | refine zcm ?_ | refine zcn ?_ | (refine zap rfl ?_; first | refine reg_load_ds 0 rfl rfl (by omega) ?_ | refine reg_store_ds 0 rfl rfl rfl (by omega) rfl ?_ | refine zan rfl ?_ | refine zan rfl ?_ | refine zbl rfl rfl (by omega) ?_ | refine zau rfl rfl (by omega) ?_ | refine zav rfl rfl (by omega) ?_ | refine zas rfl rfl (by omega) ?_) | refine zch ?_ | refine zcj rfl ?_)
      refine cut_end ⟨rfl, (i2 + 1, j2 - 1, swp d i2 j2), ⟨rfl, rfl, int_eq (by first | rfl | omega | (dsimp only; omega)), int_eq (by first | rfl | omega | (dsimp only; omega)), trivial⟩, ⟨rfl, by dsimp only; omega, by dsimp only; omega, by dsimp only; omega, ?_, ?_⟩, by dsimp only; omega⟩
      · rw [Go.Sort.size_swp]; exact g4
      · rw [if_neg hgt] at hpe
        rw [← g5, hpe]
end Go.Proofs.YtagmagnkigjggaaGreatDoor

