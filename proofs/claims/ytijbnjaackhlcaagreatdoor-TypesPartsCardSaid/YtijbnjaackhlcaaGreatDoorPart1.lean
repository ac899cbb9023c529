import Derived.Test.YtijbnjaackhlcaaGreatDoorProg
import Derived.Test.YtijbnjaackhlcaaGreatDoorRows
import Derived.Test.YtijbnjaackhlcaaGreatDoorTie
import Derived.Test.YtijbnjaackhlcaaGreatDoorCards
import Derived.SevenTiedAt
import Derived.OpenShut
import Derived.Handed
import Derived.Lib.LaidTab
import Derived.Sort.AssemblyPlain
import Derived.Sort.LotD5
import Derived.Test.YtijbnjaackhlcaaGreatDoorKitA
import Derived.Test.YtijbnjaackhlcaaGreatDoorKit
/- Lemmas and walks for the claims of this seat (own work): Base Sy0 Pd0 Ca0 Sx0 Hd0 Ss0 Ss1 Ss2 Ss3 Ss4 Ss5 Ss6 Ss7 Ss8 Ss9 Ss10 Ss11 Ss12 Ss13 Cc0 Ef0 Ef1 Dd0 Cs0 Ge0. -/
namespace Go.Proofs.YtijbnjaackhlcaaGreatDoor
open Go.Vc
@[irreducible] noncomputable def PP : Program := Tryz.prog
theorem PP_def : PP = Tryz.prog := by unfold PP; rfl
theorem PP_mixed : PP.follows .mixedOrders = true := by kernel_rfl
instance : TShape PP 2 false 1 := ⟨fun w => by kernel_rfl, fun w => by kernel_rfl⟩
instance : TUnd PP 2 (.int (.i64)) := ⟨by kernel_rfl⟩
instance : TShape PP 3 false 1 := ⟨fun w => by kernel_rfl, fun w => by kernel_rfl⟩
instance : TInfo PP 3 8 := ⟨fun w => ⟨Tryz.t3, by rw [PP_def]; exact Tryz.typeInfo3 w, rfl⟩⟩
instance : TZeroV PP 3 (.int .i64 0) := ⟨fun w => by kernel_rfl⟩
instance : TUnd PP 3 (.int (.i64)) := ⟨by kernel_rfl⟩
instance : TShape PP 4 false 1 := ⟨fun w => by kernel_rfl, fun w => by kernel_rfl⟩
instance : TZeroV PP 4 (.bool false) := ⟨fun w => by kernel_rfl⟩
instance : TShape PP 5 false 1 := ⟨fun w => by kernel_rfl, fun w => by kernel_rfl⟩
instance : TUnd PP 5 (.int (.u8)) := ⟨by kernel_rfl⟩
instance : TShape PP 9 false 1 := ⟨fun w => by kernel_rfl, fun w => by kernel_rfl⟩
instance : TInfo PP 9 16 := ⟨fun w => ⟨Tryz.t9, by rw [PP_def]; exact Tryz.typeInfo9 w, rfl⟩⟩
instance : TZeroV PP 9 (.string ByteArray.empty) := ⟨fun w => by kernel_rfl⟩
instance : TUnd PP 9 (.string) := ⟨by kernel_rfl⟩
instance : TShape PP 22 false 1 := ⟨fun w => by kernel_rfl, fun w => by kernel_rfl⟩
instance : TUnd PP 22 (.slice 77) := ⟨by kernel_rfl⟩
instance : TShape PP 23 false 1 := ⟨fun w => by kernel_rfl, fun w => by kernel_rfl⟩
instance : TUnd PP 23 (.slice 34) := ⟨by kernel_rfl⟩
instance : TShape PP 25 true 2 := ⟨fun w => by kernel_rfl, fun w => by kernel_rfl⟩
instance : TZero PP 25 [.slice none 0 0, .slice none 0 0] := ⟨fun w => ⟨.agg #[.slice none 0 0, .slice none 0 0], by kernel_rfl, by kernel_rfl⟩⟩
instance : TStruct PP 25 [.slice none 0 0, .slice none 0 0] [(0, 1), (1, 1)] := ⟨⟨_, by rw [PP_def]; exact Tryz.underlying25, fun w => by kernel_rfl⟩, fun w => ⟨.agg #[.slice none 0 0, .slice none 0 0], by kernel_rfl, by kernel_rfl⟩⟩
instance : TField PP 25 0 0 := ⟨fun b o w => by kernel_rfl⟩
instance : TField PP 25 1 1 := ⟨fun b o w => by kernel_rfl⟩
instance : TShape PP 31 false 1 := ⟨fun w => by kernel_rfl, fun w => by kernel_rfl⟩
instance : TUnd PP 31 (.slice 9) := ⟨by kernel_rfl⟩
instance : TShape PP 32 false 1 := ⟨fun w => by kernel_rfl, fun w => by kernel_rfl⟩
instance : TZeroV PP 32 (.slice none 0 0) := ⟨fun w => by kernel_rfl⟩
instance : TUnd PP 32 (.slice 43) := ⟨by kernel_rfl⟩
instance : TShape PP 34 true 3 := ⟨fun w => by kernel_rfl, fun w => by kernel_rfl⟩
instance : TInfo PP 34 64 := ⟨fun w => ⟨Tryz.t34, by rw [PP_def]; exact Tryz.typeInfo34 w, rfl⟩⟩
instance : TZero PP 34 [.string ByteArray.empty, .slice none 0 0, .slice none 0 0] := ⟨fun w => ⟨.agg #[.string ByteArray.empty, .slice none 0 0, .slice none 0 0], by kernel_rfl, by kernel_rfl⟩⟩
instance : TZeroV PP 34 (.agg #[.string ByteArray.empty, .slice none 0 0, .slice none 0 0]) := ⟨fun w => by kernel_rfl⟩
instance : TStruct PP 34 [.string ByteArray.empty, .slice none 0 0, .slice none 0 0] [(0, 1), (1, 1), (2, 1)] := ⟨⟨_, by rw [PP_def]; exact Tryz.underlying34, fun w => by kernel_rfl⟩, fun w => ⟨.agg #[.string ByteArray.empty, .slice none 0 0, .slice none 0 0], by kernel_rfl, by kernel_rfl⟩⟩
instance : TField PP 34 0 0 := ⟨fun b o w => by kernel_rfl⟩
instance : TField PP 34 1 1 := ⟨fun b o w => by kernel_rfl⟩
instance : TField PP 34 2 2 := ⟨fun b o w => by kernel_rfl⟩
instance : TShape PP 35 false 1 := ⟨fun w => by kernel_rfl, fun w => by kernel_rfl⟩
instance : TUnd PP 35 (.map 9 3) := ⟨by kernel_rfl⟩
instance : TShape PP 39 false 1 := ⟨fun w => by kernel_rfl, fun w => by kernel_rfl⟩
instance : TZeroV PP 39 (.slice none 0 0) := ⟨fun w => by kernel_rfl⟩
instance : TUnd PP 39 (.slice 41) := ⟨by kernel_rfl⟩
instance : TShape PP 41 true 6 := ⟨fun w => by kernel_rfl, fun w => by kernel_rfl⟩
instance : TInfo PP 41 96 := ⟨fun w => ⟨Tryz.t41, by rw [PP_def]; exact Tryz.typeInfo41 w, rfl⟩⟩
instance : TZero PP 41 [.int .i64 0, .int .i64 0, .string ByteArray.empty, .string ByteArray.empty, .slice none 0 0, .slice none 0 0] := ⟨fun w => ⟨.agg #[.int .i64 0, .int .i64 0, .string ByteArray.empty, .string ByteArray.empty, .slice none 0 0, .slice none 0 0], by kernel_rfl, by kernel_rfl⟩⟩
instance : TZeroV PP 41 (.agg #[.int .i64 0, .int .i64 0, .string ByteArray.empty, .string ByteArray.empty, .slice none 0 0, .slice none 0 0]) := ⟨fun w => by kernel_rfl⟩
instance : TStruct PP 41 [.int .i64 0, .int .i64 0, .string ByteArray.empty, .string ByteArray.empty, .slice none 0 0, .slice none 0 0] [(0, 1), (1, 1), (2, 1), (3, 1), (4, 1), (5, 1)] := ⟨⟨_, by rw [PP_def]; exact Tryz.underlying41, fun w => by kernel_rfl⟩, fun w => ⟨.agg #[.int .i64 0, .int .i64 0, .string ByteArray.empty, .string ByteArray.empty, .slice none 0 0, .slice none 0 0], by kernel_rfl, by kernel_rfl⟩⟩
instance : TField PP 41 0 0 := ⟨fun b o w => by kernel_rfl⟩
instance : TField PP 41 1 1 := ⟨fun b o w => by kernel_rfl⟩
instance : TField PP 41 2 2 := ⟨fun b o w => by kernel_rfl⟩
instance : TField PP 41 3 3 := ⟨fun b o w => by kernel_rfl⟩
instance : TField PP 41 4 4 := ⟨fun b o w => by kernel_rfl⟩
instance : TField PP 41 5 5 := ⟨fun b o w => by kernel_rfl⟩
instance : TShape PP 43 true 11 := ⟨fun w => by kernel_rfl, fun w => by kernel_rfl⟩
instance : TInfo PP 43 176 := ⟨fun w => ⟨Tryz.t43, by rw [PP_def]; exact Tryz.typeInfo43 w, rfl⟩⟩
instance : TZero PP 43 [.int .i64 0, .string ByteArray.empty, .int .i64 0, .int .i64 0, .int .i64 0, .string ByteArray.empty, .string ByteArray.empty, .slice none 0 0, .slice none 0 0, .slice none 0 0, .slice none 0 0] := ⟨fun w => ⟨.agg #[.int .i64 0, .string ByteArray.empty, .int .i64 0, .int .i64 0, .int .i64 0, .string ByteArray.empty, .string ByteArray.empty, .slice none 0 0, .slice none 0 0, .slice none 0 0, .slice none 0 0], by kernel_rfl, by kernel_rfl⟩⟩
instance : TZeroV PP 43 (.agg #[.int .i64 0, .string ByteArray.empty, .int .i64 0, .int .i64 0, .int .i64 0, .string ByteArray.empty, .string ByteArray.empty, .slice none 0 0, .slice none 0 0, .slice none 0 0, .slice none 0 0]) := ⟨fun w => by kernel_rfl⟩
instance : TStruct PP 43 [.int .i64 0, .string ByteArray.empty, .int .i64 0, .int .i64 0, .int .i64 0, .string ByteArray.empty, .string ByteArray.empty, .slice none 0 0, .slice none 0 0, .slice none 0 0, .slice none 0 0] [(0, 1), (1, 1), (2, 1), (3, 6), (9, 1), (10, 1)] := ⟨⟨_, by rw [PP_def]; exact Tryz.underlying43, fun w => by kernel_rfl⟩, fun w => ⟨.agg #[.int .i64 0, .string ByteArray.empty, .int .i64 0, .int .i64 0, .int .i64 0, .string ByteArray.empty, .string ByteArray.empty, .slice none 0 0, .slice none 0 0, .slice none 0 0, .slice none 0 0], by kernel_rfl, by kernel_rfl⟩⟩
instance : TField PP 43 0 0 := ⟨fun b o w => by kernel_rfl⟩
instance : TField PP 43 1 1 := ⟨fun b o w => by kernel_rfl⟩
instance : TField PP 43 2 2 := ⟨fun b o w => by kernel_rfl⟩
instance : TField PP 43 3 3 := ⟨fun b o w => by kernel_rfl⟩
instance : TField PP 43 4 9 := ⟨fun b o w => by kernel_rfl⟩
instance : TField PP 43 5 10 := ⟨fun b o w => by kernel_rfl⟩
instance : TShape PP 45 false 1 := ⟨fun w => by kernel_rfl, fun w => by kernel_rfl⟩
instance : TUnd PP 45 (.slice 69) := ⟨by kernel_rfl⟩
instance : TShape PP 46 false 1 := ⟨fun w => by kernel_rfl, fun w => by kernel_rfl⟩
instance : TUnd PP 46 (.slice 72) := ⟨by kernel_rfl⟩
instance : TShape PP 48 true 2 := ⟨fun w => by kernel_rfl, fun w => by kernel_rfl⟩
instance : TField PP 48 0 0 := ⟨fun b o w => by kernel_rfl⟩
instance : TField PP 48 1 1 := ⟨fun b o w => by kernel_rfl⟩
instance : TShape PP 50 false 1 := ⟨fun w => by kernel_rfl, fun w => by kernel_rfl⟩
instance : TUnd PP 50 (.map 9 9) := ⟨by kernel_rfl⟩
instance : TShape PP 51 false 1 := ⟨fun w => by kernel_rfl, fun w => by kernel_rfl⟩
instance : TUnd PP 51 (.slice 117) := ⟨by kernel_rfl⟩
instance : TShape PP 53 true 3 := ⟨fun w => by kernel_rfl, fun w => by kernel_rfl⟩
instance : TZero PP 53 [.slice none 0 0, .slice none 0 0, .slice none 0 0] := ⟨fun w => ⟨.agg #[.slice none 0 0, .slice none 0 0, .slice none 0 0], by kernel_rfl, by kernel_rfl⟩⟩
instance : TStruct PP 53 [.slice none 0 0, .slice none 0 0, .slice none 0 0] [(0, 1), (1, 1), (2, 1)] := ⟨⟨_, by rw [PP_def]; exact Tryz.underlying53, fun w => by kernel_rfl⟩, fun w => ⟨.agg #[.slice none 0 0, .slice none 0 0, .slice none 0 0], by kernel_rfl, by kernel_rfl⟩⟩
instance : TField PP 53 0 0 := ⟨fun b o w => by kernel_rfl⟩
instance : TField PP 53 1 1 := ⟨fun b o w => by kernel_rfl⟩
instance : TField PP 53 2 2 := ⟨fun b o w => by kernel_rfl⟩
instance : TShape PP 60 false 1 := ⟨fun w => by kernel_rfl, fun w => by kernel_rfl⟩
instance : TUnd PP 60 (.slice 62) := ⟨by kernel_rfl⟩
instance : TShape PP 62 true 6 := ⟨fun w => by kernel_rfl, fun w => by kernel_rfl⟩
instance : TInfo PP 62 96 := ⟨fun w => ⟨Tryz.t62, by rw [PP_def]; exact Tryz.typeInfo62 w, rfl⟩⟩
instance : TZero PP 62 [.int .i64 0, .int .i64 0, .string ByteArray.empty, .string ByteArray.empty, .slice none 0 0, .slice none 0 0] := ⟨fun w => ⟨.agg #[.int .i64 0, .int .i64 0, .string ByteArray.empty, .string ByteArray.empty, .slice none 0 0, .slice none 0 0], by kernel_rfl, by kernel_rfl⟩⟩
instance : TZeroV PP 62 (.agg #[.int .i64 0, .int .i64 0, .string ByteArray.empty, .string ByteArray.empty, .slice none 0 0, .slice none 0 0]) := ⟨fun w => by kernel_rfl⟩
instance : TStruct PP 62 [.int .i64 0, .int .i64 0, .string ByteArray.empty, .string ByteArray.empty, .slice none 0 0, .slice none 0 0] [(0, 1), (1, 1), (2, 1), (3, 1), (4, 1), (5, 1)] := ⟨⟨_, by rw [PP_def]; exact Tryz.underlying62, fun w => by kernel_rfl⟩, fun w => ⟨.agg #[.int .i64 0, .int .i64 0, .string ByteArray.empty, .string ByteArray.empty, .slice none 0 0, .slice none 0 0], by kernel_rfl, by kernel_rfl⟩⟩
instance : TField PP 62 0 0 := ⟨fun b o w => by kernel_rfl⟩
instance : TField PP 62 2 2 := ⟨fun b o w => by kernel_rfl⟩
instance : TField PP 62 3 3 := ⟨fun b o w => by kernel_rfl⟩
instance : TField PP 62 4 4 := ⟨fun b o w => by kernel_rfl⟩
instance : TField PP 62 5 5 := ⟨fun b o w => by kernel_rfl⟩
instance : TShape PP 69 true 2 := ⟨fun w => by kernel_rfl, fun w => by kernel_rfl⟩
instance : TInfo PP 69 24 := ⟨fun w => ⟨Tryz.t69, by rw [PP_def]; exact Tryz.typeInfo69 w, rfl⟩⟩
instance : TZero PP 69 [.string ByteArray.empty, .int .i64 0] := ⟨fun w => ⟨.agg #[.string ByteArray.empty, .int .i64 0], by kernel_rfl, by kernel_rfl⟩⟩
instance : TZeroV PP 69 (.agg #[.string ByteArray.empty, .int .i64 0]) := ⟨fun w => by kernel_rfl⟩
instance : TStruct PP 69 [.string ByteArray.empty, .int .i64 0] [(0, 1), (1, 1)] := ⟨⟨_, by rw [PP_def]; exact Tryz.underlying69, fun w => by kernel_rfl⟩, fun w => ⟨.agg #[.string ByteArray.empty, .int .i64 0], by kernel_rfl, by kernel_rfl⟩⟩
instance : TField PP 69 0 0 := ⟨fun b o w => by kernel_rfl⟩
instance : TField PP 69 1 1 := ⟨fun b o w => by kernel_rfl⟩
instance : TShape PP 72 true 2 := ⟨fun w => by kernel_rfl, fun w => by kernel_rfl⟩
instance : TInfo PP 72 32 := ⟨fun w => ⟨Tryz.t72, by rw [PP_def]; exact Tryz.typeInfo72 w, rfl⟩⟩
instance : TZero PP 72 [.string ByteArray.empty, .string ByteArray.empty] := ⟨fun w => ⟨.agg #[.string ByteArray.empty, .string ByteArray.empty], by kernel_rfl, by kernel_rfl⟩⟩
instance : TZeroV PP 72 (.agg #[.string ByteArray.empty, .string ByteArray.empty]) := ⟨fun w => by kernel_rfl⟩
instance : TUnd PP 72 (.array 2 9) := ⟨by kernel_rfl⟩
instance : TShape PP 77 true 2 := ⟨fun w => by kernel_rfl, fun w => by kernel_rfl⟩
instance : TZero PP 77 [.string ByteArray.empty, .string ByteArray.empty] := ⟨fun w => ⟨.agg #[.string ByteArray.empty, .string ByteArray.empty], by kernel_rfl, by kernel_rfl⟩⟩
instance : TZeroV PP 77 (.agg #[.string ByteArray.empty, .string ByteArray.empty]) := ⟨fun w => by kernel_rfl⟩
instance : TStruct PP 77 [.string ByteArray.empty, .string ByteArray.empty] [(0, 1), (1, 1)] := ⟨⟨_, by rw [PP_def]; exact Tryz.underlying77, fun w => by kernel_rfl⟩, fun w => ⟨.agg #[.string ByteArray.empty, .string ByteArray.empty], by kernel_rfl, by kernel_rfl⟩⟩
instance : TField PP 77 0 0 := ⟨fun b o w => by kernel_rfl⟩
instance : TField PP 77 1 1 := ⟨fun b o w => by kernel_rfl⟩
instance : TUnd PP 81 (.map 9 4) := ⟨by kernel_rfl⟩
instance : TShape PP 87 true 2 := ⟨fun w => by kernel_rfl, fun w => by kernel_rfl⟩
instance : TStruct PP 87 [.map none, .map none] [(0, 1), (1, 1)] := ⟨⟨_, by rw [PP_def]; exact Tryz.underlying87, fun w => by kernel_rfl⟩, fun w => ⟨.agg #[.map none, .map none], by kernel_rfl, by kernel_rfl⟩⟩
instance : TField PP 87 0 0 := ⟨fun b o w => by kernel_rfl⟩
instance : TField PP 87 1 1 := ⟨fun b o w => by kernel_rfl⟩
instance : TShape PP 94 false 1 := ⟨fun w => by kernel_rfl, fun w => by kernel_rfl⟩
instance : TUnd PP 94 (.slice 131) := ⟨by kernel_rfl⟩
instance : TStruct PP 105 [.map none, .map none, .map none, .slice none 0 0] [(0, 2), (2, 1), (3, 1)] := ⟨⟨_, by rw [PP_def]; exact Tryz.underlying105, fun w => by kernel_rfl⟩, fun w => ⟨.agg #[.map none, .map none, .map none, .slice none 0 0], by kernel_rfl, by kernel_rfl⟩⟩
instance : TField PP 105 0 0 := ⟨fun b o w => by kernel_rfl⟩
instance : TField PP 105 1 2 := ⟨fun b o w => by kernel_rfl⟩
instance : TField PP 105 2 3 := ⟨fun b o w => by kernel_rfl⟩
instance : TUnd PP 112 (.slice 115) := ⟨by kernel_rfl⟩
instance : TShape PP 115 true 3 := ⟨fun w => by kernel_rfl, fun w => by kernel_rfl⟩
instance : TInfo PP 115 32 := ⟨fun w => ⟨Tryz.t115, by rw [PP_def]; exact Tryz.typeInfo115 w, rfl⟩⟩
instance : TZero PP 115 [.string ByteArray.empty, .int .i64 0, .bool false] := ⟨fun w => ⟨.agg #[.string ByteArray.empty, .int .i64 0, .bool false], by kernel_rfl, by kernel_rfl⟩⟩
instance : TZeroV PP 115 (.agg #[.string ByteArray.empty, .int .i64 0, .bool false]) := ⟨fun w => by kernel_rfl⟩
instance : TStruct PP 115 [.string ByteArray.empty, .int .i64 0, .bool false] [(0, 1), (1, 1), (2, 1)] := ⟨⟨_, by rw [PP_def]; exact Tryz.underlying115, fun w => by kernel_rfl⟩, fun w => ⟨.agg #[.string ByteArray.empty, .int .i64 0, .bool false], by kernel_rfl, by kernel_rfl⟩⟩
instance : TField PP 115 0 0 := ⟨fun b o w => by kernel_rfl⟩
instance : TField PP 115 1 1 := ⟨fun b o w => by kernel_rfl⟩
instance : TShape PP 117 true 3 := ⟨fun w => by kernel_rfl, fun w => by kernel_rfl⟩
instance : TInfo PP 117 40 := ⟨fun w => ⟨Tryz.t117, by rw [PP_def]; exact Tryz.typeInfo117 w, rfl⟩⟩
instance : TZero PP 117 [.string ByteArray.empty, .string ByteArray.empty, .int .i64 0] := ⟨fun w => ⟨.agg #[.string ByteArray.empty, .string ByteArray.empty, .int .i64 0], by kernel_rfl, by kernel_rfl⟩⟩
instance : TZeroV PP 117 (.agg #[.string ByteArray.empty, .string ByteArray.empty, .int .i64 0]) := ⟨fun w => by kernel_rfl⟩
instance : TStruct PP 117 [.string ByteArray.empty, .string ByteArray.empty, .int .i64 0] [(0, 1), (1, 1), (2, 1)] := ⟨⟨_, by rw [PP_def]; exact Tryz.underlying117, fun w => by kernel_rfl⟩, fun w => ⟨.agg #[.string ByteArray.empty, .string ByteArray.empty, .int .i64 0], by kernel_rfl, by kernel_rfl⟩⟩
instance : TField PP 117 0 0 := ⟨fun b o w => by kernel_rfl⟩
instance : TField PP 117 1 1 := ⟨fun b o w => by kernel_rfl⟩
instance : TField PP 117 2 2 := ⟨fun b o w => by kernel_rfl⟩
instance : TUnd PP 120 (.slice 3) := ⟨by kernel_rfl⟩
instance : TShape PP 122 false 1 := ⟨fun w => by kernel_rfl, fun w => by kernel_rfl⟩
instance : TShape PP 123 true 8 := ⟨fun w => by kernel_rfl, fun w => by kernel_rfl⟩
instance : TZero PP 123 [.nilFunc, .nilFunc, .nilFunc, .nilFunc, .nilFunc, .nilFunc, .nilFunc, .nilFunc] := ⟨fun w => ⟨.agg #[.nilFunc, .nilFunc, .nilFunc, .nilFunc, .nilFunc, .nilFunc, .nilFunc, .nilFunc], by kernel_rfl, by kernel_rfl⟩⟩
instance : TUnd PP 123 (.array 8 122) := ⟨by kernel_rfl⟩
instance : TShape PP 131 true 11 := ⟨fun w => by kernel_rfl, fun w => by kernel_rfl⟩
instance : TInfo PP 131 176 := ⟨fun w => ⟨Tryz.t131, by rw [PP_def]; exact Tryz.typeInfo131 w, rfl⟩⟩
instance : TZero PP 131 [.int .i64 0, .string ByteArray.empty, .int .i64 0, .int .i64 0, .int .i64 0, .string ByteArray.empty, .string ByteArray.empty, .slice none 0 0, .slice none 0 0, .slice none 0 0, .slice none 0 0] := ⟨fun w => ⟨.agg #[.int .i64 0, .string ByteArray.empty, .int .i64 0, .int .i64 0, .int .i64 0, .string ByteArray.empty, .string ByteArray.empty, .slice none 0 0, .slice none 0 0, .slice none 0 0, .slice none 0 0], by kernel_rfl, by kernel_rfl⟩⟩
instance : TZeroV PP 131 (.agg #[.int .i64 0, .string ByteArray.empty, .int .i64 0, .int .i64 0, .int .i64 0, .string ByteArray.empty, .string ByteArray.empty, .slice none 0 0, .slice none 0 0, .slice none 0 0, .slice none 0 0]) := ⟨fun w => by kernel_rfl⟩
instance : TStruct PP 131 [.int .i64 0, .string ByteArray.empty, .int .i64 0, .int .i64 0, .int .i64 0, .string ByteArray.empty, .string ByteArray.empty, .slice none 0 0, .slice none 0 0, .slice none 0 0, .slice none 0 0] [(0, 1), (1, 1), (2, 1), (3, 6), (9, 1), (10, 1)] := ⟨⟨_, by rw [PP_def]; exact Tryz.underlying131, fun w => by kernel_rfl⟩, fun w => ⟨.agg #[.int .i64 0, .string ByteArray.empty, .int .i64 0, .int .i64 0, .int .i64 0, .string ByteArray.empty, .string ByteArray.empty, .slice none 0 0, .slice none 0 0, .slice none 0 0, .slice none 0 0], by kernel_rfl, by kernel_rfl⟩⟩
instance : TField PP 131 0 0 := ⟨fun b o w => by kernel_rfl⟩
instance : TField PP 131 1 1 := ⟨fun b o w => by kernel_rfl⟩
instance : TField PP 131 3 3 := ⟨fun b o w => by kernel_rfl⟩
instance : TField PP 131 4 9 := ⟨fun b o w => by kernel_rfl⟩
instance : TField PP 131 5 10 := ⟨fun b o w => by kernel_rfl⟩
instance : TUnd PP 135 (.slice 5) := ⟨by kernel_rfl⟩
instance : TZeroV PP 138 (.slice none 0 0) := ⟨fun w => by kernel_rfl⟩
instance : TUnd PP 138 (.slice 142) := ⟨by kernel_rfl⟩
instance : TShape PP 142 true 4 := ⟨fun w => by kernel_rfl, fun w => by kernel_rfl⟩
instance : TZero PP 142 [.string ByteArray.empty, .int .i64 0, .bool false, .nilFunc] := ⟨fun w => ⟨.agg #[.string ByteArray.empty, .int .i64 0, .bool false, .nilFunc], by kernel_rfl, by kernel_rfl⟩⟩
instance : TZeroV PP 142 (.agg #[.string ByteArray.empty, .int .i64 0, .bool false, .nilFunc]) := ⟨fun w => by kernel_rfl⟩
instance : TStruct PP 142 [.string ByteArray.empty, .int .i64 0, .bool false, .nilFunc] [(0, 1), (1, 1), (2, 1), (3, 1)] := ⟨⟨_, by rw [PP_def]; exact Tryz.underlying142, fun w => by kernel_rfl⟩, fun w => ⟨.agg #[.string ByteArray.empty, .int .i64 0, .bool false, .nilFunc], by kernel_rfl, by kernel_rfl⟩⟩
instance : TField PP 142 0 0 := ⟨fun b o w => by kernel_rfl⟩
instance : TField PP 142 1 1 := ⟨fun b o w => by kernel_rfl⟩
instance : TField PP 142 2 2 := ⟨fun b o w => by kernel_rfl⟩
instance : TShape PP 146 true 3 := ⟨fun w => by kernel_rfl, fun w => by kernel_rfl⟩
instance : TZero PP 146 [.int .i64 0, .int .i64 0, .int .i64 0] := ⟨fun w => ⟨.agg #[.int .i64 0, .int .i64 0, .int .i64 0], by kernel_rfl, by kernel_rfl⟩⟩
instance : TStruct PP 146 [.int .i64 0, .int .i64 0, .int .i64 0] [(0, 1), (1, 1), (2, 1)] := ⟨⟨_, by rw [PP_def]; exact Tryz.underlying146, fun w => by kernel_rfl⟩, fun w => ⟨.agg #[.int .i64 0, .int .i64 0, .int .i64 0], by kernel_rfl, by kernel_rfl⟩⟩
instance : TField PP 146 0 0 := ⟨fun b o w => by kernel_rfl⟩
instance : TField PP 146 1 1 := ⟨fun b o w => by kernel_rfl⟩
instance : TField PP 146 2 2 := ⟨fun b o w => by kernel_rfl⟩
instance : TShape PP 147 true 24 := ⟨fun w => by kernel_rfl, fun w => by kernel_rfl⟩
instance : TZero PP 147 [.int .i64 0, .int .i64 0, .int .i64 0, .int .i64 0, .int .i64 0, .int .i64 0, .int .i64 0, .int .i64 0, .int .i64 0, .int .i64 0, .int .i64 0, .int .i64 0, .int .i64 0, .int .i64 0, .int .i64 0, .int .i64 0, .int .i64 0, .int .i64 0, .int .i64 0, .int .i64 0, .int .i64 0, .int .i64 0, .int .i64 0, .int .i64 0] := ⟨fun w => ⟨.agg #[.int .i64 0, .int .i64 0, .int .i64 0, .int .i64 0, .int .i64 0, .int .i64 0, .int .i64 0, .int .i64 0, .int .i64 0, .int .i64 0, .int .i64 0, .int .i64 0, .int .i64 0, .int .i64 0, .int .i64 0, .int .i64 0, .int .i64 0, .int .i64 0, .int .i64 0, .int .i64 0, .int .i64 0, .int .i64 0, .int .i64 0, .int .i64 0], by kernel_rfl, by kernel_rfl⟩⟩
instance : TUnd PP 147 (.array 8 146) := ⟨by kernel_rfl⟩
instance : TShape PP 150 true 2 := ⟨fun w => by kernel_rfl, fun w => by kernel_rfl⟩
instance : TZero PP 150 [.int .i64 0, .int .i64 0] := ⟨fun w => ⟨.agg #[.int .i64 0, .int .i64 0], by kernel_rfl, by kernel_rfl⟩⟩
instance : TZeroV PP 150 (.agg #[.int .i64 0, .int .i64 0]) := ⟨fun w => by kernel_rfl⟩
instance : TStruct PP 150 [.int .i64 0, .int .i64 0] [(0, 1), (1, 1)] := ⟨⟨_, by rw [PP_def]; exact Tryz.underlying150, fun w => by kernel_rfl⟩, fun w => ⟨.agg #[.int .i64 0, .int .i64 0], by kernel_rfl, by kernel_rfl⟩⟩
instance : TField PP 150 0 0 := ⟨fun b o w => by kernel_rfl⟩
instance : TField PP 150 1 1 := ⟨fun b o w => by kernel_rfl⟩
instance : TUnd PP 152 (.map 9 150) := ⟨by kernel_rfl⟩
instance : TUnd PP 158 (.array 14 9) := ⟨by kernel_rfl⟩
instance : TUnd PP 159 (.slice 32) := ⟨by kernel_rfl⟩
instance : TShape PP 160 false 1 := ⟨fun w => by kernel_rfl, fun w => by kernel_rfl⟩
instance : TZeroV PP 160 (.map none) := ⟨fun w => by kernel_rfl⟩
instance : TUnd PP 160 (.map 3 138) := ⟨by kernel_rfl⟩
instance : TUnd PP 162 (.slice 160) := ⟨by kernel_rfl⟩
instance : TShape PP 168 true 8 := ⟨fun w => by kernel_rfl, fun w => by kernel_rfl⟩
instance : TZero PP 168 [.bool false, .bool false, .bool false, .bool false, .bool false, .int .i64 0, .int .i64 0, .int .i64 0] := ⟨fun w => ⟨.agg #[.bool false, .bool false, .bool false, .bool false, .bool false, .int .i64 0, .int .i64 0, .int .i64 0], by kernel_rfl, by kernel_rfl⟩⟩
instance : TStruct PP 168 [.bool false, .bool false, .bool false, .bool false, .bool false, .int .i64 0, .int .i64 0, .int .i64 0] [(0, 1), (1, 1), (2, 1), (3, 1), (4, 1), (5, 1), (6, 1), (7, 1)] := ⟨⟨_, by rw [PP_def]; exact Tryz.underlying168, fun w => by kernel_rfl⟩, fun w => ⟨.agg #[.bool false, .bool false, .bool false, .bool false, .bool false, .int .i64 0, .int .i64 0, .int .i64 0], by kernel_rfl, by kernel_rfl⟩⟩
instance : TField PP 168 0 0 := ⟨fun b o w => by kernel_rfl⟩
instance : TField PP 168 1 1 := ⟨fun b o w => by kernel_rfl⟩
instance : TField PP 168 2 2 := ⟨fun b o w => by kernel_rfl⟩
instance : TField PP 168 3 3 := ⟨fun b o w => by kernel_rfl⟩
instance : TField PP 168 4 4 := ⟨fun b o w => by kernel_rfl⟩
instance : TField PP 168 5 5 := ⟨fun b o w => by kernel_rfl⟩
instance : TField PP 168 6 6 := ⟨fun b o w => by kernel_rfl⟩
instance : TField PP 168 7 7 := ⟨fun b o w => by kernel_rfl⟩
instance : TShape PP 169 true 64 := ⟨fun w => by kernel_rfl, fun w => by kernel_rfl⟩
instance : TZero PP 169 [.bool false, .bool false, .bool false, .bool false, .bool false, .int .i64 0, .int .i64 0, .int .i64 0, .bool false, .bool false, .bool false, .bool false, .bool false, .int .i64 0, .int .i64 0, .int .i64 0, .bool false, .bool false, .bool false, .bool false, .bool false, .int .i64 0, .int .i64 0, .int .i64 0, .bool false, .bool false, .bool false, .bool false, .bool false, .int .i64 0, .int .i64 0, .int .i64 0, .bool false, .bool false, .bool false, .bool false, .bool false, .int .i64 0, .int .i64 0, .int .i64 0, .bool false, .bool false, .bool false, .bool false, .bool false, .int .i64 0, .int .i64 0, .int .i64 0, .bool false, .bool false, .bool false, .bool false, .bool false, .int .i64 0, .int .i64 0, .int .i64 0, .bool false, .bool false, .bool false, .bool false, .bool false, .int .i64 0, .int .i64 0, .int .i64 0] := ⟨fun w => ⟨.agg #[.bool false, .bool false, .bool false, .bool false, .bool false, .int .i64 0, .int .i64 0, .int .i64 0, .bool false, .bool false, .bool false, .bool false, .bool false, .int .i64 0, .int .i64 0, .int .i64 0, .bool false, .bool false, .bool false, .bool false, .bool false, .int .i64 0, .int .i64 0, .int .i64 0, .bool false, .bool false, .bool false, .bool false, .bool false, .int .i64 0, .int .i64 0, .int .i64 0, .bool false, .bool false, .bool false, .bool false, .bool false, .int .i64 0, .int .i64 0, .int .i64 0, .bool false, .bool false, .bool false, .bool false, .bool false, .int .i64 0, .int .i64 0, .int .i64 0, .bool false, .bool false, .bool false, .bool false, .bool false, .int .i64 0, .int .i64 0, .int .i64 0, .bool false, .bool false, .bool false, .bool false, .bool false, .int .i64 0, .int .i64 0, .int .i64 0], by kernel_rfl, by kernel_rfl⟩⟩
instance : TUnd PP 169 (.array 8 168) := ⟨by kernel_rfl⟩
instance : TUnd PP 171 (.slice 39) := ⟨by kernel_rfl⟩
theorem en3 : Enters PP 3 := fun args w => by rw [PP_def]; exact Tryz.call3 args w
theorem fn3 : PP.funcs[3]? = some Tryz.f3 := by rw [PP_def]; exact Tryz.func3
theorem en4 : Enters PP 4 := fun args w => by rw [PP_def]; exact Tryz.call4 args w
theorem fn4 : PP.funcs[4]? = some Tryz.f4 := by rw [PP_def]; exact Tryz.func4
theorem en5 : Enters PP 5 := fun args w => by rw [PP_def]; exact Tryz.call5 args w
theorem fn5 : PP.funcs[5]? = some Tryz.f5 := by rw [PP_def]; exact Tryz.func5
theorem en6 : Enters PP 6 := fun args w => by rw [PP_def]; exact Tryz.call6 args w
theorem fn6 : PP.funcs[6]? = some Tryz.f6 := by rw [PP_def]; exact Tryz.func6
theorem en7 : Enters PP 7 := fun args w => by rw [PP_def]; exact Tryz.call7 args w
theorem fn7 : PP.funcs[7]? = some Tryz.f7 := by rw [PP_def]; exact Tryz.func7
theorem en8 : Enters PP 8 := fun args w => by rw [PP_def]; exact Tryz.call8 args w
theorem fn8 : PP.funcs[8]? = some Tryz.f8 := by rw [PP_def]; exact Tryz.func8
theorem en9 : Enters PP 9 := fun args w => by rw [PP_def]; exact Tryz.call9 args w
theorem fn9 : PP.funcs[9]? = some Tryz.f9 := by rw [PP_def]; exact Tryz.func9
theorem en10 : Enters PP 10 := fun args w => by rw [PP_def]; exact Tryz.call10 args w
theorem fn10 : PP.funcs[10]? = some Tryz.f10 := by rw [PP_def]; exact Tryz.func10
theorem en11 : Enters PP 11 := fun args w => by rw [PP_def]; exact Tryz.call11 args w
theorem fn11 : PP.funcs[11]? = some Tryz.f11 := by rw [PP_def]; exact Tryz.func11
theorem en12 : Enters PP 12 := fun args w => by rw [PP_def]; exact Tryz.call12 args w
theorem fn12 : PP.funcs[12]? = some Tryz.f12 := by rw [PP_def]; exact Tryz.func12
theorem en13 : Enters PP 13 := fun args w => by rw [PP_def]; exact Tryz.call13 args w
theorem fn13 : PP.funcs[13]? = some Tryz.f13 := by rw [PP_def]; exact Tryz.func13
theorem en14 : Enters PP 14 := fun args w => by rw [PP_def]; exact Tryz.call14 args w
theorem fn14 : PP.funcs[14]? = some Tryz.f14 := by rw [PP_def]; exact Tryz.func14
theorem en15 : Enters PP 15 := fun args w => by rw [PP_def]; exact Tryz.call15 args w
theorem fn15 : PP.funcs[15]? = some Tryz.f15 := by rw [PP_def]; exact Tryz.func15
theorem en16 : Enters PP 16 := fun args w => by rw [PP_def]; exact Tryz.call16 args w
theorem fn16 : PP.funcs[16]? = some Tryz.f16 := by rw [PP_def]; exact Tryz.func16
theorem en17 : Enters PP 17 := fun args w => by rw [PP_def]; exact Tryz.call17 args w
theorem fn17 : PP.funcs[17]? = some Tryz.f17 := by rw [PP_def]; exact Tryz.func17
theorem en18 : Enters PP 18 := fun args w => by rw [PP_def]; exact Tryz.call18 args w
theorem fn18 : PP.funcs[18]? = some Tryz.f18 := by rw [PP_def]; exact Tryz.func18
theorem en19 : Enters PP 19 := fun args w => by rw [PP_def]; exact Tryz.call19 args w
theorem fn19 : PP.funcs[19]? = some Tryz.f19 := by rw [PP_def]; exact Tryz.func19
theorem en20 : Enters PP 20 := fun args w => by rw [PP_def]; exact Tryz.call20 args w
theorem fn20 : PP.funcs[20]? = some Tryz.f20 := by rw [PP_def]; exact Tryz.func20
theorem en21 : Enters PP 21 := fun args w => by rw [PP_def]; exact Tryz.call21 args w
theorem fn21 : PP.funcs[21]? = some Tryz.f21 := by rw [PP_def]; exact Tryz.func21
theorem en22 : Enters PP 22 := fun args w => by rw [PP_def]; exact Tryz.call22 args w
theorem fn22 : PP.funcs[22]? = some Tryz.f22 := by rw [PP_def]; exact Tryz.func22
theorem en23 : Enters PP 23 := fun args w => by rw [PP_def]; exact Tryz.call23 args w
theorem fn23 : PP.funcs[23]? = some Tryz.f23 := by rw [PP_def]; exact Tryz.func23
theorem en24 : Enters PP 24 := fun args w => by rw [PP_def]; exact Tryz.call24 args w
theorem fn24 : PP.funcs[24]? = some Tryz.f24 := by rw [PP_def]; exact Tryz.func24
theorem en25 : Enters PP 25 := fun args w => by rw [PP_def]; exact Tryz.call25 args w
theorem fn25 : PP.funcs[25]? = some Tryz.f25 := by rw [PP_def]; exact Tryz.func25
theorem en26 : Enters PP 26 := fun args w => by rw [PP_def]; exact Tryz.call26 args w
theorem fn26 : PP.funcs[26]? = some Tryz.f26 := by rw [PP_def]; exact Tryz.func26
theorem en27 : Enters PP 27 := fun args w => by rw [PP_def]; exact Tryz.call27 args w
theorem fn27 : PP.funcs[27]? = some Tryz.f27 := by rw [PP_def]; exact Tryz.func27
theorem en28 : Enters PP 28 := fun args w => by rw [PP_def]; exact Tryz.call28 args w
theorem fn28 : PP.funcs[28]? = some Tryz.f28 := by rw [PP_def]; exact Tryz.func28
theorem en29 : Enters PP 29 := fun args w => by rw [PP_def]; exact Tryz.call29 args w
theorem fn29 : PP.funcs[29]? = some Tryz.f29 := by rw [PP_def]; exact Tryz.func29
theorem en30 : Enters PP 30 := fun args w => by rw [PP_def]; exact Tryz.call30 args w
theorem fn30 : PP.funcs[30]? = some Tryz.f30 := by rw [PP_def]; exact Tryz.func30
theorem en31 : Enters PP 31 := fun args w => by rw [PP_def]; exact Tryz.call31 args w
theorem fn31 : PP.funcs[31]? = some Tryz.f31 := by rw [PP_def]; exact Tryz.func31
theorem en32 : Enters PP 32 := fun args w => by rw [PP_def]; exact Tryz.call32 args w
theorem fn32 : PP.funcs[32]? = some Tryz.f32 := by rw [PP_def]; exact Tryz.func32
theorem en33 : Enters PP 33 := fun args w => by rw [PP_def]; exact Tryz.call33 args w
theorem fn33 : PP.funcs[33]? = some Tryz.f33 := by rw [PP_def]; exact Tryz.func33
theorem en34 : Enters PP 34 := fun args w => by rw [PP_def]; exact Tryz.call34 args w
theorem fn34 : PP.funcs[34]? = some Tryz.f34 := by rw [PP_def]; exact Tryz.func34
theorem en35 : Enters PP 35 := fun args w => by rw [PP_def]; exact Tryz.call35 args w
theorem fn35 : PP.funcs[35]? = some Tryz.f35 := by rw [PP_def]; exact Tryz.func35
theorem en36 : Enters PP 36 := fun args w => by rw [PP_def]; exact Tryz.call36 args w
theorem fn36 : PP.funcs[36]? = some Tryz.f36 := by rw [PP_def]; exact Tryz.func36
theorem en37 : Enters PP 37 := fun args w => by rw [PP_def]; exact Tryz.call37 args w
theorem fn37 : PP.funcs[37]? = some Tryz.f37 := by rw [PP_def]; exact Tryz.func37
theorem en38 : Enters PP 38 := fun args w => by rw [PP_def]; exact Tryz.call38 args w
theorem fn38 : PP.funcs[38]? = some Tryz.f38 := by rw [PP_def]; exact Tryz.func38
theorem en39 : Enters PP 39 := fun args w => by rw [PP_def]; exact Tryz.call39 args w
theorem fn39 : PP.funcs[39]? = some Tryz.f39 := by rw [PP_def]; exact Tryz.func39
theorem en40 : Enters PP 40 := fun args w => by rw [PP_def]; exact Tryz.call40 args w
theorem fn40 : PP.funcs[40]? = some Tryz.f40 := by rw [PP_def]; exact Tryz.func40
theorem en41 : Enters PP 41 := fun args w => by rw [PP_def]; exact Tryz.call41 args w
theorem fn41 : PP.funcs[41]? = some Tryz.f41 := by rw [PP_def]; exact Tryz.func41
theorem en42 : Enters PP 42 := fun args w => by rw [PP_def]; exact Tryz.call42 args w
theorem fn42 : PP.funcs[42]? = some Tryz.f42 := by rw [PP_def]; exact Tryz.func42
theorem en43 : Enters PP 43 := fun args w => by rw [PP_def]; exact Tryz.call43 args w
theorem fn43 : PP.funcs[43]? = some Tryz.f43 := by rw [PP_def]; exact Tryz.func43
theorem en44 : Enters PP 44 := fun args w => by rw [PP_def]; exact Tryz.call44 args w
theorem fn44 : PP.funcs[44]? = some Tryz.f44 := by rw [PP_def]; exact Tryz.func44
theorem en45 : Enters PP 45 := fun args w => by rw [PP_def]; exact Tryz.call45 args w
theorem fn45 : PP.funcs[45]? = some Tryz.f45 := by rw [PP_def]; exact Tryz.func45
theorem en46 : Enters PP 46 := fun args w => by rw [PP_def]; exact Tryz.call46 args w
theorem fn46 : PP.funcs[46]? = some Tryz.f46 := by rw [PP_def]; exact Tryz.func46
theorem en47 : Enters PP 47 := fun args w => by rw [PP_def]; exact Tryz.call47 args w
theorem fn47 : PP.funcs[47]? = some Tryz.f47 := by rw [PP_def]; exact Tryz.func47
theorem en48 : Enters PP 48 := fun args w => by rw [PP_def]; exact Tryz.call48 args w
theorem fn48 : PP.funcs[48]? = some Tryz.f48 := by rw [PP_def]; exact Tryz.func48
theorem en49 : Enters PP 49 := fun args w => by rw [PP_def]; exact Tryz.call49 args w
theorem fn49 : PP.funcs[49]? = some Tryz.f49 := by rw [PP_def]; exact Tryz.func49
theorem en50 : Enters PP 50 := fun args w => by rw [PP_def]; exact Tryz.call50 args w
theorem fn50 : PP.funcs[50]? = some Tryz.f50 := by rw [PP_def]; exact Tryz.func50
theorem en51 : Enters PP 51 := fun args w => by rw [PP_def]; exact Tryz.call51 args w
theorem fn51 : PP.funcs[51]? = some Tryz.f51 := by rw [PP_def]; exact Tryz.func51
theorem en52 : Enters PP 52 := fun args w => by rw [PP_def]; exact Tryz.call52 args w
theorem fn52 : PP.funcs[52]? = some Tryz.f52 := by rw [PP_def]; exact Tryz.func52
theorem en53 : Enters PP 53 := fun args w => by rw [PP_def]; exact Tryz.call53 args w
theorem fn53 : PP.funcs[53]? = some Tryz.f53 := by rw [PP_def]; exact Tryz.func53
theorem en54 : Enters PP 54 := fun args w => by rw [PP_def]; exact Tryz.call54 args w
theorem fn54 : PP.funcs[54]? = some Tryz.f54 := by rw [PP_def]; exact Tryz.func54
theorem en55 : Enters PP 55 := fun args w => by rw [PP_def]; exact Tryz.call55 args w
theorem fn55 : PP.funcs[55]? = some Tryz.f55 := by rw [PP_def]; exact Tryz.func55
theorem en56 : Enters PP 56 := fun args w => by rw [PP_def]; exact Tryz.call56 args w
theorem fn56 : PP.funcs[56]? = some Tryz.f56 := by rw [PP_def]; exact Tryz.func56
theorem en57 : Enters PP 57 := fun args w => by rw [PP_def]; exact Tryz.call57 args w
theorem fn57 : PP.funcs[57]? = some Tryz.f57 := by rw [PP_def]; exact Tryz.func57
theorem en58 : Enters PP 58 := fun args w => by rw [PP_def]; exact Tryz.call58 args w
theorem fn58 : PP.funcs[58]? = some Tryz.f58 := by rw [PP_def]; exact Tryz.func58
theorem en59 : Enters PP 59 := fun args w => by rw [PP_def]; exact Tryz.call59 args w
theorem fn59 : PP.funcs[59]? = some Tryz.f59 := by rw [PP_def]; exact Tryz.func59
theorem en60 : Enters PP 60 := fun args w => by rw [PP_def]; exact Tryz.call60 args w
theorem fn60 : PP.funcs[60]? = some Tryz.f60 := by rw [PP_def]; exact Tryz.func60
theorem en61 : Enters PP 61 := fun args w => by rw [PP_def]; exact Tryz.call61 args w
theorem fn61 : PP.funcs[61]? = some Tryz.f61 := by rw [PP_def]; exact Tryz.func61
theorem en62 : Enters PP 62 := fun args w => by rw [PP_def]; exact Tryz.call62 args w
theorem fn62 : PP.funcs[62]? = some Tryz.f62 := by rw [PP_def]; exact Tryz.func62
theorem en63 : Enters PP 63 := fun args w => by rw [PP_def]; exact Tryz.call63 args w
theorem fn63 : PP.funcs[63]? = some Tryz.f63 := by rw [PP_def]; exact Tryz.func63
theorem en64 : Enters PP 64 := fun args w => by rw [PP_def]; exact Tryz.call64 args w
theorem fn64 : PP.funcs[64]? = some Tryz.f64 := by rw [PP_def]; exact Tryz.func64
theorem en65 : Enters PP 65 := fun args w => by rw [PP_def]; exact Tryz.call65 args w
theorem fn65 : PP.funcs[65]? = some Tryz.f65 := by rw [PP_def]; exact Tryz.func65
theorem en66 : Enters PP 66 := fun args w => by rw [PP_def]; exact Tryz.call66 args w
theorem fn66 : PP.funcs[66]? = some Tryz.f66 := by rw [PP_def]; exact Tryz.func66
theorem en67 : Enters PP 67 := fun args w => by rw [PP_def]; exact Tryz.call67 args w
theorem fn67 : PP.funcs[67]? = some Tryz.f67 := by rw [PP_def]; exact Tryz.func67
theorem en68 : Enters PP 68 := fun args w => by rw [PP_def]; exact Tryz.call68 args w
theorem fn68 : PP.funcs[68]? = some Tryz.f68 := by rw [PP_def]; exact Tryz.func68
theorem en69 : Enters PP 69 := fun args w => by rw [PP_def]; exact Tryz.call69 args w
theorem fn69 : PP.funcs[69]? = some Tryz.f69 := by rw [PP_def]; exact Tryz.func69
theorem en70 : Enters PP 70 := fun args w => by rw [PP_def]; exact Tryz.call70 args w
theorem fn70 : PP.funcs[70]? = some Tryz.f70 := by rw [PP_def]; exact Tryz.func70
theorem en71 : Enters PP 71 := fun args w => by rw [PP_def]; exact Tryz.call71 args w
theorem fn71 : PP.funcs[71]? = some Tryz.f71 := by rw [PP_def]; exact Tryz.func71
theorem en72 : Enters PP 72 := fun args w => by rw [PP_def]; exact Tryz.call72 args w
theorem fn72 : PP.funcs[72]? = some Tryz.f72 := by rw [PP_def]; exact Tryz.func72
theorem en73 : Enters PP 73 := fun args w => by rw [PP_def]; exact Tryz.call73 args w
theorem fn73 : PP.funcs[73]? = some Tryz.f73 := by rw [PP_def]; exact Tryz.func73
theorem en74 : Enters PP 74 := fun args w => by rw [PP_def]; exact Tryz.call74 args w
theorem fn74 : PP.funcs[74]? = some Tryz.f74 := by rw [PP_def]; exact Tryz.func74
theorem en75 : Enters PP 75 := fun args w => by rw [PP_def]; exact Tryz.call75 args w
theorem fn75 : PP.funcs[75]? = some Tryz.f75 := by rw [PP_def]; exact Tryz.func75
theorem en76 : Enters PP 76 := fun args w => by rw [PP_def]; exact Tryz.call76 args w
theorem fn76 : PP.funcs[76]? = some Tryz.f76 := by rw [PP_def]; exact Tryz.func76
theorem en77 : Enters PP 77 := fun args w => by rw [PP_def]; exact Tryz.call77 args w
theorem fn77 : PP.funcs[77]? = some Tryz.f77 := by rw [PP_def]; exact Tryz.func77
theorem en78 : Enters PP 78 := fun args w => by rw [PP_def]; exact Tryz.call78 args w
theorem fn78 : PP.funcs[78]? = some Tryz.f78 := by rw [PP_def]; exact Tryz.func78
theorem en79 : Enters PP 79 := fun args w => by rw [PP_def]; exact Tryz.call79 args w
theorem fn79 : PP.funcs[79]? = some Tryz.f79 := by rw [PP_def]; exact Tryz.func79
theorem en80 : Enters PP 80 := fun args w => by rw [PP_def]; exact Tryz.call80 args w
theorem fn80 : PP.funcs[80]? = some Tryz.f80 := by rw [PP_def]; exact Tryz.func80
theorem en81 : Enters PP 81 := fun args w => by rw [PP_def]; exact Tryz.call81 args w
theorem fn81 : PP.funcs[81]? = some Tryz.f81 := by rw [PP_def]; exact Tryz.func81
theorem en82 : Enters PP 82 := fun args w => by rw [PP_def]; exact Tryz.call82 args w
theorem fn82 : PP.funcs[82]? = some Tryz.f82 := by rw [PP_def]; exact Tryz.func82
theorem en83 : Enters PP 83 := fun args w => by rw [PP_def]; exact Tryz.call83 args w
theorem fn83 : PP.funcs[83]? = some Tryz.f83 := by rw [PP_def]; exact Tryz.func83
theorem en84 : Enters PP 84 := fun args w => by rw [PP_def]; exact Tryz.call84 args w
theorem fn84 : PP.funcs[84]? = some Tryz.f84 := by rw [PP_def]; exact Tryz.func84
theorem en85 : Enters PP 85 := fun args w => by rw [PP_def]; exact Tryz.call85 args w
theorem fn85 : PP.funcs[85]? = some Tryz.f85 := by rw [PP_def]; exact Tryz.func85
theorem en86 : Enters PP 86 := fun args w => by rw [PP_def]; exact Tryz.call86 args w
theorem fn86 : PP.funcs[86]? = some Tryz.f86 := by rw [PP_def]; exact Tryz.func86
theorem en87 : Enters PP 87 := fun args w => by rw [PP_def]; exact Tryz.call87 args w
theorem fn87 : PP.funcs[87]? = some Tryz.f87 := by rw [PP_def]; exact Tryz.func87
theorem en88 : Enters PP 88 := fun args w => by rw [PP_def]; exact Tryz.call88 args w
theorem fn88 : PP.funcs[88]? = some Tryz.f88 := by rw [PP_def]; exact Tryz.func88
theorem en89 : Enters PP 89 := fun args w => by rw [PP_def]; exact Tryz.call89 args w
theorem fn89 : PP.funcs[89]? = some Tryz.f89 := by rw [PP_def]; exact Tryz.func89
theorem en90 : Enters PP 90 := fun args w => by rw [PP_def]; exact Tryz.call90 args w
theorem fn90 : PP.funcs[90]? = some Tryz.f90 := by rw [PP_def]; exact Tryz.func90
theorem en91 : Enters PP 91 := fun args w => by rw [PP_def]; exact Tryz.call91 args w
theorem fn91 : PP.funcs[91]? = some Tryz.f91 := by rw [PP_def]; exact Tryz.func91
theorem en92 : Enters PP 92 := fun args w => by rw [PP_def]; exact Tryz.call92 args w
theorem fn92 : PP.funcs[92]? = some Tryz.f92 := by rw [PP_def]; exact Tryz.func92
theorem en93 : Enters PP 93 := fun args w => by rw [PP_def]; exact Tryz.call93 args w
theorem fn93 : PP.funcs[93]? = some Tryz.f93 := by rw [PP_def]; exact Tryz.func93
theorem en94 : Enters PP 94 := fun args w => by rw [PP_def]; exact Tryz.call94 args w
theorem fn94 : PP.funcs[94]? = some Tryz.f94 := by rw [PP_def]; exact Tryz.func94
theorem en95 : Enters PP 95 := fun args w => by rw [PP_def]; exact Tryz.call95 args w
theorem fn95 : PP.funcs[95]? = some Tryz.f95 := by rw [PP_def]; exact Tryz.func95
theorem en226 : Enters PP 226 := fun args w => by rw [PP_def]; exact Tryz.call226 args w
theorem fn226 : PP.funcs[226]? = some Tryz.f226 := by rw [PP_def]; exact Tryz.func226
theorem en227 : Enters PP 227 := fun args w => by rw [PP_def]; exact Tryz.call227 args w
theorem fn227 : PP.funcs[227]? = some Tryz.f227 := by rw [PP_def]; exact Tryz.func227
theorem en228 : Enters PP 228 := fun args w => by rw [PP_def]; exact Tryz.call228 args w
theorem fn228 : PP.funcs[228]? = some Tryz.f228 := by rw [PP_def]; exact Tryz.func228
theorem en229 : Enters PP 229 := fun args w => by rw [PP_def]; exact Tryz.call229 args w
theorem fn229 : PP.funcs[229]? = some Tryz.f229 := by rw [PP_def]; exact Tryz.func229
theorem en317 : Enters PP 317 := fun args w => by rw [PP_def]; exact Tryz.call317 args w
theorem fn317 : PP.funcs[317]? = some Tryz.f317 := by rw [PP_def]; exact Tryz.func317
theorem en318 : Enters PP 318 := fun args w => by rw [PP_def]; exact Tryz.call318 args w
theorem fn318 : PP.funcs[318]? = some Tryz.f318 := by rw [PP_def]; exact Tryz.func318
theorem en319 : Enters PP 319 := fun args w => by rw [PP_def]; exact Tryz.call319 args w
theorem fn319 : PP.funcs[319]? = some Tryz.f319 := by rw [PP_def]; exact Tryz.func319
end Go.Proofs.YtijbnjaackhlcaaGreatDoor

namespace Sim
open Go Go.Vc
def bs (l : List UInt8) : ByteArray := ⟨l.toArray⟩
def kwL : List ByteArray := [bs [97, 98, 111, 114, 116], bs [97, 110, 100], bs [101, 108, 115, 101], bs [102, 97, 108, 115, 101], bs [104, 111, 115, 116], bs [105, 102], bs [108, 101, 116], bs [110, 111, 116], bs [111, 112], bs [111, 114], bs [114, 101, 112, 101, 97, 116], bs [114, 101, 116, 117, 114, 110], bs [115, 116, 111, 114, 101], bs [116, 114, 117, 101]]
def sgL : List ByteArray := [bs [43], bs [45], bs [42], bs [47], bs [37], bs [61, 61], bs [33, 61], bs [60], bs [60, 61], bs [62], bs [62, 61], bs [97, 110, 100], bs [111, 114]]
def inS (l : List ByteArray) (s : ByteArray) : Bool := l.any fun x => decide (x = s)
def letterB (b : Nat) : Bool := b == 95 || (decide (97 ≤ b) && decide (b ≤ 122)) || (decide (65 ≤ b) && decide (b ≤ 90))
def digitB (b : Nat) : Bool := decide (48 ≤ b) && decide (b ≤ 57)
def charsB : Nat → List UInt8 → Bool
  | _, [] => true
  | i, b :: l => (letterB b.toNat || (decide (i ≠ 0) && digitB b.toNat)) && charsB (i + 1) l
def nameB (s : ByteArray) : Bool := !(decide (s.size = 0) || decide (24 < s.size) || inS kwL s) && charsB 0 s.data.toList
structure RuleT where
  num : Bool
  name : Bool
  meth : Bool
  sign : Bool
  or : Bool
  top : Int
  least : Int
  most : Int
def ruleT (k : Int) : RuleT :=
  if k = 0 then ⟨true, false, false, false, false, 9223372036854775807, 0, 0⟩
  else if k = 1 then ⟨true, false, false, false, false, 1, 0, 0⟩
  else if k = 2 then ⟨false, true, false, false, false, 0, 0, 0⟩
  else if k = 3 then ⟨false, false, false, false, false, 0, 1, 1⟩
  else if k = 4 then ⟨false, false, false, false, false, 0, 1, 1⟩
  else if k = 5 then ⟨false, false, false, true, false, 0, 2, 2⟩
  else if k = 6 then ⟨false, true, true, false, true, 0, 0, 4⟩
  else ⟨false, true, false, false, false, 0, 0, 4⟩
def emptyS (s : ByteArray) : Bool := decide (s.size = 0)
def formE (r : RuleT) (e : PE) : Bool :=
  if (!r.num && decide (e.num ≠ 0)) || (!r.name && !emptyS e.name) || (!r.meth && !r.sign && !emptyS e.meth) then false
  else if r.sign && !inS sgL e.meth then false
  else if decide ((e.args.length : Int) < r.least) || decide (r.most < (e.args.length : Int)) then false
  else decide (e.or.length = 0) || (r.or && decide (e.or.length = 1))
def wrongE0 (e : PE) (d : Int) : Int :=
  if 12 < d then 18 else if e.kind < 0 ∨ 7 < e.kind then 2 else
  if formE (ruleT e.kind) e = false then 5 else
  if ((ruleT e.kind).name && !nameB e.name) || ((ruleT e.kind).meth && !nameB e.meth) then 16 else
  if (ruleT e.kind).num && (decide (e.num < 0) || decide ((ruleT e.kind).top < e.num)) then 3 else 0
mutual
def wrongE : PE → Int → Int
  | .mk k n a b xs os, d => if wrongE0 (.mk k n a b xs os) d ≠ 0 then wrongE0 (.mk k n a b xs os) d else if wrongEs xs (d + 1) ≠ 0 then wrongEs xs (d + 1) else wrongEs os (d + 1)
def wrongEs : List PE → Int → Int
  | [], _ => 0
  | e :: l, d => if wrongE e d ≠ 0 then wrongE e d else wrongEs l d
end
theorem wrongE_eq (e : PE) (d : Int) : wrongE e d = if wrongE0 e d ≠ 0 then wrongE0 e d else if wrongEs e.args (d + 1) ≠ 0 then wrongEs e.args (d + 1) else wrongEs e.or (d + 1) := by
  cases e; rw [wrongE]; rfl
def emptyE (e : PE) : Bool := decide (e.kind = 0) && decide (e.num = 0) && emptyS e.name && emptyS e.meth && decide (e.args.length = 0) && decide (e.or.length = 0)
def hasNm (k : Int) : Bool := decide (k = 0) || decide (k = 1)
def hasEx (k : Int) : Bool := decide (k ≠ 4) && decide (k ≠ 6)
def hasNu (k : Int) : Bool := decide (k = 4) || decide (k = 6)
def formS (s : PS) : Bool :=
  if (!hasNm s.kind && !emptyS s.name) || (!hasNu s.kind && decide (s.num ≠ 0)) || (!hasEx s.kind && !emptyE s.expr) then false
  else if (decide (s.kind ≠ 3) && decide (0 < s.els.length)) || (decide (s.kind ≠ 3) && decide (s.kind ≠ 4) && decide (0 < s.body.length)) then false
  else decide (s.kind ≠ 2) || decide (s.expr.kind = 6) || decide (s.expr.kind = 7)
def wrongS0 (s : PS) (d : Int) : Int :=
  if 12 < d then 18 else if s.kind < 0 ∨ 6 < s.kind then 2 else if formS s = false then 5 else
  if hasNm s.kind && !nameB s.name then 16 else if decide (s.num < 0) || (decide (s.kind = 4) && decide (64 < s.num)) then 3 else
  if hasEx s.kind = true then wrongE s.expr 1 else 0
mutual
def wrongS : PS → Int → Int
  | .mk k n a b xs os, d => if wrongS0 (.mk k n a b xs os) d ≠ 0 then wrongS0 (.mk k n a b xs os) d else if wrongSs xs (d + 1) ≠ 0 then wrongSs xs (d + 1) else wrongSs os (d + 1)
def wrongSs : List PS → Int → Int
  | [], _ => 0
  | e :: l, d => if wrongS e d ≠ 0 then wrongS e d else wrongSs l d
end
theorem wrongS_eq (e : PS) (d : Int) : wrongS e d = if wrongS0 e d ≠ 0 then wrongS0 e d else if wrongSs e.body (d + 1) ≠ 0 then wrongSs e.body (d + 1) else wrongSs e.els (d + 1) := by
  cases e; rw [wrongS]; rfl
structure PO where
  name : ByteArray
  params : List ByteArray
  body : List PS
structure PP' where
  stores : List (ByteArray × ByteArray)
  opers : List PO
def freshN (met : List ByteArray) (name : ByteArray) (more : List ByteArray) : Int := if !nameB name || more.any (fun s => !nameB s) then 16 else if inS met name then 11 else 0
def freshAll : List ByteArray → List ByteArray → Int
  | _, [] => 0
  | met, p :: l => if freshN met p [] ≠ 0 then freshN met p [] else freshAll (met ++ [p]) l
def wrongO (met : List ByteArray) (o : PO) : Int :=
  if freshN met o.name [] ≠ 0 then freshN met o.name [] else if 4 < o.params.length then 15 else
  if freshAll [] o.params ≠ 0 then freshAll [] o.params else wrongSs o.body 1
def wrongD : List ByteArray → List (ByteArray × ByteArray) → Int
  | _, [] => 0
  | met, d :: l => if freshN met d.1 [d.2] ≠ 0 then freshN met d.1 [d.2] else wrongD (met ++ [d.1]) l
def wrongOs : List ByteArray → List PO → Int
  | _, [] => 0
  | met, o :: l => if wrongO met o ≠ 0 then wrongO met o else wrongOs (met ++ [o.name]) l
def checkP (p : PP') : Int :=
  if 12 < p.stores.length ∨ 32 < p.opers.length then 15 else if wrongD [] p.stores ≠ 0 then wrongD [] p.stores else wrongOs [] p.opers
end Sim

namespace Go.Vc
open Sim
abbrev encD (d : ByteArray × ByteArray) : List Value := [.string d.1, .string d.2]
def RdO (w0 : World) (sh : Shared) (o : PO) (cs : List Value) : Prop := ∃ vp vb, cs = [.string o.name, vp, vb] ∧ RdSl w0 sh encY 1 vp o.params ∧ RdSt w0 sh vb o.body
def RdOs (w0 : World) (sh : Shared) : List PO → List (List Value) → Prop
  | [], cl => cl = []
  | o :: l, cl => ∃ c cl', cl = c :: cl' ∧ RdO w0 sh o c ∧ RdOs w0 sh l cl'
def RdOl (w0 : World) (sh : Shared) (v : Value) (l : List PO) : Prop := ∃ cl, RdC w0 sh 3 v cl ∧ RdOs w0 sh l cl
def RdP (w0 : World) (sh : Shared) (v : Value) (p : PP') : Prop := ∃ vs vo, v = .agg #[vs, vo] ∧ RdSl w0 sh encD 2 vs p.stores ∧ RdOl w0 sh vo p.opers
section
variable {w0 : World} {sh sh' : Shared}
theorem RdO.mono {o : PO} {cs : List Value} (h : RdO w0 sh o cs) (hs : ∀ p ∈ sh, p ∈ sh') : RdO w0 sh' o cs := let ⟨vp, vb, h1, h2, h3⟩ := h; ⟨vp, vb, h1, h2.mono hs, h3.mono hs⟩
theorem RdOs.mono (hs : ∀ p ∈ sh, p ∈ sh') : ∀ {l : List PO} {cl : List (List Value)}, RdOs w0 sh l cl → RdOs w0 sh' l cl
  | [], _, h => h
  | _ :: _, _, h => let ⟨c, cl', h1, h2, h3⟩ := h; ⟨c, cl', h1, h2.mono hs, RdOs.mono hs h3⟩
theorem RdOl.mono {v : Value} {l : List PO} (h : RdOl w0 sh v l) (hs : ∀ p ∈ sh, p ∈ sh') : RdOl w0 sh' v l := let ⟨cl, h1, h2⟩ := h; ⟨cl, h1.mono hs, h2.mono hs⟩
theorem RdP.mono {v : Value} {p : PP'} (h : RdP w0 sh v p) (hs : ∀ p ∈ sh, p ∈ sh') : RdP w0 sh' v p := let ⟨vs, vo, h1, h2, h3⟩ := h; ⟨vs, vo, h1, h2.mono hs, h3.mono hs⟩
theorem RdOs.len : ∀ {l : List PO} {cl : List (List Value)}, RdOs w0 sh l cl → cl.length = l.length
  | [], _, h => by rw [show _ = [] from h]; rfl
  | _ :: l, _, h => by
    obtain ⟨c, cl', h1, h2, h3⟩ := h
    rw [h1, List.length_cons, List.length_cons, RdOs.len h3]
theorem RdOs.at : ∀ {l : List PO} {cl : List (List Value)}, RdOs w0 sh l cl → ∀ {i : Nat} {e : PO}, l[i]? = some e → ∃ c, cl[i]? = some c ∧ RdO w0 sh e c
  | [], _, _, i, e, he => by simp at he
  | _ :: l, _, h, i, e, he => by
    obtain ⟨c, cl', h1, h2, h3⟩ := h
    subst h1
    cases i with
    | zero => simp at he; subst he; exact ⟨c, rfl, h2⟩
    | succ i => rw [List.getElem?_cons_succ] at he ⊢; exact RdOs.at h3 he
theorem RdOl.len {v : Value} {l : List PO} (h : RdOl w0 sh v l) : ∃ a cap, v = .slice a l.length cap ∧ l.length ≤ cap := by
  obtain ⟨cl, h1, h2⟩ := h
  obtain ⟨a, cap, e, hc, _⟩ := id h1
  rw [h2.len] at e hc
  exact ⟨a, cap, e, hc⟩
theorem RdOl.at {a : Option Addr} {len cap : Nat} {l : List PO} (h : RdOl w0 sh (.slice a len cap) l) {i : Nat} {e : PO} (he : l[i]? = some e) :
    ∃ b off c T fr cs, a = some ⟨b, off, none⟩ ∧ (∀ hF Γ w, Sh sh hF → St w0 hF Γ w → w.heap[b]? = some (.cells c T fr)) ∧ (∀ o, o = off + i * 3 → rd true 3 c.toList o = some (.agg (List.toArray cs))) ∧ RdO w0 sh e cs ∧ (∀ k u, cs[k]? = some u → ∀ o, o = off + i * 3 + k → rd false 1 c.toList o = some u) := by
  obtain ⟨cl, h1, h2⟩ := h
  obtain ⟨c0, h3, h4⟩ := h2.at he
  obtain ⟨b, off, c, T, fr, e1, e2, e3, e4⟩ := h1.cells h3
  exact ⟨b, off, c, T, fr, c0, e1, e2, e3, h4, e4⟩
end
end Go.Vc

namespace Sim
open Go Go.Vc
def ctNames : List ByteArray := [bs [99, 111, 117, 110, 116, 101, 114], bs [115, 116, 97, 99, 107], bs [113, 117, 101, 117, 101], bs [100, 101, 113, 117, 101], bs [109, 97, 112], bs [116, 114, 101, 101], bs [104, 101, 97, 112], bs [97, 114, 114, 97, 121], bs [103, 114, 97, 112, 104], bs [102, 111, 114, 101, 115, 116]]
def ctRows : List (List (ByteArray × Int × Bool)) := [
  [(bs [103, 101, 116], 0, false), (bs [97, 100, 100], 1, true), (bs [115, 101, 116], 1, true)],
  [(bs [112, 117, 115, 104], 1, true), (bs [112, 111, 112], 0, true), (bs [116, 111, 112], 0, false), (bs [108, 101, 110], 0, false)],
  [(bs [112, 117, 116], 1, true), (bs [116, 97, 107, 101], 0, true), (bs [102, 105, 114, 115, 116], 0, false), (bs [108, 101, 110], 0, false)],
  [(bs [112, 117, 115, 104, 95, 108, 101, 102, 116], 1, true), (bs [112, 117, 115, 104, 95, 114, 105, 103, 104, 116], 1, true), (bs [112, 111, 112, 95, 108, 101, 102, 116], 0, true), (bs [112, 111, 112, 95, 114, 105, 103, 104, 116], 0, true), (bs [108, 101, 102, 116], 0, false), (bs [114, 105, 103, 104, 116], 0, false), (bs [108, 101, 110], 0, false)],
  [(bs [112, 117, 116], 2, true), (bs [103, 101, 116], 1, false), (bs [104, 97, 115], 1, false), (bs [100, 114, 111, 112], 1, true), (bs [108, 101, 110], 0, false)],
  [(bs [112, 117, 116], 2, true), (bs [103, 101, 116], 1, false), (bs [104, 97, 115], 1, false), (bs [100, 114, 111, 112], 1, true), (bs [115, 117, 109], 2, false), (bs [99, 111, 117, 110, 116], 2, false), (bs [110, 101, 120, 116], 1, false), (bs [110, 116, 104], 1, false), (bs [108, 101, 110], 0, false)],
  [(bs [112, 117, 115, 104], 2, true), (bs [112, 111, 112], 0, true), (bs [109, 105, 110], 0, false), (bs [108, 101, 97, 115, 116], 0, false), (bs [108, 111, 119, 101, 114], 2, true), (bs [100, 114, 111, 112], 1, true), (bs [108, 101, 110], 0, false)],
  [(bs [112, 117, 115, 104], 1, true), (bs [112, 111, 112], 0, true), (bs [103, 101, 116], 1, false), (bs [115, 101, 116], 2, true), (bs [115, 119, 97, 112], 2, true), (bs [108, 101, 110], 0, false)],
  [(bs [97, 100, 100], 1, true), (bs [108, 105, 110, 107], 3, true), (bs [99, 117, 116], 1, true), (bs [100, 114, 111, 112], 1, true), (bs [119, 101, 105, 103, 104, 116], 2, false), (bs [108, 97, 98, 101, 108], 1, false), (bs [111, 117, 116, 115], 1, false), (bs [105, 110, 115], 1, false), (bs [118, 101, 114, 116, 105, 99, 101, 115], 0, false), (bs [101, 100, 103, 101, 115], 0, false)],
  [(bs [109, 97, 107, 101], 0, true), (bs [102, 105, 110, 100], 1, false), (bs [117, 110, 105, 111, 110], 2, true), (bs [117, 110, 100, 111], 0, true), (bs [115, 97, 109, 101], 2, false), (bs [115, 105, 122, 101], 1, false), (bs [115, 101, 116, 115], 0, false)]]
def ixS : List ByteArray → ByteArray → Nat → Option Nat
  | [], _, _ => none
  | x :: l, s, i => if x = s then some i else ixS l s (i + 1)
def ctKind (s : ByteArray) : Option Nat := ixS ctNames s 0
def ctMeths (k : Int) : List (ByteArray × Int × Bool) := if 0 ≤ k ∧ k ≤ 9 then ctRows.getD k.toNat [] else []
def ctName (k : Int) : ByteArray := if 0 ≤ k ∧ k ≤ 9 then ctNames.getD k.toNat (bs []) else bs []
def ctFind (k : Int) (s : ByteArray) : Option (ByteArray × Int × Bool) := (ctMeths k).find? fun m => decide (m.1 = s)
end Sim

namespace Sim
def ixZ (s : ByteArray) : List ByteArray → Int → Int
  | [], _ => -1
  | x :: l, k => if s = x then k else ixZ s l (k + 1)
theorem ixZ_in (s : ByteArray) : ∀ (l : List ByteArray) (k : Int), 0 ≤ k → decide (0 ≤ ixZ s l k) = inS l s
  | [], k, _ => by simp [ixZ, inS]
  | x :: l, k, h => by
    have ih := ixZ_in s l (k + 1) (by omega)
    by_cases e : s = x
    · have e1 : ixZ s (x :: l) k = k := by rw [ixZ, if_pos e]
      rw [e1]; subst e; simp [inS, h]
    · have e1 : ixZ s (x :: l) k = ixZ s l (k + 1) := by rw [ixZ, if_neg e]
      rw [e1, ih]
      simp only [inS, List.any_cons]
      rw [decide_eq_false (p := x = s) (fun h => e h.symm), Bool.false_or]
theorem ixZ_ixS (s : ByteArray) : ∀ (l : List ByteArray) (i : Nat), ixZ s l i = match ixS l s i with | some j => (j : Int) | none => -1
  | [], i => rfl
  | x :: l, i => by
    have ih := ixZ_ixS s l (i + 1)
    simp only [ixZ, ixS] at ih ⊢
    by_cases e : s = x
    · subst e; simp
    · rw [if_neg e, if_neg (fun h => e h.symm), ← ih]; rfl
end Sim
namespace Go.Vc
open Sim
def kwCells : List Value := kwL.flatMap encY
def KwOk (w0 : World) : Prop := ∃ T fr, w0.heap[0]? = some (.cells (List.toArray kwCells) T fr)
theorem KwOk.rd {w0 : World} (h : KwOk w0) (sh : Shared) : RdSl w0 sh encY 1 (.slice (some ⟨0, 0, none⟩) 14 14) kwL := by
  obtain ⟨T, fr, h⟩ := h
  refine ⟨_, 14, rfl, Nat.le_refl _, .inr ⟨0, 0, _, T, fr, rfl, fun hF Γ w _ hst => (hst.base (Array.getElem?_eq_some_iff.1 h).1).trans h, fun i x hx => ⟨rfl, fun k u hu => ?_⟩⟩⟩
  have := flat_at (encE := encY) (q := 1) kwL (fun _ _ => rfl) i x hx k u hu
  simpa [kwCells] using this
end Go.Vc
namespace Go.Proofs.YtijbnjaackhlcaaGreatDoor
open Go.Vc Sim
theorem index_spec (w0 : World) (sh : Shared) (a : Option Addr) (cap : Nat) (l : List ByteArray) (s : ByteArray) (hl : RdSl w0 sh encY 1 (.slice a l.length cap) l) (hb : l.length ≤ 1099511627776) :
    FnE PP w0 sh 41 [.slice a l.length cap, .string s] [] (.int .i64 (ixZ s l 0)) [] := by
  refine fn_of_run en41 fn41 rfl rfl rfl ?_
  repeat' (first | refine zck ?_ | refine zcp (by kernel_rfl) ?_ | refine zcl ?_ | (refine zap rfl ?_; first | refine zan rfl ?_ | refine zan rfl ?_ | refine zce rfl ?_) | refine zch ?_)
  refine run_loop (S := Nat) (fun j => [(0, .slice a l.length cap), (1, .string s), (7, .int .i64 l.length), (8, .int .i64 j)])
    (fun j Γ => Γ = [] ∧ j ≤ l.length ∧ ixZ s (l.drop j) j = ixZ s l 0) (fun j => l.length - j) 0 ⟨rfl, rfl, rfl, rfl, trivial⟩ ⟨rfl, by omega, rfl⟩ ?_
  rintro j Γ junk ⟨rfl, g1, g2⟩
  by_cases hj : j < l.length
  · obtain ⟨x, hx⟩ : ∃ x, l[j]? = some x := ⟨_, List.getElem?_eq_getElem hj⟩
    obtain ⟨b, off, c, T, fr, rfl, e2, _, e3⟩ := hl.cells hx
    have hd : l.drop j = x :: l.drop (j + 1) := by
      rw [List.drop_eq_getElem_cons hj]
      congr 1
      exact (List.getElem?_eq_some_iff.1 hx).2
    rw [hd, ixZ] at g2
    by_cases hs : s = x
    · rw [if_pos hs] at g2
      repeat' (first | refine zck ?_ | refine zcp (by kernel_rfl) ?_ | refine zcm ?_ | refine zcl ?_ | (refine zap rfl ?_; first | refine zad rfl e2 (e3 0 _ rfl _ (by omega)) ?_ | refine reg_eqST rfl rfl hs ?_ | refine zan rfl ?_ | refine zan rfl ?_ | refine zbg rfl rfl (by omega) ?_ | refine zas rfl rfl (by omega) ?_) | refine zch ?_ | refine zci rfl ?_)
      exact qret1 (fun _ _ h => h) rfl ⟨by rw [← g2]; rfl, rfl⟩
    · rw [if_neg hs] at g2
      repeat' (first | refine zck ?_ | refine zcp (by kernel_rfl) ?_ | refine zcm ?_ | refine zcl ?_ | refine zcn ?_ | (refine zap rfl ?_; first | refine zad rfl e2 (e3 0 _ rfl _ (by omega)) ?_ | refine reg_eqSF rfl rfl hs ?_ | refine zan rfl ?_ | refine zan rfl ?_ | refine zbg rfl rfl (by omega) ?_ | refine zau rfl rfl (by omega) ?_ | refine zas rfl rfl (by omega) ?_) | refine zch ?_ | refine zci rfl ?_ | refine zcj rfl ?_)
      exact cut_end ⟨rfl, j + 1, ⟨rfl, rfl, rfl, int_eq (by omega), trivial⟩, ⟨rfl, by omega, by rw [← g2]; rfl⟩, by omega⟩
  · repeat' (first | refine zck ?_ | refine zcp (by kernel_rfl) ?_ | (refine zap rfl ?_; first | refine zbh rfl rfl (by omega) ?_) | refine zch ?_ | refine zcj rfl ?_)
    refine cut_exit rfl rfl ?_
    repeat' (first | refine zck ?_ | refine zcp (by kernel_rfl) ?_ | (refine zap rfl ?_; first | refine zan rfl ?_) | refine zch ?_)
    rw [List.drop_of_length_le (by omega)] at g2
    exact ret_tmp1 rfl ⟨by rw [← g2]; rfl, rfl⟩
theorem contains_spec (w0 : World) (sh : Shared) (a : Option Addr) (cap : Nat) (l : List ByteArray) (s : ByteArray) (hl : RdSl w0 sh encY 1 (.slice a l.length cap) l) (hb : l.length ≤ 1099511627776) :
    FnE PP w0 sh 63 [.slice a l.length cap, .string s] [] (.bool (inS l s)) [] := by
  refine fn_of_run en63 fn63 rfl rfl rfl ?_
  repeat' (first | refine zck ?_ | refine zcp (by kernel_rfl) ?_ | (refine zap rfl ?_; first | refine zan rfl ?_ | refine zan rfl ?_ | refine zah [] (index_spec w0 sh a cap l s hl hb) rfl rfl rfl (fun _ h => h) rfl ?_ | refine zbt rfl rfl ?_) | refine zch ?_)
  exact ret_tmp1 rfl ⟨bool_eq (ixZ_in s l 0 (Int.le_refl _)), rfl⟩
theorem contains_v (w0 : World) (sh : Shared) (v : Value) (l : List ByteArray) (s : ByteArray) (hl : RdSl w0 sh encY 1 v l) (hb : l.length ≤ 1099511627776) :
    FnE PP w0 sh 63 [v, .string s] [] (.bool (inS l s)) [] := by
  obtain ⟨a, cap, e, _⟩ := id hl
  subst e
  exact contains_spec w0 sh a cap l s hl hb
theorem clone_spec (w0 : World) (sh : Shared) (b cap : Nat) (l : List ByteArray) (hl : RdSl w0 sh encY 1 (.slice (some ⟨b, 0, none⟩) l.length cap) l) (hb : l.length ≤ 1000000) :
    Vc.Fn PP w0 sh 80 [.slice (some ⟨b, 0, none⟩) l.length cap] [] (fun v Γ => ∃ a c, v = .slice a l.length c ∧ Γ = [SlA 9 1 a l.length c (l.flatMap encY)]) := by
  have h1 : allOne (l.flatMap encY) = true := by
    rw [← unB_map l, ← strsV_y]; exact strsV_one _
  refine fn_of_run en80 fn80 rfl rfl rfl ?_
  repeat' (first | refine zck ?_ | refine zcp (by kernel_rfl) ?_ | refine zcm ?_ | (refine zap rfl ?_; first | refine reg_eq_sl1 rfl rfl ?_ | refine reg_buildSlice rfl rfl rfl rfl rfl rfl (fun nb => ?_) | refine zan rfl ?_ | refine zan rfl ?_ | (refine reg_own 0 rfl rfl (len := 0) (cap := 0) (sz := 1) ⟨rfl, Nat.le_refl _, Nat.le_refl _⟩ rfl ?_; refine reg_append_rdE 0 rfl rfl hl (by decide) h1 rfl rfl (by omega) (fun _ _ => rfl) (fun a3 c3 => ?_))) | refine zch ?_ | refine zcj rfl ?_)
  rw [Nat.zero_add]
  exact ret_tmp1 rfl ⟨_, _, rfl, rfl⟩
theorem keywords_spec (w0 : World) (hk : KwOk w0) : Vc.Fn PP w0 [] 64 [] [] (fun v Γ => Γ = [Rds fun bl => RdSl w0 bl encY 1 v kwL]) := by
  refine fn_of_run en64 fn64 rfl rfl rfl ?_
  repeat' (first | refine zck ?_ | refine zcp (by kernel_rfl) ?_ | (refine zap rfl ?_; first | refine reg_slice_arr rfl (by decide) ?_ | refine zan rfl ?_ | (refine zai [] (clone_spec w0 [] 0 14 kwL (hk.rd _) (by decide)) rfl rfl rfl sub_nil ?_; rintro v Γ ⟨a, c, rfl, rfl⟩)) | refine zch ?_)
  refine run_slR encY 0 (l := kwL) rfl rfl (fun _ _ => rfl) rfl rfl ?_
  exact ret_tmp1 rfl rfl
theorem charsB_at {l : List UInt8} {i : Nat} {b : UInt8} (hb : l[i]? = some b) : charsB i (l.drop i) = ((letterB b.toNat || (decide (i ≠ 0) && digitB b.toNat)) && charsB (i + 1) (l.drop (i + 1))) := by
  have hi := (List.getElem?_eq_some_iff.1 hb).1
  rw [List.drop_eq_getElem_cons hi, charsB, (List.getElem?_eq_some_iff.1 hb).2]
set_option maxHeartbeats 4000000 in
theorem isName_spec (w0 : World) (hk : KwOk w0) (s : ByteArray) : FnE PP w0 [] 45 [.string s] [] (.bool (nameB s)) [] := by
  obtain ⟨B, hB⟩ : ∃ B, inS kwL s = B := ⟨_, rfl⟩
  have hc : ∀ sh' v, RdSl w0 sh' encY 1 v kwL → FnE PP w0 sh' 63 [v, .string s] [] (.bool B) [] := fun sh' v h => by rw [← hB]; exact contains_v w0 sh' v kwL s h (by decide)
  refine fn_of_run en45 fn45 rfl rfl rfl ?_
  by_cases h0 : s = ⟨#[]⟩
  · have h1 : nameB s = false := by unfold nameB; rw [decide_eq_true (size_bs.2 h0)]; rfl
    rw [h1]
    repeat' (first | refine zck ?_ | refine zcp (by kernel_rfl) ?_ | (refine zap rfl ?_; first | refine reg_eqST rfl rfl (by assumption) ?_ | refine zak rfl ?_ | refine zan rfl ?_ | refine zan rfl ?_ | refine zbu rfl ?_) | refine zch ?_ | refine zci rfl ?_)
    exact ret_tmp1 rfl ⟨rfl, rfl⟩
  by_cases h24 : 24 < s.size
  · have h1 : nameB s = false := by unfold nameB; rw [decide_eq_true h24]; simp
    rw [h1]
    repeat' (first | refine zck ?_ | refine zcp (by kernel_rfl) ?_ | (refine zap rfl ?_; first | refine reg_eqSF rfl rfl (by assumption) ?_ | refine zaj rfl ?_ | refine zak rfl ?_ | refine zan rfl ?_ | refine zan rfl ?_ | refine reg_lenS rfl ?_ | refine zbk rfl rfl (by omega) ?_ | refine zbu rfl ?_ | refine zbv rfl ?_) | refine zch ?_ | refine zci rfl ?_)
    refine run_take [] rfl ?_
    exact ret_tmp1 rfl ⟨rfl, rfl⟩
  cases B with
  | true =>
    have h1 : nameB s = false := by unfold nameB; rw [hB]; simp
    rw [h1]
    repeat' (first | refine zck ?_ | refine zcp (by kernel_rfl) ?_ | (refine zap rfl ?_; first | refine reg_eqSF rfl rfl (by assumption) ?_ | refine zaj rfl ?_ | refine zan rfl ?_ | refine zan rfl ?_ | refine reg_lenS rfl ?_ | (refine zai [] (keywords_spec w0 hk) rfl rfl rfl sub_nil ?_; rintro v Γ rfl) | (refine zai [0] (Fn.lendR en63 (fun sh' bl h1 h2 h3 => hc sh' _ (h3.mono h2))) rfl rfl rfl sub_nil ?_; rintro v Γ ⟨_, ⟨rfl, rfl⟩, rfl⟩) | refine zbl rfl rfl (by omega) ?_ | refine zbv rfl ?_) | refine zch ?_ | refine zci rfl ?_)
    refine run_take [] rfl ?_
    exact ret_tmp1 rfl ⟨rfl, rfl⟩
  | false =>
    have h1 : nameB s = charsB 0 s.data.toList := by
      have h2 : ¬ s.size = 0 := fun e => h0 (size_bs.1 e)
      unfold nameB; rw [hB, decide_eq_false h2, decide_eq_false h24]; rfl
    rw [h1]
    clear h1
    repeat' (first | refine zck ?_ | refine zcp (by kernel_rfl) ?_ | refine zcm ?_ | refine zcl ?_ | (refine zap rfl ?_; first | refine reg_eqSF rfl rfl (by assumption) ?_ | refine reg_bytesS rfl (fun nb cap spare fr => ?_) | refine zaj rfl ?_ | refine zan rfl ?_ | refine zan rfl ?_ | refine reg_lenS rfl ?_ | (refine zai [] (keywords_spec w0 hk) rfl rfl rfl sub_nil ?_; rintro v Γ rfl) | (refine zai [0] (Fn.lendR en63 (fun sh' bl h1 h2 h3 => hc sh' _ (h3.mono h2))) rfl rfl rfl sub_nil ?_; rintro v Γ ⟨_, ⟨rfl, rfl⟩, rfl⟩) | refine zce rfl ?_ | refine zbl rfl rfl (by omega) ?_ | refine zbv rfl ?_) | refine zch ?_ | refine zcj rfl ?_)
    refine run_take [0] rfl ?_
    obtain ⟨c, hcc⟩ : ∃ c, c = bytesV s ++ spare := ⟨_, rfl⟩
    rw [← hcc]
    refine run_share [0] rfl ?_
    have hsz : s.data.toList.length = s.size := by simp
    refine run_loop (S := Nat) (fun j => [(0, .string s), (19, .slice (some ⟨nb, 0, none⟩) s.size cap), (20, .int .i64 s.size), (21, .int .i64 j)])
      (fun j Γ => Γ = [] ∧ j ≤ s.size ∧ charsB j (s.data.toList.drop j) = charsB 0 s.data.toList) (fun j => s.size - j) 0 ⟨rfl, rfl, rfl, rfl, trivial⟩ ⟨rfl, by omega, rfl⟩ ?_
    rintro j Γ junk ⟨rfl, g1, g2⟩
    by_cases hj : j < s.size
    · obtain ⟨b, hb⟩ : ∃ b, s.data.toList[j]? = some b := ⟨_, List.getElem?_eq_getElem (by omega)⟩
      have hr : ∀ o, o = 0 + j * 1 → rd false 1 c o = some (.int .u8 (b.toNat : Int)) := fun o h => by rw [hcc]; exact bytesV_rd (spare := spare) hb o h
      rw [charsB_at hb] at g2
      have hbt : b.toNat < 256 := b.toNat_lt
      generalize hN : b.toNat = N at g2 hbt hr
      by_cases hL : letterB N = true
      · rw [hL] at g2
        have h3 : N = 95 ∨ (97 ≤ N ∧ N ≤ 122) ∨ (65 ≤ N ∧ N ≤ 90) := by
          unfold letterB at hL
          simp at hL
          omega
        rcases h3 with h3 | h3 | h3
        all_goals
          repeat' (first | refine zck ?_ | refine zcp (by kernel_rfl) ?_ | refine zcm ?_ | refine zcl ?_ | refine zcn ?_ | (refine zap rfl ?_; first | refine zaa 0 rfl rfl (hr _ (by omega)) ?_ | refine zaj rfl ?_ | refine zak rfl ?_ | refine zal rfl ?_ | refine zan rfl ?_ | refine zan rfl ?_ | refine zbc rfl rfl (by omega) ?_ | refine zbd rfl rfl (by omega) ?_ | refine zbg rfl rfl (by omega) ?_ | refine zbi rfl rfl (by omega) ?_ | refine zbm rfl rfl (by omega) ?_ | refine zbn rfl rfl (by omega) ?_ | refine zau rfl rfl (by omega) ?_ | refine zbx rfl ?_ | refine zbu rfl ?_ | refine zbv rfl ?_ | refine zas rfl rfl (by omega) ?_) | refine zch ?_ | refine zci rfl ?_ | refine zcj rfl ?_)
          rw [Bool.true_or, Bool.true_and] at g2
          exact cut_end ⟨rfl, j + 1, ⟨rfl, rfl, rfl, int_eq (by omega), trivial⟩, ⟨rfl, by omega, g2⟩, by omega⟩
      · have hL : letterB N = false := by simpa using hL
        rw [hL, Bool.false_or] at g2
        have h3 : N ≠ 95 ∧ ¬ (97 ≤ N ∧ N ≤ 122) ∧ ¬ (65 ≤ N ∧ N ≤ 90) := by
          unfold letterB at hL
          simp at hL
          omega
        by_cases hj0 : j = 0
        · rw [decide_eq_false (by omega), Bool.false_and, Bool.false_and] at g2
          have h4 : N < 65 ∨ (90 < N ∧ N < 97) ∨ 122 < N := by omega
          rcases h4 with h4 | h4 | h4
          all_goals
            rw [← g2]
            repeat' (first | refine zck ?_ | refine zcp (by kernel_rfl) ?_ | refine zcm ?_ | refine zcl ?_ | (refine zap rfl ?_; first | refine zaa 0 rfl rfl (hr _ (by omega)) ?_ | refine zaj rfl ?_ | refine zak rfl ?_ | refine zan rfl ?_ | refine zan rfl ?_ | refine zbc rfl rfl (by omega) ?_ | refine zbd rfl rfl (by omega) ?_ | refine zbg rfl rfl (by omega) ?_ | refine zbj rfl rfl (by omega) ?_ | refine zbm rfl rfl (by omega) ?_ | refine zbn rfl rfl (by omega) ?_ | refine zbx rfl ?_ | refine zbu rfl ?_ | refine zbv rfl ?_ | refine zas rfl rfl (by omega) ?_) | refine zch ?_ | refine zci rfl ?_)
            exact qret1 (fun _ _ h => h) rfl ⟨rfl, rfl⟩
        rw [decide_eq_true (by omega), Bool.true_and] at g2
        by_cases hd : 48 ≤ N ∧ N ≤ 57
        · have hd2 : digitB N = true := by unfold digitB; simp; omega
          rw [hd2, Bool.true_and] at g2
          repeat' (first | refine zck ?_ | refine zcp (by kernel_rfl) ?_ | refine zcm ?_ | refine zcl ?_ | refine zcn ?_ | (refine zap rfl ?_; first | refine zaa 0 rfl rfl (hr _ (by omega)) ?_ | refine zaj rfl ?_ | refine zak rfl ?_ | refine zan rfl ?_ | refine zan rfl ?_ | refine zbd rfl rfl (by omega) ?_ | refine zbg rfl rfl (by omega) ?_ | refine zbh rfl rfl (by omega) ?_ | refine zbl rfl rfl (by omega) ?_ | refine zbn rfl rfl (by omega) ?_ | refine zau rfl rfl (by omega) ?_ | refine zbx rfl ?_ | refine zbu rfl ?_ | refine zbv rfl ?_ | refine zas rfl rfl (by omega) ?_) | refine zch ?_ | refine zci rfl ?_ | refine zcj rfl ?_)
          exact cut_end ⟨rfl, j + 1, ⟨rfl, rfl, rfl, int_eq (by omega), trivial⟩, ⟨rfl, by omega, g2⟩, by omega⟩
        · have hd2 : digitB N = false := by unfold digitB; simp; omega
          rw [hd2, Bool.false_and] at g2
          have h4 : N < 48 ∨ (57 < N ∧ N < 65) ∨ (90 < N ∧ N < 97) ∨ 122 < N := by omega
          rcases h4 with h4 | h4 | h4 | h4
          all_goals
            rw [← g2]
            repeat' (first | refine zck ?_ | refine zcp (by kernel_rfl) ?_ | refine zcm ?_ | refine zcl ?_ | (refine zap rfl ?_; first | refine zaa 0 rfl rfl (hr _ (by omega)) ?_ | refine zaj rfl ?_ | refine zak rfl ?_ | refine zan rfl ?_ | refine zan rfl ?_ | refine zbd rfl rfl (by omega) ?_ | refine zbg rfl rfl (by omega) ?_ | refine zbh rfl rfl (by omega) ?_ | refine zbj rfl rfl (by omega) ?_ | refine zbk rfl rfl (by omega) ?_ | refine zbm rfl rfl (by omega) ?_ | refine zbn rfl rfl (by omega) ?_ | refine zbx rfl ?_ | refine zbu rfl ?_ | refine zbv rfl ?_ | refine zas rfl rfl (by omega) ?_) | refine zch ?_ | refine zci rfl ?_)
            exact qret1 (fun _ _ h => h) rfl ⟨rfl, rfl⟩
    · repeat' (first | refine zck ?_ | refine zcp (by kernel_rfl) ?_ | (refine zap rfl ?_; first | refine zbh rfl rfl (by omega) ?_) | refine zch ?_ | refine zcj rfl ?_)
      refine cut_exit rfl rfl ?_
      repeat' (first | refine zck ?_ | refine zcp (by kernel_rfl) ?_ | (refine zap rfl ?_; first | refine zan rfl ?_) | refine zch ?_)
      rw [List.drop_of_length_le (by omega)] at g2
      exact ret_tmp1 rfl ⟨by rw [← g2]; rfl, rfl⟩
end Go.Proofs.YtijbnjaackhlcaaGreatDoor

namespace Go.Proofs.YtijbnjaackhlcaaGreatDoor
open Go.Vc Sim Go.ChangeShapes Go.WideShapes Go.RowKit
set_option maxRecDepth 100000
theorem cOwn : ownKnob Tryz.prog.godebug = none := by kernel_rfl
theorem cLaid : laidOutB Tryz.prog = true := by kernel_rfl
def nKw : String := Rows.typesCheckRow.named.headD ""
def nPw : String := Rows.typesCheckRow.named.getD 1 ""
def lKw : List (String × DataW Unit) := [(nKw, Rows.laid_simulcast_lexer_keywords), (nPw, Rows.laid_simulcast_array_powers)]
theorem gKw : Tryz.prog.globalNamed nKw = some 0 := by kernel_rfl
theorem tKw : (Tryz.prog.globals[0]?).map (·.type) = some 158 := by kernel_rfl
def strData (l : List ByteArray) : DataW Unit := .agg (l.map fun s => .lit (.string s.data.toList))
theorem laid_eq : (Rows.laid_simulcast_lexer_keywords : DataW Unit) = strData kwL := rfl
theorem cells_of_strs {H : Type} {enc : TypeId × Value → H} {P : Program} {w : World} {base : Nat} {sp : Nat → Bool} {held : Bool} {fuel : Nat} {t e : TypeId} {n : Nat} {cs : List Value} {l : List ByteArray} {x : DataW H × List MemPlace}
    (ht : P.underlying t = some (.array n e)) (he : P.underlying e = some .string) (hce : P.cellsOf e = 1) (hct : P.cellsOf t = n) (hx : x.1 = .agg (l.map fun s => .lit (.string s.data.toList)))
    (h : DataW.trod enc P w base sp held fuel t cs = some x) : cs = l.flatMap encY := by
  obtain ⟨xs, m, _, rfl, hl, hxl, hf⟩ := DataW.trod_array ht h
  have hxs : xs.map (·.1) = l.map fun s => (DataW.lit (.string s.data.toList) : DataW H) := by simpa using hx
  rw [hct] at hl
  have hll : l.length = n := by
    have := congrArg List.length hxs
    simp at this
    omega
  have hfl : l.flatMap encY = l.map fun s => Value.string s := by
    clear hx hxs hll
    induction l with
    | nil => rfl
    | cons a l ih => rw [List.flatMap_cons, ih]; rfl
  rw [hfl]
  apply List.ext_getElem?
  intro i
  by_cases hi : i < n
  · have h1 := hf i hi
    rw [hce] at h1
    have h2 : xs[i]? = some xs[i] := List.getElem?_eq_getElem (by omega)
    rw [h2] at h1
    obtain ⟨s, hc, hz, _⟩ := DataW.trod_string he h1
    have h3 : cs[i]? = some (.string s) := by
      have := congrArg (·[0]?) hc
      simpa [List.getElem?_take, List.getElem?_drop] using this
    have h4 : (xs.map (·.1))[i]? = some (DataW.lit (.string s.data.toList) : DataW H) := by simp [h2, hz]
    rw [hxs] at h4
    simp only [List.getElem?_map, Option.map_eq_some_iff, DataW.lit.injEq, Lit.string.injEq] at h4
    obtain ⟨s', hs', he'⟩ := h4
    have : s' = s := WideShapes.bytes_inj he'
    subst this
    simp [h3, hs']
  · rw [List.getElem?_eq_none (by omega), List.getElem?_eq_none (by simp; omega)]
theorem kw_ok {W : World} (h : laidMetH Tryz.prog lKw W) : KwOk W := by
  rw [MakeChecks.laidMetH_plain _ _ _ (by kernel_rfl), lKw, laid_eq] at h
  obtain ⟨ps, ⟨g', t', cs, fuel, p, q, hg', ht', hvar, hd, _, _⟩, _⟩ := h
  obtain rfl := Option.some.inj (gKw.symm.trans hg')
  obtain rfl := Option.some.inj (tKw.symm.trans ht')
  have hcs := cells_of_strs (l := kwL) Tryz.underlying158 Tryz.underlying9 (by kernel_rfl) (by kernel_rfl) rfl hd
  unfold World.var? at hvar
  rw [gKw] at hvar
  simp only [Option.bind_some] at hvar
  split at hvar
  · rename_i c T fr hc
    cases hvar
    exact ⟨T, fr, by rw [hc, kwCells, ← hcs]⟩
  · cases hvar
theorem door_met (os : Os) (args : Array Value) : laidMetH Tryz.prog lKw ((World.doorLaid Tryz.prog 400 os).forCall (fun _ _ => 0) ⟨#[], args, []⟩).memory :=
  laidMetH_of_parts3 (fuel := 8) (laidMet_of_run' 8 (by kernel_rfl) (by kernel_rfl)) (by kernel_rfl) (by kernel_rfl)
theorem calls_of {f : FuncId} {args : List Value} {W : World} (h : FnE PP W [] f args [] (.bool true) []) : Calls Tryz.prog f args.toArray W fun e W' => e = .returned (.bool true) ∧ Below W.heap.size W W' := by
  have := h.calls Heap.emp W (fun p hp => by cases hp) (st_start W)
  rw [PP_def] at this
  exact this.mono fun e W' ⟨v, Γ', he, ⟨hv, hΓ⟩, hst⟩ => ⟨by rw [he, hv], below_of_good hst.good⟩
end Go.Proofs.YtijbnjaackhlcaaGreatDoor

namespace Go.Proofs.YtijbnjaackhlcaaGreatDoor
open Go.Vc

end Go.Proofs.YtijbnjaackhlcaaGreatDoor

namespace Go.Proofs.YtijbnjaackhlcaaGreatDoor
open Go.Vc
open Go.Sort (ltStr swp insInner insOuter insertionSort)

end Go.Proofs.YtijbnjaackhlcaaGreatDoor

namespace Go.Proofs.YtijbnjaackhlcaaGreatDoor
open Go.Vc
open Go.Sort (ltStr swp reverseLoop reverseRange siftDown heapBuild heapPop heapSort)

end Go.Proofs.YtijbnjaackhlcaaGreatDoor

namespace Go.Proofs.YtijbnjaackhlcaaGreatDoor
open Go.Vc
open Go.Sort (ltStr swp siftDown heapBuild heapPop heapSort)
end Go.Proofs.YtijbnjaackhlcaaGreatDoor

namespace Go.Proofs.YtijbnjaackhlcaaGreatDoor
open Go.Vc
open Go.Sort (ltStr swp scanUp scanDown partLoop partition partEqLoop partitionEqual)
set_option maxHeartbeats 4000000
end Go.Proofs.YtijbnjaackhlcaaGreatDoor

namespace Go.Proofs.YtijbnjaackhlcaaGreatDoor
open Go.Vc
open Go.Sort (ltStr swp scanUp scanDown partEqLoop partitionEqual)
set_option maxHeartbeats 4000000
end Go.Proofs.YtijbnjaackhlcaaGreatDoor

namespace Go.Proofs.YtijbnjaackhlcaaGreatDoor
open Go.Vc
open Go.Sort (ltStr swp scanSorted shiftDown shiftUp partialIns partialInsertionSort)
set_option maxHeartbeats 4000000
end Go.Proofs.YtijbnjaackhlcaaGreatDoor

namespace Go.Proofs.YtijbnjaackhlcaaGreatDoor
open Go.Vc
open Go.Sort (ltStr order2 median medianAdjacent choosePivot Hint)
end Go.Proofs.YtijbnjaackhlcaaGreatDoor

namespace Go.Proofs.YtijbnjaackhlcaaGreatDoor
open Go.Vc
open Go.Sort (ltStr order2 median medianAdjacent choosePivot Hint)
set_option maxHeartbeats 4000000
end Go.Proofs.YtijbnjaackhlcaaGreatDoor

namespace Go.Proofs.YtijbnjaackhlcaaGreatDoor
open Go.Vc
open Go.Sort (bitsLen xorNextN)
section
variable {P : Program} {w0 : World} {n : Nat} {sh : Shared} {Q : Exit → Env → List Deferred → List Asn → Prop} {k : List Item} {ρ : Env} {df : List Deferred} {Γ : List Asn}
variable {ops : Array Oper} {l : List (Fl × Nat × Oper)} {b : Fl} {i d : Nat} {ty : TypeId} {pos : String} {aft : Array Edge}
end
end Go.Proofs.YtijbnjaackhlcaaGreatDoor

namespace Go.Proofs.YtijbnjaackhlcaaGreatDoor
open Go.Vc
open Go.Sort (swp bitsLen xorNextN xorNext breakStep breakPatterns)
section
variable {P : Program} {w0 : World} {n : Nat} {sh : Shared} {Q : Exit → Env → List Deferred → List Asn → Prop} {k : List Item} {ρ : Env} {df : List Deferred} {Γ : List Asn}
variable {ops : Array Oper} {l : List (Fl × Nat × Oper)} {b : Fl} {i d : Nat} {ty : TypeId} {pos : String} {aft : Array Edge}
end
set_option maxHeartbeats 4000000
end Go.Proofs.YtijbnjaackhlcaaGreatDoor

namespace Go.Proofs.YtijbnjaackhlcaaGreatDoor
open Go.Vc
open Go.Sort (ltStr swp bitsLen Hint insertionSort heapSort breakPatterns choosePivot reverseRange partialInsertionSort partitionEqual partition pdq)
end Go.Proofs.YtijbnjaackhlcaaGreatDoor

namespace Go.Proofs.YtijbnjaackhlcaaGreatDoor
open Go.Vc
open Go.Sort (ltStr swp bitsLen Hint insertionSort heapSort breakPatterns choosePivot reverseRange partialInsertionSort partitionEqual partition pdq)
set_option maxHeartbeats 4000000
end Go.Proofs.YtijbnjaackhlcaaGreatDoor

namespace Go.Proofs.YtijbnjaackhlcaaGreatDoor
open Go.Vc
open Go.Sort (ltStr bitsLen pdq)
end Go.Proofs.YtijbnjaackhlcaaGreatDoor

namespace Go.Vc
end Go.Vc
namespace Go.Proofs.YtijbnjaackhlcaaGreatDoor
open Go.Vc Sim
end Go.Proofs.YtijbnjaackhlcaaGreatDoor

namespace Sim
open Go Go.Vc
def ltS (a b : ByteArray) : Prop := a.data.toList < b.data.toList
instance (a b : ByteArray) : Decidable (ltS a b) := inferInstanceAs (Decidable (a.data.toList < b.data.toList))
def insN : List ByteArray → ByteArray → List ByteArray
  | [], s => [s]
  | x :: l, s => if x = s then x :: l else if ltS s x then s :: x :: l else x :: insN l s
def normN (l : List ByteArray) : List ByteArray := l.foldl insN []
structure Ef where
  reads : List ByteArray
  writes : List ByteArray
  hosts : List ByteArray
  calls : Int
abbrev mostC : Int := 4611686018427387904
def bndC (n : Int) : Int := if n < 0 then 0 else if mostC < n then mostC else n
def sumC (a b : Int) : Int := if mostC < bndC a + bndC b then mostC else bndC a + bndC b
def joinE (a b : Ef) : Ef := ⟨normN (a.reads ++ b.reads), normN (a.writes ++ b.writes), normN (a.hosts ++ b.hosts), sumC a.calls b.calls⟩
def zeroE : Ef := ⟨[], [], [], 0⟩
end Sim

namespace Sim
open Go Go.Vc
theorem bndC_range (n : Int) : 0 ≤ bndC n ∧ bndC n ≤ mostC := by unfold bndC mostC; split <;> (try split) <;> omega
theorem sumC_range (a b : Int) : 0 ≤ sumC a b ∧ sumC a b ≤ mostC := by
  have h1 := bndC_range a
  have h2 := bndC_range b
  unfold sumC; split
  · unfold mostC; omega
  · omega
end Sim

namespace Sim
open Go Go.Vc
end Sim

namespace Go.Proofs.YtijbnjaackhlcaaGreatDoor
open Go.Vc Sim
set_option maxHeartbeats 4000000
end Go.Proofs.YtijbnjaackhlcaaGreatDoor

namespace Go.Vc
open Sim
def RdEf (w0 : World) (sh : Shared) (c : List Value) (e : Ef) : Prop := ∃ v1 v2 v3, c = [v1, v2, v3, .int .i64 e.calls] ∧ RdSl w0 sh encY 1 v1 e.reads ∧ RdSl w0 sh encY 1 v2 e.writes ∧ RdSl w0 sh encY 1 v3 e.hosts
theorem RdEf.mono {w0 : World} {sh sh' : Shared} {c : List Value} {e : Ef} (h : RdEf w0 sh c e) (hs : ∀ p ∈ sh, p ∈ sh') : RdEf w0 sh' c e := by
  obtain ⟨v1, v2, v3, h1, h2, h3, h4⟩ := h
  exact ⟨v1, v2, v3, h1, h2.mono hs, h3.mono hs, h4.mono hs⟩
def Ef.sm (n : Nat) (e : Ef) : Prop := e.reads.length ≤ n ∧ e.writes.length ≤ n ∧ e.hosts.length ≤ n
end Go.Vc
namespace Go.Proofs.YtijbnjaackhlcaaGreatDoor
open Go.Vc Sim
end Go.Proofs.YtijbnjaackhlcaaGreatDoor

