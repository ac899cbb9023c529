import Derived.Test.YtgdhcgnmffgkiaaGreatDoorProg
import Derived.Test.YtgdhcgnmffgkiaaGreatDoorRows
import Derived.Test.YtgdhcgnmffgkiaaGreatDoorTie
import Derived.Test.YtgdhcgnmffgkiaaGreatDoorCards
import Derived.SevenTiedAt
import Derived.OpenShut
import Derived.Handed
import Derived.Lib.LaidTab
import Derived.Test.YtgdhcgnmffgkiaaGreatDoorKit
import Derived.Test.YtgdhcgnmffgkiaaGreatDoorKitA
/- Lemmas and walks for the claims of this seat (own work): Base Kd0 Sp0 Sp1 Sp2 Sp3 Pg0 Pg1 Pl0 Pl1. -/
namespace Go.Proofs.YtgdhcgnmffgkiaaGreatDoor
open Go.Vc
@[irreducible] noncomputable def PP : Program := Tryz.prog
theorem PP_def : PP = Tryz.prog := by unfold PP; rfl
theorem PP_mixed : PP.follows .mixedOrders = true := by kernel_rfl
instance : TShape PP 2 false 1 := ⟨fun w => by kernel_rfl, fun w => by kernel_rfl⟩
instance : TInfo PP 2 8 := ⟨fun w => ⟨Tryz.t2, by rw [PP_def]; exact Tryz.typeInfo2 w, rfl⟩⟩
instance : TZero PP 2 [.int .i64 0] := ⟨fun w => ⟨.int .i64 0, by kernel_rfl, by kernel_rfl⟩⟩
instance : TZeroV PP 2 (.int .i64 0) := ⟨fun w => by kernel_rfl⟩
instance : TUnd PP 2 (.int (.i64)) := ⟨by kernel_rfl⟩
instance : TShape PP 3 false 1 := ⟨fun w => by kernel_rfl, fun w => by kernel_rfl⟩
instance : TZero PP 3 [.int .i64 0] := ⟨fun w => ⟨.int .i64 0, by kernel_rfl, by kernel_rfl⟩⟩
instance : TUnd PP 3 (.int (.i64)) := ⟨by kernel_rfl⟩
instance : TShape PP 4 false 1 := ⟨fun w => by kernel_rfl, fun w => by kernel_rfl⟩
instance : TUnd PP 5 (.int (.u8)) := ⟨by kernel_rfl⟩
instance : TShape PP 9 false 1 := ⟨fun w => by kernel_rfl, fun w => by kernel_rfl⟩
instance : TZeroV PP 9 (.string ByteArray.empty) := ⟨fun w => by kernel_rfl⟩
instance : TShape PP 24 false 1 := ⟨fun w => by kernel_rfl, fun w => by kernel_rfl⟩
instance : TUnd PP 24 (.pointer 88) := ⟨by kernel_rfl⟩
instance : TShape PP 26 false 1 := ⟨fun w => by kernel_rfl, fun w => by kernel_rfl⟩
instance : TZero PP 26 [.slice none 0 0] := ⟨fun w => ⟨.slice none 0 0, by kernel_rfl, by kernel_rfl⟩⟩
instance : TUnd PP 26 (.slice 2) := ⟨by kernel_rfl⟩
instance : TShape PP 34 false 1 := ⟨fun w => by kernel_rfl, fun w => by kernel_rfl⟩
instance : TInfo PP 34 8 := ⟨fun w => ⟨Tryz.t34, by rw [PP_def]; exact Tryz.typeInfo34 w, rfl⟩⟩
instance : TZeroV PP 34 (.int .i64 0) := ⟨fun w => by kernel_rfl⟩
instance : TUnd PP 34 (.int (.i64)) := ⟨by kernel_rfl⟩
instance : TShape PP 36 true 2 := ⟨fun w => by kernel_rfl, fun w => by kernel_rfl⟩
instance : TZero PP 36 [.int .i64 0, .int .i64 0] := ⟨fun w => ⟨.agg #[.int .i64 0, .int .i64 0], by kernel_rfl, by kernel_rfl⟩⟩
instance : TStruct PP 36 [.int .i64 0, .int .i64 0] [(0, 1), (1, 1)] := ⟨⟨_, by rw [PP_def]; exact Tryz.underlying36, fun w => by kernel_rfl⟩, fun w => ⟨.agg #[.int .i64 0, .int .i64 0], by kernel_rfl, by kernel_rfl⟩⟩
instance : TField PP 36 0 0 := ⟨fun b o w => by kernel_rfl⟩
instance : TField PP 36 1 1 := ⟨fun b o w => by kernel_rfl⟩
instance : TShape PP 39 false 1 := ⟨fun w => by kernel_rfl, fun w => by kernel_rfl⟩
instance : TZero PP 39 [.int .i64 0] := ⟨fun w => ⟨.int .i64 0, by kernel_rfl, by kernel_rfl⟩⟩
instance : TShape PP 43 true 3 := ⟨fun w => by kernel_rfl, fun w => by kernel_rfl⟩
instance : TZero PP 43 [.int .i64 0, .int .i64 0, .int .i64 0] := ⟨fun w => ⟨.agg #[.int .i64 0, .int .i64 0, .int .i64 0], by kernel_rfl, by kernel_rfl⟩⟩
instance : TStruct PP 43 [.int .i64 0, .int .i64 0, .int .i64 0] [(0, 1), (1, 1), (2, 1)] := ⟨⟨_, by rw [PP_def]; exact Tryz.underlying43, fun w => by kernel_rfl⟩, fun w => ⟨.agg #[.int .i64 0, .int .i64 0, .int .i64 0], by kernel_rfl, by kernel_rfl⟩⟩
instance : TField PP 43 0 0 := ⟨fun b o w => by kernel_rfl⟩
instance : TField PP 43 1 1 := ⟨fun b o w => by kernel_rfl⟩
instance : TField PP 43 2 2 := ⟨fun b o w => by kernel_rfl⟩
instance : TZero PP 46 [.int .i64 0, .int .i64 0, .int .i64 0] := ⟨fun w => ⟨.agg #[.int .i64 0, .int .i64 0, .int .i64 0], by kernel_rfl, by kernel_rfl⟩⟩
instance : TUnd PP 46 (.array 3 2) := ⟨by kernel_rfl⟩
instance : TUnd PP 55 (.slice 57) := ⟨by kernel_rfl⟩
instance : TShape PP 57 true 3 := ⟨fun w => by kernel_rfl, fun w => by kernel_rfl⟩
instance : TInfo PP 57 32 := ⟨fun w => ⟨Tryz.t57, by rw [PP_def]; exact Tryz.typeInfo57 w, rfl⟩⟩
instance : TZero PP 57 [.string ByteArray.empty, .int .i64 0, .bool false] := ⟨fun w => ⟨.agg #[.string ByteArray.empty, .int .i64 0, .bool false], by kernel_rfl, by kernel_rfl⟩⟩
instance : TZeroV PP 57 (.agg #[.string ByteArray.empty, .int .i64 0, .bool false]) := ⟨fun w => by kernel_rfl⟩
instance : TStruct PP 57 [.string ByteArray.empty, .int .i64 0, .bool false] [(0, 1), (1, 1), (2, 1)] := ⟨⟨_, by rw [PP_def]; exact Tryz.underlying57, fun w => by kernel_rfl⟩, fun w => ⟨.agg #[.string ByteArray.empty, .int .i64 0, .bool false], by kernel_rfl, by kernel_rfl⟩⟩
instance : TField PP 57 0 0 := ⟨fun b o w => by kernel_rfl⟩
instance : TField PP 57 1 1 := ⟨fun b o w => by kernel_rfl⟩
instance : TField PP 57 2 2 := ⟨fun b o w => by kernel_rfl⟩
instance : TUnd PP 65 (.slice 9) := ⟨by kernel_rfl⟩
instance : TShape PP 70 false 1 := ⟨fun w => by kernel_rfl, fun w => by kernel_rfl⟩
instance : TUnd PP 70 (.map 34 73) := ⟨by kernel_rfl⟩
instance : TShape PP 71 false 1 := ⟨fun w => by kernel_rfl, fun w => by kernel_rfl⟩
instance : TShape PP 73 true 3 := ⟨fun w => by kernel_rfl, fun w => by kernel_rfl⟩
instance : TZero PP 73 [.int .i64 0, .int .u32 0, .int .u32 0] := ⟨fun w => ⟨.agg #[.int .i64 0, .int .u32 0, .int .u32 0], by kernel_rfl, by kernel_rfl⟩⟩
instance : TZeroV PP 73 (.agg #[.int .i64 0, .int .u32 0, .int .u32 0]) := ⟨fun w => by kernel_rfl⟩
instance : TStruct PP 73 [.int .i64 0, .int .u32 0, .int .u32 0] [(0, 1), (1, 1), (2, 1)] := ⟨⟨_, by rw [PP_def]; exact Tryz.underlying73, fun w => by kernel_rfl⟩, fun w => ⟨.agg #[.int .i64 0, .int .u32 0, .int .u32 0], by kernel_rfl, by kernel_rfl⟩⟩
instance : TPart PP 73 0 false 0 1 := part_lemma (ft := 2) (by rw [PP_def]; exact Tryz.underlying73) rfl rfl rfl
instance : TField PP 73 2 2 := ⟨fun b o w => by kernel_rfl⟩
instance : TShape PP 75 false 1 := ⟨fun w => by kernel_rfl, fun w => by kernel_rfl⟩
instance : TShape PP 77 true 4 := ⟨fun w => by kernel_rfl, fun w => by kernel_rfl⟩
instance : TZero PP 77 [.string ByteArray.empty, .int .i64 0, .bool false, .nilFunc] := ⟨fun w => ⟨.agg #[.string ByteArray.empty, .int .i64 0, .bool false, .nilFunc], by kernel_rfl, by kernel_rfl⟩⟩
instance : TZeroV PP 77 (.agg #[.string ByteArray.empty, .int .i64 0, .bool false, .nilFunc]) := ⟨fun w => by kernel_rfl⟩
instance : TStruct PP 77 [.string ByteArray.empty, .int .i64 0, .bool false, .nilFunc] [(0, 1), (1, 1), (2, 1), (3, 1)] := ⟨⟨_, by rw [PP_def]; exact Tryz.underlying77, fun w => by kernel_rfl⟩, fun w => ⟨.agg #[.string ByteArray.empty, .int .i64 0, .bool false, .nilFunc], by kernel_rfl, by kernel_rfl⟩⟩
instance : TField PP 77 0 0 := ⟨fun b o w => by kernel_rfl⟩
instance : TField PP 77 1 1 := ⟨fun b o w => by kernel_rfl⟩
instance : TField PP 77 2 2 := ⟨fun b o w => by kernel_rfl⟩
instance : TField PP 77 3 3 := ⟨fun b o w => by kernel_rfl⟩
instance : TShape PP 81 true 5 := ⟨fun w => by kernel_rfl, fun w => by kernel_rfl⟩
instance : TStruct PP 81 [.pointer none, .int .i64 0, .int .i64 0, .int .i64 0, .int .i64 0] [(0, 1), (1, 3), (4, 1)] := ⟨⟨_, by rw [PP_def]; exact Tryz.underlying81, fun w => by kernel_rfl⟩, fun w => ⟨.agg #[.pointer none, .int .i64 0, .int .i64 0, .int .i64 0, .int .i64 0], by kernel_rfl, by kernel_rfl⟩⟩
instance : TField PP 81 0 0 := ⟨fun b o w => by kernel_rfl⟩
instance : TField PP 81 1 1 := ⟨fun b o w => by kernel_rfl⟩
instance : TField PP 81 2 4 := ⟨fun b o w => by kernel_rfl⟩
instance : TShape PP 85 false 1 := ⟨fun w => by kernel_rfl, fun w => by kernel_rfl⟩
instance : TUnd PP 85 (.map 34 4) := ⟨by kernel_rfl⟩
instance : TShape PP 86 false 1 := ⟨fun w => by kernel_rfl, fun w => by kernel_rfl⟩
instance : TUnd PP 86 (.slice 247) := ⟨by kernel_rfl⟩
instance : TStruct PP 88 [.map none, .map none, .slice none 0 0, .int .i64 0, .bool false] [(0, 1), (1, 1), (2, 1), (3, 1), (4, 1)] := ⟨⟨_, by rw [PP_def]; exact Tryz.underlying88, fun w => by kernel_rfl⟩, fun w => ⟨.agg #[.map none, .map none, .slice none 0 0, .int .i64 0, .bool false], by kernel_rfl, by kernel_rfl⟩⟩
instance : TField PP 88 0 0 := ⟨fun b o w => by kernel_rfl⟩
instance : TField PP 88 1 1 := ⟨fun b o w => by kernel_rfl⟩
instance : TField PP 88 2 2 := ⟨fun b o w => by kernel_rfl⟩
instance : TField PP 88 3 3 := ⟨fun b o w => by kernel_rfl⟩
instance : TField PP 88 4 4 := ⟨fun b o w => by kernel_rfl⟩
instance : TZeroV PP 89 (.slice none 0 0) := ⟨fun w => by kernel_rfl⟩
instance : TUnd PP 89 (.slice 77) := ⟨by kernel_rfl⟩
instance : TStruct PP 105 [] [] := ⟨⟨_, by rw [PP_def]; exact Tryz.underlying105, fun w => by kernel_rfl⟩, fun w => ⟨.agg #[], by kernel_rfl, by kernel_rfl⟩⟩
instance : TShape PP 107 false 1 := ⟨fun w => by kernel_rfl, fun w => by kernel_rfl⟩
instance : TShape PP 109 true 5 := ⟨fun w => by kernel_rfl, fun w => by kernel_rfl⟩
instance : TZero PP 109 [.nilIface, .int .i64 0, .int .i64 0, .int .i64 0, .int .i64 0] := ⟨fun w => ⟨.agg #[.nilIface, .int .i64 0, .int .i64 0, .int .i64 0, .int .i64 0], by kernel_rfl, by kernel_rfl⟩⟩
instance : TStruct PP 109 [.nilIface, .int .i64 0, .int .i64 0, .int .i64 0, .int .i64 0] [(0, 1), (1, 3), (4, 1)] := ⟨⟨_, by rw [PP_def]; exact Tryz.underlying109, fun w => by kernel_rfl⟩, fun w => ⟨.agg #[.nilIface, .int .i64 0, .int .i64 0, .int .i64 0, .int .i64 0], by kernel_rfl, by kernel_rfl⟩⟩
instance : TField PP 109 0 0 := ⟨fun b o w => by kernel_rfl⟩
instance : TField PP 109 1 1 := ⟨fun b o w => by kernel_rfl⟩
instance : TField PP 109 2 4 := ⟨fun b o w => by kernel_rfl⟩
instance : TShape PP 120 true 4 := ⟨fun w => by kernel_rfl, fun w => by kernel_rfl⟩
instance : TZero PP 120 [.int .i64 0, .int .i64 0, .int .i64 0, .int .i64 0] := ⟨fun w => ⟨.agg #[.int .i64 0, .int .i64 0, .int .i64 0, .int .i64 0], by kernel_rfl, by kernel_rfl⟩⟩
instance : TStruct PP 120 [.int .i64 0, .int .i64 0, .int .i64 0, .int .i64 0] [(0, 3), (3, 1)] := ⟨⟨_, by rw [PP_def]; exact Tryz.underlying120, fun w => by kernel_rfl⟩, fun w => ⟨.agg #[.int .i64 0, .int .i64 0, .int .i64 0, .int .i64 0], by kernel_rfl, by kernel_rfl⟩⟩
instance : TField PP 120 1 3 := ⟨fun b o w => by kernel_rfl⟩
instance : TShape PP 122 true 4 := ⟨fun w => by kernel_rfl, fun w => by kernel_rfl⟩
instance : TZero PP 122 [.int .i64 0, .int .i64 0, .int .i64 0, .int .i64 0] := ⟨fun w => ⟨.agg #[.int .i64 0, .int .i64 0, .int .i64 0, .int .i64 0], by kernel_rfl, by kernel_rfl⟩⟩
instance : TStruct PP 122 [.int .i64 0, .int .i64 0, .int .i64 0, .int .i64 0] [(0, 3), (3, 1)] := ⟨⟨_, by rw [PP_def]; exact Tryz.underlying122, fun w => by kernel_rfl⟩, fun w => ⟨.agg #[.int .i64 0, .int .i64 0, .int .i64 0, .int .i64 0], by kernel_rfl, by kernel_rfl⟩⟩
instance : TField PP 122 0 0 := ⟨fun b o w => by kernel_rfl⟩
instance : TField PP 122 1 3 := ⟨fun b o w => by kernel_rfl⟩
instance : TShape PP 128 true 4 := ⟨fun w => by kernel_rfl, fun w => by kernel_rfl⟩
instance : TZero PP 128 [.int .i64 0, .int .i64 0, .int .i64 0, .int .i64 0] := ⟨fun w => ⟨.agg #[.int .i64 0, .int .i64 0, .int .i64 0, .int .i64 0], by kernel_rfl, by kernel_rfl⟩⟩
instance : TStruct PP 128 [.int .i64 0, .int .i64 0, .int .i64 0, .int .i64 0] [(0, 3), (3, 1)] := ⟨⟨_, by rw [PP_def]; exact Tryz.underlying128, fun w => by kernel_rfl⟩, fun w => ⟨.agg #[.int .i64 0, .int .i64 0, .int .i64 0, .int .i64 0], by kernel_rfl, by kernel_rfl⟩⟩
instance : TField PP 128 0 0 := ⟨fun b o w => by kernel_rfl⟩
instance : TField PP 128 1 3 := ⟨fun b o w => by kernel_rfl⟩
instance : TShape PP 130 true 4 := ⟨fun w => by kernel_rfl, fun w => by kernel_rfl⟩
instance : TZero PP 130 [.int .i64 0, .int .i64 0, .int .i64 0, .int .i64 0] := ⟨fun w => ⟨.agg #[.int .i64 0, .int .i64 0, .int .i64 0, .int .i64 0], by kernel_rfl, by kernel_rfl⟩⟩
instance : TStruct PP 130 [.int .i64 0, .int .i64 0, .int .i64 0, .int .i64 0] [(0, 3), (3, 1)] := ⟨⟨_, by rw [PP_def]; exact Tryz.underlying130, fun w => by kernel_rfl⟩, fun w => ⟨.agg #[.int .i64 0, .int .i64 0, .int .i64 0, .int .i64 0], by kernel_rfl, by kernel_rfl⟩⟩
instance : TField PP 130 0 0 := ⟨fun b o w => by kernel_rfl⟩
instance : TField PP 130 1 3 := ⟨fun b o w => by kernel_rfl⟩
instance : TShape PP 140 true 4 := ⟨fun w => by kernel_rfl, fun w => by kernel_rfl⟩
instance : TZero PP 140 [.int .i64 0, .int .i64 0, .int .i64 0, .int .i64 0] := ⟨fun w => ⟨.agg #[.int .i64 0, .int .i64 0, .int .i64 0, .int .i64 0], by kernel_rfl, by kernel_rfl⟩⟩
instance : TStruct PP 140 [.int .i64 0, .int .i64 0, .int .i64 0, .int .i64 0] [(0, 3), (3, 1)] := ⟨⟨_, by rw [PP_def]; exact Tryz.underlying140, fun w => by kernel_rfl⟩, fun w => ⟨.agg #[.int .i64 0, .int .i64 0, .int .i64 0, .int .i64 0], by kernel_rfl, by kernel_rfl⟩⟩
instance : TField PP 140 0 0 := ⟨fun b o w => by kernel_rfl⟩
instance : TField PP 140 1 3 := ⟨fun b o w => by kernel_rfl⟩
instance : TShape PP 146 false 1 := ⟨fun w => by kernel_rfl, fun w => by kernel_rfl⟩
instance : TZeroV PP 146 (.map none) := ⟨fun w => by kernel_rfl⟩
instance : TUnd PP 146 (.map 3 89) := ⟨by kernel_rfl⟩
instance : TUnd PP 148 (.slice 146) := ⟨by kernel_rfl⟩
instance : TShape PP 153 false 1 := ⟨fun w => by kernel_rfl, fun w => by kernel_rfl⟩
instance : TUnd PP 163 (.int (.u64)) := ⟨by kernel_rfl⟩
instance : TShape PP 165 false 1 := ⟨fun w => by kernel_rfl, fun w => by kernel_rfl⟩
instance : TUnd PP 165 (.slice 34) := ⟨by kernel_rfl⟩
instance : TShape PP 167 true 4 := ⟨fun w => by kernel_rfl, fun w => by kernel_rfl⟩
instance : TZero PP 167 [.slice none 0 0, .slice none 0 0, .int .i64 0, .int .i64 0] := ⟨fun w => ⟨.agg #[.slice none 0 0, .slice none 0 0, .int .i64 0, .int .i64 0], by kernel_rfl, by kernel_rfl⟩⟩
instance : TStruct PP 167 [.slice none 0 0, .slice none 0 0, .int .i64 0, .int .i64 0] [(0, 1), (1, 1), (2, 1), (3, 1)] := ⟨⟨_, by rw [PP_def]; exact Tryz.underlying167, fun w => by kernel_rfl⟩, fun w => ⟨.agg #[.slice none 0 0, .slice none 0 0, .int .i64 0, .int .i64 0], by kernel_rfl, by kernel_rfl⟩⟩
instance : TField PP 167 0 0 := ⟨fun b o w => by kernel_rfl⟩
instance : TField PP 167 1 1 := ⟨fun b o w => by kernel_rfl⟩
instance : TField PP 167 2 2 := ⟨fun b o w => by kernel_rfl⟩
instance : TField PP 167 3 3 := ⟨fun b o w => by kernel_rfl⟩
instance : TStruct PP 200 [.int .i64 0, .int .i64 0, .int .i64 0, .int .i64 0, .pointer none, .bool false] [(0, 4), (4, 1), (5, 1)] := ⟨⟨_, by rw [PP_def]; exact Tryz.underlying200, fun w => by kernel_rfl⟩, fun w => ⟨.agg #[.int .i64 0, .int .i64 0, .int .i64 0, .int .i64 0, .pointer none, .bool false], by kernel_rfl, by kernel_rfl⟩⟩
instance : TField PP 200 0 0 := ⟨fun b o w => by kernel_rfl⟩
instance : TField PP 200 1 4 := ⟨fun b o w => by kernel_rfl⟩
instance : TField PP 200 2 5 := ⟨fun b o w => by kernel_rfl⟩
instance : TUnd PP 216 (.array 5 2) := ⟨by kernel_rfl⟩
instance : TShape PP 228 true 3 := ⟨fun w => by kernel_rfl, fun w => by kernel_rfl⟩
instance : TZero PP 228 [.int .i64 0, .int .i64 0, .int .i64 0] := ⟨fun w => ⟨.agg #[.int .i64 0, .int .i64 0, .int .i64 0], by kernel_rfl, by kernel_rfl⟩⟩
instance : TStruct PP 228 [.int .i64 0, .int .i64 0, .int .i64 0] [(0, 1), (1, 1), (2, 1)] := ⟨⟨_, by rw [PP_def]; exact Tryz.underlying228, fun w => by kernel_rfl⟩, fun w => ⟨.agg #[.int .i64 0, .int .i64 0, .int .i64 0], by kernel_rfl, by kernel_rfl⟩⟩
instance : TField PP 228 0 0 := ⟨fun b o w => by kernel_rfl⟩
instance : TField PP 228 1 1 := ⟨fun b o w => by kernel_rfl⟩
instance : TShape PP 247 true 2 := ⟨fun w => by kernel_rfl, fun w => by kernel_rfl⟩
instance : TInfo PP 247 16 := ⟨fun w => ⟨Tryz.t247, by rw [PP_def]; exact Tryz.typeInfo247 w, rfl⟩⟩
instance : TZeroV PP 247 (.agg #[.int .i64 0, .int .i64 0]) := ⟨fun w => by kernel_rfl⟩
instance : TStruct PP 247 [.int .i64 0, .int .i64 0] [(0, 1), (1, 1)] := ⟨⟨_, by rw [PP_def]; exact Tryz.underlying247, fun w => by kernel_rfl⟩, fun w => ⟨.agg #[.int .i64 0, .int .i64 0], by kernel_rfl, by kernel_rfl⟩⟩
instance : TField PP 247 0 0 := ⟨fun b o w => by kernel_rfl⟩
instance : TField PP 247 1 1 := ⟨fun b o w => by kernel_rfl⟩
instance : TShape PP 264 true 2 := ⟨fun w => by kernel_rfl, fun w => by kernel_rfl⟩
instance : TZero PP 264 [.int .i64 0, .int .i64 0] := ⟨fun w => ⟨.agg #[.int .i64 0, .int .i64 0], by kernel_rfl, by kernel_rfl⟩⟩
instance : TUnd PP 264 (.array 2 2) := ⟨by kernel_rfl⟩
theorem en6 : Enters PP 6 := fun args w => by rw [PP_def]; exact Tryz.call6 args w
theorem fn6 : PP.funcs[6]? = some Tryz.f6 := by rw [PP_def]; exact Tryz.func6
theorem en8 : Enters PP 8 := fun args w => by rw [PP_def]; exact Tryz.call8 args w
theorem fn8 : PP.funcs[8]? = some Tryz.f8 := by rw [PP_def]; exact Tryz.func8
theorem en9 : Enters PP 9 := fun args w => by rw [PP_def]; exact Tryz.call9 args w
theorem fn9 : PP.funcs[9]? = some Tryz.f9 := by rw [PP_def]; exact Tryz.func9
theorem en11 : Enters PP 11 := fun args w => by rw [PP_def]; exact Tryz.call11 args w
theorem fn11 : PP.funcs[11]? = some Tryz.f11 := by rw [PP_def]; exact Tryz.func11
theorem en13 : Enters PP 13 := fun args w => by rw [PP_def]; exact Tryz.call13 args w
theorem fn13 : PP.funcs[13]? = some Tryz.f13 := by rw [PP_def]; exact Tryz.func13
theorem en14 : Enters PP 14 := fun args w => by rw [PP_def]; exact Tryz.call14 args w
theorem fn14 : PP.funcs[14]? = some Tryz.f14 := by rw [PP_def]; exact Tryz.func14
theorem en19 : Enters PP 19 := fun args w => by rw [PP_def]; exact Tryz.call19 args w
theorem fn19 : PP.funcs[19]? = some Tryz.f19 := by rw [PP_def]; exact Tryz.func19
theorem en21 : Enters PP 21 := fun args w => by rw [PP_def]; exact Tryz.call21 args w
theorem fn21 : PP.funcs[21]? = some Tryz.f21 := by rw [PP_def]; exact Tryz.func21
theorem en22 : Enters PP 22 := fun args w => by rw [PP_def]; exact Tryz.call22 args w
theorem fn22 : PP.funcs[22]? = some Tryz.f22 := by rw [PP_def]; exact Tryz.func22
theorem en23 : Enters PP 23 := fun args w => by rw [PP_def]; exact Tryz.call23 args w
theorem fn23 : PP.funcs[23]? = some Tryz.f23 := by rw [PP_def]; exact Tryz.func23
theorem en26 : Enters PP 26 := fun args w => by rw [PP_def]; exact Tryz.call26 args w
theorem fn26 : PP.funcs[26]? = some Tryz.f26 := by rw [PP_def]; exact Tryz.func26
theorem en29 : Enters PP 29 := fun args w => by rw [PP_def]; exact Tryz.call29 args w
theorem fn29 : PP.funcs[29]? = some Tryz.f29 := by rw [PP_def]; exact Tryz.func29
theorem en31 : Enters PP 31 := fun args w => by rw [PP_def]; exact Tryz.call31 args w
theorem fn31 : PP.funcs[31]? = some Tryz.f31 := by rw [PP_def]; exact Tryz.func31
theorem en36 : Enters PP 36 := fun args w => by rw [PP_def]; exact Tryz.call36 args w
theorem fn36 : PP.funcs[36]? = some Tryz.f36 := by rw [PP_def]; exact Tryz.func36
theorem en37 : Enters PP 37 := fun args w => by rw [PP_def]; exact Tryz.call37 args w
theorem fn37 : PP.funcs[37]? = some Tryz.f37 := by rw [PP_def]; exact Tryz.func37
theorem en38 : Enters PP 38 := fun args w => by rw [PP_def]; exact Tryz.call38 args w
theorem fn38 : PP.funcs[38]? = some Tryz.f38 := by rw [PP_def]; exact Tryz.func38
theorem en40 : Enters PP 40 := fun args w => by rw [PP_def]; exact Tryz.call40 args w
theorem fn40 : PP.funcs[40]? = some Tryz.f40 := by rw [PP_def]; exact Tryz.func40
theorem en41 : Enters PP 41 := fun args w => by rw [PP_def]; exact Tryz.call41 args w
theorem fn41 : PP.funcs[41]? = some Tryz.f41 := by rw [PP_def]; exact Tryz.func41
theorem en42 : Enters PP 42 := fun args w => by rw [PP_def]; exact Tryz.call42 args w
theorem fn42 : PP.funcs[42]? = some Tryz.f42 := by rw [PP_def]; exact Tryz.func42
theorem en43 : Enters PP 43 := fun args w => by rw [PP_def]; exact Tryz.call43 args w
theorem fn43 : PP.funcs[43]? = some Tryz.f43 := by rw [PP_def]; exact Tryz.func43
theorem en47 : Enters PP 47 := fun args w => by rw [PP_def]; exact Tryz.call47 args w
theorem fn47 : PP.funcs[47]? = some Tryz.f47 := by rw [PP_def]; exact Tryz.func47
theorem en48 : Enters PP 48 := fun args w => by rw [PP_def]; exact Tryz.call48 args w
theorem fn48 : PP.funcs[48]? = some Tryz.f48 := by rw [PP_def]; exact Tryz.func48
theorem en49 : Enters PP 49 := fun args w => by rw [PP_def]; exact Tryz.call49 args w
theorem fn49 : PP.funcs[49]? = some Tryz.f49 := by rw [PP_def]; exact Tryz.func49
theorem en50 : Enters PP 50 := fun args w => by rw [PP_def]; exact Tryz.call50 args w
theorem fn50 : PP.funcs[50]? = some Tryz.f50 := by rw [PP_def]; exact Tryz.func50
theorem en51 : Enters PP 51 := fun args w => by rw [PP_def]; exact Tryz.call51 args w
theorem fn51 : PP.funcs[51]? = some Tryz.f51 := by rw [PP_def]; exact Tryz.func51
theorem en52 : Enters PP 52 := fun args w => by rw [PP_def]; exact Tryz.call52 args w
theorem fn52 : PP.funcs[52]? = some Tryz.f52 := by rw [PP_def]; exact Tryz.func52
theorem en53 : Enters PP 53 := fun args w => by rw [PP_def]; exact Tryz.call53 args w
theorem fn53 : PP.funcs[53]? = some Tryz.f53 := by rw [PP_def]; exact Tryz.func53
theorem en55 : Enters PP 55 := fun args w => by rw [PP_def]; exact Tryz.call55 args w
theorem fn55 : PP.funcs[55]? = some Tryz.f55 := by rw [PP_def]; exact Tryz.func55
theorem en56 : Enters PP 56 := fun args w => by rw [PP_def]; exact Tryz.call56 args w
theorem fn56 : PP.funcs[56]? = some Tryz.f56 := by rw [PP_def]; exact Tryz.func56
theorem en57 : Enters PP 57 := fun args w => by rw [PP_def]; exact Tryz.call57 args w
theorem fn57 : PP.funcs[57]? = some Tryz.f57 := by rw [PP_def]; exact Tryz.func57
theorem en58 : Enters PP 58 := fun args w => by rw [PP_def]; exact Tryz.call58 args w
theorem fn58 : PP.funcs[58]? = some Tryz.f58 := by rw [PP_def]; exact Tryz.func58
theorem en60 : Enters PP 60 := fun args w => by rw [PP_def]; exact Tryz.call60 args w
theorem fn60 : PP.funcs[60]? = some Tryz.f60 := by rw [PP_def]; exact Tryz.func60
theorem en64 : Enters PP 64 := fun args w => by rw [PP_def]; exact Tryz.call64 args w
theorem fn64 : PP.funcs[64]? = some Tryz.f64 := by rw [PP_def]; exact Tryz.func64
theorem en72 : Enters PP 72 := fun args w => by rw [PP_def]; exact Tryz.call72 args w
theorem fn72 : PP.funcs[72]? = some Tryz.f72 := by rw [PP_def]; exact Tryz.func72
theorem en74 : Enters PP 74 := fun args w => by rw [PP_def]; exact Tryz.call74 args w
theorem fn74 : PP.funcs[74]? = some Tryz.f74 := by rw [PP_def]; exact Tryz.func74
theorem en75 : Enters PP 75 := fun args w => by rw [PP_def]; exact Tryz.call75 args w
theorem fn75 : PP.funcs[75]? = some Tryz.f75 := by rw [PP_def]; exact Tryz.func75
theorem en78 : Enters PP 78 := fun args w => by rw [PP_def]; exact Tryz.call78 args w
theorem fn78 : PP.funcs[78]? = some Tryz.f78 := by rw [PP_def]; exact Tryz.func78
theorem en80 : Enters PP 80 := fun args w => by rw [PP_def]; exact Tryz.call80 args w
theorem fn80 : PP.funcs[80]? = some Tryz.f80 := by rw [PP_def]; exact Tryz.func80
theorem en84 : Enters PP 84 := fun args w => by rw [PP_def]; exact Tryz.call84 args w
theorem fn84 : PP.funcs[84]? = some Tryz.f84 := by rw [PP_def]; exact Tryz.func84
theorem en94 : Enters PP 94 := fun args w => by rw [PP_def]; exact Tryz.call94 args w
theorem fn94 : PP.funcs[94]? = some Tryz.f94 := by rw [PP_def]; exact Tryz.func94
theorem en95 : Enters PP 95 := fun args w => by rw [PP_def]; exact Tryz.call95 args w
theorem fn95 : PP.funcs[95]? = some Tryz.f95 := by rw [PP_def]; exact Tryz.func95
theorem en96 : Enters PP 96 := fun args w => by rw [PP_def]; exact Tryz.call96 args w
theorem fn96 : PP.funcs[96]? = some Tryz.f96 := by rw [PP_def]; exact Tryz.func96
theorem en99 : Enters PP 99 := fun args w => by rw [PP_def]; exact Tryz.call99 args w
theorem fn99 : PP.funcs[99]? = some Tryz.f99 := by rw [PP_def]; exact Tryz.func99
theorem en102 : Enters PP 102 := fun args w => by rw [PP_def]; exact Tryz.call102 args w
theorem fn102 : PP.funcs[102]? = some Tryz.f102 := by rw [PP_def]; exact Tryz.func102
theorem en103 : Enters PP 103 := fun args w => by rw [PP_def]; exact Tryz.call103 args w
theorem fn103 : PP.funcs[103]? = some Tryz.f103 := by rw [PP_def]; exact Tryz.func103
theorem en104 : Enters PP 104 := fun args w => by rw [PP_def]; exact Tryz.call104 args w
theorem fn104 : PP.funcs[104]? = some Tryz.f104 := by rw [PP_def]; exact Tryz.func104
theorem en105 : Enters PP 105 := fun args w => by rw [PP_def]; exact Tryz.call105 args w
theorem fn105 : PP.funcs[105]? = some Tryz.f105 := by rw [PP_def]; exact Tryz.func105
theorem en106 : Enters PP 106 := fun args w => by rw [PP_def]; exact Tryz.call106 args w
theorem fn106 : PP.funcs[106]? = some Tryz.f106 := by rw [PP_def]; exact Tryz.func106
theorem en107 : Enters PP 107 := fun args w => by rw [PP_def]; exact Tryz.call107 args w
theorem fn107 : PP.funcs[107]? = some Tryz.f107 := by rw [PP_def]; exact Tryz.func107
theorem en109 : Enters PP 109 := fun args w => by rw [PP_def]; exact Tryz.call109 args w
theorem fn109 : PP.funcs[109]? = some Tryz.f109 := by rw [PP_def]; exact Tryz.func109
theorem en110 : Enters PP 110 := fun args w => by rw [PP_def]; exact Tryz.call110 args w
theorem fn110 : PP.funcs[110]? = some Tryz.f110 := by rw [PP_def]; exact Tryz.func110
theorem en111 : Enters PP 111 := fun args w => by rw [PP_def]; exact Tryz.call111 args w
theorem fn111 : PP.funcs[111]? = some Tryz.f111 := by rw [PP_def]; exact Tryz.func111
theorem en112 : Enters PP 112 := fun args w => by rw [PP_def]; exact Tryz.call112 args w
theorem fn112 : PP.funcs[112]? = some Tryz.f112 := by rw [PP_def]; exact Tryz.func112
theorem en113 : Enters PP 113 := fun args w => by rw [PP_def]; exact Tryz.call113 args w
theorem fn113 : PP.funcs[113]? = some Tryz.f113 := by rw [PP_def]; exact Tryz.func113
theorem en114 : Enters PP 114 := fun args w => by rw [PP_def]; exact Tryz.call114 args w
theorem fn114 : PP.funcs[114]? = some Tryz.f114 := by rw [PP_def]; exact Tryz.func114
theorem en115 : Enters PP 115 := fun args w => by rw [PP_def]; exact Tryz.call115 args w
theorem fn115 : PP.funcs[115]? = some Tryz.f115 := by rw [PP_def]; exact Tryz.func115
theorem en116 : Enters PP 116 := fun args w => by rw [PP_def]; exact Tryz.call116 args w
theorem fn116 : PP.funcs[116]? = some Tryz.f116 := by rw [PP_def]; exact Tryz.func116
theorem en117 : Enters PP 117 := fun args w => by rw [PP_def]; exact Tryz.call117 args w
theorem fn117 : PP.funcs[117]? = some Tryz.f117 := by rw [PP_def]; exact Tryz.func117
theorem en118 : Enters PP 118 := fun args w => by rw [PP_def]; exact Tryz.call118 args w
theorem fn118 : PP.funcs[118]? = some Tryz.f118 := by rw [PP_def]; exact Tryz.func118
theorem en119 : Enters PP 119 := fun args w => by rw [PP_def]; exact Tryz.call119 args w
theorem fn119 : PP.funcs[119]? = some Tryz.f119 := by rw [PP_def]; exact Tryz.func119
theorem en120 : Enters PP 120 := fun args w => by rw [PP_def]; exact Tryz.call120 args w
theorem fn120 : PP.funcs[120]? = some Tryz.f120 := by rw [PP_def]; exact Tryz.func120
theorem en121 : Enters PP 121 := fun args w => by rw [PP_def]; exact Tryz.call121 args w
theorem fn121 : PP.funcs[121]? = some Tryz.f121 := by rw [PP_def]; exact Tryz.func121
theorem en122 : Enters PP 122 := fun args w => by rw [PP_def]; exact Tryz.call122 args w
theorem fn122 : PP.funcs[122]? = some Tryz.f122 := by rw [PP_def]; exact Tryz.func122
theorem en123 : Enters PP 123 := fun args w => by rw [PP_def]; exact Tryz.call123 args w
theorem fn123 : PP.funcs[123]? = some Tryz.f123 := by rw [PP_def]; exact Tryz.func123
theorem en124 : Enters PP 124 := fun args w => by rw [PP_def]; exact Tryz.call124 args w
theorem fn124 : PP.funcs[124]? = some Tryz.f124 := by rw [PP_def]; exact Tryz.func124
theorem en125 : Enters PP 125 := fun args w => by rw [PP_def]; exact Tryz.call125 args w
theorem fn125 : PP.funcs[125]? = some Tryz.f125 := by rw [PP_def]; exact Tryz.func125
theorem en126 : Enters PP 126 := fun args w => by rw [PP_def]; exact Tryz.call126 args w
theorem fn126 : PP.funcs[126]? = some Tryz.f126 := by rw [PP_def]; exact Tryz.func126
theorem en127 : Enters PP 127 := fun args w => by rw [PP_def]; exact Tryz.call127 args w
theorem fn127 : PP.funcs[127]? = some Tryz.f127 := by rw [PP_def]; exact Tryz.func127
theorem en149 : Enters PP 149 := fun args w => by rw [PP_def]; exact Tryz.call149 args w
theorem fn149 : PP.funcs[149]? = some Tryz.f149 := by rw [PP_def]; exact Tryz.func149
theorem en150 : Enters PP 150 := fun args w => by rw [PP_def]; exact Tryz.call150 args w
theorem fn150 : PP.funcs[150]? = some Tryz.f150 := by rw [PP_def]; exact Tryz.func150
theorem en151 : Enters PP 151 := fun args w => by rw [PP_def]; exact Tryz.call151 args w
theorem fn151 : PP.funcs[151]? = some Tryz.f151 := by rw [PP_def]; exact Tryz.func151
theorem en153 : Enters PP 153 := fun args w => by rw [PP_def]; exact Tryz.call153 args w
theorem fn153 : PP.funcs[153]? = some Tryz.f153 := by rw [PP_def]; exact Tryz.func153
theorem en154 : Enters PP 154 := fun args w => by rw [PP_def]; exact Tryz.call154 args w
theorem fn154 : PP.funcs[154]? = some Tryz.f154 := by rw [PP_def]; exact Tryz.func154
theorem en155 : Enters PP 155 := fun args w => by rw [PP_def]; exact Tryz.call155 args w
theorem fn155 : PP.funcs[155]? = some Tryz.f155 := by rw [PP_def]; exact Tryz.func155
theorem en156 : Enters PP 156 := fun args w => by rw [PP_def]; exact Tryz.call156 args w
theorem fn156 : PP.funcs[156]? = some Tryz.f156 := by rw [PP_def]; exact Tryz.func156
theorem en157 : Enters PP 157 := fun args w => by rw [PP_def]; exact Tryz.call157 args w
theorem fn157 : PP.funcs[157]? = some Tryz.f157 := by rw [PP_def]; exact Tryz.func157
theorem en158 : Enters PP 158 := fun args w => by rw [PP_def]; exact Tryz.call158 args w
theorem fn158 : PP.funcs[158]? = some Tryz.f158 := by rw [PP_def]; exact Tryz.func158
theorem en160 : Enters PP 160 := fun args w => by rw [PP_def]; exact Tryz.call160 args w
theorem fn160 : PP.funcs[160]? = some Tryz.f160 := by rw [PP_def]; exact Tryz.func160
theorem en161 : Enters PP 161 := fun args w => by rw [PP_def]; exact Tryz.call161 args w
theorem fn161 : PP.funcs[161]? = some Tryz.f161 := by rw [PP_def]; exact Tryz.func161
theorem en162 : Enters PP 162 := fun args w => by rw [PP_def]; exact Tryz.call162 args w
theorem fn162 : PP.funcs[162]? = some Tryz.f162 := by rw [PP_def]; exact Tryz.func162
theorem en163 : Enters PP 163 := fun args w => by rw [PP_def]; exact Tryz.call163 args w
theorem fn163 : PP.funcs[163]? = some Tryz.f163 := by rw [PP_def]; exact Tryz.func163
theorem en165 : Enters PP 165 := fun args w => by rw [PP_def]; exact Tryz.call165 args w
theorem fn165 : PP.funcs[165]? = some Tryz.f165 := by rw [PP_def]; exact Tryz.func165
theorem en166 : Enters PP 166 := fun args w => by rw [PP_def]; exact Tryz.call166 args w
theorem fn166 : PP.funcs[166]? = some Tryz.f166 := by rw [PP_def]; exact Tryz.func166
theorem en167 : Enters PP 167 := fun args w => by rw [PP_def]; exact Tryz.call167 args w
theorem fn167 : PP.funcs[167]? = some Tryz.f167 := by rw [PP_def]; exact Tryz.func167
theorem en171 : Enters PP 171 := fun args w => by rw [PP_def]; exact Tryz.call171 args w
theorem fn171 : PP.funcs[171]? = some Tryz.f171 := by rw [PP_def]; exact Tryz.func171
theorem en173 : Enters PP 173 := fun args w => by rw [PP_def]; exact Tryz.call173 args w
theorem fn173 : PP.funcs[173]? = some Tryz.f173 := by rw [PP_def]; exact Tryz.func173
theorem en185 : Enters PP 185 := fun args w => by rw [PP_def]; exact Tryz.call185 args w
theorem fn185 : PP.funcs[185]? = some Tryz.f185 := by rw [PP_def]; exact Tryz.func185
theorem en186 : Enters PP 186 := fun args w => by rw [PP_def]; exact Tryz.call186 args w
theorem fn186 : PP.funcs[186]? = some Tryz.f186 := by rw [PP_def]; exact Tryz.func186
theorem en187 : Enters PP 187 := fun args w => by rw [PP_def]; exact Tryz.call187 args w
theorem fn187 : PP.funcs[187]? = some Tryz.f187 := by rw [PP_def]; exact Tryz.func187
theorem en188 : Enters PP 188 := fun args w => by rw [PP_def]; exact Tryz.call188 args w
theorem fn188 : PP.funcs[188]? = some Tryz.f188 := by rw [PP_def]; exact Tryz.func188
theorem en189 : Enters PP 189 := fun args w => by rw [PP_def]; exact Tryz.call189 args w
theorem fn189 : PP.funcs[189]? = some Tryz.f189 := by rw [PP_def]; exact Tryz.func189
theorem en192 : Enters PP 192 := fun args w => by rw [PP_def]; exact Tryz.call192 args w
theorem fn192 : PP.funcs[192]? = some Tryz.f192 := by rw [PP_def]; exact Tryz.func192
theorem en193 : Enters PP 193 := fun args w => by rw [PP_def]; exact Tryz.call193 args w
theorem fn193 : PP.funcs[193]? = some Tryz.f193 := by rw [PP_def]; exact Tryz.func193
theorem en194 : Enters PP 194 := fun args w => by rw [PP_def]; exact Tryz.call194 args w
theorem fn194 : PP.funcs[194]? = some Tryz.f194 := by rw [PP_def]; exact Tryz.func194
theorem en195 : Enters PP 195 := fun args w => by rw [PP_def]; exact Tryz.call195 args w
theorem fn195 : PP.funcs[195]? = some Tryz.f195 := by rw [PP_def]; exact Tryz.func195
theorem en199 : Enters PP 199 := fun args w => by rw [PP_def]; exact Tryz.call199 args w
theorem fn199 : PP.funcs[199]? = some Tryz.f199 := by rw [PP_def]; exact Tryz.func199
theorem en200 : Enters PP 200 := fun args w => by rw [PP_def]; exact Tryz.call200 args w
theorem fn200 : PP.funcs[200]? = some Tryz.f200 := by rw [PP_def]; exact Tryz.func200
theorem en201 : Enters PP 201 := fun args w => by rw [PP_def]; exact Tryz.call201 args w
theorem fn201 : PP.funcs[201]? = some Tryz.f201 := by rw [PP_def]; exact Tryz.func201
theorem en202 : Enters PP 202 := fun args w => by rw [PP_def]; exact Tryz.call202 args w
theorem fn202 : PP.funcs[202]? = some Tryz.f202 := by rw [PP_def]; exact Tryz.func202
theorem en203 : Enters PP 203 := fun args w => by rw [PP_def]; exact Tryz.call203 args w
theorem fn203 : PP.funcs[203]? = some Tryz.f203 := by rw [PP_def]; exact Tryz.func203
theorem en204 : Enters PP 204 := fun args w => by rw [PP_def]; exact Tryz.call204 args w
theorem fn204 : PP.funcs[204]? = some Tryz.f204 := by rw [PP_def]; exact Tryz.func204
theorem en205 : Enters PP 205 := fun args w => by rw [PP_def]; exact Tryz.call205 args w
theorem fn205 : PP.funcs[205]? = some Tryz.f205 := by rw [PP_def]; exact Tryz.func205
theorem en206 : Enters PP 206 := fun args w => by rw [PP_def]; exact Tryz.call206 args w
theorem fn206 : PP.funcs[206]? = some Tryz.f206 := by rw [PP_def]; exact Tryz.func206
theorem en209 : Enters PP 209 := fun args w => by rw [PP_def]; exact Tryz.call209 args w
theorem fn209 : PP.funcs[209]? = some Tryz.f209 := by rw [PP_def]; exact Tryz.func209
theorem en210 : Enters PP 210 := fun args w => by rw [PP_def]; exact Tryz.call210 args w
theorem fn210 : PP.funcs[210]? = some Tryz.f210 := by rw [PP_def]; exact Tryz.func210
theorem en211 : Enters PP 211 := fun args w => by rw [PP_def]; exact Tryz.call211 args w
theorem fn211 : PP.funcs[211]? = some Tryz.f211 := by rw [PP_def]; exact Tryz.func211
theorem en212 : Enters PP 212 := fun args w => by rw [PP_def]; exact Tryz.call212 args w
theorem fn212 : PP.funcs[212]? = some Tryz.f212 := by rw [PP_def]; exact Tryz.func212
theorem en213 : Enters PP 213 := fun args w => by rw [PP_def]; exact Tryz.call213 args w
theorem fn213 : PP.funcs[213]? = some Tryz.f213 := by rw [PP_def]; exact Tryz.func213
theorem en215 : Enters PP 215 := fun args w => by rw [PP_def]; exact Tryz.call215 args w
theorem fn215 : PP.funcs[215]? = some Tryz.f215 := by rw [PP_def]; exact Tryz.func215
theorem en216 : Enters PP 216 := fun args w => by rw [PP_def]; exact Tryz.call216 args w
theorem fn216 : PP.funcs[216]? = some Tryz.f216 := by rw [PP_def]; exact Tryz.func216
theorem en220 : Enters PP 220 := fun args w => by rw [PP_def]; exact Tryz.call220 args w
theorem fn220 : PP.funcs[220]? = some Tryz.f220 := by rw [PP_def]; exact Tryz.func220
theorem en221 : Enters PP 221 := fun args w => by rw [PP_def]; exact Tryz.call221 args w
theorem fn221 : PP.funcs[221]? = some Tryz.f221 := by rw [PP_def]; exact Tryz.func221
theorem en222 : Enters PP 222 := fun args w => by rw [PP_def]; exact Tryz.call222 args w
theorem fn222 : PP.funcs[222]? = some Tryz.f222 := by rw [PP_def]; exact Tryz.func222
theorem en223 : Enters PP 223 := fun args w => by rw [PP_def]; exact Tryz.call223 args w
theorem fn223 : PP.funcs[223]? = some Tryz.f223 := by rw [PP_def]; exact Tryz.func223
theorem en224 : Enters PP 224 := fun args w => by rw [PP_def]; exact Tryz.call224 args w
theorem fn224 : PP.funcs[224]? = some Tryz.f224 := by rw [PP_def]; exact Tryz.func224
theorem en225 : Enters PP 225 := fun args w => by rw [PP_def]; exact Tryz.call225 args w
theorem fn225 : PP.funcs[225]? = some Tryz.f225 := by rw [PP_def]; exact Tryz.func225
theorem en226 : Enters PP 226 := fun args w => by rw [PP_def]; exact Tryz.call226 args w
theorem fn226 : PP.funcs[226]? = some Tryz.f226 := by rw [PP_def]; exact Tryz.func226
theorem en229 : Enters PP 229 := fun args w => by rw [PP_def]; exact Tryz.call229 args w
theorem fn229 : PP.funcs[229]? = some Tryz.f229 := by rw [PP_def]; exact Tryz.func229
theorem en231 : Enters PP 231 := fun args w => by rw [PP_def]; exact Tryz.call231 args w
theorem fn231 : PP.funcs[231]? = some Tryz.f231 := by rw [PP_def]; exact Tryz.func231
theorem en239 : Enters PP 239 := fun args w => by rw [PP_def]; exact Tryz.call239 args w
theorem fn239 : PP.funcs[239]? = some Tryz.f239 := by rw [PP_def]; exact Tryz.func239
theorem en241 : Enters PP 241 := fun args w => by rw [PP_def]; exact Tryz.call241 args w
theorem fn241 : PP.funcs[241]? = some Tryz.f241 := by rw [PP_def]; exact Tryz.func241
theorem en242 : Enters PP 242 := fun args w => by rw [PP_def]; exact Tryz.call242 args w
theorem fn242 : PP.funcs[242]? = some Tryz.f242 := by rw [PP_def]; exact Tryz.func242
theorem en243 : Enters PP 243 := fun args w => by rw [PP_def]; exact Tryz.call243 args w
theorem fn243 : PP.funcs[243]? = some Tryz.f243 := by rw [PP_def]; exact Tryz.func243
theorem en244 : Enters PP 244 := fun args w => by rw [PP_def]; exact Tryz.call244 args w
theorem fn244 : PP.funcs[244]? = some Tryz.f244 := by rw [PP_def]; exact Tryz.func244
theorem en247 : Enters PP 247 := fun args w => by rw [PP_def]; exact Tryz.call247 args w
theorem fn247 : PP.funcs[247]? = some Tryz.f247 := by rw [PP_def]; exact Tryz.func247
theorem en249 : Enters PP 249 := fun args w => by rw [PP_def]; exact Tryz.call249 args w
theorem fn249 : PP.funcs[249]? = some Tryz.f249 := by rw [PP_def]; exact Tryz.func249
theorem en258 : Enters PP 258 := fun args w => by rw [PP_def]; exact Tryz.call258 args w
theorem fn258 : PP.funcs[258]? = some Tryz.f258 := by rw [PP_def]; exact Tryz.func258
theorem en259 : Enters PP 259 := fun args w => by rw [PP_def]; exact Tryz.call259 args w
theorem fn259 : PP.funcs[259]? = some Tryz.f259 := by rw [PP_def]; exact Tryz.func259
theorem en260 : Enters PP 260 := fun args w => by rw [PP_def]; exact Tryz.call260 args w
theorem fn260 : PP.funcs[260]? = some Tryz.f260 := by rw [PP_def]; exact Tryz.func260
theorem en261 : Enters PP 261 := fun args w => by rw [PP_def]; exact Tryz.call261 args w
theorem fn261 : PP.funcs[261]? = some Tryz.f261 := by rw [PP_def]; exact Tryz.func261
theorem en264 : Enters PP 264 := fun args w => by rw [PP_def]; exact Tryz.call264 args w
theorem fn264 : PP.funcs[264]? = some Tryz.f264 := by rw [PP_def]; exact Tryz.func264
theorem en267 : Enters PP 267 := fun args w => by rw [PP_def]; exact Tryz.call267 args w
theorem fn267 : PP.funcs[267]? = some Tryz.f267 := by rw [PP_def]; exact Tryz.func267
theorem en268 : Enters PP 268 := fun args w => by rw [PP_def]; exact Tryz.call268 args w
theorem fn268 : PP.funcs[268]? = some Tryz.f268 := by rw [PP_def]; exact Tryz.func268
theorem en269 : Enters PP 269 := fun args w => by rw [PP_def]; exact Tryz.call269 args w
theorem fn269 : PP.funcs[269]? = some Tryz.f269 := by rw [PP_def]; exact Tryz.func269
theorem en270 : Enters PP 270 := fun args w => by rw [PP_def]; exact Tryz.call270 args w
theorem fn270 : PP.funcs[270]? = some Tryz.f270 := by rw [PP_def]; exact Tryz.func270
theorem en274 : Enters PP 274 := fun args w => by rw [PP_def]; exact Tryz.call274 args w
theorem fn274 : PP.funcs[274]? = some Tryz.f274 := by rw [PP_def]; exact Tryz.func274
theorem en275 : Enters PP 275 := fun args w => by rw [PP_def]; exact Tryz.call275 args w
theorem fn275 : PP.funcs[275]? = some Tryz.f275 := by rw [PP_def]; exact Tryz.func275
theorem en276 : Enters PP 276 := fun args w => by rw [PP_def]; exact Tryz.call276 args w
theorem fn276 : PP.funcs[276]? = some Tryz.f276 := by rw [PP_def]; exact Tryz.func276
theorem en277 : Enters PP 277 := fun args w => by rw [PP_def]; exact Tryz.call277 args w
theorem fn277 : PP.funcs[277]? = some Tryz.f277 := by rw [PP_def]; exact Tryz.func277
theorem en278 : Enters PP 278 := fun args w => by rw [PP_def]; exact Tryz.call278 args w
theorem fn278 : PP.funcs[278]? = some Tryz.f278 := by rw [PP_def]; exact Tryz.func278
theorem en279 : Enters PP 279 := fun args w => by rw [PP_def]; exact Tryz.call279 args w
theorem fn279 : PP.funcs[279]? = some Tryz.f279 := by rw [PP_def]; exact Tryz.func279
theorem en280 : Enters PP 280 := fun args w => by rw [PP_def]; exact Tryz.call280 args w
theorem fn280 : PP.funcs[280]? = some Tryz.f280 := by rw [PP_def]; exact Tryz.func280
theorem en281 : Enters PP 281 := fun args w => by rw [PP_def]; exact Tryz.call281 args w
theorem fn281 : PP.funcs[281]? = some Tryz.f281 := by rw [PP_def]; exact Tryz.func281
theorem en282 : Enters PP 282 := fun args w => by rw [PP_def]; exact Tryz.call282 args w
theorem fn282 : PP.funcs[282]? = some Tryz.f282 := by rw [PP_def]; exact Tryz.func282
theorem en283 : Enters PP 283 := fun args w => by rw [PP_def]; exact Tryz.call283 args w
theorem fn283 : PP.funcs[283]? = some Tryz.f283 := by rw [PP_def]; exact Tryz.func283
theorem en284 : Enters PP 284 := fun args w => by rw [PP_def]; exact Tryz.call284 args w
theorem fn284 : PP.funcs[284]? = some Tryz.f284 := by rw [PP_def]; exact Tryz.func284
theorem en285 : Enters PP 285 := fun args w => by rw [PP_def]; exact Tryz.call285 args w
theorem fn285 : PP.funcs[285]? = some Tryz.f285 := by rw [PP_def]; exact Tryz.func285
theorem en302 : Enters PP 302 := fun args w => by rw [PP_def]; exact Tryz.call302 args w
theorem fn302 : PP.funcs[302]? = some Tryz.f302 := by rw [PP_def]; exact Tryz.func302
theorem en303 : Enters PP 303 := fun args w => by rw [PP_def]; exact Tryz.call303 args w
theorem fn303 : PP.funcs[303]? = some Tryz.f303 := by rw [PP_def]; exact Tryz.func303
theorem en304 : Enters PP 304 := fun args w => by rw [PP_def]; exact Tryz.call304 args w
theorem fn304 : PP.funcs[304]? = some Tryz.f304 := by rw [PP_def]; exact Tryz.func304
end Go.Proofs.YtgdhcgnmffgkiaaGreatDoor

namespace Go.Proofs.YtgdhcgnmffgkiaaGreatDoor
open Go.Vc Sim Go.ChangeShapes Go.WideShapes Go.RowKit
set_option maxRecDepth 100000
theorem cOwn : ownKnob Tryz.prog.godebug = none := by kernel_rfl
theorem cLaid : laidOutB Tryz.prog = true := by kernel_rfl
def nPow : String := Rows.catalogListsRow.named.headD ""
def lPow : List (String × DataW Unit) := [(nPow, Rows.laid_simulcast_array_powers)]
theorem door_met (os : Os) (args : Array Value) : laidMetH Tryz.prog lPow ((World.doorLaid Tryz.prog 400 os).forCall (fun _ _ => 0) ⟨#[], args, []⟩).memory :=
  laidMetH_of_parts3 (fuel := 8) (laidMet_of_run' 8 (by kernel_rfl) (by kernel_rfl)) (by kernel_rfl) (by kernel_rfl)
theorem calls_of {f : FuncId} {args : List Value} {W : World} (h : FnE PP W [] f args [] (.bool true) []) : Calls Tryz.prog f args.toArray W fun e W' => e = .returned (.bool true) ∧ Below W.heap.size W W' := by
  have := h.calls Heap.emp W (fun p hp => by cases hp) (st_start W)
  rw [PP_def] at this
  exact this.mono fun e W' ⟨v, Γ', he, ⟨hv, hΓ⟩, hst⟩ => ⟨by rw [he, hv], below_of_good hst.good⟩
end Go.Proofs.YtgdhcgnmffgkiaaGreatDoor

namespace Sim
open Go Go.Vc

structure Wd where
  val : Int
  ver : Int
  ref : Int
  deriving DecidableEq

structure Sp where
  kn : List (Int × Wd)
  rd : List Int
  puts : List (Int × Int)
  need : Int
  ended : Bool

def lookW : List (Int × Wd) → Int → Option Wd
  | [], _ => none
  | (a, w) :: r, x => if a = x then some w else lookW r x
def insI : List Int → Int → List Int
  | [], x => [x]
  | a :: r, x => if a = x then a :: r else a :: insI r x
def lastV : List (Int × Int) → Int → Option Int
  | [], _ => none
  | (a, v) :: r, x => match lastV r x with | some u => some u | none => if a = x then some v else none
def lastI (l : List (Int × Int)) (x : Int) : Int :=
  match l.length with
  | 0 => -1
  | _ => go l.length
where go : Nat → Int
  | 0 => -1
  | k + 1 => if (l[k]?.map (·.1)) = some x then k else go k

def Sp.reads (s : Sp) (a : Int) : Bool × Sp :=
  if s.ended then (false, s) else
  match lookW s.kn a with
  | none => (false, { s with ended := true, need := a })
  | some _ => (true, { s with rd := insI s.rd a })
def Sp.value (s : Sp) (a : Int) : Int × Bool :=
  match lastV s.puts a with
  | some v => (v, true)
  | none => (match lookW s.kn a with | some w => w.val | none => 0, false)
def Sp.get (s : Sp) (a : Int) : Int × Sp := if (s.reads a).1 then (((s.reads a).2.value a).1, (s.reads a).2) else (0, (s.reads a).2)
def Sp.put (s : Sp) (a v : Int) : Sp := if (s.reads a).1 then { (s.reads a).2 with puts := s.puts ++ [(a, v)] } else (s.reads a).2
def Sp.back (s : Sp) (m : Int) : Sp := if s.ended = false ∧ 0 ≤ m ∧ m ≤ s.puts.length then { s with puts := s.puts.take m.toNat } else s

def wordV (w : Wd) : Value := .agg #[.int .i64 w.val, .int .u32 w.ver, .int .u32 w.ref]
def knM : List (Int × Wd) → List (Int × Value)
  | [] => []
  | (a, w) :: r => (a, wordV w) :: knM r
def rdM : List Int → List (Int × Value)
  | [] => []
  | a :: r => (a, .bool true) :: rdM r
def flat : List (Int × Int) → List Value
  | [] => []
  | (a, v) :: r => .int .i64 a :: .int .i64 v :: flat r

theorem look_knM : ∀ (l : List (Int × Wd)) (a : Int), Vc.look (knM l) a = (lookW l a).map wordV
  | [], _ => rfl
  | (b, w) :: r, a => by
    simp only [knM, Vc.look, lookW]
    by_cases h : b = a <;> simp [h, look_knM r a]
theorem ins_rdM : ∀ (l : List Int) (a : Int), ins (rdM l) a (.bool true) = rdM (insI l a)
  | [], _ => rfl
  | b :: r, a => by
    simp only [rdM, ins, insI]
    by_cases h : b = a <;> simp [h, rdM, ins_rdM r a]
theorem flat_append : ∀ (l r : List (Int × Int)), flat (l ++ r) = flat l ++ flat r
  | [], _ => rfl
  | (_, _) :: l, r => by simp [flat, flat_append l r]
theorem flat_take : ∀ (l : List (Int × Int)) (k : Nat), (flat l).take (k * 2) = flat (l.take k)
  | [], k => by simp [flat]
  | (a, v) :: l, 0 => by simp [flat]
  | (a, v) :: l, k + 1 => by
    have : (k + 1) * 2 = k * 2 + 1 + 1 := by omega
    simp [flat, this, flat_take l k]
theorem flat_get : ∀ (l : List (Int × Int)) (k : Nat) (p : Int × Int), l[k]? = some p → nth (flat l) (k * 2) = some (.int .i64 p.1) ∧ nth (flat l) (k * 2 + 1) = some (.int .i64 p.2)
  | [], k, p, h => by simp at h
  | (a, v) :: l, 0, p, h => by simp at h; subst h; exact ⟨rfl, rfl⟩
  | (a, v) :: l, k + 1, p, h => by
    have e : (k + 1) * 2 = k * 2 + 1 + 1 := by omega
    simp only [List.getElem?_cons_succ] at h
    obtain ⟨h1, h2⟩ := flat_get l k p h
    exact ⟨by rw [e]; exact h1, by rw [e]; exact h2⟩

theorem lastI_spec (l : List (Int × Int)) (x : Int) (k : Nat) (hk : k ≤ l.length) (h : ∀ j, k ≤ j → j < l.length → ∀ p, l[j]? = some p → p.1 ≠ x) : lastI l x = lastI.go l x k := by
  have key : ∀ m, k + m ≤ l.length → lastI.go l x (k + m) = lastI.go l x k := by
    intro m
    induction m with
    | zero => intro _; rfl
    | succ m ih =>
      intro hm
      have hlt : k + m < l.length := by omega
      have := h (k + m) (by omega) hlt _ (List.getElem?_eq_getElem hlt)
      rw [← Nat.add_assoc]
      simp only [lastI.go]
      rw [if_neg (by rw [List.getElem?_eq_getElem hlt]; simpa using this)]
      exact ih (by omega)
  unfold lastI
  split
  · rename_i h0
    have : k = 0 := by omega
    subst this; rfl
  · obtain ⟨m, hm⟩ : ∃ m, l.length = k + m := ⟨l.length - k, by omega⟩
    rw [hm]; exact key m (by omega)

theorem go_lastV (l : List (Int × Int)) (x : Int) : ∀ k, k ≤ l.length →
    (lastV (l.take k) x = none ∧ lastI.go l x k = -1) ∨ (∃ j p, j < k ∧ l[j]? = some p ∧ p.1 = x ∧ lastV (l.take k) x = some p.2 ∧ lastI.go l x k = j) := by
  have snoc : ∀ (l : List (Int × Int)) (p : Int × Int), lastV (l ++ [p]) x = if p.1 = x then some p.2 else lastV l x := by
    intro l p
    induction l with
    | nil => simp [lastV]
    | cons q l ih =>
      obtain ⟨a, v⟩ := q
      simp only [List.cons_append, lastV, ih]
      by_cases h : p.1 = x <;> simp [h]
  intro k
  induction k with
  | zero => intro _; exact .inl ⟨by simp [lastV], rfl⟩
  | succ k ih =>
    intro hk
    have hlt : k < l.length := by omega
    have ht : l.take (k + 1) = l.take k ++ [l[k]] := List.take_succ_eq_append_getElem hlt
    rw [ht, snoc]
    simp only [lastI.go, List.getElem?_eq_getElem hlt, Option.map_some, Option.some.injEq]
    by_cases hx : (l[k]).1 = x
    · right
      exact ⟨k, l[k], by omega, List.getElem?_eq_getElem hlt, hx, by rw [if_pos hx], by rw [if_pos hx]⟩
    · rw [if_neg hx, if_neg hx]
      rcases ih (by omega) with ⟨h1, h2⟩ | ⟨j, p, h1, h2, h3, h4, h5⟩
      · exact .inl ⟨h1, h2⟩
      · exact .inr ⟨j, p, by omega, h2, h3, h4, h5⟩

theorem lastI_lastV (l : List (Int × Int)) (x : Int) : (lastV l x = none ∧ lastI l x = -1) ∨ (∃ (j : Nat) (p : Int × Int), j < l.length ∧ l[j]? = some p ∧ lastV l x = some p.2 ∧ lastI l x = j) := by
  have h1 := lastI_spec l x l.length (Nat.le_refl _) (fun j h1 h2 => by omega)
  rcases go_lastV l x l.length (Nat.le_refl _) with ⟨h2, h3⟩ | ⟨j, p, h2, h3, _, h4, h5⟩
  · left; rw [List.take_length] at h2; exact ⟨h2, h1.trans h3⟩
  · right; rw [List.take_length] at h4; exact ⟨j, p, h2, h3, h4, h1.trans h5⟩
end Sim

namespace Go.Proofs.YtgdhcgnmffgkiaaGreatDoor
open Go.Vc Sim

def SpaceParts (p : Nat) (s : Sp) (i : Nat × Nat × Option Addr × Nat) : List Asn :=
  [pt p (.cells #[.map (some i.1), .map (some i.2.1), .slice i.2.2.1 s.puts.length i.2.2.2, .int .i64 s.need, .bool s.ended] 88 (0, 0)),
   pt i.1 (mapI (knM s.kn)), pt i.2.1 (mapI (rdM s.rd)), SlA 247 2 i.2.2.1 s.puts.length i.2.2.2 (flat s.puts)]
def SpaceA (p : Nat) (s : Sp) : Asn := fun h => ∃ i, Stars (SpaceParts p s i) h
abbrev spP (p : Nat) : Value := .pointer (some ⟨p, 0, none⟩)

theorem ended_spec (w0 : World) (p : Nat) (s : Sp) : FnE PP w0 [] 23 [spP p] [SpaceA p s] (.bool s.ended) [SpaceA p s] := by
  refine fn_of_run en23 fn23 rfl rfl rfl ?_
  refine run_open [0] (SpaceParts p s) rfl (fun _ h => h) ?_
  rintro ⟨bk, br, a, cap⟩
  repeat' (first | refine zck ?_ | refine zcp (by kernel_rfl) ?_ | (refine zap rfl ?_; first | refine zaj rfl ?_ | refine zan rfl ?_ | refine zan rfl ?_ | refine zab 0 rfl rfl rfl ?_ | refine zao rfl ?_ | refine zaz rfl rfl ?_ | refine zbv rfl ?_ | refine zan rfl ?_) | refine zch ?_)
  refine run_close1 (A := SpaceA p s) [0, 0, 0, 0] rfl (fun _ h => ⟨(_, _, _, _), h⟩) ?_
  refine ret_tmp1 rfl ⟨rfl, rfl⟩

theorem mark_spec (w0 : World) (p : Nat) (s : Sp) : FnE PP w0 [] 19 [spP p] [SpaceA p s] (.int .i64 s.puts.length) [SpaceA p s] := by
  refine fn_of_run en19 fn19 rfl rfl rfl ?_
  refine run_open [0] (SpaceParts p s) rfl (fun _ h => h) ?_
  rintro ⟨bk, br, a, cap⟩
  repeat' (first | refine zck ?_ | refine zcp (by kernel_rfl) ?_ | refine zcm ?_ | (refine zap rfl ?_; first | refine zan rfl ?_ | refine zan rfl ?_ | refine zab 0 rfl rfl rfl ?_ | refine zce rfl ?_ | refine zao rfl ?_ | refine zaz rfl rfl ?_ | refine zan rfl ?_) | refine zch ?_ | refine zcj rfl ?_)
  refine run_close1 (A := SpaceA p s) [0, 0, 0, 0] rfl (fun _ h => ⟨(_, _, _, _), h⟩) ?_
  refine ret_tmp1 rfl ⟨rfl, rfl⟩

theorem reads_spec (w0 : World) (p : Nat) (s : Sp) (a : Int) : FnE PP w0 [] 103 [spP p, .int .i64 a] [SpaceA p s] (.bool (s.reads a).1) [SpaceA p (s.reads a).2] := by
  refine fn_of_run en103 fn103 rfl rfl rfl ?_
  repeat' (first | refine zck ?_ | refine zcp (by kernel_rfl) ?_ | (refine zap rfl ?_; first | refine zan rfl ?_ | refine zan rfl ?_ | refine zah [0] (ended_spec w0 _ _) rfl rfl rfl sub_nil rfl ?_) | refine zch ?_)
  refine run_condV rfl (fun hE => ?_) (fun hE => ?_)
  · repeat' (first | refine zck ?_ | refine zcp (by kernel_rfl) ?_ | (refine zap rfl ?_; first | refine zan rfl ?_) | refine zch ?_)
    refine ret_tmp1 rfl ?_
    have e : s.reads a = (false, s) := by simp [Sp.reads, hE]
    rw [e]; exact ⟨rfl, rfl⟩
  · refine run_open [0] (SpaceParts p s) rfl (fun _ h => h) ?_
    rintro ⟨bk, br, sa, cap⟩
    cases hk : lookW s.kn a with
    | none =>
      have hl : Vc.look (knM s.kn) a = none := by rw [look_knM, hk]; rfl
      repeat' (first | refine zck ?_ | refine zcp (by kernel_rfl) ?_ | refine zcm ?_ | (refine zap rfl ?_; first | refine reg_lookupOk 1 rfl rfl rfl hl ?_ | refine zan rfl ?_ | refine zan rfl ?_ | refine zab 0 rfl rfl rfl ?_ | refine zao rfl ?_ | refine zan rfl ?_ | refine zbx rfl ?_ | refine zae 0 rfl rfl rfl rfl rfl rfl rfl ?_ | refine zae 4 rfl rfl rfl rfl rfl rfl rfl ?_ | refine zan rfl ?_ | refine zar (fun nb => ?_)) | refine zch ?_ | refine zci rfl ?_)
      have e : s.reads a = (false, { s with ended := true, need := a }) := by simp [Sp.reads, hE, hk]
      rw [e]
      refine run_close1 (A := SpaceA p { s with ended := true, need := a }) [0, 0, 0, 0] rfl (fun _ h => ⟨(_, _, _, _), h⟩) ?_
      refine ret_tmp1 rfl ⟨rfl, rfl⟩
    | some wd =>
      have hl : Vc.look (knM s.kn) a = some (wordV wd) := by rw [look_knM, hk]; rfl
      repeat' (first | refine zck ?_ | refine zcp (by kernel_rfl) ?_ | refine zcm ?_ | (refine zap rfl ?_; first | refine reg_lookupOk 1 rfl rfl rfl hl ?_ | refine reg_mapUpdate 2 rfl rfl rfl rfl rfl ?_ | refine zan rfl ?_ | refine zan rfl ?_ | refine zab 0 rfl rfl rfl ?_ | refine zao rfl ?_ | refine zan rfl ?_ | refine zbx rfl ?_ | refine zae 4 rfl rfl rfl rfl rfl rfl rfl ?_ | refine zan rfl ?_ | refine zar (fun nb => ?_)) | refine zch ?_ | refine zcj rfl ?_)
      have e : s.reads a = (true, { s with rd := insI s.rd a }) := by simp [Sp.reads, hE, hk]
      rw [e]
      refine run_close1 (A := SpaceA p { s with rd := insI s.rd a }) [0, 0, 0, 0] rfl (fun _ h => ⟨(bk, br, sa, cap), by unfold SpaceParts; rw [← ins_rdM]; exact h⟩) ?_
      refine ret_tmp1 rfl ⟨rfl, rfl⟩

end Go.Proofs.YtgdhcgnmffgkiaaGreatDoor

namespace Go.Proofs.YtgdhcgnmffgkiaaGreatDoor
open Go.Vc Sim

theorem last_spec (w0 : World) (p : Nat) (s : Sp) (x : Int) (hlen : s.puts.length ≤ 1099511627776) : FnE PP w0 [] 193 [spP p, .int .i64 x] [SpaceA p s] (.int .i64 (lastI s.puts x)) [SpaceA p s] := by
  refine fn_of_run en193 fn193 rfl rfl rfl ?_
  refine run_open [0] (SpaceParts p s) rfl (fun _ h => h) ?_
  rintro ⟨bk, br, sa, cap⟩
  repeat' (first | refine zck ?_ | refine zcp (by kernel_rfl) ?_ | refine zcl ?_ | (refine zap rfl ?_; first | refine zan rfl ?_ | refine zan rfl ?_ | refine zab 0 rfl rfl rfl ?_ | refine zce rfl ?_ | refine zao rfl ?_ | refine zav rfl rfl (by omega) ?_ | refine zan rfl ?_) | refine zch ?_)
  refine run_loop (S := Nat) (fun k => [(0, spP p), (1, .int .i64 x), (5, .int .i64 ((k : Int) - 1))])
    (fun k Γ => Γ = SpaceParts p s (bk, br, sa, cap) ∧ k ≤ s.puts.length ∧ ∀ j, k ≤ j → j < s.puts.length → ∀ p, s.puts[j]? = some p → p.1 ≠ x)
    (fun k => k) s.puts.length ⟨rfl, rfl, rfl, trivial⟩ ⟨rfl, Nat.le_refl _, fun j h1 h2 => absurd h2 (by omega)⟩ ?_
  rintro k Γ junk ⟨rfl, hk, hno⟩
  repeat' (first | refine zck ?_ | refine zcp (by kernel_rfl) ?_ | (refine zap rfl ?_; first | refine zan rfl ?_ | refine zbt rfl rfl ?_) | refine zch ?_)
  refine run_cond rfl (fun hc => ?_) (fun hc => ?_)
  · have hc : (0 : Int) ≤ (k : Int) - 1 := by simpa using hc
    refine run_sl_cases 3 rfl ?_ ?_
    · intro h1 h2 h3 h4; omega
    · intro nb h1 h2 h3
      subst h1
      obtain ⟨k, rfl⟩ : ∃ m, k = m + 1 := ⟨k - 1, by omega⟩
      have hlt : k < s.puts.length := by omega
      obtain ⟨q, hq⟩ : ∃ q, s.puts[k]? = some q := ⟨_, List.getElem?_eq_getElem hlt⟩
      have hr : ∀ o, o = k * 2 → rd false 1 (flat s.puts) o = some (.int .i64 q.1) := by
        intro o ho; subst ho; exact (flat_get _ _ _ hq).1
      repeat' (first | refine zck ?_ | refine zcp (by kernel_rfl) ?_ | refine zcm ?_ | refine zcl ?_ | (refine zap rfl ?_; first | refine zag 3 rfl rfl (hr _ (by omega)) (by intro h; cases h) ?_ | refine zan rfl ?_ | refine zab 0 rfl rfl rfl ?_ | refine zao rfl ?_ | refine zbo rfl rfl ?_ | refine zan rfl ?_ | refine zas rfl rfl (by omega) ?_) | refine zch ?_)
      refine run_condV rfl (fun hE => ?_) (fun hE => ?_)
      · have hE : q.1 = x := by simpa using hE
        repeat' (first | refine zck ?_ | refine zcp (by kernel_rfl) ?_ | (refine zap rfl ?_; first | refine zan rfl ?_ | refine zan rfl ?_) | refine zch ?_)
        refine run_close1 (A := SpaceA p s) [0, 0, 0, 0] rfl (fun _ h => ⟨(_, _, _, _), h⟩) ?_
        refine qret1 (fun _ _ h => h) rfl ⟨int_eq ?_, rfl⟩
        rw [lastI_spec s.puts x (k + 1) hk hno]
        simp only [lastI.go, hq, Option.map_some, hE, if_true]
        omega
      · have hE : q.1 ≠ x := by simpa using hE
        repeat' (first | refine zcp (by kernel_rfl) ?_ | refine zcm ?_ | refine zcn ?_ | (refine zap rfl ?_; first | refine zan rfl ?_ | refine zan rfl ?_ | refine zav rfl rfl (by omega) ?_) | refine zch ?_)
        refine cut_end ⟨rfl, k, ⟨rfl, rfl, int_eq (by omega), trivial⟩, ⟨rfl, by omega, ?_⟩, by omega⟩
        intro j h1 h2 p hp
        by_cases hj : j = k
        · subst hj; rw [hq] at hp; cases hp; exact hE
        · exact hno j (by omega) h2 p hp
  · have hc : ¬ (0 : Int) ≤ (k : Int) - 1 := by simpa using hc
    have hk0 : k = 0 := by omega
    subst hk0
    repeat' (first | refine zck ?_ | (refine zap rfl ?_; first | refine zan rfl ?_) | refine zch ?_)
    refine cut_exit rfl rfl ?_
    repeat' (first | refine zck ?_ | refine zcp (by kernel_rfl) ?_ | (refine zap rfl ?_; first | refine zan rfl ?_) | refine zch ?_)
    refine run_close1 (A := SpaceA p s) [0, 0, 0, 0] rfl (fun _ h => ⟨(_, _, _, _), h⟩) ?_
    refine ret_tmp1 rfl ⟨int_eq ?_, rfl⟩
    rw [lastI_spec s.puts x 0 hk hno]; rfl
end Go.Proofs.YtgdhcgnmffgkiaaGreatDoor

namespace Go.Proofs.YtgdhcgnmffgkiaaGreatDoor
open Go.Vc Sim

theorem value_spec (w0 : World) (p : Nat) (s : Sp) (x : Int) (hlen : s.puts.length ≤ 1099511627776) : FnE PP w0 [] 104 [spP p, .int .i64 x] [SpaceA p s] (.tuple #[.int .i64 (s.value x).1, .bool (s.value x).2]) [SpaceA p s] := by
  refine fn_of_run en104 fn104 rfl rfl rfl ?_
  rcases lastI_lastV s.puts x with ⟨h1, h2⟩ | ⟨j, q, h1, hq, h2, h3⟩
  · repeat' (first | refine zck ?_ | refine zcp (by kernel_rfl) ?_ | (refine zap rfl ?_; first | refine zan rfl ?_ | refine zan rfl ?_ | refine zah [0] (last_spec w0 p s x hlen) rfl rfl rfl sub_nil rfl ?_ | refine zbt rfl rfl ?_) | refine zch ?_)
    refine zcj (by rw [h2]; rfl) ?_
    refine run_open [0] (SpaceParts p s) rfl (fun _ h => h) ?_
    rintro ⟨bk, br, sa, cap⟩
    cases hk : lookW s.kn x with
    | none =>
      have hl : Vc.look (knM s.kn) x = none := by rw [look_knM, hk]; rfl
      repeat' (first | refine zck ?_ | refine zcp (by kernel_rfl) ?_ | refine zcm ?_ | (refine zap rfl ?_; first | refine reg_lookup1 1 rfl rfl rfl hl ?_ | refine reg_fieldV rfl rfl ?_ | refine zan rfl ?_ | refine zan rfl ?_ | refine zab 0 rfl rfl rfl ?_ | refine zao rfl ?_ | refine zan rfl ?_) | refine zch ?_)
      have e : s.value x = (0, false) := by simp [Sp.value, h1, hk]
      rw [e]
      refine run_close1 (A := SpaceA p s) [0, 0, 0, 0] rfl (fun _ h => ⟨(_, _, _, _), h⟩) ?_
      refine ret_tmp2 rfl ⟨rfl, rfl⟩
    | some wd =>
      have hl : Vc.look (knM s.kn) x = some (wordV wd) := by rw [look_knM, hk]; rfl
      repeat' (first | refine zck ?_ | refine zcp (by kernel_rfl) ?_ | refine zcm ?_ | (refine zap rfl ?_; first | refine reg_lookup1 1 rfl rfl rfl hl ?_ | refine reg_fieldV rfl rfl ?_ | refine zan rfl ?_ | refine zan rfl ?_ | refine zab 0 rfl rfl rfl ?_ | refine zao rfl ?_ | refine zan rfl ?_) | refine zch ?_)
      have e : s.value x = (wd.val, false) := by simp [Sp.value, h1, hk]
      rw [e]
      refine run_close1 (A := SpaceA p s) [0, 0, 0, 0] rfl (fun _ h => ⟨(_, _, _, _), h⟩) ?_
      refine ret_tmp2 rfl ⟨rfl, rfl⟩
  · have hr : ∀ o, o = j * 2 + 1 → rd false 1 (flat s.puts) o = some (.int .i64 q.2) := by
      intro o ho; subst ho; exact (flat_get _ _ _ hq).2
    repeat' (first | refine zck ?_ | refine zcp (by kernel_rfl) ?_ | (refine zap rfl ?_; first | refine zan rfl ?_ | refine zan rfl ?_ | refine zah [0] (last_spec w0 p s x hlen) rfl rfl rfl sub_nil rfl ?_ | refine zbt rfl rfl ?_) | refine zch ?_)
    refine zci (by rw [h3]; exact bool_eq (by simp)) ?_
    refine run_open [0] (SpaceParts p s) rfl (fun _ h => h) ?_
    rintro ⟨bk, br, sa, cap⟩
    refine run_sl_cases 3 rfl (fun _ h => absurd h (by omega)) ?_
    intro nb e1 e2 e3
    subst e1
    repeat' (first | refine zck ?_ | refine zcp (by kernel_rfl) ?_ | (refine zap rfl ?_; first | refine zag 3 rfl rfl (hr _ (by omega)) (by intro h; cases h) ?_ | refine zan rfl ?_ | refine zan rfl ?_ | refine zab 0 rfl rfl rfl ?_ | refine zao rfl ?_ | refine zan rfl ?_ | refine zas rfl rfl (by omega) ?_) | refine zch ?_)
    have e : s.value x = (q.2, true) := by simp [Sp.value, h2]
    rw [e]
    refine run_close1 (A := SpaceA p s) [0, 0, 0, 0] rfl (fun _ h => ⟨(_, _, _, _), h⟩) ?_
    refine ret_tmp2 rfl ⟨rfl, rfl⟩

theorem reads_puts (s : Sp) (x : Int) : (s.reads x).2.puts = s.puts := by unfold Sp.reads; split; rfl; split <;> rfl

theorem get_spec (w0 : World) (p : Nat) (s : Sp) (x : Int) (hlen : s.puts.length ≤ 1099511627776) : FnE PP w0 [] 36 [spP p, .int .i64 x] [SpaceA p s] (.int .i64 (s.get x).1) [SpaceA p (s.get x).2] := by
  refine fn_of_run en36 fn36 rfl rfl rfl ?_
  repeat' (first | refine zck ?_ | refine zcp (by kernel_rfl) ?_ | (refine zap rfl ?_; first | refine zan rfl ?_ | refine zan rfl ?_ | refine zah [0] (reads_spec w0 p s x) rfl rfl rfl sub_nil rfl ?_ | refine zbx rfl ?_) | refine zch ?_)
  refine run_condV rfl (fun hE => ?_) (fun hE => ?_)
  · have hE : (s.reads x).1 = false := by simpa using hE
    repeat' (first | refine zck ?_ | refine zcp (by kernel_rfl) ?_ | (refine zap rfl ?_; first | refine zan rfl ?_) | refine zch ?_)
    have e : s.get x = (0, (s.reads x).2) := by simp [Sp.get, hE]
    rw [e]
    refine ret_tmp1 rfl ⟨rfl, rfl⟩
  · have hE : (s.reads x).1 = true := by simpa using hE
    repeat' (first | refine zck ?_ | refine zcp (by kernel_rfl) ?_ | refine zcm ?_ | (refine zap rfl ?_; first | refine zan rfl ?_ | refine zan rfl ?_ | refine zah [0] (value_spec w0 p (s.reads x).2 x (by rw [reads_puts]; exact hlen)) rfl rfl rfl sub_nil rfl ?_ | refine zan rfl ?_) | refine zch ?_)
    have e : s.get x = (((s.reads x).2.value x).1, (s.reads x).2) := by simp [Sp.get, hE]
    rw [e]
    refine ret_tmp1 rfl ⟨rfl, rfl⟩

theorem put_spec (w0 : World) (p : Nat) (s : Sp) (x v : Int) (hlen : s.puts.length ≤ 1099511627776) : FnE PP w0 [] 109 [spP p, .int .i64 x, .int .i64 v] [SpaceA p s] (.tuple #[]) [SpaceA p (s.put x v)] := by
  refine fn_of_run en109 fn109 rfl rfl rfl ?_
  repeat' (first | refine zck ?_ | refine zcp (by kernel_rfl) ?_ | (refine zap rfl ?_; first | refine zan rfl ?_ | refine zah [0] (reads_spec w0 p s x) rfl rfl rfl sub_nil rfl ?_) | refine zch ?_)
  refine run_condV rfl (fun hE => ?_) (fun hE => ?_)
  · generalize hs1 : (s.reads x).2 = s1
    have hp1 : s1.puts = s.puts := by rw [← hs1, reads_puts]
    have e : s.put x v = { s1 with puts := s1.puts ++ [(x, v)] } := by simp [Sp.put, hE, hs1, hp1]
    rw [e]
    refine run_open [0] (SpaceParts p s1) rfl (fun _ h => h) ?_
    rintro ⟨bk, br, sa, cap⟩
    repeat' (first | refine zcp (by kernel_rfl) ?_ | (refine zap rfl ?_; first | refine zcb rfl ?_ | refine reg_buildSlice rfl rfl rfl rfl rfl rfl (fun nb => ?_) | refine reg_append 3 4 rfl rfl rfl rfl rfl rfl rfl rfl (by rw [hp1]; omega) (fun _ _ => rfl) (fun a' cap' => ?_) | refine zan rfl ?_ | refine zab 0 rfl rfl rfl ?_ | refine zao rfl ?_ | refine zae 0 rfl rfl rfl rfl rfl rfl rfl ?_ | refine zan rfl ?_) | refine zch ?_)
    refine run_close1 (A := SpaceA p { s1 with puts := s1.puts ++ [(x, v)] }) [0, 0, 0, 0] rfl (fun _ h => ⟨(bk, br, a', cap'), by unfold SpaceParts; rw [flat_append, List.length_append]; exact h⟩) ?_
    exact end_tmp0 rfl ⟨rfl, rfl⟩
  · have e : s.put x v = (s.reads x).2 := by simp [Sp.put, hE]
    rw [e]
    repeat' (first | refine zcm ?_ | (refine zap rfl ?_; first | refine zan rfl ?_) | refine zch ?_)
    exact end_tmp0 rfl ⟨rfl, rfl⟩

theorem back_spec (w0 : World) (p : Nat) (s : Sp) (m : Int) : FnE PP w0 [] 122 [spP p, .int .i64 m] [SpaceA p s] (.tuple #[]) [SpaceA p (s.back m)] := by
  refine fn_of_run en122 fn122 rfl rfl rfl ?_
  obtain ⟨kn, rd, puts, need, ended⟩ := s
  generalize hs : (⟨kn, rd, puts, need, ended⟩ : Sp) = s
  cases ended with
  | true =>
    have e : s.back m = s := by rw [← hs]; simp [Sp.back]
    rw [e, ← hs]
    repeat' (first | refine zck ?_ | refine zcp (by kernel_rfl) ?_ | refine zcm ?_ | (refine zap rfl ?_; first | refine zak rfl ?_ | refine zan rfl ?_ | refine zah [0] (ended_spec w0 p _) rfl rfl rfl sub_nil rfl ?_ | refine zbx rfl ?_ | refine zbv rfl ?_) | refine zch ?_ | refine zcj rfl ?_)
    exact end_tmp0 rfl ⟨rfl, rfl⟩
  | false =>
    by_cases h0 : 0 ≤ m
    · have d0 : decide (0 ≤ m) = true := decide_eq_true h0
      by_cases h1 : m ≤ puts.length
      · have d1 : decide (m ≤ (puts.length : Int)) = true := decide_eq_true h1
        have e : s.back m = ⟨kn, rd, puts.take m.toNat, need, false⟩ := by rw [← hs]; simp [Sp.back, h0, h1]
        rw [e, ← hs]
        repeat' (first | refine zck ?_ | refine zcp (by kernel_rfl) ?_ | (refine zap rfl ?_; first | (refine zbt rfl rfl ?_; rw [d0]) | refine zaj rfl ?_ | refine zan rfl ?_ | refine zah [0] (ended_spec w0 p _) rfl rfl rfl sub_nil rfl ?_ | refine zao rfl ?_ | refine zbx rfl ?_ | refine zbu rfl ?_ | refine zan rfl ?_) | refine zch ?_)
        refine reg_open [0] (SpaceParts p ⟨kn, rd, puts, need, false⟩) rfl rfl (fun _ h => h) ?_
        rintro ⟨bk, br, sa, cap⟩
        refine reg_know rfl (sl_know 3 rfl) (fun hcap => ?_)
        have hcap2 : puts.length ≤ cap := hcap.2
        repeat' (first | refine zcp (by kernel_rfl) ?_ | (refine zap rfl ?_; first | (refine zbr rfl rfl ?_; rw [d1]) | refine reg_slice3 rfl rfl rfl (h' := m) (m' := m) ⟨h0, Int.le_refl _, Int.le_trans h1 (Int.ofNat_le.2 hcap2)⟩ ?_ | refine zaj rfl ?_ | refine zan rfl ?_ | refine zab 0 rfl rfl rfl ?_ | refine zce rfl ?_ | refine zao rfl ?_ | refine zbu rfl ?_ | refine zae 0 rfl rfl rfl rfl rfl rfl rfl ?_ | refine zan rfl ?_) | refine zch ?_ | refine zci rfl ?_)
        refine run_exch 3 (SlA 247 2 sa m.toNat m.toNat ((flat puts).take (m.toNat * 2))) rfl (fun g hg => SlA_cut hg (by show m.toNat ≤ puts.length; omega)) rfl ?_
        have hl : (puts.take m.toNat).length = m.toNat := by rw [List.length_take]; omega
        refine run_close1 (A := SpaceA p ⟨kn, rd, puts.take m.toNat, need, false⟩) [0, 0, 0, 0] rfl (fun _ h => ⟨(bk, br, sa, m.toNat), by unfold SpaceParts; rw [hl, ← flat_take]; exact h⟩) ?_
        exact end_tmp0 rfl ⟨rfl, rfl⟩
      · have d1 : decide (m ≤ (puts.length : Int)) = false := decide_eq_false h1
        have e : s.back m = s := by rw [← hs]; simp [Sp.back, h1]
        rw [e, ← hs]
        repeat' (first | refine zck ?_ | refine zcp (by kernel_rfl) ?_ | (refine zap rfl ?_; first | (refine zbt rfl rfl ?_; rw [d0]) | refine zaj rfl ?_ | refine zan rfl ?_ | refine zah [0] (ended_spec w0 p _) rfl rfl rfl sub_nil rfl ?_ | refine zao rfl ?_ | refine zbx rfl ?_ | refine zbu rfl ?_ | refine zan rfl ?_) | refine zch ?_)
        refine reg_open [0] (SpaceParts p ⟨kn, rd, puts, need, false⟩) rfl rfl (fun _ h => h) ?_
        rintro ⟨bk, br, sa, cap⟩
        repeat' (first | refine zcm ?_ | (refine zap rfl ?_; first | (refine zbr rfl rfl ?_; rw [d1]) | refine zaj rfl ?_ | refine zab 0 rfl rfl rfl ?_ | refine zce rfl ?_ | refine zbu rfl ?_) | refine zch ?_ | refine zcj rfl ?_)
        refine run_close1 (A := SpaceA p ⟨kn, rd, puts, need, false⟩) [0, 0, 0, 0] rfl (fun _ h => ⟨(bk, br, sa, cap), h⟩) ?_
        exact end_tmp0 rfl ⟨rfl, rfl⟩
    · have d0 : decide (0 ≤ m) = false := decide_eq_false h0
      have e : s.back m = s := by rw [← hs]; simp [Sp.back, h0]
      rw [e, ← hs]
      repeat' (first | refine zck ?_ | refine zcp (by kernel_rfl) ?_ | refine zcm ?_ | (refine zap rfl ?_; first | (refine zbt rfl rfl ?_; rw [d0]) | refine zaj rfl ?_ | refine zak rfl ?_ | refine zan rfl ?_ | refine zah [0] (ended_spec w0 p _) rfl rfl rfl sub_nil rfl ?_ | refine zbx rfl ?_ | refine zbu rfl ?_ | refine zbv rfl ?_) | refine zch ?_ | refine zcj rfl ?_)
      exact end_tmp0 rfl ⟨rfl, rfl⟩
end Go.Proofs.YtgdhcgnmffgkiaaGreatDoor

namespace Sim
open Go Go.Vc

inductive Pg (α : Type) : Type where
  | ret : α → Pg α
  | get : Int → (Int → Pg α) → Pg α
  | put : Int → Int → Pg α → Pg α
  | mark : (Nat → Pg α) → Pg α
  | back : Nat → Pg α → Pg α
namespace Pg
variable {α β γ : Type}
def bind : Pg α → (α → Pg β) → Pg β
  | ret a, f => f a
  | get x k, f => get x fun v => (k v).bind f
  | put x v k, f => put x v (k.bind f)
  | mark k, f => mark fun m => (k m).bind f
  | back m k, f => back m (k.bind f)
instance : Monad Pg where
  pure := ret
  bind := bind
def gt (x : Int) : Pg Int := get x ret
def pt (x v : Int) : Pg Unit := put x v (ret ())
def mk : Pg Nat := mark ret
def bk (m : Nat) : Pg Unit := back m (ret ())

def run : Pg α → Sp → α × Sp
  | ret a, s => (a, s)
  | get x k, s => run (k (s.get x).1) (s.get x).2
  | put x v k, s => run k (s.put x v)
  | mark k, s => run (k s.puts.length) s
  | back m k, s => run k (s.back m)
def Fits : Pg α → Sp → Prop
  | ret _, s => s.puts.length ≤ 1099511627776
  | get x k, s => s.puts.length ≤ 1099511627776 ∧ Fits (k (s.get x).1) (s.get x).2
  | put x v k, s => s.puts.length ≤ 1099511627776 ∧ Fits k (s.put x v)
  | mark k, s => s.puts.length ≤ 1099511627776 ∧ Fits (k s.puts.length) s
  | back m k, s => s.puts.length ≤ 1099511627776 ∧ Fits k (s.back m)
theorem Fits.here : ∀ {g : Pg α} {s : Sp}, Fits g s → s.puts.length ≤ 1099511627776
  | ret _, _, h => h
  | get _ _, _, h => h.1
  | put _ _ _, _, h => h.1
  | mark _, _, h => h.1
  | back _ _, _, h => h.1
theorem run_bind (f : α → Pg β) : ∀ (g : Pg α) (s : Sp), run (g >>= f) s = run (f (run g s).1) (run g s).2
  | ret _, _ => rfl
  | get x k, s => run_bind f (k (s.get x).1) (s.get x).2
  | put x v k, s => run_bind f k (s.put x v)
  | mark k, s => run_bind f (k s.puts.length) s
  | back m k, s => run_bind f k (s.back m)
theorem fits_bind (f : α → Pg β) : ∀ (g : Pg α) (s : Sp), Fits (g >>= f) s → Fits g s ∧ Fits (f (run g s).1) (run g s).2
  | ret _, _, h => ⟨Fits.here h, h⟩
  | get x k, s, h => let ⟨h1, h2⟩ := fits_bind f (k (s.get x).1) (s.get x).2 h.2; ⟨⟨h.1, h1⟩, h2⟩
  | put x v k, s, h => let ⟨h1, h2⟩ := fits_bind f k (s.put x v) h.2; ⟨⟨h.1, h1⟩, h2⟩
  | mark k, s, h => let ⟨h1, h2⟩ := fits_bind f (k s.puts.length) s h.2; ⟨⟨h.1, h1⟩, h2⟩
  | back m k, s, h => let ⟨h1, h2⟩ := fits_bind f k (s.back m) h.2; ⟨⟨h.1, h1⟩, h2⟩
theorem bind_assoc (f : α → Pg β) (g : β → Pg γ) : ∀ (x : Pg α), (x >>= f) >>= g = x >>= fun a => f a >>= g
  | ret _ => rfl
  | get x k => congrArg (get x) (funext fun v => bind_assoc f g (k v))
  | put x v k => congrArg (put x v) (bind_assoc f g k)
  | mark k => congrArg mark (funext fun m => bind_assoc f g (k m))
  | back m k => congrArg (back m) (bind_assoc f g k)
theorem pure_bind (a : α) (f : α → Pg β) : (pure a >>= f) = f a := rfl
theorem ite_bind (c : Prop) [Decidable c] (x y : Pg α) (f : α → Pg β) : ((if c then x else y) >>= f) = if c then x >>= f else y >>= f := by split <;> rfl
theorem bind_pure : ∀ (x : Pg α), (x >>= fun a => pure a) = x
  | ret _ => rfl
  | get x k => congrArg (get x) (funext fun v => bind_pure (k v))
  | put x v k => congrArg (put x v) (bind_pure k)
  | mark k => congrArg mark (funext fun m => bind_pure (k m))
  | back m k => congrArg (back m) (bind_pure k)

def Bd : Nat → Pg α → Prop
  | _, ret _ => True
  | j, get _ k => ∀ v, Bd j (k v)
  | 0, put _ _ _ => False
  | j + 1, put _ _ k => Bd j k
  | j, mark k => ∀ m, Bd j (k m)
  | j, back _ k => Bd j k
theorem Bd.mono : ∀ {g : Pg α} {i j : Nat}, i ≤ j → Bd i g → Bd j g
  | ret _, i, j, _, _ => by simp [Bd]
  | get _ k, i, j, h, hb => by simp only [Bd] at hb ⊢; exact fun v => Bd.mono h (hb v)
  | put _ _ k, 0, j, h, hb => by simp [Bd] at hb
  | put _ _ k, i + 1, 0, h, hb => absurd h (by omega)
  | put _ _ k, i + 1, j + 1, h, hb => by simp only [Bd] at hb ⊢; exact Bd.mono (by omega) hb
  | mark k, i, j, h, hb => by simp only [Bd] at hb ⊢; exact fun v => Bd.mono h (hb v)
  | back _ k, i, j, h, hb => by simp only [Bd] at hb ⊢; exact Bd.mono h hb
theorem bd_bind {f : α → Pg β} {j : Nat} (hf : ∀ a, Bd j (f a)) : ∀ {g : Pg α} {i : Nat}, Bd i g → Bd (i + j) (g >>= f)
  | ret a, i, _ => Bd.mono (by omega) (hf a)
  | get x k, i, h => by
    simp only [Bd] at h
    show Bd (i + j) (get x fun v => (k v >>= f))
    simp only [Bd]
    exact fun v => bd_bind hf (h v)
  | put x v k, 0, h => by simp [Bd] at h
  | put x v k, i + 1, h => by
    simp only [Bd] at h
    show Bd (i + 1 + j) (put x v (k >>= f))
    rw [show i + 1 + j = (i + j) + 1 by omega]
    simp only [Bd]
    exact bd_bind hf h
  | mark k, i, h => by
    simp only [Bd] at h
    show Bd (i + j) (mark fun v => (k v >>= f))
    simp only [Bd]
    exact fun v => bd_bind hf (h v)
  | back m k, i, h => by
    simp only [Bd] at h
    show Bd (i + j) (back m (k >>= f))
    simp only [Bd]
    exact bd_bind hf h
theorem bd_seq {f : α → Pg β} {g : Pg α} {i j n : Nat} (hg : Bd i g) (hf : ∀ a, Bd j (f a)) (h : i + j ≤ n) : Bd n (g >>= f) := (bd_bind hf hg).mono h
theorem bd_then {f : α → Pg β} {g : Pg α} {i n : Nat} (hg : Bd i g) (hf : ∀ a, Bd (n - i) (f a)) (h : i ≤ n) : Bd n (g >>= f) := bd_seq hg hf (by omega)
theorem bd_gt0 (x : Int) : Bd 0 (gt x) := fun _ => trivial
theorem bd_mk0 : Bd 0 mk := fun _ => trivial
theorem bd_bk0 (m : Nat) : Bd 0 (bk m) := trivial
theorem bd_pure {j : Nat} (a : α) : Bd j (pure a : Pg α) := by show Bd j (ret a); simp [Bd]
theorem bd_pt (x v : Int) : Bd 1 (pt x v) := by simp [pt, Bd]
theorem bd_ite {c : Prop} [Decidable c] {x y : Pg α} {j : Nat} (hx : Bd j x) (hy : Bd j y) : Bd j (if c then x else y) := by split <;> assumption
theorem reads_puts' (s : Sp) (x : Int) : (s.reads x).2.puts = s.puts := by unfold Sp.reads; split; rfl; split <;> rfl
theorem get_puts (s : Sp) (x : Int) : (s.get x).2.puts = s.puts := by simp only [Sp.get]; split <;> exact reads_puts' s x
theorem put_len (s : Sp) (x v : Int) : (s.put x v).puts.length ≤ s.puts.length + 1 := by
  simp only [Sp.put]; split
  · simp
  · rw [reads_puts']; omega
theorem back_len (s : Sp) (m : Int) : (s.back m).puts.length ≤ s.puts.length := by
  simp only [Sp.back]; split
  · simp; omega
  · exact Nat.le_refl _
theorem fits_of : ∀ (g : Pg α) (j : Nat) (s : Sp), Bd j g → s.puts.length + j ≤ 1099511627776 → Fits g s
  | ret _, _, s, _, h => by simp only [Fits]; omega
  | get x k, j, s, hb, h => by
    simp only [Bd] at hb
    exact ⟨by omega, fits_of _ j _ (hb _) (by rw [get_puts]; exact h)⟩
  | put x v k, 0, s, hb, h => by simp [Bd] at hb
  | put x v k, j + 1, s, hb, h => by
    simp only [Bd] at hb
    have h2 := put_len s x v
    exact ⟨by omega, fits_of _ j _ hb (by omega)⟩
  | mark k, j, s, hb, h => by
    simp only [Bd] at hb
    exact ⟨by omega, fits_of _ j _ (hb _) h⟩
  | back m k, j, s, hb, h => by
    simp only [Bd] at hb
    have h2 := back_len s m
    exact ⟨by omega, fits_of _ j _ hb (by omega)⟩
def All (φ : α → Prop) : Pg α → Prop
  | ret a => φ a
  | get _ k => ∀ v, All φ (k v)
  | put _ _ k => All φ k
  | mark k => ∀ m, All φ (k m)
  | back _ k => All φ k
theorem all_run {φ : α → Prop} : ∀ {g : Pg α} {s : Sp}, All φ g → φ (run g s).1
  | ret _, _, h => h
  | get x k, s, h => all_run (g := k (s.get x).1) (s := (s.get x).2) (h _)
  | put x v k, s, h => all_run (g := k) (s := s.put x v) h
  | mark k, s, h => all_run (g := k s.puts.length) (s := s) (h _)
  | back m k, s, h => all_run (g := k) (s := s.back m) h
theorem all_then {φ : β → Prop} {f : α → Pg β} (hf : ∀ a, All φ (f a)) : ∀ {g : Pg α}, All φ (g >>= f)
  | ret a => hf a
  | get _ _ => fun _ => all_then hf
  | put _ _ k => all_then (g := k) hf
  | mark _ => fun _ => all_then hf
  | back _ k => all_then (g := k) hf
theorem all_ite {φ : α → Prop} {c : Prop} [Decidable c] {x y : Pg α} (hx : c → All φ x) (hy : ¬ c → All φ y) : All φ (if c then x else y) := by split; exact hx ‹_›; exact hy ‹_›
theorem all_pure {φ : α → Prop} {a : α} (h : φ a) : All φ (pure a : Pg α) := h
end Pg
structure At {α : Type} (R : α × Sp) (g : Pg α) (s : Sp) : Prop where
  eq : R = Pg.run g s
  fits : Pg.Fits g s
theorem At.start {α : Type} {g : Pg α} {s : Sp} (h : Pg.Fits g s) : At (Pg.run g s) g s := ⟨rfl, h⟩
theorem At.step {α β : Type} {R : β × Sp} {g : Pg α} {f : α → Pg β} {s : Sp} (h : At R (g >>= f) s) : Pg.Fits g s ∧ At R (f (Pg.run g s).1) (Pg.run g s).2 :=
  ⟨(Pg.fits_bind f g s h.fits).1, h.eq.trans (Pg.run_bind f g s), (Pg.fits_bind f g s h.fits).2⟩
theorem At.to {α : Type} {R : α × Sp} {g g' : Pg α} {s : Sp} (h : At R g s) (e : g = g') : At R g' s := e ▸ h
theorem At.last {α : Type} {R : α × Sp} {g : Pg α} {s : Sp} (h : At R g s) : Pg.Fits g s ∧ At R (Pg.ret (Pg.run g s).1) (Pg.run g s).2 :=
  At.step (f := fun a => (pure a : Pg α)) (h.to (Pg.bind_pure g).symm)
theorem At.done {α : Type} {R : α × Sp} {a : α} {s : Sp} (h : At R (Pg.ret a) s) : R = (a, s) := h.eq
end Sim

namespace Go.Proofs.YtgdhcgnmffgkiaaGreatDoor
open Go.Vc Sim

abbrev FnG {α : Type} (w0 : World) (sh : Shared) (f : FuncId) (args : List Value) (p : Nat) (g : Pg α) (enc : α → Value) : Prop :=
  ∀ s, Pg.Fits g s → FnE PP w0 sh f args [SpaceA p s] (enc (Pg.run g s).1) [SpaceA p (Pg.run g s).2]

section
variable {w0 : World} {n : Nat} {sh shf : Shared} {Q : Exit → Env → List Deferred → List Asn → Prop} {k : List Item} {ρ : Env} {df : List Deferred} {Γ Γr : List Asn}
variable {ops : Array Oper} {l : List (Fl × Nat × Oper)} {i : Nat} {ty : TypeId} {pos : String} {aft : Array Edge} {dst : Option Tmp}
variable {f : FuncId} {args : List Value} {fo : Operand} {cargs : Array Operand} {ats : Array TypeId} {first cap : Array Value}
theorem reg_callG (is : List Nat) {α β : Type} {R : β × Sp} {g : Pg α} {kk : α → Pg β} {s : Sp} {p : Nat} {enc : α → Value} (hG : At R (g >>= kk) s) (spec : FnG w0 shf f args p g enc)
    (hfo : ev ρ fo = .func (.func f) first cap) (hargs : first.toList ++ cargs.toList.map (ev ρ) ++ cap.toList = args)
    (hp : pick is Γ = some ([SpaceA p s], Γr)) (hsh : ∀ p ∈ shf, p ∈ sh) (h : ∀ x s', At R (kk x) s' → Reg PP w0 n sh Q ops l k (ρ.setO dst (enc x)) df (SpaceA p s' :: Γr)) :
    Reg PP w0 n sh Q ops ((Fl.loud, i, ⟨dst, .call ⟨.value fo, cargs, ats⟩, ty, pos, aft, none⟩) :: l) k ρ df Γ :=
  zah is (spec s hG.step.1) hfo hargs hp hsh rfl (h _ _ hG.step.2)
theorem reg_callGP (is : List Nat) {α β : Type} {R : β × Sp} {g : Pg α} {kk : α → Pg β} {s : Sp} {p : Nat} {enc : α → Value} {φ : α → Prop} (hG : At R (g >>= kk) s) (hφ : Pg.All φ g) (spec : FnG w0 shf f args p g enc)
    (hfo : ev ρ fo = .func (.func f) first cap) (hargs : first.toList ++ cargs.toList.map (ev ρ) ++ cap.toList = args)
    (hp : pick is Γ = some ([SpaceA p s], Γr)) (hsh : ∀ p ∈ shf, p ∈ sh) (h : ∀ x s', φ x → At R (kk x) s' → Reg PP w0 n sh Q ops l k (ρ.setO dst (enc x)) df (SpaceA p s' :: Γr)) :
    Reg PP w0 n sh Q ops ((Fl.loud, i, ⟨dst, .call ⟨.value fo, cargs, ats⟩, ty, pos, aft, none⟩) :: l) k ρ df Γ :=
  zah is (spec s hG.step.1) hfo hargs hp hsh rfl (h _ _ (Pg.all_run hφ) hG.step.2)
end
theorem getG (w0 : World) (p : Nat) (x : Int) : FnG w0 [] 36 [spP p, .int .i64 x] p (Pg.gt x) (.int .i64) := fun s h => get_spec w0 p s x h.1
theorem putG (w0 : World) (p : Nat) (x v : Int) : FnG w0 [] 109 [spP p, .int .i64 x, .int .i64 v] p (Pg.pt x v) (fun _ => .tuple #[]) := fun s h => put_spec w0 p s x v h.1
theorem markG (w0 : World) (p : Nat) : FnG w0 [] 19 [spP p] p Pg.mk (fun m => .int .i64 m) := fun s _ => mark_spec w0 p s
end Go.Proofs.YtgdhcgnmffgkiaaGreatDoor

namespace Sim
open Go Go.Vc

def Sm (s : Sp) (j : Nat) : Prop := s.puts.length + j ≤ 1099511627776
theorem Sm.mono {s : Sp} {j i : Nat} (h : Sm s j) (hi : i ≤ j) : Sm s i := by unfold Sm at *; omega
theorem reads_putsL (s : Sp) (x : Int) : (s.reads x).2.puts = s.puts := by unfold Sp.reads; split; rfl; split <;> rfl
theorem sm_get {s : Sp} {j : Nat} {a : Int} (h : Sm s j) : Sm (s.get a).2 j := by
  unfold Sm at *; simp only [Sp.get]; split <;> simpa [reads_putsL] using h
theorem sm_put {s : Sp} {j : Nat} {a v : Int} (h : Sm s (j + 1)) : Sm (s.put a v) j := by
  unfold Sm at *; simp only [Sp.put]; split
  · simp; omega
  · simp only [reads_putsL]; omega
def w64 (x : Int) : Int := IntKind.i64.wrap x

structure Pl where
  root : Int
  frm : Int
  nodes : Int
def Pl.chk (P : Pl) : Int :=
  if P.root < 0 ∨ P.frm < 1 ∨ P.nodes < 0 ∨ 128 < P.nodes then 1 else if 4093 < P.root ∨ 4096 - 8 * P.nodes < P.frm then 1 else if 0 < P.nodes ∧ P.frm < P.root + 3 ∧ P.root < P.frm + 8 * P.nodes then 1 else 0
def Pl.Ok (P : Pl) : Prop := P.chk = 0 ∧ 0 ≤ P.root ∧ P.root ≤ 4093 ∧ 1 ≤ P.frm ∧ P.frm ≤ 4096 ∧ 0 ≤ P.nodes ∧ P.nodes ≤ 128
def Pl.node (P : Pl) (a : Int) : Bool := decide (P.frm ≤ a) && decide ((w64 (a - P.frm)).tmod 8 = 0) && decide (w64 ((w64 (a - P.frm)).tdiv 8) < P.nodes)
def Pl.idx (P : Pl) (a : Int) : Int := if P.node a then w64 ((w64 (a - P.frm)).tdiv 8) else 0
def Pl.add (P : Pl) (s : Sp) (c n : Int) : Sp := (s.get (P.root + c)).2.put (P.root + c) (w64 ((s.get (P.root + c)).1 + n))
def Pl.take (P : Pl) (s : Sp) : Int × Int × Sp :=
  if (s.get P.root).1 ≠ 0 then
    if P.node (s.get P.root).1 then
      ((s.get P.root).1, 0, P.add (((s.get P.root).2.get (s.get P.root).1).2.put P.root ((s.get P.root).2.get (s.get P.root).1).1) 2 (-1))
    else (0, 24, (s.get P.root).2)
  else
    if ((s.get P.root).2.get (P.root + 1)).1 < 0 ∨ P.nodes ≤ ((s.get P.root).2.get (P.root + 1)).1 then (0, 9, ((s.get P.root).2.get (P.root + 1)).2)
    else (P.frm + 8 * ((s.get P.root).2.get (P.root + 1)).1, 0, ((s.get P.root).2.get (P.root + 1)).2.put (P.root + 1) (((s.get P.root).2.get (P.root + 1)).1 + 1))
def Pl.give (P : Pl) (s : Sp) (a : Int) : Int × Sp :=
  if P.node a then (0, P.add (((s.get P.root).2.put a (s.get P.root).1).put P.root a) 2 1) else (1, s)
def Pl.left (P : Pl) (s : Sp) : Int × Sp :=
  (max (w64 (w64 ((s.get (P.root + 2)).1 + P.nodes) - ((s.get (P.root + 2)).2.get (P.root + 1)).1)) 0, ((s.get (P.root + 2)).2.get (P.root + 1)).2)
end Sim

namespace Go.Proofs.YtgdhcgnmffgkiaaGreatDoor
open Go.Vc Sim
def poolV (P : Pl) : Value := .agg #[.int .i64 P.root, .int .i64 P.frm, .int .i64 P.nodes]
theorem getS (w0 : World) (p : Nat) (s : Sp) (x : Int) (h : Sm s 0) : FnE PP w0 [] 36 [spP p, .int .i64 x] [SpaceA p s] (.int .i64 (s.get x).1) [SpaceA p (s.get x).2] := get_spec w0 p s x h
theorem putS (w0 : World) (p : Nat) (s : Sp) (x v : Int) (h : Sm s 0) : FnE PP w0 [] 109 [spP p, .int .i64 x, .int .i64 v] [SpaceA p s] (.tuple #[]) [SpaceA p (s.put x v)] := put_spec w0 p s x v h

theorem check_spec (w0 : World) (P : Pl) (hP : P.Ok) : FnE PP w0 [] 268 [poolV P] [] (.int .i64 0) [] := by
  obtain ⟨h, _⟩ := hP
  refine fn_of_run en268 fn268 rfl rfl rfl ?_
  repeat (first | refine zck ?_ | refine zcl ?_ | refine zcm ?_ | refine zcn ?_)
  first | refine zcp (by kernel_rfl) ?_ | refine zcq PP_mixed (by kernel_rfl) (by kernel_rfl) ?_
  repeat' (refine zap rfl ?_; first | refine zan rfl ?_ | refine zaq (cs := [_, _, _]) rfl (fun nb => ?_))
  all_goals refine zch ?_
  all_goals repeat (first | refine zck ?_ | refine zcl ?_ | refine zcm ?_ | refine zcn ?_)
  refine run_share [0] rfl ?_
  repeat' (first | refine zck ?_ | refine zcp (by kernel_rfl) ?_ | refine zcm ?_ | refine zcn ?_ | (refine zap rfl ?_; first | refine zaj rfl ?_ | refine zak rfl ?_ | refine zam rfl rfl (fun _ => ?_) (fun _ => ?_) | refine zan rfl ?_ | refine zan rfl ?_ | refine zaa 0 rfl rfl rfl ?_ | refine zao rfl ?_ | refine zau rfl rfl (by omega) ?_ | refine zav rfl rfl (by omega) ?_ | refine zaw rfl rfl (by omega) ?_ | refine zbq rfl rfl ?_ | refine zbs rfl rfl ?_ | refine zbu rfl ?_ | refine zbv rfl ?_) | refine zch ?_ | refine zci rfl ?_ | refine zcj rfl ?_ | refine run_cond rfl (fun _ => ?_) (fun _ => ?_))
  all_goals (refine ret_tmp1 rfl ?_; refine ⟨int_eq ?_, rfl⟩)
  all_goals (unfold Pl.chk at h; split at h <;> try split at h <;> try split at h)
  all_goals omega

theorem node_spec (w0 : World) (P : Pl) (hP : P.Ok) (a : Int) : FnE PP w0 [] 113 [poolV P, .int .i64 a] [] (.tuple #[.int .i64 (P.idx a), .bool (P.node a)]) [] := by
  refine fn_of_run en113 fn113 rfl rfl rfl ?_
  repeat (first | refine zck ?_ | refine zcl ?_ | refine zcm ?_ | refine zcn ?_)
  first | refine zcp (by kernel_rfl) ?_ | refine zcq PP_mixed (by kernel_rfl) (by kernel_rfl) ?_
  repeat' (refine zap rfl ?_; first | refine zan rfl ?_ | refine zaq (cs := [_, _, _]) rfl (fun nb => ?_))
  all_goals refine zch ?_
  all_goals repeat (first | refine zck ?_ | refine zcl ?_ | refine zcm ?_ | refine zcn ?_)
  refine run_share [0] rfl ?_
  repeat' (first | refine zck ?_ | refine zcp (by kernel_rfl) ?_ | refine zcm ?_ | (refine zap rfl ?_; first | refine reg_sub rfl rfl ?_ | refine reg_rem rfl rfl (by decide) ?_ | refine reg_quo rfl rfl (by decide) ?_ | refine zaj rfl ?_ | refine zak rfl ?_ | refine zam rfl rfl (fun _ => ?_) (fun _ => ?_) | refine zan rfl ?_ | refine zan rfl ?_ | refine zaa 0 rfl rfl rfl ?_ | refine zah [] (check_spec w0 P hP) rfl rfl rfl sub_nil rfl ?_ | refine zao rfl ?_ | refine zbp rfl rfl ?_ | refine zbq rfl rfl ?_ | refine zbt rfl rfl ?_ | refine zbu rfl ?_ | refine zbv rfl ?_) | refine zch ?_ | refine zci rfl ?_ | refine run_cond rfl (fun _ => ?_) (fun _ => ?_))
  all_goals refine ret_tmp2 rfl ⟨?_, rfl⟩
  all_goals refine congrArg Value.tuple (?_ : #[Value.int .i64 _, .bool _] = #[Value.int .i64 _, .bool _])
  all_goals simp_all [Pl.idx, Pl.node, w64, ← Int.not_lt]

theorem add_spec (w0 : World) (p : Nat) (P : Pl) (hP : P.Ok) (s : Sp) (c m : Int) (hc : 0 ≤ c ∧ c ≤ 3) (hsm : Sm s 1) : FnE PP w0 [] 269 [poolV P, spP p, .int .i64 c, .int .i64 m] [SpaceA p s] (.tuple #[]) [SpaceA p (P.add s c m)] := by
  obtain ⟨_, h1, h2, h3, h4, h5, h6⟩ := id hP
  refine fn_of_run en269 fn269 rfl rfl rfl ?_
  repeat (first | refine zck ?_ | refine zcl ?_ | refine zcm ?_ | refine zcn ?_)
  first | refine zcp (by kernel_rfl) ?_ | refine zcq PP_mixed (by kernel_rfl) (by kernel_rfl) ?_
  repeat' (refine zap rfl ?_; first | refine zaq (cs := [_, _, _]) rfl (fun nb => ?_))
  all_goals refine zch ?_
  all_goals repeat (first | refine zck ?_ | refine zcl ?_ | refine zcm ?_ | refine zcn ?_)
  refine run_share [1] rfl ?_
  repeat' (first | refine zcq PP_mixed (by kernel_rfl) (by kernel_rfl) ?_ | (refine zap rfl ?_; first | refine reg_add (t := 2) rfl rfl ?_ | refine zan rfl ?_ | refine zaa 0 rfl rfl rfl ?_ | refine zah [0] (getS w0 p _ _ (by first | exact hsm.mono (by decide) | (repeat (first | refine sm_get ?_ | refine sm_put ?_)); exact hsm.mono (by decide))) rfl rfl rfl sub_nil rfl ?_ | refine zah [0] (putS w0 p _ _ _ (by first | exact hsm.mono (by decide) | (repeat (first | refine sm_get ?_ | refine sm_put ?_)); exact hsm.mono (by decide))) rfl rfl rfl sub_nil rfl ?_ | refine zao rfl ?_ | refine zau rfl rfl (by omega) ?_) | refine zch ?_)
  refine end_tmp0 rfl ⟨rfl, rfl⟩
end Go.Proofs.YtgdhcgnmffgkiaaGreatDoor

