import Derived.Test.YtgdhcgnmffgkiaaGreatDoorProg
import Derived.Test.YtgdhcgnmffgkiaaGreatDoorKit
/- Own work: lemmas of this claim. -/
namespace Go.Proofs.YtgdhcgnmffgkiaaGreatDoor
open Go.Vc
@[irreducible] noncomputable def PP : Program := Tryz.prog
theorem PP_def : PP = Tryz.prog := by unfold PP; rfl
theorem PP_mixed : PP.follows .mixedOrders = true := by kernel_rfl
theorem eN {f : FuncId} (h : Enters Tryz.prog f) : Enters PP f := by rw [PP_def]; exact h
theorem fN {f : Nat} {x : Func} (h : Tryz.prog.funcs[f]? = some x) : PP.funcs[f]? = some x := by rw [PP_def]; exact h
instance : TShape PP 2 false 1 := ⟨fun w => by kernel_rfl, fun w => by kernel_rfl⟩
instance : TInfo PP 2 8 := ⟨fun w => ⟨Tryz.t2, by rw [PP_def]; exact Tryz.typeInfo2 w, rfl⟩⟩
instance : TZero PP 2 [.int .i64 0] := ⟨fun w => ⟨.int .i64 0, by kernel_rfl, by kernel_rfl⟩⟩
instance : TZeroV PP 2 (.int .i64 0) := ⟨fun w => by kernel_rfl⟩
instance : TUnd PP 2 (.int (.i64)) := ⟨by kernel_rfl⟩
instance : TShape PP 3 false 1 := ⟨fun w => by kernel_rfl, fun w => by kernel_rfl⟩
instance : TZero PP 3 [.int .i64 0] := ⟨fun w => ⟨.int .i64 0, by kernel_rfl, by kernel_rfl⟩⟩
instance : TUnd PP 3 (.int (.i64)) := ⟨by kernel_rfl⟩
instance : TShape PP 4 false 1 := ⟨fun w => by kernel_rfl, fun w => by kernel_rfl⟩
instance : TZero PP 4 [.bool false] := ⟨fun w => ⟨.bool false, by kernel_rfl, by kernel_rfl⟩⟩
instance : TUnd PP 5 (.int (.u8)) := ⟨by kernel_rfl⟩
instance : TShape PP 9 false 1 := ⟨fun w => by kernel_rfl, fun w => by kernel_rfl⟩
instance : TZeroV PP 9 (.string ByteArray.empty) := ⟨fun w => by kernel_rfl⟩
instance : TUnd PP 9 (.string) := ⟨by kernel_rfl⟩
instance : TShape PP 24 false 1 := ⟨fun w => by kernel_rfl, fun w => by kernel_rfl⟩
instance : TUnd PP 24 (.pointer 88) := ⟨by kernel_rfl⟩
instance : TShape PP 26 false 1 := ⟨fun w => by kernel_rfl, fun w => by kernel_rfl⟩
instance : TZero PP 26 [.slice none 0 0] := ⟨fun w => ⟨.slice none 0 0, by kernel_rfl, by kernel_rfl⟩⟩
instance : TUnd PP 26 (.slice 2) := ⟨by kernel_rfl⟩
instance : TUnd PP 30 (.slice 33) := ⟨by kernel_rfl⟩
instance : TShape PP 33 true 3 := ⟨fun w => by kernel_rfl, fun w => by kernel_rfl⟩
instance : TInfo PP 33 32 := ⟨fun w => ⟨Tryz.t33, by rw [PP_def]; exact Tryz.typeInfo33 w, rfl⟩⟩
instance : TZero PP 33 [.string ByteArray.empty, .int .i64 0, .bool false] := ⟨fun w => ⟨.agg #[.string ByteArray.empty, .int .i64 0, .bool false], by kernel_rfl, by kernel_rfl⟩⟩
instance : TZeroV PP 33 (.agg #[.string ByteArray.empty, .int .i64 0, .bool false]) := ⟨fun w => by kernel_rfl⟩
instance : TStruct PP 33 [.string ByteArray.empty, .int .i64 0, .bool false] [(0, 1), (1, 1), (2, 1)] := ⟨⟨_, by rw [PP_def]; exact Tryz.underlying33, fun w => by kernel_rfl⟩, fun w => ⟨.agg #[.string ByteArray.empty, .int .i64 0, .bool false], by kernel_rfl, by kernel_rfl⟩⟩
instance : TField PP 33 0 0 := ⟨fun b o w => by kernel_rfl⟩
instance : TField PP 33 1 1 := ⟨fun b o w => by kernel_rfl⟩
instance : TField PP 33 2 2 := ⟨fun b o w => by kernel_rfl⟩
instance : TShape PP 34 false 1 := ⟨fun w => by kernel_rfl, fun w => by kernel_rfl⟩
instance : TInfo PP 34 8 := ⟨fun w => ⟨Tryz.t34, by rw [PP_def]; exact Tryz.typeInfo34 w, rfl⟩⟩
instance : TZeroV PP 34 (.int .i64 0) := ⟨fun w => by kernel_rfl⟩
instance : TUnd PP 34 (.int (.i64)) := ⟨by kernel_rfl⟩
instance : TShape PP 36 true 2 := ⟨fun w => by kernel_rfl, fun w => by kernel_rfl⟩
instance : TZero PP 36 [.int .i64 0, .int .i64 0] := ⟨fun w => ⟨.agg #[.int .i64 0, .int .i64 0], by kernel_rfl, by kernel_rfl⟩⟩
instance : TStruct PP 36 [.int .i64 0, .int .i64 0] [(0, 1), (1, 1)] := ⟨⟨_, by rw [PP_def]; exact Tryz.underlying36, fun w => by kernel_rfl⟩, fun w => ⟨.agg #[.int .i64 0, .int .i64 0], by kernel_rfl, by kernel_rfl⟩⟩
instance : TField PP 36 0 0 := ⟨fun b o w => by kernel_rfl⟩
instance : TField PP 36 1 1 := ⟨fun b o w => by kernel_rfl⟩
instance : TShape PP 39 false 1 := ⟨fun w => by kernel_rfl, fun w => by kernel_rfl⟩
instance : TZero PP 39 [.int .i64 0] := ⟨fun w => ⟨.int .i64 0, by kernel_rfl, by kernel_rfl⟩⟩
instance : TShape PP 43 true 3 := ⟨fun w => by kernel_rfl, fun w => by kernel_rfl⟩
instance : TZero PP 43 [.int .i64 0, .int .i64 0, .int .i64 0] := ⟨fun w => ⟨.agg #[.int .i64 0, .int .i64 0, .int .i64 0], by kernel_rfl, by kernel_rfl⟩⟩
instance : TStruct PP 43 [.int .i64 0, .int .i64 0, .int .i64 0] [(0, 1), (1, 1), (2, 1)] := ⟨⟨_, by rw [PP_def]; exact Tryz.underlying43, fun w => by kernel_rfl⟩, fun w => ⟨.agg #[.int .i64 0, .int .i64 0, .int .i64 0], by kernel_rfl, by kernel_rfl⟩⟩
instance : TField PP 43 0 0 := ⟨fun b o w => by kernel_rfl⟩
instance : TField PP 43 1 1 := ⟨fun b o w => by kernel_rfl⟩
instance : TField PP 43 2 2 := ⟨fun b o w => by kernel_rfl⟩
instance : TZero PP 46 [.int .i64 0, .int .i64 0, .int .i64 0] := ⟨fun w => ⟨.agg #[.int .i64 0, .int .i64 0, .int .i64 0], by kernel_rfl, by kernel_rfl⟩⟩
instance : TUnd PP 46 (.array 3 2) := ⟨by kernel_rfl⟩
instance : TUnd PP 65 (.slice 9) := ⟨by kernel_rfl⟩
instance : TShape PP 70 false 1 := ⟨fun w => by kernel_rfl, fun w => by kernel_rfl⟩
instance : TUnd PP 70 (.map 34 73) := ⟨by kernel_rfl⟩
instance : TShape PP 71 false 1 := ⟨fun w => by kernel_rfl, fun w => by kernel_rfl⟩
instance : TShape PP 73 true 3 := ⟨fun w => by kernel_rfl, fun w => by kernel_rfl⟩
instance : TZero PP 73 [.int .i64 0, .int .u32 0, .int .u32 0] := ⟨fun w => ⟨.agg #[.int .i64 0, .int .u32 0, .int .u32 0], by kernel_rfl, by kernel_rfl⟩⟩
instance : TZeroV PP 73 (.agg #[.int .i64 0, .int .u32 0, .int .u32 0]) := ⟨fun w => by kernel_rfl⟩
instance : TStruct PP 73 [.int .i64 0, .int .u32 0, .int .u32 0] [(0, 1), (1, 1), (2, 1)] := ⟨⟨_, by rw [PP_def]; exact Tryz.underlying73, fun w => by kernel_rfl⟩, fun w => ⟨.agg #[.int .i64 0, .int .u32 0, .int .u32 0], by kernel_rfl, by kernel_rfl⟩⟩
instance : TPart PP 73 0 false 0 1 := part_lemma (ft := 2) (by rw [PP_def]; exact Tryz.underlying73) rfl rfl rfl
instance : TField PP 73 2 2 := ⟨fun b o w => by kernel_rfl⟩
instance : TShape PP 75 false 1 := ⟨fun w => by kernel_rfl, fun w => by kernel_rfl⟩
instance : TShape PP 77 true 4 := ⟨fun w => by kernel_rfl, fun w => by kernel_rfl⟩
instance : TZero PP 77 [.string ByteArray.empty, .int .i64 0, .bool false, .nilFunc] := ⟨fun w => ⟨.agg #[.string ByteArray.empty, .int .i64 0, .bool false, .nilFunc], by kernel_rfl, by kernel_rfl⟩⟩
instance : TZeroV PP 77 (.agg #[.string ByteArray.empty, .int .i64 0, .bool false, .nilFunc]) := ⟨fun w => by kernel_rfl⟩
instance : TStruct PP 77 [.string ByteArray.empty, .int .i64 0, .bool false, .nilFunc] [(0, 1), (1, 1), (2, 1), (3, 1)] := ⟨⟨_, by rw [PP_def]; exact Tryz.underlying77, fun w => by kernel_rfl⟩, fun w => ⟨.agg #[.string ByteArray.empty, .int .i64 0, .bool false, .nilFunc], by kernel_rfl, by kernel_rfl⟩⟩
instance : TField PP 77 0 0 := ⟨fun b o w => by kernel_rfl⟩
instance : TField PP 77 1 1 := ⟨fun b o w => by kernel_rfl⟩
instance : TField PP 77 3 3 := ⟨fun b o w => by kernel_rfl⟩
instance : TShape PP 81 true 5 := ⟨fun w => by kernel_rfl, fun w => by kernel_rfl⟩
instance : TStruct PP 81 [.pointer none, .int .i64 0, .int .i64 0, .int .i64 0, .int .i64 0] [(0, 1), (1, 3), (4, 1)] := ⟨⟨_, by rw [PP_def]; exact Tryz.underlying81, fun w => by kernel_rfl⟩, fun w => ⟨.agg #[.pointer none, .int .i64 0, .int .i64 0, .int .i64 0, .int .i64 0], by kernel_rfl, by kernel_rfl⟩⟩
instance : TField PP 81 0 0 := ⟨fun b o w => by kernel_rfl⟩
instance : TField PP 81 1 1 := ⟨fun b o w => by kernel_rfl⟩
instance : TField PP 81 2 4 := ⟨fun b o w => by kernel_rfl⟩
instance : TShape PP 85 false 1 := ⟨fun w => by kernel_rfl, fun w => by kernel_rfl⟩
instance : TUnd PP 85 (.map 34 4) := ⟨by kernel_rfl⟩
instance : TShape PP 86 false 1 := ⟨fun w => by kernel_rfl, fun w => by kernel_rfl⟩
instance : TUnd PP 86 (.slice 247) := ⟨by kernel_rfl⟩
instance : TStruct PP 88 [.map none, .map none, .slice none 0 0, .int .i64 0, .bool false] [(0, 1), (1, 1), (2, 1), (3, 1), (4, 1)] := ⟨⟨_, by rw [PP_def]; exact Tryz.underlying88, fun w => by kernel_rfl⟩, fun w => ⟨.agg #[.map none, .map none, .slice none 0 0, .int .i64 0, .bool false], by kernel_rfl, by kernel_rfl⟩⟩
instance : TField PP 88 0 0 := ⟨fun b o w => by kernel_rfl⟩
instance : TField PP 88 1 1 := ⟨fun b o w => by kernel_rfl⟩
instance : TField PP 88 2 2 := ⟨fun b o w => by kernel_rfl⟩
instance : TField PP 88 3 3 := ⟨fun b o w => by kernel_rfl⟩
instance : TField PP 88 4 4 := ⟨fun b o w => by kernel_rfl⟩
instance : TZeroV PP 89 (.slice none 0 0) := ⟨fun w => by kernel_rfl⟩
instance : TUnd PP 89 (.slice 77) := ⟨by kernel_rfl⟩
instance : TStruct PP 105 [] [] := ⟨⟨_, by rw [PP_def]; exact Tryz.underlying105, fun w => by kernel_rfl⟩, fun w => ⟨.agg #[], by kernel_rfl, by kernel_rfl⟩⟩
instance : TShape PP 107 false 1 := ⟨fun w => by kernel_rfl, fun w => by kernel_rfl⟩
instance : TShape PP 109 true 5 := ⟨fun w => by kernel_rfl, fun w => by kernel_rfl⟩
instance : TZero PP 109 [.nilIface, .int .i64 0, .int .i64 0, .int .i64 0, .int .i64 0] := ⟨fun w => ⟨.agg #[.nilIface, .int .i64 0, .int .i64 0, .int .i64 0, .int .i64 0], by kernel_rfl, by kernel_rfl⟩⟩
instance : TStruct PP 109 [.nilIface, .int .i64 0, .int .i64 0, .int .i64 0, .int .i64 0] [(0, 1), (1, 3), (4, 1)] := ⟨⟨_, by rw [PP_def]; exact Tryz.underlying109, fun w => by kernel_rfl⟩, fun w => ⟨.agg #[.nilIface, .int .i64 0, .int .i64 0, .int .i64 0, .int .i64 0], by kernel_rfl, by kernel_rfl⟩⟩
instance : TField PP 109 0 0 := ⟨fun b o w => by kernel_rfl⟩
instance : TField PP 109 1 1 := ⟨fun b o w => by kernel_rfl⟩
instance : TField PP 109 2 4 := ⟨fun b o w => by kernel_rfl⟩
instance : TShape PP 120 true 4 := ⟨fun w => by kernel_rfl, fun w => by kernel_rfl⟩
instance : TZero PP 120 [.int .i64 0, .int .i64 0, .int .i64 0, .int .i64 0] := ⟨fun w => ⟨.agg #[.int .i64 0, .int .i64 0, .int .i64 0, .int .i64 0], by kernel_rfl, by kernel_rfl⟩⟩
instance : TStruct PP 120 [.int .i64 0, .int .i64 0, .int .i64 0, .int .i64 0] [(0, 3), (3, 1)] := ⟨⟨_, by rw [PP_def]; exact Tryz.underlying120, fun w => by kernel_rfl⟩, fun w => ⟨.agg #[.int .i64 0, .int .i64 0, .int .i64 0, .int .i64 0], by kernel_rfl, by kernel_rfl⟩⟩
instance : TField PP 120 0 0 := ⟨fun b o w => by kernel_rfl⟩
instance : TField PP 120 1 3 := ⟨fun b o w => by kernel_rfl⟩
instance : TShape PP 122 true 4 := ⟨fun w => by kernel_rfl, fun w => by kernel_rfl⟩
instance : TZero PP 122 [.int .i64 0, .int .i64 0, .int .i64 0, .int .i64 0] := ⟨fun w => ⟨.agg #[.int .i64 0, .int .i64 0, .int .i64 0, .int .i64 0], by kernel_rfl, by kernel_rfl⟩⟩
instance : TStruct PP 122 [.int .i64 0, .int .i64 0, .int .i64 0, .int .i64 0] [(0, 3), (3, 1)] := ⟨⟨_, by rw [PP_def]; exact Tryz.underlying122, fun w => by kernel_rfl⟩, fun w => ⟨.agg #[.int .i64 0, .int .i64 0, .int .i64 0, .int .i64 0], by kernel_rfl, by kernel_rfl⟩⟩
instance : TField PP 122 0 0 := ⟨fun b o w => by kernel_rfl⟩
instance : TField PP 122 1 3 := ⟨fun b o w => by kernel_rfl⟩
instance : TShape PP 128 true 4 := ⟨fun w => by kernel_rfl, fun w => by kernel_rfl⟩
instance : TZero PP 128 [.int .i64 0, .int .i64 0, .int .i64 0, .int .i64 0] := ⟨fun w => ⟨.agg #[.int .i64 0, .int .i64 0, .int .i64 0, .int .i64 0], by kernel_rfl, by kernel_rfl⟩⟩
instance : TStruct PP 128 [.int .i64 0, .int .i64 0, .int .i64 0, .int .i64 0] [(0, 3), (3, 1)] := ⟨⟨_, by rw [PP_def]; exact Tryz.underlying128, fun w => by kernel_rfl⟩, fun w => ⟨.agg #[.int .i64 0, .int .i64 0, .int .i64 0, .int .i64 0], by kernel_rfl, by kernel_rfl⟩⟩
instance : TField PP 128 0 0 := ⟨fun b o w => by kernel_rfl⟩
instance : TField PP 128 1 3 := ⟨fun b o w => by kernel_rfl⟩
instance : TShape PP 130 true 4 := ⟨fun w => by kernel_rfl, fun w => by kernel_rfl⟩
instance : TZero PP 130 [.int .i64 0, .int .i64 0, .int .i64 0, .int .i64 0] := ⟨fun w => ⟨.agg #[.int .i64 0, .int .i64 0, .int .i64 0, .int .i64 0], by kernel_rfl, by kernel_rfl⟩⟩
instance : TStruct PP 130 [.int .i64 0, .int .i64 0, .int .i64 0, .int .i64 0] [(0, 3), (3, 1)] := ⟨⟨_, by rw [PP_def]; exact Tryz.underlying130, fun w => by kernel_rfl⟩, fun w => ⟨.agg #[.int .i64 0, .int .i64 0, .int .i64 0, .int .i64 0], by kernel_rfl, by kernel_rfl⟩⟩
instance : TField PP 130 0 0 := ⟨fun b o w => by kernel_rfl⟩
instance : TField PP 130 1 3 := ⟨fun b o w => by kernel_rfl⟩
instance : TShape PP 134 false 1 := ⟨fun w => by kernel_rfl, fun w => by kernel_rfl⟩
instance : TZero PP 134 [.slice none 0 0] := ⟨fun w => ⟨.slice none 0 0, by kernel_rfl, by kernel_rfl⟩⟩
instance : TUnd PP 134 (.slice 240) := ⟨by kernel_rfl⟩
instance : TShape PP 140 true 4 := ⟨fun w => by kernel_rfl, fun w => by kernel_rfl⟩
instance : TZero PP 140 [.int .i64 0, .int .i64 0, .int .i64 0, .int .i64 0] := ⟨fun w => ⟨.agg #[.int .i64 0, .int .i64 0, .int .i64 0, .int .i64 0], by kernel_rfl, by kernel_rfl⟩⟩
instance : TStruct PP 140 [.int .i64 0, .int .i64 0, .int .i64 0, .int .i64 0] [(0, 3), (3, 1)] := ⟨⟨_, by rw [PP_def]; exact Tryz.underlying140, fun w => by kernel_rfl⟩, fun w => ⟨.agg #[.int .i64 0, .int .i64 0, .int .i64 0, .int .i64 0], by kernel_rfl, by kernel_rfl⟩⟩
instance : TField PP 140 0 0 := ⟨fun b o w => by kernel_rfl⟩
instance : TField PP 140 1 3 := ⟨fun b o w => by kernel_rfl⟩
instance : TShape PP 146 false 1 := ⟨fun w => by kernel_rfl, fun w => by kernel_rfl⟩
instance : TZeroV PP 146 (.map none) := ⟨fun w => by kernel_rfl⟩
instance : TUnd PP 146 (.map 3 89) := ⟨by kernel_rfl⟩
instance : TUnd PP 148 (.slice 146) := ⟨by kernel_rfl⟩
instance : TShape PP 153 false 1 := ⟨fun w => by kernel_rfl, fun w => by kernel_rfl⟩
instance : TUnd PP 163 (.int (.u64)) := ⟨by kernel_rfl⟩
instance : TShape PP 165 false 1 := ⟨fun w => by kernel_rfl, fun w => by kernel_rfl⟩
instance : TUnd PP 165 (.slice 34) := ⟨by kernel_rfl⟩
instance : TShape PP 167 true 4 := ⟨fun w => by kernel_rfl, fun w => by kernel_rfl⟩
instance : TZero PP 167 [.slice none 0 0, .slice none 0 0, .int .i64 0, .int .i64 0] := ⟨fun w => ⟨.agg #[.slice none 0 0, .slice none 0 0, .int .i64 0, .int .i64 0], by kernel_rfl, by kernel_rfl⟩⟩
instance : TStruct PP 167 [.slice none 0 0, .slice none 0 0, .int .i64 0, .int .i64 0] [(0, 1), (1, 1), (2, 1), (3, 1)] := ⟨⟨_, by rw [PP_def]; exact Tryz.underlying167, fun w => by kernel_rfl⟩, fun w => ⟨.agg #[.slice none 0 0, .slice none 0 0, .int .i64 0, .int .i64 0], by kernel_rfl, by kernel_rfl⟩⟩
instance : TField PP 167 0 0 := ⟨fun b o w => by kernel_rfl⟩
instance : TField PP 167 1 1 := ⟨fun b o w => by kernel_rfl⟩
instance : TField PP 167 2 2 := ⟨fun b o w => by kernel_rfl⟩
instance : TField PP 167 3 3 := ⟨fun b o w => by kernel_rfl⟩
instance : TShape PP 176 false 1 := ⟨fun w => by kernel_rfl, fun w => by kernel_rfl⟩
instance : TZero PP 176 [.pointer none] := ⟨fun w => ⟨.pointer none, by kernel_rfl, by kernel_rfl⟩⟩
instance : TShape PP 178 false 1 := ⟨fun w => by kernel_rfl, fun w => by kernel_rfl⟩
instance : TZero PP 178 [.slice none 0 0] := ⟨fun w => ⟨.slice none 0 0, by kernel_rfl, by kernel_rfl⟩⟩
instance : TUnd PP 178 (.slice 184) := ⟨by kernel_rfl⟩
instance : TStruct PP 182 [.int .i64 0, .int .i64 0, .int .i64 0, .int .i64 0, .pointer none, .bool false, .int .i64 0] [(0, 4), (4, 1), (5, 1), (6, 1)] := ⟨⟨_, by rw [PP_def]; exact Tryz.underlying182, fun w => by kernel_rfl⟩, fun w => ⟨.agg #[.int .i64 0, .int .i64 0, .int .i64 0, .int .i64 0, .pointer none, .bool false, .int .i64 0], by kernel_rfl, by kernel_rfl⟩⟩
instance : TField PP 182 0 0 := ⟨fun b o w => by kernel_rfl⟩
instance : TField PP 182 1 4 := ⟨fun b o w => by kernel_rfl⟩
instance : TField PP 182 2 5 := ⟨fun b o w => by kernel_rfl⟩
instance : TField PP 182 3 6 := ⟨fun b o w => by kernel_rfl⟩
instance : TShape PP 184 true 2 := ⟨fun w => by kernel_rfl, fun w => by kernel_rfl⟩
instance : TInfo PP 184 16 := ⟨fun w => ⟨Tryz.t184, by rw [PP_def]; exact Tryz.typeInfo184 w, rfl⟩⟩
instance : TZero PP 184 [.int .i64 0, .int .i64 0] := ⟨fun w => ⟨.agg #[.int .i64 0, .int .i64 0], by kernel_rfl, by kernel_rfl⟩⟩
instance : TZeroV PP 184 (.agg #[.int .i64 0, .int .i64 0]) := ⟨fun w => by kernel_rfl⟩
instance : TStruct PP 184 [.int .i64 0, .int .i64 0] [(0, 1), (1, 1)] := ⟨⟨_, by rw [PP_def]; exact Tryz.underlying184, fun w => by kernel_rfl⟩, fun w => ⟨.agg #[.int .i64 0, .int .i64 0], by kernel_rfl, by kernel_rfl⟩⟩
instance : TField PP 184 0 0 := ⟨fun b o w => by kernel_rfl⟩
instance : TField PP 184 1 1 := ⟨fun b o w => by kernel_rfl⟩
instance : TStruct PP 200 [.int .i64 0, .int .i64 0, .int .i64 0, .int .i64 0, .pointer none, .bool false] [(0, 4), (4, 1), (5, 1)] := ⟨⟨_, by rw [PP_def]; exact Tryz.underlying200, fun w => by kernel_rfl⟩, fun w => ⟨.agg #[.int .i64 0, .int .i64 0, .int .i64 0, .int .i64 0, .pointer none, .bool false], by kernel_rfl, by kernel_rfl⟩⟩
instance : TField PP 200 0 0 := ⟨fun b o w => by kernel_rfl⟩
instance : TField PP 200 1 4 := ⟨fun b o w => by kernel_rfl⟩
instance : TField PP 200 2 5 := ⟨fun b o w => by kernel_rfl⟩
instance : TUnd PP 216 (.array 5 2) := ⟨by kernel_rfl⟩
instance : TShape PP 228 true 3 := ⟨fun w => by kernel_rfl, fun w => by kernel_rfl⟩
instance : TZero PP 228 [.int .i64 0, .int .i64 0, .int .i64 0] := ⟨fun w => ⟨.agg #[.int .i64 0, .int .i64 0, .int .i64 0], by kernel_rfl, by kernel_rfl⟩⟩
instance : TZeroV PP 228 (.agg #[.int .i64 0, .int .i64 0, .int .i64 0]) := ⟨fun w => by kernel_rfl⟩
instance : TStruct PP 228 [.int .i64 0, .int .i64 0, .int .i64 0] [(0, 1), (1, 1), (2, 1)] := ⟨⟨_, by rw [PP_def]; exact Tryz.underlying228, fun w => by kernel_rfl⟩, fun w => ⟨.agg #[.int .i64 0, .int .i64 0, .int .i64 0], by kernel_rfl, by kernel_rfl⟩⟩
instance : TField PP 228 0 0 := ⟨fun b o w => by kernel_rfl⟩
instance : TField PP 228 1 1 := ⟨fun b o w => by kernel_rfl⟩
instance : TField PP 228 2 2 := ⟨fun b o w => by kernel_rfl⟩
instance : TUnd PP 232 (.slice 228) := ⟨by kernel_rfl⟩
instance : TShape PP 240 true 2 := ⟨fun w => by kernel_rfl, fun w => by kernel_rfl⟩
instance : TInfo PP 240 16 := ⟨fun w => ⟨Tryz.t240, by rw [PP_def]; exact Tryz.typeInfo240 w, rfl⟩⟩
instance : TZero PP 240 [.int .i64 0, .int .i64 0] := ⟨fun w => ⟨.agg #[.int .i64 0, .int .i64 0], by kernel_rfl, by kernel_rfl⟩⟩
instance : TZeroV PP 240 (.agg #[.int .i64 0, .int .i64 0]) := ⟨fun w => by kernel_rfl⟩
instance : TUnd PP 240 (.array 2 2) := ⟨by kernel_rfl⟩
instance : TZero PP 243 [.int .i64 0, .int .i64 0] := ⟨fun w => ⟨.agg #[.int .i64 0, .int .i64 0], by kernel_rfl, by kernel_rfl⟩⟩
instance : TUnd PP 243 (.array 2 34) := ⟨by kernel_rfl⟩
instance : TShape PP 247 true 2 := ⟨fun w => by kernel_rfl, fun w => by kernel_rfl⟩
instance : TInfo PP 247 16 := ⟨fun w => ⟨Tryz.t247, by rw [PP_def]; exact Tryz.typeInfo247 w, rfl⟩⟩
instance : TZeroV PP 247 (.agg #[.int .i64 0, .int .i64 0]) := ⟨fun w => by kernel_rfl⟩
instance : TStruct PP 247 [.int .i64 0, .int .i64 0] [(0, 1), (1, 1)] := ⟨⟨_, by rw [PP_def]; exact Tryz.underlying247, fun w => by kernel_rfl⟩, fun w => ⟨.agg #[.int .i64 0, .int .i64 0], by kernel_rfl, by kernel_rfl⟩⟩
instance : TField PP 247 0 0 := ⟨fun b o w => by kernel_rfl⟩
instance : TField PP 247 1 1 := ⟨fun b o w => by kernel_rfl⟩
instance : TShape PP 264 true 2 := ⟨fun w => by kernel_rfl, fun w => by kernel_rfl⟩
instance : TZero PP 264 [.int .i64 0, .int .i64 0] := ⟨fun w => ⟨.agg #[.int .i64 0, .int .i64 0], by kernel_rfl, by kernel_rfl⟩⟩
instance : TUnd PP 264 (.array 2 2) := ⟨by kernel_rfl⟩
theorem en4 : Enters PP 4 := eN Tryz.call4
theorem fn4 : PP.funcs[4]? = some Tryz.f4 := fN Tryz.func4
theorem en8 : Enters PP 8 := eN Tryz.call8
theorem fn8 : PP.funcs[8]? = some Tryz.f8 := fN Tryz.func8
theorem en9 : Enters PP 9 := eN Tryz.call9
theorem fn9 : PP.funcs[9]? = some Tryz.f9 := fN Tryz.func9
theorem en10 : Enters PP 10 := eN Tryz.call10
theorem fn10 : PP.funcs[10]? = some Tryz.f10 := fN Tryz.func10
theorem en11 : Enters PP 11 := eN Tryz.call11
theorem fn11 : PP.funcs[11]? = some Tryz.f11 := fN Tryz.func11
theorem en13 : Enters PP 13 := eN Tryz.call13
theorem fn13 : PP.funcs[13]? = some Tryz.f13 := fN Tryz.func13
theorem en14 : Enters PP 14 := eN Tryz.call14
theorem fn14 : PP.funcs[14]? = some Tryz.f14 := fN Tryz.func14
theorem en18 : Enters PP 18 := eN Tryz.call18
theorem fn18 : PP.funcs[18]? = some Tryz.f18 := fN Tryz.func18
theorem en19 : Enters PP 19 := eN Tryz.call19
theorem fn19 : PP.funcs[19]? = some Tryz.f19 := fN Tryz.func19
theorem en23 : Enters PP 23 := eN Tryz.call23
theorem fn23 : PP.funcs[23]? = some Tryz.f23 := fN Tryz.func23
theorem en26 : Enters PP 26 := eN Tryz.call26
theorem fn26 : PP.funcs[26]? = some Tryz.f26 := fN Tryz.func26
theorem en29 : Enters PP 29 := eN Tryz.call29
theorem fn29 : PP.funcs[29]? = some Tryz.f29 := fN Tryz.func29
theorem en30 : Enters PP 30 := eN Tryz.call30
theorem fn30 : PP.funcs[30]? = some Tryz.f30 := fN Tryz.func30
theorem en31 : Enters PP 31 := eN Tryz.call31
theorem fn31 : PP.funcs[31]? = some Tryz.f31 := fN Tryz.func31
theorem en36 : Enters PP 36 := eN Tryz.call36
theorem fn36 : PP.funcs[36]? = some Tryz.f36 := fN Tryz.func36
theorem en37 : Enters PP 37 := eN Tryz.call37
theorem fn37 : PP.funcs[37]? = some Tryz.f37 := fN Tryz.func37
theorem en40 : Enters PP 40 := eN Tryz.call40
theorem fn40 : PP.funcs[40]? = some Tryz.f40 := fN Tryz.func40
theorem en41 : Enters PP 41 := eN Tryz.call41
theorem fn41 : PP.funcs[41]? = some Tryz.f41 := fN Tryz.func41
theorem en42 : Enters PP 42 := eN Tryz.call42
theorem fn42 : PP.funcs[42]? = some Tryz.f42 := fN Tryz.func42
theorem en43 : Enters PP 43 := eN Tryz.call43
theorem fn43 : PP.funcs[43]? = some Tryz.f43 := fN Tryz.func43
theorem en44 : Enters PP 44 := eN Tryz.call44
theorem fn44 : PP.funcs[44]? = some Tryz.f44 := fN Tryz.func44
theorem en45 : Enters PP 45 := eN Tryz.call45
theorem fn45 : PP.funcs[45]? = some Tryz.f45 := fN Tryz.func45
theorem en46 : Enters PP 46 := eN Tryz.call46
theorem fn46 : PP.funcs[46]? = some Tryz.f46 := fN Tryz.func46
theorem en47 : Enters PP 47 := eN Tryz.call47
theorem fn47 : PP.funcs[47]? = some Tryz.f47 := fN Tryz.func47
theorem en48 : Enters PP 48 := eN Tryz.call48
theorem fn48 : PP.funcs[48]? = some Tryz.f48 := fN Tryz.func48
theorem en49 : Enters PP 49 := eN Tryz.call49
theorem fn49 : PP.funcs[49]? = some Tryz.f49 := fN Tryz.func49
theorem en50 : Enters PP 50 := eN Tryz.call50
theorem fn50 : PP.funcs[50]? = some Tryz.f50 := fN Tryz.func50
theorem en51 : Enters PP 51 := eN Tryz.call51
theorem fn51 : PP.funcs[51]? = some Tryz.f51 := fN Tryz.func51
theorem en52 : Enters PP 52 := eN Tryz.call52
theorem fn52 : PP.funcs[52]? = some Tryz.f52 := fN Tryz.func52
theorem en53 : Enters PP 53 := eN Tryz.call53
theorem fn53 : PP.funcs[53]? = some Tryz.f53 := fN Tryz.func53
theorem en54 : Enters PP 54 := eN Tryz.call54
theorem fn54 : PP.funcs[54]? = some Tryz.f54 := fN Tryz.func54
theorem en55 : Enters PP 55 := eN Tryz.call55
theorem fn55 : PP.funcs[55]? = some Tryz.f55 := fN Tryz.func55
theorem en56 : Enters PP 56 := eN Tryz.call56
theorem fn56 : PP.funcs[56]? = some Tryz.f56 := fN Tryz.func56
theorem en57 : Enters PP 57 := eN Tryz.call57
theorem fn57 : PP.funcs[57]? = some Tryz.f57 := fN Tryz.func57
theorem en58 : Enters PP 58 := eN Tryz.call58
theorem fn58 : PP.funcs[58]? = some Tryz.f58 := fN Tryz.func58
theorem en60 : Enters PP 60 := eN Tryz.call60
theorem fn60 : PP.funcs[60]? = some Tryz.f60 := fN Tryz.func60
theorem en63 : Enters PP 63 := eN Tryz.call63
theorem fn63 : PP.funcs[63]? = some Tryz.f63 := fN Tryz.func63
theorem en64 : Enters PP 64 := eN Tryz.call64
theorem fn64 : PP.funcs[64]? = some Tryz.f64 := fN Tryz.func64
theorem en65 : Enters PP 65 := eN Tryz.call65
theorem fn65 : PP.funcs[65]? = some Tryz.f65 := fN Tryz.func65
theorem en66 : Enters PP 66 := eN Tryz.call66
theorem fn66 : PP.funcs[66]? = some Tryz.f66 := fN Tryz.func66
theorem en67 : Enters PP 67 := eN Tryz.call67
theorem fn67 : PP.funcs[67]? = some Tryz.f67 := fN Tryz.func67
theorem en68 : Enters PP 68 := eN Tryz.call68
theorem fn68 : PP.funcs[68]? = some Tryz.f68 := fN Tryz.func68
theorem en69 : Enters PP 69 := eN Tryz.call69
theorem fn69 : PP.funcs[69]? = some Tryz.f69 := fN Tryz.func69
theorem en70 : Enters PP 70 := eN Tryz.call70
theorem fn70 : PP.funcs[70]? = some Tryz.f70 := fN Tryz.func70
theorem en71 : Enters PP 71 := eN Tryz.call71
theorem fn71 : PP.funcs[71]? = some Tryz.f71 := fN Tryz.func71
theorem en72 : Enters PP 72 := eN Tryz.call72
theorem fn72 : PP.funcs[72]? = some Tryz.f72 := fN Tryz.func72
theorem en73 : Enters PP 73 := eN Tryz.call73
theorem fn73 : PP.funcs[73]? = some Tryz.f73 := fN Tryz.func73
theorem en74 : Enters PP 74 := eN Tryz.call74
theorem fn74 : PP.funcs[74]? = some Tryz.f74 := fN Tryz.func74
theorem en75 : Enters PP 75 := eN Tryz.call75
theorem fn75 : PP.funcs[75]? = some Tryz.f75 := fN Tryz.func75
theorem en76 : Enters PP 76 := eN Tryz.call76
theorem fn76 : PP.funcs[76]? = some Tryz.f76 := fN Tryz.func76
theorem en77 : Enters PP 77 := eN Tryz.call77
theorem fn77 : PP.funcs[77]? = some Tryz.f77 := fN Tryz.func77
theorem en78 : Enters PP 78 := eN Tryz.call78
theorem fn78 : PP.funcs[78]? = some Tryz.f78 := fN Tryz.func78
theorem en79 : Enters PP 79 := eN Tryz.call79
theorem fn79 : PP.funcs[79]? = some Tryz.f79 := fN Tryz.func79
theorem en80 : Enters PP 80 := eN Tryz.call80
theorem fn80 : PP.funcs[80]? = some Tryz.f80 := fN Tryz.func80
theorem en81 : Enters PP 81 := eN Tryz.call81
theorem fn81 : PP.funcs[81]? = some Tryz.f81 := fN Tryz.func81
theorem en82 : Enters PP 82 := eN Tryz.call82
theorem fn82 : PP.funcs[82]? = some Tryz.f82 := fN Tryz.func82
theorem en83 : Enters PP 83 := eN Tryz.call83
theorem fn83 : PP.funcs[83]? = some Tryz.f83 := fN Tryz.func83
theorem en84 : Enters PP 84 := eN Tryz.call84
theorem fn84 : PP.funcs[84]? = some Tryz.f84 := fN Tryz.func84
theorem en85 : Enters PP 85 := eN Tryz.call85
theorem fn85 : PP.funcs[85]? = some Tryz.f85 := fN Tryz.func85
theorem en86 : Enters PP 86 := eN Tryz.call86
theorem fn86 : PP.funcs[86]? = some Tryz.f86 := fN Tryz.func86
theorem en87 : Enters PP 87 := eN Tryz.call87
theorem fn87 : PP.funcs[87]? = some Tryz.f87 := fN Tryz.func87
theorem en88 : Enters PP 88 := eN Tryz.call88
theorem fn88 : PP.funcs[88]? = some Tryz.f88 := fN Tryz.func88
theorem en89 : Enters PP 89 := eN Tryz.call89
theorem fn89 : PP.funcs[89]? = some Tryz.f89 := fN Tryz.func89
theorem en90 : Enters PP 90 := eN Tryz.call90
theorem fn90 : PP.funcs[90]? = some Tryz.f90 := fN Tryz.func90
theorem en91 : Enters PP 91 := eN Tryz.call91
theorem fn91 : PP.funcs[91]? = some Tryz.f91 := fN Tryz.func91
theorem en93 : Enters PP 93 := eN Tryz.call93
theorem fn93 : PP.funcs[93]? = some Tryz.f93 := fN Tryz.func93
theorem en94 : Enters PP 94 := eN Tryz.call94
theorem fn94 : PP.funcs[94]? = some Tryz.f94 := fN Tryz.func94
theorem en95 : Enters PP 95 := eN Tryz.call95
theorem fn95 : PP.funcs[95]? = some Tryz.f95 := fN Tryz.func95
theorem en96 : Enters PP 96 := eN Tryz.call96
theorem fn96 : PP.funcs[96]? = some Tryz.f96 := fN Tryz.func96
theorem en97 : Enters PP 97 := eN Tryz.call97
theorem fn97 : PP.funcs[97]? = some Tryz.f97 := fN Tryz.func97
theorem en98 : Enters PP 98 := eN Tryz.call98
theorem fn98 : PP.funcs[98]? = some Tryz.f98 := fN Tryz.func98
theorem en99 : Enters PP 99 := eN Tryz.call99
theorem fn99 : PP.funcs[99]? = some Tryz.f99 := fN Tryz.func99
theorem en100 : Enters PP 100 := eN Tryz.call100
theorem fn100 : PP.funcs[100]? = some Tryz.f100 := fN Tryz.func100
theorem en101 : Enters PP 101 := eN Tryz.call101
theorem fn101 : PP.funcs[101]? = some Tryz.f101 := fN Tryz.func101
theorem en102 : Enters PP 102 := eN Tryz.call102
theorem fn102 : PP.funcs[102]? = some Tryz.f102 := fN Tryz.func102
theorem en103 : Enters PP 103 := eN Tryz.call103
theorem fn103 : PP.funcs[103]? = some Tryz.f103 := fN Tryz.func103
theorem en104 : Enters PP 104 := eN Tryz.call104
theorem fn104 : PP.funcs[104]? = some Tryz.f104 := fN Tryz.func104
theorem en105 : Enters PP 105 := eN Tryz.call105
theorem fn105 : PP.funcs[105]? = some Tryz.f105 := fN Tryz.func105
theorem en106 : Enters PP 106 := eN Tryz.call106
theorem fn106 : PP.funcs[106]? = some Tryz.f106 := fN Tryz.func106
theorem en107 : Enters PP 107 := eN Tryz.call107
theorem fn107 : PP.funcs[107]? = some Tryz.f107 := fN Tryz.func107
theorem en108 : Enters PP 108 := eN Tryz.call108
theorem fn108 : PP.funcs[108]? = some Tryz.f108 := fN Tryz.func108
theorem en109 : Enters PP 109 := eN Tryz.call109
theorem fn109 : PP.funcs[109]? = some Tryz.f109 := fN Tryz.func109
theorem en110 : Enters PP 110 := eN Tryz.call110
theorem fn110 : PP.funcs[110]? = some Tryz.f110 := fN Tryz.func110
theorem en111 : Enters PP 111 := eN Tryz.call111
theorem fn111 : PP.funcs[111]? = some Tryz.f111 := fN Tryz.func111
theorem en112 : Enters PP 112 := eN Tryz.call112
theorem fn112 : PP.funcs[112]? = some Tryz.f112 := fN Tryz.func112
theorem en113 : Enters PP 113 := eN Tryz.call113
theorem fn113 : PP.funcs[113]? = some Tryz.f113 := fN Tryz.func113
theorem en114 : Enters PP 114 := eN Tryz.call114
theorem fn114 : PP.funcs[114]? = some Tryz.f114 := fN Tryz.func114
theorem en115 : Enters PP 115 := eN Tryz.call115
theorem fn115 : PP.funcs[115]? = some Tryz.f115 := fN Tryz.func115
theorem en116 : Enters PP 116 := eN Tryz.call116
theorem fn116 : PP.funcs[116]? = some Tryz.f116 := fN Tryz.func116
theorem en117 : Enters PP 117 := eN Tryz.call117
theorem fn117 : PP.funcs[117]? = some Tryz.f117 := fN Tryz.func117
theorem en118 : Enters PP 118 := eN Tryz.call118
theorem fn118 : PP.funcs[118]? = some Tryz.f118 := fN Tryz.func118
theorem en119 : Enters PP 119 := eN Tryz.call119
theorem fn119 : PP.funcs[119]? = some Tryz.f119 := fN Tryz.func119
theorem en120 : Enters PP 120 := eN Tryz.call120
theorem fn120 : PP.funcs[120]? = some Tryz.f120 := fN Tryz.func120
theorem en121 : Enters PP 121 := eN Tryz.call121
theorem fn121 : PP.funcs[121]? = some Tryz.f121 := fN Tryz.func121
theorem en122 : Enters PP 122 := eN Tryz.call122
theorem fn122 : PP.funcs[122]? = some Tryz.f122 := fN Tryz.func122
theorem en123 : Enters PP 123 := eN Tryz.call123
theorem fn123 : PP.funcs[123]? = some Tryz.f123 := fN Tryz.func123
theorem en124 : Enters PP 124 := eN Tryz.call124
theorem fn124 : PP.funcs[124]? = some Tryz.f124 := fN Tryz.func124
theorem en125 : Enters PP 125 := eN Tryz.call125
theorem fn125 : PP.funcs[125]? = some Tryz.f125 := fN Tryz.func125
theorem en126 : Enters PP 126 := eN Tryz.call126
theorem fn126 : PP.funcs[126]? = some Tryz.f126 := fN Tryz.func126
theorem en127 : Enters PP 127 := eN Tryz.call127
theorem fn127 : PP.funcs[127]? = some Tryz.f127 := fN Tryz.func127
theorem en128 : Enters PP 128 := eN Tryz.call128
theorem fn128 : PP.funcs[128]? = some Tryz.f128 := fN Tryz.func128
theorem en129 : Enters PP 129 := eN Tryz.call129
theorem fn129 : PP.funcs[129]? = some Tryz.f129 := fN Tryz.func129
theorem en130 : Enters PP 130 := eN Tryz.call130
theorem fn130 : PP.funcs[130]? = some Tryz.f130 := fN Tryz.func130
theorem en131 : Enters PP 131 := eN Tryz.call131
theorem fn131 : PP.funcs[131]? = some Tryz.f131 := fN Tryz.func131
theorem en132 : Enters PP 132 := eN Tryz.call132
theorem fn132 : PP.funcs[132]? = some Tryz.f132 := fN Tryz.func132
theorem en133 : Enters PP 133 := eN Tryz.call133
theorem fn133 : PP.funcs[133]? = some Tryz.f133 := fN Tryz.func133
theorem en134 : Enters PP 134 := eN Tryz.call134
theorem fn134 : PP.funcs[134]? = some Tryz.f134 := fN Tryz.func134
theorem en135 : Enters PP 135 := eN Tryz.call135
theorem fn135 : PP.funcs[135]? = some Tryz.f135 := fN Tryz.func135
theorem en136 : Enters PP 136 := eN Tryz.call136
theorem fn136 : PP.funcs[136]? = some Tryz.f136 := fN Tryz.func136
theorem en137 : Enters PP 137 := eN Tryz.call137
theorem fn137 : PP.funcs[137]? = some Tryz.f137 := fN Tryz.func137
theorem en138 : Enters PP 138 := eN Tryz.call138
theorem fn138 : PP.funcs[138]? = some Tryz.f138 := fN Tryz.func138
theorem en139 : Enters PP 139 := eN Tryz.call139
theorem fn139 : PP.funcs[139]? = some Tryz.f139 := fN Tryz.func139
theorem en140 : Enters PP 140 := eN Tryz.call140
theorem fn140 : PP.funcs[140]? = some Tryz.f140 := fN Tryz.func140
theorem en141 : Enters PP 141 := eN Tryz.call141
theorem fn141 : PP.funcs[141]? = some Tryz.f141 := fN Tryz.func141
theorem en142 : Enters PP 142 := eN Tryz.call142
theorem fn142 : PP.funcs[142]? = some Tryz.f142 := fN Tryz.func142
theorem en143 : Enters PP 143 := eN Tryz.call143
theorem fn143 : PP.funcs[143]? = some Tryz.f143 := fN Tryz.func143
theorem en144 : Enters PP 144 := eN Tryz.call144
theorem fn144 : PP.funcs[144]? = some Tryz.f144 := fN Tryz.func144
theorem en145 : Enters PP 145 := eN Tryz.call145
theorem fn145 : PP.funcs[145]? = some Tryz.f145 := fN Tryz.func145
theorem en146 : Enters PP 146 := eN Tryz.call146
theorem fn146 : PP.funcs[146]? = some Tryz.f146 := fN Tryz.func146
theorem en147 : Enters PP 147 := eN Tryz.call147
theorem fn147 : PP.funcs[147]? = some Tryz.f147 := fN Tryz.func147
theorem en148 : Enters PP 148 := eN Tryz.call148
theorem fn148 : PP.funcs[148]? = some Tryz.f148 := fN Tryz.func148
theorem en149 : Enters PP 149 := eN Tryz.call149
theorem fn149 : PP.funcs[149]? = some Tryz.f149 := fN Tryz.func149
theorem en150 : Enters PP 150 := eN Tryz.call150
theorem fn150 : PP.funcs[150]? = some Tryz.f150 := fN Tryz.func150
theorem en151 : Enters PP 151 := eN Tryz.call151
theorem fn151 : PP.funcs[151]? = some Tryz.f151 := fN Tryz.func151
theorem en152 : Enters PP 152 := eN Tryz.call152
theorem fn152 : PP.funcs[152]? = some Tryz.f152 := fN Tryz.func152
theorem en153 : Enters PP 153 := eN Tryz.call153
theorem fn153 : PP.funcs[153]? = some Tryz.f153 := fN Tryz.func153
theorem en154 : Enters PP 154 := eN Tryz.call154
theorem fn154 : PP.funcs[154]? = some Tryz.f154 := fN Tryz.func154
theorem en155 : Enters PP 155 := eN Tryz.call155
theorem fn155 : PP.funcs[155]? = some Tryz.f155 := fN Tryz.func155
theorem en156 : Enters PP 156 := eN Tryz.call156
theorem fn156 : PP.funcs[156]? = some Tryz.f156 := fN Tryz.func156
theorem en157 : Enters PP 157 := eN Tryz.call157
theorem fn157 : PP.funcs[157]? = some Tryz.f157 := fN Tryz.func157
theorem en158 : Enters PP 158 := eN Tryz.call158
theorem fn158 : PP.funcs[158]? = some Tryz.f158 := fN Tryz.func158
theorem en159 : Enters PP 159 := eN Tryz.call159
theorem fn159 : PP.funcs[159]? = some Tryz.f159 := fN Tryz.func159
theorem en160 : Enters PP 160 := eN Tryz.call160
theorem fn160 : PP.funcs[160]? = some Tryz.f160 := fN Tryz.func160
theorem en161 : Enters PP 161 := eN Tryz.call161
theorem fn161 : PP.funcs[161]? = some Tryz.f161 := fN Tryz.func161
theorem en162 : Enters PP 162 := eN Tryz.call162
theorem fn162 : PP.funcs[162]? = some Tryz.f162 := fN Tryz.func162
theorem en163 : Enters PP 163 := eN Tryz.call163
theorem fn163 : PP.funcs[163]? = some Tryz.f163 := fN Tryz.func163
theorem en164 : Enters PP 164 := eN Tryz.call164
theorem fn164 : PP.funcs[164]? = some Tryz.f164 := fN Tryz.func164
theorem en165 : Enters PP 165 := eN Tryz.call165
theorem fn165 : PP.funcs[165]? = some Tryz.f165 := fN Tryz.func165
theorem en166 : Enters PP 166 := eN Tryz.call166
theorem fn166 : PP.funcs[166]? = some Tryz.f166 := fN Tryz.func166
theorem en167 : Enters PP 167 := eN Tryz.call167
theorem fn167 : PP.funcs[167]? = some Tryz.f167 := fN Tryz.func167
theorem en168 : Enters PP 168 := eN Tryz.call168
theorem fn168 : PP.funcs[168]? = some Tryz.f168 := fN Tryz.func168
theorem en169 : Enters PP 169 := eN Tryz.call169
theorem fn169 : PP.funcs[169]? = some Tryz.f169 := fN Tryz.func169
theorem en170 : Enters PP 170 := eN Tryz.call170
theorem fn170 : PP.funcs[170]? = some Tryz.f170 := fN Tryz.func170
theorem en171 : Enters PP 171 := eN Tryz.call171
theorem fn171 : PP.funcs[171]? = some Tryz.f171 := fN Tryz.func171
theorem en172 : Enters PP 172 := eN Tryz.call172
theorem fn172 : PP.funcs[172]? = some Tryz.f172 := fN Tryz.func172
theorem en173 : Enters PP 173 := eN Tryz.call173
theorem fn173 : PP.funcs[173]? = some Tryz.f173 := fN Tryz.func173
theorem en174 : Enters PP 174 := eN Tryz.call174
theorem fn174 : PP.funcs[174]? = some Tryz.f174 := fN Tryz.func174
theorem en175 : Enters PP 175 := eN Tryz.call175
theorem fn175 : PP.funcs[175]? = some Tryz.f175 := fN Tryz.func175
theorem en176 : Enters PP 176 := eN Tryz.call176
theorem fn176 : PP.funcs[176]? = some Tryz.f176 := fN Tryz.func176
theorem en177 : Enters PP 177 := eN Tryz.call177
theorem fn177 : PP.funcs[177]? = some Tryz.f177 := fN Tryz.func177
theorem en178 : Enters PP 178 := eN Tryz.call178
theorem fn178 : PP.funcs[178]? = some Tryz.f178 := fN Tryz.func178
theorem en179 : Enters PP 179 := eN Tryz.call179
theorem fn179 : PP.funcs[179]? = some Tryz.f179 := fN Tryz.func179
theorem en180 : Enters PP 180 := eN Tryz.call180
theorem fn180 : PP.funcs[180]? = some Tryz.f180 := fN Tryz.func180
theorem en181 : Enters PP 181 := eN Tryz.call181
theorem fn181 : PP.funcs[181]? = some Tryz.f181 := fN Tryz.func181
theorem en182 : Enters PP 182 := eN Tryz.call182
theorem fn182 : PP.funcs[182]? = some Tryz.f182 := fN Tryz.func182
theorem en183 : Enters PP 183 := eN Tryz.call183
theorem fn183 : PP.funcs[183]? = some Tryz.f183 := fN Tryz.func183
theorem en184 : Enters PP 184 := eN Tryz.call184
theorem fn184 : PP.funcs[184]? = some Tryz.f184 := fN Tryz.func184
theorem en185 : Enters PP 185 := eN Tryz.call185
theorem fn185 : PP.funcs[185]? = some Tryz.f185 := fN Tryz.func185
theorem en186 : Enters PP 186 := eN Tryz.call186
theorem fn186 : PP.funcs[186]? = some Tryz.f186 := fN Tryz.func186
theorem en187 : Enters PP 187 := eN Tryz.call187
theorem fn187 : PP.funcs[187]? = some Tryz.f187 := fN Tryz.func187
theorem en188 : Enters PP 188 := eN Tryz.call188
theorem fn188 : PP.funcs[188]? = some Tryz.f188 := fN Tryz.func188
theorem en189 : Enters PP 189 := eN Tryz.call189
theorem fn189 : PP.funcs[189]? = some Tryz.f189 := fN Tryz.func189
theorem en190 : Enters PP 190 := eN Tryz.call190
theorem fn190 : PP.funcs[190]? = some Tryz.f190 := fN Tryz.func190
theorem en191 : Enters PP 191 := eN Tryz.call191
theorem fn191 : PP.funcs[191]? = some Tryz.f191 := fN Tryz.func191
theorem en192 : Enters PP 192 := eN Tryz.call192
theorem fn192 : PP.funcs[192]? = some Tryz.f192 := fN Tryz.func192
theorem en193 : Enters PP 193 := eN Tryz.call193
theorem fn193 : PP.funcs[193]? = some Tryz.f193 := fN Tryz.func193
theorem en194 : Enters PP 194 := eN Tryz.call194
theorem fn194 : PP.funcs[194]? = some Tryz.f194 := fN Tryz.func194
theorem en195 : Enters PP 195 := eN Tryz.call195
theorem fn195 : PP.funcs[195]? = some Tryz.f195 := fN Tryz.func195
theorem en196 : Enters PP 196 := eN Tryz.call196
theorem fn196 : PP.funcs[196]? = some Tryz.f196 := fN Tryz.func196
theorem en197 : Enters PP 197 := eN Tryz.call197
theorem fn197 : PP.funcs[197]? = some Tryz.f197 := fN Tryz.func197
theorem en198 : Enters PP 198 := eN Tryz.call198
theorem fn198 : PP.funcs[198]? = some Tryz.f198 := fN Tryz.func198
theorem en199 : Enters PP 199 := eN Tryz.call199
theorem fn199 : PP.funcs[199]? = some Tryz.f199 := fN Tryz.func199
theorem en200 : Enters PP 200 := eN Tryz.call200
theorem fn200 : PP.funcs[200]? = some Tryz.f200 := fN Tryz.func200
theorem en201 : Enters PP 201 := eN Tryz.call201
theorem fn201 : PP.funcs[201]? = some Tryz.f201 := fN Tryz.func201
theorem en202 : Enters PP 202 := eN Tryz.call202
theorem fn202 : PP.funcs[202]? = some Tryz.f202 := fN Tryz.func202
theorem en203 : Enters PP 203 := eN Tryz.call203
theorem fn203 : PP.funcs[203]? = some Tryz.f203 := fN Tryz.func203
theorem en204 : Enters PP 204 := eN Tryz.call204
theorem fn204 : PP.funcs[204]? = some Tryz.f204 := fN Tryz.func204
theorem en205 : Enters PP 205 := eN Tryz.call205
theorem fn205 : PP.funcs[205]? = some Tryz.f205 := fN Tryz.func205
theorem en206 : Enters PP 206 := eN Tryz.call206
theorem fn206 : PP.funcs[206]? = some Tryz.f206 := fN Tryz.func206
theorem en207 : Enters PP 207 := eN Tryz.call207
theorem fn207 : PP.funcs[207]? = some Tryz.f207 := fN Tryz.func207
theorem en208 : Enters PP 208 := eN Tryz.call208
theorem fn208 : PP.funcs[208]? = some Tryz.f208 := fN Tryz.func208
theorem en209 : Enters PP 209 := eN Tryz.call209
theorem fn209 : PP.funcs[209]? = some Tryz.f209 := fN Tryz.func209
theorem en210 : Enters PP 210 := eN Tryz.call210
theorem fn210 : PP.funcs[210]? = some Tryz.f210 := fN Tryz.func210
theorem en211 : Enters PP 211 := eN Tryz.call211
theorem fn211 : PP.funcs[211]? = some Tryz.f211 := fN Tryz.func211
theorem en212 : Enters PP 212 := eN Tryz.call212
theorem fn212 : PP.funcs[212]? = some Tryz.f212 := fN Tryz.func212
theorem en213 : Enters PP 213 := eN Tryz.call213
theorem fn213 : PP.funcs[213]? = some Tryz.f213 := fN Tryz.func213
theorem en214 : Enters PP 214 := eN Tryz.call214
theorem fn214 : PP.funcs[214]? = some Tryz.f214 := fN Tryz.func214
theorem en215 : Enters PP 215 := eN Tryz.call215
theorem fn215 : PP.funcs[215]? = some Tryz.f215 := fN Tryz.func215
theorem en216 : Enters PP 216 := eN Tryz.call216
theorem fn216 : PP.funcs[216]? = some Tryz.f216 := fN Tryz.func216
theorem en217 : Enters PP 217 := eN Tryz.call217
theorem fn217 : PP.funcs[217]? = some Tryz.f217 := fN Tryz.func217
theorem en218 : Enters PP 218 := eN Tryz.call218
theorem fn218 : PP.funcs[218]? = some Tryz.f218 := fN Tryz.func218
theorem en219 : Enters PP 219 := eN Tryz.call219
theorem fn219 : PP.funcs[219]? = some Tryz.f219 := fN Tryz.func219
theorem en220 : Enters PP 220 := eN Tryz.call220
theorem fn220 : PP.funcs[220]? = some Tryz.f220 := fN Tryz.func220
theorem en221 : Enters PP 221 := eN Tryz.call221
theorem fn221 : PP.funcs[221]? = some Tryz.f221 := fN Tryz.func221
theorem en222 : Enters PP 222 := eN Tryz.call222
theorem fn222 : PP.funcs[222]? = some Tryz.f222 := fN Tryz.func222
theorem en223 : Enters PP 223 := eN Tryz.call223
theorem fn223 : PP.funcs[223]? = some Tryz.f223 := fN Tryz.func223
theorem en224 : Enters PP 224 := eN Tryz.call224
theorem fn224 : PP.funcs[224]? = some Tryz.f224 := fN Tryz.func224
theorem en225 : Enters PP 225 := eN Tryz.call225
theorem fn225 : PP.funcs[225]? = some Tryz.f225 := fN Tryz.func225
theorem en226 : Enters PP 226 := eN Tryz.call226
theorem fn226 : PP.funcs[226]? = some Tryz.f226 := fN Tryz.func226
theorem en227 : Enters PP 227 := eN Tryz.call227
theorem fn227 : PP.funcs[227]? = some Tryz.f227 := fN Tryz.func227
theorem en228 : Enters PP 228 := eN Tryz.call228
theorem fn228 : PP.funcs[228]? = some Tryz.f228 := fN Tryz.func228
theorem en229 : Enters PP 229 := eN Tryz.call229
theorem fn229 : PP.funcs[229]? = some Tryz.f229 := fN Tryz.func229
theorem en230 : Enters PP 230 := eN Tryz.call230
theorem fn230 : PP.funcs[230]? = some Tryz.f230 := fN Tryz.func230
theorem en231 : Enters PP 231 := eN Tryz.call231
theorem fn231 : PP.funcs[231]? = some Tryz.f231 := fN Tryz.func231
theorem en232 : Enters PP 232 := eN Tryz.call232
theorem fn232 : PP.funcs[232]? = some Tryz.f232 := fN Tryz.func232
theorem en233 : Enters PP 233 := eN Tryz.call233
theorem fn233 : PP.funcs[233]? = some Tryz.f233 := fN Tryz.func233
theorem en234 : Enters PP 234 := eN Tryz.call234
theorem fn234 : PP.funcs[234]? = some Tryz.f234 := fN Tryz.func234
theorem en235 : Enters PP 235 := eN Tryz.call235
theorem fn235 : PP.funcs[235]? = some Tryz.f235 := fN Tryz.func235
theorem en236 : Enters PP 236 := eN Tryz.call236
theorem fn236 : PP.funcs[236]? = some Tryz.f236 := fN Tryz.func236
theorem en237 : Enters PP 237 := eN Tryz.call237
theorem fn237 : PP.funcs[237]? = some Tryz.f237 := fN Tryz.func237
theorem en238 : Enters PP 238 := eN Tryz.call238
theorem fn238 : PP.funcs[238]? = some Tryz.f238 := fN Tryz.func238
theorem en239 : Enters PP 239 := eN Tryz.call239
theorem fn239 : PP.funcs[239]? = some Tryz.f239 := fN Tryz.func239
theorem en240 : Enters PP 240 := eN Tryz.call240
theorem fn240 : PP.funcs[240]? = some Tryz.f240 := fN Tryz.func240
theorem en241 : Enters PP 241 := eN Tryz.call241
theorem fn241 : PP.funcs[241]? = some Tryz.f241 := fN Tryz.func241
theorem en242 : Enters PP 242 := eN Tryz.call242
theorem fn242 : PP.funcs[242]? = some Tryz.f242 := fN Tryz.func242
theorem en243 : Enters PP 243 := eN Tryz.call243
theorem fn243 : PP.funcs[243]? = some Tryz.f243 := fN Tryz.func243
theorem en244 : Enters PP 244 := eN Tryz.call244
theorem fn244 : PP.funcs[244]? = some Tryz.f244 := fN Tryz.func244
theorem en245 : Enters PP 245 := eN Tryz.call245
theorem fn245 : PP.funcs[245]? = some Tryz.f245 := fN Tryz.func245
theorem en246 : Enters PP 246 := eN Tryz.call246
theorem fn246 : PP.funcs[246]? = some Tryz.f246 := fN Tryz.func246
theorem en247 : Enters PP 247 := eN Tryz.call247
theorem fn247 : PP.funcs[247]? = some Tryz.f247 := fN Tryz.func247
theorem en248 : Enters PP 248 := eN Tryz.call248
theorem fn248 : PP.funcs[248]? = some Tryz.f248 := fN Tryz.func248
theorem en249 : Enters PP 249 := eN Tryz.call249
theorem fn249 : PP.funcs[249]? = some Tryz.f249 := fN Tryz.func249
theorem en250 : Enters PP 250 := eN Tryz.call250
theorem fn250 : PP.funcs[250]? = some Tryz.f250 := fN Tryz.func250
theorem en251 : Enters PP 251 := eN Tryz.call251
theorem fn251 : PP.funcs[251]? = some Tryz.f251 := fN Tryz.func251
theorem en252 : Enters PP 252 := eN Tryz.call252
theorem fn252 : PP.funcs[252]? = some Tryz.f252 := fN Tryz.func252
theorem en253 : Enters PP 253 := eN Tryz.call253
theorem fn253 : PP.funcs[253]? = some Tryz.f253 := fN Tryz.func253
theorem en254 : Enters PP 254 := eN Tryz.call254
theorem fn254 : PP.funcs[254]? = some Tryz.f254 := fN Tryz.func254
theorem en255 : Enters PP 255 := eN Tryz.call255
theorem fn255 : PP.funcs[255]? = some Tryz.f255 := fN Tryz.func255
theorem en256 : Enters PP 256 := eN Tryz.call256
theorem fn256 : PP.funcs[256]? = some Tryz.f256 := fN Tryz.func256
theorem en257 : Enters PP 257 := eN Tryz.call257
theorem fn257 : PP.funcs[257]? = some Tryz.f257 := fN Tryz.func257
theorem en258 : Enters PP 258 := eN Tryz.call258
theorem fn258 : PP.funcs[258]? = some Tryz.f258 := fN Tryz.func258
theorem en259 : Enters PP 259 := eN Tryz.call259
theorem fn259 : PP.funcs[259]? = some Tryz.f259 := fN Tryz.func259
theorem en260 : Enters PP 260 := eN Tryz.call260
theorem fn260 : PP.funcs[260]? = some Tryz.f260 := fN Tryz.func260
theorem en261 : Enters PP 261 := eN Tryz.call261
theorem fn261 : PP.funcs[261]? = some Tryz.f261 := fN Tryz.func261
theorem en262 : Enters PP 262 := eN Tryz.call262
theorem fn262 : PP.funcs[262]? = some Tryz.f262 := fN Tryz.func262
theorem en263 : Enters PP 263 := eN Tryz.call263
theorem fn263 : PP.funcs[263]? = some Tryz.f263 := fN Tryz.func263
theorem en264 : Enters PP 264 := eN Tryz.call264
theorem fn264 : PP.funcs[264]? = some Tryz.f264 := fN Tryz.func264
theorem en265 : Enters PP 265 := eN Tryz.call265
theorem fn265 : PP.funcs[265]? = some Tryz.f265 := fN Tryz.func265
theorem en266 : Enters PP 266 := eN Tryz.call266
theorem fn266 : PP.funcs[266]? = some Tryz.f266 := fN Tryz.func266
theorem en267 : Enters PP 267 := eN Tryz.call267
theorem fn267 : PP.funcs[267]? = some Tryz.f267 := fN Tryz.func267
theorem en268 : Enters PP 268 := eN Tryz.call268
theorem fn268 : PP.funcs[268]? = some Tryz.f268 := fN Tryz.func268
theorem en269 : Enters PP 269 := eN Tryz.call269
theorem fn269 : PP.funcs[269]? = some Tryz.f269 := fN Tryz.func269
theorem en270 : Enters PP 270 := eN Tryz.call270
theorem fn270 : PP.funcs[270]? = some Tryz.f270 := fN Tryz.func270
theorem en271 : Enters PP 271 := eN Tryz.call271
theorem fn271 : PP.funcs[271]? = some Tryz.f271 := fN Tryz.func271
theorem en272 : Enters PP 272 := eN Tryz.call272
theorem fn272 : PP.funcs[272]? = some Tryz.f272 := fN Tryz.func272
theorem en273 : Enters PP 273 := eN Tryz.call273
theorem fn273 : PP.funcs[273]? = some Tryz.f273 := fN Tryz.func273
theorem en274 : Enters PP 274 := eN Tryz.call274
theorem fn274 : PP.funcs[274]? = some Tryz.f274 := fN Tryz.func274
theorem en275 : Enters PP 275 := eN Tryz.call275
theorem fn275 : PP.funcs[275]? = some Tryz.f275 := fN Tryz.func275
theorem en276 : Enters PP 276 := eN Tryz.call276
theorem fn276 : PP.funcs[276]? = some Tryz.f276 := fN Tryz.func276
theorem en277 : Enters PP 277 := eN Tryz.call277
theorem fn277 : PP.funcs[277]? = some Tryz.f277 := fN Tryz.func277
theorem en278 : Enters PP 278 := eN Tryz.call278
theorem fn278 : PP.funcs[278]? = some Tryz.f278 := fN Tryz.func278
theorem en279 : Enters PP 279 := eN Tryz.call279
theorem fn279 : PP.funcs[279]? = some Tryz.f279 := fN Tryz.func279
theorem en280 : Enters PP 280 := eN Tryz.call280
theorem fn280 : PP.funcs[280]? = some Tryz.f280 := fN Tryz.func280
theorem en281 : Enters PP 281 := eN Tryz.call281
theorem fn281 : PP.funcs[281]? = some Tryz.f281 := fN Tryz.func281
theorem en282 : Enters PP 282 := eN Tryz.call282
theorem fn282 : PP.funcs[282]? = some Tryz.f282 := fN Tryz.func282
theorem en283 : Enters PP 283 := eN Tryz.call283
theorem fn283 : PP.funcs[283]? = some Tryz.f283 := fN Tryz.func283
theorem en284 : Enters PP 284 := eN Tryz.call284
theorem fn284 : PP.funcs[284]? = some Tryz.f284 := fN Tryz.func284
theorem en285 : Enters PP 285 := eN Tryz.call285
theorem fn285 : PP.funcs[285]? = some Tryz.f285 := fN Tryz.func285
theorem en302 : Enters PP 302 := eN Tryz.call302
theorem fn302 : PP.funcs[302]? = some Tryz.f302 := fN Tryz.func302
theorem en303 : Enters PP 303 := eN Tryz.call303
theorem fn303 : PP.funcs[303]? = some Tryz.f303 := fN Tryz.func303
theorem en304 : Enters PP 304 := eN Tryz.call304
theorem fn304 : PP.funcs[304]? = some Tryz.f304 := fN Tryz.func304
section
variable {w0 : World} {n : Nat} {sh : Shared} {Q : Exit → Env → List Deferred → List Asn → Prop} {k k' : List Item} {ρ : Env} {df : List Deferred} {Γ : List Asn} {ops : Array Oper}
theorem zyx (h : Run PP w0 n sh Q k' ρ df Γ) (f : Run PP w0 n sh Q k' ρ df Γ → Run PP w0 n sh Q k ρ df Γ := by intro h; (repeat (first|refine zck ?_|refine zcl ?_|refine zcm ?_|refine zcn ?_)); exact h) : Run PP w0 n sh Q k ρ df Γ := f h
theorem zyn (h : Run PP w0 n sh Q k' ρ df Γ) (f : Run PP w0 n sh Q k' ρ df Γ → Run PP w0 n sh Q k ρ df Γ := by intro h; (repeat (first|refine zck ?_|refine zcl ?_|refine zcm ?_|refine zcn ?_)); exact h) (hk : notMark k = true := by exact rfl) : Reg PP w0 n sh Q ops [] k ρ df Γ := zch (f h) hk
def flR : Bool → List Oper → List Fl
 | true, l => autoFl l
 | false, _ => []
def okR (n : Nat) : Bool → List Oper → Bool
 | true, l => dstOk n l.toArray && okDraw l.toArray (mkl (autoFl l) 0 l)
 | false, l => dstOk n l.toArray
theorem run_regionA {id : Nat} {l : List Oper} : ∀ {b : Bool} (_ : okR n b l = true) (_ : Reg PP w0 n sh Q l.toArray (mkl (flR b l) 0 l) k ρ df Γ), Run PP w0 n sh Q (.code (.region id l.toArray b) :: k) ρ df Γ
 | true, ok, h => zcq PP_mixed (Bool.and_eq_true_iff.1 ok).1 (Bool.and_eq_true_iff.1 ok).2 h
 | false, ok, h => zcp ok h
theorem zyq {id : Nat} {l : List Oper} {b : Bool} (h : Reg PP w0 n sh Q l.toArray (mkl (flR b l) 0 l) k ρ df Γ) (ok : okR n b l = true := by kernel_rfl) : Run PP w0 n sh Q (.code (.region id l.toArray b) :: k) ρ df Γ := run_regionA ok h
theorem zyr {id : Nat} {l : List Oper} {b : Bool} (h : Reg PP w0 n sh Q l.toArray (mkl (flR b l) 0 l) k' ρ df Γ)
   (f : Run PP w0 n sh Q (.code (.region id l.toArray b) :: k') ρ df Γ → Run PP w0 n sh Q k ρ df Γ := by intro h; (repeat (first|refine zck ?_|refine zcl ?_|refine zcm ?_|refine zcn ?_)); exact h)
   (ok : okR n b l = true := by kernel_rfl) : Run PP w0 n sh Q k ρ df Γ := f (run_regionA ok h)
theorem zyt {q : Nat × Obj} {bb : Nat} {o : Option Obj} (e : ∀ (hF : Heap) (Γ : List Asn) (w : World), Sh sh hF → St w0 hF Γ w → w.heap[bb]? = o) : ∀ (hF : Heap) (Γ : List Asn) (w : World), Sh (q :: sh) hF → St w0 hF Γ w → w.heap[bb]? = o := fun hF Γ w h1 h2 => e hF Γ w (fun p hp => h1 p (.tail _ hp)) h2
variable {L l : List (Fl × Nat × Oper)} {b : Fl} {i d : Nat} {ty : TypeId} {pos : String} {aft : Array Edge} {op : Op} {v : Value}
theorem zp (h : Reg PP w0 n sh Q ops l k (ρ.set d v) df Γ) (hl : L = (b, i, ⟨some d, op, ty, pos, aft, none⟩) :: l := by exact rfl) (hv : pureV ρ op = some v := by exact rfl) : Reg PP w0 n sh Q ops L k ρ df Γ := zap hl (zan hv h)
theorem zyl (j : Nat) {agg : Bool} {m bb off : Nat} {cs : List Value} {T t : TypeId} {fr : Nat × Nat} {x : Operand} (hl : L = (b, i, ⟨some d, .load t x, ty, pos, aft, none⟩) :: l) [hT : TShape PP t agg m] (h : Reg PP w0 n sh Q ops l k (ρ.set d v) df Γ)
   (hx : ev ρ x = .pointer (some ⟨bb, off, none⟩) := by exact rfl) (hm : getAt j sh = some (bb, .cells (List.toArray cs) T fr) := by exact rfl) (hr : rd agg m cs off = some v := by exact rfl) : Reg PP w0 n sh Q ops L k ρ df Γ := zap hl (zaa j hx hm hr h)
theorem zyf {f off' bb off : Nat} {t : TypeId} {x : Operand} (hl : L = (b, i, ⟨some d, .fieldAddr t x f, ty, pos, aft, none⟩) :: l) [hT : TField PP t f off'] (h : Reg PP w0 n sh Q ops l k (ρ.set d (.pointer (some ⟨bb, off + off', none⟩))) df Γ)
   (hx : ev ρ x = .pointer (some ⟨bb, off, none⟩) := by exact rfl) : Reg PP w0 n sh Q ops L k ρ df Γ := zap hl (zao hx h)
end
end Go.Proofs.YtgdhcgnmffgkiaaGreatDoor
